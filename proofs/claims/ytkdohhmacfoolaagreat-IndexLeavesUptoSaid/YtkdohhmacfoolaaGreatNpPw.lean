/- Facts. No condition. -/
import Derived.Test.YtkdohhmacfoolaaGreatNpPl
set_option linter.unusedSimpArgs false
set_option linter.unusedVariables false
namespace Go.Pt
abbrev E:=Int×Int
inductive dW(l:List E):Int→Int→Prop where
  |refl (x:Int):dW l x x
  |fwd {x y z:Int} (e:(x,y)∈l) (h:dW l y z):dW l x z
  |bwd {x y z:Int} (e:(y,x)∈l) (h:dW l y z):dW l x z
variable {l l':List E}
theorem dW.trans{x y z:Int}(h:dW l x y)(k:dW l y z):dW l x z:=by
 induction h with
 |refl x=>exact k
 |fwd e _ ih=>exact .fwd e (ih k)
 |bwd e _ ih=>exact .bwd e (ih k)
theorem dW.one{x y:Int}(e:(x,y)∈l):dW l x y:= .fwd e (.refl _)
theorem dW.eno{x y:Int}(e:(x,y)∈l):dW l y x:= .bwd e (.refl _)
theorem dW.symm{x y:Int}(h:dW l x y):dW l y x:=by
 induction h with
 |refl x=>exact .refl x
 |fwd e _ ih=>exact ih.trans (.eno e)
 |bwd e _ ih=>exact ih.trans (.one e)
theorem dW.mono(hl: ∀e,e∈l→e∈l'){x y:Int}(h:dW l x y):dW l' x y:=by
 induction h with
 |refl x=>exact .refl x
 |fwd e _ ih=>exact .fwd (hl _ e) ih
 |bwd e _ ih=>exact .bwd (hl _ e) ih
theorem dW.bind(hl: ∀a b,(a,b)∈l→dW l' a b){x y:Int}(h:dW l x y):dW l' x y:=by
 induction h with
 |refl x=>exact .refl x
 |fwd e _ ih=>exact (hl _ _ e).trans ih
 |bwd e _ ih=>exact (hl _ _ e).symm.trans ih
theorem dW.nil{x y:Int}(h:dW [] x y):x=y:=by
 cases h with
 |refl=>rfl
 |fwd e _=>cases e
 |bwd e _=>cases e
theorem dW.cons_iff{e:E}{x y:Int} :dW (e::l) x y↔dW l x y∨(dW l x e.1∧dW l e.2 y)∨(dW l x e.2∧dW l e.1 y):=by
 constructor
 ·
  intro h
  induction h with
  |refl x=>exact .inl (.refl x)
  | @fwd a b c hm _ ih=>
   rcases List.mem_cons.1 hm with h|h
   ·
    subst h;rcases ih with ih|⟨i1,i2⟩|⟨i1,i2⟩
    · exact .inr (.inl ⟨.refl _,ih⟩)
    · exact .inr (.inl ⟨.refl _,i2⟩)
    · exact .inl i2
   ·
    rcases ih with ih|⟨i1,i2⟩|⟨i1,i2⟩
    · exact .inl (.fwd h ih)
    · exact .inr (.inl ⟨.fwd h i1,i2⟩)
    · exact .inr (.inr ⟨.fwd h i1,i2⟩)
  | @bwd a b c hm _ ih=>
   rcases List.mem_cons.1 hm with h|h
   ·
    subst h;rcases ih with ih|⟨i1,i2⟩|⟨i1,i2⟩
    · exact .inr (.inr ⟨.refl _,ih⟩)
    · exact .inl i2
    · exact .inr (.inr ⟨.refl _,i2⟩)
   ·
    rcases ih with ih|⟨i1,i2⟩|⟨i1,i2⟩
    · exact .inl (.bwd h ih)
    · exact .inr (.inl ⟨.bwd h i1,i2⟩)
    · exact .inr (.inr ⟨.bwd h i1,i2⟩)
 ·
  have m: ∀ {a b:Int},dW l a b→dW (e::l) a b:=fun h=>h.mono fun _ h=>List.mem_cons_of_mem _ h;have h1:dW (e::l) e.1 e.2:= .one (by simp);rintro (h|⟨h,k⟩|⟨h,k⟩)
  · exact m h
  · exact (m h).trans (h1.trans (m k))
  · exact (m h).trans (h1.symm.trans (m k))
theorem dW.range{n:Int}(hr: ∀e,e∈l→0≤e.1∧e.1<n∧0≤e.2∧e.2<n){x y:Int}(h:dW l x y)(hx:0≤x∧x<n):0≤y∧y<n:=by
 induction h with
 |refl x=>exact hx
 |fwd e _ ih=>have:=hr _ e;exact ih ⟨this.2.2.1,this.2.2.2⟩
 |bwd e _ ih=>have:=hr _ e;exact ih ⟨this.1,this.2.1⟩
def aCp(p:Int→Int)(u v:Int):Int→Int:=fun x=>if p x=max (p u) (p v) then min (p u) (p v) else p x
def nC(l:List E):Int→Int:=l.foldl (fun p e=>aCp p e.1 e.2) id
structure IsP(l:List E)(p:Int→Int):Prop where
  le: ∀x,p x≤x
  idem: ∀x,p (p x)=p x
  iff: ∀x y,p x=p y↔dW l x y
theorem IsP.nil:IsP [] id:=⟨fun _=>Int.le_refl _,fun _=>rfl,fun _ _=>⟨fun h=>by cases h;exact .refl _,fun h=>h.nil⟩⟩
theorem IsP.join{p:Int→Int}(h:IsP l p)(e:E):IsP (e::l) (aCp p e.1 e.2):=by
 have hmx:=Int.max_def (p e.1) (p e.2);have hmn:=Int.min_def (p e.1) (p e.2);refine ⟨fun x=>?_,fun x=>?_,fun x y=>?_⟩
 · have:=h.le x;unfold aCp;split<;>omega
 ·
  have i1:=h.idem x;have i2:=h.idem e.1;have i3:=h.idem e.2;unfold aCp
  by_cases c:p x=max (p e.1) (p e.2)
  ·
   simp only [c,if_true]
   have:p (min (p e.1) (p e.2))=min (p e.1) (p e.2):=by
    rcases Int.le_total (p e.1) (p e.2) with q|q
    · rw [Int.min_eq_left q,i2]
    · rw [Int.min_eq_right q,i3]
   rw [this];split<;>rfl
  · simp only [c,if_false];rw [i1,if_neg c]
 · rw [dW.cons_iff,←h.iff,←h.iff,←h.iff,←h.iff,←h.iff];unfold aCp;split<;>split<;>omega
theorem aSp(l:List E)(e:E):nC (l++[e])=aCp (nC l) e.1 e.2:=by simp [nC]
theorem IsP.congr{p:Int→Int}(h:IsP l p)(hc: ∀x y,dW l x y↔dW l' x y):IsP l' p:=⟨h.le,h.idem,fun x y=>(h.iff x y).trans (hc x y)⟩
theorem vR(h: ∀e,e∈l↔e∈l')(x y:Int):dW l x y↔dW l' x y:=⟨fun k=>k.mono fun e he=>(h e).1 he,fun k=>k.mono fun e he=>(h e).2 he⟩
theorem isP(l:List E):IsP l (nC l):=by
 have key: ∀(n:Nat) (l:List E),l.length=n→IsP l (nC l):=by
  intro n
  induction n with
  |zero=>intro l h;cases l with|nil=>exact IsP.nil|cons=>simp at h
  |succ n ih=>
   intro l h;have hne:l≠[]:=fun e=>by subst e;simp at h
   obtain ⟨l',e,rfl⟩: ∃l' e,l=l'++[e]:=⟨l.dropLast,l.getLast hne,(List.dropLast_concat_getLast hne).symm⟩
   rw [aSp];refine ((ih _ (by simpa using h)).join _).congr (vR fun e=>?_);simp [or_comm]
 exact key _ l rfl
theorem aEa(l:List E){x y:Int} :nC l x=nC l y↔dW l x y:=(isP l).iff x y
theorem aNa(l:List E)(x:Int):nC l x≤x:=(isP l).le x
theorem aLy(l:List E)(x:Int):nC l (nC l x)=nC l x:=(isP l).idem x
theorem aI2(l:List E)(x:Int):dW l x (nC l x):=((isP l).iff x _).1 (aLy l x).symm
theorem bAs(h: ∀x y,dW l x y↔dW l' x y):nC l=nC l':=by
 funext x;have a:nC l x=nC l (nC l' x):=(aEa l).2 ((h _ _).2 (aI2 l' x));have b:nC l' x=nC l' (nC l x):=(aEa l').2 ((h _ _).1 (aI2 l x));have c:=aNa l (nC l' x);have d:=aNa l' (nC l x);omega
theorem aFv{n:Int}(hr: ∀e,e∈l→0≤e.1∧e.1<n∧0≤e.2∧e.2<n){x:Int}(hx:0≤x∧x<n):0≤nC l x∧nC l x<n:=
 (aI2 l x).range hr hx
theorem bAr{n:Int}(hr: ∀e,e∈l→0≤e.1∧e.1<n∧0≤e.2∧e.2<n){q:Int→Int}(h1: ∀x,0≤x→x<n→0≤q x∧q x≤x∧dW l x (q x))
 (h2: ∀e,e∈l→q e.1=q e.2): ∀x,0≤x→x<n→q x=nC l x:=by
 intro x hx hn;obtain ⟨a1,a2,a3⟩:=h1 x hx hn
 have key: ∀ {x y:Int},dW l x y→q x=q y:=by
  intro x y h
  induction h with
  |refl=>rfl
  |fwd e _ ih=>exact (h2 _ e).trans ih
  |bwd e _ ih=>exact (h2 _ e).symm.trans ih
 have b1:nC l x≤q x:=by rw [(aEa l).2 a3];exact aNa _ _
 have pr:=aFv hr ⟨hx,hn⟩;obtain ⟨c1,c2,c3⟩:=h1 _ pr.1 pr.2;have b2:q x=q (nC l x):=key (aI2 l x);omega
def cnt(n:Nat)(p:Int→Int):Nat:=(List.range n).countP fun (k:Nat)=>decide (p k=k)
def cl(n:Nat)(l:List E):Nat:=cnt n (nC l)
theorem aOg{f:Nat→Bool}{a:Nat} : ∀ {l:List Nat},l.Nodup→a∈l→f a=true→l.countP (fun k=>f k&&k !=a)+1=l.countP f
 |[],_,h,_=>by cases h
 |b::l,hn,hm,hf=>by
  rw [List.nodup_cons] at hn;rcases List.mem_cons.1 hm with h|h
  ·
   subst h
   have e:l.countP (fun k=>f k&&k !=a)=l.countP f:=List.countP_congr fun k hk=>by
    have:k≠a:=fun e=>hn.1 (e▸hk);simp [this]
   simp [List.countP_cons,hf,e]
  ·
   have hb:b≠a:=fun e=>hn.1 (e▸h);have:=aOg hn.2 h hf;simp only [List.countP_cons];have e:(f b&&b !=a)=f b:=by simp [hb]
   rw [e];omega
theorem bLq{n:Nat}{p:Int→Int}(hid: ∀x,p (p x)=p x){u v:Int}(hu:0≤p u∧p u<n)(hv:0≤p v∧p v<n):
 cnt n (aCp p u v)+(if p u=p v then 0 else 1)=cnt n p:=by
 have hmx:=Int.max_def (p u) (p v);have hmn:=Int.min_def (p u) (p v);split
 ·
  rename_i h;have:aCp p u v=p:=by funext x;unfold aCp;split<;>omega
  rw [this];rfl
 ·
  rename_i h;unfold cnt;have hM:((max (p u) (p v)).toNat:Int)=max (p u) (p v):=by omega
  have hpM:p (max (p u) (p v))=max (p u) (p v):=by
   rcases Int.le_total (p u) (p v) with q|q
   · rw [Int.max_eq_right q,hid]
   · rw [Int.max_eq_left q,hid]
  rw [←aOg (f:=fun (k:Nat)=>decide (p k=k)) (a:=(max (p u) (p v)).toNat) List.nodup_range (by rw [List.mem_range];omega) (by rw [hM,hpM];simp)];refine congrArg (· +1) (List.countP_congr fun k _=>?_);have i1:=hid u;have i2:=hid v;simp only [decide_eq_true_eq,Bool.and_eq_true,bne_iff_ne,ne_eq];unfold aCp;constructor
  ·
   intro hk;split at hk
   ·
    rename_i c
    exfalso
    have:p (min (p u) (p v))=min (p u) (p v):=by
     rcases Int.le_total (p u) (p v) with q|q
     · rw [Int.min_eq_left q,i1]
     · rw [Int.min_eq_right q,i2]
    rw [hk,c] at this;omega
   · rename_i c;refine ⟨hk,fun e=>c ?_⟩;rw [hk];omega
  · rintro ⟨hk,hne⟩;rw [if_neg (fun c=>hne (by omega))];exact hk
def InR(n:Nat)(l:List E):Prop:= ∀e,e∈l→0≤e.1∧e.1<(n:Int)∧0≤e.2∧e.2<(n:Int)
theorem aZ7{n:Nat}(h: ∀x y,dW l x y↔dW l' x y):cl n l=cl n l':=by unfold cl;rw [bAs h]
theorem bLn(n:Nat):cl n []=n:=by
 unfold cl cnt;have:(fun (k:Nat)=>decide (nC [] (k:Int)=(k:Int)))=fun _=>true:=by funext k;simp [nC]
 rw [this,List.countP_true,List.length_range]
theorem aWi{n:Nat}{e:E}(hr:InR n (e::l)):cl n (e::l)+(if nC l e.1=nC l e.2 then 0 else 1)=cl n l:=by
 have h1:=hr e (by simp);have hl:InR n l:=fun x hx=>hr x (by simp [hx])
 have:cl n (e::l)=cnt n (aCp (nC l) e.1 e.2):=by
  rw [←aSp];exact aZ7 (vR fun x=>by simp [or_comm])
 rw [this];exact bLq (aLy l) (aFv hl ⟨h1.1,h1.2.1⟩) (aFv hl ⟨h1.2.2.1,h1.2.2.2⟩)
theorem aZ8{n:Nat}{e:E}(hr:InR n (e::l))(h:dW l e.1 e.2):cl n (e::l)=cl n l:=by
 have:=aWi hr;rw [if_pos ((aEa l).2 h)] at this;omega
theorem bCi{n:Nat}{e:E}(hr:InR n (e::l))(h: ¬dW l e.1 e.2):cl n (e::l)+1=cl n l:=by
 have:=aWi hr;rw [if_neg (fun c=>h ((aEa l).1 c))] at this;omega
theorem InR.tail{n:Nat}{e:E}(h:InR n (e::l)):InR n l:=fun x hx=>h x (by simp [hx])
theorem bSb{n:Nat} : ∀ {l:List E},InR n l→n≤cl n l+l.length
 |[],_=>by rw [bLn];simp
 |e::l,hr=>by
  have h1:=aWi hr;have h2:=bSb hr.tail;simp only [List.length_cons];split at h1<;>omega
theorem bPb{n:Nat}(h:l.Perm l'):cl n l=cl n l':=aZ7 (vR fun e=>h.mem_iff)
theorem InR.perm{n:Nat}(hr:InR n l)(h:l.Perm l'):InR n l':=fun e he=>hr e (h.mem_iff.2 he)
def iK(n:Nat)(l:List E):Prop:=cl n l+l.length=n
theorem iK.cons{n:Nat}{e:E}(hr:InR n (e::l)):iK n (e::l)↔iK n l∧ ¬dW l e.1 e.2:=by
 unfold iK;have h2:=bSb hr.tail;simp only [List.length_cons]
 by_cases h:dW l e.1 e.2
 ·
  have:=aZ8 hr h;constructor
  · intro;omega
  · rintro ⟨_,k⟩;exact absurd h k
 ·
  have:=bCi hr h;constructor
  · intro;exact ⟨by omega,h⟩
  · rintro ⟨_,_⟩;omega
theorem iK.perm{n:Nat}(h:iK n l)(hp:l.Perm l'):iK n l':=by unfold iK at *; rw [←bPb hp,←hp.length_eq];exact h
theorem iK.nil(n:Nat):iK n []:=by unfold iK;rw [bLn];rfl
theorem iK.sublist{n:Nat}(hr:InR n l)(h:iK n l): ∀ {l':List E},l'.Sublist l→iK n l':=by
 intro l' hs
 induction hs with
 |slnil=>exact h
 |cons a _ ih=>exact ih hr.tail ((iK.cons hr).1 h).1
 |cons_cons a hs ih=>
  have h1:=(iK.cons hr).1 h;refine (iK.cons (fun x hx=>hr x ?_)).2 ⟨ih hr.tail h1.1,fun c=>h1.2 (c.mono fun e he=>hs.subset he)⟩;rcases List.mem_cons.1 hx with h|h
  · simp [h]
  · simp [hs.subset h]
theorem bKm{t:E}{a b:Int}(h:dW (t::l) a b)(hn: ¬dW l a b)(x y:Int):dW ((a,b)::l) x y↔dW (t::l) x y:=by
 rcases dW.cons_iff.1 h with h|⟨h1,h2⟩|⟨h1,h2⟩
 · exact absurd h hn
 all_goals
  constructor
  ·
   refine fun k=>k.bind fun c d hm=>?_;rcases List.mem_cons.1 hm with e|e
   · cases e;exact h
   · exact .one (by simp [e])
  ·
   refine fun k=>k.bind fun c d hm=>?_;rcases List.mem_cons.1 hm with e|e
   ·
    subst e;have m: ∀ {x y:Int},dW l x y→dW ((a,b)::l) x y:=fun h=>h.mono fun _ h=>List.mem_cons_of_mem _ h;have o:dW ((a,b)::l) a b:= .one (by simp)
    first
     |exact (m h1).symm.trans (o.trans (m h2).symm)
     |exact (m h2).trans (o.symm.trans (m h1))
   · exact .one (by simp [e])
end Go.Pt
namespace Go.Pt
variable {l:List E}{n:Nat}
def Tch(l:List E)(i:Nat)(x y:Int):Prop:=l[i]? =some (x,y)∨l[i]? =some (y,x)
theorem Tch.symm{i:Nat}{x y:Int}(h:Tch l i x y):Tch l i y x:=h.elim .inr .inl
theorem Tch.lt{i:Nat}{x y:Int}(h:Tch l i x y):i<l.length:=by
 rcases h with h|h<;>exact (List.getElem?_eq_some_iff.1 h).1
theorem Tch.conn{i:Nat}{x y:Int}(h:Tch l i x y):dW l x y:=by
 rcases h with h|h
 · exact .one (List.mem_of_getElem? h)
 · exact .eno (List.mem_of_getElem? h)
def Br(l:List E)(u v:Int)(i:Nat):Prop:=i<l.length∧ ¬dW (l.eraseIdx i) u v
theorem aVc{i j:Nat}{e:E}(h:l[j]? =some e)(hij:j≠i):e∈l.eraseIdx i:=by
 rw [List.mem_eraseIdx_iff_getElem?];exact ⟨j,hij,h⟩
theorem Tch.conn_erase{i j:Nat}{x y:Int}(h:Tch l j x y)(hij:j≠i):dW (l.eraseIdx i) x y:=by
 rcases h with h|h
 · exact .one (aVc h hij)
 · exact .eno (aVc h hij)
theorem aEq{i:Nat}{e:E}(h:l[i]? =some e):l.Perm (e::l.eraseIdx i):=by
 obtain ⟨hi,he⟩:=List.getElem?_eq_some_iff.1 h;rw [List.eraseIdx_eq_take_drop_succ];have:l=l.take i++e::l.drop (i+1):=by rw [←he,List.getElem_cons_drop,List.take_append_drop]
 exact (List.Perm.of_eq this).trans List.perm_middle
theorem aJ9{i:Nat}{e:E}(h:l[i]? =some e)(x y:Int):dW l x y↔dW (e::l.eraseIdx i) x y:=vR (fun _=>(aEq h).mem_iff) x y
theorem iK.bridge(hr:InR n l)(hf:iK n l){i:Nat}{x y:Int}(h:Tch l i x y): ¬dW (l.eraseIdx i) x y:=by
 rcases h with h|h
 · exact ((iK.cons (hr.perm (aEq h))).1 (hf.perm (aEq h))).2
 · exact fun c=>((iK.cons (hr.perm (aEq h))).1 (hf.perm (aEq h))).2 c.symm
theorem aT2{i:Nat}{x y:Int}(h:Tch l i x y){a b:Int}(hc:dW l a b):dW (l.eraseIdx i) a b∨(dW (l.eraseIdx i) a x∧dW (l.eraseIdx i) y b)∨(dW (l.eraseIdx i) a y∧dW (l.eraseIdx i) x b):=by
 rcases h with h|h
 · exact dW.cons_iff.1 ((aJ9 h _ _).1 hc)
 ·
  rcases dW.cons_iff.1 ((aJ9 h _ _).1 hc) with h|h|h
  · exact .inl h
  · exact .inr (.inr h)
  · exact .inr (.inl h)
theorem aUs(hr:InR n l)(hf:iK n l){x v y y':Int}{i j:Nat}(hi:Tch l i x y)(hj:Tch l j x y')(bi:Br l x v i)(bj:Br l x v j)(hc:dW l x v):i=j:=by
 refine Classical.byContradiction fun hij=>?_
 have hy:dW (l.eraseIdx i) y v:=by
  rcases aT2 hi hc with h|⟨_,h⟩|⟨h,_⟩
  · exact absurd h bi.2
  · exact h
  · exact absurd h (hf.bridge hr hi)
 have hxy':dW (l.eraseIdx i) x y':=hj.conn_erase (fun h=>hij h.symm)
 have hj': ∃k,Tch (l.eraseIdx i) k x y'∧ ∀a b,dW ((l.eraseIdx i).eraseIdx k) a b→dW (l.eraseIdx j) a b:=by
  by_cases hlt:j<i
  ·
   refine ⟨j,?_,fun a b h=>h.mono fun e he=>?_⟩
   ·
    rcases hj with h|h
    · exact .inl (by rw [List.getElem?_eraseIdx_of_lt hlt,h])
    · exact .inr (by rw [List.getElem?_eraseIdx_of_lt hlt,h])
   ·
    rw [List.mem_eraseIdx_iff_getElem?] at he⊢;obtain ⟨k,h1,h2⟩:=he;rw [List.getElem?_eraseIdx] at h2;split at h2
    · exact ⟨k,h1,h2⟩
    · exact ⟨k+1,by omega,h2⟩
  ·
   refine ⟨j-1,?_,fun a b h=>h.mono fun e he=>?_⟩
   ·
    have e:j-1+1=j:=by omega
    rcases hj with h|h
    · exact .inl (by rw [List.getElem?_eraseIdx_of_ge (by omega),e,h])
    · exact .inr (by rw [List.getElem?_eraseIdx_of_ge (by omega),e,h])
   ·
    rw [List.mem_eraseIdx_iff_getElem?] at he⊢;obtain ⟨k,h1,h2⟩:=he;rw [List.getElem?_eraseIdx] at h2;split at h2
    · exact ⟨k,by omega,h2⟩
    · exact ⟨k+1,by omega,h2⟩
 obtain ⟨k,hk,hsub⟩:=hj';have hxi:dW (l.eraseIdx j) x y:=hi.conn_erase hij;rcases aT2 hk hy with h|⟨_,h⟩|⟨_,h⟩
 · exact bj.2 (hxi.trans (hsub _ _ h))
 ·
  
  rename_i h0;exact hf.bridge hr hi (h0.mono fun e he=>List.mem_of_mem_eraseIdx he).symm
 · exact bj.2 (hsub _ _ h)
theorem aWf(hr:InR n l)(hf:iK n l){x v y:Int}{i:Nat}(hi:Tch l i x y)(bi:Br l x v i)(hc:dW l x v)(j:Nat):Br l y v j↔Br l x v j∧j≠i:=by
 have hy:dW (l.eraseIdx i) y v:=by
  rcases aT2 hi hc with h|⟨_,h⟩|⟨h,_⟩
  · exact absurd h bi.2
  · exact h
  · exact absurd h (hf.bridge hr hi)
 by_cases h:j=i
 · subst h;exact ⟨fun h=>absurd hy h.2,fun h=>absurd rfl h.2⟩
 · have hxy:dW (l.eraseIdx j) x y:=hi.conn_erase (fun k=>h k.symm);exact ⟨fun k=>⟨⟨k.1,fun c=>k.2 (hxy.symm.trans c)⟩,h⟩,fun k=>⟨k.1.1,fun c=>k.1.2 (hxy.trans c)⟩⟩
theorem bP7(hr:InR n l)(hf:iK n l){x v y:Int}{i:Nat}(hi:Tch l i x y)(bi: ¬Br l x v i)(j:Nat):Br l y v j↔Br l x v j∨j=i:=by
 have hx:dW (l.eraseIdx i) x v:=Classical.byContradiction fun c=>bi ⟨hi.lt,c⟩
 by_cases h:j=i
 · subst h;exact ⟨fun _=> .inr rfl,fun _=>⟨hi.lt,fun c=>hf.bridge hr hi (hx.trans c.symm)⟩⟩
 · have hxy:dW (l.eraseIdx j) x y:=hi.conn_erase (fun k=>h k.symm);exact ⟨fun k=> .inl ⟨k.1,fun c=>k.2 (hxy.symm.trans c)⟩,fun k=>(k.resolve_right h).elim fun k1 k2=>⟨k1,fun c=>k2 (hxy.trans c)⟩⟩
theorem aWe{v:Int}(j:Nat): ¬Br l v v j:=fun h=>h.2 (.refl _)
open Classical in
noncomputable def dep (l:List E) (u v:Int):Nat:=(List.range l.length).countP fun i=>decide (Br l u v i)
open Classical in
theorem bM0(hr:InR n l)(hf:iK n l){x v y:Int}{i:Nat}(hi:Tch l i x y)(bi:Br l x v i)(hc:dW l x v):dep l y v+1=dep l x v:=by
 unfold dep;rw [←aOg (f:=fun i=>decide (Br l x v i)) (a:=i) List.nodup_range (List.mem_range.2 hi.lt) (by simpa using bi)];refine congrArg (· +1) (List.countP_congr fun k _=>?_);simp [aWf hr hf hi bi hc]
theorem bTo(l:List E)(u v:Int):dep l u v≤l.length:=by
 unfold dep;exact Nat.le_trans List.countP_le_length (by simp)
end Go.Pt
namespace Go.Pl
open Go Go.AM
variable {α β:Type}
theorem qP(l:List α)(k:Nat):idx l (k:Int)=l[k]? :=by simp [idx]
theorem zR{l:List α}{i:Int}{k:Nat}(h:i=k):idx l i=l[k]? :=by subst h;exact qP l k
theorem eQ{l:List α}{k:Nat}(h:k<l.length):idx l (k:Int)=some l[k]:=by rw [qP];exact List.getElem?_eq_getElem h
theorem xY{l:List α}{k:Nat}(h:k<l.length)(x:α):stt l (k:Int) x=some (l.set k x):=by
 unfold stt;rw [if_pos ⟨by omega,by omega⟩];simp
theorem bFf{l:List α}{i:Int}{k:Nat}(hi:i=k)(h:k<l.length)(x:α):stt l i x=some (l.set k x):=by subst hi;exact xY h x
theorem wr1(k:Nat)(h:k<4611686018427387904):IntKind.i64.wrap ((k:Int)+1)=((k+1:Nat):Int):=by rw [bOo om om];omega
theorem wr0{n:Int}(h1: -4611686018427387904≤n)(h2:n≤4611686018427387904):IntKind.i64.wrap n=n:=bOo om om
theorem aA(x:α)(f:α→Option β):(some x).bind f=f x:=by cases h:f x<;>simp [h]
theorem bt{c:Bool}{x y:β}(h:c=true):(bif c then x else y)=x:=by subst h;simp
theorem bf{c:Bool}{x y:β}(h:c=false):(bif c then x else y)=y:=by subst h;simp
theorem gt'{b:Bool}{d:α}{o:Option α}(h:b=true):fG b d o=o:=by subst h;simp [fG]
theorem gf'{b:Bool}{d:α}{o:Option α}(h:b=false):fG b d o=some d:=by subst h;simp [fG]
theorem ck{b:Bool}(h:b=true):chk b=some ():=by subst h;simp [chk]
theorem bFx{b:Nat}{l xs:List α}(h:(l.length+xs.length)*b≤140737488355328):aW9 b l xs=some (l++xs):=by unfold aW9;rw [if_pos h]
theorem mL{l xs:List α}(h:l.length+xs.length≤4294967296):app l xs=some (l++xs):=by unfold app;rw [if_pos h]
theorem bEy{n:Int}(h:0≤n)(h':n≤4294967296)(z:α):mkc n n z=some (List.replicate n.toNat z):=by unfold mkc;rw [if_pos ⟨h,Int.le_refl _,h'⟩]
theorem aRd{n c:Int}{k:Nat}(h:n=k)(hc:n≤c)(h':c≤4294967296)(z:α):mkc n c z=some (List.replicate k z):=by
 subst h;unfold mkc;rw [if_pos ⟨by omega,hc,h'⟩];simp
theorem aY7{l:List α}{lo hi:Int}{a b:Nat}(h1:lo=a)(h2:hi=b)(h3:a≤b)(h4:b≤l.length):slc l lo hi=some ((l.drop a).take (b-a)):=by
 subst h1;subst h2;unfold slc;rw [if_pos ⟨by omega,by omega,by omega⟩];simp
theorem aBj{l:List α}{lo:Int}{a:Nat}(h1:lo=a)(h4:a≤l.length):slc l lo (l.length:Int)=some (l.drop a):=by
 rw [aY7 h1 rfl h4 (Nat.le_refl _)];congr 1;apply List.take_of_length_le;simp
theorem aGh{l:List α}{hi:Int}{b:Nat}(h2:hi=b)(h4:b≤l.length):slc l 0 hi=some (l.take b):=by
 have:=aY7 (l:=l) (lo:=((0:Nat):Int)) (a:=0) rfl h2 (Nat.zero_le _) h4
 simpa using this
theorem fH{l:List α}{k:Nat}(h:k<l.length):l.drop k=l[k]::l.drop (k+1):=List.drop_eq_getElem_cons h
theorem aEd{l:List α}{k:Nat}(h:k<l.length):l.take (k+1)=l.take k++[l[k]]:=by rw [List.take_add_one,List.getElem?_eq_getElem h];rfl
theorem aMe:(1000000000:Nat)<bC:=by unfold bC;decide
def tab(n:Int)(f:Int→Int):List Int:=(List.range n.toNat).map fun (k:Nat)=>f (k:Int)
theorem aE4(n:Int)(f:Int→Int):(tab n f).length=n.toNat:=by simp [tab]
theorem aRg{n:Int}{f:Int→Int}{k:Nat}(h:(k:Int)<n):(tab n f)[k]? =some (f k):=by
 unfold tab;rw [List.getElem?_map,List.getElem?_range om];rfl
theorem aRh{n:Int}{f:Int→Int}{x:Int}(h0:0≤x)(h:x<n):idx (tab n f) x=some (f x):=by
 rw [zR (k:=x.toNat) om,aRg om];congr 2;omega
theorem bD0{n:Int}{f:Int→Int}{p:List Int}(hl:p.length=n.toNat)(h: ∀k:Nat,(k:Int)<n→p[k]? =some (f k)):p=tab n f:=by
 apply List.ext_getElem?;intro k
 by_cases hk:k<p.length
 · rw [h k om,aRg om]
 · rw [List.getElem?_eq_none om,List.getElem?_eq_none (by rw [aE4];omega)]
end Go.Pl
