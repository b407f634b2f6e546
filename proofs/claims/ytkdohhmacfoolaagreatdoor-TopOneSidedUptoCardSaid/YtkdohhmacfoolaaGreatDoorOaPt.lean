/- Facts. No condition. -/
set_option linter.unusedSimpArgs false
set_option linter.unusedVariables false
namespace Go.Pt
abbrev E:=Int×Int
inductive bF(l:List E):Int→Int→Prop where
  |refl (x:Int):bF l x x
  |fwd {x y z:Int} (e:(x,y)∈l) (h:bF l y z):bF l x z
  |bwd {x y z:Int} (e:(y,x)∈l) (h:bF l y z):bF l x z
variable {l l':List E}
theorem bF.trans{x y z:Int}(h:bF l x y)(k:bF l y z):bF l x z:=by
 induction h with
 |refl x=>exact k
 |fwd e _ ih=>exact .fwd e (ih k)
 |bwd e _ ih=>exact .bwd e (ih k)
theorem bF.one{x y:Int}(e:(x,y)∈l):bF l x y:= .fwd e (.refl _)
theorem bF.eno{x y:Int}(e:(x,y)∈l):bF l y x:= .bwd e (.refl _)
theorem bF.symm{x y:Int}(h:bF l x y):bF l y x:=by
 induction h with
 |refl x=>exact .refl x
 |fwd e _ ih=>exact ih.trans (.eno e)
 |bwd e _ ih=>exact ih.trans (.one e)
theorem bF.mono(hl: ∀e,e∈l→e∈l'){x y:Int}(h:bF l x y):bF l' x y:=by
 induction h with
 |refl x=>exact .refl x
 |fwd e _ ih=>exact .fwd (hl _ e) ih
 |bwd e _ ih=>exact .bwd (hl _ e) ih
theorem bF.bind(hl: ∀a b,(a,b)∈l→bF l' a b){x y:Int}(h:bF l x y):bF l' x y:=by
 induction h with
 |refl x=>exact .refl x
 |fwd e _ ih=>exact (hl _ _ e).trans ih
 |bwd e _ ih=>exact (hl _ _ e).symm.trans ih
theorem bF.nil{x y:Int}(h:bF [] x y):x=y:=by
 cases h with
 |refl=>rfl
 |fwd e _=>cases e
 |bwd e _=>cases e
theorem bF.cons_iff{e:E}{x y:Int} :bF (e::l) x y↔bF l x y∨(bF l x e.1∧bF l e.2 y)∨(bF l x e.2∧bF l e.1 y):=by
 constructor
 ·
  intro h
  induction h with
  |refl x=>exact .inl (.refl x)
  | @fwd a b c hm _ ih=>
   rcases List.mem_cons.1 hm with h|h
   ·
    subst h;rcases ih with ih|⟨i1,i2⟩|⟨i1,i2⟩
    · exact .inr (.inl ⟨.refl _,ih⟩)
    · exact .inr (.inl ⟨.refl _,i2⟩)
    · exact .inl i2
   ·
    rcases ih with ih|⟨i1,i2⟩|⟨i1,i2⟩
    · exact .inl (.fwd h ih)
    · exact .inr (.inl ⟨.fwd h i1,i2⟩)
    · exact .inr (.inr ⟨.fwd h i1,i2⟩)
  | @bwd a b c hm _ ih=>
   rcases List.mem_cons.1 hm with h|h
   ·
    subst h;rcases ih with ih|⟨i1,i2⟩|⟨i1,i2⟩
    · exact .inr (.inr ⟨.refl _,ih⟩)
    · exact .inl i2
    · exact .inr (.inr ⟨.refl _,i2⟩)
   ·
    rcases ih with ih|⟨i1,i2⟩|⟨i1,i2⟩
    · exact .inl (.bwd h ih)
    · exact .inr (.inl ⟨.bwd h i1,i2⟩)
    · exact .inr (.inr ⟨.bwd h i1,i2⟩)
 ·
  have m: ∀ {a b:Int},bF l a b→bF (e::l) a b:=fun h=>h.mono fun _ h=>List.mem_cons_of_mem _ h;have h1:bF (e::l) e.1 e.2:= .one (by simp);rintro (h|⟨h,k⟩|⟨h,k⟩)
  · exact m h
  · exact (m h).trans (h1.trans (m k))
  · exact (m h).trans (h1.symm.trans (m k))
theorem bF.range{n:Int}(hr: ∀e,e∈l→0≤e.1∧e.1<n∧0≤e.2∧e.2<n){x y:Int}(h:bF l x y)(hx:0≤x∧x<n):0≤y∧y<n:=by
 induction h with
 |refl x=>exact hx
 |fwd e _ ih=>have:=hr _ e;exact ih ⟨this.2.2.1,this.2.2.2⟩
 |bwd e _ ih=>have:=hr _ e;exact ih ⟨this.1,this.2.1⟩
def sV(p:Int→Int)(u v:Int):Int→Int:=fun x=>if p x=max (p u) (p v) then min (p u) (p v) else p x
def cI(l:List E):Int→Int:=l.foldl (fun p e=>sV p e.1 e.2) id
structure IsP(l:List E)(p:Int→Int):Prop where
  le: ∀x,p x≤x
  idem: ∀x,p (p x)=p x
  iff: ∀x y,p x=p y↔bF l x y
theorem IsP.nil:IsP [] id:=⟨fun _=>Int.le_refl _,fun _=>rfl,fun _ _=>⟨fun h=>by cases h;exact .refl _,fun h=>h.nil⟩⟩
theorem IsP.join{p:Int→Int}(h:IsP l p)(e:E):IsP (e::l) (sV p e.1 e.2):=by
 have hmx:=Int.max_def (p e.1) (p e.2);have hmn:=Int.min_def (p e.1) (p e.2);refine ⟨fun x=>?_,fun x=>?_,fun x y=>?_⟩
 · have:=h.le x;unfold sV;split<;>omega
 ·
  have i1:=h.idem x;have i2:=h.idem e.1;have i3:=h.idem e.2;unfold sV
  by_cases c:p x=max (p e.1) (p e.2)
  ·
   simp only [c,if_true]
   have:p (min (p e.1) (p e.2))=min (p e.1) (p e.2):=by
    rcases Int.le_total (p e.1) (p e.2) with q|q
    · rw [Int.min_eq_left q,i2]
    · rw [Int.min_eq_right q,i3]
   rw [this];split<;>rfl
  · simp only [c,if_false];rw [i1,if_neg c]
 · rw [bF.cons_iff,←h.iff,←h.iff,←h.iff,←h.iff,←h.iff];unfold sV;split<;>split<;>omega
theorem aLu(l:List E)(e:E):cI (l++[e])=sV (cI l) e.1 e.2:=by simp [cI]
theorem IsP.congr{p:Int→Int}(h:IsP l p)(hc: ∀x y,bF l x y↔bF l' x y):IsP l' p:=⟨h.le,h.idem,fun x y=>(h.iff x y).trans (hc x y)⟩
theorem kI(h: ∀e,e∈l↔e∈l')(x y:Int):bF l x y↔bF l' x y:=⟨fun k=>k.mono fun e he=>(h e).1 he,fun k=>k.mono fun e he=>(h e).2 he⟩
theorem isP(l:List E):IsP l (cI l):=by
 have key: ∀(n:Nat) (l:List E),l.length=n→IsP l (cI l):=by
  intro n
  induction n with
  |zero=>intro l h;cases l with|nil=>exact IsP.nil|cons=>simp at h
  |succ n ih=>
   intro l h;have hne:l≠[]:=fun e=>by subst e;simp at h
   obtain ⟨l',e,rfl⟩: ∃l' e,l=l'++[e]:=⟨l.dropLast,l.getLast hne,(List.dropLast_concat_getLast hne).symm⟩
   rw [aLu];refine ((ih _ (by simpa using h)).join _).congr (kI fun e=>?_);simp [or_comm]
 exact key _ l rfl
theorem jL(l:List E){x y:Int} :cI l x=cI l y↔bF l x y:=(isP l).iff x y
theorem aGz(l:List E)(x:Int):cI l x≤x:=(isP l).le x
theorem aFk(l:List E)(x:Int):cI l (cI l x)=cI l x:=(isP l).idem x
theorem vY(l:List E)(x:Int):bF l x (cI l x):=((isP l).iff x _).1 (aFk l x).symm
theorem aJc(h: ∀x y,bF l x y↔bF l' x y):cI l=cI l':=by
 funext x;have a:cI l x=cI l (cI l' x):=(jL l).2 ((h _ _).2 (vY l' x));have b:cI l' x=cI l' (cI l x):=(jL l').2 ((h _ _).1 (vY l x));have c:=aGz l (cI l' x);have d:=aGz l' (cI l x);omega
theorem yJ{n:Int}(hr: ∀e,e∈l→0≤e.1∧e.1<n∧0≤e.2∧e.2<n){x:Int}(hx:0≤x∧x<n):0≤cI l x∧cI l x<n:=
 (vY l x).range hr hx
theorem aSj{n:Int}(hr: ∀e,e∈l→0≤e.1∧e.1<n∧0≤e.2∧e.2<n){q:Int→Int}(h1: ∀x,0≤x→x<n→0≤q x∧q x≤x∧bF l x (q x))
 (h2: ∀e,e∈l→q e.1=q e.2): ∀x,0≤x→x<n→q x=cI l x:=by
 intro x hx hn;obtain ⟨a1,a2,a3⟩:=h1 x hx hn
 have key: ∀ {x y:Int},bF l x y→q x=q y:=by
  intro x y h
  induction h with
  |refl=>rfl
  |fwd e _ ih=>exact (h2 _ e).trans ih
  |bwd e _ ih=>exact (h2 _ e).symm.trans ih
 have b1:cI l x≤q x:=by rw [(jL l).2 a3];exact aGz _ _
 have pr:=yJ hr ⟨hx,hn⟩;obtain ⟨c1,c2,c3⟩:=h1 _ pr.1 pr.2;have b2:q x=q (cI l x):=key (vY l x);omega
def cnt(n:Nat)(p:Int→Int):Nat:=(List.range n).countP fun (k:Nat)=>decide (p k=k)
def cl(n:Nat)(l:List E):Nat:=cnt n (cI l)
theorem aI3{f:Nat→Bool}{a:Nat} : ∀ {l:List Nat},l.Nodup→a∈l→f a=true→l.countP (fun k=>f k&&k !=a)+1=l.countP f
 |[],_,h,_=>by cases h
 |b::l,hn,hm,hf=>by
  rw [List.nodup_cons] at hn;rcases List.mem_cons.1 hm with h|h
  ·
   subst h
   have e:l.countP (fun k=>f k&&k !=a)=l.countP f:=List.countP_congr fun k hk=>by
    have:k≠a:=fun e=>hn.1 (e▸hk);simp [this]
   simp [List.countP_cons,hf,e]
  ·
   have hb:b≠a:=fun e=>hn.1 (e▸h);have:=aI3 hn.2 h hf;simp only [List.countP_cons];have e:(f b&&b !=a)=f b:=by simp [hb]
   rw [e];omega
theorem bBb{n:Nat}{p:Int→Int}(hid: ∀x,p (p x)=p x){u v:Int}(hu:0≤p u∧p u<n)(hv:0≤p v∧p v<n):
 cnt n (sV p u v)+(if p u=p v then 0 else 1)=cnt n p:=by
 have hmx:=Int.max_def (p u) (p v);have hmn:=Int.min_def (p u) (p v);split
 ·
  rename_i h;have:sV p u v=p:=by funext x;unfold sV;split<;>omega
  rw [this];rfl
 ·
  rename_i h;unfold cnt;have hM:((max (p u) (p v)).toNat:Int)=max (p u) (p v):=by omega
  have hpM:p (max (p u) (p v))=max (p u) (p v):=by
   rcases Int.le_total (p u) (p v) with q|q
   · rw [Int.max_eq_right q,hid]
   · rw [Int.max_eq_left q,hid]
  rw [←aI3 (f:=fun (k:Nat)=>decide (p k=k)) (a:=(max (p u) (p v)).toNat) List.nodup_range (by rw [List.mem_range];omega) (by rw [hM,hpM];simp)];refine congrArg (· +1) (List.countP_congr fun k _=>?_);have i1:=hid u;have i2:=hid v;simp only [decide_eq_true_eq,Bool.and_eq_true,bne_iff_ne,ne_eq];unfold sV;constructor
  ·
   intro hk;split at hk
   ·
    rename_i c
    exfalso
    have:p (min (p u) (p v))=min (p u) (p v):=by
     rcases Int.le_total (p u) (p v) with q|q
     · rw [Int.min_eq_left q,i1]
     · rw [Int.min_eq_right q,i2]
    rw [hk,c] at this;omega
   · rename_i c;refine ⟨hk,fun e=>c ?_⟩;rw [hk];omega
  · rintro ⟨hk,hne⟩;rw [if_neg (fun c=>hne (by omega))];exact hk
def InR(n:Nat)(l:List E):Prop:= ∀e,e∈l→0≤e.1∧e.1<(n:Int)∧0≤e.2∧e.2<(n:Int)
theorem aGf{n:Nat}(h: ∀x y,bF l x y↔bF l' x y):cl n l=cl n l':=by unfold cl;rw [aJc h]
theorem bB9(n:Nat):cl n []=n:=by
 unfold cl cnt;have:(fun (k:Nat)=>decide (cI [] (k:Int)=(k:Int)))=fun _=>true:=by funext k;simp [cI]
 rw [this,List.countP_true,List.length_range]
theorem aGg{n:Nat}{e:E}(hr:InR n (e::l)):cl n (e::l)+(if cI l e.1=cI l e.2 then 0 else 1)=cl n l:=by
 have h1:=hr e (by simp);have hl:InR n l:=fun x hx=>hr x (by simp [hx])
 have:cl n (e::l)=cnt n (sV (cI l) e.1 e.2):=by
  rw [←aLu];exact aGf (kI fun x=>by simp [or_comm])
 rw [this];exact bBb (aFk l) (yJ hl ⟨h1.1,h1.2.1⟩) (yJ hl ⟨h1.2.2.1,h1.2.2.2⟩)
theorem aRm{n:Nat}{e:E}(hr:InR n (e::l))(h:bF l e.1 e.2):cl n (e::l)=cl n l:=by
 have:=aGg hr;rw [if_pos ((jL l).2 h)] at this;omega
theorem aU4{n:Nat}{e:E}(hr:InR n (e::l))(h: ¬bF l e.1 e.2):cl n (e::l)+1=cl n l:=by
 have:=aGg hr;rw [if_neg (fun c=>h ((jL l).1 c))] at this;omega
theorem InR.tail{n:Nat}{e:E}(h:InR n (e::l)):InR n l:=fun x hx=>h x (by simp [hx])
theorem bH2{n:Nat} : ∀ {l:List E},InR n l→n≤cl n l+l.length
 |[],_=>by rw [bB9];simp
 |e::l,hr=>by
  have h1:=aGg hr;have h2:=bH2 hr.tail;simp only [List.length_cons];split at h1<;>omega
theorem bEe{n:Nat}(h:l.Perm l'):cl n l=cl n l':=aGf (kI fun e=>h.mem_iff)
theorem InR.perm{n:Nat}(hr:InR n l)(h:l.Perm l'):InR n l':=fun e he=>hr e (h.mem_iff.2 he)
def cU(n:Nat)(l:List E):Prop:=cl n l+l.length=n
theorem cU.cons{n:Nat}{e:E}(hr:InR n (e::l)):cU n (e::l)↔cU n l∧ ¬bF l e.1 e.2:=by
 unfold cU;have h2:=bH2 hr.tail;simp only [List.length_cons]
 by_cases h:bF l e.1 e.2
 ·
  have:=aRm hr h;constructor
  · intro;omega
  · rintro ⟨_,k⟩;exact absurd h k
 ·
  have:=aU4 hr h;constructor
  · intro;exact ⟨by omega,h⟩
  · rintro ⟨_,_⟩;omega
theorem cU.perm{n:Nat}(h:cU n l)(hp:l.Perm l'):cU n l':=by unfold cU at *; rw [←bEe hp,←hp.length_eq];exact h
theorem cU.nil(n:Nat):cU n []:=by unfold cU;rw [bB9];rfl
theorem cU.sublist{n:Nat}(hr:InR n l)(h:cU n l): ∀ {l':List E},l'.Sublist l→cU n l':=by
 intro l' hs
 induction hs with
 |slnil=>exact h
 |cons a _ ih=>exact ih hr.tail ((cU.cons hr).1 h).1
 |cons_cons a hs ih=>
  have h1:=(cU.cons hr).1 h;refine (cU.cons (fun x hx=>hr x ?_)).2 ⟨ih hr.tail h1.1,fun c=>h1.2 (c.mono fun e he=>hs.subset he)⟩;rcases List.mem_cons.1 hx with h|h
  · simp [h]
  · simp [hs.subset h]
theorem bA4{t:E}{a b:Int}(h:bF (t::l) a b)(hn: ¬bF l a b)(x y:Int):bF ((a,b)::l) x y↔bF (t::l) x y:=by
 rcases bF.cons_iff.1 h with h|⟨h1,h2⟩|⟨h1,h2⟩
 · exact absurd h hn
 all_goals
  constructor
  ·
   refine fun k=>k.bind fun c d hm=>?_;rcases List.mem_cons.1 hm with e|e
   · cases e;exact h
   · exact .one (by simp [e])
  ·
   refine fun k=>k.bind fun c d hm=>?_;rcases List.mem_cons.1 hm with e|e
   ·
    subst e;have m: ∀ {x y:Int},bF l x y→bF ((a,b)::l) x y:=fun h=>h.mono fun _ h=>List.mem_cons_of_mem _ h;have o:bF ((a,b)::l) a b:= .one (by simp)
    first
     |exact (m h1).symm.trans (o.trans (m h2).symm)
     |exact (m h2).trans (o.symm.trans (m h1))
   · exact .one (by simp [e])
end Go.Pt
