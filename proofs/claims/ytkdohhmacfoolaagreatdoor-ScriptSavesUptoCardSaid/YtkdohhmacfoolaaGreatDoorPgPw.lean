/- Facts. No condition. -/
import Derived.Test.YtkdohhmacfoolaaGreatDoorPgAmG
import Derived.Test.YtkdohhmacfoolaaGreatDoorPgFacts
import Derived.Laws.RangeAny
set_option linter.unusedVariables false
set_option linter.unusedSimpArgs false
set_option maxRecDepth 20000
set_option maxHeartbeats 4000000
namespace Go.Proofs.YtkdohhmacfoolaaGreatDoor
open Go.Proofs.Tryz Go Go.AM
@[go_sem] theorem bTf(H:aH)(x:AV)(xs:List AV):bT prog H 3 (.ptr (x::xs))=some x:=by kernel_rfl
def aBk(rec1:List Int→Int→Option (Int×List Int))(p_0:List Int)(v_1:Int):Option (Int×List Int):=
 ((idx p_0 v_1).bind fun x2=>
 (bif (x2 !=v_1) then
  ((idx p_0 v_1).bind fun x4=>
  ((idx p_0 x4).bind fun x6=>
  ((idx p_0 v_1).bind fun x8=>
  ((stt p_0 v_1 x6).bind fun l10=>
  ((idx l10 v_1).bind fun x12=>
  rec1 l10 x12)))))
 else
  some (v_1,p_0)))
def yJ:Nat→List Int→Int→Option (Int×List Int)
 |0=>fun _ _=>none
 |n+1=>aBk (yJ n)
def aHg(p_0:List Int)(v_1:Int):Option (Int×List Int):=
 yJ aY p_0 v_1
theorem bEz{p_0:List Int}{v_1:Int}{r:Int×List Int}(hm:aHg p_0 v_1=some r){H:aH}{i0:Nat}(he:H.ent i0= .cells 1 (p_0.flatMap (ci .i64)) 0):eK prog 105 [.own i0 0 p_0.length,.v (.int .i64 v_1)] H (.v (.int .i64 r.1)) (H.put i0 (.cells 1 (r.2.flatMap (ci .i64)) 0)):=by
 refine eK.of_bodyM func105 rfl he ?_;generalize H.ent=h0;simp only [ntmps105,List.length_cons,List.length_nil,Nat.reduceAdd,Nat.reduceSub];unfold aHg at hm;refine sN 64 (pA ?_);refine fs (AWp.seq' (AWp.block (AWp.loopM (fun m s=> ∃(p_0:List Int) (v_1:Int),s=(⟨26,(aF (aF (fun _=>AV.any) 0 (.own i0 0 p_0.length)) 1 (.v (.int .i64 v_1))),⟨(upd h0 i0 (.cells 1 (p_0.flatMap (ci .i64)) 0)),64⟩⟩:St)∧yJ m p_0 v_1=some r) aY ?_ ?_ ?_)))
 · rintro s ⟨_,_,_,h⟩;cases h
 · refine ⟨_,?_,p_0,v_1,rfl,hm⟩;exact sD (bD 1 _ Z1 (bD 0 _ (sE Z1 Z6) nF)) (by simp only [aF7];try rfl)
 ·
  rintro n1 s ⟨p_0,v_1,rfl,hm⟩;replace hm:aBk (yJ n1) p_0 v_1=some r:=hm;unfold aBk at hm;refine AWp.seq' (sN 128 ?_)
  iterate 2 refine pA ?_
  obtain ⟨x2,h1,hm⟩:=bnd hm;refine pu rfl (iX underlying56 sz3 Z1 (by simp only [dM,beq_self_eq_true,Nat.reduceBEq,cond_true,cond_false];try rfl) Z6 Z1 h1) ?_;refine pu rfl (aAf (CFi .i64) Z1 (by simp only [dM,beq_self_eq_true,Nat.reduceBEq,cond_true,cond_false];try rfl) h1 (fun _=>by simp only [go_sem,Nat.reduceBEq];try with_reducible rfl)) ?_
  iterate 2 refine pA ?_
  refine fs (AWp.condM hm Z1 (fun _ hm=>?_) (fun _ hm=>?_))
  ·
   refine AWp.skip (bQ (AWp.block (sN 192 ?_)))
   iterate 5 refine pA ?_
   obtain ⟨x4,h3,hm⟩:=bnd hm;refine pu rfl (iX underlying56 sz3 Z1 (by simp only [dM,beq_self_eq_true,Nat.reduceBEq,cond_true,cond_false];try rfl) Z6 Z1 h3) ?_;refine pu rfl (aAf (CFi .i64) Z1 (by simp only [dM,beq_self_eq_true,Nat.reduceBEq,cond_true,cond_false];try rfl) h3 (fun _=>by simp only [go_sem,Nat.reduceBEq];try with_reducible rfl)) ?_;obtain ⟨x6,h5,hm⟩:=bnd hm;refine pu rfl (iX underlying56 sz3 Z1 (by simp only [dM,beq_self_eq_true,Nat.reduceBEq,cond_true,cond_false];try rfl) Z6 Z1 h5) ?_;refine pu rfl (aAf (CFi .i64) Z1 (by simp only [dM,beq_self_eq_true,Nat.reduceBEq,cond_true,cond_false];try rfl) h5 (fun _=>by simp only [go_sem,Nat.reduceBEq];try with_reducible rfl)) ?_;obtain ⟨x8,h7,hm⟩:=bnd hm;refine pu rfl (iX underlying56 sz3 Z1 (by simp only [dM,beq_self_eq_true,Nat.reduceBEq,cond_true,cond_false];try rfl) Z6 Z1 h7) ?_;obtain ⟨l10,h9,hm⟩:=bnd hm;have qh9:=nG h9;refine aR.heap0 (id:=138) rfl (aGl (CFi .i64) sz3 Z1 Z1 (by simp only [dM,beq_self_eq_true,Nat.reduceBEq,cond_true,cond_false];try rfl) rfl h9) ?_;refine fs (AWp.reg 64 (N':=256) rfl ?_)
   iterate 2 refine pA ?_
   obtain ⟨x12,h11,hm⟩:=bnd hm;refine pu rfl (iX underlying56 sz3 Z1 (by simp only [dM,beq_self_eq_true,Nat.reduceBEq,cond_true,cond_false];try rfl) Z6 Z1 h11) ?_;refine pu rfl (aAf (CFi .i64) Z1 (by simp only [dM,beq_self_eq_true,Nat.reduceBEq,cond_true,cond_false];try rfl) h11 (fun _=>by simp only [go_sem,Nat.reduceBEq];try with_reducible rfl)) ?_;refine pA ?_;refine aR.fin (jP (iA ?_));refine ⟨_,?_,l10,x12,rfl,hm⟩;exact sD (bD 1 _ Z1 (bD 0 _ (sE Z1 Z6) nF)) (by simp only [aF7];try rfl)
  ·
   refine AWp.exit (kE (jA (iS (bQ (sN 192 ?_)))))
   iterate 2 refine pA ?_
   refine fs (AWp.ret ?_);cases hm;exact bBl (.inr rfl) Tryz.results105 Z1 (by simp only [aF7];try rfl)
end Go.Proofs.YtkdohhmacfoolaaGreatDoor
namespace Go.Pl
theorem bQr{n:Int}(h1: -9223372036854775808≤n)(h2:n≤9223372036854775807):IntKind.i64.wrap n=n:=by rw [IntKind.wrap_i64];omega
theorem bYm{n:Int}(h1:0≤n)(h2:n≤18446744073709551615):IntKind.u64.wrap n=n:=by rw [IntKind.wrap_u64];omega
theorem decode_one(s:ByteArray)(pos:Nat)(h:pos<s.size):1≤(Utf8.decode s pos).2:=by
 by_cases ha:(s[pos]'h).toNat<128
 · rw [decode_ascii s pos h ha];exact Nat.le_refl _
 · exact (decode_high s pos h om).2
end Go.Pl
namespace Go.Pt
abbrev E:=Int×Int
inductive cO(l:List E):Int→Int→Prop where
  |refl (x:Int):cO l x x
  |fwd {x y z:Int} (e:(x,y)∈l) (h:cO l y z):cO l x z
  |bwd {x y z:Int} (e:(y,x)∈l) (h:cO l y z):cO l x z
variable {l l':List E}
theorem cO.trans{x y z:Int}(h:cO l x y)(k:cO l y z):cO l x z:=by
 induction h with
 |refl x=>exact k
 |fwd e _ ih=>exact .fwd e (ih k)
 |bwd e _ ih=>exact .bwd e (ih k)
theorem cO.one{x y:Int}(e:(x,y)∈l):cO l x y:= .fwd e (.refl _)
theorem cO.eno{x y:Int}(e:(x,y)∈l):cO l y x:= .bwd e (.refl _)
theorem cO.symm{x y:Int}(h:cO l x y):cO l y x:=by
 induction h with
 |refl x=>exact .refl x
 |fwd e _ ih=>exact ih.trans (.eno e)
 |bwd e _ ih=>exact ih.trans (.one e)
theorem cO.mono(hl: ∀e,e∈l→e∈l'){x y:Int}(h:cO l x y):cO l' x y:=by
 induction h with
 |refl x=>exact .refl x
 |fwd e _ ih=>exact .fwd (hl _ e) ih
 |bwd e _ ih=>exact .bwd (hl _ e) ih
theorem cO.bind(hl: ∀a b,(a,b)∈l→cO l' a b){x y:Int}(h:cO l x y):cO l' x y:=by
 induction h with
 |refl x=>exact .refl x
 |fwd e _ ih=>exact (hl _ _ e).trans ih
 |bwd e _ ih=>exact (hl _ _ e).symm.trans ih
theorem cO.nil{x y:Int}(h:cO [] x y):x=y:=by
 cases h with
 |refl=>rfl
 |fwd e _=>cases e
 |bwd e _=>cases e
theorem cO.cons_iff{e:E}{x y:Int} :cO (e::l) x y↔cO l x y∨(cO l x e.1∧cO l e.2 y)∨(cO l x e.2∧cO l e.1 y):=by
 constructor
 ·
  intro h
  induction h with
  |refl x=>exact .inl (.refl x)
  | @fwd a b c hm _ ih=>
   rcases List.mem_cons.1 hm with h|h
   ·
    subst h;rcases ih with ih|⟨i1,i2⟩|⟨i1,i2⟩
    · exact .inr (.inl ⟨.refl _,ih⟩)
    · exact .inr (.inl ⟨.refl _,i2⟩)
    · exact .inl i2
   ·
    rcases ih with ih|⟨i1,i2⟩|⟨i1,i2⟩
    · exact .inl (.fwd h ih)
    · exact .inr (.inl ⟨.fwd h i1,i2⟩)
    · exact .inr (.inr ⟨.fwd h i1,i2⟩)
  | @bwd a b c hm _ ih=>
   rcases List.mem_cons.1 hm with h|h
   ·
    subst h;rcases ih with ih|⟨i1,i2⟩|⟨i1,i2⟩
    · exact .inr (.inr ⟨.refl _,ih⟩)
    · exact .inl i2
    · exact .inr (.inr ⟨.refl _,i2⟩)
   ·
    rcases ih with ih|⟨i1,i2⟩|⟨i1,i2⟩
    · exact .inl (.bwd h ih)
    · exact .inr (.inl ⟨.bwd h i1,i2⟩)
    · exact .inr (.inr ⟨.bwd h i1,i2⟩)
 ·
  have m: ∀ {a b:Int},cO l a b→cO (e::l) a b:=fun h=>h.mono fun _ h=>List.mem_cons_of_mem _ h;have h1:cO (e::l) e.1 e.2:= .one (by simp);rintro (h|⟨h,k⟩|⟨h,k⟩)
  · exact m h
  · exact (m h).trans (h1.trans (m k))
  · exact (m h).trans (h1.symm.trans (m k))
theorem cO.range{n:Int}(hr: ∀e,e∈l→0≤e.1∧e.1<n∧0≤e.2∧e.2<n){x y:Int}(h:cO l x y)(hx:0≤x∧x<n):0≤y∧y<n:=by
 induction h with
 |refl x=>exact hx
 |fwd e _ ih=>have:=hr _ e;exact ih ⟨this.2.2.1,this.2.2.2⟩
 |bwd e _ ih=>have:=hr _ e;exact ih ⟨this.1,this.2.1⟩
def aBd(p:Int→Int)(u v:Int):Int→Int:=fun x=>if p x=max (p u) (p v) then min (p u) (p v) else p x
def jB(l:List E):Int→Int:=l.foldl (fun p e=>aBd p e.1 e.2) id
structure IsP(l:List E)(p:Int→Int):Prop where
  le: ∀x,p x≤x
  idem: ∀x,p (p x)=p x
  iff: ∀x y,p x=p y↔cO l x y
theorem IsP.nil:IsP [] id:=⟨fun _=>Int.le_refl _,fun _=>rfl,fun _ _=>⟨fun h=>by cases h;exact .refl _,fun h=>h.nil⟩⟩
theorem IsP.join{p:Int→Int}(h:IsP l p)(e:E):IsP (e::l) (aBd p e.1 e.2):=by
 have hmx:=Int.max_def (p e.1) (p e.2);have hmn:=Int.min_def (p e.1) (p e.2);refine ⟨fun x=>?_,fun x=>?_,fun x y=>?_⟩
 · have:=h.le x;unfold aBd;split<;>omega
 ·
  have i1:=h.idem x;have i2:=h.idem e.1;have i3:=h.idem e.2;unfold aBd
  by_cases c:p x=max (p e.1) (p e.2)
  ·
   simp only [c,if_true]
   have:p (min (p e.1) (p e.2))=min (p e.1) (p e.2):=by
    rcases Int.le_total (p e.1) (p e.2) with q|q
    · rw [Int.min_eq_left q,i2]
    · rw [Int.min_eq_right q,i3]
   rw [this];split<;>rfl
  · simp only [c,if_false];rw [i1,if_neg c]
 · rw [cO.cons_iff,←h.iff,←h.iff,←h.iff,←h.iff,←h.iff];unfold aBd;split<;>split<;>omega
theorem aSw(l:List E)(e:E):jB (l++[e])=aBd (jB l) e.1 e.2:=by simp [jB]
theorem IsP.congr{p:Int→Int}(h:IsP l p)(hc: ∀x y,cO l x y↔cO l' x y):IsP l' p:=⟨h.le,h.idem,fun x y=>(h.iff x y).trans (hc x y)⟩
theorem sQ(h: ∀e,e∈l↔e∈l')(x y:Int):cO l x y↔cO l' x y:=⟨fun k=>k.mono fun e he=>(h e).1 he,fun k=>k.mono fun e he=>(h e).2 he⟩
theorem isP(l:List E):IsP l (jB l):=by
 have key: ∀(n:Nat) (l:List E),l.length=n→IsP l (jB l):=by
  intro n
  induction n with
  |zero=>intro l h;cases l with|nil=>exact IsP.nil|cons=>simp at h
  |succ n ih=>
   intro l h;have hne:l≠[]:=fun e=>by subst e;simp at h
   obtain ⟨l',e,rfl⟩: ∃l' e,l=l'++[e]:=⟨l.dropLast,l.getLast hne,(List.dropLast_concat_getLast hne).symm⟩
   rw [aSw];refine ((ih _ (by simpa using h)).join _).congr (sQ fun e=>?_);simp [or_comm]
 exact key _ l rfl
theorem aD3(l:List E){x y:Int} :jB l x=jB l y↔cO l x y:=(isP l).iff x y
theorem aNa(l:List E)(x:Int):jB l x≤x:=(isP l).le x
theorem aLr(l:List E)(x:Int):jB l (jB l x)=jB l x:=(isP l).idem x
theorem aHh(l:List E)(x:Int):cO l x (jB l x):=((isP l).iff x _).1 (aLr l x).symm
theorem bB8(h: ∀x y,cO l x y↔cO l' x y):jB l=jB l':=by
 funext x;have a:jB l x=jB l (jB l' x):=(aD3 l).2 ((h _ _).2 (aHh l' x));have b:jB l' x=jB l' (jB l x):=(aD3 l').2 ((h _ _).1 (aHh l x));have c:=aNa l (jB l' x);have d:=aNa l' (jB l x);omega
theorem aEx{n:Int}(hr: ∀e,e∈l→0≤e.1∧e.1<n∧0≤e.2∧e.2<n){x:Int}(hx:0≤x∧x<n):0≤jB l x∧jB l x<n:=
 (aHh l x).range hr hx
theorem bB7{n:Int}(hr: ∀e,e∈l→0≤e.1∧e.1<n∧0≤e.2∧e.2<n){q:Int→Int}(h1: ∀x,0≤x→x<n→0≤q x∧q x≤x∧cO l x (q x))
 (h2: ∀e,e∈l→q e.1=q e.2): ∀x,0≤x→x<n→q x=jB l x:=by
 intro x hx hn;obtain ⟨a1,a2,a3⟩:=h1 x hx hn
 have key: ∀ {x y:Int},cO l x y→q x=q y:=by
  intro x y h
  induction h with
  |refl=>rfl
  |fwd e _ ih=>exact (h2 _ e).trans ih
  |bwd e _ ih=>exact (h2 _ e).symm.trans ih
 have b1:jB l x≤q x:=by rw [(aD3 l).2 a3];exact aNa _ _
 have pr:=aEx hr ⟨hx,hn⟩;obtain ⟨c1,c2,c3⟩:=h1 _ pr.1 pr.2;have b2:q x=q (jB l x):=key (aHh l x);omega
def cnt(n:Nat)(p:Int→Int):Nat:=(List.range n).countP fun (k:Nat)=>decide (p k=k)
def cl(n:Nat)(l:List E):Nat:=cnt n (jB l)
theorem aOe{f:Nat→Bool}{a:Nat} : ∀ {l:List Nat},l.Nodup→a∈l→f a=true→l.countP (fun k=>f k&&k !=a)+1=l.countP f
 |[],_,h,_=>by cases h
 |b::l,hn,hm,hf=>by
  rw [List.nodup_cons] at hn;rcases List.mem_cons.1 hm with h|h
  ·
   subst h
   have e:l.countP (fun k=>f k&&k !=a)=l.countP f:=List.countP_congr fun k hk=>by
    have:k≠a:=fun e=>hn.1 (e▸hk);simp [this]
   simp [List.countP_cons,hf,e]
  ·
   have hb:b≠a:=fun e=>hn.1 (e▸h);have:=aOe hn.2 h hf;simp only [List.countP_cons];have e:(f b&&b !=a)=f b:=by simp [hb]
   rw [e];omega
theorem bMv{n:Nat}{p:Int→Int}(hid: ∀x,p (p x)=p x){u v:Int}(hu:0≤p u∧p u<n)(hv:0≤p v∧p v<n):
 cnt n (aBd p u v)+(if p u=p v then 0 else 1)=cnt n p:=by
 have hmx:=Int.max_def (p u) (p v);have hmn:=Int.min_def (p u) (p v);split
 ·
  rename_i h;have:aBd p u v=p:=by funext x;unfold aBd;split<;>omega
  rw [this];rfl
 ·
  rename_i h;unfold cnt;have hM:((max (p u) (p v)).toNat:Int)=max (p u) (p v):=by omega
  have hpM:p (max (p u) (p v))=max (p u) (p v):=by
   rcases Int.le_total (p u) (p v) with q|q
   · rw [Int.max_eq_right q,hid]
   · rw [Int.max_eq_left q,hid]
  rw [←aOe (f:=fun (k:Nat)=>decide (p k=k)) (a:=(max (p u) (p v)).toNat) List.nodup_range (by rw [List.mem_range];omega) (by rw [hM,hpM];simp)];refine congrArg (· +1) (List.countP_congr fun k _=>?_);have i1:=hid u;have i2:=hid v;simp only [decide_eq_true_eq,Bool.and_eq_true,bne_iff_ne,ne_eq];unfold aBd;constructor
  ·
   intro hk;split at hk
   ·
    rename_i c
    exfalso
    have:p (min (p u) (p v))=min (p u) (p v):=by
     rcases Int.le_total (p u) (p v) with q|q
     · rw [Int.min_eq_left q,i1]
     · rw [Int.min_eq_right q,i2]
    rw [hk,c] at this;omega
   · rename_i c;refine ⟨hk,fun e=>c ?_⟩;rw [hk];omega
  · rintro ⟨hk,hne⟩;rw [if_neg (fun c=>hne (by omega))];exact hk
def InR(n:Nat)(l:List E):Prop:= ∀e,e∈l→0≤e.1∧e.1<(n:Int)∧0≤e.2∧e.2<(n:Int)
theorem aZu{n:Nat}(h: ∀x y,cO l x y↔cO l' x y):cl n l=cl n l':=by unfold cl;rw [bB8 h]
theorem bMs(n:Nat):cl n []=n:=by
 unfold cl cnt;have:(fun (k:Nat)=>decide (jB [] (k:Int)=(k:Int)))=fun _=>true:=by funext k;simp [jB]
 rw [this,List.countP_true,List.length_range]
theorem aWx{n:Nat}{e:E}(hr:InR n (e::l)):cl n (e::l)+(if jB l e.1=jB l e.2 then 0 else 1)=cl n l:=by
 have h1:=hr e (by simp);have hl:InR n l:=fun x hx=>hr x (by simp [hx])
 have:cl n (e::l)=cnt n (aBd (jB l) e.1 e.2):=by
  rw [←aSw];exact aZu (sQ fun x=>by simp [or_comm])
 rw [this];exact bMv (aLr l) (aEx hl ⟨h1.1,h1.2.1⟩) (aEx hl ⟨h1.2.2.1,h1.2.2.2⟩)
theorem aZv{n:Nat}{e:E}(hr:InR n (e::l))(h:cO l e.1 e.2):cl n (e::l)=cl n l:=by
 have:=aWx hr;rw [if_pos ((aD3 l).2 h)] at this;omega
theorem bD6{n:Nat}{e:E}(hr:InR n (e::l))(h: ¬cO l e.1 e.2):cl n (e::l)+1=cl n l:=by
 have:=aWx hr;rw [if_neg (fun c=>h ((aD3 l).1 c))] at this;omega
theorem InR.tail{n:Nat}{e:E}(h:InR n (e::l)):InR n l:=fun x hx=>h x (by simp [hx])
theorem bV8{n:Nat} : ∀ {l:List E},InR n l→n≤cl n l+l.length
 |[],_=>by rw [bMs];simp
 |e::l,hr=>by
  have h1:=aWx hr;have h2:=bV8 hr.tail;simp only [List.length_cons];split at h1<;>omega
theorem bRo{n:Nat}(h:l.Perm l'):cl n l=cl n l':=aZu (sQ fun e=>h.mem_iff)
theorem InR.perm{n:Nat}(hr:InR n l)(h:l.Perm l'):InR n l':=fun e he=>hr e (h.mem_iff.2 he)
def eN(n:Nat)(l:List E):Prop:=cl n l+l.length=n
theorem eN.cons{n:Nat}{e:E}(hr:InR n (e::l)):eN n (e::l)↔eN n l∧ ¬cO l e.1 e.2:=by
 unfold eN;have h2:=bV8 hr.tail;simp only [List.length_cons]
 by_cases h:cO l e.1 e.2
 ·
  have:=aZv hr h;constructor
  · intro;omega
  · rintro ⟨_,k⟩;exact absurd h k
 ·
  have:=bD6 hr h;constructor
  · intro;exact ⟨by omega,h⟩
  · rintro ⟨_,_⟩;omega
theorem eN.perm{n:Nat}(h:eN n l)(hp:l.Perm l'):eN n l':=by unfold eN at *; rw [←bRo hp,←hp.length_eq];exact h
theorem eN.nil(n:Nat):eN n []:=by unfold eN;rw [bMs];rfl
theorem eN.sublist{n:Nat}(hr:InR n l)(h:eN n l): ∀ {l':List E},l'.Sublist l→eN n l':=by
 intro l' hs
 induction hs with
 |slnil=>exact h
 |cons a _ ih=>exact ih hr.tail ((eN.cons hr).1 h).1
 |cons_cons a hs ih=>
  have h1:=(eN.cons hr).1 h;refine (eN.cons (fun x hx=>hr x ?_)).2 ⟨ih hr.tail h1.1,fun c=>h1.2 (c.mono fun e he=>hs.subset he)⟩;rcases List.mem_cons.1 hx with h|h
  · simp [h]
  · simp [hs.subset h]
theorem bLi{t:E}{a b:Int}(h:cO (t::l) a b)(hn: ¬cO l a b)(x y:Int):cO ((a,b)::l) x y↔cO (t::l) x y:=by
 rcases cO.cons_iff.1 h with h|⟨h1,h2⟩|⟨h1,h2⟩
 · exact absurd h hn
 all_goals
  constructor
  ·
   refine fun k=>k.bind fun c d hm=>?_;rcases List.mem_cons.1 hm with e|e
   · cases e;exact h
   · exact .one (by simp [e])
  ·
   refine fun k=>k.bind fun c d hm=>?_;rcases List.mem_cons.1 hm with e|e
   ·
    subst e;have m: ∀ {x y:Int},cO l x y→cO ((a,b)::l) x y:=fun h=>h.mono fun _ h=>List.mem_cons_of_mem _ h;have o:cO ((a,b)::l) a b:= .one (by simp)
    first
     |exact (m h1).symm.trans (o.trans (m h2).symm)
     |exact (m h2).trans (o.symm.trans (m h1))
   · exact .one (by simp [e])
end Go.Pt
namespace Go.Pt
variable {l:List E}{n:Nat}
def Tch(l:List E)(i:Nat)(x y:Int):Prop:=l[i]? =some (x,y)∨l[i]? =some (y,x)
theorem Tch.symm{i:Nat}{x y:Int}(h:Tch l i x y):Tch l i y x:=h.elim .inr .inl
theorem Tch.lt{i:Nat}{x y:Int}(h:Tch l i x y):i<l.length:=by
 rcases h with h|h<;>exact (List.getElem?_eq_some_iff.1 h).1
theorem Tch.conn{i:Nat}{x y:Int}(h:Tch l i x y):cO l x y:=by
 rcases h with h|h
 · exact .one (List.mem_of_getElem? h)
 · exact .eno (List.mem_of_getElem? h)
def Br(l:List E)(u v:Int)(i:Nat):Prop:=i<l.length∧ ¬cO (l.eraseIdx i) u v
theorem aVs{i j:Nat}{e:E}(h:l[j]? =some e)(hij:j≠i):e∈l.eraseIdx i:=by
 rw [List.mem_eraseIdx_iff_getElem?];exact ⟨j,hij,h⟩
theorem Tch.conn_erase{i j:Nat}{x y:Int}(h:Tch l j x y)(hij:j≠i):cO (l.eraseIdx i) x y:=by
 rcases h with h|h
 · exact .one (aVs h hij)
 · exact .eno (aVs h hij)
theorem aDh{i:Nat}{e:E}(h:l[i]? =some e):l.Perm (e::l.eraseIdx i):=by
 obtain ⟨hi,he⟩:=List.getElem?_eq_some_iff.1 h;rw [List.eraseIdx_eq_take_drop_succ];have:l=l.take i++e::l.drop (i+1):=by rw [←he,List.getElem_cons_drop,List.take_append_drop]
 exact (List.Perm.of_eq this).trans List.perm_middle
theorem aIf{i:Nat}{e:E}(h:l[i]? =some e)(x y:Int):cO l x y↔cO (e::l.eraseIdx i) x y:=sQ (fun _=>(aDh h).mem_iff) x y
theorem eN.bridge(hr:InR n l)(hf:eN n l){i:Nat}{x y:Int}(h:Tch l i x y): ¬cO (l.eraseIdx i) x y:=by
 rcases h with h|h
 · exact ((eN.cons (hr.perm (aDh h))).1 (hf.perm (aDh h))).2
 · exact fun c=>((eN.cons (hr.perm (aDh h))).1 (hf.perm (aDh h))).2 c.symm
theorem aT9{i:Nat}{x y:Int}(h:Tch l i x y){a b:Int}(hc:cO l a b):cO (l.eraseIdx i) a b∨(cO (l.eraseIdx i) a x∧cO (l.eraseIdx i) y b)∨(cO (l.eraseIdx i) a y∧cO (l.eraseIdx i) x b):=by
 rcases h with h|h
 · exact cO.cons_iff.1 ((aIf h _ _).1 hc)
 ·
  rcases cO.cons_iff.1 ((aIf h _ _).1 hc) with h|h|h
  · exact .inl h
  · exact .inr (.inr h)
  · exact .inr (.inl h)
theorem aVb(hr:InR n l)(hf:eN n l){x v y y':Int}{i j:Nat}(hi:Tch l i x y)(hj:Tch l j x y')(bi:Br l x v i)(bj:Br l x v j)(hc:cO l x v):i=j:=by
 refine Classical.byContradiction fun hij=>?_
 have hy:cO (l.eraseIdx i) y v:=by
  rcases aT9 hi hc with h|⟨_,h⟩|⟨h,_⟩
  · exact absurd h bi.2
  · exact h
  · exact absurd h (hf.bridge hr hi)
 have hxy':cO (l.eraseIdx i) x y':=hj.conn_erase (fun h=>hij h.symm)
 have hj': ∃k,Tch (l.eraseIdx i) k x y'∧ ∀a b,cO ((l.eraseIdx i).eraseIdx k) a b→cO (l.eraseIdx j) a b:=by
  by_cases hlt:j<i
  ·
   refine ⟨j,?_,fun a b h=>h.mono fun e he=>?_⟩
   ·
    rcases hj with h|h
    · exact .inl (by rw [List.getElem?_eraseIdx_of_lt hlt,h])
    · exact .inr (by rw [List.getElem?_eraseIdx_of_lt hlt,h])
   ·
    rw [List.mem_eraseIdx_iff_getElem?] at he⊢;obtain ⟨k,h1,h2⟩:=he;rw [List.getElem?_eraseIdx] at h2;split at h2
    · exact ⟨k,h1,h2⟩
    · exact ⟨k+1,by omega,h2⟩
  ·
   refine ⟨j-1,?_,fun a b h=>h.mono fun e he=>?_⟩
   ·
    have e:j-1+1=j:=by omega
    rcases hj with h|h
    · exact .inl (by rw [List.getElem?_eraseIdx_of_ge (by omega),e,h])
    · exact .inr (by rw [List.getElem?_eraseIdx_of_ge (by omega),e,h])
   ·
    rw [List.mem_eraseIdx_iff_getElem?] at he⊢;obtain ⟨k,h1,h2⟩:=he;rw [List.getElem?_eraseIdx] at h2;split at h2
    · exact ⟨k,by omega,h2⟩
    · exact ⟨k+1,by omega,h2⟩
 obtain ⟨k,hk,hsub⟩:=hj';have hxi:cO (l.eraseIdx j) x y:=hi.conn_erase hij;rcases aT9 hk hy with h|⟨_,h⟩|⟨_,h⟩
 · exact bj.2 (hxi.trans (hsub _ _ h))
 ·
  
  rename_i h0;exact hf.bridge hr hi (h0.mono fun e he=>List.mem_of_mem_eraseIdx he).symm
 · exact bj.2 (hsub _ _ h)
theorem aWu(hr:InR n l)(hf:eN n l){x v y:Int}{i:Nat}(hi:Tch l i x y)(bi:Br l x v i)(hc:cO l x v)(j:Nat):Br l y v j↔Br l x v j∧j≠i:=by
 have hy:cO (l.eraseIdx i) y v:=by
  rcases aT9 hi hc with h|⟨_,h⟩|⟨h,_⟩
  · exact absurd h bi.2
  · exact h
  · exact absurd h (hf.bridge hr hi)
 by_cases h:j=i
 · subst h;exact ⟨fun h=>absurd hy h.2,fun h=>absurd rfl h.2⟩
 · have hxy:cO (l.eraseIdx j) x y:=hi.conn_erase (fun k=>h k.symm);exact ⟨fun k=>⟨⟨k.1,fun c=>k.2 (hxy.symm.trans c)⟩,h⟩,fun k=>⟨k.1.1,fun c=>k.1.2 (hxy.trans c)⟩⟩
theorem bRl(hr:InR n l)(hf:eN n l){x v y:Int}{i:Nat}(hi:Tch l i x y)(bi: ¬Br l x v i)(j:Nat):Br l y v j↔Br l x v j∨j=i:=by
 have hx:cO (l.eraseIdx i) x v:=Classical.byContradiction fun c=>bi ⟨hi.lt,c⟩
 by_cases h:j=i
 · subst h;exact ⟨fun _=> .inr rfl,fun _=>⟨hi.lt,fun c=>hf.bridge hr hi (hx.trans c.symm)⟩⟩
 · have hxy:cO (l.eraseIdx j) x y:=hi.conn_erase (fun k=>h k.symm);exact ⟨fun k=> .inl ⟨k.1,fun c=>k.2 (hxy.symm.trans c)⟩,fun k=>(k.resolve_right h).elim fun k1 k2=>⟨k1,fun c=>k2 (hxy.trans c)⟩⟩
theorem aWt{v:Int}(j:Nat): ¬Br l v v j:=fun h=>h.2 (.refl _)
open Classical in
noncomputable def dep (l:List E) (u v:Int):Nat:=(List.range l.length).countP fun i=>decide (Br l u v i)
open Classical in
theorem bN8(hr:InR n l)(hf:eN n l){x v y:Int}{i:Nat}(hi:Tch l i x y)(bi:Br l x v i)(hc:cO l x v):dep l y v+1=dep l x v:=by
 unfold dep;rw [←aOe (f:=fun i=>decide (Br l x v i)) (a:=i) List.nodup_range (List.mem_range.2 hi.lt) (by simpa using bi)];refine congrArg (· +1) (List.countP_congr fun k _=>?_);simp [aWu hr hf hi bi hc]
theorem bWm(l:List E)(u v:Int):dep l u v≤l.length:=by
 unfold dep;exact Nat.le_trans List.countP_le_length (by simp)
end Go.Pt
namespace Go.Pl
open Go.Proofs.Tryz Go Go.AM
variable {α β:Type}
theorem mD(l:List α)(k:Nat):idx l (k:Int)=l[k]? :=by simp [idx]
theorem xK{l:List α}{i:Int}{k:Nat}(h:i=k):idx l i=l[k]? :=by subst h;exact mD l k
theorem cN{l:List α}{k:Nat}(h:k<l.length):idx l (k:Int)=some l[k]:=by rw [mD];exact List.getElem?_eq_getElem h
theorem uZ{l:List α}{k:Nat}(h:k<l.length)(x:α):stt l (k:Int) x=some (l.set k x):=by
 unfold stt;rw [if_pos ⟨by omega,by omega⟩];simp
theorem bFe{l:List α}{i:Int}{k:Nat}(hi:i=k)(h:k<l.length)(x:α):stt l i x=some (l.set k x):=by subst hi;exact uZ h x
theorem wr1(k:Nat)(h:k<4611686018427387904):IntKind.i64.wrap ((k:Int)+1)=((k+1:Nat):Int):=by rw [bQr om om];omega
theorem wr0{n:Int}(h1: -4611686018427387904≤n)(h2:n≤4611686018427387904):IntKind.i64.wrap n=n:=bQr om om
theorem aA(x:α)(f:α→Option β):(some x).bind f=f x:=by cases h:f x<;>simp [h]
theorem bt{c:Bool}{x y:β}(h:c=true):(bif c then x else y)=x:=by subst h;simp
theorem bf{c:Bool}{x y:β}(h:c=false):(bif c then x else y)=y:=by subst h;simp
theorem gt'{b:Bool}{d:α}{o:Option α}(h:b=true):eJ b d o=o:=by subst h;simp [eJ]
theorem gf'{b:Bool}{d:α}{o:Option α}(h:b=false):eJ b d o=some d:=by subst h;simp [eJ]
theorem ck{b:Bool}(h:b=true):chk b=some ():=by subst h;simp [chk]
theorem bFx{b:Nat}{l xs:List α}(h:(l.length+xs.length)*b≤140737488355328):aWn b l xs=some (l++xs):=by unfold aWn;rw [if_pos h]
theorem gG{l xs:List α}(h:l.length+xs.length≤4294967296):app l xs=some (l++xs):=by unfold app;rw [if_pos h]
theorem bEs{n:Int}(h:0≤n)(h':n≤4294967296)(z:α):mkc n n z=some (List.replicate n.toNat z):=by unfold mkc;rw [if_pos ⟨h,Int.le_refl _,h'⟩]
theorem aH9{n c:Int}{k:Nat}(h:n=k)(hc:n≤c)(h':c≤4294967296)(z:α):mkc n c z=some (List.replicate k z):=by
 subst h;unfold mkc;rw [if_pos ⟨by omega,hc,h'⟩];simp
theorem aYr{l:List α}{lo hi:Int}{a b:Nat}(h1:lo=a)(h2:hi=b)(h3:a≤b)(h4:b≤l.length):slc l lo hi=some ((l.drop a).take (b-a)):=by
 subst h1;subst h2;unfold slc;rw [if_pos ⟨by omega,by omega,by omega⟩];simp
theorem wF{l:List α}{lo:Int}{a:Nat}(h1:lo=a)(h4:a≤l.length):slc l lo (l.length:Int)=some (l.drop a):=by
 rw [aYr h1 rfl h4 (Nat.le_refl _)];congr 1;apply List.take_of_length_le;simp
theorem aCb{l:List α}{hi:Int}{b:Nat}(h2:hi=b)(h4:b≤l.length):slc l 0 hi=some (l.take b):=by
 have:=aYr (l:=l) (lo:=((0:Nat):Int)) (a:=0) rfl h2 (Nat.zero_le _) h4
 simpa using this
theorem dZ{l:List α}{k:Nat}(h:k<l.length):l.drop k=l[k]::l.drop (k+1):=List.drop_eq_getElem_cons h
theorem vC{l:List α}{k:Nat}(h:k<l.length):l.take (k+1)=l.take k++[l[k]]:=by rw [List.take_add_one,List.getElem?_eq_getElem h];rfl
theorem aMc:(1000000000:Nat)<aY:=by unfold aY;decide
def tab(n:Int)(f:Int→Int):List Int:=(List.range n.toNat).map fun (k:Nat)=>f (k:Int)
theorem aCx(n:Int)(f:Int→Int):(tab n f).length=n.toNat:=by simp [tab]
theorem aRj{n:Int}{f:Int→Int}{k:Nat}(h:(k:Int)<n):(tab n f)[k]? =some (f k):=by
 unfold tab;rw [List.getElem?_map,List.getElem?_range om];rfl
theorem aRk{n:Int}{f:Int→Int}{x:Int}(h0:0≤x)(h:x<n):idx (tab n f) x=some (f x):=by
 rw [xK (k:=x.toNat) om,aRj om];congr 2;omega
theorem bDn{n:Int}{f:Int→Int}{p:List Int}(hl:p.length=n.toNat)(h: ∀k:Nat,(k:Int)<n→p[k]? =some (f k)):p=tab n f:=by
 apply List.ext_getElem?;intro k
 by_cases hk:k<p.length
 · rw [h k om,aRj om]
 · rw [List.getElem?_eq_none om,List.getElem?_eq_none (by rw [aCx];omega)]
end Go.Pl
