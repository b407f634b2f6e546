/- Facts. No condition. -/
import Derived.Test.YtkdohhmacfoolaaGreatDoorOcRun
import Derived.Laws.RangeAny
set_option linter.unusedVariables false
set_option linter.unusedSimpArgs false
namespace Go.Proofs.YtkdohhmacfoolaaGreatDoor
open Go.Proofs.Tryz Go Go.RowKit Go.Lib Go.AM
set_option maxRecDepth 100000
set_option maxHeartbeats 2000000
theorem bKo{text:ByteArray}{xs:List AV}{ln:Nat}{n:Nat}{e:Int}(he:e≠0)(hn:n<100){told:ByteArray}(ht:told.size≤1000)(hi:(Lib.decDigits n).length≤1000)(hL:bN prog 68 [.v (.string text)] (.tup [.sl xs ln false,.v (.int .i64 n),.v (.int .i64 e)]))
 (hT: ∀w,Calls prog 59 #[.iface 36 (.int .i64 e)] w fun e w'=>e= .returned (.string told)∧Below w.heap.size w w')
 {w:World} {X:Nat→Nat→Prop} (hX: ∀b i,X b i→b<w.heap.size) (W:Value):
 Calls prog 32 #[.string text,W] w fun e w'=>e= .returned (.string (told++⟨#[32,97,116,32]⟩++⟨(Lib.decDigits n).toArray⟩++⟨#[10]⟩))∧Below w.heap.size w w':=by
 have mixed:=Tryz.lays169.mixed;have u36:=run_underlying underlying36;have u3:=run_underlying underlying3;have u9:=run_underlying underlying9;have e0: ∀args w,(callFunc 68 args).run prog w= .ok (.enter 68 args) w:=enters_of func68 (by kernel_rfl) rfl;have e1: ∀args w,(callFunc 59 args).run prog w= .ok (.enter 59 args) w:=enters_of func59 (by kernel_rfl) rfl;have e2: ∀args w,(callFunc 69 args).run prog w= .ok (.enter 69 args) w:=enters_of func69 (by kernel_rfl) rfl
 go_enter func32,ntmps32
 go_wp2_with (go_at_fn 68;refine (aQf hL hX).mono ?_)
 rintro e' w1 ⟨V,rfl,hV,hb1⟩;clear hV
 go_wp2_with fail
 refine (hT w1).mono ?_;rintro e' w2 ⟨rfl,hb2⟩;have Hb2:=mR (hb1.trans (hb2.mono hb1.size));clear hb2
 go_wp2_with fail
 refine (Tryz.strconv_Itoa_small n hn w2).mono ?_;rintro e' w' ⟨rfl,rfl⟩
 go_wp2
 go_ret
 exact ⟨rfl,Hb2.out⟩
end Go.Proofs.YtkdohhmacfoolaaGreatDoor
set_option maxRecDepth 20000
set_option maxHeartbeats 4000000
namespace Go.Proofs.YtkdohhmacfoolaaGreatDoor
open Go.Proofs.Tryz Go Go.AM
@[go_sem] theorem bJo(H:aG)(x:AV)(xs:List AV):cE prog H 3 (.ptr (x::xs))=some x:=by kernel_rfl
def vF(rec1:List Int→Int→Option (Int×List Int))(p_0:List Int)(v_1:Int):Option (Int×List Int):=
 ((idx p_0 v_1).bind fun x2=>
 (bif (x2 !=v_1) then
  ((idx p_0 v_1).bind fun x4=>
  ((idx p_0 x4).bind fun x6=>
  ((idx p_0 v_1).bind fun x8=>
  ((stt p_0 v_1 x6).bind fun l10=>
  ((idx l10 v_1).bind fun x12=>
  rec1 l10 x12)))))
 else
  some (v_1,p_0)))
def rQ:Nat→List Int→Int→Option (Int×List Int)
 |0=>fun _ _=>none
 |n+1=>vF (rQ n)
def aCm(p_0:List Int)(v_1:Int):Option (Int×List Int):=
 rQ bF p_0 v_1
theorem aYe{p_0:List Int}{v_1:Int}{r:Int×List Int}(hm:aCm p_0 v_1=some r){H:aG}{i0:Nat}(he:H.ent i0= .cells 1 (p_0.flatMap (ci .i64)) 0):dW prog 105 [.own i0 0 p_0.length,.v (.int .i64 v_1)] H (.v (.int .i64 r.1)) (H.put i0 (.cells 1 (r.2.flatMap (ci .i64)) 0)):=by
 refine dW.of_bodyM func105 rfl he ?_;generalize H.ent=h0;simp only [ntmps105,List.length_cons,List.length_nil,Nat.reduceAdd,Nat.reduceSub];unfold aCm at hm;refine sN 64 (pA ?_);refine fs (AWp.seq' (AWp.block (AWp.loopM (fun m s=> ∃(p_0:List Int) (v_1:Int),s=(⟨26,(aF (aF (fun _=>AV.any) 0 (.own i0 0 p_0.length)) 1 (.v (.int .i64 v_1))),⟨(upd h0 i0 (.cells 1 (p_0.flatMap (ci .i64)) 0)),64⟩⟩:St)∧rQ m p_0 v_1=some r) bF ?_ ?_ ?_)))
 · rintro s ⟨_,_,_,h⟩;cases h
 · refine ⟨_,?_,p_0,v_1,rfl,hm⟩;exact vR (bR 1 _ Z1 (bR 0 _ (vU Z1 Z6) qU)) (by simp only [aM3];try rfl)
 ·
  rintro n1 s ⟨p_0,v_1,rfl,hm⟩;replace hm:vF (rQ n1) p_0 v_1=some r:=hm;unfold vF at hm;refine AWp.seq' (sN 128 ?_)
  iterate 2 refine pA ?_
  obtain ⟨x2,h1,hm⟩:=bnd hm;refine pu rfl (eI underlying56 sz3 Z1 (by simp only [cP,beq_self_eq_true,Nat.reduceBEq,cond_true,cond_false];try rfl) Z6 Z1 h1) ?_;refine pu rfl (mW (CFi .i64) Z1 (by simp only [cP,beq_self_eq_true,Nat.reduceBEq,cond_true,cond_false];try rfl) h1 (fun _=>by simp only [go_sem,Nat.reduceBEq];try with_reducible rfl)) ?_
  iterate 2 refine pA ?_
  refine fs (AWp.condM hm Z1 (fun _ hm=>?_) (fun _ hm=>?_))
  ·
   refine AWp.skip (bM (AWp.block (sN 192 ?_)))
   iterate 5 refine pA ?_
   obtain ⟨x4,h3,hm⟩:=bnd hm;refine pu rfl (eI underlying56 sz3 Z1 (by simp only [cP,beq_self_eq_true,Nat.reduceBEq,cond_true,cond_false];try rfl) Z6 Z1 h3) ?_;refine pu rfl (mW (CFi .i64) Z1 (by simp only [cP,beq_self_eq_true,Nat.reduceBEq,cond_true,cond_false];try rfl) h3 (fun _=>by simp only [go_sem,Nat.reduceBEq];try with_reducible rfl)) ?_;obtain ⟨x6,h5,hm⟩:=bnd hm;refine pu rfl (eI underlying56 sz3 Z1 (by simp only [cP,beq_self_eq_true,Nat.reduceBEq,cond_true,cond_false];try rfl) Z6 Z1 h5) ?_;refine pu rfl (mW (CFi .i64) Z1 (by simp only [cP,beq_self_eq_true,Nat.reduceBEq,cond_true,cond_false];try rfl) h5 (fun _=>by simp only [go_sem,Nat.reduceBEq];try with_reducible rfl)) ?_;obtain ⟨x8,h7,hm⟩:=bnd hm;refine pu rfl (eI underlying56 sz3 Z1 (by simp only [cP,beq_self_eq_true,Nat.reduceBEq,cond_true,cond_false];try rfl) Z6 Z1 h7) ?_;obtain ⟨l10,h9,hm⟩:=bnd hm;have qh9:=kM h9;refine aV.heap0 (id:=138) rfl (yB (CFi .i64) sz3 Z1 Z1 (by simp only [cP,beq_self_eq_true,Nat.reduceBEq,cond_true,cond_false];try rfl) rfl h9) ?_;refine fs (AWp.reg 64 (N':=256) rfl ?_)
   iterate 2 refine pA ?_
   obtain ⟨x12,h11,hm⟩:=bnd hm;refine pu rfl (eI underlying56 sz3 Z1 (by simp only [cP,beq_self_eq_true,Nat.reduceBEq,cond_true,cond_false];try rfl) Z6 Z1 h11) ?_;refine pu rfl (mW (CFi .i64) Z1 (by simp only [cP,beq_self_eq_true,Nat.reduceBEq,cond_true,cond_false];try rfl) h11 (fun _=>by simp only [go_sem,Nat.reduceBEq];try with_reducible rfl)) ?_;refine pA ?_;refine aV.fin (hY (fK ?_));refine ⟨_,?_,l10,x12,rfl,hm⟩;exact vR (bR 1 _ Z1 (bR 0 _ (vU Z1 Z6) qU)) (by simp only [aM3];try rfl)
  ·
   refine AWp.exit (iH (fO (fN (bM (sN 192 ?_)))))
   iterate 2 refine pA ?_
   refine fs (AWp.ret ?_);cases hm;exact bQa (.inr rfl) Tryz.results105 Z1 (by simp only [aM3];try rfl)
end Go.Proofs.YtkdohhmacfoolaaGreatDoor
namespace Go.Pl
theorem bHo{n:Int}(h1: -9223372036854775808≤n)(h2:n≤9223372036854775807):IntKind.i64.wrap n=n:=by rw [IntKind.wrap_i64];omega
theorem bOd{n:Int}(h1:0≤n)(h2:n≤18446744073709551615):IntKind.u64.wrap n=n:=by rw [IntKind.wrap_u64];omega
end Go.Pl
namespace Go.Pt
abbrev E:=Int×Int
inductive bO(l:List E):Int→Int→Prop where
  |refl (x:Int):bO l x x
  |fwd {x y z:Int} (e:(x,y)∈l) (h:bO l y z):bO l x z
  |bwd {x y z:Int} (e:(y,x)∈l) (h:bO l y z):bO l x z
variable {l l':List E}
theorem bO.trans{x y z:Int}(h:bO l x y)(k:bO l y z):bO l x z:=by
 induction h with
 |refl x=>exact k
 |fwd e _ ih=>exact .fwd e (ih k)
 |bwd e _ ih=>exact .bwd e (ih k)
theorem bO.one{x y:Int}(e:(x,y)∈l):bO l x y:= .fwd e (.refl _)
theorem bO.eno{x y:Int}(e:(x,y)∈l):bO l y x:= .bwd e (.refl _)
theorem bO.symm{x y:Int}(h:bO l x y):bO l y x:=by
 induction h with
 |refl x=>exact .refl x
 |fwd e _ ih=>exact ih.trans (.eno e)
 |bwd e _ ih=>exact ih.trans (.one e)
theorem bO.mono(hl: ∀e,e∈l→e∈l'){x y:Int}(h:bO l x y):bO l' x y:=by
 induction h with
 |refl x=>exact .refl x
 |fwd e _ ih=>exact .fwd (hl _ e) ih
 |bwd e _ ih=>exact .bwd (hl _ e) ih
theorem bO.bind(hl: ∀a b,(a,b)∈l→bO l' a b){x y:Int}(h:bO l x y):bO l' x y:=by
 induction h with
 |refl x=>exact .refl x
 |fwd e _ ih=>exact (hl _ _ e).trans ih
 |bwd e _ ih=>exact (hl _ _ e).symm.trans ih
theorem bO.nil{x y:Int}(h:bO [] x y):x=y:=by
 cases h with
 |refl=>rfl
 |fwd e _=>cases e
 |bwd e _=>cases e
theorem bO.cons_iff{e:E}{x y:Int} :bO (e::l) x y↔bO l x y∨(bO l x e.1∧bO l e.2 y)∨(bO l x e.2∧bO l e.1 y):=by
 constructor
 ·
  intro h
  induction h with
  |refl x=>exact .inl (.refl x)
  | @fwd a b c hm _ ih=>
   rcases List.mem_cons.1 hm with h|h
   ·
    subst h;rcases ih with ih|⟨i1,i2⟩|⟨i1,i2⟩
    · exact .inr (.inl ⟨.refl _,ih⟩)
    · exact .inr (.inl ⟨.refl _,i2⟩)
    · exact .inl i2
   ·
    rcases ih with ih|⟨i1,i2⟩|⟨i1,i2⟩
    · exact .inl (.fwd h ih)
    · exact .inr (.inl ⟨.fwd h i1,i2⟩)
    · exact .inr (.inr ⟨.fwd h i1,i2⟩)
  | @bwd a b c hm _ ih=>
   rcases List.mem_cons.1 hm with h|h
   ·
    subst h;rcases ih with ih|⟨i1,i2⟩|⟨i1,i2⟩
    · exact .inr (.inr ⟨.refl _,ih⟩)
    · exact .inl i2
    · exact .inr (.inr ⟨.refl _,i2⟩)
   ·
    rcases ih with ih|⟨i1,i2⟩|⟨i1,i2⟩
    · exact .inl (.bwd h ih)
    · exact .inr (.inl ⟨.bwd h i1,i2⟩)
    · exact .inr (.inr ⟨.bwd h i1,i2⟩)
 ·
  have m: ∀ {a b:Int},bO l a b→bO (e::l) a b:=fun h=>h.mono fun _ h=>List.mem_cons_of_mem _ h;have h1:bO (e::l) e.1 e.2:= .one (by simp);rintro (h|⟨h,k⟩|⟨h,k⟩)
  · exact m h
  · exact (m h).trans (h1.trans (m k))
  · exact (m h).trans (h1.symm.trans (m k))
theorem bO.range{n:Int}(hr: ∀e,e∈l→0≤e.1∧e.1<n∧0≤e.2∧e.2<n){x y:Int}(h:bO l x y)(hx:0≤x∧x<n):0≤y∧y<n:=by
 induction h with
 |refl x=>exact hx
 |fwd e _ ih=>have:=hr _ e;exact ih ⟨this.2.2.1,this.2.2.2⟩
 |bwd e _ ih=>have:=hr _ e;exact ih ⟨this.1,this.2.1⟩
def uX(p:Int→Int)(u v:Int):Int→Int:=fun x=>if p x=max (p u) (p v) then min (p u) (p v) else p x
def dR(l:List E):Int→Int:=l.foldl (fun p e=>uX p e.1 e.2) id
structure IsP(l:List E)(p:Int→Int):Prop where
  le: ∀x,p x≤x
  idem: ∀x,p (p x)=p x
  iff: ∀x y,p x=p y↔bO l x y
theorem IsP.nil:IsP [] id:=⟨fun _=>Int.le_refl _,fun _=>rfl,fun _ _=>⟨fun h=>by cases h;exact .refl _,fun h=>h.nil⟩⟩
theorem IsP.join{p:Int→Int}(h:IsP l p)(e:E):IsP (e::l) (uX p e.1 e.2):=by
 have hmx:=Int.max_def (p e.1) (p e.2);have hmn:=Int.min_def (p e.1) (p e.2);refine ⟨fun x=>?_,fun x=>?_,fun x y=>?_⟩
 · have:=h.le x;unfold uX;split<;>omega
 ·
  have i1:=h.idem x;have i2:=h.idem e.1;have i3:=h.idem e.2;unfold uX
  by_cases c:p x=max (p e.1) (p e.2)
  ·
   simp only [c,if_true]
   have:p (min (p e.1) (p e.2))=min (p e.1) (p e.2):=by
    rcases Int.le_total (p e.1) (p e.2) with q|q
    · rw [Int.min_eq_left q,i2]
    · rw [Int.min_eq_right q,i3]
   rw [this];split<;>rfl
  · simp only [c,if_false];rw [i1,if_neg c]
 · rw [bO.cons_iff,←h.iff,←h.iff,←h.iff,←h.iff,←h.iff];unfold uX;split<;>split<;>omega
theorem aNe(l:List E)(e:E):dR (l++[e])=uX (dR l) e.1 e.2:=by simp [dR]
theorem IsP.congr{p:Int→Int}(h:IsP l p)(hc: ∀x y,bO l x y↔bO l' x y):IsP l' p:=⟨h.le,h.idem,fun x y=>(h.iff x y).trans (hc x y)⟩
theorem mZ(h: ∀e,e∈l↔e∈l')(x y:Int):bO l x y↔bO l' x y:=⟨fun k=>k.mono fun e he=>(h e).1 he,fun k=>k.mono fun e he=>(h e).2 he⟩
theorem isP(l:List E):IsP l (dR l):=by
 have key: ∀(n:Nat) (l:List E),l.length=n→IsP l (dR l):=by
  intro n
  induction n with
  |zero=>intro l h;cases l with|nil=>exact IsP.nil|cons=>simp at h
  |succ n ih=>
   intro l h;have hne:l≠[]:=fun e=>by subst e;simp at h
   obtain ⟨l',e,rfl⟩: ∃l' e,l=l'++[e]:=⟨l.dropLast,l.getLast hne,(List.dropLast_concat_getLast hne).symm⟩
   rw [aNe];refine ((ih _ (by simpa using h)).join _).congr (mZ fun e=>?_);simp [or_comm]
 exact key _ l rfl
theorem xM(l:List E){x y:Int} :dR l x=dR l y↔bO l x y:=(isP l).iff x y
theorem aIb(l:List E)(x:Int):dR l x≤x:=(isP l).le x
theorem aGo(l:List E)(x:Int):dR l (dR l x)=dR l x:=(isP l).idem x
theorem aCn(l:List E)(x:Int):bO l x (dR l x):=((isP l).iff x _).1 (aGo l x).symm
theorem aUz(h: ∀x y,bO l x y↔bO l' x y):dR l=dR l':=by
 funext x;have a:dR l x=dR l (dR l' x):=(xM l).2 ((h _ _).2 (aCn l' x));have b:dR l' x=dR l' (dR l x):=(xM l').2 ((h _ _).1 (aCn l x));have c:=aIb l (dR l' x);have d:=aIb l' (dR l x);omega
theorem aAa{n:Int}(hr: ∀e,e∈l→0≤e.1∧e.1<n∧0≤e.2∧e.2<n){x:Int}(hx:0≤x∧x<n):0≤dR l x∧dR l x<n:=
 (aCn l x).range hr hx
theorem aUy{n:Int}(hr: ∀e,e∈l→0≤e.1∧e.1<n∧0≤e.2∧e.2<n){q:Int→Int}(h1: ∀x,0≤x→x<n→0≤q x∧q x≤x∧bO l x (q x))
 (h2: ∀e,e∈l→q e.1=q e.2): ∀x,0≤x→x<n→q x=dR l x:=by
 intro x hx hn;obtain ⟨a1,a2,a3⟩:=h1 x hx hn
 have key: ∀ {x y:Int},bO l x y→q x=q y:=by
  intro x y h
  induction h with
  |refl=>rfl
  |fwd e _ ih=>exact (h2 _ e).trans ih
  |bwd e _ ih=>exact (h2 _ e).symm.trans ih
 have b1:dR l x≤q x:=by rw [(xM l).2 a3];exact aIb _ _
 have pr:=aAa hr ⟨hx,hn⟩;obtain ⟨c1,c2,c3⟩:=h1 _ pr.1 pr.2;have b2:q x=q (dR l x):=key (aCn l x);omega
def cnt(n:Nat)(p:Int→Int):Nat:=(List.range n).countP fun (k:Nat)=>decide (p k=k)
def cl(n:Nat)(l:List E):Nat:=cnt n (dR l)
theorem aJd{f:Nat→Bool}{a:Nat} : ∀ {l:List Nat},l.Nodup→a∈l→f a=true→l.countP (fun k=>f k&&k !=a)+1=l.countP f
 |[],_,h,_=>by cases h
 |b::l,hn,hm,hf=>by
  rw [List.nodup_cons] at hn;rcases List.mem_cons.1 hm with h|h
  ·
   subst h
   have e:l.countP (fun k=>f k&&k !=a)=l.countP f:=List.countP_congr fun k hk=>by
    have:k≠a:=fun e=>hn.1 (e▸hk);simp [this]
   simp [List.countP_cons,hf,e]
  ·
   have hb:b≠a:=fun e=>hn.1 (e▸h);have:=aJd hn.2 h hf;simp only [List.countP_cons];have e:(f b&&b !=a)=f b:=by simp [hb]
   rw [e];omega
theorem bEq{n:Nat}{p:Int→Int}(hid: ∀x,p (p x)=p x){u v:Int}(hu:0≤p u∧p u<n)(hv:0≤p v∧p v<n):
 cnt n (uX p u v)+(if p u=p v then 0 else 1)=cnt n p:=by
 have hmx:=Int.max_def (p u) (p v);have hmn:=Int.min_def (p u) (p v);split
 ·
  rename_i h;have:uX p u v=p:=by funext x;unfold uX;split<;>omega
  rw [this];rfl
 ·
  rename_i h;unfold cnt;have hM:((max (p u) (p v)).toNat:Int)=max (p u) (p v):=by omega
  have hpM:p (max (p u) (p v))=max (p u) (p v):=by
   rcases Int.le_total (p u) (p v) with q|q
   · rw [Int.max_eq_right q,hid]
   · rw [Int.max_eq_left q,hid]
  rw [←aJd (f:=fun (k:Nat)=>decide (p k=k)) (a:=(max (p u) (p v)).toNat) List.nodup_range (by rw [List.mem_range];omega) (by rw [hM,hpM];simp)];refine congrArg (· +1) (List.countP_congr fun k _=>?_);have i1:=hid u;have i2:=hid v;simp only [decide_eq_true_eq,Bool.and_eq_true,bne_iff_ne,ne_eq];unfold uX;constructor
  ·
   intro hk;split at hk
   ·
    rename_i c
    exfalso
    have:p (min (p u) (p v))=min (p u) (p v):=by
     rcases Int.le_total (p u) (p v) with q|q
     · rw [Int.min_eq_left q,i1]
     · rw [Int.min_eq_right q,i2]
    rw [hk,c] at this;omega
   · rename_i c;refine ⟨hk,fun e=>c ?_⟩;rw [hk];omega
  · rintro ⟨hk,hne⟩;rw [if_neg (fun c=>hne (by omega))];exact hk
def InR(n:Nat)(l:List E):Prop:= ∀e,e∈l→0≤e.1∧e.1<(n:Int)∧0≤e.2∧e.2<(n:Int)
theorem aTw{n:Nat}(h: ∀x y,bO l x y↔bO l' x y):cl n l=cl n l':=by unfold cl;rw [aUz h]
theorem bEn(n:Nat):cl n []=n:=by
 unfold cl cnt;have:(fun (k:Nat)=>decide (dR [] (k:Int)=(k:Int)))=fun _=>true:=by funext k;simp [dR]
 rw [this,List.countP_true,List.length_range]
theorem aRe{n:Nat}{e:E}(hr:InR n (e::l)):cl n (e::l)+(if dR l e.1=dR l e.2 then 0 else 1)=cl n l:=by
 have h1:=hr e (by simp);have hl:InR n l:=fun x hx=>hr x (by simp [hx])
 have:cl n (e::l)=cnt n (uX (dR l) e.1 e.2):=by
  rw [←aNe];exact aTw (mZ fun x=>by simp [or_comm])
 rw [this];exact bEq (aGo l) (aAa hl ⟨h1.1,h1.2.1⟩) (aAa hl ⟨h1.2.2.1,h1.2.2.2⟩)
theorem aTx{n:Nat}{e:E}(hr:InR n (e::l))(h:bO l e.1 e.2):cl n (e::l)=cl n l:=by
 have:=aRe hr;rw [if_pos ((xM l).2 h)] at this;omega
theorem aWq{n:Nat}{e:E}(hr:InR n (e::l))(h: ¬bO l e.1 e.2):cl n (e::l)+1=cl n l:=by
 have:=aRe hr;rw [if_neg (fun c=>h ((xM l).1 c))] at this;omega
theorem InR.tail{n:Nat}{e:E}(h:InR n (e::l)):InR n l:=fun x hx=>h x (by simp [hx])
theorem bLe{n:Nat} : ∀ {l:List E},InR n l→n≤cl n l+l.length
 |[],_=>by rw [bEn];simp
 |e::l,hr=>by
  have h1:=aRe hr;have h2:=bLe hr.tail;simp only [List.length_cons];split at h1<;>omega
theorem bIf{n:Nat}(h:l.Perm l'):cl n l=cl n l':=aTw (mZ fun e=>h.mem_iff)
theorem InR.perm{n:Nat}(hr:InR n l)(h:l.Perm l'):InR n l':=fun e he=>hr e (h.mem_iff.2 he)
def dC(n:Nat)(l:List E):Prop:=cl n l+l.length=n
theorem dC.cons{n:Nat}{e:E}(hr:InR n (e::l)):dC n (e::l)↔dC n l∧ ¬bO l e.1 e.2:=by
 unfold dC;have h2:=bLe hr.tail;simp only [List.length_cons]
 by_cases h:bO l e.1 e.2
 ·
  have:=aTx hr h;constructor
  · intro;omega
  · rintro ⟨_,k⟩;exact absurd h k
 ·
  have:=aWq hr h;constructor
  · intro;exact ⟨by omega,h⟩
  · rintro ⟨_,_⟩;omega
theorem dC.perm{n:Nat}(h:dC n l)(hp:l.Perm l'):dC n l':=by unfold dC at *; rw [←bIf hp,←hp.length_eq];exact h
theorem dC.nil(n:Nat):dC n []:=by unfold dC;rw [bEn];rfl
theorem dC.sublist{n:Nat}(hr:InR n l)(h:dC n l): ∀ {l':List E},l'.Sublist l→dC n l':=by
 intro l' hs
 induction hs with
 |slnil=>exact h
 |cons a _ ih=>exact ih hr.tail ((dC.cons hr).1 h).1
 |cons_cons a hs ih=>
  have h1:=(dC.cons hr).1 h;refine (dC.cons (fun x hx=>hr x ?_)).2 ⟨ih hr.tail h1.1,fun c=>h1.2 (c.mono fun e he=>hs.subset he)⟩;rcases List.mem_cons.1 hx with h|h
  · simp [h]
  · simp [hs.subset h]
theorem bDi{t:E}{a b:Int}(h:bO (t::l) a b)(hn: ¬bO l a b)(x y:Int):bO ((a,b)::l) x y↔bO (t::l) x y:=by
 rcases bO.cons_iff.1 h with h|⟨h1,h2⟩|⟨h1,h2⟩
 · exact absurd h hn
 all_goals
  constructor
  ·
   refine fun k=>k.bind fun c d hm=>?_;rcases List.mem_cons.1 hm with e|e
   · cases e;exact h
   · exact .one (by simp [e])
  ·
   refine fun k=>k.bind fun c d hm=>?_;rcases List.mem_cons.1 hm with e|e
   ·
    subst e;have m: ∀ {x y:Int},bO l x y→bO ((a,b)::l) x y:=fun h=>h.mono fun _ h=>List.mem_cons_of_mem _ h;have o:bO ((a,b)::l) a b:= .one (by simp)
    first
     |exact (m h1).symm.trans (o.trans (m h2).symm)
     |exact (m h2).trans (o.symm.trans (m h1))
   · exact .one (by simp [e])
end Go.Pt
