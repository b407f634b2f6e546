/- Facts. No condition. -/
import Derived.Test.YtkdohhmacfoolaaGreatDoorPgLds
set_option linter.unusedVariables false
set_option linter.unusedSimpArgs false
set_option maxRecDepth 20000
set_option maxHeartbeats 4000000
namespace Go.Proofs.YtkdohhmacfoolaaGreatDoor
open Go.Proofs.Tryz Go Go.AM
attribute [local irreducible] aY
structure aRl where
 Tier:Int
 V:Int
deriving DecidableEq
def aZs(e:aRl):List AV:=[.v (.int .i64 e.Tier),.v (.int .i64 e.V)]
@[go_sem] theorem aQm(e:aRl)(r:List AV):aZs e++r= .v (.int .i64 e.Tier):: .v (.int .i64 e.V)::r:=rfl
structure aEi where
 Gone:Bool
 U:Int
 V:Int
deriving DecidableEq
def aLd(e:aEi):List AV:=[.v (.bool e.Gone),.v (.int .i64 e.U),.v (.int .i64 e.V)]
@[go_sem] theorem aGv(e:aEi)(r:List AV):aLd e++r= .v (.bool e.Gone):: .v (.int .i64 e.U):: .v (.int .i64 e.V)::r:=rfl
@[go_sem] theorem bIi(i o:Nat):aI prog 23 (.adr i o) 0=some (.adr i (o+0)):=by kernel_rfl
@[go_sem] theorem bIp(i o:Nat):aI prog 23 (.adr i o) 1=some (.adr i (o+1)):=by kernel_rfl
@[go_sem] theorem bIv(i o:Nat):aI prog 23 (.adr i o) 2=some (.adr i (o+2)):=by kernel_rfl
@[go_sem] theorem bJ1(i o:Nat):aI prog 30 (.adr i o) 0=some (.adr i (o+0)):=by kernel_rfl
@[go_sem] theorem bJb(i o:Nat):aI prog 30 (.adr i o) 2=some (.adr i (o+4)):=by kernel_rfl
@[go_sem] theorem bJy(i o:Nat):aI prog 61 (.adr i o) 0=some (.adr i (o+0)):=by kernel_rfl
@[go_sem] theorem bK4(i o:Nat):aI prog 61 (.adr i o) 1=some (.adr i (o+1)):=by kernel_rfl
@[go_sem] theorem bKa(i o:Nat):aI prog 61 (.adr i o) 2=some (.adr i (o+2)):=by kernel_rfl
@[go_sem] theorem bSt(H:aH)(x:AV)(xs:List AV):bT prog H 28 (.ptr (x::xs))=some x:=by kernel_rfl
@[go_sem] theorem bX4(H:aH)(x:AV)(xs:List AV):bT prog H 3 (.ptr (x::xs))=some x:=by kernel_rfl
@[go_sem] theorem bSz(H:aH)(x0 x1 x2 x3 x4:AV)(xs:List AV):bT prog H 30 (.ptr (x0::x1::x2::x3::x4::xs))=some (.agg [x0,x1,x2,x3,x4]):=by kernel_rfl
@[go_sem] theorem bTq(H:aH)(x0 x1 x2:AV)(xs:List AV):bT prog H 61 (.ptr (x0::x1::x2::xs))=some (.agg [x0,x1,x2]):=by kernel_rfl
def zI(rec1:List aE→Int→List Int→List aE→Int→Option ((List aE)×Int))(l_1:List aE)(v_3:Int)(aKa:List Int)(aKe:List aE)(bFo:Int):Option ((List aE)×Int):=
 (bif (bFo !=v_3) then
  ((idx aKa bFo).bind fun x10=>
  (bif (decide (x10<0)) then
   some ([],3)
  else
   ((idx aKa bFo).bind fun x12=>
   ((idx l_1 x12).bind fun x14=>
   ((app aKe [x14]).bind fun l16=>
   ((uJ x14 bFo).bind fun r18=>
   rec1 l_1 v_3 aKa l16 r18))))))
 else
  some (aKe,0))
def qK:Nat→List aE→Int→List Int→List aE→Int→Option ((List aE)×Int)
 |0=>fun _ _ _ _ _=>none
 |n+1=>zI (qK n)
def sT(n_0:Int)(l_1:List aE)(u_2:Int)(v_3:Int):Option ((List aE)×Int):=
 ((qL n_0 l_1).bind fun r2=>
 ((eJ ((!r2)==false) false (vT n_0 u_2)).bind fun r4=>
 ((eJ (((!r2)||(!r4))==false) false (vT n_0 v_3)).bind fun r6=>
 (bif (((!r2)||(!r4))||(!r6)) then
  some ([],1)
 else
  ((uI n_0 l_1 v_3).bind fun r8=>
  qK aY l_1 v_3 r8 [] u_2)))))
theorem bAa:K4 prog vi (vl aV) vi vi (t2 (vl aV) vi) 174 sT:=by
 intro n_0 l_1 u_2 v_3 r hm
 let I1:=((fun m s=> ∃l_1 v_3 aKa aKe bFo,s=⟨58,(aF (aF (aF (aF (aF fa 1 (vl aV l_1)) 3 (vi v_3)) 10 (vl (ci .i64) aKa)) 11 (.own 1 0 aKe.length)) 12 (vi bFo)),⟨(upd aZ 1 (.cells 3 (aKe.flatMap aV) 0)),64⟩⟩∧qK m l_1 v_3 aKa aKe bFo=some r):Nat→St→Prop)
 exact be 58 func174 (h:=G)
instance:Ct prog 174 (K4 prog vi (vl aV) vi vi (t2 (vl aV) vi) 174 sT):=⟨bAa⟩
abbrev pZ(jX:Int)(g_3:aJ)(t6:aJ)(e_7:aE)(n_9:Int):Option (aJ):=
 ((aAz n_9 g_3.Edges e_7.U e_7.V (IntKind.i64.wrap (jX+1))).bind fun ⟨r9,r10⟩=>
 some (aJ.mk g_3.Config g_3.Hashes r9))
def sC(g_0:aJ)(jX:Int)(v_2:Int):Option (aJ):=
 ((uX g_0 jX v_2).bind fun r2=>
 ((uX g_0 (IntKind.i64.wrap (jX+1)) v_2).bind fun r4=>
 (bif ((r2.length:Int) !=(r4.length:Int)) then
  some g_0
 else
  ((tM g_0 jX v_2).bind fun ⟨r6,r7⟩=>
  (bif (!r7) then
   some g_0
  else
   (bif (r6.Tier==0) then
    ((kC g_0.Config.N g_0.Edges g_0.Config.L).bind fun r12=>
    ((sT g_0.Config.N r12 r6.U r6.V).bind fun ⟨r14,r15⟩=>
    ((nJ r14).bind fun ⟨r17,r18⟩=>
    (bif (r18&&(r15==0)) then
     ((aAz g_0.Config.N g_0.Edges r17.U r17.V 0).bind fun ⟨r20,r21⟩=>
     pZ jX (aJ.mk g_0.Config g_0.Hashes r20) (aJ.mk (aX.mk 0 0 0) [] []) r6 g_0.Config.N)
    else
     pZ jX g_0 (aJ.mk (aX.mk 0 0 0) [] []) r6 g_0.Config.N))))
   else
    pZ jX g_0 (aJ.mk (aX.mk 0 0 0) [] []) r6 g_0.Config.N))))))
theorem aV2:K3 prog dX vi vi dX 143 sC:=fun hm=>be 98 func143 (h:=G)
instance:Ct prog 143 (K3 prog dX vi vi dX 143 sC):=⟨aV2⟩
def aEb(rec1:Int→Int→aJ→aJ→Int→Int→Option (aJ))(u_1:Int)(v_2:Int)(g_3:aJ)(t6:aJ)(t10:Int)(t11:Int):Option (aJ):=
 (bif (decide (t11<t10)) then
  ((sC g_3 t11 u_1).bind fun r2=>
  ((sC r2 t11 v_2).bind fun r4=>
  rec1 u_1 v_2 r4 t6 t10 (IntKind.i64.wrap (t11+1))))
 else
  some g_3)
def tZ:Nat→Int→Int→aJ→aJ→Int→Int→Option (aJ)
 |0=>fun _ _ _ _ _ _=>none
 |n+1=>aEb (tZ n)
def wU(g_0:aJ)(u_1:Int)(v_2:Int):Option (aJ):=
 tZ aY u_1 v_2 g_0 (aJ.mk (aX.mk 0 0 0) [] []) g_0.Config.L 0
theorem aV1:K3 prog dX vi vi dX 100 wU:=by
 intro g_0 u_1 v_2 r hm
 let I1:=((fun m s=> ∃u_1 v_2 g_3 t6 t10 t11,s=⟨24,(aF (aF (aF (aF (aF (aF fa 1 (vi u_1)) 2 (vi v_2)) 3 (.adr 1 0)) 6 (.adr 2 0)) 10 (vi t10)) 11 (vi t11)),⟨(upd (upd aZ 1 (.cells 1 [vi g_3.Config.N,vi g_3.Config.L,vi g_3.Config.R,vl cH g_3.Hashes,vl aV g_3.Edges] 0)) 2 (.cells 1 [vi t6.Config.N,vi t6.Config.L,vi t6.Config.R,vl cH t6.Hashes,vl aV t6.Edges] 0)),64⟩⟩∧tZ m u_1 v_2 g_3 t6 t10 t11=some r):Nat→St→Prop)
 exact be 24 func100 (h:=G)
instance:Ct prog 100 (K3 prog dX vi vi dX 100 wU):=⟨aV1⟩
def wT(g_0:aJ)(u_1:Int)(v_2:Int):Option (aJ×Int):=
 ((yO g_0 u_1 v_2).bind fun r2=>
 (bif (!r2) then
  some (g_0,1)
 else
  ((aE7 g_0.Config.N g_0.Edges u_1 v_2).bind fun ⟨r4,r5⟩=>
  (bif (r5 !=0) then
   some (g_0,r5)
  else
   ((wU (aJ.mk g_0.Config g_0.Hashes r4) u_1 v_2).bind fun r7=>
   some (r7,0))))))
theorem aV0:K3 prog dX vi vi (t2 dX vi) 52 wT:=fun hm=>be 37 func52 (h:=G)
instance:Ct prog 52 (K3 prog dX vi vi (t2 dX vi) 52 wT):=⟨aV0⟩
def wQ(g_0:aJ)(u_1:Int)(v_2:Int):Option (aJ×Int):=
 ((yO g_0 u_1 v_2).bind fun r2=>
 (bif (!r2) then
  some (g_0,1)
 else
  ((wK g_0.Config.N g_0.Edges u_1 v_2).bind fun ⟨r4,r5⟩=>
  (bif (r5 !=0) then
   some (g_0,r5)
  else
   ((wU (aJ.mk g_0.Config g_0.Hashes r4) u_1 v_2).bind fun r7=>
   some (r7,0))))))
theorem aUz:K3 prog dX vi vi (t2 dX vi) 50 wQ:=fun hm=>be 37 func50 (h:=G)
instance:Ct prog 50 (K3 prog dX vi vi (t2 dX vi) 50 wQ):=⟨aUz⟩
attribute [local semireducible] aY
end Go.Proofs.YtkdohhmacfoolaaGreatDoor
set_option maxRecDepth 4000
namespace Go.AM
open Go.RowKit
attribute [local semireducible] aR KN aF8 yP AIn AWp dR
variable {P:Program}
def aHj(op:Op):Bool:=match op with| .fieldAddr .. | .load .. | .indexAddr .. | .slice .. | .call { callee:= .builtin .len,.. } =>true|_=>false
theorem aL8{H:aH}{x:AV}{j:Nat}(h:H.alive x=true)(hj:iW x=some j):H.ent j≠ .dead:=by
 intro hd;cases x<;>simp [iW] at hj<;>subst hj<;>simp [aH.alive,hd] at h
theorem bCt{d n:Nat}{x:AV}(h:fV d (some x)=some n):iW x=none:=by
 cases x with
 |v y=>rfl
 |_=>simp [fV] at h
theorem rL{ρ:Operand→AV}{d n:Nat}{o:Option Operand}{x:Operand}(h:fV d (o.map ρ)=some n)(hx:x∈o):iW (ρ x)=none:=by
 cases hx;exact bCt h
theorem bF8{H:aH}{ρ:Operand→AV}{t:TypeId}{a:Operand}{lo hi mx:Option Operand}{r:AV}(h:xJ P H t (ρ a) (lo.map ρ) (hi.map ρ) (mx.map ρ)=some r):
 (∀j,iW (ρ a)=some j→H.ent j≠ .dead)∧(∀x,x∈lo∨x∈hi∨x∈mx→iW (ρ x)=none):=by
 unfold xJ at h;split at h
 ·
  rename_i s hu ha;split at h
  ·
   rename_i l hh h1 h2 h3;refine ⟨fun j hj=>(by rw [ha] at hj;cases hj),fun x hx=>?_⟩;rcases hx with q|q|q
   · exact rL h2 q
   · exact rL h3 q
   · cases q;cases h1
  · cases h
 ·
  rename_i e hu ha;split at h
  ·
   rename_i h1 h2 h3 h4;refine ⟨fun j hj=>(by rw [ha] at hj;cases hj),fun x hx=>?_⟩;rcases hx with q|q|q
   · exact rL h2 q
   · exact rL h3 q
   · exact rL h4 q
  · cases h
 ·
  rename_i e xs len full hu ha;split at h
  ·
   split at h
   ·
    rename_i l hh m h2 h3 h4;refine ⟨fun j hj=>(by rw [ha] at hj;cases hj),fun x hx=>?_⟩;rcases hx with q|q|q
    · exact rL h2 q
    · exact rL h3 q
    · exact rL h4 q
   · cases h
  · cases h
 ·
  rename_i e id off len hu ha;split at h
  ·
   rename_i hent;split at h
   ·
    rename_i l hh h2 h3 h4;refine ⟨fun j hj hd=>?_,fun x hx=>?_⟩
    · rw [ha] at hj;cases hj;rw [hd] at hent;cases hent
    ·
     rcases hx with q|q|q
     · exact rL h2 q
     · exact rL h3 q
     · cases q;cases h4
   · cases h
  · cases h
 · cases h
theorem bL7{H:aH}{ρ:Operand→AV}{op:Op}{r:AV}(hs:aHj op=true)(h:bJ P H ρ op=some r): ∀x,x∈op.operands→ ∀j,iW (ρ x)=some j→H.ent j≠ .dead:=by
 intro x hx j hj
 cases op with
 |fieldAddr t a f=>
  simp only [bJ] at h;split at h
  · rename_i ha;simp [Op.operands] at hx;subst hx;exact aL8 ha hj
  · cases h
 |load t a=>
  simp only [bJ] at h;simp [Op.operands] at hx;subst hx;intro hd;cases hv:ρ x<;>rw [hv] at h hj<;>simp [iW] at hj<;>subst hj<;>simp [bT,hd] at h
 |indexAddr t a i=>
  simp only [bJ] at h;split at h
  ·
   rename_i ha;simp [Op.operands] at hx;rcases hx with rfl|rfl
   · exact aL8 ha hj
   ·
    exfalso
    unfold lS at h;split at h<;>first|(cases h;done)|(rename_i hq;rw [hq] at hj;cases hj)
  · cases h
 |slice t a lo hi mx=>
  simp only [bJ] at h;obtain ⟨h1,h2⟩:=bF8 h;simp [Op.operands] at hx;rcases hx with rfl|hx|hx|hx
  · exact h1 j hj
  · rw [h2 x (.inl hx)] at hj;cases hj
  · rw [h2 x (.inr (.inl hx))] at hj;cases hj
  · rw [h2 x (.inr (.inr hx))] at hj;cases hj
 |call c=>
  obtain ⟨callee,args,ats⟩:=c
  cases callee with
  |builtin b=>
   cases b<;>first|(simp [aHj] at hs;done)|skip
   simp only [bJ] at h;split at h
   ·
    rename_i ha;rw [List.all_eq_true] at ha;refine aL8 (ha _ (List.mem_map.2 ⟨x,?_,rfl⟩)) hj
    simpa [Op.operands,Call.operands] using hx
   · cases h
  |_=>simp [aHj] at hs
 |_=>simp [aHj] at hs
theorem bL6{ops:Array Oper}{id:Nat}{o:Oper}{s s':St}(h:dR P true ops id o s s')(hs:aHj o.op=true):
 ∃r,s'=⟨s.n,mS s.f o.dst r,s.H⟩∧ ∀(f':Nat→AV) (G:aH),(∀t,t∈o.looksAt ops→s.f t=f' t)→(∀x,x∈o.op.operands→ ∀j,iW (aval s.f x)=some j→s.H.ent j≠ .dead→G.ent j=s.H.ent j)→dR P true ops id o ⟨s.n,f',G⟩ ⟨s.n,mS f' o.dst r,G⟩:=by
 obtain ⟨hd,h⟩:=h;split at h
 · rename_i hg;subst h;refine ⟨.v undef,rfl,fun f' G hf _=>⟨hd,?_⟩⟩;have:=iN (ops:=ops) hf;rw [hg] at this;simp only [←this]
 ·
  rename_i hg;unfold aGj at h;split at h
  · rename_i f args ats ho;rw [ho] at hs;cases hs
  ·
   rename_i op hne;rcases h with ⟨r,h1,rfl⟩|⟨r,H',h1,rfl⟩|⟨r,h0,h1,rfl⟩
   · refine ⟨r,rfl,fun f' G hf hG=>⟨hd,?_⟩⟩;have e:=iN (ops:=ops) hf;rw [hg] at e;simp only [←e];refine aAk (s:=⟨s.n,f',G⟩) ?_;rw [←h1];exact (aB6 (mY hf) fun x hx j hj=>(hG x hx j hj (bL7 hs h1 x hx j hj)).symm).symm
   ·
    exfalso
    cases ho:o.op<;>rw [ho] at h1 hs<;>first|(simp [aHj] at hs;done)|(simp [eZ] at h1;done)|skip
    rename_i c;obtain ⟨callee,args,ats⟩:=c
    cases callee with
    |builtin b=>cases b<;>first|(simp [aHj] at hs;done)|(simp [eZ] at h1;done)
    |_=>simp [aHj] at hs
   ·
    refine ⟨r,rfl,fun f' G hf hG=>⟨hd,?_⟩⟩;have e:=iN (ops:=ops) hf;rw [hg] at e;simp only [←e];have hop:=mY hf;refine aDi (s:=⟨s.n,f',G⟩) (fun x hx=>by rw [←hop x hx];exact h0 x hx) (fun o' w X ρ h2 h3 h4=>h1 o' w X ρ h2 h3 (fun x hx=>by rw [hop x hx];exact h4 x hx)) ?_;unfold xW;split
    · rename_i f args ats ho;exact absurd ho (by intro ho;exact hne _ _ _ ho)
    · rfl
 · exact h.elim
section
variable {ops:Array Oper}
end
end Go.AM
namespace Go.AM
open Go.RowKit
attribute [local semireducible] aR KN aF8 yP AIn AWp dR
variable {P:Program}
def bRu(cm:Nat→Nat→Bool)(ops:Array Oper):Bool:=
  (List.range ops.size).all fun i=>
    ((ops[i]?).map (·.after.all fun e=> !Region.binds .any e||decide (e.on<i))).getD false&&
    (List.range i).all fun p=>((aDo [] ops.toList).getD i 0).testBit p||cm p i
abbrev HI(P:Program)(ops:Array Oper)(I:St→Prop):Prop:= ∀ {C:Ctx} {a:Act} {w:World} {i id:Nat} {o:Oper} {s s':St},Real C s a w→ops[i]? =some o→dR P true ops id o s s'→I s→I s'
abbrev HC(P:Program)(ops:Array Oper)(base:Nat)(cm:Nat→Nat→Bool)(I:St→Prop):Prop:= ∀ {C:Ctx} {a:Act} {w:World} {p i:Nat} {op oi:Oper} {s s1 s2:St},Real C s a w→I s→ops[p]? =some op→ops[i]? =some oi→cm p i=true→p≠i→
    dR P true ops (base+p) op s s1→dR P true ops (base+i) oi s1 s2→ ∃t,dR P true ops (base+i) oi s t∧dR P true ops (base+p) op t s2
theorem aMm{C:Ctx}{ops:Array Oper}{base:Nat}(cm:Nat→Nat→Bool)(I:St→Prop)(hI:HI P ops I)(hC:HC P ops base cm I): ∀(L1:List Nat) (i:Nat) (L2:List Nat) (s sf:St) (a:Act) (w:World),Real C s a w→I s→(∀p,p∈L1→cm p i=true∧p≠i)→
 aI8 P ops base (L1++i::L2) s sf→ ∃o t,ops[i]? =some o∧dR P true ops (base+i) o s t∧aI8 P ops base (L1++L2) t sf
 |[],i,L2,s,sf,a,w,_,_,_,h=>h
 |p::L1,i,L2,s,sf,a,w,hr,hn,hc,h=>by
  obtain ⟨op,s1,h1,h2,h3⟩:=h;obtain ⟨a1,w1,hr1⟩:=aP8 h2 hr;have hn1:=hI hr h1 h2 hn;obtain ⟨oi,t1,h4,h5,h6⟩:=aMm cm I hI hC L1 i L2 s1 sf a1 w1 hr1 hn1 (fun q hq=>hc q (by simp [hq])) h3;obtain ⟨hcm,hne⟩:=hc p (by simp);obtain ⟨t,h7,h8⟩:=hC hr hn h1 h4 hcm hne h2 h5;exact ⟨oi,t,h4,h7,op,t1,h1,h8,h6⟩
section
variable {ops:Array Oper}
theorem aQr{cm:Nat→Nat→Bool}(hok:bRu cm ops=true){listed:Array Bool}
 (hclosed: ∀k o,ops[k]? =some o→listed.getD k false=true→ ∀e,e∈o.after→Region.binds .any e=true→listed.getD e.on false=true):
 ∀(i:Nat) (o:Oper),ops[i]? =some o→(∀e,e∈o.after→Region.binds .any e=true→listed.getD e.on false=true)→
 ∀p,((aDo [] ops.toList).getD i 0).testBit p=true→listed.getD p false=true:=by
 intro i
 induction i using Nat.strongRecOn with
 |_ i ih=>
  intro o ho hall p hp;obtain ⟨acc',h1,h2⟩:=aN3 ops.toList [] i o (by simpa using ho);simp only [List.length_nil,Nat.zero_add] at h1 h2;rw [h1] at hp;obtain ⟨e,he,hb,h3⟩:=aLp hp;have hon:=hall e he hb;rcases h3 with rfl|h3
  · exact hon
  ·
   have hlt:i<ops.size:=(Array.getElem?_eq_some_iff.1 ho).1
   have hei:e.on<i:=by
    have:=List.all_eq_true.1 hok i (by simpa using hlt);simp only [Bool.and_eq_true,ho,Option.map_some,Option.getD_some] at this;have:=Array.all_eq_true_iff_forall_mem.1 this.1 e he
    simpa [hb] using this
   obtain ⟨oe,hoe⟩: ∃oe,ops[e.on]? =some oe:=⟨ops[e.on]'(by omega),by simp [show e.on<ops.size by omega]⟩
   rw [h2 _ hei] at h3;exact ih e.on hei oe hoe (fun e' he' hb'=>hclosed e.on oe hoe hon e' he' hb') p h3
theorem bA4{C:Ctx}{base:Nat}{Q:Exit→Act→World→Prop}(cm:Nat→Nat→Bool)(I:St→Prop)(hok:bRu cm ops=true)(hI:HI P ops I)(hC:HC P ops base cm I): ∀(fuel:Nat) (L:List Nat) (listed:Array Bool) (s sf:St) (a:Act) (w:World),
 L.length=fuel→L.Pairwise (· < ·)→listed.size=ops.size→(∀i,i<ops.size→(listed.getD i false=true↔i∉L))→(∀i,i∈L→i<ops.size)→
 (∀k o,ops[k]? =some o→listed.getD k false=true→ ∀e,e∈o.after→Region.binds .any e=true→listed.getD e.on false=true)→
 aI8 P ops base L s sf→I s→Real C s a w→(∀a' w',Real C sf a' w'→Q .normal a' w')→wpAny P .any ops Q fuel listed a w:=by
 intro fuel
 have hdep: ∀i o,ops[i]? =some o→ ∀e,e∈o.after→Region.binds .any e=true→e.on<i:=by
  intro i o ho e he hb;have hlt:i<ops.size:=(Array.getElem?_eq_some_iff.1 ho).1;have:=List.all_eq_true.1 hok i (by simpa using hlt);simp only [Bool.and_eq_true,ho,Option.map_some,Option.getD_some] at this;have:=Array.all_eq_true_iff_forall_mem.1 this.1 e he
  simpa [hb] using this
 have getDt: ∀(listed:Array Bool) (i:Nat),listed.size=ops.size→i<ops.size→listed.getD i true=listed.getD i false:=by
  intro listed i hs hi;simp [hs,hi]
 induction fuel with
 |zero=>
  intro L listed s sf a w hL _ hsz hl hlt hcl hch hno hr hQ;have:L=[]:=List.eq_nil_of_length_eq_zero hL;subst this;have:s=sf:=hch;subst this;refine ⟨?_,hQ a w hr⟩
  cases hrd:Region.ready .any ops listed with
  |nil=>rfl
  |cons x xs=>
   have hx:x∈Region.ready .any ops listed:=by rw [hrd];simp
   obtain ⟨h1,o,h2,_⟩:=mem_ready.1 hx;have hxs:x<ops.size:=(Array.getElem?_eq_some_iff.1 h2).1;rw [getDt listed x hsz hxs] at h1;have:=(hl x hxs).2 (by simp);rw [h1] at this;cases this
 |succ fuel ih=>
  intro L listed s sf a w hL hsort hsz hl hlt hcl hch hno hr hQ;refine ⟨fun hempty=>?_,fun i hi=>?_⟩
  ·
   
   exfalso
   match L,hL with
   |x::L',_=>
    have hxs:x<ops.size:=hlt x (by simp);obtain ⟨o,ho⟩: ∃o,ops[x]? =some o:=⟨ops[x],by simp [hxs]⟩
    have:x∈Region.ready .any ops listed:=by
     refine mem_ready.2 ⟨?_,o,ho,fun e he hb=>?_⟩
     ·
      rw [getDt listed x hsz hxs]
      cases hv:listed.getD x false with
      |false=>rfl
      |true=>exact absurd (by simp) ((hl x hxs).1 hv)
     ·
      have hex:=hdep x o ho e he hb;refine (hl e.on om).2 (fun hm=>?_);rcases List.mem_cons.1 hm with h|h
      · omega
      · have:=List.rel_of_pairwise_cons hsort h;omega
    rw [hempty] at this;cases this
  ·
   obtain ⟨h1,oi,hoi,hall⟩:=mem_ready.1 hi;have his:i<ops.size:=(Array.getElem?_eq_some_iff.1 hoi).1;rw [getDt listed i hsz his] at h1
   have hiL:i∈L:=by
    rcases Classical.em (i∈L) with h|h
    · exact h
    · have:=(hl i his).2 h;rw [h1] at this;cases this
   obtain ⟨L1,L2,rfl⟩:=List.append_of_mem hiL;have hp:=List.pairwise_append.1 hsort
   have hpre: ∀p,p∈L1→cm p i=true∧p≠i:=by
    intro p hpm;have hpi:p<i:=hp.2.2 p hpm i (by simp);refine ⟨?_,by omega⟩;have:=List.all_eq_true.1 hok i (by simpa using his);simp only [Bool.and_eq_true] at this;have:=List.all_eq_true.1 this.2 p (by simpa using hpi);simp only [Bool.or_eq_true] at this;rcases this with h|h
    ·
     exfalso
     have:=aQr hok hcl i oi hoi hall p h;exact ((hl p om).1 this) (by simp [hpm])
    · exact h
   obtain ⟨o,t,h2,h3,h4⟩:=aMm cm I hI hC L1 i L2 s sf a w hr hno hpre hch;rw [hoi] at h2;cases h2
   have hst:=aE6 (Q:=Q) h3 hr (K:=wpAny P .any ops Q fuel (listed.setIfInBounds i true)) (fun a' w' hr'=>by
    refine ih (L1++L2) (listed.setIfInBounds i true) t sf a' w' (by simp at hL ⊢; omega) ?_ (by simpa using hsz) (fun j hj=>?_) (fun j hj=>hlt j (by simp at hj ⊢; rcases hj with h|h<;>simp [h])) ?_ h4 (hI hr hoi h3 hno) hr' hQ
    · refine List.pairwise_append.2 ⟨hp.1,(List.pairwise_cons.1 hp.2.1).2,fun x hx y hy=>hp.2.2 x hx y (by simp [hy])⟩
    ·
     have hnd:i∉L1++L2:=by
      intro hm;rcases List.mem_append.1 hm with h|h
      · have:=hp.2.2 i h i (by simp);omega
      · have:=(List.pairwise_cons.1 hp.2.1).1 i h;omega
     by_cases hji:j=i
     ·
      subst hji;simp [hsz,his]
      simpa using hnd
     · have e:(listed.setIfInBounds i true).getD j false=listed.getD j false:=getD_set_ne false (Ne.symm hji);rw [e,hl j hj];simp [hji]
    ·
     intro k o hk hkl e he hb
     by_cases hki:k=i
     · subst hki;rw [hoi] at hk;cases hk;exact getD_set_true (hall e he hb)
     · rw [getD_set_ne false (Ne.symm hki)] at hkl;exact getD_set_true (hcl k o hk hkl e he hb))
   unfold wpOp;simp only [hoi];split at hst
   · rename_i hw;simp only [hw,if_true];exact .inl hst
   · rename_i hw;simp only [hw];exact hst
end
theorem AWp.regionG{B:Nat→Prop}(cm:Nat→Nat→Bool)(I:St→Prop)(m:Nat){id:Nat}{l:List Oper}{Q:Exit→St→Prop}{n N:Nat}{f:Nat→AV}{e:Nat→Ent}(hmix:P.follows .mixedOrders=true)(hok:bRu cm l.toArray=true)(hI:HI P l.toArray I)(hC:HC P l.toArray N cm I)(hno:I ⟨n,f,⟨e,N⟩⟩)
 (h:aR P true l.toArray N 0 l (fun s'=>Q .normal ⟨s'.n,s'.f,⟨s'.H.ent,N+m⟩⟩) ⟨n,f,⟨e,N⟩⟩):AWp P B (.region id l.toArray true) Q ⟨n,f,⟨e,N⟩⟩:=by
 intro C a w _ hr;refine wp_region_any hmix ?_;obtain ⟨sf,h1,h2⟩:=aCi l 0 _ (fun j=>by simp) h
 have hr':Real C ⟨n,f,⟨e,N⟩⟩ a { w with drawn:=w.drawn+1 } :=by
  obtain ⟨hd,O,hs,hv,ht⟩:=hr;obtain ⟨h3,h4⟩:=hs.same (w':= { w with drawn:=w.drawn+1 }) rfl rfl rfl rfl;exact ⟨hd,O,h3,hv.mono h4,ht.trans h4⟩
 refine bA4 cm I hok hI hC l.toArray.size (List.range' 0 l.length) _ _ sf a _ (by simp) List.pairwise_lt_range' (by simp) (fun i hi=>?_) (fun i hi=>by simp at hi ⊢; omega) (fun k o hk hkl=>?_) h1 hno hr' (fun a' w' hr''=>⟨_,hr''.nxt _,h2⟩)
 · simp at hi;simp [hi]
 ·
  have:(Array.replicate l.toArray.size false).getD k false=false:=by
   simp only [Array.getD_eq_getD_getElem?,Array.getElem?_replicate];split<;>rfl
  rw [this] at hkl;cases hkl
structure IJ(T0 T1 U:List Nat)(J:Nat)(E:Ent)(s:St):Prop where
  t0: ∀k,k∈T0→ ∃off,s.f k= .adr J off
  t1: ∀k,k∈T1→(∃off,s.f k= .adr J off)∨s.f k= .any∨s.f k= .v undef
  u: ∀k,k∈U→iW (s.f k)≠some J
  e:s.H.ent J=E
theorem bLf{ops:Array Oper}{id:Nat}{o:Oper}{s s':St}{t:TypeId}{x y:Operand}{J:Nat}(h:dR P true ops id o s s')(ho:o.op= .store t x y)(hx:iW (aval s.f x)≠some J):s'.H.ent J=s.H.ent J:=by
 obtain ⟨hd,h⟩:=h;split at h
 · subst h;rfl
 ·
  unfold aGj at h;split at h
  · rename_i f args ats ho';rw [ho] at ho';cases ho'
  ·
   rename_i op hne;rcases h with ⟨r,h1,rfl⟩|⟨r,H',h1,rfl⟩|⟨r,h0,h1,rfl⟩
   · rfl
   ·
    rw [ho] at h1;simp only [eZ] at h1;split at h1
    ·
     rename_i j off cs ha hc;split at h1
     ·
      split at h1
      · cases h1;refine upd_ne _ _ _ _ fun q=>hx ?_;rw [ha,q];rfl
      · cases h1
     · cases h1
    · cases h1
   · rfl
 · exact h.elim
section
variable {T0 T1 U:List Nat}{J:Nat}{E:Ent}{ops:Array Oper}
end
end Go.AM
