/- Facts. No condition. -/
import Derived.Test.YtkdohhmacfoolaaGreatDoorPfLds
set_option linter.unusedVariables false
set_option linter.unusedSimpArgs false
set_option maxRecDepth 20000
set_option maxHeartbeats 4000000
namespace Go.Proofs.YtkdohhmacfoolaaGreatDoor
open Go.Proofs.Tryz Go Go.AM
attribute [local irreducible] aW
structure aS1 where
 Tier:Int
 V:Int
deriving DecidableEq
def bA9(e:aS1):List AV:=[.v (.int .i64 e.Tier),.v (.int .i64 e.V)]
@[go_sem] theorem aR3(e:aS1)(r:List AV):bA9 e++r= .v (.int .i64 e.Tier):: .v (.int .i64 e.V)::r:=rfl
structure aEn where
 Gone:Bool
 U:Int
 V:Int
deriving DecidableEq
def aLo(e:aEn):List AV:=[.v (.bool e.Gone),.v (.int .i64 e.U),.v (.int .i64 e.V)]
@[go_sem] theorem aH3(e:aEn)(r:List AV):aLo e++r= .v (.bool e.Gone):: .v (.int .i64 e.U):: .v (.int .i64 e.V)::r:=rfl
@[go_sem] theorem bJ6(i o:Nat):aH prog 23 (.adr i o) 0=some (.adr i (o+0)):=by kernel_rfl
@[go_sem] theorem bJd(i o:Nat):aH prog 23 (.adr i o) 1=some (.adr i (o+1)):=by kernel_rfl
@[go_sem] theorem bJj(i o:Nat):aH prog 23 (.adr i o) 2=some (.adr i (o+2)):=by kernel_rfl
@[go_sem] theorem bJp(i o:Nat):aH prog 30 (.adr i o) 0=some (.adr i (o+0)):=by kernel_rfl
@[go_sem] theorem bJz(i o:Nat):aH prog 30 (.adr i o) 2=some (.adr i (o+4)):=by kernel_rfl
@[go_sem] theorem bKm(i o:Nat):aH prog 61 (.adr i o) 0=some (.adr i (o+0)):=by kernel_rfl
@[go_sem] theorem bKs(i o:Nat):aH prog 61 (.adr i o) 1=some (.adr i (o+1)):=by kernel_rfl
@[go_sem] theorem bKy(i o:Nat):aH prog 61 (.adr i o) 2=some (.adr i (o+2)):=by kernel_rfl
@[go_sem] theorem bTm(H:aG)(x:AV)(xs:List AV):bT prog H 28 (.ptr (x::xs))=some x:=by kernel_rfl
@[go_sem] theorem bXw(H:aG)(x:AV)(xs:List AV):bT prog H 3 (.ptr (x::xs))=some x:=by kernel_rfl
@[go_sem] theorem bTs(H:aG)(x0 x1 x2 x3 x4:AV)(xs:List AV):bT prog H 30 (.ptr (x0::x1::x2::x3::x4::xs))=some (.agg [x0,x1,x2,x3,x4]):=by kernel_rfl
@[go_sem] theorem bUj(H:aG)(x0 x1 x2:AV)(xs:List AV):bT prog H 61 (.ptr (x0::x1::x2::xs))=some (.agg [x0,x1,x2]):=by kernel_rfl
def zE(rec1:List aE→Int→List Int→List aE→Int→Option ((List aE)×Int))(l_1:List aE)(v_3:Int)(aKm:List Int)(aKp:List aE)(bGa:Int):Option ((List aE)×Int):=
 (bif (bGa !=v_3) then
  ((idx aKm bGa).bind fun x10=>
  (bif (decide (x10<0)) then
   some ([],3)
  else
   ((idx aKm bGa).bind fun x12=>
   ((idx l_1 x12).bind fun x14=>
   ((app aKp [x14]).bind fun l16=>
   ((uG x14 bGa).bind fun r18=>
   rec1 l_1 v_3 aKm l16 r18))))))
 else
  some (aKp,0))
def qL:Nat→List aE→Int→List Int→List aE→Int→Option ((List aE)×Int)
 |0=>fun _ _ _ _ _=>none
 |n+1=>zE (qL n)
def sU(n_0:Int)(l_1:List aE)(u_2:Int)(v_3:Int):Option ((List aE)×Int):=
 ((qM n_0 l_1).bind fun r2=>
 ((eG ((!r2)==false) false (vM n_0 u_2)).bind fun r4=>
 ((eG (((!r2)||(!r4))==false) false (vM n_0 v_3)).bind fun r6=>
 (bif (((!r2)||(!r4))||(!r6)) then
  some ([],1)
 else
  ((uF n_0 l_1 v_3).bind fun r8=>
  qL aW l_1 v_3 r8 [] u_2)))))
theorem bAq:K4 prog vi (vl aV) vi vi (t2 (vl aV) vi) 174 sU:=by
 intro n_0 l_1 u_2 v_3 r hm
 let I1:=((fun m s=> ∃l_1 v_3 aKm aKp bGa,s=⟨58,(aF (aF (aF (aF (aF fa 1 (vl aV l_1)) 3 (vi v_3)) 10 (vl (ci .i64) aKm)) 11 (.own 1 0 aKp.length)) 12 (vi bGa)),⟨(upd aY 1 (.cells 3 (aKp.flatMap aV) 0)),64⟩⟩∧qL m l_1 v_3 aKm aKp bGa=some r):Nat→St→Prop)
 exact be 58 func174 (h:=G)
instance:Ct prog 174 (K4 prog vi (vl aV) vi vi (t2 (vl aV) vi) 174 sU):=⟨bAq⟩
abbrev qE(kB:Int)(g_3:aJ)(t6:aJ)(e_7:aE)(n_9:Int):Option (aJ):=
 ((aB3 n_9 g_3.Edges e_7.U e_7.V (IntKind.i64.wrap (kB+1))).bind fun ⟨r9,r10⟩=>
 some (aJ.mk g_3.Config g_3.Hashes r9))
def sE(g_0:aJ)(kB:Int)(v_2:Int):Option (aJ):=
 ((uR g_0 kB v_2).bind fun r2=>
 ((uR g_0 (IntKind.i64.wrap (kB+1)) v_2).bind fun r4=>
 (bif ((r2.length:Int) !=(r4.length:Int)) then
  some g_0
 else
  ((tJ g_0 kB v_2).bind fun ⟨r6,r7⟩=>
  (bif (!r7) then
   some g_0
  else
   (bif (r6.Tier==0) then
    ((kG g_0.Config.N g_0.Edges g_0.Config.L).bind fun r12=>
    ((sU g_0.Config.N r12 r6.U r6.V).bind fun ⟨r14,r15⟩=>
    ((nK r14).bind fun ⟨r17,r18⟩=>
    (bif (r18&&(r15==0)) then
     ((aB3 g_0.Config.N g_0.Edges r17.U r17.V 0).bind fun ⟨r20,r21⟩=>
     qE kB (aJ.mk g_0.Config g_0.Hashes r20) (aJ.mk (bC.mk 0 0 0) [] []) r6 g_0.Config.N)
    else
     qE kB g_0 (aJ.mk (bC.mk 0 0 0) [] []) r6 g_0.Config.N))))
   else
    qE kB g_0 (aJ.mk (bC.mk 0 0 0) [] []) r6 g_0.Config.N))))))
theorem aVd:K3 prog dR vi vi dR 143 sE:=fun hm=>be 98 func143 (h:=G)
instance:Ct prog 143 (K3 prog dR vi vi dR 143 sE):=⟨aVd⟩
def aEg(rec1:Int→Int→aJ→aJ→Int→Int→Option (aJ))(u_1:Int)(v_2:Int)(g_3:aJ)(t6:aJ)(t10:Int)(t11:Int):Option (aJ):=
 (bif (decide (t11<t10)) then
  ((sE g_3 t11 u_1).bind fun r2=>
  ((sE r2 t11 v_2).bind fun r4=>
  rec1 u_1 v_2 r4 t6 t10 (IntKind.i64.wrap (t11+1))))
 else
  some g_3)
def tV:Nat→Int→Int→aJ→aJ→Int→Int→Option (aJ)
 |0=>fun _ _ _ _ _ _=>none
 |n+1=>aEg (tV n)
def wI(g_0:aJ)(u_1:Int)(v_2:Int):Option (aJ):=
 tV aW u_1 v_2 g_0 (aJ.mk (bC.mk 0 0 0) [] []) g_0.Config.L 0
theorem aVc:K3 prog dR vi vi dR 100 wI:=by
 intro g_0 u_1 v_2 r hm
 let I1:=((fun m s=> ∃u_1 v_2 g_3 t6 t10 t11,s=⟨24,(aF (aF (aF (aF (aF (aF fa 1 (vi u_1)) 2 (vi v_2)) 3 (.adr 1 0)) 6 (.adr 2 0)) 10 (vi t10)) 11 (vi t11)),⟨(upd (upd aY 1 (.cells 1 [vi g_3.Config.N,vi g_3.Config.L,vi g_3.Config.R,vl cL g_3.Hashes,vl aV g_3.Edges] 0)) 2 (.cells 1 [vi t6.Config.N,vi t6.Config.L,vi t6.Config.R,vl cL t6.Hashes,vl aV t6.Edges] 0)),64⟩⟩∧tV m u_1 v_2 g_3 t6 t10 t11=some r):Nat→St→Prop)
 exact be 24 func100 (h:=G)
instance:Ct prog 100 (K3 prog dR vi vi dR 100 wI):=⟨aVc⟩
def wH(g_0:aJ)(u_1:Int)(v_2:Int):Option (aJ×Int):=
 ((yJ g_0 u_1 v_2).bind fun r2=>
 (bif (!r2) then
  some (g_0,1)
 else
  ((aEc g_0.Config.N g_0.Edges u_1 v_2).bind fun ⟨r4,r5⟩=>
  (bif (r5 !=0) then
   some (g_0,r5)
  else
   ((wI (aJ.mk g_0.Config g_0.Hashes r4) u_1 v_2).bind fun r7=>
   some (r7,0))))))
theorem aVb:K3 prog dR vi vi (t2 dR vi) 52 wH:=fun hm=>be 37 func52 (h:=G)
instance:Ct prog 52 (K3 prog dR vi vi (t2 dR vi) 52 wH):=⟨aVb⟩
def wG(g_0:aJ)(u_1:Int)(v_2:Int):Option (aJ×Int):=
 ((yJ g_0 u_1 v_2).bind fun r2=>
 (bif (!r2) then
  some (g_0,1)
 else
  ((wE g_0.Config.N g_0.Edges u_1 v_2).bind fun ⟨r4,r5⟩=>
  (bif (r5 !=0) then
   some (g_0,r5)
  else
   ((wI (aJ.mk g_0.Config g_0.Hashes r4) u_1 v_2).bind fun r7=>
   some (r7,0))))))
theorem aVa:K3 prog dR vi vi (t2 dR vi) 50 wG:=fun hm=>be 37 func50 (h:=G)
instance:Ct prog 50 (K3 prog dR vi vi (t2 dR vi) 50 wG):=⟨aVa⟩
attribute [local semireducible] aW
end Go.Proofs.YtkdohhmacfoolaaGreatDoor
set_option maxRecDepth 4000
namespace Go.AM
open Go.RowKit
attribute [local semireducible] aR KN aFf yK AIn AWp dW
variable {P:Program}
def aHs(op:Op):Bool:=match op with| .fieldAddr .. | .load .. | .indexAddr .. | .slice .. | .call { callee:= .builtin .len,.. } =>true|_=>false
theorem aLj{H:aG}{x:AV}{j:Nat}(h:H.alive x=true)(hj:iX x=some j):H.ent j≠ .dead:=by
 intro hd;cases x<;>simp [iX] at hj<;>subst hj<;>simp [aG.alive,hd] at h
theorem bDh{d n:Nat}{x:AV}(h:fW d (some x)=some n):iX x=none:=by
 cases x with
 |v y=>rfl
 |_=>simp [fW] at h
theorem rN{ρ:Operand→AV}{d n:Nat}{o:Option Operand}{x:Operand}(h:fW d (o.map ρ)=some n)(hx:x∈o):iX (ρ x)=none:=by
 cases hx;exact bDh h
theorem bFv{H:aG}{ρ:Operand→AV}{t:TypeId}{a:Operand}{lo hi mx:Option Operand}{r:AV}(h:wY P H t (ρ a) (lo.map ρ) (hi.map ρ) (mx.map ρ)=some r):
 (∀j,iX (ρ a)=some j→H.ent j≠ .dead)∧(∀x,x∈lo∨x∈hi∨x∈mx→iX (ρ x)=none):=by
 unfold wY at h;split at h
 ·
  rename_i s hu ha;split at h
  ·
   rename_i l hh h1 h2 h3;refine ⟨fun j hj=>(by rw [ha] at hj;cases hj),fun x hx=>?_⟩;rcases hx with q|q|q
   · exact rN h2 q
   · exact rN h3 q
   · cases q;cases h1
  · cases h
 ·
  rename_i e hu ha;split at h
  ·
   rename_i h1 h2 h3 h4;refine ⟨fun j hj=>(by rw [ha] at hj;cases hj),fun x hx=>?_⟩;rcases hx with q|q|q
   · exact rN h2 q
   · exact rN h3 q
   · exact rN h4 q
  · cases h
 ·
  rename_i e xs len full hu ha;split at h
  ·
   split at h
   ·
    rename_i l hh m h2 h3 h4;refine ⟨fun j hj=>(by rw [ha] at hj;cases hj),fun x hx=>?_⟩;rcases hx with q|q|q
    · exact rN h2 q
    · exact rN h3 q
    · exact rN h4 q
   · cases h
  · cases h
 ·
  rename_i e id off len hu ha;split at h
  ·
   rename_i hent;split at h
   ·
    rename_i l hh h2 h3 h4;refine ⟨fun j hj hd=>?_,fun x hx=>?_⟩
    · rw [ha] at hj;cases hj;rw [hd] at hent;cases hent
    ·
     rcases hx with q|q|q
     · exact rN h2 q
     · exact rN h3 q
     · cases q;cases h4
   · cases h
  · cases h
 · cases h
theorem bLw{H:aG}{ρ:Operand→AV}{op:Op}{r:AV}(hs:aHs op=true)(h:bK P H ρ op=some r): ∀x,x∈op.operands→ ∀j,iX (ρ x)=some j→H.ent j≠ .dead:=by
 intro x hx j hj
 cases op with
 |fieldAddr t a f=>
  simp only [bK] at h;split at h
  · rename_i ha;simp [Op.operands] at hx;subst hx;exact aLj ha hj
  · cases h
 |load t a=>
  simp only [bK] at h;simp [Op.operands] at hx;subst hx;intro hd;cases hv:ρ x<;>rw [hv] at h hj<;>simp [iX] at hj<;>subst hj<;>simp [bT,hd] at h
 |indexAddr t a i=>
  simp only [bK] at h;split at h
  ·
   rename_i ha;simp [Op.operands] at hx;rcases hx with rfl|rfl
   · exact aLj ha hj
   ·
    exfalso
    unfold lU at h;split at h<;>first|(cases h;done)|(rename_i hq;rw [hq] at hj;cases hj)
  · cases h
 |slice t a lo hi mx=>
  simp only [bK] at h;obtain ⟨h1,h2⟩:=bFv h;simp [Op.operands] at hx;rcases hx with rfl|hx|hx|hx
  · exact h1 j hj
  · rw [h2 x (.inl hx)] at hj;cases hj
  · rw [h2 x (.inr (.inl hx))] at hj;cases hj
  · rw [h2 x (.inr (.inr hx))] at hj;cases hj
 |call c=>
  obtain ⟨callee,args,ats⟩:=c
  cases callee with
  |builtin b=>
   cases b<;>first|(simp [aHs] at hs;done)|skip
   simp only [bK] at h;split at h
   ·
    rename_i ha;rw [List.all_eq_true] at ha;refine aLj (ha _ (List.mem_map.2 ⟨x,?_,rfl⟩)) hj
    simpa [Op.operands,Call.operands] using hx
   · cases h
  |_=>simp [aHs] at hs
 |_=>simp [aHs] at hs
theorem bLv{ops:Array Oper}{id:Nat}{o:Oper}{s s':St}(h:dW P true ops id o s s')(hs:aHs o.op=true):
 ∃r,s'=⟨s.n,mS s.f o.dst r,s.H⟩∧ ∀(f':Nat→AV) (G:aG),(∀t,t∈o.looksAt ops→s.f t=f' t)→(∀x,x∈o.op.operands→ ∀j,iX (aval s.f x)=some j→s.H.ent j≠ .dead→G.ent j=s.H.ent j)→dW P true ops id o ⟨s.n,f',G⟩ ⟨s.n,mS f' o.dst r,G⟩:=by
 obtain ⟨hd,h⟩:=h;split at h
 · rename_i hg;subst h;refine ⟨.v undef,rfl,fun f' G hf _=>⟨hd,?_⟩⟩;have:=iN (ops:=ops) hf;rw [hg] at this;simp only [←this]
 ·
  rename_i hg;unfold aGr at h;split at h
  · rename_i f args ats ho;rw [ho] at hs;cases hs
  ·
   rename_i op hne;rcases h with ⟨r,h1,rfl⟩|⟨r,H',h1,rfl⟩|⟨r,h0,h1,rfl⟩
   · refine ⟨r,rfl,fun f' G hf hG=>⟨hd,?_⟩⟩;have e:=iN (ops:=ops) hf;rw [hg] at e;simp only [←e];refine aAl (s:=⟨s.n,f',G⟩) ?_;rw [←h1];exact (aBd (mZ hf) fun x hx j hj=>(hG x hx j hj (bLw hs h1 x hx j hj)).symm).symm
   ·
    exfalso
    cases ho:o.op<;>rw [ho] at h1 hs<;>first|(simp [aHs] at hs;done)|(simp [fE] at h1;done)|skip
    rename_i c;obtain ⟨callee,args,ats⟩:=c
    cases callee with
    |builtin b=>cases b<;>first|(simp [aHs] at hs;done)|(simp [fE] at h1;done)
    |_=>simp [aHs] at hs
   ·
    refine ⟨r,rfl,fun f' G hf hG=>⟨hd,?_⟩⟩;have e:=iN (ops:=ops) hf;rw [hg] at e;simp only [←e];have hop:=mZ hf;refine aDl (s:=⟨s.n,f',G⟩) (fun x hx=>by rw [←hop x hx];exact h0 x hx) (fun o' w X ρ h2 h3 h4=>h1 o' w X ρ h2 h3 (fun x hx=>by rw [hop x hx];exact h4 x hx)) ?_;unfold xM;split
    · rename_i f args ats ho;exact absurd ho (by intro ho;exact hne _ _ _ ho)
    · rfl
 · exact h.elim
section
variable {ops:Array Oper}
end
end Go.AM
namespace Go.AM
open Go.RowKit
attribute [local semireducible] aR KN aFf yK AIn AWp dW
variable {P:Program}
def bSm(cm:Nat→Nat→Bool)(ops:Array Oper):Bool:=
  (List.range ops.size).all fun i=>
    ((ops[i]?).map (·.after.all fun e=> !Region.binds .any e||decide (e.on<i))).getD false&&
    (List.range i).all fun p=>((aDr [] ops.toList).getD i 0).testBit p||cm p i
abbrev HI(P:Program)(ops:Array Oper)(I:St→Prop):Prop:= ∀ {C:Ctx} {a:Act} {w:World} {i id:Nat} {o:Oper} {s s':St},Real C s a w→ops[i]? =some o→dW P true ops id o s s'→I s→I s'
abbrev HC(P:Program)(ops:Array Oper)(base:Nat)(cm:Nat→Nat→Bool)(I:St→Prop):Prop:= ∀ {C:Ctx} {a:Act} {w:World} {p i:Nat} {op oi:Oper} {s s1 s2:St},Real C s a w→I s→ops[p]? =some op→ops[i]? =some oi→cm p i=true→p≠i→
    dW P true ops (base+p) op s s1→dW P true ops (base+i) oi s1 s2→ ∃t,dW P true ops (base+i) oi s t∧dW P true ops (base+p) op t s2
theorem aMw{C:Ctx}{ops:Array Oper}{base:Nat}(cm:Nat→Nat→Bool)(I:St→Prop)(hI:HI P ops I)(hC:HC P ops base cm I): ∀(L1:List Nat) (i:Nat) (L2:List Nat) (s sf:St) (a:Act) (w:World),Real C s a w→I s→(∀p,p∈L1→cm p i=true∧p≠i)→
 aIl P ops base (L1++i::L2) s sf→ ∃o t,ops[i]? =some o∧dW P true ops (base+i) o s t∧aIl P ops base (L1++L2) t sf
 |[],i,L2,s,sf,a,w,_,_,_,h=>h
 |p::L1,i,L2,s,sf,a,w,hr,hn,hc,h=>by
  obtain ⟨op,s1,h1,h2,h3⟩:=h;obtain ⟨a1,w1,hr1⟩:=aPj h2 hr;have hn1:=hI hr h1 h2 hn;obtain ⟨oi,t1,h4,h5,h6⟩:=aMw cm I hI hC L1 i L2 s1 sf a1 w1 hr1 hn1 (fun q hq=>hc q (by simp [hq])) h3;obtain ⟨hcm,hne⟩:=hc p (by simp);obtain ⟨t,h7,h8⟩:=hC hr hn h1 h4 hcm hne h2 h5;exact ⟨oi,t,h4,h7,op,t1,h1,h8,h6⟩
section
variable {ops:Array Oper}
theorem aR8{cm:Nat→Nat→Bool}(hok:bSm cm ops=true){listed:Array Bool}
 (hclosed: ∀k o,ops[k]? =some o→listed.getD k false=true→ ∀e,e∈o.after→Region.binds .any e=true→listed.getD e.on false=true):
 ∀(i:Nat) (o:Oper),ops[i]? =some o→(∀e,e∈o.after→Region.binds .any e=true→listed.getD e.on false=true)→
 ∀p,((aDr [] ops.toList).getD i 0).testBit p=true→listed.getD p false=true:=by
 intro i
 induction i using Nat.strongRecOn with
 |_ i ih=>
  intro o ho hall p hp;obtain ⟨acc',h1,h2⟩:=aNb ops.toList [] i o (by simpa using ho);simp only [List.length_nil,Nat.zero_add] at h1 h2;rw [h1] at hp;obtain ⟨e,he,hb,h3⟩:=aM0 hp;have hon:=hall e he hb;rcases h3 with rfl|h3
  · exact hon
  ·
   have hlt:i<ops.size:=(Array.getElem?_eq_some_iff.1 ho).1
   have hei:e.on<i:=by
    have:=List.all_eq_true.1 hok i (by simpa using hlt);simp only [Bool.and_eq_true,ho,Option.map_some,Option.getD_some] at this;have:=Array.all_eq_true_iff_forall_mem.1 this.1 e he
    simpa [hb] using this
   obtain ⟨oe,hoe⟩: ∃oe,ops[e.on]? =some oe:=⟨ops[e.on]'(by omega),by simp [show e.on<ops.size by omega]⟩
   rw [h2 _ hei] at h3;exact ih e.on hei oe hoe (fun e' he' hb'=>hclosed e.on oe hoe hon e' he' hb') p h3
theorem bAl{C:Ctx}{base:Nat}{Q:Exit→Act→World→Prop}(cm:Nat→Nat→Bool)(I:St→Prop)(hok:bSm cm ops=true)(hI:HI P ops I)(hC:HC P ops base cm I): ∀(fuel:Nat) (L:List Nat) (listed:Array Bool) (s sf:St) (a:Act) (w:World),
 L.length=fuel→L.Pairwise (· < ·)→listed.size=ops.size→(∀i,i<ops.size→(listed.getD i false=true↔i∉L))→(∀i,i∈L→i<ops.size)→
 (∀k o,ops[k]? =some o→listed.getD k false=true→ ∀e,e∈o.after→Region.binds .any e=true→listed.getD e.on false=true)→
 aIl P ops base L s sf→I s→Real C s a w→(∀a' w',Real C sf a' w'→Q .normal a' w')→wpAny P .any ops Q fuel listed a w:=by
 intro fuel
 have hdep: ∀i o,ops[i]? =some o→ ∀e,e∈o.after→Region.binds .any e=true→e.on<i:=by
  intro i o ho e he hb;have hlt:i<ops.size:=(Array.getElem?_eq_some_iff.1 ho).1;have:=List.all_eq_true.1 hok i (by simpa using hlt);simp only [Bool.and_eq_true,ho,Option.map_some,Option.getD_some] at this;have:=Array.all_eq_true_iff_forall_mem.1 this.1 e he
  simpa [hb] using this
 have getDt: ∀(listed:Array Bool) (i:Nat),listed.size=ops.size→i<ops.size→listed.getD i true=listed.getD i false:=by
  intro listed i hs hi;simp [hs,hi]
 induction fuel with
 |zero=>
  intro L listed s sf a w hL _ hsz hl hlt hcl hch hno hr hQ;have:L=[]:=List.eq_nil_of_length_eq_zero hL;subst this;have:s=sf:=hch;subst this;refine ⟨?_,hQ a w hr⟩
  cases hrd:Region.ready .any ops listed with
  |nil=>rfl
  |cons x xs=>
   have hx:x∈Region.ready .any ops listed:=by rw [hrd];simp
   obtain ⟨h1,o,h2,_⟩:=mem_ready.1 hx;have hxs:x<ops.size:=(Array.getElem?_eq_some_iff.1 h2).1;rw [getDt listed x hsz hxs] at h1;have:=(hl x hxs).2 (by simp);rw [h1] at this;cases this
 |succ fuel ih=>
  intro L listed s sf a w hL hsort hsz hl hlt hcl hch hno hr hQ;refine ⟨fun hempty=>?_,fun i hi=>?_⟩
  ·
   
   exfalso
   match L,hL with
   |x::L',_=>
    have hxs:x<ops.size:=hlt x (by simp);obtain ⟨o,ho⟩: ∃o,ops[x]? =some o:=⟨ops[x],by simp [hxs]⟩
    have:x∈Region.ready .any ops listed:=by
     refine mem_ready.2 ⟨?_,o,ho,fun e he hb=>?_⟩
     ·
      rw [getDt listed x hsz hxs]
      cases hv:listed.getD x false with
      |false=>rfl
      |true=>exact absurd (by simp) ((hl x hxs).1 hv)
     ·
      have hex:=hdep x o ho e he hb;refine (hl e.on om).2 (fun hm=>?_);rcases List.mem_cons.1 hm with h|h
      · omega
      · have:=List.rel_of_pairwise_cons hsort h;omega
    rw [hempty] at this;cases this
  ·
   obtain ⟨h1,oi,hoi,hall⟩:=mem_ready.1 hi;have his:i<ops.size:=(Array.getElem?_eq_some_iff.1 hoi).1;rw [getDt listed i hsz his] at h1
   have hiL:i∈L:=by
    rcases Classical.em (i∈L) with h|h
    · exact h
    · have:=(hl i his).2 h;rw [h1] at this;cases this
   obtain ⟨L1,L2,rfl⟩:=List.append_of_mem hiL;have hp:=List.pairwise_append.1 hsort
   have hpre: ∀p,p∈L1→cm p i=true∧p≠i:=by
    intro p hpm;have hpi:p<i:=hp.2.2 p hpm i (by simp);refine ⟨?_,by omega⟩;have:=List.all_eq_true.1 hok i (by simpa using his);simp only [Bool.and_eq_true] at this;have:=List.all_eq_true.1 this.2 p (by simpa using hpi);simp only [Bool.or_eq_true] at this;rcases this with h|h
    ·
     exfalso
     have:=aR8 hok hcl i oi hoi hall p h;exact ((hl p om).1 this) (by simp [hpm])
    · exact h
   obtain ⟨o,t,h2,h3,h4⟩:=aMw cm I hI hC L1 i L2 s sf a w hr hno hpre hch;rw [hoi] at h2;cases h2
   have hst:=aEb (Q:=Q) h3 hr (K:=wpAny P .any ops Q fuel (listed.setIfInBounds i true)) (fun a' w' hr'=>by
    refine ih (L1++L2) (listed.setIfInBounds i true) t sf a' w' (by simp at hL ⊢; omega) ?_ (by simpa using hsz) (fun j hj=>?_) (fun j hj=>hlt j (by simp at hj ⊢; rcases hj with h|h<;>simp [h])) ?_ h4 (hI hr hoi h3 hno) hr' hQ
    · refine List.pairwise_append.2 ⟨hp.1,(List.pairwise_cons.1 hp.2.1).2,fun x hx y hy=>hp.2.2 x hx y (by simp [hy])⟩
    ·
     have hnd:i∉L1++L2:=by
      intro hm;rcases List.mem_append.1 hm with h|h
      · have:=hp.2.2 i h i (by simp);omega
      · have:=(List.pairwise_cons.1 hp.2.1).1 i h;omega
     by_cases hji:j=i
     ·
      subst hji;simp [hsz,his]
      simpa using hnd
     · have e:(listed.setIfInBounds i true).getD j false=listed.getD j false:=getD_set_ne false (Ne.symm hji);rw [e,hl j hj];simp [hji]
    ·
     intro k o hk hkl e he hb
     by_cases hki:k=i
     · subst hki;rw [hoi] at hk;cases hk;exact getD_set_true (hall e he hb)
     · rw [getD_set_ne false (Ne.symm hki)] at hkl;exact getD_set_true (hcl k o hk hkl e he hb))
   unfold wpOp;simp only [hoi];split at hst
   · rename_i hw;simp only [hw,if_true];exact .inl hst
   · rename_i hw;simp only [hw];exact hst
end
theorem AWp.regionG{B:Nat→Prop}(cm:Nat→Nat→Bool)(I:St→Prop)(m:Nat){id:Nat}{l:List Oper}{Q:Exit→St→Prop}{n N:Nat}{f:Nat→AV}{e:Nat→Ent}(hmix:P.follows .mixedOrders=true)(hok:bSm cm l.toArray=true)(hI:HI P l.toArray I)(hC:HC P l.toArray N cm I)(hno:I ⟨n,f,⟨e,N⟩⟩)
 (h:aR P true l.toArray N 0 l (fun s'=>Q .normal ⟨s'.n,s'.f,⟨s'.H.ent,N+m⟩⟩) ⟨n,f,⟨e,N⟩⟩):AWp P B (.region id l.toArray true) Q ⟨n,f,⟨e,N⟩⟩:=by
 intro C a w _ hr;refine wp_region_any hmix ?_;obtain ⟨sf,h1,h2⟩:=aCo l 0 _ (fun j=>by simp) h
 have hr':Real C ⟨n,f,⟨e,N⟩⟩ a { w with drawn:=w.drawn+1 } :=by
  obtain ⟨hd,O,hs,hv,ht⟩:=hr;obtain ⟨h3,h4⟩:=hs.same (w':= { w with drawn:=w.drawn+1 }) rfl rfl rfl rfl;exact ⟨hd,O,h3,hv.mono h4,ht.trans h4⟩
 refine bAl cm I hok hI hC l.toArray.size (List.range' 0 l.length) _ _ sf a _ (by simp) List.pairwise_lt_range' (by simp) (fun i hi=>?_) (fun i hi=>by simp at hi ⊢; omega) (fun k o hk hkl=>?_) h1 hno hr' (fun a' w' hr''=>⟨_,hr''.nxt _,h2⟩)
 · simp at hi;simp [hi]
 ·
  have:(Array.replicate l.toArray.size false).getD k false=false:=by
   simp only [Array.getD_eq_getD_getElem?,Array.getElem?_replicate];split<;>rfl
  rw [this] at hkl;cases hkl
structure IJ(T0 T1 U:List Nat)(J:Nat)(E:Ent)(s:St):Prop where
  t0: ∀k,k∈T0→ ∃off,s.f k= .adr J off
  t1: ∀k,k∈T1→(∃off,s.f k= .adr J off)∨s.f k= .any∨s.f k= .v undef
  u: ∀k,k∈U→iX (s.f k)≠some J
  e:s.H.ent J=E
theorem bM4{ops:Array Oper}{id:Nat}{o:Oper}{s s':St}{t:TypeId}{x y:Operand}{J:Nat}(h:dW P true ops id o s s')(ho:o.op= .store t x y)(hx:iX (aval s.f x)≠some J):s'.H.ent J=s.H.ent J:=by
 obtain ⟨hd,h⟩:=h;split at h
 · subst h;rfl
 ·
  unfold aGr at h;split at h
  · rename_i f args ats ho';rw [ho] at ho';cases ho'
  ·
   rename_i op hne;rcases h with ⟨r,h1,rfl⟩|⟨r,H',h1,rfl⟩|⟨r,h0,h1,rfl⟩
   · rfl
   ·
    rw [ho] at h1;simp only [fE] at h1;split at h1
    ·
     rename_i j off cs ha hc;split at h1
     ·
      split at h1
      · cases h1;refine upd_ne _ _ _ _ fun q=>hx ?_;rw [ha,q];rfl
      · cases h1
     · cases h1
    · cases h1
   · rfl
 · exact h.elim
section
variable {T0 T1 U:List Nat}{J:Nat}{E:Ent}{ops:Array Oper}
end
end Go.AM
