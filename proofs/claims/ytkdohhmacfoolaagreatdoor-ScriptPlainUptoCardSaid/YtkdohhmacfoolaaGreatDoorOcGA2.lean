/- Facts. No condition. -/
import Derived.Test.YtkdohhmacfoolaaGreatDoorOcGA1
set_option linter.unusedVariables false
set_option linter.unusedSimpArgs false
set_option maxRecDepth 20000
set_option maxHeartbeats 4000000
namespace Go.Proofs.YtkdohhmacfoolaaGreatDoor
open Go.Proofs.Tryz Go Go.AM
attribute [local irreducible] bF
structure aO where
 R:Int
 V:Int
 Words:List Int
deriving DecidableEq
def sB(e:aO):List AV:=[.v (.int .i64 e.R),.v (.int .i64 e.V),.sl (e.Words.flatMap (ci .u64)) e.Words.length false]
theorem aL4:CF sB 3:=⟨fun _=>rfl,fun a x hx=>by
 simp only [sB,List.mem_cons,List.not_mem_nil,or_false] at hx;rcases hx with rfl|rfl|rfl
 · exact (.v _)
 · exact (.v _)
 · exact ((CFi .u64).sl _ _ _),fun _=>rfl⟩
instance:CC sB 3:=⟨aL4⟩
abbrev gY(e:aO):AV:= .agg [.v (.int .i64 e.R),vi e.V,vl (ci .u64) e.Words]
@[go_sem] theorem aGd(e:aO)(r:List AV):sB e++r= .v (.int .i64 e.R):: .v (.int .i64 e.V):: .sl (e.Words.flatMap (ci .u64)) e.Words.length false::r:=rfl
theorem bF6(x0 y0 x1 y1 x2 y2:Int):eZ prog .eql 23 (.agg [.v (.int .i64 x0),.v (.int .i64 x1),.v (.int .i64 x2)]) (.agg [.v (.int .i64 y0),.v (.int .i64 y1),.v (.int .i64 y2)])=some (.v (.bool ((x0==y0)&&((x1==y1)&&(x2==y2))))):=
 (by kernel_rfl:eZ prog .eql 23 (.agg [.v (.int .i64 x0),.v (.int .i64 x1),.v (.int .i64 x2)]) (.agg [.v (.int .i64 y0),.v (.int .i64 y1),.v (.int .i64 y2)])=some (.v (.bool ((x0==y0)&&((x1==y1)&&((x2==y2)&&true)))))).trans (by rw [Bool.and_true])
theorem bGk(x0 y0 x1 y1 x2 y2:Int):eZ prog .neq 23 (.agg [.v (.int .i64 x0),.v (.int .i64 x1),.v (.int .i64 x2)]) (.agg [.v (.int .i64 y0),.v (.int .i64 y1),.v (.int .i64 y2)])=some (.v (.bool (!((x0==y0)&&((x1==y1)&&(x2==y2)))))):=
 (by kernel_rfl:eZ prog .neq 23 (.agg [.v (.int .i64 x0),.v (.int .i64 x1),.v (.int .i64 x2)]) (.agg [.v (.int .i64 y0),.v (.int .i64 y1),.v (.int .i64 y2)])=some (.v (.bool (!((x0==y0)&&((x1==y1)&&((x2==y2)&&true))))))).trans (by rw [Bool.and_true])
attribute [go_sem] bF6 bGk
theorem bF8(x0 y0 x1 y1:Int):eZ prog .eql 94 (.agg [.v (.int .u64 x0),.v (.int .u64 x1)]) (.agg [.v (.int .u64 y0),.v (.int .u64 y1)])=some (.v (.bool ((x0==y0)&&(x1==y1)))):=
 (by kernel_rfl:eZ prog .eql 94 (.agg [.v (.int .u64 x0),.v (.int .u64 x1)]) (.agg [.v (.int .u64 y0),.v (.int .u64 y1)])=some (.v (.bool ((x0==y0)&&((x1==y1)&&true))))).trans (by rw [Bool.and_true])
theorem bGm(x0 y0 x1 y1:Int):eZ prog .neq 94 (.agg [.v (.int .u64 x0),.v (.int .u64 x1)]) (.agg [.v (.int .u64 y0),.v (.int .u64 y1)])=some (.v (.bool (!((x0==y0)&&(x1==y1))))):=
 (by kernel_rfl:eZ prog .neq 94 (.agg [.v (.int .u64 x0),.v (.int .u64 x1)]) (.agg [.v (.int .u64 y0),.v (.int .u64 y1)])=some (.v (.bool (!((x0==y0)&&((x1==y1)&&true)))))).trans (by rw [Bool.and_true])
attribute [go_sem] bF8 bGm
@[go_sem] theorem aXj(i o:Nat):aN prog 215 (.adr i o) 0=some (.adr i (o+0)):=by kernel_rfl
@[go_sem] theorem aXk(i o:Nat):aN prog 215 (.adr i o) 1=some (.adr i (o+1)):=by kernel_rfl
@[go_sem] theorem aXl(i o:Nat):aN prog 215 (.adr i o) 2=some (.adr i (o+2)):=by kernel_rfl
@[go_sem] theorem bB7(i o:Nat):aN prog 23 (.adr i o) 0=some (.adr i (o+0)):=by kernel_rfl
@[go_sem] theorem bBc(i o:Nat):aN prog 23 (.adr i o) 1=some (.adr i (o+1)):=by kernel_rfl
@[go_sem] theorem bBg(i o:Nat):aN prog 23 (.adr i o) 2=some (.adr i (o+2)):=by kernel_rfl
@[go_sem] theorem bBk(i o:Nat):aN prog 30 (.adr i o) 0=some (.adr i (o+0)):=by kernel_rfl
@[go_sem] theorem bBp(i o:Nat):aN prog 30 (.adr i o) 1=some (.adr i (o+3)):=by kernel_rfl
@[go_sem] theorem bBr(i o:Nat):aN prog 30 (.adr i o) 2=some (.adr i (o+4)):=by kernel_rfl
@[go_sem] theorem bC6(i o:Nat):aN prog 61 (.adr i o) 0=some (.adr i (o+0)):=by kernel_rfl
@[go_sem] theorem bCc(i o:Nat):aN prog 61 (.adr i o) 1=some (.adr i (o+1)):=by kernel_rfl
@[go_sem] theorem bCi(i o:Nat):aN prog 61 (.adr i o) 2=some (.adr i (o+2)):=by kernel_rfl
@[go_sem] theorem bCo(i o:Nat):aN prog 94 (.adr i o) 0=some (.adr i (o+0)):=by kernel_rfl
@[go_sem] theorem bCq(i o:Nat):aN prog 94 (.adr i o) 1=some (.adr i (o+1)):=by kernel_rfl
@[go_sem] theorem bG3(H:aG)(x0 x1 x2:AV)(xs:List AV):cE prog H 215 (.ptr (x0::x1::x2::xs))=some (.agg [x0,x1,x2]):=by kernel_rfl
@[go_sem] theorem bJ3(H:aG)(x0 x1 x2:AV)(xs:List AV):cE prog H 23 (.ptr (x0::x1::x2::xs))=some (.agg [x0,x1,x2]):=by kernel_rfl
@[go_sem] theorem bJ5(H:aG)(x:AV)(xs:List AV):cE prog H 24 (.ptr (x::xs))=some x:=by kernel_rfl
@[go_sem] theorem bJ8(H:aG)(x:AV)(xs:List AV):cE prog H 27 (.ptr (x::xs))=some x:=by kernel_rfl
@[go_sem] theorem bJa(H:aG)(x:AV)(xs:List AV):cE prog H 28 (.ptr (x::xs))=some x:=by kernel_rfl
@[go_sem] theorem bN1(H:aG)(x:AV)(xs:List AV):cE prog H 3 (.ptr (x::xs))=some x:=by kernel_rfl
@[go_sem] theorem bJf(H:aG)(x0 x1 x2 x3 x4:AV)(xs:List AV):cE prog H 30 (.ptr (x0::x1::x2::x3::x4::xs))=some (.agg [x0,x1,x2,x3,x4]):=by kernel_rfl
@[go_sem] theorem bN6(H:aG)(x:AV)(xs:List AV):cE prog H 4 (.ptr (x::xs))=some x:=by kernel_rfl
@[go_sem] theorem bJq(H:aG)(x:AV)(xs:List AV):cE prog H 40 (.ptr (x::xs))=some x:=by kernel_rfl
@[go_sem] theorem bJw(H:aG)(x0 x1 x2:AV)(xs:List AV):cE prog H 61 (.ptr (x0::x1::x2::xs))=some (.agg [x0,x1,x2]):=by kernel_rfl
@[go_sem] theorem bK2(H:aG)(x0 x1:AV)(xs:List AV):cE prog H 94 (.ptr (x0::x1::xs))=some (.agg [x0,x1]):=by kernel_rfl
@[go_sem] theorem bAp(H:aG)(k:IntKind)(n:Int):mV prog H 3 40 (.v (.int k n))=some (.v (.int .u64 (IntKind.u64.wrap n))):=iA underlying3 underlying40
@[go_sem] theorem aWz(H:aG)(k:IntKind)(n:Int):mV prog H 3 162 (.v (.int k n))=some (.v (.int .u64 (IntKind.u64.wrap n))):=iA underlying3 underlying162
@[go_sem] theorem bF0(H:aG)(k:IntKind)(n:Int):mV prog H 5 3 (.v (.int k n))=some (.v (.int .i64 (IntKind.i64.wrap n))):=iA underlying5 underlying3
@[go_sem] theorem bAr(H:aG)(k:IntKind)(n:Int):mV prog H 40 3 (.v (.int k n))=some (.v (.int .i64 (IntKind.i64.wrap n))):=iA underlying40 underlying3
@[go_sem] theorem aWx(H:aG)(k:IntKind)(n:Int):mV prog H 277 5 (.v (.int k n))=some (.v (.int .u8 (IntKind.u8.wrap n))):=iA underlying277 underlying5
abbrev aC3(rec1:List Bool→List aC→List aC→Int→Int→Option ((List aC)))(vT:List Bool)(gN:List aC)(t8:List aC)(t9:Int)(t10:Int):Option ((List aC)):=
 rec1 vT gN t8 t9 (IntKind.i64.wrap (t10+1))
def aC2(rec1:List Bool→List aC→List aC→Int→Int→Option ((List aC)))(vT:List Bool)(gN:List aC)(t8:List aC)(t9:Int)(t10:Int):Option ((List aC)):=
 (bif (decide (t10<t9)) then
  ((idx t8 t10).bind fun x2=>
  ((idx vT x2.U).bind fun x4=>
  ((idx vT x2.V).bind fun x6=>
  (bif (!(x4==x6)) then
   ((app gN [x2]).bind fun l8=>
   aC3 rec1 vT l8 t8 t9 t10)
  else
   aC3 rec1 vT gN t8 t9 t10))))
 else
  some gN)
def sD:Nat→List Bool→List aC→List aC→Int→Int→Option ((List aC))
 |0=>fun _ _ _ _ _=>none
 |n+1=>aC2 (sD n)
def aA1(l_0:List aC)(vT:List Bool):Option ((List aC)):=
 sD bF vT [] l_0 (l_0.length:Int) 0
theorem aKg:K2 prog (vl aU) (vl aKd) (vl aU) 214 aA1:=by
 intro l_0 vT r hm
 let I1:=((fun m s=> ∃vT gN t8 t9 t10,s=⟨31,(aF (aF (aF (aF (aF fa 1 (vl aKd vT)) 5 (.own 1 0 gN.length)) 8 (vl aU t8)) 9 (vi t9)) 10 (vi t10)),⟨(upd bD 1 (.cells 3 (gN.flatMap aU) 0)),64⟩⟩∧sD m vT gN t8 t9 t10=some r):Nat→St→Prop)
 exact be 31 func214 (h:=G)
instance:Ct prog 214 (K2 prog (vl aU) (vl aKd) (vl aU) 214 aA1):=⟨aKg⟩
def aJe(rec1:List aC→List Bool→List Int→Int→Int→Option ((List aC)×Int))(l_1:List aC)(aUd:List Bool)(t18:List Int)(t19:Int)(t20:Int):Option ((List aC)×Int):=
 (bif (decide (t20<t19)) then
  ((idx t18 t20).bind fun x6=>
  ((idx aUd x6).bind fun x8=>
  ((stt aUd x6 true).bind fun l10=>
  rec1 l_1 l10 t18 t19 (IntKind.i64.wrap (t20+1)))))
 else
  ((aA1 l_1 aUd).bind fun r12=>
  some (r12,0)))
def aBe:Nat→List aC→List Bool→List Int→Int→Int→Option ((List aC)×Int)
 |0=>fun _ _ _ _ _=>none
 |n+1=>aJe (aBe n)
def aDr(n_0:Int)(l_1:List aC)(aFw:List Int):Option ((List aC)×Int):=
 ((aF6 n_0 l_1 aFw).bind fun r2=>
 (bif (!r2) then
  some ([],1)
 else
  ((mkc n_0 n_0 false).bind fun l4=>
  aBe bF l_1 l4 aFw (aFw.length:Int) 0)))
theorem bEv{n_0:Int}{l_1:List aC}{aFw:List Int}{r:(List aC)×Int}(hm:aDr n_0 l_1 aFw=some r):bN prog 164 [vi n_0,vl aU l_1,vl (ci .i64) aFw] (.tup [vl aU r.1,vi r.2]):=by
 refine bd 31 func164 ?_;obtain ⟨r2,h1,hm⟩:=bnd hm;refine W ?_;refine cq (aPt h1) ?_;refine W ?_;refine cm hm (fun hm=>?_) fun hm=>?_
 · exact E
 obtain ⟨l4,h3,hm⟩:=bnd hm;refine W ?_;refine aK CFb h3 ?_;refine W ?_;refine lp (fun m s=> ∃l_1 aUd t18 t19 t20,s=⟨31,(aF (aF (aF (aF (aF fa 1 (vl aU l_1)) 8 (.own 1 0 aUd.length)) 18 (vl (ci .i64) t18)) 19 (vi t19)) 20 (vi t20)),⟨(upd bD 1 (.cells 1 (aUd.flatMap aKd) 0)),64⟩⟩∧aBe m l_1 aUd t18 t19 t20=some r) (Lr (fun j=>bif j==1 then 129 else 0)) ?_;rintro n1 s ⟨l_1,aUd,t18,t19,t20,rfl,hm⟩;refine W ?_;refine cm hm (fun hm=>?_) fun hm=>?_
 · obtain ⟨x6,h5,hm⟩:=bnd hm;obtain ⟨x8,h7,hm⟩:=bnd hm;obtain ⟨l10,h9,hm⟩:=bnd hm;refine W ?_;have qh9:=kM h9;refine aS h9 ?_;refine W ?_;exact Lr (fun j=>bif j==1 then 1 else 0)
 iterate 5 refine S1 ?_
 refine AWp.seq' ?_;refine AWp.weaken (aI2 CFb 8 1 Z1 Z3 Z6) ?_;obtain ⟨r12,h11,hm⟩:=bnd hm;refine W ?_;refine cq (aKg h11) ?_;exact E
instance:Ct prog 164 (K3 prog vi (vl aU) (vl (ci .i64)) (t2 (vl aU) vi) 164 aDr):=⟨fun hm=>bEv hm⟩
def qH(g_0:aH)(gJ:Int)(v_2:Int):Option ((List aC)):=
 ((mD g_0 gJ v_2).bind fun r2=>
 ((aDr g_0.Config.N g_0.Edges r2).bind fun ⟨r4,r5⟩=>
 some r4))
theorem aP3:K3 prog cU vi vi (vl aU) 137 qH:=fun hm=>be 23 func137 (h:=G)
instance:Ct prog 137 (K3 prog cU vi vi (vl aU) 137 qH):=⟨aP3⟩
def xJ(x_0:Int):Option (Int):=
 ((zX x_0).bind fun r2=>
 some r2)
theorem aJ8{x_0:Int}{r:Int}(hm:xJ x_0=some r):bN prog 160 [vu x_0] (vi r):=by
 refine bd 8 func160 ?_;refine W ?_;refine AWp.condF Z1 ?_;obtain ⟨r2,h1,hm⟩:=bnd hm;refine W ?_;refine cq (aKb h1) ?_;exact E
instance:Ct prog 160 (K1 prog vu vi 160 xJ):=⟨fun hm=>aJ8 hm⟩
def pZ(n_0:Int):Option (Int):=
 (bif (decide (n_0<1)) then
  some 0
 else
  ((xJ (IntKind.u64.wrap (IntKind.i64.wrap (n_0-1)))).bind fun r2=>
  some (IntKind.i64.wrap ((IntKind.i64.wrap (2*r2))+2))))
theorem aOw:K1 prog vi vi 168 pZ:=fun hm=>be 11 func168 (h:=G)
instance:Ct prog 168 (K1 prog vi vi 168 pZ):=⟨aOw⟩
def kI(r_0:Int)(v_1:Int):Option (Bool):=
 some ((((decide (1≤r_0))&&(decide (r_0≤8)))&&(decide (1≤v_1)))&&(decide (v_1≤61)))
theorem aFz:K2 prog vi vi vb 216 kI:=fun hm=>be 19 func216 (h:=G)
instance:Ct prog 216 (K2 prog vi vi vb 216 kI):=⟨aFz⟩
def aAg(r_0:Int)(v_1:Int):Option (aO×Int):=
 ((kI r_0 v_1).bind fun r2=>
 (bif (!r2) then
  some ((aO.mk 0 0 []),1)
 else
  ((mkc (IntKind.i64.wrap (r_0*v_1)) (IntKind.i64.wrap (r_0*v_1)) 0).bind fun l4=>
  some ((aO.mk r_0 v_1 l4),0))))
theorem aVa{r_0:Int}{v_1:Int}{r:aO×Int}(hm:aAg r_0 v_1=some r):bN prog 167 [vi r_0,vi v_1] (.tup [.agg [vi r.1.R,vi r.1.V,vl (ci .u64) r.1.Words],vi r.2]):=by
 refine bd 18 func167 ?_;obtain ⟨r2,h1,hm⟩:=bnd hm;refine W ?_;refine cq (aFz h1) ?_;refine W ?_;refine cm hm (fun hm=>?_) fun hm=>?_
 · refine W ?_;refine bU (.agg [vi 0,vi 0,.v (.slice none 0 0)]) ?_;exact E
 iterate 2 refine S1 ?_
 refine AWp.seq' ?_;refine AWp.regC 64 6 (N':=192) rfl ?_;obtain ⟨l4,h3,hm⟩:=bnd hm;refine W ?_;refine aK (CFi .u64) h3 ?_;refine aV.cut (aI2 (CFi .u64) 16 133 Z1 Z3 Z6) ?_;refine bU (.agg [vi r_0,vi v_1,vl (ci .u64) l4]) ?_;exact E
instance:Ct prog 167 (K2 prog vi vi (t2 gY vi) 167 aAg):=⟨fun hm=>aVa hm⟩
def lS(g_0:aH)(gJ:Int):Option ((List bQ)):=
 ((slc g_0.Hashes (IntKind.i64.wrap (gJ*g_0.Config.R)) (IntKind.i64.wrap ((IntKind.i64.wrap (gJ*g_0.Config.R))+g_0.Config.R))).bind fun l2=>
 ((fF l2).bind fun r4=>
 some r4))
theorem aLk:K2 prog cU vi (vl bS) 169 lS:=fun hm=>be 21 func169 (h:=G)
instance:Ct prog 169 (K2 prog cU vi (vl bS) 169 lS):=⟨aLk⟩
def sP(v_0:Int):Option (Bool):=
 some ((decide (0≤v_0))&&(decide (v_0<16777216)))
theorem aSc:K1 prog vi vb 246 sP:=fun hm=>be 9 func246 (h:=G)
instance:Ct prog 246 (K1 prog vi vb 246 sP):=⟨aSc⟩
def aEb(u_0:Int)(v_1:Int):Option (Int×Int):=
 ((sP u_0).bind fun r2=>
 ((gO ((!r2)==false) false (sP v_1)).bind fun r4=>
 (bif ((!r2)||(!r4)) then
  some (0,1)
 else
  (bif (u_0==v_1) then
   some (0,8)
  else
   some ((IntKind.u64.wrap ((IntKind.u64.wrap ((IntKind.u64.wrap (if v_1<u_0 then v_1 else u_0))*16777216))+(IntKind.u64.wrap (if u_0<v_1 then v_1 else u_0)))),0)))))
theorem bGh:K2 prog vi vi (t2 vu vi) 217 aEb:=fun hm=>be 27 func217 (h:=G)
instance:Ct prog 217 (K2 prog vi vi (t2 vu vi) 217 aEb):=⟨bGh⟩
abbrev aKf(rec1:List Int→List aC→Int→Int→Option ((List Int)))(iK:List Int)(t8:List aC)(t9:Int)(t10:Int):Option ((List Int)):=
 rec1 iK t8 t9 (IntKind.i64.wrap (t10+1))
abbrev aDt(rec1:List Int→List aC→Int→Int→Option ((List Int)))(iK:List Int)(bXj:Int)(t8:List aC)(t9:Int)(t10:Int):Option ((List Int)):=
 ((app iK [bXj]).bind fun l7=>
 aKf rec1 l7 t8 t9 t10)
def aDs(rec1:List Int→List aC→Int→Int→Option ((List Int)))(iK:List Int)(t8:List aC)(t9:Int)(t10:Int):Option ((List Int)):=
 (bif (decide (t10<t9)) then
  ((idx t8 t10).bind fun x2=>
  ((aEb x2.U x2.V).bind fun ⟨r4,r5⟩=>
  (bif (r5 !=0) then
   aDt rec1 iK 0 t8 t9 t10
  else
   aDt rec1 iK r4 t8 t9 t10)))
 else
  some iK)
def uS:Nat→List Int→List aC→Int→Int→Option ((List Int))
 |0=>fun _ _ _ _=>none
 |n+1=>aDs (uS n)
def yM(l_0:List aC):Option ((List Int)):=
 uS bF [] l_0 (l_0.length:Int) 0
theorem aWu:K1 prog (vl aU) (vl (ci .u64)) 170 yM:=by
 intro l_0 r hm
 let I1:=((fun m s=> ∃iK t8 t9 t10,s=⟨30,(aF (aF (aF (aF fa 3 (.own 1 0 iK.length)) 8 (vl aU t8)) 9 (vi t9)) 10 (vi t10)),⟨(upd bD 1 (.cells 1 (iK.flatMap (ci .u64)) 0)),64⟩⟩∧uS m iK t8 t9 t10=some r):Nat→St→Prop)
 exact be 30 func170 (h:=G)
instance:Ct prog 170 (K1 prog (vl aU) (vl (ci .u64)) 170 yM):=⟨aWu⟩
def mF(s_0:aO):Option (Bool):=
 ((kI s_0.R s_0.V).bind fun r2=>
 some (r2&&((s_0.Words.length:Int)==(IntKind.i64.wrap (s_0.R*s_0.V)))))
theorem aFy:K1 prog gY vb 166 mF:=fun hm=>be 19 func166 (h:=G)
instance:Ct prog 166 (K1 prog gY vb 166 mF):=⟨aFy⟩
def jD(l:List Int):Option (List Int):=app [] l
theorem aEu{r:List Int}(hm:some []=some r):dQ prog 218 [.v (.slice none 0 0)] 1 (r.flatMap (ci .u64)) r.length:=by
 refine dQ.of_body func218 rfl ((CFi .u64).fmdat r) ?_;simp only [ntmps218,List.length_cons,List.length_nil,Nat.reduceAdd,Nat.reduceSub,fH];refine sN 64 (pA ?_);refine fs (AWp.seq' (sN 128 (pA ?_)));refine pu rfl (vL Z1 Z1 (aH8 underlying24)) ?_;refine fs (AWp.condT Z1 ?_);refine sN 192 (pA ?_);refine fs (AWp.weaken (sL 2 900002 1 Z1 Z5) ?_);refine AWp.ret (iD ?_);cases hm;exact aIg (.inr rfl) Tryz.results218 Z1 Z3 Z6
theorem aEv{a:Addr}{c:Nat}{r:List Int}(hm:((app [] []).bind fun l2=>
some l2)=some r):dQ prog 218 [.v (.slice (some a) 0 c)] 1 (r.flatMap (ci .u64)) r.length:=by
 refine dQ.of_body func218 rfl ((CFi .u64).fmdat r) ?_;simp only [ntmps218,List.length_cons,List.length_nil,Nat.reduceAdd,Nat.reduceSub,fH];refine sN 64 (pA ?_);refine fs (AWp.seq' (sN 128 (pA ?_)));refine pu rfl (vL Z1 Z1 (aF4 underlying24)) ?_;refine fs (AWp.condF Z1 ?_);refine AWp.skip (bM (sN 192 (hp (id:=128) rfl rfl (jF (CFi .u64) (l:=[]) underlying24 aLo bL4 Z5 Zd Zd Zd (by simp only [go_sem,Nat.reduceBEq];try rfl) (by kernel_rfl)) ?_)));refine pA ?_;obtain ⟨l2,h1,hm⟩:=bnd hm;refine hp (id:=130) rfl rfl (yA (CFi .u64) underlying24 underlying24 rfl bMw bO0 (by rw [bDj];decide) (by rw [bDj];decide) bO4 Zd Zd Z1 Z3 Z6 (aLq Z1) rfl Z5 h1) ?_;refine pA ?_;refine fs (AWp.ret ?_);cases hm;exact aIg (.inr rfl) Tryz.results218 Z1 Z3 Z6
theorem aEw{x0:Int}{l0:List Int}{r:List Int}(hm:((app [] (x0::l0)).bind fun l2=>
some l2)=some r):dQ prog 218 [.sl ((x0::l0).flatMap (ci .u64)) (x0::l0).length false] 1 (r.flatMap (ci .u64)) r.length:=by
 refine dQ.of_body func218 rfl ((CFi .u64).fmdat r) ?_;simp only [ntmps218,List.length_cons,List.length_nil,Nat.reduceAdd,Nat.reduceSub,fH];refine sN 64 (pA ?_);refine fs (AWp.seq' (sN 128 (pA ?_)));refine pu rfl (vL Z1 Z1 (aF3 underlying24 (by simp))) ?_;refine fs (AWp.condF Z1 ?_);refine AWp.skip (bM (sN 192 (hp (id:=128) rfl rfl (jF (CFi .u64) (l:=[]) underlying24 aLo bL4 Z5 Zd Zd Zd (by simp only [go_sem,Nat.reduceBEq];try rfl) (by kernel_rfl)) ?_)));refine pA ?_;obtain ⟨l2,h1,hm⟩:=bnd hm;refine hp (id:=130) rfl rfl (yA (CFi .u64) underlying24 underlying24 rfl bMw bO0 (by rw [bDj];decide) (by rw [bDj];decide) bO4 Zd Zd Z1 Z3 Z6 (aPk (CFi .u64) Z1 rfl) rfl Z5 h1) ?_;refine pA ?_;refine fs (AWp.ret ?_);cases hm;exact aIg (.inr rfl) Tryz.results218 Z1 Z3 Z6
theorem aFm{l r:List Int}(hm:jD l=some r):dQ prog 218 [.sl (l.flatMap (ci .u64)) l.length false] 1 (r.flatMap (ci .u64)) r.length:=by
 cases l with
 |nil=>
  have hr:r=[]:=by unfold jD app at hm;simpa using hm.symm
  subst hr;exact dQ.nil_arg (aEu (r:=[]) rfl) (fun a c=>aEv (r:=[]) rfl)
 |cons x0 l0=>
  refine aEw ?_;show (app [] (x0::l0)).bind _=_;unfold jD at hm;rw [hm];rfl
def sO(h_0:bQ)(aSe:Int):Option (Int):=
 ((aE8 h_0.A aSe).bind fun r2=>
 ((aI6 r2 h_0.B).bind fun r4=>
 some r4))
theorem aS5:K2 prog aT2 vu vu 247 sO:=fun hm=>be 12 func247 (h:=G)
instance:Ct prog 247 (K2 prog aT2 vu vu 247 sO):=⟨aS5⟩
def sM(aLw:Int):Option (Int):=
 (bif ((decide (aLw<0))||(decide (61≤aLw))) then
  some 0
 else
  ((chk (decide (0≤aLw))).bind fun _=>
  some (shr .u64 2305843009213693951 aLw)))
theorem aS3:K1 prog vi vu 248 sM:=fun hm=>be 11 func248 (h:=G)
instance:Ct prog 248 (K1 prog vi vu 248 sM):=⟨aS3⟩
def aCd(rec1:Int→Int→Int→Option (Int))(nD:Int)(aIy:Int)(aDv:Int):Option (Int):=
 ((gO ((decide (aDv<(if 61<nD then 61 else nD)))==true) 0 (sM aDv)).bind fun r4=>
 (bif ((decide (aDv<(if 61<nD then 61 else nD)))&&(decide (aIy<r4))) then
  rec1 nD aIy (IntKind.i64.wrap (aDv+1))
 else
  some aDv))
def lH:Nat→Int→Int→Int→Option (Int)
 |0=>fun _ _ _=>none
 |n+1=>aCd (lH n)
def uY(h_0:bQ)(aSe:Int)(nD:Int):Option (Int):=
 ((sO h_0 aSe).bind fun r2=>
 lH bF nD r2 0)
theorem aKp:K3 prog aT2 vu vi vi 219 uY:=by
 intro h_0 aSe nD r hm
 let I1:=((fun m s=> ∃nD aIy aDv,s=⟨25,(aF (aF (aF fa 2 (vi nD)) 7 (vu aIy)) 8 (vi aDv)),⟨bD,64⟩⟩∧lH m nD aIy aDv=some r):Nat→St→Prop)
 exact be 25 func219 (h:=G)
instance:Ct prog 219 (K3 prog aT2 vu vi vi 219 uY):=⟨aKp⟩
def wC(rec1:Int→aO→aO→List Int→List bQ→Int→Int→Option (aO×Int))(rec2:Int→aO→aO→List Int→Int→List bQ→Int→Int→Int→Int→Option (aO×Int))(kQ:Int)(s_3:aO)(t6:aO)(jO:List Int)(aKw:Int)(t26:List bQ)(t27:Int)(t28:Int)(t37:Int)(t38:Int):Option (aO×Int):=
 (bif (decide (t38<t37)) then
  ((idx jO (IntKind.i64.wrap ((IntKind.i64.wrap (aKw*s_3.V))+t38))).bind fun x10=>
  ((idx jO (IntKind.i64.wrap ((IntKind.i64.wrap (aKw*s_3.V))+t38))).bind fun x12=>
  ((stt jO (IntKind.i64.wrap ((IntKind.i64.wrap (aKw*s_3.V))+t38)) (bOp .u64 x10 kQ)).bind fun l14=>
  rec2 kQ s_3 t6 l14 aKw t26 t27 t28 t37 (IntKind.i64.wrap (t38+1)))))
 else
  rec1 kQ s_3 t6 jO t26 t27 (IntKind.i64.wrap (t28+1)))
def lX(rec1:Int→aO→aO→List Int→List bQ→Int→Int→Option (aO×Int)):Nat→Int→aO→aO→List Int→Int→List bQ→Int→Int→Int→Int→Option (aO×Int)
 |0=>fun _ _ _ _ _ _ _ _ _ _=>none
 |n+1=>wC rec1 (lX rec1 n)
def wB(rec1:Int→aO→aO→List Int→List bQ→Int→Int→Option (aO×Int))(kQ:Int)(s_3:aO)(t6:aO)(jO:List Int)(t26:List bQ)(t27:Int)(t28:Int):Option (aO×Int):=
 (bif (decide (t28<t27)) then
  ((idx t26 t28).bind fun x6=>
  ((uY x6 kQ s_3.V).bind fun r8=>
  lX rec1 bF kQ s_3 t6 jO t28 t26 t27 t28 r8 0))
 else
  some ((aO.mk s_3.R s_3.V jO),0))
def iZ:Nat→Int→aO→aO→List Int→List bQ→Int→Int→Option (aO×Int)
 |0=>fun _ _ _ _ _ _ _=>none
 |n+1=>wB (iZ n)
def nR(s_0:aO)(l_1:List bQ)(kQ:Int):Option (aO×Int):=
 ((mF s_0).bind fun r2=>
 (bif ((!r2)||((l_1.length:Int) !=s_0.R)) then
  some (s_0,1)
 else
  ((jD s_0.Words).bind fun r4=>
  iZ bF kQ s_0 (aO.mk 0 0 []) r4 l_1 (l_1.length:Int) 0)))
theorem aNr{s_0:aO}{l_1:List bQ}{kQ:Int}{r:aO×Int}(hm:nR s_0 l_1 kQ=some r):bN prog 171 [.agg [vi s_0.R,vi s_0.V,vl (ci .u64) s_0.Words],vl bS l_1,vu kQ] (.tup [.agg [vi r.1.R,vi r.1.V,vl (ci .u64) r.1.Words],vi r.2]):=by
 refine bd 61 func171 ?_;obtain ⟨r2,h1,hm⟩:=bnd hm;refine W ?_;refine cq (aFy h1) ?_;refine W ?_;refine cm hm (fun hm=>?_) fun hm=>?_
 · exact E
 obtain ⟨r4,h3,hm⟩:=bnd hm;refine W ?_;refine aV.callF (id:=130) Zd Z1 bPa (fun H=>(cD ((CFi .u64).sl _ _ _) .nil)) (CFi .u64) Z5 (aFm h3) ?_;refine W ?_;refine lp (fun m s=> ∃kQ s_3 t6 jO t26 t27 t28,s=⟨61,(aF (aF (aF (aF (aF (aF (aF fa 2 (vu kQ)) 3 (.adr 1 0)) 6 (.adr 2 0)) 8 (.own 3 0 jO.length)) 26 (vl bS t26)) 27 (vi t27)) 28 (vi t28)),⟨(upd (upd (upd bD 1 (.cells 1 [vi s_3.R,vi s_3.V,vl (ci .u64) s_3.Words] 0)) 2 (.cells 1 [vi t6.R,vi t6.V,vl (ci .u64) t6.Words] 0)) 3 (.cells 1 (jO.flatMap (ci .u64)) 0)),64⟩⟩∧iZ m kQ s_3 t6 jO t26 t27 t28=some r) ?_ ?_
 · refine ⟨_,?_,kQ,s_0,(aO.mk 0 0 []),r4,l_1,(l_1.length:Int),0,rfl,hm⟩;refine St.Le.trans (aE0 1 (ys:=[.v (.int .i64 ((aO.mk 0 0 []).R)),.v (.int .i64 ((aO.mk 0 0 []).V)),.sl (((aO.mk 0 0 []).Words).flatMap (ci .u64)) ((aO.mk 0 0 []).Words).length false]) Z3 (.cons (.data _ (.v _)) (.cons (.data _ (.v _)) (.cons (.nil false) .nil)))) ?_;exact cn (fun j=>bif j==1 then 0 else bif j==2 then 1 else bif j==3 then 130 else 0)
 rintro n1 s ⟨kQ,s_3,t6,jO,t26,t27,t28,rfl,hm⟩;refine W ?_;refine cm hm (fun hm=>?_) fun hm=>?_
 ·
  obtain ⟨x6,h5,hm⟩:=bnd hm;obtain ⟨r8,h7,hm⟩:=bnd hm;refine W ?_;refine cq (aKp h7) ?_;refine W ?_;refine lp (fun m s=> ∃kQ s_3 t6 jO aKw t26 t27 t28 t37 t38,s=⟨61,(aF (aF (aF (aF (aF (aF (aF (aF (aF (aF fa 2 (vu kQ)) 3 (.adr 1 0)) 6 (.adr 2 0)) 8 (.own 3 0 jO.length)) 9 (vi aKw)) 26 (vl bS t26)) 27 (vi t27)) 28 (vi t28)) 37 (vi t37)) 38 (vi t38)),⟨(upd (upd (upd bD 1 (.cells 1 [vi s_3.R,vi s_3.V,vl (ci .u64) s_3.Words] 0)) 2 (.cells 1 [vi t6.R,vi t6.V,vl (ci .u64) t6.Words] 0)) 3 (.cells 1 (jO.flatMap (ci .u64)) 0)),64⟩⟩∧lX (iZ n1) m kQ s_3 t6 jO aKw t26 t27 t28 t37 t38=some r) (Lr (fun j=>bif j==1 then 1 else bif j==2 then 2 else bif j==3 then 3 else 0)) ?_;rintro n2 s ⟨kQ,s_3,t6,jO,aKw,t26,t27,t28,t37,t38,rfl,hm⟩;refine W ?_;refine cm hm (fun hm=>?_) fun hm=>?_
  · obtain ⟨x10,h9,hm⟩:=bnd hm;have hm:=sb hm h9;obtain ⟨l14,h13,hm⟩:=bnd hm;refine W ?_;have qh13:=kM h13;refine aS h13 ?_;refine W ?_;exact Lr (fun j=>bif j==1 then 1 else bif j==2 then 2 else bif j==3 then 3 else 0)
  refine W ?_;exact Lr (fun j=>bif j==1 then 1 else bif j==2 then 2 else bif j==3 then 3 else 0)
 iterate 5 refine S1 ?_
 refine AWp.seq' ?_;refine AWp.weaken (aI2 (CFi .u64) 8 3 Z1 Z3 Z6) ?_;refine W ?_;refine bU (.agg [vi s_3.R,vi s_3.V,vl (ci .u64) jO]) ?_;exact E
instance:Ct prog 171 (K3 prog gY (vl bS) vu (t2 gY vi) 171 nR):=⟨fun hm=>aNr hm⟩
def zB(rec1:aO→aO→List bQ→List Int→Int→Int→Option (aO))(t6:aO)(s_7:aO)(bEk:List bQ)(t27:List Int)(t28:Int)(t29:Int):Option (aO):=
 (bif (decide (t29<t28)) then
  ((idx t27 t29).bind fun x11=>
  ((nR s_7 bEk x11).bind fun ⟨r13,r14⟩=>
  rec1 t6 r13 bEk t27 t28 (IntKind.i64.wrap (t29+1))))
 else
  some s_7)
def nJ:Nat→aO→aO→List bQ→List Int→Int→Int→Option (aO)
 |0=>fun _ _ _ _ _ _=>none
 |n+1=>zB (nJ n)
def qI(g_0:aH)(gJ:Int)(bLs:List aC):Option (aO):=
 ((pZ g_0.Config.N).bind fun r2=>
 ((aAg g_0.Config.R r2).bind fun ⟨r4,r5⟩=>
 ((lS g_0 gJ).bind fun r7=>
 ((yM bLs).bind fun r9=>
 nJ bF (aO.mk 0 0 []) r4 r7 r9 (r9.length:Int) 0))))
theorem aP4:K3 prog cU vi (vl aU) gY 139 qI:=by
 intro g_0 gJ bLs r hm
 let I1:=((fun m s=> ∃t6 s_7 bEk t27 t28 t29,s=⟨42,(aF (aF (aF (aF (aF (aF fa 6 (.adr 1 0)) 7 (.adr 2 0)) 9 (vl bS bEk)) 27 (vl (ci .u64) t27)) 28 (vi t28)) 29 (vi t29)),⟨(upd (upd bD 1 (.cells 1 [vi t6.R,vi t6.V,vl (ci .u64) t6.Words] 0)) 2 (.cells 1 [vi s_7.R,vi s_7.V,vl (ci .u64) s_7.Words] 0)),64⟩⟩∧nJ m t6 s_7 bEk t27 t28 t29=some r):Nat→St→Prop)
 exact be 42 func139 (h:=G)
instance:Ct prog 139 (K3 prog cU vi (vl aU) gY 139 qI):=⟨aP4⟩
def uA(aSd:Int):Option (Int×Int×Bool):=
 (bif (decide ((Int.tmod aSd 16777216)≤(IntKind.u64.wrap (Int.tdiv aSd 16777216)))) then
  some (0,0,false)
 else
  some ((IntKind.i64.wrap (IntKind.u64.wrap (Int.tdiv aSd 16777216))),(IntKind.i64.wrap (Int.tmod aSd 16777216)),true))
theorem aY9:K1 prog vu (t3 vi vi vb) 140 uA:=fun hm=>be 18 func140 (h:=G)
instance:Ct prog 140 (K1 prog vu (t3 vi vi vb) 140 uA):=⟨aY9⟩
abbrev zG(rec1:List Int→List Int→Int→Int→Option ((List Int)))(iK:List Int)(t13:List Int)(t14:Int)(t15:Int):Option ((List Int)):=
 rec1 iK t13 t14 (IntKind.i64.wrap (t15+1))
def zF(rec1:List Int→List Int→Int→Int→Option ((List Int)))(iK:List Int)(t13:List Int)(t14:Int)(t15:Int):Option ((List Int)):=
 (bif (decide (t15<t14)) then
  ((idx t13 t15).bind fun x4=>
  ((uA x4).bind fun ⟨r6,r7,r8⟩=>
  (bif r8 then
   ((app iK [x4]).bind fun l10=>
   zG rec1 l10 t13 t14 t15)
  else
   zG rec1 iK t13 t14 t15)))
 else
  some iK)
def nQ:Nat→List Int→List Int→Int→Int→Option ((List Int))
 |0=>fun _ _ _ _=>none
 |n+1=>zF (nQ n)
def qJ(s_0:aO):Option ((List Int)):=
 ((mF s_0).bind fun r2=>
 (bif (!r2) then
  some []
 else
  nQ bF [] s_0.Words (s_0.Words.length:Int) 0))
theorem aP7:K1 prog gY (vl (ci .u64)) 138 qJ:=by
 intro s_0 r hm
 let I1:=((fun m s=> ∃iK t13 t14 t15,s=⟨32,(aF (aF (aF (aF fa 3 (.own 1 0 iK.length)) 13 (vl (ci .u64) t13)) 14 (vi t14)) 15 (vi t15)),⟨(upd bD 1 (.cells 1 (iK.flatMap (ci .u64)) 0)),64⟩⟩∧nQ m iK t13 t14 t15=some r):Nat→St→Prop)
 exact be 32 func138 (h:=G)
instance:Ct prog 138 (K1 prog gY (vl (ci .u64)) 138 qJ):=⟨aP7⟩
abbrev vY(rec1:aC→List aC→List Int→Int→Int→Option (aC×Bool))(t6:aC)(aI9:List aC)(t30:List Int)(t31:Int)(t32:Int):Option (aC×Bool):=
 rec1 t6 aI9 t30 t31 (IntKind.i64.wrap (t32+1))
def vX(rec1:aC→List aC→List Int→Int→Int→Option (aC×Bool))(t6:aC)(aI9:List aC)(t30:List Int)(t31:Int)(t32:Int):Option (aC×Bool):=
 (bif (decide (t32<t31)) then
  ((idx t30 t32).bind fun x10=>
  ((uA x10).bind fun ⟨r12,r13,r14⟩=>
  (bif (!r14) then
   vY rec1 t6 aI9 t30 t31 t32
  else
   ((lI aI9 r12 r13).bind fun ⟨r16,r17⟩=>
   (bif r17 then
    ((idx aI9 r16).bind fun x19=>
    some (x19,true))
   else
    vY rec1 t6 aI9 t30 t31 t32)))))
 else
  some ((aC.mk 0 0 0),false))
def lT:Nat→aC→List aC→List Int→Int→Int→Option (aC×Bool)
 |0=>fun _ _ _ _ _=>none
 |n+1=>vX (lT n)
def nM(g_0:aH)(gJ:Int)(v_2:Int):Option (aC×Bool):=
 ((jY g_0 gJ v_2).bind fun r2=>
 (bif (!r2) then
  some ((aC.mk 0 0 0),false)
 else
  ((qH g_0 gJ v_2).bind fun r4=>
  ((qI g_0 gJ r4).bind fun r6=>
  ((qJ r6).bind fun r8=>
  lT bF (aC.mk 0 0 0) r4 r8 (r8.length:Int) 0)))))
theorem aNo:K3 prog cU vi vi (t2 aD6 vb) 96 nM:=by
 intro g_0 gJ v_2 r hm
 let I1:=((fun m s=> ∃t6 aI9 t30 t31 t32,s=⟨58,(aF (aF (aF (aF (aF fa 6 (.adr 1 0)) 8 (vl aU aI9)) 30 (vl (ci .u64) t30)) 31 (vi t31)) 32 (vi t32)),⟨(upd bD 1 (.cells 1 [vi t6.U,vi t6.V,vi t6.Tier] 0)),64⟩⟩∧lT m t6 aI9 t30 t31 t32=some r):Nat→St→Prop)
 exact be 58 func96 (h:=G)
instance:Ct prog 96 (K3 prog cU vi vi (t2 aD6 vb) 96 nM):=⟨aNo⟩
def rT(g_0:aH)(u_1:Int)(v_2:Int):Option (Bool):=
 ((eK g_0).bind fun r2=>
 some ((((r2&&(decide (0≤u_1)))&&(decide (u_1<g_0.Config.N)))&&(decide (0≤v_2)))&&(decide (v_2<g_0.Config.N))))
theorem aVl:K3 prog cU vi vi vb 98 rT:=fun hm=>be 31 func98 (h:=G)
instance:Ct prog 98 (K3 prog cU vi vi vb 98 rT):=⟨aVl⟩
def fC(n_0:Int)(v_1:Int):Option (Bool):=
 some ((decide (0≤v_1))&&(decide (v_1<n_0)))
theorem kK:K2 prog vi vi vb 141 fC:=fun hm=>be 12 func141 (h:=G)
instance:Ct prog 141 (K2 prog vi vi vb 141 fC):=⟨kK⟩
abbrev kB(s_0:List aC):Option ((List aC)):=
 some s_0
abbrev mQ(n_1:Int):Option ((List aC)):=
 (bif (decide (0<(IntKind.i64.wrap (n_1-(IntKind.i64.wrap (((0:Nat):Int)-((0:Nat):Int))))))) then
  ((chk (((0:Nat):Int)==0)).bind fun _=>
  ((chk (decide (0<(IntKind.i64.wrap (n_1-(IntKind.i64.wrap (((0:Nat):Int)-((0:Nat):Int))))))&&decide ((IntKind.i64.wrap (n_1-(IntKind.i64.wrap (((0:Nat):Int)-((0:Nat):Int)))))≤4294967296))).bind fun _=>
  ((chk (((0:Nat):Int)==0)).bind fun _=>
  kB [])))
 else
  kB [])
def kT(n_1:Int):Option ((List aC)):=
 (bif (decide (n_1<0)) then
  none
 else
  mQ n_1)
theorem aJv{n_1:Int}{r:(List aC)}(hm:kT n_1=some r):dQ prog 172 [.v (.slice none 0 0),.v (.int .i64 n_1)] 3 (r.flatMap aU) r.length:=by
 refine dQ.of_body func172 rfl (bT.fmdat r) ?_;simp only [ntmps172,List.length_cons,List.length_nil,Nat.reduceAdd,Nat.reduceSub,fH];unfold kT at hm;refine sN 64 (pA ?_);refine fs (AWp.seqJ (fun s=> ∃(n_1:Int),s=(⟨27,(aF (aF (fun _=>AV.any) 0 (.v (.slice none 0 0))) 1 (.v (.int .i64 n_1))),⟨bD,64⟩⟩:St)∧mQ n_1=some r) ?_ ?_)
 ·
  refine sN 128 ?_
  iterate 2 refine pA ?_
  refine fs (AWp.condM hm Z1 (fun _ hm=>?_) (fun _ hm=>?_))
  · cases hm
  · refine AWp.skip (tN ?_);refine ⟨_,?_,n_1,rfl,hm⟩;exact cN id (wV (wV dO)) aRq
 ·
  rintro s ⟨n_1,rfl,hm⟩;unfold mQ at hm;refine AWp.seqJ (fun s=> ∃(s_0:List aC),s=(⟨27,(aF (fun _=>AV.any) 0 (.own 1 0 s_0.length)),⟨(upd bD 1 (.cells 3 (s_0.flatMap aU) 0)),64⟩⟩:St)∧kB s_0=some r) ?_ ?_
  ·
   refine sN 128 ?_
   iterate 2 refine pA ?_
   refine pu rfl (aZ4 underlying28 Z1) ?_
   iterate 5 refine pA ?_
   refine fs (sN 192 ?_)
   iterate 2 refine pA ?_
   refine fs (AWp.condM hm Z1 (fun _ hm=>?_) (fun _ hm=>?_))
   ·
    refine AWp.reg 64 (N':=256) rfl ?_
    iterate 2 refine pA ?_
    refine pu rfl (aZ4 underlying28 Z1) ?_;obtain ⟨_,h3,hm⟩:=bnd hm;refine pu rfl (bE6 underlying28 aLp Z1 Z1 (eq_of_beq (oY h3))) ?_;refine pA ?_;obtain ⟨_,h4,hm⟩:=bnd hm;refine hp (id:=197) rfl rfl (bI1 underlying28 underlying3 rfl bIy bKz (by rw [aVh];decide) (by rw [aVh];decide) bL0 Zd Zd Z1 Z1 Z5 h4) ?_
    iterate 2 refine pA ?_
    obtain ⟨_,h8,hm⟩:=bnd hm;refine pu rfl (bI5 underlying28 aLp Z1 Z3 Z1 (eq_of_beq (oY h8))) ?_;refine pA ?_;refine aV.fin (tN ?_);refine ⟨_,?_,[],rfl,hm⟩;refine St.Le.trans (bK6 197 Z3) ?_;exact cN (fun j=>bif j==1 then 197 else 0) (wO dO) (hW (eU bT cR))
   · refine AWp.skip (tN ?_);refine ⟨_,?_,[],rfl,hm⟩;refine St.Le.trans (sL 0 900000 3 Z1 Z5) ?_;exact cN (fun j=>bif j==1 then 900000 else 0) (wO dO) (hW (eU bT cR))
  ·
   rintro s ⟨s_0,rfl,hm⟩;unfold kB at hm;refine sN 128 ?_
   iterate 2 refine pA ?_
   refine fs (AWp.ret ?_);cases hm;exact aIg (.inr rfl) Tryz.results172 Z1 Z3 Z6
abbrev oU(rec1:List (List aC)→Int→List (List aC)→Int→Int→Option ((List aC)))(fJ:List (List aC))(uF:Int)(t9:List (List aC))(t10:Int)(t11:Int):Option ((List aC)):=
 rec1 fJ uF t9 t10 (IntKind.i64.wrap (t11+1))
def oT(rec2:List aC→List (List aC)→Int→Int→Option ((List aC)))(rD:List aC)(t25:List (List aC))(t26:Int)(t27:Int):Option ((List aC)):=
 (bif (decide (t27<t26)) then
  ((idx t25 t27).bind fun x6=>
  ((app rD x6).bind fun l8=>
  rec2 l8 t25 t26 (IntKind.i64.wrap (t27+1))))
 else
  some rD)
def jE:Nat→List aC→List (List aC)→Int→Int→Option ((List aC))
 |0=>fun _ _ _ _=>none
 |n+1=>oT (jE n)
def oS(rec1:List (List aC)→Int→List (List aC)→Int→Int→Option ((List aC)))(fJ:List (List aC))(uF:Int)(t9:List (List aC))(t10:Int)(t11:Int):Option ((List aC)):=
 (bif (decide (t11<t10)) then
  ((idx t9 t11).bind fun x2=>
  (bif (decide ((IntKind.i64.wrap (uF+(x2.length:Int)))<0)) then
   none
  else
   oU rec1 fJ (IntKind.i64.wrap (uF+(x2.length:Int))) t9 t10 t11))
 else
  ((kT uF).bind fun r4=>
  jE bF r4 fJ (fJ.length:Int) 0))
def gZ:Nat→List (List aC)→Int→List (List aC)→Int→Int→Option ((List aC))
 |0=>fun _ _ _ _ _=>none
 |n+1=>oS (gZ n)
def iF(fJ:List (List aC)):Option ((List aC)):=
 gZ bF fJ 0 fJ (fJ.length:Int) 0
theorem rE{fJ:List (List aC)}{r:(List aC)}(hm:iF fJ=some r):bN prog 142 [.sl (fJ.flatMap (csl aU)) fJ.length false] (vl aU r):=by
 refine bd 36 func142 ?_;refine W ?_;refine lp (fun m s=> ∃fJ uF t9 t10 t11,s=⟨36,(aF (aF (aF (aF (aF fa 0 (.sl (fJ.flatMap (csl aU)) fJ.length false)) 3 (vi uF)) 9 (.sl (t9.flatMap (csl aU)) t9.length false)) 10 (vi t10)) 11 (vi t11)),⟨bD,64⟩⟩∧gZ m fJ uF t9 t10 t11=some r) L ?_;rintro n1 s ⟨fJ,uF,t9,t10,t11,rfl,hm⟩;refine W ?_;refine cm hm (fun hm=>?_) fun hm=>?_
 ·
  refine V ?_;refine AWp.seqJ (fun s=> ∃fJ uF t9 t10 t11,s=⟨36,(aF (aF (aF (aF (aF fa 0 (.sl (fJ.flatMap (csl aU)) fJ.length false)) 3 (vi uF)) 9 (.sl (t9.flatMap (csl aU)) t9.length false)) 10 (vi t10)) 11 (vi t11)),⟨bD,64⟩⟩∧oU (gZ n1) fJ uF t9 t10 t11=some r) ?_ ?_
  ·
   obtain ⟨x2,h1,hm⟩:=bnd hm;refine W ?_;refine cm hm (fun hm=>?_) fun hm=>?_
   · cases hm
   exact L
  rintro s ⟨fJ,uF,t9,t10,t11,rfl,hm⟩;exact L
 obtain ⟨r4,h3,hm⟩:=bnd hm;refine W ?_;refine aV.callF (id:=129) Zd Z1 bP6 (fun H=>(cV (cV .nil))) bT Z5 (aJv h3) ?_;refine W ?_;refine lp (fun m s=> ∃rD t25 t26 t27,s=⟨36,(aF (aF (aF (aF fa 6 (.own 1 0 rD.length)) 25 (.sl (t25.flatMap (csl aU)) t25.length false)) 26 (vi t26)) 27 (vi t27)),⟨(upd bD 1 (.cells 3 (rD.flatMap aU) 0)),64⟩⟩∧jE m rD t25 t26 t27=some r) (Lr (fun j=>bif j==1 then 129 else 0)) ?_;rintro n2 s ⟨rD,t25,t26,t27,rfl,hm⟩;refine W ?_;refine cm hm (fun hm=>?_) fun hm=>?_
 · obtain ⟨x6,h5,hm⟩:=bnd hm;obtain ⟨l8,h7,hm⟩:=bnd hm;refine W ?_;exact Lr (fun j=>bif j==1 then 194 else 0)
 exact E
instance:Ct prog 142 (K1 prog (vl (csl aU)) (vl aU) 142 iF):=⟨fun hm=>rE hm⟩
def qL(n_0:Int)(l_1:List aC)(u_2:Int)(v_3:Int):Option ((List aC)×Int):=
 ((gX n_0 l_1).bind fun r2=>
 ((gO ((!r2)==false) false (fC n_0 u_2)).bind fun r4=>
 ((gO (((!r2)||(!r4))==false) false (fC n_0 v_3)).bind fun r6=>
 (bif (((!r2)||(!r4))||(!r6)) then
  some (l_1,1)
 else
  ((lI l_1 u_2 v_3).bind fun ⟨r8,r9⟩=>
  (bif (!r9) then
   some (l_1,9)
  else
   ((slc l_1 0 r8).bind fun l11=>
   ((slc l_1 (IntKind.i64.wrap (r8+1)) (l_1.length:Int)).bind fun l13=>
   ((iF [l11,l13]).bind fun r15=>
   some (r15,0))))))))))
theorem aP9{n_0:Int}{l_1:List aC}{u_2:Int}{v_3:Int}{r:(List aC)×Int}(hm:qL n_0 l_1 u_2 v_3=some r):bN prog 99 [vi n_0,vl aU l_1,vi u_2,vi v_3] (.tup [vl aU r.1,vi r.2]):=by
 refine bd 48 func99 ?_;obtain ⟨r2,h1,hm⟩:=bnd hm;refine W ?_;refine cq (xI h1) ?_;obtain ⟨r4,h3,hm⟩:=bnd hm;refine W ?_;refine cg (fun hb=>kK (fP h3 hb)) ?_;obtain ⟨r6,h5,hm⟩:=bnd hm;refine W ?_;refine cg (fun hb=>kK (fP h5 hb)) ?_;refine W ?_;refine cm hm (fun hm=>?_) fun hm=>?_
 · exact E
 refine W ?_;obtain ⟨⟨r8,r9⟩,h7,hm⟩:=bnd hm;refine cq (aCh h7) ?_;refine W ?_;refine cm hm (fun hm=>?_) fun hm=>?_
 · exact E
 obtain ⟨l11,h10,hm⟩:=bnd hm;obtain ⟨l13,h12,hm⟩:=bnd hm
 iterate 10 refine S1 ?_
 refine aV.pop Zd (aEe (ps:=[(0,.sl (l11.flatMap aU) l11.length (false&&(r8:Int).toNat==l_1.length)),(1,.sl (l13.flatMap aU) l13.length (false&&((l_1.length:Int):Int).toNat==l_1.length))]) (by simp only [go_sem,Nat.reduceBEq];try rfl) (aBg (bT.sl _ _ _) (aBg (bT.sl _ _ _) aRh))) (aNf (CFl bT) (l:=[l11,l13]) (xs:=[.sl (l11.flatMap aU) l11.length (false&&(r8:Int).toNat==l_1.length),.sl (l13.flatMap aU) l13.length (false&&((l_1.length:Int):Int).toNat==l_1.length)]) underlying249 bNv bOe Zd Zd Zd (ps:=[(0,.sl (l11.flatMap aU) l11.length (false&&(r8:Int).toNat==l_1.length)),(1,.sl (l13.flatMap aU) l13.length (false&&((l_1.length:Int):Int).toNat==l_1.length))]) (by simp only [go_sem,Nat.reduceBEq];try rfl) (by kernel_rfl) (fun H=>(.cons (tdf rfl (bT.sl _ _ _)) (.cons (tdf rfl (bT.sl _ _ _)) .nil)))) rfl ?_;obtain ⟨r15,h14,hm⟩:=bnd hm;refine cq (rE h14) ?_;exact E
instance:Ct prog 99 (K4 prog vi (vl aU) vi vi (t2 (vl aU) vi) 99 qL):=⟨fun hm=>aP9 hm⟩
def aEz(rec1:List aC→aC→Int→Option ((List aC)×Int))(l_1:List aC)(dZ:aC)(jX:Int):Option ((List aC)×Int):=
 ((gO ((decide (jX<(l_1.length:Int)))==true) (aC.mk 0 0 0) (idx l_1 jX)).bind fun x11=>
 ((gO ((decide (jX<(l_1.length:Int)))==true) false (rC x11 dZ)).bind fun r13=>
 (bif ((decide (jX<(l_1.length:Int)))&&r13) then
  rec1 l_1 dZ (IntKind.i64.wrap (jX+1))
 else
  ((slc l_1 0 jX).bind fun l15=>
  ((slc l_1 jX (l_1.length:Int)).bind fun l17=>
  ((iF [l15,[dZ],l17]).bind fun r19=>
  some (r19,0)))))))
def vK:Nat→List aC→aC→Int→Option ((List aC)×Int)
 |0=>fun _ _ _=>none
 |n+1=>aEz (vK n)
def zH(n_0:Int)(l_1:List aC)(u_2:Int)(v_3:Int):Option ((List aC)×Int):=
 ((gX n_0 l_1).bind fun r2=>
 ((gO ((!r2)==false) false (fC n_0 u_2)).bind fun r4=>
 ((gO (((!r2)||(!r4))==false) false (fC n_0 v_3)).bind fun r6=>
 (bif (((!r2)||(!r4))||(!r6)) then
  some (l_1,1)
 else
  (bif (u_2==v_3) then
   some (l_1,8)
  else
   ((lI l_1 u_2 v_3).bind fun ⟨r8,r9⟩=>
   (bif r9 then
    some (l_1,4)
   else
    vK bF l_1 (aC.mk (if v_3<u_2 then v_3 else u_2) (if u_2<v_3 then v_3 else u_2) 0) 0)))))))
theorem aYp{n_0:Int}{l_1:List aC}{u_2:Int}{v_3:Int}{r:(List aC)×Int}(hm:zH n_0 l_1 u_2 v_3=some r):bN prog 102 [vi n_0,vl aU l_1,vi u_2,vi v_3] (.tup [vl aU r.1,vi r.2]):=by
 refine bd 75 func102 ?_;obtain ⟨r2,h1,hm⟩:=bnd hm;refine W ?_;refine cq (xI h1) ?_;obtain ⟨r4,h3,hm⟩:=bnd hm;refine W ?_;refine cg (fun hb=>kK (fP h3 hb)) ?_;obtain ⟨r6,h5,hm⟩:=bnd hm;refine W ?_;refine cg (fun hb=>kK (fP h5 hb)) ?_;refine W ?_;refine cm hm (fun hm=>?_) fun hm=>?_
 · exact E
 refine W ?_;refine cm hm (fun hm=>?_) fun hm=>?_
 · exact E
 refine W ?_;obtain ⟨⟨r8,r9⟩,h7,hm⟩:=bnd hm;refine cq (aCh h7) ?_;refine W ?_;refine cm hm (fun hm=>?_) fun hm=>?_
 · exact E
 refine W ?_;refine bU (.agg [.v (.int .i64 (if v_3<u_2 then v_3 else u_2)),.v (.int .i64 (if u_2<v_3 then v_3 else u_2)),vi 0]) ?_;refine W ?_;refine lp (fun m s=> ∃l_1 dZ jX,s=⟨75,(aF (aF (aF fa 1 (vl aU l_1)) 12 (.adr 1 0)) 13 (vi jX)),⟨(upd bD 1 (.cells 1 [vi dZ.U,vi dZ.V,vi dZ.Tier] 0)),64⟩⟩∧vK m l_1 dZ jX=some r) (Lr (fun j=>bif j==1 then 327 else 0)) ?_;rintro n1 s ⟨l_1,dZ,jX,rfl,hm⟩;obtain ⟨x11,h10,hm⟩:=bnd hm;obtain ⟨r13,h12,hm⟩:=bnd hm;refine W ?_;refine cg (fun hb=>aN5 (fP h12 hb)) ?_;refine W ?_;refine cm hm (fun hm=>?_) fun hm=>?_
 · refine W ?_;exact Lr (fun j=>bif j==1 then 1 else 0)
 obtain ⟨l15,h14,hm⟩:=bnd hm
 iterate 10 refine S1 ?_
 refine aV.pop Zd (aEe (ps:=[(0,.agg [.v (.int .i64 dZ.U),.v (.int .i64 dZ.V),.v (.int .i64 dZ.Tier)])]) (by simp only [go_sem,Nat.reduceBEq];try rfl) (aBg (.agg _ (bT.dat dZ)) aRh)) (aNf bT (l:=[dZ]) (xs:=[.v (.int .i64 dZ.U),.v (.int .i64 dZ.V),.v (.int .i64 dZ.Tier)]) underlying28 aLp aYy Zd Zd Zd (ps:=[(0,.agg [.v (.int .i64 dZ.U),.v (.int .i64 dZ.V),.v (.int .i64 dZ.Tier)])]) (by simp only [go_sem,Nat.reduceBEq];try rfl) (by kernel_rfl) (fun H=>(.cons (.data _ (.v _)) (.cons (.data _ (.v _)) (.cons (.data _ (.v _)) .nil))))) rfl ?_;obtain ⟨l17,h16,hm⟩:=bnd hm
 iterate 3 refine S1 ?_
 refine aV.pop Zd (aEe (ps:=[(0,.sl (l15.flatMap aU) l15.length (false&&(jX:Int).toNat==l_1.length)),(1,.sl (([dZ]).flatMap aU) ([dZ]).length false),(2,.sl (l17.flatMap aU) l17.length (false&&((l_1.length:Int):Int).toNat==l_1.length))]) (by simp only [go_sem,Nat.reduceBEq];try rfl) (aBg (bT.sl _ _ _) (aBg (bT.sl _ _ _) (aBg (bT.sl _ _ _) aRh)))) (aNf (CFl bT) (l:=[l15,[dZ],l17]) (xs:=[.sl (l15.flatMap aU) l15.length (false&&(jX:Int).toNat==l_1.length),.sl (([dZ]).flatMap aU) ([dZ]).length false,.sl (l17.flatMap aU) l17.length (false&&((l_1.length:Int):Int).toNat==l_1.length)]) underlying249 bNv bOe Zd Zd Zd (ps:=[(0,.sl (l15.flatMap aU) l15.length (false&&(jX:Int).toNat==l_1.length)),(1,.sl (([dZ]).flatMap aU) ([dZ]).length false),(2,.sl (l17.flatMap aU) l17.length (false&&((l_1.length:Int):Int).toNat==l_1.length))]) (by simp only [go_sem,Nat.reduceBEq];try rfl) (by kernel_rfl) (fun H=>(.cons (tdf rfl (bT.sl _ _ _)) (.cons (.data _ (bT.sl _ _ _)) (.cons (tdf rfl (bT.sl _ _ _)) .nil))))) rfl ?_;obtain ⟨r19,h18,hm⟩:=bnd hm;refine cq (rE h18) ?_;exact E
instance:Ct prog 102 (K4 prog vi (vl aU) vi vi (t2 (vl aU) vi) 102 zH):=⟨fun hm=>aYp hm⟩
abbrev xH(rec1:Int→List Int→List aC→Int→Int→Option ((List Int)))(v_2:Int)(aAu:List Int)(t20:List aC)(t21:Int)(t22:Int):Option ((List Int)):=
 rec1 v_2 aAu t20 t21 (IntKind.i64.wrap (t22+1))
def aD3(rec1:Int→List Int→List aC→Int→Int→Option ((List Int)))(v_2:Int)(aAu:List Int)(t20:List aC)(t21:Int)(t22:Int):Option ((List Int)):=
 (bif (decide (t22<t21)) then
  ((idx t20 t22).bind fun x6=>
  (bif (v_2==x6.U) then
   ((app aAu [x6.V]).bind fun l8=>
   xH rec1 v_2 l8 t20 t21 t22)
  else
   (bif (v_2==x6.V) then
    ((app aAu [x6.U]).bind fun l10=>
    xH rec1 v_2 l10 t20 t21 t22)
   else
    xH rec1 v_2 aAu t20 t21 t22)))
 else
  some aAu)
def tD:Nat→Int→List Int→List aC→Int→Int→Option ((List Int))
 |0=>fun _ _ _ _ _=>none
 |n+1=>aD3 (tD n)
def aAj(n_0:Int)(l_1:List aC)(v_2:Int):Option ((List Int)):=
 ((gX n_0 l_1).bind fun r2=>
 ((gO ((!r2)==false) false (fC n_0 v_2)).bind fun r4=>
 (bif ((!r2)||(!r4)) then
  some []
 else
  tD bF v_2 [] l_1 (l_1.length:Int) 0)))
theorem aVg:K3 prog vi (vl aU) vi (vl (ci .i64)) 122 aAj:=by
 intro n_0 l_1 v_2 r hm
 let I1:=((fun m s=> ∃v_2 aAu t20 t21 t22,s=⟨47,(aF (aF (aF (aF (aF fa 2 (vi v_2)) 7 (.own 1 0 aAu.length)) 20 (vl aU t20)) 21 (vi t21)) 22 (vi t22)),⟨(upd bD 1 (.cells 1 (aAu.flatMap (ci .i64)) 0)),64⟩⟩∧tD m v_2 aAu t20 t21 t22=some r):Nat→St→Prop)
 exact be 47 func122 (h:=G)
instance:Ct prog 122 (K3 prog vi (vl aU) vi (vl (ci .i64)) 122 aAj):=⟨aVg⟩
def oP(g_0:aH)(gJ:Int)(v_2:Int):Option ((List Int)):=
 ((eK g_0).bind fun r2=>
 (bif (((((!r2)||(decide (gJ<0)))||(decide (g_0.Config.L<gJ)))||(decide (v_2<0)))||(decide (g_0.Config.N≤v_2))) then
  some []
 else
  ((mD g_0 gJ v_2).bind fun r4=>
  some r4)))
theorem aSp:K3 prog cU vi vi (vl (ci .i64)) 173 oP:=fun hm=>be 36 func173 (h:=G)
instance:Ct prog 173 (K3 prog cU vi vi (vl (ci .i64)) 173 oP):=⟨aSp⟩
abbrev tW(rec1:aC→aC→List aC→Int→Int→Option (aC×Bool))(t2:aC)(gS:aC)(t15:List aC)(t16:Int)(t17:Int):Option (aC×Bool):=
 rec1 t2 gS t15 t16 (IntKind.i64.wrap (t17+1))
def tV(rec1:aC→aC→List aC→Int→Int→Option (aC×Bool))(t2:aC)(gS:aC)(t15:List aC)(t16:Int)(t17:Int):Option (aC×Bool):=
 (bif (decide (t17<t16)) then
  ((idx t15 t17).bind fun x6=>
  ((gO (((decide (gS.Tier<x6.Tier))==false)&&((x6.Tier==gS.Tier)==true)) false (rC gS x6)).bind fun r8=>
  (bif ((decide (gS.Tier<x6.Tier))||((x6.Tier==gS.Tier)&&r8)) then
   tW rec1 t2 x6 t15 t16 t17
  else
   tW rec1 t2 gS t15 t16 t17)))
 else
  some (gS,true))
def kP:Nat→aC→aC→List aC→Int→Int→Option (aC×Bool)
 |0=>fun _ _ _ _ _=>none
 |n+1=>tV (kP n)
def jP(l_0:List aC):Option (aC×Bool):=
 (bif ((l_0.length:Int)==0) then
  some ((aC.mk 0 0 0),false)
 else
  ((idx l_0 0).bind fun x2=>
  ((slc l_0 1 (l_0.length:Int)).bind fun l4=>
  kP bF (aC.mk 0 0 0) x2 l4 (l4.length:Int) 0)))
theorem aLc:K1 prog (vl aU) (t2 aD6 vb) 175 jP:=by
 intro l_0 r hm
 let I1:=((fun m s=> ∃t2 gS t15 t16 t17,s=⟨41,(aF (aF (aF (aF (aF fa 2 (.adr 1 0)) 4 (.adr 2 0)) 15 (vl aU t15)) 16 (vi t16)) 17 (vi t17)),⟨(upd (upd bD 1 (.cells 1 [vi t2.U,vi t2.V,vi t2.Tier] 0)) 2 (.cells 1 [vi gS.U,vi gS.V,vi gS.Tier] 0)),64⟩⟩∧kP m t2 gS t15 t16 t17=some r):Nat→St→Prop)
 exact be 41 func175 (h:=G)
instance:Ct prog 175 (K1 prog (vl aU) (t2 aD6 vb) 175 jP):=⟨aLc⟩
def jZ(l:List aC):Option (List aC):=app [] l
theorem aGs{r:List aC}(hm:some []=some r):dQ prog 223 [.v (.slice none 0 0)] 3 (r.flatMap aU) r.length:=by
 refine dQ.of_body func223 rfl (bT.fmdat r) ?_;simp only [ntmps223,List.length_cons,List.length_nil,Nat.reduceAdd,Nat.reduceSub,fH];refine sN 64 (pA ?_);refine fs (AWp.seq' (sN 128 (pA ?_)));refine pu rfl (vL Z1 Z1 (aH8 underlying28)) ?_;refine fs (AWp.condT Z1 ?_);refine sN 192 (pA ?_);refine fs (AWp.weaken (sL 2 900002 3 Z1 Z5) ?_);refine AWp.ret (iD ?_);cases hm;exact aIg (.inr rfl) Tryz.results223 Z1 Z3 Z6
theorem aGt{a:Addr}{c:Nat}{r:List aC}(hm:((app [] []).bind fun l2=>
some l2)=some r):dQ prog 223 [.v (.slice (some a) 0 c)] 3 (r.flatMap aU) r.length:=by
 refine dQ.of_body func223 rfl (bT.fmdat r) ?_;simp only [ntmps223,List.length_cons,List.length_nil,Nat.reduceAdd,Nat.reduceSub,fH];refine sN 64 (pA ?_);refine fs (AWp.seq' (sN 128 (pA ?_)));refine pu rfl (vL Z1 Z1 (aF4 underlying28)) ?_;refine fs (AWp.condF Z1 ?_);refine AWp.skip (bM (sN 192 (hp (id:=128) rfl rfl (jF bT (l:=[]) underlying28 aLp aYy Z5 Zd Zd Zd (by simp only [go_sem,Nat.reduceBEq];try rfl) (by kernel_rfl)) ?_)));refine pA ?_;obtain ⟨l2,h1,hm⟩:=bnd hm;refine hp (id:=130) rfl rfl (yA bT underlying28 underlying28 rfl bIy bKz (by rw [aVh];decide) (by rw [aVh];decide) bL0 Zd Zd Z1 Z3 Z6 (aLq Z1) rfl Z5 h1) ?_;refine pA ?_;refine fs (AWp.ret ?_);cases hm;exact aIg (.inr rfl) Tryz.results223 Z1 Z3 Z6
theorem aGu{x0:aC}{l0:List aC}{r:List aC}(hm:((app [] (x0::l0)).bind fun l2=>
some l2)=some r):dQ prog 223 [.sl ((x0::l0).flatMap aU) (x0::l0).length false] 3 (r.flatMap aU) r.length:=by
 refine dQ.of_body func223 rfl (bT.fmdat r) ?_;simp only [ntmps223,List.length_cons,List.length_nil,Nat.reduceAdd,Nat.reduceSub,fH];refine sN 64 (pA ?_);refine fs (AWp.seq' (sN 128 (pA ?_)));refine pu rfl (vL Z1 Z1 (aF3 underlying28 (by simp))) ?_;refine fs (AWp.condF Z1 ?_);refine AWp.skip (bM (sN 192 (hp (id:=128) rfl rfl (jF bT (l:=[]) underlying28 aLp aYy Z5 Zd Zd Zd (by simp only [go_sem,Nat.reduceBEq];try rfl) (by kernel_rfl)) ?_)));refine pA ?_;obtain ⟨l2,h1,hm⟩:=bnd hm;refine hp (id:=130) rfl rfl (yA bT underlying28 underlying28 rfl bIy bKz (by rw [aVh];decide) (by rw [aVh];decide) bL0 Zd Zd Z1 Z3 Z6 (aPk bT Z1 rfl) rfl Z5 h1) ?_;refine pA ?_;refine fs (AWp.ret ?_);cases hm;exact aIg (.inr rfl) Tryz.results223 Z1 Z3 Z6
theorem aIq{l r:List aC}(hm:jZ l=some r):dQ prog 223 [.sl (l.flatMap aU) l.length false] 3 (r.flatMap aU) r.length:=by
 cases l with
 |nil=>
  have hr:r=[]:=by unfold jZ app at hm;simpa using hm.symm
  subst hr;exact dQ.nil_arg (aGs (r:=[]) rfl) (fun a c=>aGt (r:=[]) rfl)
 |cons x0 l0=>
  refine aGu ?_;show (app [] (x0::l0)).bind _=_;unfold jZ at hm;rw [hm];rfl
def uH(n_0:Int)(l_1:List aC)(u_2:Int)(v_3:Int)(aH2:Int):Option ((List aC)×Int):=
 ((gX n_0 l_1).bind fun r2=>
 ((gO ((!r2)==false) false (fC n_0 u_2)).bind fun r4=>
 ((gO (((!r2)||(!r4))==false) false (fC n_0 v_3)).bind fun r6=>
 ((gO ((((!r2)||(!r4))||(!r6))==false) false (mG aH2)).bind fun r8=>
 (bif ((((!r2)||(!r4))||(!r6))||(!r8)) then
  some (l_1,1)
 else
  ((lI l_1 u_2 v_3).bind fun ⟨r10,r11⟩=>
  (bif (!r11) then
   some (l_1,9)
  else
   ((jZ l_1).bind fun r13=>
   ((idx r13 r10).bind fun x15=>
   ((stt r13 r10 (aC.mk x15.U x15.V aH2)).bind fun l17=>
   some (l17,0)))))))))))
theorem aYq{n_0:Int}{l_1:List aC}{u_2:Int}{v_3:Int}{aH2:Int}{r:(List aC)×Int}(hm:uH n_0 l_1 u_2 v_3 aH2=some r):bN prog 176 [vi n_0,vl aU l_1,vi u_2,vi v_3,vi aH2] (.tup [vl aU r.1,vi r.2]):=by
 refine bd 55 func176 ?_;obtain ⟨r2,h1,hm⟩:=bnd hm;refine W ?_;refine cq (xI h1) ?_;obtain ⟨r4,h3,hm⟩:=bnd hm;refine W ?_;refine cg (fun hb=>kK (fP h3 hb)) ?_;obtain ⟨r6,h5,hm⟩:=bnd hm;refine W ?_;refine cg (fun hb=>kK (fP h5 hb)) ?_;obtain ⟨r8,h7,hm⟩:=bnd hm;refine W ?_;refine cg (fun hb=>aG2 (fP h7 hb)) ?_;refine W ?_;refine cm hm (fun hm=>?_) fun hm=>?_
 · exact E
 refine W ?_;obtain ⟨⟨r10,r11⟩,h9,hm⟩:=bnd hm;refine cq (aCh h9) ?_;refine W ?_;refine cm hm (fun hm=>?_) fun hm=>?_
 · exact E
 obtain ⟨r13,h12,hm⟩:=bnd hm;refine W ?_;refine aV.callF (id:=257) Zd Z1 bPc (fun H=>(cD (bT.sl _ _ _) .nil)) bT Z5 (aIq h12) ?_;obtain ⟨x15,h14,hm⟩:=bnd hm;obtain ⟨l17,h16,hm⟩:=bnd hm;refine W ?_;have qh16:=kM h16;refine aV.heap0 (id:=325) rfl (bI2 bT (off:=2) (y:=x15) (y':=(aC.mk x15.U x15.V aH2)) (cs:=[.v (.int .i64 aH2)]) sz3 Z1 Z1 Z3 rfl h14 rfl Zd Z9 rfl h16) ?_;exact E
instance:Ct prog 176 (K5 prog vi (vl aU) vi vi vi (t2 (vl aU) vi) 176 uH):=⟨fun hm=>aYq hm⟩
def pU(n_0:Int)(v_1:Int):Option (Bool):=
 some ((decide (0≤v_1))&&(decide (v_1<n_0)))
theorem aAq:K2 prog vi vi vb 220 pU:=fun hm=>be 12 func220 (h:=G)
instance:Ct prog 220 (K2 prog vi vi vb 220 pU):=⟨aAq⟩
attribute [local semireducible] bF
end Go.Proofs.YtkdohhmacfoolaaGreatDoor
