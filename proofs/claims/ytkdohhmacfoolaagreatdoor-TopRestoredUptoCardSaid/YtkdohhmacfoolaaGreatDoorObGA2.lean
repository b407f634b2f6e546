/- Facts. No condition. -/
import Derived.Test.YtkdohhmacfoolaaGreatDoorObGA1
set_option linter.unusedVariables false
set_option linter.unusedSimpArgs false
set_option maxRecDepth 20000
set_option maxHeartbeats 4000000
namespace Go.Proofs.YtkdohhmacfoolaaGreatDoor
open Go.Proofs.Tryz Go Go.AM
attribute [local irreducible] bC
structure aV where
 R:Int
 V:Int
 Words:List Int
deriving DecidableEq
def uN(e:aV):List AV:=[.v (.int .i64 e.R),.v (.int .i64 e.V),.sl (e.Words.flatMap (ci .u64)) e.Words.length false]
theorem aOx:CF uN 3:=⟨fun _=>rfl,fun a x hx=>by
 simp only [uN,List.mem_cons,List.not_mem_nil,or_false] at hx;rcases hx with rfl|rfl|rfl
 · exact (.v _)
 · exact (.v _)
 · exact ((CFi .u64).sl _ _ _),fun _=>rfl⟩
instance:CC uN 3:=⟨aOx⟩
abbrev iO(e:aV):AV:= .agg [.v (.int .i64 e.R),vi e.V,vl (ci .u64) e.Words]
@[go_sem] theorem aJh(e:aV)(r:List AV):uN e++r= .v (.int .i64 e.R):: .v (.int .i64 e.V):: .sl (e.Words.flatMap (ci .u64)) e.Words.length false::r:=rfl
theorem bK5(x0 y0 x1 y1 x2 y2:Int):fG prog .eql 23 (.agg [.v (.int .i64 x0),.v (.int .i64 x1),.v (.int .i64 x2)]) (.agg [.v (.int .i64 y0),.v (.int .i64 y1),.v (.int .i64 y2)])=some (.v (.bool ((x0==y0)&&((x1==y1)&&(x2==y2))))):=
 (by kernel_rfl:fG prog .eql 23 (.agg [.v (.int .i64 x0),.v (.int .i64 x1),.v (.int .i64 x2)]) (.agg [.v (.int .i64 y0),.v (.int .i64 y1),.v (.int .i64 y2)])=some (.v (.bool ((x0==y0)&&((x1==y1)&&((x2==y2)&&true)))))).trans (by rw [Bool.and_true])
theorem bLk(x0 y0 x1 y1 x2 y2:Int):fG prog .neq 23 (.agg [.v (.int .i64 x0),.v (.int .i64 x1),.v (.int .i64 x2)]) (.agg [.v (.int .i64 y0),.v (.int .i64 y1),.v (.int .i64 y2)])=some (.v (.bool (!((x0==y0)&&((x1==y1)&&(x2==y2)))))):=
 (by kernel_rfl:fG prog .neq 23 (.agg [.v (.int .i64 x0),.v (.int .i64 x1),.v (.int .i64 x2)]) (.agg [.v (.int .i64 y0),.v (.int .i64 y1),.v (.int .i64 y2)])=some (.v (.bool (!((x0==y0)&&((x1==y1)&&((x2==y2)&&true))))))).trans (by rw [Bool.and_true])
attribute [go_sem] bK5 bLk
theorem bK7(x0 y0 x1 y1:Int):fG prog .eql 94 (.agg [.v (.int .u64 x0),.v (.int .u64 x1)]) (.agg [.v (.int .u64 y0),.v (.int .u64 y1)])=some (.v (.bool ((x0==y0)&&(x1==y1)))):=
 (by kernel_rfl:fG prog .eql 94 (.agg [.v (.int .u64 x0),.v (.int .u64 x1)]) (.agg [.v (.int .u64 y0),.v (.int .u64 y1)])=some (.v (.bool ((x0==y0)&&((x1==y1)&&true))))).trans (by rw [Bool.and_true])
theorem bLm(x0 y0 x1 y1:Int):fG prog .neq 94 (.agg [.v (.int .u64 x0),.v (.int .u64 x1)]) (.agg [.v (.int .u64 y0),.v (.int .u64 y1)])=some (.v (.bool (!((x0==y0)&&(x1==y1))))):=
 (by kernel_rfl:fG prog .neq 94 (.agg [.v (.int .u64 x0),.v (.int .u64 x1)]) (.agg [.v (.int .u64 y0),.v (.int .u64 y1)])=some (.v (.bool (!((x0==y0)&&((x1==y1)&&true)))))).trans (by rw [Bool.and_true])
attribute [go_sem] bK7 bLm
@[go_sem] theorem bBr(i o:Nat):aM prog 215 (.adr i o) 0=some (.adr i (o+0)):=by kernel_rfl
@[go_sem] theorem bBs(i o:Nat):aM prog 215 (.adr i o) 1=some (.adr i (o+1)):=by kernel_rfl
@[go_sem] theorem bBt(i o:Nat):aM prog 215 (.adr i o) 2=some (.adr i (o+2)):=by kernel_rfl
@[go_sem] theorem bFp(i o:Nat):aM prog 23 (.adr i o) 0=some (.adr i (o+0)):=by kernel_rfl
@[go_sem] theorem bFw(i o:Nat):aM prog 23 (.adr i o) 1=some (.adr i (o+1)):=by kernel_rfl
@[go_sem] theorem bG3(i o:Nat):aM prog 23 (.adr i o) 2=some (.adr i (o+2)):=by kernel_rfl
@[go_sem] theorem bG9(i o:Nat):aM prog 30 (.adr i o) 0=some (.adr i (o+0)):=by kernel_rfl
@[go_sem] theorem bGe(i o:Nat):aM prog 30 (.adr i o) 1=some (.adr i (o+3)):=by kernel_rfl
@[go_sem] theorem bGi(i o:Nat):aM prog 30 (.adr i o) 2=some (.adr i (o+4)):=by kernel_rfl
@[go_sem] theorem bH5(i o:Nat):aM prog 61 (.adr i o) 0=some (.adr i (o+0)):=by kernel_rfl
@[go_sem] theorem bHb(i o:Nat):aM prog 61 (.adr i o) 1=some (.adr i (o+1)):=by kernel_rfl
@[go_sem] theorem bHh(i o:Nat):aM prog 61 (.adr i o) 2=some (.adr i (o+2)):=by kernel_rfl
@[go_sem] theorem bHo(i o:Nat):aM prog 94 (.adr i o) 0=some (.adr i (o+0)):=by kernel_rfl
@[go_sem] theorem bHr(i o:Nat):aM prog 94 (.adr i o) 1=some (.adr i (o+1)):=by kernel_rfl
@[go_sem] theorem bL5(H:aI)(x0 x1 x2:AV)(xs:List AV):bW prog H 215 (.ptr (x0::x1::x2::xs))=some (.agg [x0,x1,x2]):=by kernel_rfl
@[go_sem] theorem bO0(H:aI)(x0 x1 x2:AV)(xs:List AV):bW prog H 23 (.ptr (x0::x1::x2::xs))=some (.agg [x0,x1,x2]):=by kernel_rfl
@[go_sem] theorem bO5(H:aI)(x:AV)(xs:List AV):bW prog H 24 (.ptr (x::xs))=some x:=by kernel_rfl
@[go_sem] theorem bO9(H:aI)(x:AV)(xs:List AV):bW prog H 27 (.ptr (x::xs))=some x:=by kernel_rfl
@[go_sem] theorem bOd(H:aI)(x:AV)(xs:List AV):bW prog H 28 (.ptr (x::xs))=some x:=by kernel_rfl
@[go_sem] theorem bSb(H:aI)(x:AV)(xs:List AV):bW prog H 3 (.ptr (x::xs))=some x:=by kernel_rfl
@[go_sem] theorem bOj(H:aI)(x0 x1 x2 x3 x4:AV)(xs:List AV):bW prog H 30 (.ptr (x0::x1::x2::x3::x4::xs))=some (.agg [x0,x1,x2,x3,x4]):=by kernel_rfl
@[go_sem] theorem bSi(H:aI)(x:AV)(xs:List AV):bW prog H 4 (.ptr (x::xs))=some x:=by kernel_rfl
@[go_sem] theorem bOy(H:aI)(x:AV)(xs:List AV):bW prog H 40 (.ptr (x::xs))=some x:=by kernel_rfl
@[go_sem] theorem bP6(H:aI)(x0 x1 x2:AV)(xs:List AV):bW prog H 61 (.ptr (x0::x1::x2::xs))=some (.agg [x0,x1,x2]):=by kernel_rfl
@[go_sem] theorem bPd(H:aI)(x0 x1:AV)(xs:List AV):bW prog H 94 (.ptr (x0::x1::xs))=some (.agg [x0,x1]):=by kernel_rfl
@[go_sem] theorem bF6(H:aI)(k:IntKind)(n:Int):nE prog H 3 40 (.v (.int k n))=some (.v (.int .u64 (IntKind.u64.wrap n))):=iA underlying3 underlying40
@[go_sem] theorem bB8(H:aI)(k:IntKind)(n:Int):nE prog H 3 162 (.v (.int k n))=some (.v (.int .u64 (IntKind.u64.wrap n))):=iA underlying3 underlying162
@[go_sem] theorem bJz(H:aI)(k:IntKind)(n:Int):nE prog H 5 3 (.v (.int k n))=some (.v (.int .i64 (IntKind.i64.wrap n))):=iA underlying5 underlying3
@[go_sem] theorem bF8(H:aI)(k:IntKind)(n:Int):nE prog H 40 3 (.v (.int k n))=some (.v (.int .i64 (IntKind.i64.wrap n))):=iA underlying40 underlying3
@[go_sem] theorem bB6(H:aI)(k:IntKind)(n:Int):nE prog H 277 5 (.v (.int k n))=some (.v (.int .u8 (IntKind.u8.wrap n))):=iA underlying277 underlying5
abbrev aEp(rec1:List Bool→List aD→List aD→Int→Int→Option ((List aD)))(zF:List Bool)(dO:List aD)(t8:List aD)(t9:Int)(t10:Int):Option ((List aD)):=
 rec1 zF dO t8 t9 (IntKind.i64.wrap (t10+1))
def aEo(rec1:List Bool→List aD→List aD→Int→Int→Option ((List aD)))(zF:List Bool)(dO:List aD)(t8:List aD)(t9:Int)(t10:Int):Option ((List aD)):=
 (bif (decide (t10<t9)) then
  ((idx t8 t10).bind fun x2=>
  ((idx zF x2.U).bind fun x4=>
  ((idx zF x2.V).bind fun x6=>
  (bif (!(x4==x6)) then
   ((app dO [x2]).bind fun l8=>
   aEp rec1 zF l8 t8 t9 t10)
  else
   aEp rec1 zF dO t8 t9 t10))))
 else
  some dO)
def uP:Nat→List Bool→List aD→List aD→Int→Int→Option ((List aD))
 |0=>fun _ _ _ _ _=>none
 |n+1=>aEo (uP n)
def aC8(l_0:List aD)(zF:List Bool):Option ((List aD)):=
 uP bC zF [] l_0 (l_0.length:Int) 0
theorem aO3:K2 prog (vl aO) (vl aO0) (vl aO) 214 aC8:=by
 intro l_0 zF r hm
 let I1:=((fun m s=> ∃zF dO t8 t9 t10,s=⟨31,(aE (aE (aE (aE (aE fa 1 (vl aO0 zF)) 5 (.own 1 0 dO.length)) 8 (vl aO t8)) 9 (vi t9)) 10 (vi t10)),⟨(upd aZ 1 (.cells 3 (dO.flatMap aO) 0)),64⟩⟩∧uP m zF dO t8 t9 t10=some r):Nat→St→Prop)
 exact be 31 func214 (h:=G)
instance:Ct prog 214 (K2 prog (vl aO) (vl aO0) (vl aO) 214 aC8):=⟨aO3⟩
def aMv(rec1:List aD→List Bool→List Int→Int→Int→Option ((List aD)×Int))(l_1:List aD)(aYk:List Bool)(t18:List Int)(t19:Int)(t20:Int):Option ((List aD)×Int):=
 (bif (decide (t20<t19)) then
  ((idx t18 t20).bind fun x6=>
  ((idx aYk x6).bind fun x8=>
  ((stt aYk x6 true).bind fun l10=>
  rec1 l_1 l10 t18 t19 (IntKind.i64.wrap (t20+1)))))
 else
  ((aC8 l_1 aYk).bind fun r12=>
  some (r12,0)))
def aDr:Nat→List aD→List Bool→List Int→Int→Int→Option ((List aD)×Int)
 |0=>fun _ _ _ _ _=>none
 |n+1=>aMv (aDr n)
def aGm(n_0:Int)(l_1:List aD)(aIz:List Int):Option ((List aD)×Int):=
 ((aI5 n_0 l_1 aIz).bind fun r2=>
 (bif (!r2) then
  some ([],1)
 else
  ((mkc n_0 n_0 false).bind fun l4=>
  aDr bC l_1 l4 aIz (aIz.length:Int) 0)))
theorem bJu{n_0:Int}{l_1:List aD}{aIz:List Int}{r:(List aD)×Int}(hm:aGm n_0 l_1 aIz=some r):bO prog 164 [vi n_0,vl aO l_1,vl (ci .i64) aIz] (.tup [vl aO r.1,vi r.2]):=by
 refine bd 31 func164 ?_;obtain ⟨r2,h1,hm⟩:=bnd hm;refine W ?_;refine cq (aTt h1) ?_;refine W ?_;refine cm hm (fun hm=>?_) fun hm=>?_
 · exact E
 obtain ⟨l4,h3,hm⟩:=bnd hm;refine W ?_;refine aK CFb h3 ?_;refine W ?_;refine lp (fun m s=> ∃l_1 aYk t18 t19 t20,s=⟨31,(aE (aE (aE (aE (aE fa 1 (vl aO l_1)) 8 (.own 1 0 aYk.length)) 18 (vl (ci .i64) t18)) 19 (vi t19)) 20 (vi t20)),⟨(upd aZ 1 (.cells 1 (aYk.flatMap aO0) 0)),64⟩⟩∧aDr m l_1 aYk t18 t19 t20=some r) (Lr (fun j=>bif j==1 then 129 else 0)) ?_;rintro n1 s ⟨l_1,aYk,t18,t19,t20,rfl,hm⟩;refine W ?_;refine cm hm (fun hm=>?_) fun hm=>?_
 · obtain ⟨x6,h5,hm⟩:=bnd hm;obtain ⟨x8,h7,hm⟩:=bnd hm;obtain ⟨l10,h9,hm⟩:=bnd hm;refine W ?_;have qh9:=lF h9;refine aS h9 ?_;refine W ?_;exact Lr (fun j=>bif j==1 then 1 else 0)
 iterate 5 refine S1 ?_
 refine AWp.seq' ?_;refine AWp.weaken (aL8 CFb 8 1 Z1 Z3 Z6) ?_;obtain ⟨r12,h11,hm⟩:=bnd hm;refine W ?_;refine cq (aO3 h11) ?_;exact E
instance:Ct prog 164 (K3 prog vi (vl aO) (vl (ci .i64)) (t2 (vl aO) vi) 164 aGm):=⟨fun hm=>bJu hm⟩
def sO(g_0:aF)(dX:Int)(v_2:Int):Option ((List aD)):=
 ((nR g_0 dX v_2).bind fun r2=>
 ((aGm g_0.Config.N g_0.Edges r2).bind fun ⟨r4,r5⟩=>
 some r4))
theorem aT1:K3 prog cX vi vi (vl aO) 137 sO:=fun hm=>be 23 func137 (h:=G)
instance:Ct prog 137 (K3 prog cX vi vi (vl aO) 137 sO):=⟨aT1⟩
def aAd(x_0:Int):Option (Int):=
 ((aC4 x_0).bind fun r2=>
 some r2)
theorem aMo{x_0:Int}{r:Int}(hm:aAd x_0=some r):bO prog 160 [vu x_0] (vi r):=by
 refine bd 8 func160 ?_;refine W ?_;refine AWp.condF Z1 ?_;obtain ⟨r2,h1,hm⟩:=bnd hm;refine W ?_;refine cq (aNy h1) ?_;exact E
instance:Ct prog 160 (K1 prog vu vi 160 aAd):=⟨fun hm=>aMo hm⟩
def sD(n_0:Int):Option (Int):=
 (bif (decide (n_0<1)) then
  some 0
 else
  ((aAd (IntKind.u64.wrap (IntKind.i64.wrap (n_0-1)))).bind fun r2=>
  some (IntKind.i64.wrap ((IntKind.i64.wrap (2*r2))+2))))
theorem aSp:K1 prog vi vi 168 sD:=fun hm=>be 11 func168 (h:=G)
instance:Ct prog 168 (K1 prog vi vi 168 sD):=⟨aSp⟩
def lN(r_0:Int)(v_1:Int):Option (Bool):=
 some ((((decide (1≤r_0))&&(decide (r_0≤8)))&&(decide (1≤v_1)))&&(decide (v_1≤61)))
theorem aJ2:K2 prog vi vi vb 216 lN:=fun hm=>be 19 func216 (h:=G)
instance:Ct prog 216 (K2 prog vi vi vb 216 lN):=⟨aJ2⟩
def aCl(r_0:Int)(v_1:Int):Option (aV×Int):=
 ((lN r_0 v_1).bind fun r2=>
 (bif (!r2) then
  some ((aV.mk 0 0 []),1)
 else
  ((mkc (IntKind.i64.wrap (r_0*v_1)) (IntKind.i64.wrap (r_0*v_1)) 0).bind fun l4=>
  some ((aV.mk r_0 v_1 l4),0))))
theorem aZk{r_0:Int}{v_1:Int}{r:aV×Int}(hm:aCl r_0 v_1=some r):bO prog 167 [vi r_0,vi v_1] (.tup [.agg [vi r.1.R,vi r.1.V,vl (ci .u64) r.1.Words],vi r.2]):=by
 refine bd 18 func167 ?_;obtain ⟨r2,h1,hm⟩:=bnd hm;refine W ?_;refine cq (aJ2 h1) ?_;refine W ?_;refine cm hm (fun hm=>?_) fun hm=>?_
 · refine W ?_;refine bU (.agg [vi 0,vi 0,.v (.slice none 0 0)]) ?_;exact E
 iterate 2 refine S1 ?_
 refine AWp.seq' ?_;refine AWp.regC 64 6 (N':=192) rfl ?_;obtain ⟨l4,h3,hm⟩:=bnd hm;refine W ?_;refine aK (CFi .u64) h3 ?_;refine aW.cut (aL8 (CFi .u64) 16 133 Z1 Z3 Z6) ?_;refine bU (.agg [vi r_0,vi v_1,vl (ci .u64) l4]) ?_;exact E
instance:Ct prog 167 (K2 prog vi vi (t2 iO vi) 167 aCl):=⟨fun hm=>aZk hm⟩
def nH(g_0:aF)(dX:Int):Option ((List bM)):=
 ((slc g_0.Hashes (IntKind.i64.wrap (dX*g_0.Config.R)) (IntKind.i64.wrap ((IntKind.i64.wrap (dX*g_0.Config.R))+g_0.Config.R))).bind fun l2=>
 ((gH l2).bind fun r4=>
 some r4))
theorem aPe:K2 prog cX vi (vl bI) 169 nH:=fun hm=>be 21 func169 (h:=G)
instance:Ct prog 169 (K2 prog cX vi (vl bI) 169 nH):=⟨aPe⟩
def vE(v_0:Int):Option (Bool):=
 some ((decide (0≤v_0))&&(decide (v_0<16777216)))
theorem aW7:K1 prog vi vb 246 vE:=fun hm=>be 9 func246 (h:=G)
instance:Ct prog 246 (K1 prog vi vb 246 vE):=⟨aW7⟩
def aH6(u_0:Int)(v_1:Int):Option (Int×Int):=
 ((vE u_0).bind fun r2=>
 ((fX ((!r2)==false) false (vE v_1)).bind fun r4=>
 (bif ((!r2)||(!r4)) then
  some (0,1)
 else
  (bif (u_0==v_1) then
   some (0,8)
  else
   some ((IntKind.u64.wrap ((IntKind.u64.wrap ((IntKind.u64.wrap (if v_1<u_0 then v_1 else u_0))*16777216))+(IntKind.u64.wrap (if u_0<v_1 then v_1 else u_0)))),0)))))
theorem bLh:K2 prog vi vi (t2 vu vi) 217 aH6:=fun hm=>be 27 func217 (h:=G)
instance:Ct prog 217 (K2 prog vi vi (t2 vu vi) 217 aH6):=⟨bLh⟩
abbrev aO2(rec1:List Int→List aD→Int→Int→Option ((List Int)))(jC:List Int)(t8:List aD)(t9:Int)(t10:Int):Option ((List Int)):=
 rec1 jC t8 t9 (IntKind.i64.wrap (t10+1))
abbrev aGo(rec1:List Int→List aD→Int→Int→Option ((List Int)))(jC:List Int)(cCt:Int)(t8:List aD)(t9:Int)(t10:Int):Option ((List Int)):=
 ((app jC [cCt]).bind fun l7=>
 aO2 rec1 l7 t8 t9 t10)
def aGn(rec1:List Int→List aD→Int→Int→Option ((List Int)))(jC:List Int)(t8:List aD)(t9:Int)(t10:Int):Option ((List Int)):=
 (bif (decide (t10<t9)) then
  ((idx t8 t10).bind fun x2=>
  ((aH6 x2.U x2.V).bind fun ⟨r4,r5⟩=>
  (bif (r5 !=0) then
   aGo rec1 jC 0 t8 t9 t10
  else
   aGo rec1 jC r4 t8 t9 t10)))
 else
  some jC)
def xX:Nat→List Int→List aD→Int→Int→Option ((List Int))
 |0=>fun _ _ _ _=>none
 |n+1=>aGn (xX n)
def aAw(l_0:List aD):Option ((List Int)):=
 xX bC [] l_0 (l_0.length:Int) 0
theorem bB3:K1 prog (vl aO) (vl (ci .u64)) 170 aAw:=by
 intro l_0 r hm
 let I1:=((fun m s=> ∃jC t8 t9 t10,s=⟨30,(aE (aE (aE (aE fa 3 (.own 1 0 jC.length)) 8 (vl aO t8)) 9 (vi t9)) 10 (vi t10)),⟨(upd aZ 1 (.cells 1 (jC.flatMap (ci .u64)) 0)),64⟩⟩∧xX m jC t8 t9 t10=some r):Nat→St→Prop)
 exact be 30 func170 (h:=G)
instance:Ct prog 170 (K1 prog (vl aO) (vl (ci .u64)) 170 aAw):=⟨bB3⟩
def nT(s_0:aV):Option (Bool):=
 ((lN s_0.R s_0.V).bind fun r2=>
 some (r2&&((s_0.Words.length:Int)==(IntKind.i64.wrap (s_0.R*s_0.V)))))
theorem aJ1:K1 prog iO vb 166 nT:=fun hm=>be 19 func166 (h:=G)
instance:Ct prog 166 (K1 prog iO vb 166 nT):=⟨aJ1⟩
def jR(l:List Int):Option (List Int):=app [] l
theorem aHp{r:List Int}(hm:some []=some r):eE prog 218 [.v (.slice none 0 0)] 1 (r.flatMap (ci .u64)) r.length:=by
 refine eE.of_body func218 rfl ((CFi .u64).fmdat r) ?_;simp only [ntmps218,List.length_cons,List.length_nil,Nat.reduceAdd,Nat.reduceSub,gD];refine sN 64 (pA ?_);refine fs (AWp.seq' (sN 128 (pA ?_)));refine pu rfl (yZ Z1 Z1 (aKf underlying24)) ?_;refine fs (AWp.condT Z1 ?_);refine sN 192 (pA ?_);refine fs (AWp.weaken (rQ 2 900002 1 Z1 Z5) ?_);refine AWp.ret (hZ ?_);cases hm;exact aLp (.inr rfl) Tryz.results218 Z1 Z3 Z6
theorem aHq{a:Addr}{c:Nat}{r:List Int}(hm:((app [] []).bind fun l2=>
some l2)=some r):eE prog 218 [.v (.slice (some a) 0 c)] 1 (r.flatMap (ci .u64)) r.length:=by
 refine eE.of_body func218 rfl ((CFi .u64).fmdat r) ?_;simp only [ntmps218,List.length_cons,List.length_nil,Nat.reduceAdd,Nat.reduceSub,gD];refine sN 64 (pA ?_);refine fs (AWp.seq' (sN 128 (pA ?_)));refine pu rfl (yZ Z1 Z1 (aI3 underlying24)) ?_;refine fs (AWp.condF Z1 ?_);refine AWp.skip (bJ (sN 192 (hp (id:=128) rfl rfl (iT (CFi .u64) (l:=[]) underlying24 aPi bQe Z5 Zd Zd Zd (by simp only [go_sem,Nat.reduceBEq];try rfl) (by kernel_rfl)) ?_)));refine pA ?_;obtain ⟨l2,h1,hm⟩:=bnd hm;refine hp (id:=130) rfl rfl (tH (CFi .u64) underlying24 underlying24 rfl bS7 bTa (by rw [bIk];decide) (by rw [bIk];decide) bTc Zd Zd Z1 Z3 Z6 (aPl Z1) rfl Z5 h1) ?_;refine pA ?_;refine fs (AWp.ret ?_);cases hm;exact aLp (.inr rfl) Tryz.results218 Z1 Z3 Z6
theorem aHr{x0:Int}{l0:List Int}{r:List Int}(hm:((app [] (x0::l0)).bind fun l2=>
some l2)=some r):eE prog 218 [.sl ((x0::l0).flatMap (ci .u64)) (x0::l0).length false] 1 (r.flatMap (ci .u64)) r.length:=by
 refine eE.of_body func218 rfl ((CFi .u64).fmdat r) ?_;simp only [ntmps218,List.length_cons,List.length_nil,Nat.reduceAdd,Nat.reduceSub,gD];refine sN 64 (pA ?_);refine fs (AWp.seq' (sN 128 (pA ?_)));refine pu rfl (yZ Z1 Z1 (aI2 underlying24 (by simp))) ?_;refine fs (AWp.condF Z1 ?_);refine AWp.skip (bJ (sN 192 (hp (id:=128) rfl rfl (iT (CFi .u64) (l:=[]) underlying24 aPi bQe Z5 Zd Zd Zd (by simp only [go_sem,Nat.reduceBEq];try rfl) (by kernel_rfl)) ?_)));refine pA ?_;obtain ⟨l2,h1,hm⟩:=bnd hm;refine hp (id:=130) rfl rfl (tH (CFi .u64) underlying24 underlying24 rfl bS7 bTa (by rw [bIk];decide) (by rw [bIk];decide) bTc Zd Zd Z1 Z3 Z6 (aTj (CFi .u64) Z1 rfl) rfl Z5 h1) ?_;refine pA ?_;refine fs (AWp.ret ?_);cases hm;exact aLp (.inr rfl) Tryz.results218 Z1 Z3 Z6
theorem aIl{l r:List Int}(hm:jR l=some r):eE prog 218 [.sl (l.flatMap (ci .u64)) l.length false] 1 (r.flatMap (ci .u64)) r.length:=by
 cases l with
 |nil=>
  have hr:r=[]:=by unfold jR app at hm;simpa using hm.symm
  subst hr;exact eE.nil_arg (aHp (r:=[]) rfl) (fun a c=>aHq (r:=[]) rfl)
 |cons x0 l0=>
  refine aHr ?_;show (app [] (x0::l0)).bind _=_;unfold jR at hm;rw [hm];rfl
def vC(h_0:bM)(aW9:Int):Option (Int):=
 ((aE1 h_0.A aW9).bind fun r2=>
 ((aE0 r2 h_0.B).bind fun r4=>
 some r4))
theorem aVy:K2 prog aX8 vu vu 247 vC:=fun hm=>be 12 func247 (h:=G)
instance:Ct prog 247 (K2 prog aX8 vu vu 247 vC):=⟨aVy⟩
def uZ(aPt:Int):Option (Int):=
 (bif ((decide (aPt<0))||(decide (61≤aPt))) then
  some 0
 else
  ((chk (decide (0≤aPt))).bind fun _=>
  some (shr .u64 2305843009213693951 aPt)))
theorem aVw:K1 prog vi vu 248 uZ:=fun hm=>be 11 func248 (h:=G)
instance:Ct prog 248 (K1 prog vi vu 248 uZ):=⟨aVw⟩
def aF1(rec1:Int→Int→Int→Option (Int))(oZ:Int)(aMe:Int)(aGq:Int):Option (Int):=
 ((fX ((decide (aGq<(if 61<oZ then 61 else oZ)))==true) 0 (uZ aGq)).bind fun r4=>
 (bif ((decide (aGq<(if 61<oZ then 61 else oZ)))&&(decide (aMe<r4))) then
  rec1 oZ aMe (IntKind.i64.wrap (aGq+1))
 else
  some aGq))
def mT:Nat→Int→Int→Int→Option (Int)
 |0=>fun _ _ _=>none
 |n+1=>aF1 (mT n)
def yH(h_0:bM)(aW9:Int)(oZ:Int):Option (Int):=
 ((vC h_0 aW9).bind fun r2=>
 mT bC oZ r2 0)
theorem aOd:K3 prog aX8 vu vi vi 219 yH:=by
 intro h_0 aW9 oZ r hm
 let I1:=((fun m s=> ∃oZ aMe aGq,s=⟨25,(aE (aE (aE fa 2 (vi oZ)) 7 (vu aMe)) 8 (vi aGq)),⟨aZ,64⟩⟩∧mT m oZ aMe aGq=some r):Nat→St→Prop)
 exact be 25 func219 (h:=G)
instance:Ct prog 219 (K3 prog aX8 vu vi vi 219 yH):=⟨aOd⟩
def zP(rec1:Int→aV→aV→List Int→List bM→Int→Int→Option (aV×Int))(rec2:Int→aV→aV→List Int→Int→List bM→Int→Int→Int→Int→Option (aV×Int))(lW:Int)(s_3:aV)(t6:aV)(kI:List Int)(aOo:Int)(t26:List bM)(t27:Int)(t28:Int)(t37:Int)(t38:Int):Option (aV×Int):=
 (bif (decide (t38<t37)) then
  ((idx kI (IntKind.i64.wrap ((IntKind.i64.wrap (aOo*s_3.V))+t38))).bind fun x10=>
  ((idx kI (IntKind.i64.wrap ((IntKind.i64.wrap (aOo*s_3.V))+t38))).bind fun x12=>
  ((stt kI (IntKind.i64.wrap ((IntKind.i64.wrap (aOo*s_3.V))+t38)) (bTw .u64 x10 lW)).bind fun l14=>
  rec2 lW s_3 t6 l14 aOo t26 t27 t28 t37 (IntKind.i64.wrap (t38+1)))))
 else
  rec1 lW s_3 t6 kI t26 t27 (IntKind.i64.wrap (t28+1)))
def nM(rec1:Int→aV→aV→List Int→List bM→Int→Int→Option (aV×Int)):Nat→Int→aV→aV→List Int→Int→List bM→Int→Int→Int→Int→Option (aV×Int)
 |0=>fun _ _ _ _ _ _ _ _ _ _=>none
 |n+1=>zP rec1 (nM rec1 n)
def zO(rec1:Int→aV→aV→List Int→List bM→Int→Int→Option (aV×Int))(lW:Int)(s_3:aV)(t6:aV)(kI:List Int)(t26:List bM)(t27:Int)(t28:Int):Option (aV×Int):=
 (bif (decide (t28<t27)) then
  ((idx t26 t28).bind fun x6=>
  ((yH x6 lW s_3.V).bind fun r8=>
  nM rec1 bC lW s_3 t6 kI t28 t26 t27 t28 r8 0))
 else
  some ((aV.mk s_3.R s_3.V kI),0))
def jL:Nat→Int→aV→aV→List Int→List bM→Int→Int→Option (aV×Int)
 |0=>fun _ _ _ _ _ _ _=>none
 |n+1=>zO (jL n)
def qJ(s_0:aV)(l_1:List bM)(lW:Int):Option (aV×Int):=
 ((nT s_0).bind fun r2=>
 (bif ((!r2)||((l_1.length:Int) !=s_0.R)) then
  some (s_0,1)
 else
  ((jR s_0.Words).bind fun r4=>
  jL bC lW s_0 (aV.mk 0 0 []) r4 l_1 (l_1.length:Int) 0)))
theorem aRn{s_0:aV}{l_1:List bM}{lW:Int}{r:aV×Int}(hm:qJ s_0 l_1 lW=some r):bO prog 171 [.agg [vi s_0.R,vi s_0.V,vl (ci .u64) s_0.Words],vl bI l_1,vu lW] (.tup [.agg [vi r.1.R,vi r.1.V,vl (ci .u64) r.1.Words],vi r.2]):=by
 refine bd 61 func171 ?_;obtain ⟨r2,h1,hm⟩:=bnd hm;refine W ?_;refine cq (aJ1 h1) ?_;refine W ?_;refine cm hm (fun hm=>?_) fun hm=>?_
 · exact E
 obtain ⟨r4,h3,hm⟩:=bnd hm;refine W ?_;refine aW.callF (id:=130) Zd Z1 bUo (fun H=>(cD ((CFi .u64).sl _ _ _) .nil)) (CFi .u64) Z5 (aIl h3) ?_;refine W ?_;refine lp (fun m s=> ∃lW s_3 t6 kI t26 t27 t28,s=⟨61,(aE (aE (aE (aE (aE (aE (aE fa 2 (vu lW)) 3 (.adr 1 0)) 6 (.adr 2 0)) 8 (.own 3 0 kI.length)) 26 (vl bI t26)) 27 (vi t27)) 28 (vi t28)),⟨(upd (upd (upd aZ 1 (.cells 1 [vi s_3.R,vi s_3.V,vl (ci .u64) s_3.Words] 0)) 2 (.cells 1 [vi t6.R,vi t6.V,vl (ci .u64) t6.Words] 0)) 3 (.cells 1 (kI.flatMap (ci .u64)) 0)),64⟩⟩∧jL m lW s_3 t6 kI t26 t27 t28=some r) ?_ ?_
 · refine ⟨_,?_,lW,s_0,(aV.mk 0 0 []),r4,l_1,(l_1.length:Int),0,rfl,hm⟩;refine St.Le.trans (aGz 1 (ys:=[.v (.int .i64 ((aV.mk 0 0 []).R)),.v (.int .i64 ((aV.mk 0 0 []).V)),.sl (((aV.mk 0 0 []).Words).flatMap (ci .u64)) ((aV.mk 0 0 []).Words).length false]) Z3 (.cons (.data _ (.v _)) (.cons (.data _ (.v _)) (.cons (.nil false) .nil)))) ?_;exact cn (fun j=>bif j==1 then 0 else bif j==2 then 1 else bif j==3 then 130 else 0)
 rintro n1 s ⟨lW,s_3,t6,kI,t26,t27,t28,rfl,hm⟩;refine W ?_;refine cm hm (fun hm=>?_) fun hm=>?_
 ·
  obtain ⟨x6,h5,hm⟩:=bnd hm;obtain ⟨r8,h7,hm⟩:=bnd hm;refine W ?_;refine cq (aOd h7) ?_;refine W ?_;refine lp (fun m s=> ∃lW s_3 t6 kI aOo t26 t27 t28 t37 t38,s=⟨61,(aE (aE (aE (aE (aE (aE (aE (aE (aE (aE fa 2 (vu lW)) 3 (.adr 1 0)) 6 (.adr 2 0)) 8 (.own 3 0 kI.length)) 9 (vi aOo)) 26 (vl bI t26)) 27 (vi t27)) 28 (vi t28)) 37 (vi t37)) 38 (vi t38)),⟨(upd (upd (upd aZ 1 (.cells 1 [vi s_3.R,vi s_3.V,vl (ci .u64) s_3.Words] 0)) 2 (.cells 1 [vi t6.R,vi t6.V,vl (ci .u64) t6.Words] 0)) 3 (.cells 1 (kI.flatMap (ci .u64)) 0)),64⟩⟩∧nM (jL n1) m lW s_3 t6 kI aOo t26 t27 t28 t37 t38=some r) (Lr (fun j=>bif j==1 then 1 else bif j==2 then 2 else bif j==3 then 3 else 0)) ?_;rintro n2 s ⟨lW,s_3,t6,kI,aOo,t26,t27,t28,t37,t38,rfl,hm⟩;refine W ?_;refine cm hm (fun hm=>?_) fun hm=>?_
  · obtain ⟨x10,h9,hm⟩:=bnd hm;have hm:=sb hm h9;obtain ⟨l14,h13,hm⟩:=bnd hm;refine W ?_;have qh13:=lF h13;refine aS h13 ?_;refine W ?_;exact Lr (fun j=>bif j==1 then 1 else bif j==2 then 2 else bif j==3 then 3 else 0)
  refine W ?_;exact Lr (fun j=>bif j==1 then 1 else bif j==2 then 2 else bif j==3 then 3 else 0)
 iterate 5 refine S1 ?_
 refine AWp.seq' ?_;refine AWp.weaken (aL8 (CFi .u64) 8 3 Z1 Z3 Z6) ?_;refine W ?_;refine bU (.agg [vi s_3.R,vi s_3.V,vl (ci .u64) kI]) ?_;exact E
instance:Ct prog 171 (K3 prog iO (vl bI) vu (t2 iO vi) 171 qJ):=⟨fun hm=>aRn hm⟩
def aBh(rec1:aV→aV→List bM→List Int→Int→Int→Option (aV))(t6:aV)(s_7:aV)(bJj:List bM)(t27:List Int)(t28:Int)(t29:Int):Option (aV):=
 (bif (decide (t29<t28)) then
  ((idx t27 t29).bind fun x11=>
  ((qJ s_7 bJj x11).bind fun ⟨r13,r14⟩=>
  rec1 t6 r13 bJj t27 t28 (IntKind.i64.wrap (t29+1))))
 else
  some s_7)
def qC:Nat→aV→aV→List bM→List Int→Int→Int→Option (aV)
 |0=>fun _ _ _ _ _ _=>none
 |n+1=>aBh (qC n)
def sP(g_0:aF)(dX:Int)(bQx:List aD):Option (aV):=
 ((sD g_0.Config.N).bind fun r2=>
 ((aCl g_0.Config.R r2).bind fun ⟨r4,r5⟩=>
 ((nH g_0 dX).bind fun r7=>
 ((aAw bQx).bind fun r9=>
 qC bC (aV.mk 0 0 []) r4 r7 r9 (r9.length:Int) 0))))
theorem aT2:K3 prog cX vi (vl aO) iO 139 sP:=by
 intro g_0 dX bQx r hm
 let I1:=((fun m s=> ∃t6 s_7 bJj t27 t28 t29,s=⟨42,(aE (aE (aE (aE (aE (aE fa 6 (.adr 1 0)) 7 (.adr 2 0)) 9 (vl bI bJj)) 27 (vl (ci .u64) t27)) 28 (vi t28)) 29 (vi t29)),⟨(upd (upd aZ 1 (.cells 1 [vi t6.R,vi t6.V,vl (ci .u64) t6.Words] 0)) 2 (.cells 1 [vi s_7.R,vi s_7.V,vl (ci .u64) s_7.Words] 0)),64⟩⟩∧qC m t6 s_7 bJj t27 t28 t29=some r):Nat→St→Prop)
 exact be 42 func139 (h:=G)
instance:Ct prog 139 (K3 prog cX vi (vl aO) iO 139 sP):=⟨aT2⟩
def wW(aW8:Int):Option (Int×Int×Bool):=
 (bif (decide ((Int.tmod aW8 16777216)≤(IntKind.u64.wrap (Int.tdiv aW8 16777216)))) then
  some (0,0,false)
 else
  some ((IntKind.i64.wrap (IntKind.u64.wrap (Int.tdiv aW8 16777216))),(IntKind.i64.wrap (Int.tmod aW8 16777216)),true))
theorem bCf:K1 prog vu (t3 vi vi vb) 140 wW:=fun hm=>be 18 func140 (h:=G)
instance:Ct prog 140 (K1 prog vu (t3 vi vi vb) 140 wW):=⟨bCf⟩
abbrev aBm(rec1:List Int→List Int→Int→Int→Option ((List Int)))(jC:List Int)(t13:List Int)(t14:Int)(t15:Int):Option ((List Int)):=
 rec1 jC t13 t14 (IntKind.i64.wrap (t15+1))
def aBl(rec1:List Int→List Int→Int→Int→Option ((List Int)))(jC:List Int)(t13:List Int)(t14:Int)(t15:Int):Option ((List Int)):=
 (bif (decide (t15<t14)) then
  ((idx t13 t15).bind fun x4=>
  ((wW x4).bind fun ⟨r6,r7,r8⟩=>
  (bif r8 then
   ((app jC [x4]).bind fun l10=>
   aBm rec1 l10 t13 t14 t15)
  else
   aBm rec1 jC t13 t14 t15)))
 else
  some jC)
def qI:Nat→List Int→List Int→Int→Int→Option ((List Int))
 |0=>fun _ _ _ _=>none
 |n+1=>aBl (qI n)
def sQ(s_0:aV):Option ((List Int)):=
 ((nT s_0).bind fun r2=>
 (bif (!r2) then
  some []
 else
  qI bC [] s_0.Words (s_0.Words.length:Int) 0))
theorem aT4:K1 prog iO (vl (ci .u64)) 138 sQ:=by
 intro s_0 r hm
 let I1:=((fun m s=> ∃jC t13 t14 t15,s=⟨32,(aE (aE (aE (aE fa 3 (.own 1 0 jC.length)) 13 (vl (ci .u64) t13)) 14 (vi t14)) 15 (vi t15)),⟨(upd aZ 1 (.cells 1 (jC.flatMap (ci .u64)) 0)),64⟩⟩∧qI m jC t13 t14 t15=some r):Nat→St→Prop)
 exact be 32 func138 (h:=G)
instance:Ct prog 138 (K1 prog iO (vl (ci .u64)) 138 sQ):=⟨aT4⟩
abbrev zL(rec1:aD→List aD→List Int→Int→Int→Option (aD×Bool))(t6:aD)(aLe:List aD)(t30:List Int)(t31:Int)(t32:Int):Option (aD×Bool):=
 rec1 t6 aLe t30 t31 (IntKind.i64.wrap (t32+1))
def zK(rec1:aD→List aD→List Int→Int→Int→Option (aD×Bool))(t6:aD)(aLe:List aD)(t30:List Int)(t31:Int)(t32:Int):Option (aD×Bool):=
 (bif (decide (t32<t31)) then
  ((idx t30 t32).bind fun x10=>
  ((wW x10).bind fun ⟨r12,r13,r14⟩=>
  (bif (!r14) then
   zL rec1 t6 aLe t30 t31 t32
  else
   ((mV aLe r12 r13).bind fun ⟨r16,r17⟩=>
   (bif r17 then
    ((idx aLe r16).bind fun x19=>
    some (x19,true))
   else
    zL rec1 t6 aLe t30 t31 t32)))))
 else
  some ((aD.mk 0 0 0),false))
def nI:Nat→aD→List aD→List Int→Int→Int→Option (aD×Bool)
 |0=>fun _ _ _ _ _=>none
 |n+1=>zK (nI n)
def lZ(g_0:aF)(dX:Int)(v_2:Int):Option (aD×Bool):=
 ((kW g_0 dX v_2).bind fun r2=>
 (bif (!r2) then
  some ((aD.mk 0 0 0),false)
 else
  ((sO g_0 dX v_2).bind fun r4=>
  ((sP g_0 dX r4).bind fun r6=>
  ((sQ r6).bind fun r8=>
  nI bC (aD.mk 0 0 0) r4 r8 (r8.length:Int) 0)))))
theorem aHm:K3 prog cX vi vi (t2 aBx vb) 96 lZ:=by
 intro g_0 dX v_2 r hm
 let I1:=((fun m s=> ∃t6 aLe t30 t31 t32,s=⟨58,(aE (aE (aE (aE (aE fa 6 (.adr 1 0)) 8 (vl aO aLe)) 30 (vl (ci .u64) t30)) 31 (vi t31)) 32 (vi t32)),⟨(upd aZ 1 (.cells 1 [vi t6.U,vi t6.V,vi t6.Tier] 0)),64⟩⟩∧nI m t6 aLe t30 t31 t32=some r):Nat→St→Prop)
 exact be 58 func96 (h:=G)
instance:Ct prog 96 (K3 prog cX vi vi (t2 aBx vb) 96 lZ):=⟨aHm⟩
def uG(g_0:aF)(u_1:Int)(v_2:Int):Option (Bool):=
 ((eC g_0).bind fun r2=>
 some ((((r2&&(decide (0≤u_1)))&&(decide (u_1<g_0.Config.N)))&&(decide (0≤v_2)))&&(decide (v_2<g_0.Config.N))))
theorem aZu:K3 prog cX vi vi vb 98 uG:=fun hm=>be 31 func98 (h:=G)
instance:Ct prog 98 (K3 prog cX vi vi vb 98 uG):=⟨aZu⟩
def fU(n_0:Int)(v_1:Int):Option (Bool):=
 some ((decide (0≤v_1))&&(decide (v_1<n_0)))
theorem lP:K2 prog vi vi vb 141 fU:=fun hm=>be 12 func141 (h:=G)
instance:Ct prog 141 (K2 prog vi vi vb 141 fU):=⟨lP⟩
abbrev kZ(s_0:List aD):Option ((List aD)):=
 some s_0
abbrev oN(n_1:Int):Option ((List aD)):=
 (bif (decide (0<(IntKind.i64.wrap (n_1-(IntKind.i64.wrap (((0:Nat):Int)-((0:Nat):Int))))))) then
  ((chk (((0:Nat):Int)==0)).bind fun _=>
  ((chk (decide (0<(IntKind.i64.wrap (n_1-(IntKind.i64.wrap (((0:Nat):Int)-((0:Nat):Int))))))&&decide ((IntKind.i64.wrap (n_1-(IntKind.i64.wrap (((0:Nat):Int)-((0:Nat):Int)))))≤4294967296))).bind fun _=>
  ((chk (((0:Nat):Int)==0)).bind fun _=>
  kZ [])))
 else
  kZ [])
def mD(n_1:Int):Option ((List aD)):=
 (bif (decide (n_1<0)) then
  none
 else
  oN n_1)
theorem aNi{n_1:Int}{r:(List aD)}(hm:mD n_1=some r):eE prog 172 [.v (.slice none 0 0),.v (.int .i64 n_1)] 3 (r.flatMap aO) r.length:=by
 refine eE.of_body func172 rfl (bT.fmdat r) ?_;simp only [ntmps172,List.length_cons,List.length_nil,Nat.reduceAdd,Nat.reduceSub,gD];unfold mD at hm;refine sN 64 (pA ?_);refine fs (AWp.seqJ (fun s=> ∃(n_1:Int),s=(⟨27,(aE (aE (fun _=>AV.any) 0 (.v (.slice none 0 0))) 1 (.v (.int .i64 n_1))),⟨aZ,64⟩⟩:St)∧oN n_1=some r) ?_ ?_)
 ·
  refine sN 128 ?_
  iterate 2 refine pA ?_
  refine fs (AWp.condM hm Z1 (fun _ hm=>?_) (fun _ hm=>?_))
  · cases hm
  · refine AWp.skip (wE ?_);refine ⟨_,?_,n_1,rfl,hm⟩;exact cC id (wV (wV cY)) aVl
 ·
  rintro s ⟨n_1,rfl,hm⟩;unfold oN at hm;refine AWp.seqJ (fun s=> ∃(s_0:List aD),s=(⟨27,(aE (fun _=>AV.any) 0 (.own 1 0 s_0.length)),⟨(upd aZ 1 (.cells 3 (s_0.flatMap aO) 0)),64⟩⟩:St)∧kZ s_0=some r) ?_ ?_
  ·
   refine sN 128 ?_
   iterate 2 refine pA ?_
   refine pu rfl (bD9 underlying28 Z1) ?_
   iterate 5 refine pA ?_
   refine fs (sN 192 ?_)
   iterate 2 refine pA ?_
   refine fs (AWp.condM hm Z1 (fun _ hm=>?_) (fun _ hm=>?_))
   ·
    refine AWp.reg 64 (N':=256) rfl ?_
    iterate 2 refine pA ?_
    refine pu rfl (bD9 underlying28 Z1) ?_;obtain ⟨_,h3,hm⟩:=bnd hm;refine pu rfl (bJ5 underlying28 aM7 Z1 Z1 (eq_of_beq (rW h3))) ?_;refine pA ?_;obtain ⟨_,h4,hm⟩:=bnd hm;refine hp (id:=197) rfl rfl (bMy underlying28 underlying3 rfl bKs bMe (by rw [aT7];decide) (by rw [aT7];decide) bMf Zd Zd Z1 Z1 Z5 h4) ?_
    iterate 2 refine pA ?_
    obtain ⟨_,h8,hm⟩:=bnd hm;refine pu rfl (bN2 underlying28 aM7 Z1 Z3 Z1 (eq_of_beq (rW h8))) ?_;refine pA ?_;refine aW.fin (wE ?_);refine ⟨_,?_,[],rfl,hm⟩;refine St.Le.trans (bPj 197 Z3) ?_;exact cC (fun j=>bif j==1 then 197 else 0) (wO cY) (hW (eU bT cM))
   · refine AWp.skip (wE ?_);refine ⟨_,?_,[],rfl,hm⟩;refine St.Le.trans (rQ 0 900000 3 Z1 Z5) ?_;exact cC (fun j=>bif j==1 then 900000 else 0) (wO cY) (hW (eU bT cM))
  ·
   rintro s ⟨s_0,rfl,hm⟩;unfold kZ at hm;refine sN 128 ?_
   iterate 2 refine pA ?_
   refine fs (AWp.ret ?_);cases hm;exact aLp (.inr rfl) Tryz.results172 Z1 Z3 Z6
abbrev rT(rec1:List (List aD)→Int→List (List aD)→Int→Int→Option ((List aD)))(gK:List (List aD))(xC:Int)(t9:List (List aD))(t10:Int)(t11:Int):Option ((List aD)):=
 rec1 gK xC t9 t10 (IntKind.i64.wrap (t11+1))
def rS(rec2:List aD→List (List aD)→Int→Int→Option ((List aD)))(tM:List aD)(t25:List (List aD))(t26:Int)(t27:Int):Option ((List aD)):=
 (bif (decide (t27<t26)) then
  ((idx t25 t27).bind fun x6=>
  ((app tM x6).bind fun l8=>
  rec2 l8 t25 t26 (IntKind.i64.wrap (t27+1))))
 else
  some tM)
def jS:Nat→List aD→List (List aD)→Int→Int→Option ((List aD))
 |0=>fun _ _ _ _=>none
 |n+1=>rS (jS n)
def rR(rec1:List (List aD)→Int→List (List aD)→Int→Int→Option ((List aD)))(gK:List (List aD))(xC:Int)(t9:List (List aD))(t10:Int)(t11:Int):Option ((List aD)):=
 (bif (decide (t11<t10)) then
  ((idx t9 t11).bind fun x2=>
  (bif (decide ((IntKind.i64.wrap (xC+(x2.length:Int)))<0)) then
   none
  else
   rT rec1 gK (IntKind.i64.wrap (xC+(x2.length:Int))) t9 t10 t11))
 else
  ((mD xC).bind fun r4=>
  jS bC r4 gK (gK.length:Int) 0))
def iP:Nat→List (List aD)→Int→List (List aD)→Int→Int→Option ((List aD))
 |0=>fun _ _ _ _ _=>none
 |n+1=>rR (iP n)
def jA(gK:List (List aD)):Option ((List aD)):=
 iP bC gK 0 gK (gK.length:Int) 0
theorem tO{gK:List (List aD)}{r:(List aD)}(hm:jA gK=some r):bO prog 142 [.sl (gK.flatMap (csl aO)) gK.length false] (vl aO r):=by
 refine bd 36 func142 ?_;refine W ?_;refine lp (fun m s=> ∃gK xC t9 t10 t11,s=⟨36,(aE (aE (aE (aE (aE fa 0 (.sl (gK.flatMap (csl aO)) gK.length false)) 3 (vi xC)) 9 (.sl (t9.flatMap (csl aO)) t9.length false)) 10 (vi t10)) 11 (vi t11)),⟨aZ,64⟩⟩∧iP m gK xC t9 t10 t11=some r) L ?_;rintro n1 s ⟨gK,xC,t9,t10,t11,rfl,hm⟩;refine W ?_;refine cm hm (fun hm=>?_) fun hm=>?_
 ·
  refine V ?_;refine AWp.seqJ (fun s=> ∃gK xC t9 t10 t11,s=⟨36,(aE (aE (aE (aE (aE fa 0 (.sl (gK.flatMap (csl aO)) gK.length false)) 3 (vi xC)) 9 (.sl (t9.flatMap (csl aO)) t9.length false)) 10 (vi t10)) 11 (vi t11)),⟨aZ,64⟩⟩∧rT (iP n1) gK xC t9 t10 t11=some r) ?_ ?_
  ·
   obtain ⟨x2,h1,hm⟩:=bnd hm;refine W ?_;refine cm hm (fun hm=>?_) fun hm=>?_
   · cases hm
   exact L
  rintro s ⟨gK,xC,t9,t10,t11,rfl,hm⟩;exact L
 obtain ⟨r4,h3,hm⟩:=bnd hm;refine W ?_;refine aW.callF (id:=129) Zd Z1 bUk (fun H=>(cV (cV .nil))) bT Z5 (aNi h3) ?_;refine W ?_;refine lp (fun m s=> ∃tM t25 t26 t27,s=⟨36,(aE (aE (aE (aE fa 6 (.own 1 0 tM.length)) 25 (.sl (t25.flatMap (csl aO)) t25.length false)) 26 (vi t26)) 27 (vi t27)),⟨(upd aZ 1 (.cells 3 (tM.flatMap aO) 0)),64⟩⟩∧jS m tM t25 t26 t27=some r) (Lr (fun j=>bif j==1 then 129 else 0)) ?_;rintro n2 s ⟨tM,t25,t26,t27,rfl,hm⟩;refine W ?_;refine cm hm (fun hm=>?_) fun hm=>?_
 · obtain ⟨x6,h5,hm⟩:=bnd hm;obtain ⟨l8,h7,hm⟩:=bnd hm;refine W ?_;exact Lr (fun j=>bif j==1 then 194 else 0)
 exact E
instance:Ct prog 142 (K1 prog (vl (csl aO)) (vl aO) 142 jA):=⟨fun hm=>tO hm⟩
def sV(n_0:Int)(l_1:List aD)(u_2:Int)(v_3:Int):Option ((List aD)×Int):=
 ((iN n_0 l_1).bind fun r2=>
 ((fX ((!r2)==false) false (fU n_0 u_2)).bind fun r4=>
 ((fX (((!r2)||(!r4))==false) false (fU n_0 v_3)).bind fun r6=>
 (bif (((!r2)||(!r4))||(!r6)) then
  some (l_1,1)
 else
  ((mV l_1 u_2 v_3).bind fun ⟨r8,r9⟩=>
  (bif (!r9) then
   some (l_1,9)
  else
   ((slc l_1 0 r8).bind fun l11=>
   ((slc l_1 (IntKind.i64.wrap (r8+1)) (l_1.length:Int)).bind fun l13=>
   ((jA [l11,l13]).bind fun r15=>
   some (r15,0))))))))))
theorem aT6{n_0:Int}{l_1:List aD}{u_2:Int}{v_3:Int}{r:(List aD)×Int}(hm:sV n_0 l_1 u_2 v_3=some r):bO prog 99 [vi n_0,vl aO l_1,vi u_2,vi v_3] (.tup [vl aO r.1,vi r.2]):=by
 refine bd 48 func99 ?_;obtain ⟨r2,h1,hm⟩:=bnd hm;refine W ?_;refine cq (aAc h1) ?_;obtain ⟨r4,h3,hm⟩:=bnd hm;refine W ?_;refine cg (fun hb=>lP (gN h3 hb)) ?_;obtain ⟨r6,h5,hm⟩:=bnd hm;refine W ?_;refine cg (fun hb=>lP (gN h5 hb)) ?_;refine W ?_;refine cm hm (fun hm=>?_) fun hm=>?_
 · exact E
 refine W ?_;obtain ⟨⟨r8,r9⟩,h7,hm⟩:=bnd hm;refine cq (aF6 h7) ?_;refine W ?_;refine cm hm (fun hm=>?_) fun hm=>?_
 · exact E
 obtain ⟨l11,h10,hm⟩:=bnd hm;obtain ⟨l13,h12,hm⟩:=bnd hm
 iterate 10 refine S1 ?_
 refine aW.pop Zd (aH8 (ps:=[(0,.sl (l11.flatMap aO) l11.length (false&&(r8:Int).toNat==l_1.length)),(1,.sl (l13.flatMap aO) l13.length (false&&((l_1.length:Int):Int).toNat==l_1.length))]) (by simp only [go_sem,Nat.reduceBEq];try rfl) (aDt (bT.sl _ _ _) (aDt (bT.sl _ _ _) aVb))) (aRb (CFl bT) (l:=[l11,l13]) (xs:=[.sl (l11.flatMap aO) l11.length (false&&(r8:Int).toNat==l_1.length),.sl (l13.flatMap aO) l13.length (false&&((l_1.length:Int):Int).toNat==l_1.length)]) underlying249 bQ4 bTj Zd Zd Zd (ps:=[(0,.sl (l11.flatMap aO) l11.length (false&&(r8:Int).toNat==l_1.length)),(1,.sl (l13.flatMap aO) l13.length (false&&((l_1.length:Int):Int).toNat==l_1.length))]) (by simp only [go_sem,Nat.reduceBEq];try rfl) (by kernel_rfl) (fun H=>(.cons (tdf rfl (bT.sl _ _ _)) (.cons (tdf rfl (bT.sl _ _ _)) .nil)))) rfl ?_;obtain ⟨r15,h14,hm⟩:=bnd hm;refine cq (tO h14) ?_;exact E
instance:Ct prog 99 (K4 prog vi (vl aO) vi vi (t2 (vl aO) vi) 99 sV):=⟨fun hm=>aT6 hm⟩
def aHx(rec1:List aD→aD→Int→Option ((List aD)×Int))(l_1:List aD)(eW:aD)(kV:Int):Option ((List aD)×Int):=
 ((fX ((decide (kV<(l_1.length:Int)))==true) (aD.mk 0 0 0) (idx l_1 kV)).bind fun x11=>
 ((fX ((decide (kV<(l_1.length:Int)))==true) false (tL x11 eW)).bind fun r13=>
 (bif ((decide (kV<(l_1.length:Int)))&&r13) then
  rec1 l_1 eW (IntKind.i64.wrap (kV+1))
 else
  ((slc l_1 0 kV).bind fun l15=>
  ((slc l_1 kV (l_1.length:Int)).bind fun l17=>
  ((jA [l15,[eW],l17]).bind fun r19=>
  some (r19,0)))))))
def yV:Nat→List aD→aD→Int→Option ((List aD)×Int)
 |0=>fun _ _ _=>none
 |n+1=>aHx (yV n)
def aBq(n_0:Int)(l_1:List aD)(u_2:Int)(v_3:Int):Option ((List aD)×Int):=
 ((iN n_0 l_1).bind fun r2=>
 ((fX ((!r2)==false) false (fU n_0 u_2)).bind fun r4=>
 ((fX (((!r2)||(!r4))==false) false (fU n_0 v_3)).bind fun r6=>
 (bif (((!r2)||(!r4))||(!r6)) then
  some (l_1,1)
 else
  (bif (u_2==v_3) then
   some (l_1,8)
  else
   ((mV l_1 u_2 v_3).bind fun ⟨r8,r9⟩=>
   (bif r9 then
    some (l_1,4)
   else
    yV bC l_1 (aD.mk (if v_3<u_2 then v_3 else u_2) (if u_2<v_3 then v_3 else u_2) 0) 0)))))))
theorem bCz{n_0:Int}{l_1:List aD}{u_2:Int}{v_3:Int}{r:(List aD)×Int}(hm:aBq n_0 l_1 u_2 v_3=some r):bO prog 102 [vi n_0,vl aO l_1,vi u_2,vi v_3] (.tup [vl aO r.1,vi r.2]):=by
 refine bd 75 func102 ?_;obtain ⟨r2,h1,hm⟩:=bnd hm;refine W ?_;refine cq (aAc h1) ?_;obtain ⟨r4,h3,hm⟩:=bnd hm;refine W ?_;refine cg (fun hb=>lP (gN h3 hb)) ?_;obtain ⟨r6,h5,hm⟩:=bnd hm;refine W ?_;refine cg (fun hb=>lP (gN h5 hb)) ?_;refine W ?_;refine cm hm (fun hm=>?_) fun hm=>?_
 · exact E
 refine W ?_;refine cm hm (fun hm=>?_) fun hm=>?_
 · exact E
 refine W ?_;obtain ⟨⟨r8,r9⟩,h7,hm⟩:=bnd hm;refine cq (aF6 h7) ?_;refine W ?_;refine cm hm (fun hm=>?_) fun hm=>?_
 · exact E
 refine W ?_;refine bU (.agg [.v (.int .i64 (if v_3<u_2 then v_3 else u_2)),.v (.int .i64 (if u_2<v_3 then v_3 else u_2)),vi 0]) ?_;refine W ?_;refine lp (fun m s=> ∃l_1 eW kV,s=⟨75,(aE (aE (aE fa 1 (vl aO l_1)) 12 (.adr 1 0)) 13 (vi kV)),⟨(upd aZ 1 (.cells 1 [vi eW.U,vi eW.V,vi eW.Tier] 0)),64⟩⟩∧yV m l_1 eW kV=some r) (Lr (fun j=>bif j==1 then 327 else 0)) ?_;rintro n1 s ⟨l_1,eW,kV,rfl,hm⟩;obtain ⟨x11,h10,hm⟩:=bnd hm;obtain ⟨r13,h12,hm⟩:=bnd hm;refine W ?_;refine cg (fun hb=>aR2 (gN h12 hb)) ?_;refine W ?_;refine cm hm (fun hm=>?_) fun hm=>?_
 · refine W ?_;exact Lr (fun j=>bif j==1 then 1 else 0)
 obtain ⟨l15,h14,hm⟩:=bnd hm
 iterate 10 refine S1 ?_
 refine aW.pop Zd (aH8 (ps:=[(0,.agg [.v (.int .i64 eW.U),.v (.int .i64 eW.V),.v (.int .i64 eW.Tier)])]) (by simp only [go_sem,Nat.reduceBEq];try rfl) (aDt (.agg _ (bT.dat eW)) aVb)) (aRb bT (l:=[eW]) (xs:=[.v (.int .i64 eW.U),.v (.int .i64 eW.V),.v (.int .i64 eW.Tier)]) underlying28 aM7 aXd Zd Zd Zd (ps:=[(0,.agg [.v (.int .i64 eW.U),.v (.int .i64 eW.V),.v (.int .i64 eW.Tier)])]) (by simp only [go_sem,Nat.reduceBEq];try rfl) (by kernel_rfl) (fun H=>(.cons (.data _ (.v _)) (.cons (.data _ (.v _)) (.cons (.data _ (.v _)) .nil))))) rfl ?_;obtain ⟨l17,h16,hm⟩:=bnd hm
 iterate 3 refine S1 ?_
 refine aW.pop Zd (aH8 (ps:=[(0,.sl (l15.flatMap aO) l15.length (false&&(kV:Int).toNat==l_1.length)),(1,.sl (([eW]).flatMap aO) ([eW]).length false),(2,.sl (l17.flatMap aO) l17.length (false&&((l_1.length:Int):Int).toNat==l_1.length))]) (by simp only [go_sem,Nat.reduceBEq];try rfl) (aDt (bT.sl _ _ _) (aDt (bT.sl _ _ _) (aDt (bT.sl _ _ _) aVb)))) (aRb (CFl bT) (l:=[l15,[eW],l17]) (xs:=[.sl (l15.flatMap aO) l15.length (false&&(kV:Int).toNat==l_1.length),.sl (([eW]).flatMap aO) ([eW]).length false,.sl (l17.flatMap aO) l17.length (false&&((l_1.length:Int):Int).toNat==l_1.length)]) underlying249 bQ4 bTj Zd Zd Zd (ps:=[(0,.sl (l15.flatMap aO) l15.length (false&&(kV:Int).toNat==l_1.length)),(1,.sl (([eW]).flatMap aO) ([eW]).length false),(2,.sl (l17.flatMap aO) l17.length (false&&((l_1.length:Int):Int).toNat==l_1.length))]) (by simp only [go_sem,Nat.reduceBEq];try rfl) (by kernel_rfl) (fun H=>(.cons (tdf rfl (bT.sl _ _ _)) (.cons (.data _ (bT.sl _ _ _)) (.cons (tdf rfl (bT.sl _ _ _)) .nil))))) rfl ?_;obtain ⟨r19,h18,hm⟩:=bnd hm;refine cq (tO h18) ?_;exact E
instance:Ct prog 102 (K4 prog vi (vl aO) vi vi (t2 (vl aO) vi) 102 aBq):=⟨fun hm=>bCz hm⟩
abbrev aAb(rec1:Int→List Int→List aD→Int→Int→Option ((List Int)))(v_2:Int)(aCy:List Int)(t20:List aD)(t21:Int)(t22:Int):Option ((List Int)):=
 rec1 v_2 aCy t20 t21 (IntKind.i64.wrap (t22+1))
def aFy(rec1:Int→List Int→List aD→Int→Int→Option ((List Int)))(v_2:Int)(aCy:List Int)(t20:List aD)(t21:Int)(t22:Int):Option ((List Int)):=
 (bif (decide (t22<t21)) then
  ((idx t20 t22).bind fun x6=>
  (bif (v_2==x6.U) then
   ((app aCy [x6.V]).bind fun l8=>
   aAb rec1 v_2 l8 t20 t21 t22)
  else
   (bif (v_2==x6.V) then
    ((app aCy [x6.U]).bind fun l10=>
    aAb rec1 v_2 l10 t20 t21 t22)
   else
    aAb rec1 v_2 aCy t20 t21 t22)))
 else
  some aCy)
def vW:Nat→Int→List Int→List aD→Int→Int→Option ((List Int))
 |0=>fun _ _ _ _ _=>none
 |n+1=>aFy (vW n)
def aCo(n_0:Int)(l_1:List aD)(v_2:Int):Option ((List Int)):=
 ((iN n_0 l_1).bind fun r2=>
 ((fX ((!r2)==false) false (fU n_0 v_2)).bind fun r4=>
 (bif ((!r2)||(!r4)) then
  some []
 else
  vW bC v_2 [] l_1 (l_1.length:Int) 0)))
theorem aZr:K3 prog vi (vl aO) vi (vl (ci .i64)) 122 aCo:=by
 intro n_0 l_1 v_2 r hm
 let I1:=((fun m s=> ∃v_2 aCy t20 t21 t22,s=⟨47,(aE (aE (aE (aE (aE fa 2 (vi v_2)) 7 (.own 1 0 aCy.length)) 20 (vl aO t20)) 21 (vi t21)) 22 (vi t22)),⟨(upd aZ 1 (.cells 1 (aCy.flatMap (ci .i64)) 0)),64⟩⟩∧vW m v_2 aCy t20 t21 t22=some r):Nat→St→Prop)
 exact be 47 func122 (h:=G)
instance:Ct prog 122 (K3 prog vi (vl aO) vi (vl (ci .i64)) 122 aCo):=⟨aZr⟩
def rL(g_0:aF)(dX:Int)(v_2:Int):Option ((List Int)):=
 ((eC g_0).bind fun r2=>
 (bif (((((!r2)||(decide (dX<0)))||(decide (g_0.Config.L<dX)))||(decide (v_2<0)))||(decide (g_0.Config.N≤v_2))) then
  some []
 else
  ((nR g_0 dX v_2).bind fun r4=>
  some r4)))
theorem aWs:K3 prog cX vi vi (vl (ci .i64)) 173 rL:=fun hm=>be 36 func173 (h:=G)
instance:Ct prog 173 (K3 prog cX vi vi (vl (ci .i64)) 173 rL):=⟨aWs⟩
abbrev wU(rec1:aD→aD→List aD→Int→Int→Option (aD×Bool))(t2:aD)(iJ:aD)(t15:List aD)(t16:Int)(t17:Int):Option (aD×Bool):=
 rec1 t2 iJ t15 t16 (IntKind.i64.wrap (t17+1))
def wT(rec1:aD→aD→List aD→Int→Int→Option (aD×Bool))(t2:aD)(iJ:aD)(t15:List aD)(t16:Int)(t17:Int):Option (aD×Bool):=
 (bif (decide (t17<t16)) then
  ((idx t15 t17).bind fun x6=>
  ((fX (((decide (iJ.Tier<x6.Tier))==false)&&((x6.Tier==iJ.Tier)==true)) false (tL iJ x6)).bind fun r8=>
  (bif ((decide (iJ.Tier<x6.Tier))||((x6.Tier==iJ.Tier)&&r8)) then
   wU rec1 t2 x6 t15 t16 t17
  else
   wU rec1 t2 iJ t15 t16 t17)))
 else
  some (iJ,true))
def lV:Nat→aD→aD→List aD→Int→Int→Option (aD×Bool)
 |0=>fun _ _ _ _ _=>none
 |n+1=>wT (lV n)
def kK(l_0:List aD):Option (aD×Bool):=
 (bif ((l_0.length:Int)==0) then
  some ((aD.mk 0 0 0),false)
 else
  ((idx l_0 0).bind fun x2=>
  ((slc l_0 1 (l_0.length:Int)).bind fun l4=>
  lV bC (aD.mk 0 0 0) x2 l4 (l4.length:Int) 0)))
theorem aP5:K1 prog (vl aO) (t2 aBx vb) 175 kK:=by
 intro l_0 r hm
 let I1:=((fun m s=> ∃t2 iJ t15 t16 t17,s=⟨41,(aE (aE (aE (aE (aE fa 2 (.adr 1 0)) 4 (.adr 2 0)) 15 (vl aO t15)) 16 (vi t16)) 17 (vi t17)),⟨(upd (upd aZ 1 (.cells 1 [vi t2.U,vi t2.V,vi t2.Tier] 0)) 2 (.cells 1 [vi iJ.U,vi iJ.V,vi iJ.Tier] 0)),64⟩⟩∧lV m t2 iJ t15 t16 t17=some r):Nat→St→Prop)
 exact be 41 func175 (h:=G)
instance:Ct prog 175 (K1 prog (vl aO) (t2 aBx vb) 175 kK):=⟨aP5⟩
def kX(l:List aD):Option (List aD):=app [] l
theorem aK0{r:List aD}(hm:some []=some r):eE prog 223 [.v (.slice none 0 0)] 3 (r.flatMap aO) r.length:=by
 refine eE.of_body func223 rfl (bT.fmdat r) ?_;simp only [ntmps223,List.length_cons,List.length_nil,Nat.reduceAdd,Nat.reduceSub,gD];refine sN 64 (pA ?_);refine fs (AWp.seq' (sN 128 (pA ?_)));refine pu rfl (yZ Z1 Z1 (aKf underlying28)) ?_;refine fs (AWp.condT Z1 ?_);refine sN 192 (pA ?_);refine fs (AWp.weaken (rQ 2 900002 3 Z1 Z5) ?_);refine AWp.ret (hZ ?_);cases hm;exact aLp (.inr rfl) Tryz.results223 Z1 Z3 Z6
theorem aK1{a:Addr}{c:Nat}{r:List aD}(hm:((app [] []).bind fun l2=>
some l2)=some r):eE prog 223 [.v (.slice (some a) 0 c)] 3 (r.flatMap aO) r.length:=by
 refine eE.of_body func223 rfl (bT.fmdat r) ?_;simp only [ntmps223,List.length_cons,List.length_nil,Nat.reduceAdd,Nat.reduceSub,gD];refine sN 64 (pA ?_);refine fs (AWp.seq' (sN 128 (pA ?_)));refine pu rfl (yZ Z1 Z1 (aI3 underlying28)) ?_;refine fs (AWp.condF Z1 ?_);refine AWp.skip (bJ (sN 192 (hp (id:=128) rfl rfl (iT bT (l:=[]) underlying28 aM7 aXd Z5 Zd Zd Zd (by simp only [go_sem,Nat.reduceBEq];try rfl) (by kernel_rfl)) ?_)));refine pA ?_;obtain ⟨l2,h1,hm⟩:=bnd hm;refine hp (id:=130) rfl rfl (tH bT underlying28 underlying28 rfl bKs bMe (by rw [aT7];decide) (by rw [aT7];decide) bMf Zd Zd Z1 Z3 Z6 (aPl Z1) rfl Z5 h1) ?_;refine pA ?_;refine fs (AWp.ret ?_);cases hm;exact aLp (.inr rfl) Tryz.results223 Z1 Z3 Z6
theorem aK2{x0:aD}{l0:List aD}{r:List aD}(hm:((app [] (x0::l0)).bind fun l2=>
some l2)=some r):eE prog 223 [.sl ((x0::l0).flatMap aO) (x0::l0).length false] 3 (r.flatMap aO) r.length:=by
 refine eE.of_body func223 rfl (bT.fmdat r) ?_;simp only [ntmps223,List.length_cons,List.length_nil,Nat.reduceAdd,Nat.reduceSub,gD];refine sN 64 (pA ?_);refine fs (AWp.seq' (sN 128 (pA ?_)));refine pu rfl (yZ Z1 Z1 (aI2 underlying28 (by simp))) ?_;refine fs (AWp.condF Z1 ?_);refine AWp.skip (bJ (sN 192 (hp (id:=128) rfl rfl (iT bT (l:=[]) underlying28 aM7 aXd Z5 Zd Zd Zd (by simp only [go_sem,Nat.reduceBEq];try rfl) (by kernel_rfl)) ?_)));refine pA ?_;obtain ⟨l2,h1,hm⟩:=bnd hm;refine hp (id:=130) rfl rfl (tH bT underlying28 underlying28 rfl bKs bMe (by rw [aT7];decide) (by rw [aT7];decide) bMf Zd Zd Z1 Z3 Z6 (aTj bT Z1 rfl) rfl Z5 h1) ?_;refine pA ?_;refine fs (AWp.ret ?_);cases hm;exact aLp (.inr rfl) Tryz.results223 Z1 Z3 Z6
theorem aM0{l r:List aD}(hm:kX l=some r):eE prog 223 [.sl (l.flatMap aO) l.length false] 3 (r.flatMap aO) r.length:=by
 cases l with
 |nil=>
  have hr:r=[]:=by unfold kX app at hm;simpa using hm.symm
  subst hr;exact eE.nil_arg (aK0 (r:=[]) rfl) (fun a c=>aK1 (r:=[]) rfl)
 |cons x0 l0=>
  refine aK2 ?_;show (app [] (x0::l0)).bind _=_;unfold kX at hm;rw [hm];rfl
def xI(n_0:Int)(l_1:List aD)(u_2:Int)(v_3:Int)(jO:Int):Option ((List aD)×Int):=
 ((iN n_0 l_1).bind fun r2=>
 ((fX ((!r2)==false) false (fU n_0 u_2)).bind fun r4=>
 ((fX (((!r2)||(!r4))==false) false (fU n_0 v_3)).bind fun r6=>
 ((fX ((((!r2)||(!r4))||(!r6))==false) false (oA jO)).bind fun r8=>
 (bif ((((!r2)||(!r4))||(!r6))||(!r8)) then
  some (l_1,1)
 else
  ((mV l_1 u_2 v_3).bind fun ⟨r10,r11⟩=>
  (bif (!r11) then
   some (l_1,9)
  else
   ((kX l_1).bind fun r13=>
   ((idx r13 r10).bind fun x15=>
   ((stt r13 r10 (aD.mk x15.U x15.V jO)).bind fun l17=>
   some (l17,0)))))))))))
theorem bD0{n_0:Int}{l_1:List aD}{u_2:Int}{v_3:Int}{jO:Int}{r:(List aD)×Int}(hm:xI n_0 l_1 u_2 v_3 jO=some r):bO prog 176 [vi n_0,vl aO l_1,vi u_2,vi v_3,vi jO] (.tup [vl aO r.1,vi r.2]):=by
 refine bd 55 func176 ?_;obtain ⟨r2,h1,hm⟩:=bnd hm;refine W ?_;refine cq (aAc h1) ?_;obtain ⟨r4,h3,hm⟩:=bnd hm;refine W ?_;refine cg (fun hb=>lP (gN h3 hb)) ?_;obtain ⟨r6,h5,hm⟩:=bnd hm;refine W ?_;refine cg (fun hb=>lP (gN h5 hb)) ?_;obtain ⟨r8,h7,hm⟩:=bnd hm;refine W ?_;refine cg (fun hb=>aJ5 (gN h7 hb)) ?_;refine W ?_;refine cm hm (fun hm=>?_) fun hm=>?_
 · exact E
 refine W ?_;obtain ⟨⟨r10,r11⟩,h9,hm⟩:=bnd hm;refine cq (aF6 h9) ?_;refine W ?_;refine cm hm (fun hm=>?_) fun hm=>?_
 · exact E
 obtain ⟨r13,h12,hm⟩:=bnd hm;refine W ?_;refine aW.callF (id:=257) Zd Z1 bUq (fun H=>(cD (bT.sl _ _ _) .nil)) bT Z5 (aM0 h12) ?_;obtain ⟨x15,h14,hm⟩:=bnd hm;obtain ⟨l17,h16,hm⟩:=bnd hm;refine W ?_;have qh16:=lF h16;refine aW.heap0 (id:=325) rfl (bMz bT (off:=2) (y:=x15) (y':=(aD.mk x15.U x15.V jO)) (cs:=[.v (.int .i64 jO)]) sz3 Z1 Z1 Z3 rfl h14 rfl Zd Z9 rfl h16) ?_;exact E
instance:Ct prog 176 (K5 prog vi (vl aO) vi vi vi (t2 (vl aO) vi) 176 xI):=⟨fun hm=>bD0 hm⟩
def sC(n_0:Int)(v_1:Int):Option (Bool):=
 some ((decide (0≤v_1))&&(decide (v_1<n_0)))
theorem aCv:K2 prog vi vi vb 220 sC:=fun hm=>be 12 func220 (h:=G)
instance:Ct prog 220 (K2 prog vi vi vb 220 sC):=⟨aCv⟩
attribute [local semireducible] bC
end Go.Proofs.YtkdohhmacfoolaaGreatDoor
