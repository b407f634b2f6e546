/- Facts. No condition. -/
import Derived.Test.YtkdohhmacfoolaaGreatDoorPgGA1
set_option linter.unusedVariables false
set_option linter.unusedSimpArgs false
set_option maxRecDepth 20000
set_option maxHeartbeats 4000000
namespace Go.Proofs.YtkdohhmacfoolaaGreatDoor
open Go.Proofs.Tryz Go Go.AM
attribute [local irreducible] aY
structure aT where
 R:Int
 V:Int
 Words:List Int
deriving DecidableEq
def yX(e:aT):List AV:=[.v (.int .i64 e.R),.v (.int .i64 e.V),.sl (e.Words.flatMap (ci .u64)) e.Words.length false]
theorem aQh:CF yX 3:=⟨fun _=>rfl,fun a x hx=>by
 simp only [yX,List.mem_cons,List.not_mem_nil,or_false] at hx;rcases hx with rfl|rfl|rfl
 · exact (.v _)
 · exact (.v _)
 · exact ((CFi .u64).sl _ _ _),fun _=>rfl⟩
instance:CC yX 3:=⟨aQh⟩
abbrev jN(e:aT):AV:= .agg [.v (.int .i64 e.R),vi e.V,vl (ci .u64) e.Words]
@[go_sem] theorem aLe(e:aT)(r:List AV):yX e++r= .v (.int .i64 e.R):: .v (.int .i64 e.V):: .sl (e.Words.flatMap (ci .u64)) e.Words.length false::r:=rfl
theorem bNc(x0 y0 x1 y1 x2 y2:Int):iI prog .eql 23 (.agg [.v (.int .i64 x0),.v (.int .i64 x1),.v (.int .i64 x2)]) (.agg [.v (.int .i64 y0),.v (.int .i64 y1),.v (.int .i64 y2)])=some (.v (.bool ((x0==y0)&&((x1==y1)&&(x2==y2))))):=
 (by kernel_rfl:iI prog .eql 23 (.agg [.v (.int .i64 x0),.v (.int .i64 x1),.v (.int .i64 x2)]) (.agg [.v (.int .i64 y0),.v (.int .i64 y1),.v (.int .i64 y2)])=some (.v (.bool ((x0==y0)&&((x1==y1)&&((x2==y2)&&true)))))).trans (by rw [Bool.and_true])
theorem bP8(x0 y0 x1 y1 x2 y2:Int):iI prog .neq 23 (.agg [.v (.int .i64 x0),.v (.int .i64 x1),.v (.int .i64 x2)]) (.agg [.v (.int .i64 y0),.v (.int .i64 y1),.v (.int .i64 y2)])=some (.v (.bool (!((x0==y0)&&((x1==y1)&&(x2==y2)))))):=
 (by kernel_rfl:iI prog .neq 23 (.agg [.v (.int .i64 x0),.v (.int .i64 x1),.v (.int .i64 x2)]) (.agg [.v (.int .i64 y0),.v (.int .i64 y1),.v (.int .i64 y2)])=some (.v (.bool (!((x0==y0)&&((x1==y1)&&((x2==y2)&&true))))))).trans (by rw [Bool.and_true])
attribute [go_sem] bNc bP8
theorem bNe(x0 y0 x1 y1:Int):iI prog .eql 94 (.agg [.v (.int .u64 x0),.v (.int .u64 x1)]) (.agg [.v (.int .u64 y0),.v (.int .u64 y1)])=some (.v (.bool ((x0==y0)&&(x1==y1)))):=
 (by kernel_rfl:iI prog .eql 94 (.agg [.v (.int .u64 x0),.v (.int .u64 x1)]) (.agg [.v (.int .u64 y0),.v (.int .u64 y1)])=some (.v (.bool ((x0==y0)&&((x1==y1)&&true))))).trans (by rw [Bool.and_true])
theorem bPa(x0 y0 x1 y1:Int):iI prog .neq 94 (.agg [.v (.int .u64 x0),.v (.int .u64 x1)]) (.agg [.v (.int .u64 y0),.v (.int .u64 y1)])=some (.v (.bool (!((x0==y0)&&(x1==y1))))):=
 (by kernel_rfl:iI prog .neq 94 (.agg [.v (.int .u64 x0),.v (.int .u64 x1)]) (.agg [.v (.int .u64 y0),.v (.int .u64 y1)])=some (.v (.bool (!((x0==y0)&&((x1==y1)&&true)))))).trans (by rw [Bool.and_true])
attribute [go_sem] bNe bPa
@[go_sem] theorem bE2(i o:Nat):aI prog 215 (.adr i o) 0=some (.adr i (o+0)):=by kernel_rfl
@[go_sem] theorem bE3(i o:Nat):aI prog 215 (.adr i o) 1=some (.adr i (o+1)):=by kernel_rfl
@[go_sem] theorem bE4(i o:Nat):aI prog 215 (.adr i o) 2=some (.adr i (o+2)):=by kernel_rfl
@[go_sem] theorem bIh(i o:Nat):aI prog 23 (.adr i o) 0=some (.adr i (o+0)):=by kernel_rfl
@[go_sem] theorem bIo(i o:Nat):aI prog 23 (.adr i o) 1=some (.adr i (o+1)):=by kernel_rfl
@[go_sem] theorem bIu(i o:Nat):aI prog 23 (.adr i o) 2=some (.adr i (o+2)):=by kernel_rfl
@[go_sem] theorem bJ0(i o:Nat):aI prog 30 (.adr i o) 0=some (.adr i (o+0)):=by kernel_rfl
@[go_sem] theorem bJ6(i o:Nat):aI prog 30 (.adr i o) 1=some (.adr i (o+3)):=by kernel_rfl
@[go_sem] theorem bJa(i o:Nat):aI prog 30 (.adr i o) 2=some (.adr i (o+4)):=by kernel_rfl
@[go_sem] theorem bJx(i o:Nat):aI prog 61 (.adr i o) 0=some (.adr i (o+0)):=by kernel_rfl
@[go_sem] theorem bK3(i o:Nat):aI prog 61 (.adr i o) 1=some (.adr i (o+1)):=by kernel_rfl
@[go_sem] theorem bK9(i o:Nat):aI prog 61 (.adr i o) 2=some (.adr i (o+2)):=by kernel_rfl
@[go_sem] theorem bKj(i o:Nat):aI prog 94 (.adr i o) 0=some (.adr i (o+0)):=by kernel_rfl
@[go_sem] theorem bKm(i o:Nat):aI prog 94 (.adr i o) 1=some (.adr i (o+1)):=by kernel_rfl
@[go_sem] theorem bOi(H:aH)(x0 x1 x2:AV)(xs:List AV):bT prog H 215 (.ptr (x0::x1::x2::xs))=some (.agg [x0,x1,x2]):=by kernel_rfl
@[go_sem] theorem bSh(H:aH)(x0 x1 x2:AV)(xs:List AV):bT prog H 23 (.ptr (x0::x1::x2::xs))=some (.agg [x0,x1,x2]):=by kernel_rfl
@[go_sem] theorem bSl(H:aH)(x:AV)(xs:List AV):bT prog H 24 (.ptr (x::xs))=some x:=by kernel_rfl
@[go_sem] theorem bSo(H:aH)(x:AV)(xs:List AV):bT prog H 27 (.ptr (x::xs))=some x:=by kernel_rfl
@[go_sem] theorem bSs(H:aH)(x:AV)(xs:List AV):bT prog H 28 (.ptr (x::xs))=some x:=by kernel_rfl
@[go_sem] theorem bX3(H:aH)(x:AV)(xs:List AV):bT prog H 3 (.ptr (x::xs))=some x:=by kernel_rfl
@[go_sem] theorem bSy(H:aH)(x0 x1 x2 x3 x4:AV)(xs:List AV):bT prog H 30 (.ptr (x0::x1::x2::x3::x4::xs))=some (.agg [x0,x1,x2,x3,x4]):=by kernel_rfl
@[go_sem] theorem bXb(H:aH)(x:AV)(xs:List AV):bT prog H 4 (.ptr (x::xs))=some x:=by kernel_rfl
@[go_sem] theorem bTh(H:aH)(x:AV)(xs:List AV):bT prog H 40 (.ptr (x::xs))=some x:=by kernel_rfl
@[go_sem] theorem bTp(H:aH)(x0 x1 x2:AV)(xs:List AV):bT prog H 61 (.ptr (x0::x1::x2::xs))=some (.agg [x0,x1,x2]):=by kernel_rfl
@[go_sem] theorem bTz(H:aH)(x0 x1:AV)(xs:List AV):bT prog H 94 (.ptr (x0::x1::xs))=some (.agg [x0,x1]):=by kernel_rfl
@[go_sem] theorem bHw(H:aH)(k:IntKind)(n:Int):mU prog H 3 40 (.v (.int k n))=some (.v (.int .u64 (IntKind.u64.wrap n))):=gK underlying3 underlying40
@[go_sem] theorem bDe(H:aH)(k:IntKind)(n:Int):mU prog H 3 162 (.v (.int k n))=some (.v (.int .u64 (IntKind.u64.wrap n))):=gK underlying3 underlying162
@[go_sem] theorem bN5(H:aH)(k:IntKind)(n:Int):mU prog H 5 3 (.v (.int k n))=some (.v (.int .i64 (IntKind.i64.wrap n))):=gK underlying5 underlying3
@[go_sem] theorem bHz(H:aH)(k:IntKind)(n:Int):mU prog H 40 3 (.v (.int k n))=some (.v (.int .i64 (IntKind.i64.wrap n))):=gK underlying40 underlying3
@[go_sem] theorem bDc(H:aH)(k:IntKind)(n:Int):mU prog H 277 5 (.v (.int k n))=some (.v (.int .u8 (IntKind.u8.wrap n))):=gK underlying277 underlying5
abbrev aGy(rec1:List Bool→List aE→List aE→Int→Int→Option ((List aE)))(aC3:List Bool)(jZ:List aE)(t8:List aE)(t9:Int)(t10:Int):Option ((List aE)):=
 rec1 aC3 jZ t8 t9 (IntKind.i64.wrap (t10+1))
def aGx(rec1:List Bool→List aE→List aE→Int→Int→Option ((List aE)))(aC3:List Bool)(jZ:List aE)(t8:List aE)(t9:Int)(t10:Int):Option ((List aE)):=
 (bif (decide (t10<t9)) then
  ((idx t8 t10).bind fun x2=>
  ((idx aC3 x2.U).bind fun x4=>
  ((idx aC3 x2.V).bind fun x6=>
  (bif (!(x4==x6)) then
   ((app jZ [x2]).bind fun l8=>
   aGy rec1 aC3 l8 t8 t9 t10)
  else
   aGy rec1 aC3 jZ t8 t9 t10))))
 else
  some jZ)
def zC:Nat→List Bool→List aE→List aE→Int→Int→Option ((List aE))
 |0=>fun _ _ _ _ _=>none
 |n+1=>aGx (zC n)
def aEo(l_0:List aE)(aC3:List Bool):Option ((List aE)):=
 zC aY aC3 [] l_0 (l_0.length:Int) 0
theorem aPr:K2 prog (vl aV) (vl aPo) (vl aV) 214 aEo:=by
 intro l_0 aC3 r hm
 let I1:=((fun m s=> ∃aC3 jZ t8 t9 t10,s=⟨31,(aF (aF (aF (aF (aF fa 1 (vl aPo aC3)) 5 (.own 1 0 jZ.length)) 8 (vl aV t8)) 9 (vi t9)) 10 (vi t10)),⟨(upd aZ 1 (.cells 3 (jZ.flatMap aV) 0)),64⟩⟩∧zC m aC3 jZ t8 t9 t10=some r):Nat→St→Prop)
 exact be 31 func214 (h:=G)
instance:Ct prog 214 (K2 prog (vl aV) (vl aPo) (vl aV) 214 aEo):=⟨aPr⟩
def aOf(rec1:List aE→List Bool→List Int→Int→Int→Option ((List aE)×Int))(l_1:List aE)(bAd:List Bool)(t18:List Int)(t19:Int)(t20:Int):Option ((List aE)×Int):=
 (bif (decide (t20<t19)) then
  ((idx t18 t20).bind fun x6=>
  ((idx bAd x6).bind fun x8=>
  ((stt bAd x6 true).bind fun l10=>
  rec1 l_1 l10 t18 t19 (IntKind.i64.wrap (t20+1)))))
 else
  ((aEo l_1 bAd).bind fun r12=>
  some (r12,0)))
def aFz:Nat→List aE→List Bool→List Int→Int→Int→Option ((List aE)×Int)
 |0=>fun _ _ _ _ _=>none
 |n+1=>aOf (aFz n)
def aIh(n_0:Int)(l_1:List aE)(aL0:List Int):Option ((List aE)×Int):=
 ((aK5 n_0 l_1 aL0).bind fun r2=>
 (bif (!r2) then
  some ([],1)
 else
  ((mkc n_0 n_0 false).bind fun l4=>
  aFz aY l_1 l4 aL0 (aL0.length:Int) 0)))
theorem bMz{n_0:Int}{l_1:List aE}{aL0:List Int}{r:(List aE)×Int}(hm:aIh n_0 l_1 aL0=some r):cE prog 164 [vi n_0,vl aV l_1,vl (ci .i64) aL0] (.tup [vl aV r.1,vi r.2]):=by
 refine bd 31 func164 ?_;obtain ⟨r2,h1,hm⟩:=bnd hm;refine W ?_;refine cq (aVm h1) ?_;refine W ?_;refine cm hm (fun hm=>?_) fun hm=>?_
 · exact E
 obtain ⟨l4,h3,hm⟩:=bnd hm;refine W ?_;refine aK CFb h3 ?_;refine W ?_;refine lp (fun m s=> ∃l_1 bAd t18 t19 t20,s=⟨31,(aF (aF (aF (aF (aF fa 1 (vl aV l_1)) 8 (.own 1 0 bAd.length)) 18 (vl (ci .i64) t18)) 19 (vi t19)) 20 (vi t20)),⟨(upd aZ 1 (.cells 1 (bAd.flatMap aPo) 0)),64⟩⟩∧aFz m l_1 bAd t18 t19 t20=some r) (Lr (fun j=>bif j==1 then 129 else 0)) ?_;rintro n1 s ⟨l_1,bAd,t18,t19,t20,rfl,hm⟩;refine W ?_;refine cm hm (fun hm=>?_) fun hm=>?_
 · obtain ⟨x6,h5,hm⟩:=bnd hm;obtain ⟨x8,h7,hm⟩:=bnd hm;obtain ⟨l10,h9,hm⟩:=bnd hm;refine W ?_;have qh9:=nG h9;refine aS h9 ?_;refine W ?_;exact Lr (fun j=>bif j==1 then 1 else 0)
 iterate 5 refine S1 ?_
 refine AWp.seq' ?_;refine AWp.weaken (aK9 CFb 8 1 Z1 Z3 Z6) ?_;obtain ⟨r12,h11,hm⟩:=bnd hm;refine W ?_;refine cq (aPr h11) ?_;exact E
instance:Ct prog 164 (K3 prog vi (vl aV) (vl (ci .i64)) (t2 (vl aV) vi) 164 aIh):=⟨fun hm=>bMz hm⟩
def wB(g_0:aJ)(jX:Int)(v_2:Int):Option ((List aE)):=
 ((rT g_0 jX v_2).bind fun r2=>
 ((aIh g_0.Config.N g_0.Edges r2).bind fun ⟨r4,r5⟩=>
 some r4))
theorem aUp:K3 prog dX vi vi (vl aV) 137 wB:=fun hm=>be 23 func137 (h:=G)
instance:Ct prog 137 (K3 prog dX vi vi (vl aV) 137 wB):=⟨aUp⟩
def xU(x_0:Int):Option (Int):=
 ((aEk x_0).bind fun r2=>
 some r2)
theorem aV9{x_0:Int}{r:Int}(hm:xU x_0=some r):cE prog 160 [vu x_0] (vi r):=by
 refine bd 8 func160 ?_;refine W ?_;refine AWp.condF Z1 ?_;obtain ⟨r2,h1,hm⟩:=bnd hm;refine W ?_;refine cq (aPm h1) ?_;exact E
instance:Ct prog 160 (K1 prog vu vi 160 xU):=⟨fun hm=>aV9 hm⟩
def vV(n_0:Int):Option (Int):=
 (bif (decide (n_0<1)) then
  some 0
 else
  ((xU (IntKind.u64.wrap (IntKind.i64.wrap (n_0-1)))).bind fun r2=>
  some (IntKind.i64.wrap ((IntKind.i64.wrap (2*r2))+2))))
theorem aUh:K1 prog vi vi 168 vV:=fun hm=>be 11 func168 (h:=G)
instance:Ct prog 168 (K1 prog vi vi 168 vV):=⟨aUh⟩
def oK(r_0:Int)(v_1:Int):Option (Bool):=
 some ((((decide (1≤r_0))&&(decide (r_0≤8)))&&(decide (1≤v_1)))&&(decide (v_1≤61)))
theorem aUu:K2 prog vi vi vb 216 oK:=fun hm=>be 19 func216 (h:=G)
instance:Ct prog 216 (K2 prog vi vi vb 216 oK):=⟨aUu⟩
def aF3(r_0:Int)(v_1:Int):Option (aT×Int):=
 ((oK r_0 v_1).bind fun r2=>
 (bif (!r2) then
  some ((aT.mk 0 0 []),1)
 else
  ((mkc (IntKind.i64.wrap (r_0*v_1)) (IntKind.i64.wrap (r_0*v_1)) 0).bind fun l4=>
  some ((aT.mk r_0 v_1 l4),0))))
theorem bBs:K2 prog vi vi (t2 jN vi) 167 aF3:=fun hm=>be 18 func167 (h:=G)
instance:Ct prog 167 (K2 prog vi vi (t2 jN vi) 167 aF3):=⟨bBs⟩
def rE(g_0:aJ)(jX:Int):Option ((List cI)):=
 ((slc g_0.Hashes (IntKind.i64.wrap (jX*g_0.Config.R)) (IntKind.i64.wrap ((IntKind.i64.wrap (jX*g_0.Config.R))+g_0.Config.R))).bind fun l2=>
 ((iP l2).bind fun r4=>
 some r4))
theorem aR0:K2 prog dX vi (vl cH) 169 rE:=fun hm=>be 21 func169 (h:=G)
instance:Ct prog 169 (K2 prog dX vi (vl cH) 169 rE):=⟨aR0⟩
def zR(v_0:Int):Option (Bool):=
 some ((decide (0≤v_0))&&(decide (v_0<16777216)))
theorem aY1:K1 prog vi vb 246 zR:=fun hm=>be 9 func246 (h:=G)
instance:Ct prog 246 (K1 prog vi vb 246 zR):=⟨aY1⟩
def aJ5(u_0:Int)(v_1:Int):Option (Int×Int):=
 ((zR u_0).bind fun r2=>
 ((eJ ((!r2)==false) false (zR v_1)).bind fun r4=>
 (bif ((!r2)||(!r4)) then
  some (0,1)
 else
  (bif (u_0==v_1) then
   some (0,8)
  else
   some ((IntKind.u64.wrap ((IntKind.u64.wrap ((IntKind.u64.wrap (if v_1<u_0 then v_1 else u_0))*16777216))+(IntKind.u64.wrap (if u_0<v_1 then v_1 else u_0)))),0)))))
theorem bP0:K2 prog vi vi (t2 vu vi) 217 aJ5:=fun hm=>be 27 func217 (h:=G)
instance:Ct prog 217 (K2 prog vi vi (t2 vu vi) 217 aJ5):=⟨bP0⟩
abbrev aPq(rec1:List Int→List aE→Int→Int→Option ((List Int)))(lI:List Int)(t8:List aE)(t9:Int)(t10:Int):Option ((List Int)):=
 rec1 lI t8 t9 (IntKind.i64.wrap (t10+1))
abbrev aIj(rec1:List Int→List aE→Int→Int→Option ((List Int)))(lI:List Int)(cJi:Int)(t8:List aE)(t9:Int)(t10:Int):Option ((List Int)):=
 ((app lI [cJi]).bind fun l7=>
 aPq rec1 l7 t8 t9 t10)
def aIi(rec1:List Int→List aE→Int→Int→Option ((List Int)))(lI:List Int)(t8:List aE)(t9:Int)(t10:Int):Option ((List Int)):=
 (bif (decide (t10<t9)) then
  ((idx t8 t10).bind fun x2=>
  ((aJ5 x2.U x2.V).bind fun ⟨r4,r5⟩=>
  (bif (r5 !=0) then
   aIj rec1 lI 0 t8 t9 t10
  else
   aIj rec1 lI r4 t8 t9 t10)))
 else
  some lI)
def aBa:Nat→List Int→List aE→Int→Int→Option ((List Int))
 |0=>fun _ _ _ _=>none
 |n+1=>aIi (aBa n)
def aDf(l_0:List aE):Option ((List Int)):=
 aBa aY [] l_0 (l_0.length:Int) 0
theorem bD9:K1 prog (vl aV) (vl (ci .u64)) 170 aDf:=by
 intro l_0 r hm
 let I1:=((fun m s=> ∃lI t8 t9 t10,s=⟨30,(aF (aF (aF (aF fa 3 (.own 1 0 lI.length)) 8 (vl aV t8)) 9 (vi t9)) 10 (vi t10)),⟨(upd aZ 1 (.cells 1 (lI.flatMap (ci .u64)) 0)),64⟩⟩∧aBa m lI t8 t9 t10=some r):Nat→St→Prop)
 exact be 30 func170 (h:=G)
instance:Ct prog 170 (K1 prog (vl aV) (vl (ci .u64)) 170 aDf):=⟨bD9⟩
def rV(s_0:aT):Option (Bool):=
 ((oK s_0.R s_0.V).bind fun r2=>
 some (r2&&((s_0.Words.length:Int)==(IntKind.i64.wrap (s_0.R*s_0.V)))))
theorem aL2:K1 prog jN vb 166 rV:=fun hm=>be 19 func166 (h:=G)
instance:Ct prog 166 (K1 prog jN vb 166 rV):=⟨aL2⟩
def mB(l:List Int):Option (List Int):=app [] l
theorem aJo{r:List Int}(hm:some []=some r):fP prog 218 [.v (.slice none 0 0)] 1 (r.flatMap (ci .u64)) r.length:=by
 refine fP.of_body func218 rfl ((CFi .u64).fmdat r) ?_;simp only [ntmps218,List.length_cons,List.length_nil,Nat.reduceAdd,Nat.reduceSub,iO];refine sN 64 (pA ?_);refine fs (AWp.seq' (sN 128 (pA ?_)));refine pu rfl (aBv Z1 Z1 (aMd underlying24)) ?_;refine fs (AWp.condT Z1 ?_);refine sN 192 (pA ?_);refine fs (AWp.weaken (aC2 2 900002 1 Z1 Z5) ?_);refine AWp.ret (jC ?_);cases hm;exact aNh (.inr rfl) Tryz.results218 Z1 Z3 Z6
theorem aJp{a:Addr}{c:Nat}{r:List Int}(hm:((app [] []).bind fun l2=>
some l2)=some r):fP prog 218 [.v (.slice (some a) 0 c)] 1 (r.flatMap (ci .u64)) r.length:=by
 refine fP.of_body func218 rfl ((CFi .u64).fmdat r) ?_;simp only [ntmps218,List.length_cons,List.length_nil,Nat.reduceAdd,Nat.reduceSub,iO];refine sN 64 (pA ?_);refine fs (AWp.seq' (sN 128 (pA ?_)));refine pu rfl (aBv Z1 Z1 (aK2 underlying24)) ?_;refine fs (AWp.condF Z1 ?_);refine AWp.skip (bQ (sN 192 (hp (id:=128) rfl rfl (kW (CFi .u64) (l:=[]) underlying24 aM8 bQs Z5 Zd Zd Zd (by simp only [go_sem,Nat.reduceBEq];try rfl) (by kernel_rfl)) ?_)));refine pA ?_;obtain ⟨l2,h1,hm⟩:=bnd hm;refine hp (id:=130) rfl rfl (xH (CFi .u64) underlying24 underlying24 rfl bX0 bYd (by rw [bLk];decide) (by rw [bLk];decide) bYf Zd Zd Z1 Z3 Z6 (aR5 Z1) rfl Z5 h1) ?_;refine pA ?_;refine fs (AWp.ret ?_);cases hm;exact aNh (.inr rfl) Tryz.results218 Z1 Z3 Z6
theorem aJq{x0:Int}{l0:List Int}{r:List Int}(hm:((app [] (x0::l0)).bind fun l2=>
some l2)=some r):fP prog 218 [.sl ((x0::l0).flatMap (ci .u64)) (x0::l0).length false] 1 (r.flatMap (ci .u64)) r.length:=by
 refine fP.of_body func218 rfl ((CFi .u64).fmdat r) ?_;simp only [ntmps218,List.length_cons,List.length_nil,Nat.reduceAdd,Nat.reduceSub,iO];refine sN 64 (pA ?_);refine fs (AWp.seq' (sN 128 (pA ?_)));refine pu rfl (aBv Z1 Z1 (aK1 underlying24 (by simp))) ?_;refine fs (AWp.condF Z1 ?_);refine AWp.skip (bQ (sN 192 (hp (id:=128) rfl rfl (kW (CFi .u64) (l:=[]) underlying24 aM8 bQs Z5 Zd Zd Zd (by simp only [go_sem,Nat.reduceBEq];try rfl) (by kernel_rfl)) ?_)));refine pA ?_;obtain ⟨l2,h1,hm⟩:=bnd hm;refine hp (id:=130) rfl rfl (xH (CFi .u64) underlying24 underlying24 rfl bX0 bYd (by rw [bLk];decide) (by rw [bLk];decide) bYf Zd Zd Z1 Z3 Z6 (aV8 (CFi .u64) Z1 rfl) rfl Z5 h1) ?_;refine pA ?_;refine fs (AWp.ret ?_);cases hm;exact aNh (.inr rfl) Tryz.results218 Z1 Z3 Z6
theorem aKp{l r:List Int}(hm:mB l=some r):fP prog 218 [.sl (l.flatMap (ci .u64)) l.length false] 1 (r.flatMap (ci .u64)) r.length:=by
 cases l with
 |nil=>
  have hr:r=[]:=by unfold mB app at hm;simpa using hm.symm
  subst hr;exact fP.nil_arg (aJo (r:=[]) rfl) (fun a c=>aJp (r:=[]) rfl)
 |cons x0 l0=>
  refine aJq ?_;show (app [] (x0::l0)).bind _=_;unfold mB at hm;rw [hm];rfl
def zN(h_0:cI)(aY3:Int):Option (Int):=
 ((aG7 h_0.A aY3).bind fun r2=>
 ((aG6 r2 h_0.B).bind fun r4=>
 some r4))
theorem aXr:K2 prog aYy vu vu 247 zN:=fun hm=>be 12 func247 (h:=G)
instance:Ct prog 247 (K2 prog aYy vu vu 247 zN):=⟨aXr⟩
def zM(aRd:Int):Option (Int):=
 (bif ((decide (aRd<0))||(decide (61≤aRd))) then
  some 0
 else
  ((chk (decide (0≤aRd))).bind fun _=>
  some (shr .u64 2305843009213693951 aRd)))
theorem aXp:K1 prog vi vu 248 zM:=fun hm=>be 11 func248 (h:=G)
instance:Ct prog 248 (K1 prog vi vu 248 zM):=⟨aXp⟩
def aH7(rec1:Int→Int→Int→Option (Int))(sW:Int)(aNz:Int)(aIm:Int):Option (Int):=
 ((eJ ((decide (aIm<(if 61<sW then 61 else sW)))==true) 0 (zM aIm)).bind fun r4=>
 (bif ((decide (aIm<(if 61<sW then 61 else sW)))&&(decide (aNz<r4))) then
  rec1 sW aNz (IntKind.i64.wrap (aIm+1))
 else
  some aIm))
def qQ:Nat→Int→Int→Int→Option (Int)
 |0=>fun _ _ _=>none
 |n+1=>aH7 (qQ n)
def aBf(h_0:cI)(aY3:Int)(sW:Int):Option (Int):=
 ((zN h_0 aY3).bind fun r2=>
 qQ aY sW r2 0)
theorem aQ1:K3 prog aYy vu vi vi 219 aBf:=by
 intro h_0 aY3 sW r hm
 let I1:=((fun m s=> ∃sW aNz aIm,s=⟨25,(aF (aF (aF fa 2 (vi sW)) 7 (vu aNz)) 8 (vi aIm)),⟨aZ,64⟩⟩∧qQ m sW aNz aIm=some r):Nat→St→Prop)
 exact be 25 func219 (h:=G)
instance:Ct prog 219 (K3 prog aYy vu vi vi 219 aBf):=⟨aQ1⟩
def aCa(rec1:Int→aT→aT→List Int→List cI→Int→Int→Option (aT×Int))(rec2:Int→aT→aT→List Int→Int→List cI→Int→Int→Int→Int→Option (aT×Int))(oX:Int)(s_3:aT)(t6:aT)(nH:List Int)(aQ8:Int)(t26:List cI)(t27:Int)(t28:Int)(t37:Int)(t38:Int):Option (aT×Int):=
 (bif (decide (t38<t37)) then
  ((idx nH (IntKind.i64.wrap ((IntKind.i64.wrap (aQ8*s_3.V))+t38))).bind fun x10=>
  ((idx nH (IntKind.i64.wrap ((IntKind.i64.wrap (aQ8*s_3.V))+t38))).bind fun x12=>
  ((stt nH (IntKind.i64.wrap ((IntKind.i64.wrap (aQ8*s_3.V))+t38)) (aAh .u64 x10 oX)).bind fun l14=>
  rec2 oX s_3 t6 l14 aQ8 t26 t27 t28 t37 (IntKind.i64.wrap (t38+1)))))
 else
  rec1 oX s_3 t6 nH t26 t27 (IntKind.i64.wrap (t28+1)))
def rJ(rec1:Int→aT→aT→List Int→List cI→Int→Int→Option (aT×Int)):Nat→Int→aT→aT→List Int→Int→List cI→Int→Int→Int→Int→Option (aT×Int)
 |0=>fun _ _ _ _ _ _ _ _ _ _=>none
 |n+1=>aCa rec1 (rJ rec1 n)
def aC9(rec1:Int→aT→aT→List Int→List cI→Int→Int→Option (aT×Int))(oX:Int)(s_3:aT)(t6:aT)(nH:List Int)(t26:List cI)(t27:Int)(t28:Int):Option (aT×Int):=
 (bif (decide (t28<t27)) then
  ((idx t26 t28).bind fun x6=>
  ((aBf x6 oX s_3.V).bind fun r8=>
  rJ rec1 aY oX s_3 t6 nH t28 t26 t27 t28 r8 0))
 else
  some ((aT.mk s_3.R s_3.V nH),0))
def lV:Nat→Int→aT→aT→List Int→List cI→Int→Int→Option (aT×Int)
 |0=>fun _ _ _ _ _ _ _=>none
 |n+1=>aC9 (lV n)
def tR(s_0:aT)(l_1:List cI)(oX:Int):Option (aT×Int):=
 ((rV s_0).bind fun r2=>
 (bif ((!r2)||((l_1.length:Int) !=s_0.R)) then
  some (s_0,1)
 else
  ((mB s_0.Words).bind fun r4=>
  lV aY oX s_0 (aT.mk 0 0 []) r4 l_1 (l_1.length:Int) 0)))
theorem aT7{s_0:aT}{l_1:List cI}{oX:Int}{r:aT×Int}(hm:tR s_0 l_1 oX=some r):cE prog 171 [.agg [vi s_0.R,vi s_0.V,vl (ci .u64) s_0.Words],vl cH l_1,vu oX] (.tup [.agg [vi r.1.R,vi r.1.V,vl (ci .u64) r.1.Words],vi r.2]):=by
 refine bd 61 func171 ?_;obtain ⟨r2,h1,hm⟩:=bnd hm;refine W ?_;refine cq (aL2 h1) ?_;refine W ?_;refine cm hm (fun hm=>?_) fun hm=>?_
 · exact E
 obtain ⟨r4,h3,hm⟩:=bnd hm;refine W ?_;refine aR.callF (id:=130) Zd Z1 bZp (fun H=>(cD ((CFi .u64).sl _ _ _) .nil)) (CFi .u64) Z5 (aKp h3) ?_;refine W ?_;refine lp (fun m s=> ∃oX s_3 t6 nH t26 t27 t28,s=⟨61,(aF (aF (aF (aF (aF (aF (aF fa 2 (vu oX)) 3 (.adr 1 0)) 6 (.adr 2 0)) 8 (.own 3 0 nH.length)) 26 (vl cH t26)) 27 (vi t27)) 28 (vi t28)),⟨(upd (upd (upd aZ 1 (.cells 1 [vi s_3.R,vi s_3.V,vl (ci .u64) s_3.Words] 0)) 2 (.cells 1 [vi t6.R,vi t6.V,vl (ci .u64) t6.Words] 0)) 3 (.cells 1 (nH.flatMap (ci .u64)) 0)),64⟩⟩∧lV m oX s_3 t6 nH t26 t27 t28=some r) ?_ ?_
 · refine ⟨_,?_,oX,s_0,(aT.mk 0 0 []),r4,l_1,(l_1.length:Int),0,rfl,hm⟩;refine St.Le.trans (aSg 1 (ys:=[.v (.int .i64 ((aT.mk 0 0 []).R)),.v (.int .i64 ((aT.mk 0 0 []).V)),.sl (((aT.mk 0 0 []).Words).flatMap (ci .u64)) ((aT.mk 0 0 []).Words).length false]) Z3 (.cons (.data _ (.v _)) (.cons (.data _ (.v _)) (.cons (.nil false) .nil)))) ?_;exact cn (fun j=>bif j==1 then 0 else bif j==2 then 1 else bif j==3 then 130 else 0)
 rintro n1 s ⟨oX,s_3,t6,nH,t26,t27,t28,rfl,hm⟩;refine W ?_;refine cm hm (fun hm=>?_) fun hm=>?_
 ·
  obtain ⟨x6,h5,hm⟩:=bnd hm;obtain ⟨r8,h7,hm⟩:=bnd hm;refine W ?_;refine cq (aQ1 h7) ?_;refine W ?_;refine lp (fun m s=> ∃oX s_3 t6 nH aQ8 t26 t27 t28 t37 t38,s=⟨61,(aF (aF (aF (aF (aF (aF (aF (aF (aF (aF fa 2 (vu oX)) 3 (.adr 1 0)) 6 (.adr 2 0)) 8 (.own 3 0 nH.length)) 9 (vi aQ8)) 26 (vl cH t26)) 27 (vi t27)) 28 (vi t28)) 37 (vi t37)) 38 (vi t38)),⟨(upd (upd (upd aZ 1 (.cells 1 [vi s_3.R,vi s_3.V,vl (ci .u64) s_3.Words] 0)) 2 (.cells 1 [vi t6.R,vi t6.V,vl (ci .u64) t6.Words] 0)) 3 (.cells 1 (nH.flatMap (ci .u64)) 0)),64⟩⟩∧rJ (lV n1) m oX s_3 t6 nH aQ8 t26 t27 t28 t37 t38=some r) (Lr (fun j=>bif j==1 then 1 else bif j==2 then 2 else bif j==3 then 3 else 0)) ?_;rintro n2 s ⟨oX,s_3,t6,nH,aQ8,t26,t27,t28,t37,t38,rfl,hm⟩;refine W ?_;refine cm hm (fun hm=>?_) fun hm=>?_
  · obtain ⟨x10,h9,hm⟩:=bnd hm;have hm:=sb hm h9;obtain ⟨l14,h13,hm⟩:=bnd hm;refine W ?_;have qh13:=nG h13;refine aS h13 ?_;refine W ?_;exact Lr (fun j=>bif j==1 then 1 else bif j==2 then 2 else bif j==3 then 3 else 0)
  refine W ?_;exact Lr (fun j=>bif j==1 then 1 else bif j==2 then 2 else bif j==3 then 3 else 0)
 iterate 5 refine S1 ?_
 refine AWp.seq' ?_;refine AWp.weaken (aK9 (CFi .u64) 8 3 Z1 Z3 Z6) ?_;refine W ?_;refine bU (.agg [vi s_3.R,vi s_3.V,vl (ci .u64) nH]) ?_;exact E
instance:Ct prog 171 (K3 prog jN (vl cH) vu (t2 jN vi) 171 tR):=⟨fun hm=>aT7 hm⟩
def aDy(rec1:aT→aT→List cI→List Int→Int→Int→Option (aT))(t6:aT)(s_7:aT)(bMn:List cI)(t27:List Int)(t28:Int)(t29:Int):Option (aT):=
 (bif (decide (t29<t28)) then
  ((idx t27 t29).bind fun x11=>
  ((tR s_7 bMn x11).bind fun ⟨r13,r14⟩=>
  rec1 t6 r13 bMn t27 t28 (IntKind.i64.wrap (t29+1))))
 else
  some s_7)
def tJ:Nat→aT→aT→List cI→List Int→Int→Int→Option (aT)
 |0=>fun _ _ _ _ _ _=>none
 |n+1=>aDy (tJ n)
def wC(g_0:aJ)(jX:Int)(bVs:List aE):Option (aT):=
 ((vV g_0.Config.N).bind fun r2=>
 ((aF3 g_0.Config.R r2).bind fun ⟨r4,r5⟩=>
 ((rE g_0 jX).bind fun r7=>
 ((aDf bVs).bind fun r9=>
 tJ aY (aT.mk 0 0 []) r4 r7 r9 (r9.length:Int) 0))))
theorem aUq:K3 prog dX vi (vl aV) jN 139 wC:=by
 intro g_0 jX bVs r hm
 let I1:=((fun m s=> ∃t6 s_7 bMn t27 t28 t29,s=⟨42,(aF (aF (aF (aF (aF (aF fa 6 (.adr 1 0)) 7 (.adr 2 0)) 9 (vl cH bMn)) 27 (vl (ci .u64) t27)) 28 (vi t28)) 29 (vi t29)),⟨(upd (upd aZ 1 (.cells 1 [vi t6.R,vi t6.V,vl (ci .u64) t6.Words] 0)) 2 (.cells 1 [vi s_7.R,vi s_7.V,vl (ci .u64) s_7.Words] 0)),64⟩⟩∧tJ m t6 s_7 bMn t27 t28 t29=some r):Nat→St→Prop)
 exact be 42 func139 (h:=G)
instance:Ct prog 139 (K3 prog dX vi (vl aV) jN 139 wC):=⟨aUq⟩
def aAq(aY2:Int):Option (Int×Int×Bool):=
 (bif (decide ((Int.tmod aY2 16777216)≤(IntKind.u64.wrap (Int.tdiv aY2 16777216)))) then
  some (0,0,false)
 else
  some ((IntKind.i64.wrap (IntKind.u64.wrap (Int.tdiv aY2 16777216))),(IntKind.i64.wrap (Int.tmod aY2 16777216)),true))
theorem bEt:K1 prog vu (t3 vi vi vb) 140 aAq:=fun hm=>be 18 func140 (h:=G)
instance:Ct prog 140 (K1 prog vu (t3 vi vi vb) 140 aAq):=⟨bEt⟩
abbrev aE3(rec1:List Int→List Int→Int→Int→Option ((List Int)))(lI:List Int)(t13:List Int)(t14:Int)(t15:Int):Option ((List Int)):=
 rec1 lI t13 t14 (IntKind.i64.wrap (t15+1))
def aE2(rec1:List Int→List Int→Int→Int→Option ((List Int)))(lI:List Int)(t13:List Int)(t14:Int)(t15:Int):Option ((List Int)):=
 (bif (decide (t15<t14)) then
  ((idx t13 t15).bind fun x4=>
  ((aAq x4).bind fun ⟨r6,r7,r8⟩=>
  (bif r8 then
   ((app lI [x4]).bind fun l10=>
   aE3 rec1 l10 t13 t14 t15)
  else
   aE3 rec1 lI t13 t14 t15)))
 else
  some lI)
def tQ:Nat→List Int→List Int→Int→Int→Option ((List Int))
 |0=>fun _ _ _ _=>none
 |n+1=>aE2 (tQ n)
def wE(s_0:aT):Option ((List Int)):=
 ((rV s_0).bind fun r2=>
 (bif (!r2) then
  some []
 else
  tQ aY [] s_0.Words (s_0.Words.length:Int) 0))
theorem aUt:K1 prog jN (vl (ci .u64)) 138 wE:=by
 intro s_0 r hm
 let I1:=((fun m s=> ∃lI t13 t14 t15,s=⟨32,(aF (aF (aF (aF fa 3 (.own 1 0 lI.length)) 13 (vl (ci .u64) t13)) 14 (vi t14)) 15 (vi t15)),⟨(upd aZ 1 (.cells 1 (lI.flatMap (ci .u64)) 0)),64⟩⟩∧tQ m lI t13 t14 t15=some r):Nat→St→Prop)
 exact be 32 func138 (h:=G)
instance:Ct prog 138 (K1 prog jN (vl (ci .u64)) 138 wE):=⟨aUt⟩
abbrev aC6(rec1:aE→List aE→List Int→Int→Int→Option (aE×Bool))(t6:aE)(aN7:List aE)(t30:List Int)(t31:Int)(t32:Int):Option (aE×Bool):=
 rec1 t6 aN7 t30 t31 (IntKind.i64.wrap (t32+1))
def aC5(rec1:aE→List aE→List Int→Int→Int→Option (aE×Bool))(t6:aE)(aN7:List aE)(t30:List Int)(t31:Int)(t32:Int):Option (aE×Bool):=
 (bif (decide (t32<t31)) then
  ((idx t30 t32).bind fun x10=>
  ((aAq x10).bind fun ⟨r12,r13,r14⟩=>
  (bif (!r14) then
   aC6 rec1 t6 aN7 t30 t31 t32
  else
   ((qT aN7 r12 r13).bind fun ⟨r16,r17⟩=>
   (bif r17 then
    ((idx aN7 r16).bind fun x19=>
    some (x19,true))
   else
    aC6 rec1 t6 aN7 t30 t31 t32)))))
 else
  some ((aE.mk 0 0 0),false))
def rF:Nat→aE→List aE→List Int→Int→Int→Option (aE×Bool)
 |0=>fun _ _ _ _ _=>none
 |n+1=>aC5 (rF n)
def tM(g_0:aJ)(jX:Int)(v_2:Int):Option (aE×Bool):=
 ((nV g_0 jX v_2).bind fun r2=>
 (bif (!r2) then
  some ((aE.mk 0 0 0),false)
 else
  ((wB g_0 jX v_2).bind fun r4=>
  ((wC g_0 jX r4).bind fun r6=>
  ((wE r6).bind fun r8=>
  rF aY (aE.mk 0 0 0) r4 r8 (r8.length:Int) 0)))))
theorem aT4:K3 prog dX vi vi (t2 aFs vb) 96 tM:=by
 intro g_0 jX v_2 r hm
 let I1:=((fun m s=> ∃t6 aN7 t30 t31 t32,s=⟨58,(aF (aF (aF (aF (aF fa 6 (.adr 1 0)) 8 (vl aV aN7)) 30 (vl (ci .u64) t30)) 31 (vi t31)) 32 (vi t32)),⟨(upd aZ 1 (.cells 1 [vi t6.U,vi t6.V,vi t6.Tier] 0)),64⟩⟩∧rF m t6 aN7 t30 t31 t32=some r):Nat→St→Prop)
 exact be 58 func96 (h:=G)
instance:Ct prog 96 (K3 prog dX vi vi (t2 aFs vb) 96 tM):=⟨aT4⟩
def yO(g_0:aJ)(u_1:Int)(v_2:Int):Option (Bool):=
 ((gY g_0).bind fun r2=>
 some ((((r2&&(decide (0≤u_1)))&&(decide (u_1<g_0.Config.N)))&&(decide (0≤v_2)))&&(decide (v_2<g_0.Config.N))))
theorem bC5:K3 prog dX vi vi vb 98 yO:=fun hm=>be 31 func98 (h:=G)
instance:Ct prog 98 (K3 prog dX vi vi vb 98 yO):=⟨bC5⟩
def iL(n_0:Int)(v_1:Int):Option (Bool):=
 some ((decide (0≤v_1))&&(decide (v_1<n_0)))
theorem oN:K2 prog vi vi vb 141 iL:=fun hm=>be 12 func141 (h:=G)
instance:Ct prog 141 (K2 prog vi vi vb 141 iL):=⟨oN⟩
abbrev nZ(s_0:List aE):Option ((List aE)):=
 some s_0
abbrev sK(n_1:Int):Option ((List aE)):=
 (bif (decide (0<(IntKind.i64.wrap (n_1-(IntKind.i64.wrap (((0:Nat):Int)-((0:Nat):Int))))))) then
  ((chk (((0:Nat):Int)==0)).bind fun _=>
  ((chk (decide (0<(IntKind.i64.wrap (n_1-(IntKind.i64.wrap (((0:Nat):Int)-((0:Nat):Int))))))&&decide ((IntKind.i64.wrap (n_1-(IntKind.i64.wrap (((0:Nat):Int)-((0:Nat):Int)))))≤4294967296))).bind fun _=>
  ((chk (((0:Nat):Int)==0)).bind fun _=>
  nZ [])))
 else
  nZ [])
def pU(n_1:Int):Option ((List aE)):=
 (bif (decide (n_1<0)) then
  none
 else
  sK n_1)
theorem aP5{n_1:Int}{r:(List aE)}(hm:pU n_1=some r):fP prog 172 [.v (.slice none 0 0),.v (.int .i64 n_1)] 3 (r.flatMap aV) r.length:=by
 refine fP.of_body func172 rfl (cL.fmdat r) ?_;simp only [ntmps172,List.length_cons,List.length_nil,Nat.reduceAdd,Nat.reduceSub,iO];unfold pU at hm;refine sN 64 (pA ?_);refine fs (AWp.seqJ (fun s=> ∃(n_1:Int),s=(⟨27,(aF (aF (fun _=>AV.any) 0 (.v (.slice none 0 0))) 1 (.v (.int .i64 n_1))),⟨aZ,64⟩⟩:St)∧sK n_1=some r) ?_ ?_)
 ·
  refine sN 128 ?_
  iterate 2 refine pA ?_
  refine fs (AWp.condM hm Z1 (fun _ hm=>?_) (fun _ hm=>?_))
  · cases hm
  · refine AWp.skip (oY ?_);refine ⟨_,?_,n_1,rfl,hm⟩;exact cP id (wV (wV dN)) aXd
 ·
  rintro s ⟨n_1,rfl,hm⟩;unfold sK at hm;refine AWp.seqJ (fun s=> ∃(s_0:List aE),s=(⟨27,(aF (fun _=>AV.any) 0 (.own 1 0 s_0.length)),⟨(upd aZ 1 (.cells 3 (s_0.flatMap aV) 0)),64⟩⟩:St)∧nZ s_0=some r) ?_ ?_
  ·
   refine sN 128 ?_
   iterate 2 refine pA ?_
   refine pu rfl (bFv underlying28 Z1) ?_
   iterate 5 refine pA ?_
   refine fs (sN 192 ?_)
   iterate 2 refine pA ?_
   refine fs (AWp.condM hm Z1 (fun _ hm=>?_) (fun _ hm=>?_))
   ·
    refine AWp.reg 64 (N':=256) rfl ?_
    iterate 2 refine pA ?_
    refine pu rfl (bFv underlying28 Z1) ?_;obtain ⟨_,h3,hm⟩:=bnd hm;refine pu rfl (bMb underlying28 aNu Z1 Z1 (eq_of_beq (vL h3))) ?_;refine pA ?_;obtain ⟨_,h4,hm⟩:=bnd hm;refine hp (id:=197) rfl rfl (bR5 underlying28 underlying3 rfl bO2 bQl (by rw [aUy];decide) (by rw [aUy];decide) bQm Zd Zd Z1 Z1 Z5 h4) ?_
    iterate 2 refine pA ?_
    obtain ⟨_,h8,hm⟩:=bnd hm;refine pu rfl (bRb underlying28 aNu Z1 Z3 Z1 (eq_of_beq (vL h8))) ?_;refine pA ?_;refine aR.fin (oY ?_);refine ⟨_,?_,[],rfl,hm⟩;refine St.Le.trans (bU5 197 Z3) ?_;exact cP (fun j=>bif j==1 then 197 else 0) (wO dN) (hW (eU cL cZ))
   · refine AWp.skip (oY ?_);refine ⟨_,?_,[],rfl,hm⟩;refine St.Le.trans (aC2 0 900000 3 Z1 Z5) ?_;exact cP (fun j=>bif j==1 then 900000 else 0) (wO dN) (hW (eU cL cZ))
  ·
   rintro s ⟨s_0,rfl,hm⟩;unfold nZ at hm;refine sN 128 ?_
   iterate 2 refine pA ?_
   refine fs (AWp.ret ?_);cases hm;exact aNh (.inr rfl) Tryz.results172 Z1 Z3 Z6
abbrev vI(rec1:List (List aE)→Int→List (List aE)→Int→Int→Option ((List aE)))(iT:List (List aE))(aAw:Int)(t9:List (List aE))(t10:Int)(t11:Int):Option ((List aE)):=
 rec1 iT aAw t9 t10 (IntKind.i64.wrap (t11+1))
def vH(rec2:List aE→List (List aE)→Int→Int→Option ((List aE)))(xM:List aE)(t25:List (List aE))(t26:Int)(t27:Int):Option ((List aE)):=
 (bif (decide (t27<t26)) then
  ((idx t25 t27).bind fun x6=>
  ((app xM x6).bind fun l8=>
  rec2 l8 t25 t26 (IntKind.i64.wrap (t27+1))))
 else
  some xM)
def mC:Nat→List aE→List (List aE)→Int→Int→Option ((List aE))
 |0=>fun _ _ _ _=>none
 |n+1=>vH (mC n)
def vG(rec1:List (List aE)→Int→List (List aE)→Int→Int→Option ((List aE)))(iT:List (List aE))(aAw:Int)(t9:List (List aE))(t10:Int)(t11:Int):Option ((List aE)):=
 (bif (decide (t11<t10)) then
  ((idx t9 t11).bind fun x2=>
  (bif (decide ((IntKind.i64.wrap (aAw+(x2.length:Int)))<0)) then
   none
  else
   vI rec1 iT (IntKind.i64.wrap (aAw+(x2.length:Int))) t9 t10 t11))
 else
  ((pU aAw).bind fun r4=>
  mC aY r4 iT (iT.length:Int) 0))
def kM:Nat→List (List aE)→Int→List (List aE)→Int→Int→Option ((List aE))
 |0=>fun _ _ _ _ _=>none
 |n+1=>vG (kM n)
def lC(iT:List (List aE)):Option ((List aE)):=
 kM aY iT 0 iT (iT.length:Int) 0
theorem xR{iT:List (List aE)}{r:(List aE)}(hm:lC iT=some r):cE prog 142 [.sl (iT.flatMap (csl aV)) iT.length false] (vl aV r):=by
 refine bd 36 func142 ?_;refine W ?_;refine lp (fun m s=> ∃iT aAw t9 t10 t11,s=⟨36,(aF (aF (aF (aF (aF fa 0 (.sl (iT.flatMap (csl aV)) iT.length false)) 3 (vi aAw)) 9 (.sl (t9.flatMap (csl aV)) t9.length false)) 10 (vi t10)) 11 (vi t11)),⟨aZ,64⟩⟩∧kM m iT aAw t9 t10 t11=some r) L ?_;rintro n1 s ⟨iT,aAw,t9,t10,t11,rfl,hm⟩;refine W ?_;refine cm hm (fun hm=>?_) fun hm=>?_
 ·
  refine V ?_;refine AWp.seqJ (fun s=> ∃iT aAw t9 t10 t11,s=⟨36,(aF (aF (aF (aF (aF fa 0 (.sl (iT.flatMap (csl aV)) iT.length false)) 3 (vi aAw)) 9 (.sl (t9.flatMap (csl aV)) t9.length false)) 10 (vi t10)) 11 (vi t11)),⟨aZ,64⟩⟩∧vI (kM n1) iT aAw t9 t10 t11=some r) ?_ ?_
  ·
   obtain ⟨x2,h1,hm⟩:=bnd hm;refine W ?_;refine cm hm (fun hm=>?_) fun hm=>?_
   · cases hm
   exact L
  rintro s ⟨iT,aAw,t9,t10,t11,rfl,hm⟩;exact L
 obtain ⟨r4,h3,hm⟩:=bnd hm;refine W ?_;refine aR.callF (id:=129) Zd Z1 bZg (fun H=>(cV (cV .nil))) cL Z5 (aP5 h3) ?_;refine W ?_;refine lp (fun m s=> ∃xM t25 t26 t27,s=⟨36,(aF (aF (aF (aF fa 6 (.own 1 0 xM.length)) 25 (.sl (t25.flatMap (csl aV)) t25.length false)) 26 (vi t26)) 27 (vi t27)),⟨(upd aZ 1 (.cells 3 (xM.flatMap aV) 0)),64⟩⟩∧mC m xM t25 t26 t27=some r) (Lr (fun j=>bif j==1 then 129 else 0)) ?_;rintro n2 s ⟨xM,t25,t26,t27,rfl,hm⟩;refine W ?_;refine cm hm (fun hm=>?_) fun hm=>?_
 · obtain ⟨x6,h5,hm⟩:=bnd hm;obtain ⟨l8,h7,hm⟩:=bnd hm;refine W ?_;exact Lr (fun j=>bif j==1 then 194 else 0)
 exact E
instance:Ct prog 142 (K1 prog (vl (csl aV)) (vl aV) 142 lC):=⟨fun hm=>xR hm⟩
def wK(n_0:Int)(l_1:List aE)(u_2:Int)(v_3:Int):Option ((List aE)×Int):=
 ((kL n_0 l_1).bind fun r2=>
 ((eJ ((!r2)==false) false (iL n_0 u_2)).bind fun r4=>
 ((eJ (((!r2)||(!r4))==false) false (iL n_0 v_3)).bind fun r6=>
 (bif (((!r2)||(!r4))||(!r6)) then
  some (l_1,1)
 else
  ((qT l_1 u_2 v_3).bind fun ⟨r8,r9⟩=>
  (bif (!r9) then
   some (l_1,9)
  else
   ((slc l_1 0 r8).bind fun l11=>
   ((slc l_1 (IntKind.i64.wrap (r8+1)) (l_1.length:Int)).bind fun l13=>
   ((lC [l11,l13]).bind fun r15=>
   some (r15,0))))))))))
theorem aUx{n_0:Int}{l_1:List aE}{u_2:Int}{v_3:Int}{r:(List aE)×Int}(hm:wK n_0 l_1 u_2 v_3=some r):cE prog 99 [vi n_0,vl aV l_1,vi u_2,vi v_3] (.tup [vl aV r.1,vi r.2]):=by
 refine bd 48 func99 ?_;obtain ⟨r2,h1,hm⟩:=bnd hm;refine W ?_;refine cq (aCz h1) ?_;obtain ⟨r4,h3,hm⟩:=bnd hm;refine W ?_;refine cg (fun hb=>oN (kF h3 hb)) ?_;obtain ⟨r6,h5,hm⟩:=bnd hm;refine W ?_;refine cg (fun hb=>oN (kF h5 hb)) ?_;refine W ?_;refine cm hm (fun hm=>?_) fun hm=>?_
 · exact E
 refine W ?_;obtain ⟨⟨r8,r9⟩,h7,hm⟩:=bnd hm;refine cq (aHa h7) ?_;refine W ?_;refine cm hm (fun hm=>?_) fun hm=>?_
 · exact E
 obtain ⟨l11,h10,hm⟩:=bnd hm;obtain ⟨l13,h12,hm⟩:=bnd hm
 iterate 10 refine S1 ?_
 refine aR.pop Zd (aEu (ps:=[(0,.sl (l11.flatMap aV) l11.length (false&&(r8:Int).toNat==l_1.length)),(1,.sl (l13.flatMap aV) l13.length (false&&((l_1.length:Int):Int).toNat==l_1.length))]) (by simp only [go_sem,Nat.reduceBEq];try rfl) (aBb (cL.sl _ _ _) (aBb (cL.sl _ _ _) aR9))) (aNb (CFl cL) (l:=[l11,l13]) (xs:=[.sl (l11.flatMap aV) l11.length (false&&(r8:Int).toNat==l_1.length),.sl (l13.flatMap aV) l13.length (false&&((l_1.length:Int):Int).toNat==l_1.length)]) underlying249 bUt bYn Zd Zd Zd (ps:=[(0,.sl (l11.flatMap aV) l11.length (false&&(r8:Int).toNat==l_1.length)),(1,.sl (l13.flatMap aV) l13.length (false&&((l_1.length:Int):Int).toNat==l_1.length))]) (by simp only [go_sem,Nat.reduceBEq];try rfl) (by kernel_rfl) (fun H=>(.cons (tdf rfl (cL.sl _ _ _)) (.cons (tdf rfl (cL.sl _ _ _)) .nil)))) rfl ?_;obtain ⟨r15,h14,hm⟩:=bnd hm;refine cq (xR h14) ?_;exact E
instance:Ct prog 99 (K4 prog vi (vl aV) vi vi (t2 (vl aV) vi) 99 wK):=⟨fun hm=>aUx hm⟩
def aJv(rec1:List aE→aE→Int→Option ((List aE)×Int))(l_1:List aE)(gM:aE)(nS:Int):Option ((List aE)×Int):=
 ((eJ ((decide (nS<(l_1.length:Int)))==true) (aE.mk 0 0 0) (idx l_1 nS)).bind fun x11=>
 ((eJ ((decide (nS<(l_1.length:Int)))==true) false (xL x11 gM)).bind fun r13=>
 (bif ((decide (nS<(l_1.length:Int)))&&r13) then
  rec1 l_1 gM (IntKind.i64.wrap (nS+1))
 else
  ((slc l_1 0 nS).bind fun l15=>
  ((slc l_1 nS (l_1.length:Int)).bind fun l17=>
  ((lC [l15,[gM],l17]).bind fun r19=>
  some (r19,0)))))))
def aBu:Nat→List aE→aE→Int→Option ((List aE)×Int)
 |0=>fun _ _ _=>none
 |n+1=>aJv (aBu n)
def aE7(n_0:Int)(l_1:List aE)(u_2:Int)(v_3:Int):Option ((List aE)×Int):=
 ((kL n_0 l_1).bind fun r2=>
 ((eJ ((!r2)==false) false (iL n_0 u_2)).bind fun r4=>
 ((eJ (((!r2)||(!r4))==false) false (iL n_0 v_3)).bind fun r6=>
 (bif (((!r2)||(!r4))||(!r6)) then
  some (l_1,1)
 else
  (bif (u_2==v_3) then
   some (l_1,8)
  else
   ((qT l_1 u_2 v_3).bind fun ⟨r8,r9⟩=>
   (bif r9 then
    some (l_1,4)
   else
    aBu aY l_1 (aE.mk (if v_3<u_2 then v_3 else u_2) (if u_2<v_3 then v_3 else u_2) 0) 0)))))))
theorem bFg{n_0:Int}{l_1:List aE}{u_2:Int}{v_3:Int}{r:(List aE)×Int}(hm:aE7 n_0 l_1 u_2 v_3=some r):cE prog 102 [vi n_0,vl aV l_1,vi u_2,vi v_3] (.tup [vl aV r.1,vi r.2]):=by
 refine bd 75 func102 ?_;obtain ⟨r2,h1,hm⟩:=bnd hm;refine W ?_;refine cq (aCz h1) ?_;obtain ⟨r4,h3,hm⟩:=bnd hm;refine W ?_;refine cg (fun hb=>oN (kF h3 hb)) ?_;obtain ⟨r6,h5,hm⟩:=bnd hm;refine W ?_;refine cg (fun hb=>oN (kF h5 hb)) ?_;refine W ?_;refine cm hm (fun hm=>?_) fun hm=>?_
 · exact E
 refine W ?_;refine cm hm (fun hm=>?_) fun hm=>?_
 · exact E
 refine W ?_;obtain ⟨⟨r8,r9⟩,h7,hm⟩:=bnd hm;refine cq (aHa h7) ?_;refine W ?_;refine cm hm (fun hm=>?_) fun hm=>?_
 · exact E
 refine W ?_;refine bU (.agg [.v (.int .i64 (if v_3<u_2 then v_3 else u_2)),.v (.int .i64 (if u_2<v_3 then v_3 else u_2)),vi 0]) ?_;refine W ?_;refine lp (fun m s=> ∃l_1 gM nS,s=⟨75,(aF (aF (aF fa 1 (vl aV l_1)) 12 (.adr 1 0)) 13 (vi nS)),⟨(upd aZ 1 (.cells 1 [vi gM.U,vi gM.V,vi gM.Tier] 0)),64⟩⟩∧aBu m l_1 gM nS=some r) (Lr (fun j=>bif j==1 then 327 else 0)) ?_;rintro n1 s ⟨l_1,gM,nS,rfl,hm⟩;obtain ⟨x11,h10,hm⟩:=bnd hm;obtain ⟨r13,h12,hm⟩:=bnd hm;refine W ?_;refine cg (fun hb=>aSp (kF h12 hb)) ?_;refine W ?_;refine cm hm (fun hm=>?_) fun hm=>?_
 · refine W ?_;exact Lr (fun j=>bif j==1 then 1 else 0)
 obtain ⟨l15,h14,hm⟩:=bnd hm
 iterate 10 refine S1 ?_
 refine aR.pop Zd (aEu (ps:=[(0,.agg [.v (.int .i64 gM.U),.v (.int .i64 gM.V),.v (.int .i64 gM.Tier)])]) (by simp only [go_sem,Nat.reduceBEq];try rfl) (aBb (.agg _ (cL.dat gM)) aR9)) (aNb cL (l:=[gM]) (xs:=[.v (.int .i64 gM.U),.v (.int .i64 gM.V),.v (.int .i64 gM.Tier)]) underlying28 aNu aZ4 Zd Zd Zd (ps:=[(0,.agg [.v (.int .i64 gM.U),.v (.int .i64 gM.V),.v (.int .i64 gM.Tier)])]) (by simp only [go_sem,Nat.reduceBEq];try rfl) (by kernel_rfl) (fun H=>(.cons (.data _ (.v _)) (.cons (.data _ (.v _)) (.cons (.data _ (.v _)) .nil))))) rfl ?_;obtain ⟨l17,h16,hm⟩:=bnd hm
 iterate 3 refine S1 ?_
 refine aR.pop Zd (aEu (ps:=[(0,.sl (l15.flatMap aV) l15.length (false&&(nS:Int).toNat==l_1.length)),(1,.sl (([gM]).flatMap aV) ([gM]).length false),(2,.sl (l17.flatMap aV) l17.length (false&&((l_1.length:Int):Int).toNat==l_1.length))]) (by simp only [go_sem,Nat.reduceBEq];try rfl) (aBb (cL.sl _ _ _) (aBb (cL.sl _ _ _) (aBb (cL.sl _ _ _) aR9)))) (aNb (CFl cL) (l:=[l15,[gM],l17]) (xs:=[.sl (l15.flatMap aV) l15.length (false&&(nS:Int).toNat==l_1.length),.sl (([gM]).flatMap aV) ([gM]).length false,.sl (l17.flatMap aV) l17.length (false&&((l_1.length:Int):Int).toNat==l_1.length)]) underlying249 bUt bYn Zd Zd Zd (ps:=[(0,.sl (l15.flatMap aV) l15.length (false&&(nS:Int).toNat==l_1.length)),(1,.sl (([gM]).flatMap aV) ([gM]).length false),(2,.sl (l17.flatMap aV) l17.length (false&&((l_1.length:Int):Int).toNat==l_1.length))]) (by simp only [go_sem,Nat.reduceBEq];try rfl) (by kernel_rfl) (fun H=>(.cons (tdf rfl (cL.sl _ _ _)) (.cons (.data _ (cL.sl _ _ _)) (.cons (tdf rfl (cL.sl _ _ _)) .nil))))) rfl ?_;obtain ⟨r19,h18,hm⟩:=bnd hm;refine cq (xR h18) ?_;exact E
instance:Ct prog 102 (K4 prog vi (vl aV) vi vi (t2 (vl aV) vi) 102 aE7):=⟨fun hm=>bFg hm⟩
abbrev aCy(rec1:Int→List Int→List aE→Int→Int→Option ((List Int)))(v_2:Int)(aFj:List Int)(t20:List aE)(t21:Int)(t22:Int):Option ((List Int)):=
 rec1 v_2 aFj t20 t21 (IntKind.i64.wrap (t22+1))
def aHy(rec1:Int→List Int→List aE→Int→Int→Option ((List Int)))(v_2:Int)(aFj:List Int)(t20:List aE)(t21:Int)(t22:Int):Option ((List Int)):=
 (bif (decide (t22<t21)) then
  ((idx t20 t22).bind fun x6=>
  (bif (v_2==x6.U) then
   ((app aFj [x6.V]).bind fun l8=>
   aCy rec1 v_2 l8 t20 t21 t22)
  else
   (bif (v_2==x6.V) then
    ((app aFj [x6.U]).bind fun l10=>
    aCy rec1 v_2 l10 t20 t21 t22)
   else
    aCy rec1 v_2 aFj t20 t21 t22)))
 else
  some aFj)
def aA6:Nat→Int→List Int→List aE→Int→Int→Option ((List Int))
 |0=>fun _ _ _ _ _=>none
 |n+1=>aHy (aA6 n)
def aF6(n_0:Int)(l_1:List aE)(v_2:Int):Option ((List Int)):=
 ((kL n_0 l_1).bind fun r2=>
 ((eJ ((!r2)==false) false (iL n_0 v_2)).bind fun r4=>
 (bif ((!r2)||(!r4)) then
  some []
 else
  aA6 aY v_2 [] l_1 (l_1.length:Int) 0)))
theorem bC0:K3 prog vi (vl aV) vi (vl (ci .i64)) 122 aF6:=by
 intro n_0 l_1 v_2 r hm
 let I1:=((fun m s=> ∃v_2 aFj t20 t21 t22,s=⟨47,(aF (aF (aF (aF (aF fa 2 (vi v_2)) 7 (.own 1 0 aFj.length)) 20 (vl aV t20)) 21 (vi t21)) 22 (vi t22)),⟨(upd aZ 1 (.cells 1 (aFj.flatMap (ci .i64)) 0)),64⟩⟩∧aA6 m v_2 aFj t20 t21 t22=some r):Nat→St→Prop)
 exact be 47 func122 (h:=G)
instance:Ct prog 122 (K3 prog vi (vl aV) vi (vl (ci .i64)) 122 aF6):=⟨bC0⟩
def uX(g_0:aJ)(jX:Int)(v_2:Int):Option ((List Int)):=
 ((gY g_0).bind fun r2=>
 (bif (((((!r2)||(decide (jX<0)))||(decide (g_0.Config.L<jX)))||(decide (v_2<0)))||(decide (g_0.Config.N≤v_2))) then
  some []
 else
  ((rT g_0 jX v_2).bind fun r4=>
  some r4)))
theorem aYk:K3 prog dX vi vi (vl (ci .i64)) 173 uX:=fun hm=>be 36 func173 (h:=G)
instance:Ct prog 173 (K3 prog dX vi vi (vl (ci .i64)) 173 uX):=⟨aYk⟩
abbrev aAn(rec1:aE→aE→List aE→Int→Int→Option (aE×Bool))(t2:aE)(kG:aE)(t15:List aE)(t16:Int)(t17:Int):Option (aE×Bool):=
 rec1 t2 kG t15 t16 (IntKind.i64.wrap (t17+1))
def aAm(rec1:aE→aE→List aE→Int→Int→Option (aE×Bool))(t2:aE)(kG:aE)(t15:List aE)(t16:Int)(t17:Int):Option (aE×Bool):=
 (bif (decide (t17<t16)) then
  ((idx t15 t17).bind fun x6=>
  ((eJ (((decide (kG.Tier<x6.Tier))==false)&&((x6.Tier==kG.Tier)==true)) false (xL kG x6)).bind fun r8=>
  (bif ((decide (kG.Tier<x6.Tier))||((x6.Tier==kG.Tier)&&r8)) then
   aAn rec1 t2 x6 t15 t16 t17
  else
   aAn rec1 t2 kG t15 t16 t17)))
 else
  some (kG,true))
def oU:Nat→aE→aE→List aE→Int→Int→Option (aE×Bool)
 |0=>fun _ _ _ _ _=>none
 |n+1=>aAm (oU n)
def nJ(l_0:List aE):Option (aE×Bool):=
 (bif ((l_0.length:Int)==0) then
  some ((aE.mk 0 0 0),false)
 else
  ((idx l_0 0).bind fun x2=>
  ((slc l_0 1 (l_0.length:Int)).bind fun l4=>
  oU aY (aE.mk 0 0 0) x2 l4 (l4.length:Int) 0)))
theorem aQq:K1 prog (vl aV) (t2 aFs vb) 175 nJ:=by
 intro l_0 r hm
 let I1:=((fun m s=> ∃t2 kG t15 t16 t17,s=⟨41,(aF (aF (aF (aF (aF fa 2 (.adr 1 0)) 4 (.adr 2 0)) 15 (vl aV t15)) 16 (vi t16)) 17 (vi t17)),⟨(upd (upd aZ 1 (.cells 1 [vi t2.U,vi t2.V,vi t2.Tier] 0)) 2 (.cells 1 [vi kG.U,vi kG.V,vi kG.Tier] 0)),64⟩⟩∧oU m t2 kG t15 t16 t17=some r):Nat→St→Prop)
 exact be 41 func175 (h:=G)
instance:Ct prog 175 (K1 prog (vl aV) (t2 aFs vb) 175 nJ):=⟨aQq⟩
def nX(l:List aE):Option (List aE):=app [] l
theorem aLx{r:List aE}(hm:some []=some r):fP prog 223 [.v (.slice none 0 0)] 3 (r.flatMap aV) r.length:=by
 refine fP.of_body func223 rfl (cL.fmdat r) ?_;simp only [ntmps223,List.length_cons,List.length_nil,Nat.reduceAdd,Nat.reduceSub,iO];refine sN 64 (pA ?_);refine fs (AWp.seq' (sN 128 (pA ?_)));refine pu rfl (aBv Z1 Z1 (aMd underlying28)) ?_;refine fs (AWp.condT Z1 ?_);refine sN 192 (pA ?_);refine fs (AWp.weaken (aC2 2 900002 3 Z1 Z5) ?_);refine AWp.ret (jC ?_);cases hm;exact aNh (.inr rfl) Tryz.results223 Z1 Z3 Z6
theorem aLy{a:Addr}{c:Nat}{r:List aE}(hm:((app [] []).bind fun l2=>
some l2)=some r):fP prog 223 [.v (.slice (some a) 0 c)] 3 (r.flatMap aV) r.length:=by
 refine fP.of_body func223 rfl (cL.fmdat r) ?_;simp only [ntmps223,List.length_cons,List.length_nil,Nat.reduceAdd,Nat.reduceSub,iO];refine sN 64 (pA ?_);refine fs (AWp.seq' (sN 128 (pA ?_)));refine pu rfl (aBv Z1 Z1 (aK2 underlying28)) ?_;refine fs (AWp.condF Z1 ?_);refine AWp.skip (bQ (sN 192 (hp (id:=128) rfl rfl (kW cL (l:=[]) underlying28 aNu aZ4 Z5 Zd Zd Zd (by simp only [go_sem,Nat.reduceBEq];try rfl) (by kernel_rfl)) ?_)));refine pA ?_;obtain ⟨l2,h1,hm⟩:=bnd hm;refine hp (id:=130) rfl rfl (xH cL underlying28 underlying28 rfl bO2 bQl (by rw [aUy];decide) (by rw [aUy];decide) bQm Zd Zd Z1 Z3 Z6 (aR5 Z1) rfl Z5 h1) ?_;refine pA ?_;refine fs (AWp.ret ?_);cases hm;exact aNh (.inr rfl) Tryz.results223 Z1 Z3 Z6
theorem aLz{x0:aE}{l0:List aE}{r:List aE}(hm:((app [] (x0::l0)).bind fun l2=>
some l2)=some r):fP prog 223 [.sl ((x0::l0).flatMap aV) (x0::l0).length false] 3 (r.flatMap aV) r.length:=by
 refine fP.of_body func223 rfl (cL.fmdat r) ?_;simp only [ntmps223,List.length_cons,List.length_nil,Nat.reduceAdd,Nat.reduceSub,iO];refine sN 64 (pA ?_);refine fs (AWp.seq' (sN 128 (pA ?_)));refine pu rfl (aBv Z1 Z1 (aK1 underlying28 (by simp))) ?_;refine fs (AWp.condF Z1 ?_);refine AWp.skip (bQ (sN 192 (hp (id:=128) rfl rfl (kW cL (l:=[]) underlying28 aNu aZ4 Z5 Zd Zd Zd (by simp only [go_sem,Nat.reduceBEq];try rfl) (by kernel_rfl)) ?_)));refine pA ?_;obtain ⟨l2,h1,hm⟩:=bnd hm;refine hp (id:=130) rfl rfl (xH cL underlying28 underlying28 rfl bO2 bQl (by rw [aUy];decide) (by rw [aUy];decide) bQm Zd Zd Z1 Z3 Z6 (aV8 cL Z1 rfl) rfl Z5 h1) ?_;refine pA ?_;refine fs (AWp.ret ?_);cases hm;exact aNh (.inr rfl) Tryz.results223 Z1 Z3 Z6
theorem aNp{l r:List aE}(hm:nX l=some r):fP prog 223 [.sl (l.flatMap aV) l.length false] 3 (r.flatMap aV) r.length:=by
 cases l with
 |nil=>
  have hr:r=[]:=by unfold nX app at hm;simpa using hm.symm
  subst hr;exact fP.nil_arg (aLx (r:=[]) rfl) (fun a c=>aLy (r:=[]) rfl)
 |cons x0 l0=>
  refine aLz ?_;show (app [] (x0::l0)).bind _=_;unfold nX at hm;rw [hm];rfl
def aAz(n_0:Int)(l_1:List aE)(u_2:Int)(v_3:Int)(aM9:Int):Option ((List aE)×Int):=
 ((kL n_0 l_1).bind fun r2=>
 ((eJ ((!r2)==false) false (iL n_0 u_2)).bind fun r4=>
 ((eJ (((!r2)||(!r4))==false) false (iL n_0 v_3)).bind fun r6=>
 ((eJ ((((!r2)||(!r4))||(!r6))==false) false (sB aM9)).bind fun r8=>
 (bif ((((!r2)||(!r4))||(!r6))||(!r8)) then
  some (l_1,1)
 else
  ((qT l_1 u_2 v_3).bind fun ⟨r10,r11⟩=>
  (bif (!r11) then
   some (l_1,9)
  else
   ((nX l_1).bind fun r13=>
   ((idx r13 r10).bind fun x15=>
   ((stt r13 r10 (aE.mk x15.U x15.V aM9)).bind fun l17=>
   some (l17,0)))))))))))
theorem bFh{n_0:Int}{l_1:List aE}{u_2:Int}{v_3:Int}{aM9:Int}{r:(List aE)×Int}(hm:aAz n_0 l_1 u_2 v_3 aM9=some r):cE prog 176 [vi n_0,vl aV l_1,vi u_2,vi v_3,vi aM9] (.tup [vl aV r.1,vi r.2]):=by
 refine bd 55 func176 ?_;obtain ⟨r2,h1,hm⟩:=bnd hm;refine W ?_;refine cq (aCz h1) ?_;obtain ⟨r4,h3,hm⟩:=bnd hm;refine W ?_;refine cg (fun hb=>oN (kF h3 hb)) ?_;obtain ⟨r6,h5,hm⟩:=bnd hm;refine W ?_;refine cg (fun hb=>oN (kF h5 hb)) ?_;obtain ⟨r8,h7,hm⟩:=bnd hm;refine W ?_;refine cg (fun hb=>aL5 (kF h7 hb)) ?_;refine W ?_;refine cm hm (fun hm=>?_) fun hm=>?_
 · exact E
 refine W ?_;obtain ⟨⟨r10,r11⟩,h9,hm⟩:=bnd hm;refine cq (aHa h9) ?_;refine W ?_;refine cm hm (fun hm=>?_) fun hm=>?_
 · exact E
 obtain ⟨r13,h12,hm⟩:=bnd hm;refine W ?_;refine aR.callF (id:=257) Zd Z1 bZr (fun H=>(cD (cL.sl _ _ _) .nil)) cL Z5 (aNp h12) ?_;obtain ⟨x15,h14,hm⟩:=bnd hm;obtain ⟨l17,h16,hm⟩:=bnd hm;refine W ?_;have qh16:=nG h16;refine aR.heap0 (id:=325) rfl (bR6 cL (off:=2) (y:=x15) (y':=(aE.mk x15.U x15.V aM9)) (cs:=[.v (.int .i64 aM9)]) sz3 Z1 Z1 Z3 rfl h14 rfl Zd Z9 rfl h16) ?_;exact E
instance:Ct prog 176 (K5 prog vi (vl aV) vi vi vi (t2 (vl aV) vi) 176 aAz):=⟨fun hm=>bFh hm⟩
def vT(n_0:Int)(v_1:Int):Option (Bool):=
 some ((decide (0≤v_1))&&(decide (v_1<n_0)))
theorem aU9:K2 prog vi vi vb 220 vT:=fun hm=>be 12 func220 (h:=G)
instance:Ct prog 220 (K2 prog vi vi vb 220 vT):=⟨aU9⟩
attribute [local semireducible] aY
end Go.Proofs.YtkdohhmacfoolaaGreatDoor
