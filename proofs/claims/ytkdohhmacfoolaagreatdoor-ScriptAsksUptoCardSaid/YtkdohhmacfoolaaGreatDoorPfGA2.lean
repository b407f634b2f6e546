/- Facts. No condition. -/
import Derived.Test.YtkdohhmacfoolaaGreatDoorPfGA1
set_option linter.unusedVariables false
set_option linter.unusedSimpArgs false
set_option maxRecDepth 20000
set_option maxHeartbeats 4000000
namespace Go.Proofs.YtkdohhmacfoolaaGreatDoor
open Go.Proofs.Tryz Go Go.AM
attribute [local irreducible] aW
structure aT where
 R:Int
 V:Int
 Words:List Int
deriving DecidableEq
def yT(e:aT):List AV:=[.v (.int .i64 e.R),.v (.int .i64 e.V),.sl (e.Words.flatMap (ci .u64)) e.Words.length false]
theorem aQy:CF yT 3:=⟨fun _=>rfl,fun a x hx=>by
 simp only [yT,List.mem_cons,List.not_mem_nil,or_false] at hx;rcases hx with rfl|rfl|rfl
 · exact (.v _)
 · exact (.v _)
 · exact ((CFi .u64).sl _ _ _),fun _=>rfl⟩
instance:CC yT 3:=⟨aQy⟩
abbrev jQ(e:aT):AV:= .agg [.v (.int .i64 e.R),vi e.V,vl (ci .u64) e.Words]
@[go_sem] theorem aLp(e:aT)(r:List AV):yT e++r= .v (.int .i64 e.R):: .v (.int .i64 e.V):: .sl (e.Words.flatMap (ci .u64)) e.Words.length false::r:=rfl
theorem bO3(x0 y0 x1 y1 x2 y2:Int):iI prog .eql 23 (.agg [.v (.int .i64 x0),.v (.int .i64 x1),.v (.int .i64 x2)]) (.agg [.v (.int .i64 y0),.v (.int .i64 y1),.v (.int .i64 y2)])=some (.v (.bool ((x0==y0)&&((x1==y1)&&(x2==y2))))):=
 (by kernel_rfl:iI prog .eql 23 (.agg [.v (.int .i64 x0),.v (.int .i64 x1),.v (.int .i64 x2)]) (.agg [.v (.int .i64 y0),.v (.int .i64 y1),.v (.int .i64 y2)])=some (.v (.bool ((x0==y0)&&((x1==y1)&&((x2==y2)&&true)))))).trans (by rw [Bool.and_true])
theorem bQ0(x0 y0 x1 y1 x2 y2:Int):iI prog .neq 23 (.agg [.v (.int .i64 x0),.v (.int .i64 x1),.v (.int .i64 x2)]) (.agg [.v (.int .i64 y0),.v (.int .i64 y1),.v (.int .i64 y2)])=some (.v (.bool (!((x0==y0)&&((x1==y1)&&(x2==y2)))))):=
 (by kernel_rfl:iI prog .neq 23 (.agg [.v (.int .i64 x0),.v (.int .i64 x1),.v (.int .i64 x2)]) (.agg [.v (.int .i64 y0),.v (.int .i64 y1),.v (.int .i64 y2)])=some (.v (.bool (!((x0==y0)&&((x1==y1)&&((x2==y2)&&true))))))).trans (by rw [Bool.and_true])
attribute [go_sem] bO3 bQ0
theorem bO5(x0 y0 x1 y1:Int):iI prog .eql 94 (.agg [.v (.int .u64 x0),.v (.int .u64 x1)]) (.agg [.v (.int .u64 y0),.v (.int .u64 y1)])=some (.v (.bool ((x0==y0)&&(x1==y1)))):=
 (by kernel_rfl:iI prog .eql 94 (.agg [.v (.int .u64 x0),.v (.int .u64 x1)]) (.agg [.v (.int .u64 y0),.v (.int .u64 y1)])=some (.v (.bool ((x0==y0)&&((x1==y1)&&true))))).trans (by rw [Bool.and_true])
theorem bQ2(x0 y0 x1 y1:Int):iI prog .neq 94 (.agg [.v (.int .u64 x0),.v (.int .u64 x1)]) (.agg [.v (.int .u64 y0),.v (.int .u64 y1)])=some (.v (.bool (!((x0==y0)&&(x1==y1))))):=
 (by kernel_rfl:iI prog .neq 94 (.agg [.v (.int .u64 x0),.v (.int .u64 x1)]) (.agg [.v (.int .u64 y0),.v (.int .u64 y1)])=some (.v (.bool (!((x0==y0)&&((x1==y1)&&true)))))).trans (by rw [Bool.and_true])
attribute [go_sem] bO5 bQ2
@[go_sem] theorem bEq(i o:Nat):aH prog 215 (.adr i o) 0=some (.adr i (o+0)):=by kernel_rfl
@[go_sem] theorem bEr(i o:Nat):aH prog 215 (.adr i o) 1=some (.adr i (o+1)):=by kernel_rfl
@[go_sem] theorem bEs(i o:Nat):aH prog 215 (.adr i o) 2=some (.adr i (o+2)):=by kernel_rfl
@[go_sem] theorem bJ5(i o:Nat):aH prog 23 (.adr i o) 0=some (.adr i (o+0)):=by kernel_rfl
@[go_sem] theorem bJc(i o:Nat):aH prog 23 (.adr i o) 1=some (.adr i (o+1)):=by kernel_rfl
@[go_sem] theorem bJi(i o:Nat):aH prog 23 (.adr i o) 2=some (.adr i (o+2)):=by kernel_rfl
@[go_sem] theorem bJo(i o:Nat):aH prog 30 (.adr i o) 0=some (.adr i (o+0)):=by kernel_rfl
@[go_sem] theorem bJu(i o:Nat):aH prog 30 (.adr i o) 1=some (.adr i (o+3)):=by kernel_rfl
@[go_sem] theorem bJy(i o:Nat):aH prog 30 (.adr i o) 2=some (.adr i (o+4)):=by kernel_rfl
@[go_sem] theorem bKl(i o:Nat):aH prog 61 (.adr i o) 0=some (.adr i (o+0)):=by kernel_rfl
@[go_sem] theorem bKr(i o:Nat):aH prog 61 (.adr i o) 1=some (.adr i (o+1)):=by kernel_rfl
@[go_sem] theorem bKx(i o:Nat):aH prog 61 (.adr i o) 2=some (.adr i (o+2)):=by kernel_rfl
@[go_sem] theorem bL7(i o:Nat):aH prog 94 (.adr i o) 0=some (.adr i (o+0)):=by kernel_rfl
@[go_sem] theorem bLa(i o:Nat):aH prog 94 (.adr i o) 1=some (.adr i (o+1)):=by kernel_rfl
@[go_sem] theorem bPa(H:aG)(x0 x1 x2:AV)(xs:List AV):bT prog H 215 (.ptr (x0::x1::x2::xs))=some (.agg [x0,x1,x2]):=by kernel_rfl
@[go_sem] theorem bTa(H:aG)(x0 x1 x2:AV)(xs:List AV):bT prog H 23 (.ptr (x0::x1::x2::xs))=some (.agg [x0,x1,x2]):=by kernel_rfl
@[go_sem] theorem bTe(H:aG)(x:AV)(xs:List AV):bT prog H 24 (.ptr (x::xs))=some x:=by kernel_rfl
@[go_sem] theorem bTh(H:aG)(x:AV)(xs:List AV):bT prog H 27 (.ptr (x::xs))=some x:=by kernel_rfl
@[go_sem] theorem bTl(H:aG)(x:AV)(xs:List AV):bT prog H 28 (.ptr (x::xs))=some x:=by kernel_rfl
@[go_sem] theorem bXv(H:aG)(x:AV)(xs:List AV):bT prog H 3 (.ptr (x::xs))=some x:=by kernel_rfl
@[go_sem] theorem bTr(H:aG)(x0 x1 x2 x3 x4:AV)(xs:List AV):bT prog H 30 (.ptr (x0::x1::x2::x3::x4::xs))=some (.agg [x0,x1,x2,x3,x4]):=by kernel_rfl
@[go_sem] theorem bY3(H:aG)(x:AV)(xs:List AV):bT prog H 4 (.ptr (x::xs))=some x:=by kernel_rfl
@[go_sem] theorem bUa(H:aG)(x:AV)(xs:List AV):bT prog H 40 (.ptr (x::xs))=some x:=by kernel_rfl
@[go_sem] theorem bUi(H:aG)(x0 x1 x2:AV)(xs:List AV):bT prog H 61 (.ptr (x0::x1::x2::xs))=some (.agg [x0,x1,x2]):=by kernel_rfl
@[go_sem] theorem bUs(H:aG)(x0 x1:AV)(xs:List AV):bT prog H 94 (.ptr (x0::x1::xs))=some (.agg [x0,x1]):=by kernel_rfl
@[go_sem] theorem bIk(H:aG)(k:IntKind)(n:Int):mU prog H 3 40 (.v (.int k n))=some (.v (.int .u64 (IntKind.u64.wrap n))):=gK underlying3 underlying40
@[go_sem] theorem bE2(H:aG)(k:IntKind)(n:Int):mU prog H 3 162 (.v (.int k n))=some (.v (.int .u64 (IntKind.u64.wrap n))):=gK underlying3 underlying162
@[go_sem] theorem bNv(H:aG)(k:IntKind)(n:Int):mU prog H 5 3 (.v (.int k n))=some (.v (.int .i64 (IntKind.i64.wrap n))):=gK underlying5 underlying3
@[go_sem] theorem bIn(H:aG)(k:IntKind)(n:Int):mU prog H 40 3 (.v (.int k n))=some (.v (.int .i64 (IntKind.i64.wrap n))):=gK underlying40 underlying3
@[go_sem] theorem bE0(H:aG)(k:IntKind)(n:Int):mU prog H 277 5 (.v (.int k n))=some (.v (.int .u8 (IntKind.u8.wrap n))):=gK underlying277 underlying5
abbrev aH6(rec1:List Bool→List aE→List aE→Int→Int→Option ((List aE)))(aCb:List Bool)(kD:List aE)(t8:List aE)(t9:Int)(t10:Int):Option ((List aE)):=
 rec1 aCb kD t8 t9 (IntKind.i64.wrap (t10+1))
def aH5(rec1:List Bool→List aE→List aE→Int→Int→Option ((List aE)))(aCb:List Bool)(kD:List aE)(t8:List aE)(t9:Int)(t10:Int):Option ((List aE)):=
 (bif (decide (t10<t9)) then
  ((idx t8 t10).bind fun x2=>
  ((idx aCb x2.U).bind fun x4=>
  ((idx aCb x2.V).bind fun x6=>
  (bif (!(x4==x6)) then
   ((app kD [x2]).bind fun l8=>
   aH6 rec1 aCb l8 t8 t9 t10)
  else
   aH6 rec1 aCb kD t8 t9 t10))))
 else
  some kD)
def yX:Nat→List Bool→List aE→List aE→Int→Int→Option ((List aE))
 |0=>fun _ _ _ _ _=>none
 |n+1=>aH5 (yX n)
def aEt(l_0:List aE)(aCb:List Bool):Option ((List aE)):=
 yX aW aCb [] l_0 (l_0.length:Int) 0
theorem aQ3:K2 prog (vl aV) (vl aQ0) (vl aV) 214 aEt:=by
 intro l_0 aCb r hm
 let I1:=((fun m s=> ∃aCb kD t8 t9 t10,s=⟨31,(aF (aF (aF (aF (aF fa 1 (vl aQ0 aCb)) 5 (.own 1 0 kD.length)) 8 (vl aV t8)) 9 (vi t9)) 10 (vi t10)),⟨(upd aY 1 (.cells 3 (kD.flatMap aV) 0)),64⟩⟩∧yX m aCb kD t8 t9 t10=some r):Nat→St→Prop)
 exact be 31 func214 (h:=G)
instance:Ct prog 214 (K2 prog (vl aV) (vl aQ0) (vl aV) 214 aEt):=⟨aQ3⟩
def aOp(rec1:List aE→List Bool→List Int→Int→Int→Option ((List aE)×Int))(l_1:List aE)(bAt:List Bool)(t18:List Int)(t19:Int)(t20:Int):Option ((List aE)×Int):=
 (bif (decide (t20<t19)) then
  ((idx t18 t20).bind fun x6=>
  ((idx bAt x6).bind fun x8=>
  ((stt bAt x6 true).bind fun l10=>
  rec1 l_1 l10 t18 t19 (IntKind.i64.wrap (t20+1)))))
 else
  ((aEt l_1 bAt).bind fun r12=>
  some (r12,0)))
def aG6:Nat→List aE→List Bool→List Int→Int→Int→Option ((List aE)×Int)
 |0=>fun _ _ _ _ _=>none
 |n+1=>aOp (aG6 n)
def aIu(n_0:Int)(l_1:List aE)(aLa:List Int):Option ((List aE)×Int):=
 ((aKh n_0 l_1 aLa).bind fun r2=>
 (bif (!r2) then
  some ([],1)
 else
  ((mkc n_0 n_0 false).bind fun l4=>
  aG6 aW l_1 l4 aLa (aLa.length:Int) 0)))
theorem bNp{n_0:Int}{l_1:List aE}{aLa:List Int}{r:(List aE)×Int}(hm:aIu n_0 l_1 aLa=some r):bY prog 164 [vi n_0,vl aV l_1,vl (ci .i64) aLa] (.tup [vl aV r.1,vi r.2]):=by
 refine bd 31 func164 ?_;obtain ⟨r2,h1,hm⟩:=bnd hm;refine W ?_;refine cq (aVw h1) ?_;refine W ?_;refine cm hm (fun hm=>?_) fun hm=>?_
 · exact E
 obtain ⟨l4,h3,hm⟩:=bnd hm;refine W ?_;refine aK CFb h3 ?_;refine W ?_;refine lp (fun m s=> ∃l_1 bAt t18 t19 t20,s=⟨31,(aF (aF (aF (aF (aF fa 1 (vl aV l_1)) 8 (.own 1 0 bAt.length)) 18 (vl (ci .i64) t18)) 19 (vi t19)) 20 (vi t20)),⟨(upd aY 1 (.cells 1 (bAt.flatMap aQ0) 0)),64⟩⟩∧aG6 m l_1 bAt t18 t19 t20=some r) (Lr (fun j=>bif j==1 then 129 else 0)) ?_;rintro n1 s ⟨l_1,bAt,t18,t19,t20,rfl,hm⟩;refine W ?_;refine cm hm (fun hm=>?_) fun hm=>?_
 · obtain ⟨x6,h5,hm⟩:=bnd hm;obtain ⟨x8,h7,hm⟩:=bnd hm;obtain ⟨l10,h9,hm⟩:=bnd hm;refine W ?_;have qh9:=nH h9;refine aS h9 ?_;refine W ?_;exact Lr (fun j=>bif j==1 then 1 else 0)
 iterate 5 refine S1 ?_
 refine AWp.seq' ?_;refine AWp.weaken (aKl CFb 8 1 Z1 Z3 Z6) ?_;obtain ⟨r12,h11,hm⟩:=bnd hm;refine W ?_;refine cq (aQ3 h11) ?_;exact E
instance:Ct prog 164 (K3 prog vi (vl aV) (vl (ci .i64)) (t2 (vl aV) vi) 164 aIu):=⟨fun hm=>bNp hm⟩
def vV(g_0:aJ)(kB:Int)(v_2:Int):Option ((List aE)):=
 ((rV g_0 kB v_2).bind fun r2=>
 ((aIu g_0.Config.N g_0.Edges r2).bind fun ⟨r4,r5⟩=>
 some r4))
theorem aV0:K3 prog dR vi vi (vl aV) 137 vV:=fun hm=>be 23 func137 (h:=G)
instance:Ct prog 137 (K3 prog dR vi vi (vl aV) 137 vV):=⟨aV0⟩
def xL(x_0:Int):Option (Int):=
 ((aEp x_0).bind fun r2=>
 some r2)
theorem aVk{x_0:Int}{r:Int}(hm:xL x_0=some r):bY prog 160 [vu x_0] (vi r):=by
 refine bd 8 func160 ?_;refine W ?_;refine AWp.condF Z1 ?_;obtain ⟨r2,h1,hm⟩:=bnd hm;refine W ?_;refine cq (aPy h1) ?_;exact E
instance:Ct prog 160 (K1 prog vu vi 160 xL):=⟨fun hm=>aVk hm⟩
def vP(n_0:Int):Option (Int):=
 (bif (decide (n_0<1)) then
  some 0
 else
  ((xL (IntKind.u64.wrap (IntKind.i64.wrap (n_0-1)))).bind fun r2=>
  some (IntKind.i64.wrap ((IntKind.i64.wrap (2*r2))+2))))
theorem aUs:K1 prog vi vi 168 vP:=fun hm=>be 11 func168 (h:=G)
instance:Ct prog 168 (K1 prog vi vi 168 vP):=⟨aUs⟩
def oN(r_0:Int)(v_1:Int):Option (Bool):=
 some ((((decide (1≤r_0))&&(decide (r_0≤8)))&&(decide (1≤v_1)))&&(decide (v_1≤61)))
theorem aV5:K2 prog vi vi vb 216 oN:=fun hm=>be 19 func216 (h:=G)
instance:Ct prog 216 (K2 prog vi vi vb 216 oN):=⟨aV5⟩
def aFa(r_0:Int)(v_1:Int):Option (aT×Int):=
 ((oN r_0 v_1).bind fun r2=>
 (bif (!r2) then
  some ((aT.mk 0 0 []),1)
 else
  ((mkc (IntKind.i64.wrap (r_0*v_1)) (IntKind.i64.wrap (r_0*v_1)) 0).bind fun l4=>
  some ((aT.mk r_0 v_1 l4),0))))
theorem bCg:K2 prog vi vi (t2 jQ vi) 167 aFa:=fun hm=>be 18 func167 (h:=G)
instance:Ct prog 167 (K2 prog vi vi (t2 jQ vi) 167 aFa):=⟨bCg⟩
def rF(g_0:aJ)(kB:Int):Option ((List bW)):=
 ((slc g_0.Hashes (IntKind.i64.wrap (kB*g_0.Config.R)) (IntKind.i64.wrap ((IntKind.i64.wrap (kB*g_0.Config.R))+g_0.Config.R))).bind fun l2=>
 ((iQ l2).bind fun r4=>
 some r4))
theorem aRh:K2 prog dR vi (vl cL) 169 rF:=fun hm=>be 21 func169 (h:=G)
instance:Ct prog 169 (K2 prog dR vi (vl cL) 169 rF):=⟨aRh⟩
def zP(v_0:Int):Option (Bool):=
 some ((decide (0≤v_0))&&(decide (v_0<16777216)))
theorem aYe:K1 prog vi vb 246 zP:=fun hm=>be 9 func246 (h:=G)
instance:Ct prog 246 (K1 prog vi vb 246 zP):=⟨aYe⟩
def aJi(u_0:Int)(v_1:Int):Option (Int×Int):=
 ((zP u_0).bind fun r2=>
 ((eG ((!r2)==false) false (zP v_1)).bind fun r4=>
 (bif ((!r2)||(!r4)) then
  some (0,1)
 else
  (bif (u_0==v_1) then
   some (0,8)
  else
   some ((IntKind.u64.wrap ((IntKind.u64.wrap ((IntKind.u64.wrap (if v_1<u_0 then v_1 else u_0))*16777216))+(IntKind.u64.wrap (if u_0<v_1 then v_1 else u_0)))),0)))))
theorem bPs:K2 prog vi vi (t2 vu vi) 217 aJi:=fun hm=>be 27 func217 (h:=G)
instance:Ct prog 217 (K2 prog vi vi (t2 vu vi) 217 aJi):=⟨bPs⟩
abbrev aQ2(rec1:List Int→List aE→Int→Int→Option ((List Int)))(lL:List Int)(t8:List aE)(t9:Int)(t10:Int):Option ((List Int)):=
 rec1 lL t8 t9 (IntKind.i64.wrap (t10+1))
abbrev aIw(rec1:List Int→List aE→Int→Int→Option ((List Int)))(lL:List Int)(cKf:Int)(t8:List aE)(t9:Int)(t10:Int):Option ((List Int)):=
 ((app lL [cKf]).bind fun l7=>
 aQ2 rec1 l7 t8 t9 t10)
def aIv(rec1:List Int→List aE→Int→Int→Option ((List Int)))(lL:List Int)(t8:List aE)(t9:Int)(t10:Int):Option ((List Int)):=
 (bif (decide (t10<t9)) then
  ((idx t8 t10).bind fun x2=>
  ((aJi x2.U x2.V).bind fun ⟨r4,r5⟩=>
  (bif (r5 !=0) then
   aIw rec1 lL 0 t8 t9 t10
  else
   aIw rec1 lL r4 t8 t9 t10)))
 else
  some lL)
def aBh:Nat→List Int→List aE→Int→Int→Option ((List Int))
 |0=>fun _ _ _ _=>none
 |n+1=>aIv (aBh n)
def aDi(l_0:List aE):Option ((List Int)):=
 aBh aW [] l_0 (l_0.length:Int) 0
theorem bDx:K1 prog (vl aV) (vl (ci .u64)) 170 aDi:=by
 intro l_0 r hm
 let I1:=((fun m s=> ∃lL t8 t9 t10,s=⟨30,(aF (aF (aF (aF fa 3 (.own 1 0 lL.length)) 8 (vl aV t8)) 9 (vi t9)) 10 (vi t10)),⟨(upd aY 1 (.cells 1 (lL.flatMap (ci .u64)) 0)),64⟩⟩∧aBh m lL t8 t9 t10=some r):Nat→St→Prop)
 exact be 30 func170 (h:=G)
instance:Ct prog 170 (K1 prog (vl aV) (vl (ci .u64)) 170 aDi):=⟨bDx⟩
def rX(s_0:aT):Option (Bool):=
 ((oN s_0.R s_0.V).bind fun r2=>
 some (r2&&((s_0.Words.length:Int)==(IntKind.i64.wrap (s_0.R*s_0.V)))))
theorem aLc:K1 prog jQ vb 166 rX:=fun hm=>be 19 func166 (h:=G)
instance:Ct prog 166 (K1 prog jQ vb 166 rX):=⟨aLc⟩
def mC(l:List Int):Option (List Int):=app [] l
theorem aK2{r:List Int}(hm:some []=some r):fS prog 218 [.v (.slice none 0 0)] 1 (r.flatMap (ci .u64)) r.length:=by
 refine fS.of_body func218 rfl ((CFi .u64).fmdat r) ?_;simp only [ntmps218,List.length_cons,List.length_nil,Nat.reduceAdd,Nat.reduceSub,iO];refine sN 64 (pA ?_);refine fs (AWp.seq' (sN 128 (pA ?_)));refine pu rfl (aC4 Z1 Z1 (aMn underlying24)) ?_;refine fs (AWp.condT Z1 ?_);refine sN 192 (pA ?_);refine fs (AWp.weaken (aAq 2 900002 1 Z1 Z5) ?_);refine AWp.ret (jF ?_);cases hm;exact aNo (.inr rfl) Tryz.results218 Z1 Z3 Z6
theorem aK3{a:Addr}{c:Nat}{r:List Int}(hm:((app [] []).bind fun l2=>
some l2)=some r):fS prog 218 [.v (.slice (some a) 0 c)] 1 (r.flatMap (ci .u64)) r.length:=by
 refine fS.of_body func218 rfl ((CFi .u64).fmdat r) ?_;simp only [ntmps218,List.length_cons,List.length_nil,Nat.reduceAdd,Nat.reduceSub,iO];refine sN 64 (pA ?_);refine fs (AWp.seq' (sN 128 (pA ?_)));refine pu rfl (aC4 Z1 Z1 (aKf underlying24)) ?_;refine fs (AWp.condF Z1 ?_);refine AWp.skip (bQ (sN 192 (hp (id:=128) rfl rfl (kZ (CFi .u64) (l:=[]) underlying24 aO1 bVv Z5 Zd Zd Zd (by simp only [go_sem,Nat.reduceBEq];try rfl) (by kernel_rfl)) ?_)));refine pA ?_;obtain ⟨l2,h1,hm⟩:=bnd hm;refine hp (id:=130) rfl rfl (wX (CFi .u64) underlying24 underlying24 rfl bXs bZ4 (by rw [bM9];decide) (by rw [bM9];decide) bZ6 Zd Zd Z1 Z3 Z6 (aRm Z1) rfl Z5 h1) ?_;refine pA ?_;refine fs (AWp.ret ?_);cases hm;exact aNo (.inr rfl) Tryz.results218 Z1 Z3 Z6
theorem aK4{x0:Int}{l0:List Int}{r:List Int}(hm:((app [] (x0::l0)).bind fun l2=>
some l2)=some r):fS prog 218 [.sl ((x0::l0).flatMap (ci .u64)) (x0::l0).length false] 1 (r.flatMap (ci .u64)) r.length:=by
 refine fS.of_body func218 rfl ((CFi .u64).fmdat r) ?_;simp only [ntmps218,List.length_cons,List.length_nil,Nat.reduceAdd,Nat.reduceSub,iO];refine sN 64 (pA ?_);refine fs (AWp.seq' (sN 128 (pA ?_)));refine pu rfl (aC4 Z1 Z1 (aKe underlying24 (by simp))) ?_;refine fs (AWp.condF Z1 ?_);refine AWp.skip (bQ (sN 192 (hp (id:=128) rfl rfl (kZ (CFi .u64) (l:=[]) underlying24 aO1 bVv Z5 Zd Zd Zd (by simp only [go_sem,Nat.reduceBEq];try rfl) (by kernel_rfl)) ?_)));refine pA ?_;obtain ⟨l2,h1,hm⟩:=bnd hm;refine hp (id:=130) rfl rfl (wX (CFi .u64) underlying24 underlying24 rfl bXs bZ4 (by rw [bM9];decide) (by rw [bM9];decide) bZ6 Zd Zd Z1 Z3 Z6 (aVj (CFi .u64) Z1 rfl) rfl Z5 h1) ?_;refine pA ?_;refine fs (AWp.ret ?_);cases hm;exact aNo (.inr rfl) Tryz.results218 Z1 Z3 Z6
theorem aKz{l r:List Int}(hm:mC l=some r):fS prog 218 [.sl (l.flatMap (ci .u64)) l.length false] 1 (r.flatMap (ci .u64)) r.length:=by
 cases l with
 |nil=>
  have hr:r=[]:=by unfold mC app at hm;simpa using hm.symm
  subst hr;exact fS.nil_arg (aK2 (r:=[]) rfl) (fun a c=>aK3 (r:=[]) rfl)
 |cons x0 l0=>
  refine aK4 ?_;show (app [] (x0::l0)).bind _=_;unfold mC at hm;rw [hm];rfl
def zL(h_0:bW)(aYg:Int):Option (Int):=
 ((aGg h_0.A aYg).bind fun r2=>
 ((aGf r2 h_0.B).bind fun r4=>
 some r4))
theorem aY4:K2 prog aZe vu vu 247 zL:=fun hm=>be 12 func247 (h:=G)
instance:Ct prog 247 (K2 prog aZe vu vu 247 zL):=⟨aY4⟩
def zK(aRs:Int):Option (Int):=
 (bif ((decide (aRs<0))||(decide (61≤aRs))) then
  some 0
 else
  ((chk (decide (0≤aRs))).bind fun _=>
  some (shr .u64 2305843009213693951 aRs)))
theorem aY2:K1 prog vi vu 248 zK:=fun hm=>be 11 func248 (h:=G)
instance:Ct prog 248 (K1 prog vi vu 248 zK):=⟨aY2⟩
def aHg(rec1:Int→Int→Int→Option (Int))(sW:Int)(aO7:Int)(aIz:Int):Option (Int):=
 ((eG ((decide (aIz<(if 61<sW then 61 else sW)))==true) 0 (zK aIz)).bind fun r4=>
 (bif ((decide (aIz<(if 61<sW then 61 else sW)))&&(decide (aO7<r4))) then
  rec1 sW aO7 (IntKind.i64.wrap (aIz+1))
 else
  some aIz))
def qR:Nat→Int→Int→Int→Option (Int)
 |0=>fun _ _ _=>none
 |n+1=>aHg (qR n)
def aBl(h_0:bW)(aYg:Int)(sW:Int):Option (Int):=
 ((zL h_0 aYg).bind fun r2=>
 qR aW sW r2 0)
theorem aQf:K3 prog aZe vu vi vi 219 aBl:=by
 intro h_0 aYg sW r hm
 let I1:=((fun m s=> ∃sW aO7 aIz,s=⟨25,(aF (aF (aF fa 2 (vi sW)) 7 (vu aO7)) 8 (vi aIz)),⟨aY,64⟩⟩∧qR m sW aO7 aIz=some r):Nat→St→Prop)
 exact be 25 func219 (h:=G)
instance:Ct prog 219 (K3 prog aZe vu vi vi 219 aBl):=⟨aQf⟩
def aCi(rec1:Int→aT→aT→List Int→List bW→Int→Int→Option (aT×Int))(rec2:Int→aT→aT→List Int→Int→List bW→Int→Int→Int→Int→Option (aT×Int))(pF:Int)(s_3:aT)(t6:aT)(nI:List Int)(aQp:Int)(t26:List bW)(t27:Int)(t28:Int)(t37:Int)(t38:Int):Option (aT×Int):=
 (bif (decide (t38<t37)) then
  ((idx nI (IntKind.i64.wrap ((IntKind.i64.wrap (aQp*s_3.V))+t38))).bind fun x10=>
  ((idx nI (IntKind.i64.wrap ((IntKind.i64.wrap (aQp*s_3.V))+t38))).bind fun x12=>
  ((stt nI (IntKind.i64.wrap ((IntKind.i64.wrap (aQp*s_3.V))+t38)) (aAi .u64 x10 pF)).bind fun l14=>
  rec2 pF s_3 t6 l14 aQp t26 t27 t28 t37 (IntKind.i64.wrap (t38+1)))))
 else
  rec1 pF s_3 t6 nI t26 t27 (IntKind.i64.wrap (t28+1)))
def rK(rec1:Int→aT→aT→List Int→List bW→Int→Int→Option (aT×Int)):Nat→Int→aT→aT→List Int→Int→List bW→Int→Int→Int→Int→Option (aT×Int)
 |0=>fun _ _ _ _ _ _ _ _ _ _=>none
 |n+1=>aCi rec1 (rK rec1 n)
def aCh(rec1:Int→aT→aT→List Int→List bW→Int→Int→Option (aT×Int))(pF:Int)(s_3:aT)(t6:aT)(nI:List Int)(t26:List bW)(t27:Int)(t28:Int):Option (aT×Int):=
 (bif (decide (t28<t27)) then
  ((idx t26 t28).bind fun x6=>
  ((aBl x6 pF s_3.V).bind fun r8=>
  rK rec1 aW pF s_3 t6 nI t28 t26 t27 t28 r8 0))
 else
  some ((aT.mk s_3.R s_3.V nI),0))
def lW:Nat→Int→aT→aT→List Int→List bW→Int→Int→Option (aT×Int)
 |0=>fun _ _ _ _ _ _ _=>none
 |n+1=>aCh (lW n)
def tO(s_0:aT)(l_1:List bW)(pF:Int):Option (aT×Int):=
 ((rX s_0).bind fun r2=>
 (bif ((!r2)||((l_1.length:Int) !=s_0.R)) then
  some (s_0,1)
 else
  ((mC s_0.Words).bind fun r4=>
  lW aW pF s_0 (aT.mk 0 0 []) r4 l_1 (l_1.length:Int) 0)))
theorem aTk{s_0:aT}{l_1:List bW}{pF:Int}{r:aT×Int}(hm:tO s_0 l_1 pF=some r):bY prog 171 [.agg [vi s_0.R,vi s_0.V,vl (ci .u64) s_0.Words],vl cL l_1,vu pF] (.tup [.agg [vi r.1.R,vi r.1.V,vl (ci .u64) r.1.Words],vi r.2]):=by
 refine bd 61 func171 ?_;obtain ⟨r2,h1,hm⟩:=bnd hm;refine W ?_;refine cq (aLc h1) ?_;refine W ?_;refine cm hm (fun hm=>?_) fun hm=>?_
 · exact E
 obtain ⟨r4,h3,hm⟩:=bnd hm;refine W ?_;refine aR.callF (id:=130) Zd Z1 cAf (fun H=>(cD ((CFi .u64).sl _ _ _) .nil)) (CFi .u64) Z5 (aKz h3) ?_;refine W ?_;refine lp (fun m s=> ∃pF s_3 t6 nI t26 t27 t28,s=⟨61,(aF (aF (aF (aF (aF (aF (aF fa 2 (vu pF)) 3 (.adr 1 0)) 6 (.adr 2 0)) 8 (.own 3 0 nI.length)) 26 (vl cL t26)) 27 (vi t27)) 28 (vi t28)),⟨(upd (upd (upd aY 1 (.cells 1 [vi s_3.R,vi s_3.V,vl (ci .u64) s_3.Words] 0)) 2 (.cells 1 [vi t6.R,vi t6.V,vl (ci .u64) t6.Words] 0)) 3 (.cells 1 (nI.flatMap (ci .u64)) 0)),64⟩⟩∧lW m pF s_3 t6 nI t26 t27 t28=some r) ?_ ?_
 · refine ⟨_,?_,pF,s_0,(aT.mk 0 0 []),r4,l_1,(l_1.length:Int),0,rfl,hm⟩;refine St.Le.trans (bB2 1 (ys:=[.v (.int .i64 ((aT.mk 0 0 []).R)),.v (.int .i64 ((aT.mk 0 0 []).V)),.sl (((aT.mk 0 0 []).Words).flatMap (ci .u64)) ((aT.mk 0 0 []).Words).length false]) Z3 (.cons (.data _ (.v _)) (.cons (.data _ (.v _)) (.cons (.nil false) .nil)))) ?_;exact cn (fun j=>bif j==1 then 0 else bif j==2 then 1 else bif j==3 then 130 else 0)
 rintro n1 s ⟨pF,s_3,t6,nI,t26,t27,t28,rfl,hm⟩;refine W ?_;refine cm hm (fun hm=>?_) fun hm=>?_
 ·
  obtain ⟨x6,h5,hm⟩:=bnd hm;obtain ⟨r8,h7,hm⟩:=bnd hm;refine W ?_;refine cq (aQf h7) ?_;refine W ?_;refine lp (fun m s=> ∃pF s_3 t6 nI aQp t26 t27 t28 t37 t38,s=⟨61,(aF (aF (aF (aF (aF (aF (aF (aF (aF (aF fa 2 (vu pF)) 3 (.adr 1 0)) 6 (.adr 2 0)) 8 (.own 3 0 nI.length)) 9 (vi aQp)) 26 (vl cL t26)) 27 (vi t27)) 28 (vi t28)) 37 (vi t37)) 38 (vi t38)),⟨(upd (upd (upd aY 1 (.cells 1 [vi s_3.R,vi s_3.V,vl (ci .u64) s_3.Words] 0)) 2 (.cells 1 [vi t6.R,vi t6.V,vl (ci .u64) t6.Words] 0)) 3 (.cells 1 (nI.flatMap (ci .u64)) 0)),64⟩⟩∧rK (lW n1) m pF s_3 t6 nI aQp t26 t27 t28 t37 t38=some r) (Lr (fun j=>bif j==1 then 1 else bif j==2 then 2 else bif j==3 then 3 else 0)) ?_;rintro n2 s ⟨pF,s_3,t6,nI,aQp,t26,t27,t28,t37,t38,rfl,hm⟩;refine W ?_;refine cm hm (fun hm=>?_) fun hm=>?_
  · obtain ⟨x10,h9,hm⟩:=bnd hm;have hm:=sb hm h9;obtain ⟨l14,h13,hm⟩:=bnd hm;refine W ?_;have qh13:=nH h13;refine aS h13 ?_;refine W ?_;exact Lr (fun j=>bif j==1 then 1 else bif j==2 then 2 else bif j==3 then 3 else 0)
  refine W ?_;exact Lr (fun j=>bif j==1 then 1 else bif j==2 then 2 else bif j==3 then 3 else 0)
 iterate 5 refine S1 ?_
 refine AWp.seq' ?_;refine AWp.weaken (aKl (CFi .u64) 8 3 Z1 Z3 Z6) ?_;refine W ?_;refine bU (.agg [vi s_3.R,vi s_3.V,vl (ci .u64) nI]) ?_;exact E
instance:Ct prog 171 (K3 prog jQ (vl cL) vu (t2 jQ vi) 171 tO):=⟨fun hm=>aTk hm⟩
def aE2(rec1:aT→aT→List bW→List Int→Int→Int→Option (aT))(t6:aT)(s_7:aT)(bNd:List bW)(t27:List Int)(t28:Int)(t29:Int):Option (aT):=
 (bif (decide (t29<t28)) then
  ((idx t27 t29).bind fun x11=>
  ((tO s_7 bNd x11).bind fun ⟨r13,r14⟩=>
  rec1 t6 r13 bNd t27 t28 (IntKind.i64.wrap (t29+1))))
 else
  some s_7)
def tE:Nat→aT→aT→List bW→List Int→Int→Int→Option (aT)
 |0=>fun _ _ _ _ _ _=>none
 |n+1=>aE2 (tE n)
def vW(g_0:aJ)(kB:Int)(bWm:List aE):Option (aT):=
 ((vP g_0.Config.N).bind fun r2=>
 ((aFa g_0.Config.R r2).bind fun ⟨r4,r5⟩=>
 ((rF g_0 kB).bind fun r7=>
 ((aDi bWm).bind fun r9=>
 tE aW (aT.mk 0 0 []) r4 r7 r9 (r9.length:Int) 0))))
theorem aV1:K3 prog dR vi (vl aV) jQ 139 vW:=by
 intro g_0 kB bWm r hm
 let I1:=((fun m s=> ∃t6 s_7 bNd t27 t28 t29,s=⟨42,(aF (aF (aF (aF (aF (aF fa 6 (.adr 1 0)) 7 (.adr 2 0)) 9 (vl cL bNd)) 27 (vl (ci .u64) t27)) 28 (vi t28)) 29 (vi t29)),⟨(upd (upd aY 1 (.cells 1 [vi t6.R,vi t6.V,vl (ci .u64) t6.Words] 0)) 2 (.cells 1 [vi s_7.R,vi s_7.V,vl (ci .u64) s_7.Words] 0)),64⟩⟩∧tE m t6 s_7 bNd t27 t28 t29=some r):Nat→St→Prop)
 exact be 42 func139 (h:=G)
instance:Ct prog 139 (K3 prog dR vi (vl aV) jQ 139 vW):=⟨aV1⟩
def aAu(aYf:Int):Option (Int×Int×Bool):=
 (bif (decide ((Int.tmod aYf 16777216)≤(IntKind.u64.wrap (Int.tdiv aYf 16777216)))) then
  some (0,0,false)
 else
  some ((IntKind.i64.wrap (IntKind.u64.wrap (Int.tdiv aYf 16777216))),(IntKind.i64.wrap (Int.tmod aYf 16777216)),true))
theorem bFi:K1 prog vu (t3 vi vi vb) 140 aAu:=fun hm=>be 18 func140 (h:=G)
instance:Ct prog 140 (K1 prog vu (t3 vi vi vb) 140 aAu):=⟨bFi⟩
abbrev aE7(rec1:List Int→List Int→Int→Int→Option ((List Int)))(lL:List Int)(t13:List Int)(t14:Int)(t15:Int):Option ((List Int)):=
 rec1 lL t13 t14 (IntKind.i64.wrap (t15+1))
def aE6(rec1:List Int→List Int→Int→Int→Option ((List Int)))(lL:List Int)(t13:List Int)(t14:Int)(t15:Int):Option ((List Int)):=
 (bif (decide (t15<t14)) then
  ((idx t13 t15).bind fun x4=>
  ((aAu x4).bind fun ⟨r6,r7,r8⟩=>
  (bif r8 then
   ((app lL [x4]).bind fun l10=>
   aE7 rec1 l10 t13 t14 t15)
  else
   aE7 rec1 lL t13 t14 t15)))
 else
  some lL)
def tN:Nat→List Int→List Int→Int→Int→Option ((List Int))
 |0=>fun _ _ _ _=>none
 |n+1=>aE6 (tN n)
def vX(s_0:aT):Option ((List Int)):=
 ((rX s_0).bind fun r2=>
 (bif (!r2) then
  some []
 else
  tN aW [] s_0.Words (s_0.Words.length:Int) 0))
theorem aV4:K1 prog jQ (vl (ci .u64)) 138 vX:=by
 intro s_0 r hm
 let I1:=((fun m s=> ∃lL t13 t14 t15,s=⟨32,(aF (aF (aF (aF fa 3 (.own 1 0 lL.length)) 13 (vl (ci .u64) t13)) 14 (vi t14)) 15 (vi t15)),⟨(upd aY 1 (.cells 1 (lL.flatMap (ci .u64)) 0)),64⟩⟩∧tN m lL t13 t14 t15=some r):Nat→St→Prop)
 exact be 32 func138 (h:=G)
instance:Ct prog 138 (K1 prog jQ (vl (ci .u64)) 138 vX):=⟨aV4⟩
abbrev aCe(rec1:aE→List aE→List Int→Int→Int→Option (aE×Bool))(t6:aE)(aNf:List aE)(t30:List Int)(t31:Int)(t32:Int):Option (aE×Bool):=
 rec1 t6 aNf t30 t31 (IntKind.i64.wrap (t32+1))
def aCd(rec1:aE→List aE→List Int→Int→Int→Option (aE×Bool))(t6:aE)(aNf:List aE)(t30:List Int)(t31:Int)(t32:Int):Option (aE×Bool):=
 (bif (decide (t32<t31)) then
  ((idx t30 t32).bind fun x10=>
  ((aAu x10).bind fun ⟨r12,r13,r14⟩=>
  (bif (!r14) then
   aCe rec1 t6 aNf t30 t31 t32
  else
   ((qU aNf r12 r13).bind fun ⟨r16,r17⟩=>
   (bif r17 then
    ((idx aNf r16).bind fun x19=>
    some (x19,true))
   else
    aCe rec1 t6 aNf t30 t31 t32)))))
 else
  some ((aE.mk 0 0 0),false))
def rG:Nat→aE→List aE→List Int→Int→Int→Option (aE×Bool)
 |0=>fun _ _ _ _ _=>none
 |n+1=>aCd (rG n)
def tJ(g_0:aJ)(kB:Int)(v_2:Int):Option (aE×Bool):=
 ((nX g_0 kB v_2).bind fun r2=>
 (bif (!r2) then
  some ((aE.mk 0 0 0),false)
 else
  ((vV g_0 kB v_2).bind fun r4=>
  ((vW g_0 kB r4).bind fun r6=>
  ((vX r6).bind fun r8=>
  rG aW (aE.mk 0 0 0) r4 r8 (r8.length:Int) 0)))))
theorem aTg:K3 prog dR vi vi (t2 aFz vb) 96 tJ:=by
 intro g_0 kB v_2 r hm
 let I1:=((fun m s=> ∃t6 aNf t30 t31 t32,s=⟨58,(aF (aF (aF (aF (aF fa 6 (.adr 1 0)) 8 (vl aV aNf)) 30 (vl (ci .u64) t30)) 31 (vi t31)) 32 (vi t32)),⟨(upd aY 1 (.cells 1 [vi t6.U,vi t6.V,vi t6.Tier] 0)),64⟩⟩∧rG m t6 aNf t30 t31 t32=some r):Nat→St→Prop)
 exact be 58 func96 (h:=G)
instance:Ct prog 96 (K3 prog dR vi vi (t2 aFz vb) 96 tJ):=⟨aTg⟩
def yJ(g_0:aJ)(u_1:Int)(v_2:Int):Option (Bool):=
 ((gY g_0).bind fun r2=>
 some ((((r2&&(decide (0≤u_1)))&&(decide (u_1<g_0.Config.N)))&&(decide (0≤v_2)))&&(decide (v_2<g_0.Config.N))))
theorem bCu:K3 prog dR vi vi vb 98 yJ:=fun hm=>be 31 func98 (h:=G)
instance:Ct prog 98 (K3 prog dR vi vi vb 98 yJ):=⟨bCu⟩
def iL(n_0:Int)(v_1:Int):Option (Bool):=
 some ((decide (0≤v_1))&&(decide (v_1<n_0)))
theorem oQ:K2 prog vi vi vb 141 iL:=fun hm=>be 12 func141 (h:=G)
instance:Ct prog 141 (K2 prog vi vi vb 141 iL):=⟨oQ⟩
abbrev oB(s_0:List aE):Option ((List aE)):=
 some s_0
abbrev sM(n_1:Int):Option ((List aE)):=
 (bif (decide (0<(IntKind.i64.wrap (n_1-(IntKind.i64.wrap (((0:Nat):Int)-((0:Nat):Int))))))) then
  ((chk (((0:Nat):Int)==0)).bind fun _=>
  ((chk (decide (0<(IntKind.i64.wrap (n_1-(IntKind.i64.wrap (((0:Nat):Int)-((0:Nat):Int))))))&&decide ((IntKind.i64.wrap (n_1-(IntKind.i64.wrap (((0:Nat):Int)-((0:Nat):Int)))))≤4294967296))).bind fun _=>
  ((chk (((0:Nat):Int)==0)).bind fun _=>
  oB [])))
 else
  oB [])
def qC(n_1:Int):Option ((List aE)):=
 (bif (decide (n_1<0)) then
  none
 else
  sM n_1)
theorem aPg{n_1:Int}{r:(List aE)}(hm:qC n_1=some r):fS prog 172 [.v (.slice none 0 0),.v (.int .i64 n_1)] 3 (r.flatMap aV) r.length:=by
 refine fS.of_body func172 rfl (cI.fmdat r) ?_;simp only [ntmps172,List.length_cons,List.length_nil,Nat.reduceAdd,Nat.reduceSub,iO];unfold qC at hm;refine sN 64 (pA ?_);refine fs (AWp.seqJ (fun s=> ∃(n_1:Int),s=(⟨27,(aF (aF (fun _=>AV.any) 0 (.v (.slice none 0 0))) 1 (.v (.int .i64 n_1))),⟨aY,64⟩⟩:St)∧sM n_1=some r) ?_ ?_)
 ·
  refine sN 128 ?_
  iterate 2 refine pA ?_
  refine fs (AWp.condM hm Z1 (fun _ hm=>?_) (fun _ hm=>?_))
  · cases hm
  · refine AWp.skip (pH ?_);refine ⟨_,?_,n_1,rfl,hm⟩;exact cP id (wV (wV dT)) aXo
 ·
  rintro s ⟨n_1,rfl,hm⟩;unfold sM at hm;refine AWp.seqJ (fun s=> ∃(s_0:List aE),s=(⟨27,(aF (fun _=>AV.any) 0 (.own 1 0 s_0.length)),⟨(upd aY 1 (.cells 3 (s_0.flatMap aV) 0)),64⟩⟩:St)∧oB s_0=some r) ?_ ?_
  ·
   refine sN 128 ?_
   iterate 2 refine pA ?_
   refine pu rfl (bGi underlying28 Z1) ?_
   iterate 5 refine pA ?_
   refine fs (sN 192 ?_)
   iterate 2 refine pA ?_
   refine fs (AWp.condM hm Z1 (fun _ hm=>?_) (fun _ hm=>?_))
   ·
    refine AWp.reg 64 (N':=256) rfl ?_
    iterate 2 refine pA ?_
    refine pu rfl (bGi underlying28 Z1) ?_;obtain ⟨_,h3,hm⟩:=bnd hm;refine pu rfl (bN0 underlying28 aO2 Z1 Z1 (eq_of_beq (vF h3))) ?_;refine pA ?_;obtain ⟨_,h4,hm⟩:=bnd hm;refine hp (id:=197) rfl rfl (bRv underlying28 underlying3 rfl bOu bRc (by rw [aV9];decide) (by rw [aV9];decide) bRd Zd Zd Z1 Z1 Z5 h4) ?_
    iterate 2 refine pA ?_
    obtain ⟨_,h8,hm⟩:=bnd hm;refine pu rfl (bS1 underlying28 aO2 Z1 Z3 Z1 (eq_of_beq (vF h8))) ?_;refine pA ?_;refine aR.fin (pH ?_);refine ⟨_,?_,[],rfl,hm⟩;refine St.Le.trans (bUy 197 Z3) ?_;exact cP (fun j=>bif j==1 then 197 else 0) (wO dT) (hW (eU cI dC))
   · refine AWp.skip (pH ?_);refine ⟨_,?_,[],rfl,hm⟩;refine St.Le.trans (aAq 0 900000 3 Z1 Z5) ?_;exact cP (fun j=>bif j==1 then 900000 else 0) (wO dT) (hW (eU cI dC))
  ·
   rintro s ⟨s_0,rfl,hm⟩;unfold oB at hm;refine sN 128 ?_
   iterate 2 refine pA ?_
   refine fs (AWp.ret ?_);cases hm;exact aNo (.inr rfl) Tryz.results172 Z1 Z3 Z6
abbrev vD(rec1:List (List aE)→Int→List (List aE)→Int→Int→Option ((List aE)))(iW:List (List aE))(aB0:Int)(t9:List (List aE))(t10:Int)(t11:Int):Option ((List aE)):=
 rec1 iW aB0 t9 t10 (IntKind.i64.wrap (t11+1))
def vC(rec2:List aE→List (List aE)→Int→Int→Option ((List aE)))(xC:List aE)(t25:List (List aE))(t26:Int)(t27:Int):Option ((List aE)):=
 (bif (decide (t27<t26)) then
  ((idx t25 t27).bind fun x6=>
  ((app xC x6).bind fun l8=>
  rec2 l8 t25 t26 (IntKind.i64.wrap (t27+1))))
 else
  some xC)
def mD:Nat→List aE→List (List aE)→Int→Int→Option ((List aE))
 |0=>fun _ _ _ _=>none
 |n+1=>vC (mD n)
def uZ(rec1:List (List aE)→Int→List (List aE)→Int→Int→Option ((List aE)))(iW:List (List aE))(aB0:Int)(t9:List (List aE))(t10:Int)(t11:Int):Option ((List aE)):=
 (bif (decide (t11<t10)) then
  ((idx t9 t11).bind fun x2=>
  (bif (decide ((IntKind.i64.wrap (aB0+(x2.length:Int)))<0)) then
   none
  else
   vD rec1 iW (IntKind.i64.wrap (aB0+(x2.length:Int))) t9 t10 t11))
 else
  ((qC aB0).bind fun r4=>
  mD aW r4 iW (iW.length:Int) 0))
def kO:Nat→List (List aE)→Int→List (List aE)→Int→Int→Option ((List aE))
 |0=>fun _ _ _ _ _=>none
 |n+1=>uZ (kO n)
def lF(iW:List (List aE)):Option ((List aE)):=
 kO aW iW 0 iW (iW.length:Int) 0
theorem xJ{iW:List (List aE)}{r:(List aE)}(hm:lF iW=some r):bY prog 142 [.sl (iW.flatMap (csl aV)) iW.length false] (vl aV r):=by
 refine bd 36 func142 ?_;refine W ?_;refine lp (fun m s=> ∃iW aB0 t9 t10 t11,s=⟨36,(aF (aF (aF (aF (aF fa 0 (.sl (iW.flatMap (csl aV)) iW.length false)) 3 (vi aB0)) 9 (.sl (t9.flatMap (csl aV)) t9.length false)) 10 (vi t10)) 11 (vi t11)),⟨aY,64⟩⟩∧kO m iW aB0 t9 t10 t11=some r) L ?_;rintro n1 s ⟨iW,aB0,t9,t10,t11,rfl,hm⟩;refine W ?_;refine cm hm (fun hm=>?_) fun hm=>?_
 ·
  refine V ?_;refine AWp.seqJ (fun s=> ∃iW aB0 t9 t10 t11,s=⟨36,(aF (aF (aF (aF (aF fa 0 (.sl (iW.flatMap (csl aV)) iW.length false)) 3 (vi aB0)) 9 (.sl (t9.flatMap (csl aV)) t9.length false)) 10 (vi t10)) 11 (vi t11)),⟨aY,64⟩⟩∧vD (kO n1) iW aB0 t9 t10 t11=some r) ?_ ?_
  ·
   obtain ⟨x2,h1,hm⟩:=bnd hm;refine W ?_;refine cm hm (fun hm=>?_) fun hm=>?_
   · cases hm
   exact L
  rintro s ⟨iW,aB0,t9,t10,t11,rfl,hm⟩;exact L
 obtain ⟨r4,h3,hm⟩:=bnd hm;refine W ?_;refine aR.callF (id:=129) Zd Z1 cA6 (fun H=>(cV (cV .nil))) cI Z5 (aPg h3) ?_;refine W ?_;refine lp (fun m s=> ∃xC t25 t26 t27,s=⟨36,(aF (aF (aF (aF fa 6 (.own 1 0 xC.length)) 25 (.sl (t25.flatMap (csl aV)) t25.length false)) 26 (vi t26)) 27 (vi t27)),⟨(upd aY 1 (.cells 3 (xC.flatMap aV) 0)),64⟩⟩∧mD m xC t25 t26 t27=some r) (Lr (fun j=>bif j==1 then 129 else 0)) ?_;rintro n2 s ⟨xC,t25,t26,t27,rfl,hm⟩;refine W ?_;refine cm hm (fun hm=>?_) fun hm=>?_
 · obtain ⟨x6,h5,hm⟩:=bnd hm;obtain ⟨l8,h7,hm⟩:=bnd hm;refine W ?_;exact Lr (fun j=>bif j==1 then 194 else 0)
 exact E
instance:Ct prog 142 (K1 prog (vl (csl aV)) (vl aV) 142 lF):=⟨fun hm=>xJ hm⟩
def wE(n_0:Int)(l_1:List aE)(u_2:Int)(v_3:Int):Option ((List aE)×Int):=
 ((kN n_0 l_1).bind fun r2=>
 ((eG ((!r2)==false) false (iL n_0 u_2)).bind fun r4=>
 ((eG (((!r2)||(!r4))==false) false (iL n_0 v_3)).bind fun r6=>
 (bif (((!r2)||(!r4))||(!r6)) then
  some (l_1,1)
 else
  ((qU l_1 u_2 v_3).bind fun ⟨r8,r9⟩=>
  (bif (!r9) then
   some (l_1,9)
  else
   ((slc l_1 0 r8).bind fun l11=>
   ((slc l_1 (IntKind.i64.wrap (r8+1)) (l_1.length:Int)).bind fun l13=>
   ((lF [l11,l13]).bind fun r15=>
   some (r15,0))))))))))
theorem aV8{n_0:Int}{l_1:List aE}{u_2:Int}{v_3:Int}{r:(List aE)×Int}(hm:wE n_0 l_1 u_2 v_3=some r):bY prog 99 [vi n_0,vl aV l_1,vi u_2,vi v_3] (.tup [vl aV r.1,vi r.2]):=by
 refine bd 48 func99 ?_;obtain ⟨r2,h1,hm⟩:=bnd hm;refine W ?_;refine cq (aD5 h1) ?_;obtain ⟨r4,h3,hm⟩:=bnd hm;refine W ?_;refine cg (fun hb=>oQ (kR h3 hb)) ?_;obtain ⟨r6,h5,hm⟩:=bnd hm;refine W ?_;refine cg (fun hb=>oQ (kR h5 hb)) ?_;refine W ?_;refine cm hm (fun hm=>?_) fun hm=>?_
 · exact E
 refine W ?_;obtain ⟨⟨r8,r9⟩,h7,hm⟩:=bnd hm;refine cq (aHj h7) ?_;refine W ?_;refine cm hm (fun hm=>?_) fun hm=>?_
 · exact E
 obtain ⟨l11,h10,hm⟩:=bnd hm;obtain ⟨l13,h12,hm⟩:=bnd hm
 iterate 10 refine S1 ?_
 refine aR.pop Zd (aJm (ps:=[(0,.sl (l11.flatMap aV) l11.length (false&&(r8:Int).toNat==l_1.length)),(1,.sl (l13.flatMap aV) l13.length (false&&((l_1.length:Int):Int).toNat==l_1.length))]) (by simp only [go_sem,Nat.reduceBEq];try rfl) (aG8 (cI.sl _ _ _) (aG8 (cI.sl _ _ _) aXd))) (aT9 (CFl cI) (l:=[l11,l13]) (xs:=[.sl (l11.flatMap aV) l11.length (false&&(r8:Int).toNat==l_1.length),.sl (l13.flatMap aV) l13.length (false&&((l_1.length:Int):Int).toNat==l_1.length)]) underlying249 bVm bZd Zd Zd Zd (ps:=[(0,.sl (l11.flatMap aV) l11.length (false&&(r8:Int).toNat==l_1.length)),(1,.sl (l13.flatMap aV) l13.length (false&&((l_1.length:Int):Int).toNat==l_1.length))]) (by simp only [go_sem,Nat.reduceBEq];try rfl) (by kernel_rfl) (fun H=>(.cons (tdf rfl (cI.sl _ _ _)) (.cons (tdf rfl (cI.sl _ _ _)) .nil)))) rfl ?_;obtain ⟨r15,h14,hm⟩:=bnd hm;refine cq (xJ h14) ?_;exact E
instance:Ct prog 99 (K4 prog vi (vl aV) vi vi (t2 (vl aV) vi) 99 wE):=⟨fun hm=>aV8 hm⟩
def aK9(rec1:List aE→aE→Int→Option ((List aE)×Int))(l_1:List aE)(gM:aE)(nV:Int):Option ((List aE)×Int):=
 ((eG ((decide (nV<(l_1.length:Int)))==true) (aE.mk 0 0 0) (idx l_1 nV)).bind fun x11=>
 ((eG ((decide (nV<(l_1.length:Int)))==true) false (xB x11 gM)).bind fun r13=>
 (bif ((decide (nV<(l_1.length:Int)))&&r13) then
  rec1 l_1 gM (IntKind.i64.wrap (nV+1))
 else
  ((slc l_1 0 nV).bind fun l15=>
  ((slc l_1 nV (l_1.length:Int)).bind fun l17=>
  ((lF [l15,[gM],l17]).bind fun r19=>
  some (r19,0)))))))
def aC3:Nat→List aE→aE→Int→Option ((List aE)×Int)
 |0=>fun _ _ _=>none
 |n+1=>aK9 (aC3 n)
def aEc(n_0:Int)(l_1:List aE)(u_2:Int)(v_3:Int):Option ((List aE)×Int):=
 ((kN n_0 l_1).bind fun r2=>
 ((eG ((!r2)==false) false (iL n_0 u_2)).bind fun r4=>
 ((eG (((!r2)||(!r4))==false) false (iL n_0 v_3)).bind fun r6=>
 (bif (((!r2)||(!r4))||(!r6)) then
  some (l_1,1)
 else
  (bif (u_2==v_3) then
   some (l_1,8)
  else
   ((qU l_1 u_2 v_3).bind fun ⟨r8,r9⟩=>
   (bif r9 then
    some (l_1,4)
   else
    aC3 aW l_1 (aE.mk (if v_3<u_2 then v_3 else u_2) (if u_2<v_3 then v_3 else u_2) 0) 0)))))))
theorem bG3{n_0:Int}{l_1:List aE}{u_2:Int}{v_3:Int}{r:(List aE)×Int}(hm:aEc n_0 l_1 u_2 v_3=some r):bY prog 102 [vi n_0,vl aV l_1,vi u_2,vi v_3] (.tup [vl aV r.1,vi r.2]):=by
 refine bd 75 func102 ?_;obtain ⟨r2,h1,hm⟩:=bnd hm;refine W ?_;refine cq (aD5 h1) ?_;obtain ⟨r4,h3,hm⟩:=bnd hm;refine W ?_;refine cg (fun hb=>oQ (kR h3 hb)) ?_;obtain ⟨r6,h5,hm⟩:=bnd hm;refine W ?_;refine cg (fun hb=>oQ (kR h5 hb)) ?_;refine W ?_;refine cm hm (fun hm=>?_) fun hm=>?_
 · exact E
 refine W ?_;refine cm hm (fun hm=>?_) fun hm=>?_
 · exact E
 refine W ?_;obtain ⟨⟨r8,r9⟩,h7,hm⟩:=bnd hm;refine cq (aHj h7) ?_;refine W ?_;refine cm hm (fun hm=>?_) fun hm=>?_
 · exact E
 refine W ?_;refine bU (.agg [.v (.int .i64 (if v_3<u_2 then v_3 else u_2)),.v (.int .i64 (if u_2<v_3 then v_3 else u_2)),vi 0]) ?_;refine W ?_;refine lp (fun m s=> ∃l_1 gM nV,s=⟨75,(aF (aF (aF fa 1 (vl aV l_1)) 12 (.adr 1 0)) 13 (vi nV)),⟨(upd aY 1 (.cells 1 [vi gM.U,vi gM.V,vi gM.Tier] 0)),64⟩⟩∧aC3 m l_1 gM nV=some r) (Lr (fun j=>bif j==1 then 327 else 0)) ?_;rintro n1 s ⟨l_1,gM,nV,rfl,hm⟩;obtain ⟨x11,h10,hm⟩:=bnd hm;obtain ⟨r13,h12,hm⟩:=bnd hm;refine W ?_;refine cg (fun hb=>aT2 (kR h12 hb)) ?_;refine W ?_;refine cm hm (fun hm=>?_) fun hm=>?_
 · refine W ?_;exact Lr (fun j=>bif j==1 then 1 else 0)
 obtain ⟨l15,h14,hm⟩:=bnd hm
 iterate 10 refine S1 ?_
 refine aR.pop Zd (aJm (ps:=[(0,.agg [.v (.int .i64 gM.U),.v (.int .i64 gM.V),.v (.int .i64 gM.Tier)])]) (by simp only [go_sem,Nat.reduceBEq];try rfl) (aG8 (.agg _ (cI.dat gM)) aXd)) (aT9 cI (l:=[gM]) (xs:=[.v (.int .i64 gM.U),.v (.int .i64 gM.V),.v (.int .i64 gM.Tier)]) underlying28 aO2 aZk Zd Zd Zd (ps:=[(0,.agg [.v (.int .i64 gM.U),.v (.int .i64 gM.V),.v (.int .i64 gM.Tier)])]) (by simp only [go_sem,Nat.reduceBEq];try rfl) (by kernel_rfl) (fun H=>(.cons (.data _ (.v _)) (.cons (.data _ (.v _)) (.cons (.data _ (.v _)) .nil))))) rfl ?_;obtain ⟨l17,h16,hm⟩:=bnd hm
 iterate 3 refine S1 ?_
 refine aR.pop Zd (aJm (ps:=[(0,.sl (l15.flatMap aV) l15.length (false&&(nV:Int).toNat==l_1.length)),(1,.sl (([gM]).flatMap aV) ([gM]).length false),(2,.sl (l17.flatMap aV) l17.length (false&&((l_1.length:Int):Int).toNat==l_1.length))]) (by simp only [go_sem,Nat.reduceBEq];try rfl) (aG8 (cI.sl _ _ _) (aG8 (cI.sl _ _ _) (aG8 (cI.sl _ _ _) aXd)))) (aT9 (CFl cI) (l:=[l15,[gM],l17]) (xs:=[.sl (l15.flatMap aV) l15.length (false&&(nV:Int).toNat==l_1.length),.sl (([gM]).flatMap aV) ([gM]).length false,.sl (l17.flatMap aV) l17.length (false&&((l_1.length:Int):Int).toNat==l_1.length)]) underlying249 bVm bZd Zd Zd Zd (ps:=[(0,.sl (l15.flatMap aV) l15.length (false&&(nV:Int).toNat==l_1.length)),(1,.sl (([gM]).flatMap aV) ([gM]).length false),(2,.sl (l17.flatMap aV) l17.length (false&&((l_1.length:Int):Int).toNat==l_1.length))]) (by simp only [go_sem,Nat.reduceBEq];try rfl) (by kernel_rfl) (fun H=>(.cons (tdf rfl (cI.sl _ _ _)) (.cons (.data _ (cI.sl _ _ _)) (.cons (tdf rfl (cI.sl _ _ _)) .nil))))) rfl ?_;obtain ⟨r19,h18,hm⟩:=bnd hm;refine cq (xJ h18) ?_;exact E
instance:Ct prog 102 (K4 prog vi (vl aV) vi vi (t2 (vl aV) vi) 102 aEc):=⟨fun hm=>bG3 hm⟩
def aHw(rec1:List bW→List bW→Int→Option (Bool))(a_0:List bW)(b_1:List bW)(i_5:Int):Option (Bool):=
 (bif (decide (i_5<(a_0.length:Int))) then
  ((idx a_0 i_5).bind fun x2=>
  ((idx b_1 i_5).bind fun x4=>
  (bif (!((x2.A==x4.A)&&(x2.B==x4.B))) then
   some false
  else
   rec1 a_0 b_1 (IntKind.i64.wrap (i_5+1)))))
 else
  some true)
def zY:Nat→List bW→List bW→Int→Option (Bool)
 |0=>fun _ _ _=>none
 |n+1=>aHw (zY n)
def aBv(a_0:List bW)(b_1:List bW):Option (Bool):=
 (bif ((a_0.length:Int) !=(b_1.length:Int)) then
  some false
 else
  zY aW a_0 b_1 0)
theorem bC4:K2 prog (vl cL) (vl cL) vb 150 aBv:=by
 intro a_0 b_1 r hm
 let I1:=((fun m s=> ∃a_0 b_1 i_5,s=⟨26,(aF (aF (aF fa 0 (vl cL a_0)) 1 (vl cL b_1)) 5 (vi i_5)),⟨aY,64⟩⟩∧zY m a_0 b_1 i_5=some r):Nat→St→Prop)
 exact be 26 func150 (h:=G)
instance:Ct prog 150 (K2 prog (vl cL) (vl cL) vb 150 aBv):=⟨bC4⟩
def aBw(a_0:aJ)(b_1:aJ):Option (Bool):=
 ((eG (((a_0.Config.N==b_1.Config.N)&&((a_0.Config.L==b_1.Config.L)&&(a_0.Config.R==b_1.Config.R)))==true) false (aBv a_0.Hashes b_1.Hashes)).bind fun r2=>
 ((eG ((((a_0.Config.N==b_1.Config.N)&&((a_0.Config.L==b_1.Config.L)&&(a_0.Config.R==b_1.Config.R)))&&r2)==true) false (aBt a_0.Edges b_1.Edges)).bind fun r4=>
 some ((((a_0.Config.N==b_1.Config.N)&&((a_0.Config.L==b_1.Config.L)&&(a_0.Config.R==b_1.Config.R)))&&r2)&&r4)))
theorem bC5:K2 prog dR dR vb 112 aBw:=fun hm=>be 24 func112 (h:=G)
instance:Ct prog 112 (K2 prog dR dR vb 112 aBw):=⟨bC5⟩
abbrev aD4(rec1:Int→List Int→List aE→Int→Int→Option ((List Int)))(v_2:Int)(aFq:List Int)(t20:List aE)(t21:Int)(t22:Int):Option ((List Int)):=
 rec1 v_2 aFq t20 t21 (IntKind.i64.wrap (t22+1))
def aIa(rec1:Int→List Int→List aE→Int→Int→Option ((List Int)))(v_2:Int)(aFq:List Int)(t20:List aE)(t21:Int)(t22:Int):Option ((List Int)):=
 (bif (decide (t22<t21)) then
  ((idx t20 t22).bind fun x6=>
  (bif (v_2==x6.U) then
   ((app aFq [x6.V]).bind fun l8=>
   aD4 rec1 v_2 l8 t20 t21 t22)
  else
   (bif (v_2==x6.V) then
    ((app aFq [x6.U]).bind fun l10=>
    aD4 rec1 v_2 l10 t20 t21 t22)
   else
    aD4 rec1 v_2 aFq t20 t21 t22)))
 else
  some aFq)
def aA8:Nat→Int→List Int→List aE→Int→Int→Option ((List Int))
 |0=>fun _ _ _ _ _=>none
 |n+1=>aIa (aA8 n)
def aFd(n_0:Int)(l_1:List aE)(v_2:Int):Option ((List Int)):=
 ((kN n_0 l_1).bind fun r2=>
 ((eG ((!r2)==false) false (iL n_0 v_2)).bind fun r4=>
 (bif ((!r2)||(!r4)) then
  some []
 else
  aA8 aW v_2 [] l_1 (l_1.length:Int) 0)))
theorem bCo:K3 prog vi (vl aV) vi (vl (ci .i64)) 122 aFd:=by
 intro n_0 l_1 v_2 r hm
 let I1:=((fun m s=> ∃v_2 aFq t20 t21 t22,s=⟨47,(aF (aF (aF (aF (aF fa 2 (vi v_2)) 7 (.own 1 0 aFq.length)) 20 (vl aV t20)) 21 (vi t21)) 22 (vi t22)),⟨(upd aY 1 (.cells 1 (aFq.flatMap (ci .i64)) 0)),64⟩⟩∧aA8 m v_2 aFq t20 t21 t22=some r):Nat→St→Prop)
 exact be 47 func122 (h:=G)
instance:Ct prog 122 (K3 prog vi (vl aV) vi (vl (ci .i64)) 122 aFd):=⟨bCo⟩
def uR(g_0:aJ)(kB:Int)(v_2:Int):Option ((List Int)):=
 ((gY g_0).bind fun r2=>
 (bif (((((!r2)||(decide (kB<0)))||(decide (g_0.Config.L<kB)))||(decide (v_2<0)))||(decide (g_0.Config.N≤v_2))) then
  some []
 else
  ((rV g_0 kB v_2).bind fun r4=>
  some r4)))
theorem aZ1:K3 prog dR vi vi (vl (ci .i64)) 173 uR:=fun hm=>be 36 func173 (h:=G)
instance:Ct prog 173 (K3 prog dR vi vi (vl (ci .i64)) 173 uR):=⟨aZ1⟩
abbrev aAo(rec1:aE→aE→List aE→Int→Int→Option (aE×Bool))(t2:aE)(kI:aE)(t15:List aE)(t16:Int)(t17:Int):Option (aE×Bool):=
 rec1 t2 kI t15 t16 (IntKind.i64.wrap (t17+1))
def aAn(rec1:aE→aE→List aE→Int→Int→Option (aE×Bool))(t2:aE)(kI:aE)(t15:List aE)(t16:Int)(t17:Int):Option (aE×Bool):=
 (bif (decide (t17<t16)) then
  ((idx t15 t17).bind fun x6=>
  ((eG (((decide (kI.Tier<x6.Tier))==false)&&((x6.Tier==kI.Tier)==true)) false (xB kI x6)).bind fun r8=>
  (bif ((decide (kI.Tier<x6.Tier))||((x6.Tier==kI.Tier)&&r8)) then
   aAo rec1 t2 x6 t15 t16 t17
  else
   aAo rec1 t2 kI t15 t16 t17)))
 else
  some (kI,true))
def oX:Nat→aE→aE→List aE→Int→Int→Option (aE×Bool)
 |0=>fun _ _ _ _ _=>none
 |n+1=>aAn (oX n)
def nK(l_0:List aE):Option (aE×Bool):=
 (bif ((l_0.length:Int)==0) then
  some ((aE.mk 0 0 0),false)
 else
  ((idx l_0 0).bind fun x2=>
  ((slc l_0 1 (l_0.length:Int)).bind fun l4=>
  oX aW (aE.mk 0 0 0) x2 l4 (l4.length:Int) 0)))
theorem aR7:K1 prog (vl aV) (t2 aFz vb) 175 nK:=by
 intro l_0 r hm
 let I1:=((fun m s=> ∃t2 kI t15 t16 t17,s=⟨41,(aF (aF (aF (aF (aF fa 2 (.adr 1 0)) 4 (.adr 2 0)) 15 (vl aV t15)) 16 (vi t16)) 17 (vi t17)),⟨(upd (upd aY 1 (.cells 1 [vi t2.U,vi t2.V,vi t2.Tier] 0)) 2 (.cells 1 [vi kI.U,vi kI.V,vi kI.Tier] 0)),64⟩⟩∧oX m t2 kI t15 t16 t17=some r):Nat→St→Prop)
 exact be 41 func175 (h:=G)
instance:Ct prog 175 (K1 prog (vl aV) (t2 aFz vb) 175 nK):=⟨aR7⟩
def nZ(l:List aE):Option (List aE):=app [] l
theorem aM7{r:List aE}(hm:some []=some r):fS prog 223 [.v (.slice none 0 0)] 3 (r.flatMap aV) r.length:=by
 refine fS.of_body func223 rfl (cI.fmdat r) ?_;simp only [ntmps223,List.length_cons,List.length_nil,Nat.reduceAdd,Nat.reduceSub,iO];refine sN 64 (pA ?_);refine fs (AWp.seq' (sN 128 (pA ?_)));refine pu rfl (aC4 Z1 Z1 (aMn underlying28)) ?_;refine fs (AWp.condT Z1 ?_);refine sN 192 (pA ?_);refine fs (AWp.weaken (aAq 2 900002 3 Z1 Z5) ?_);refine AWp.ret (jF ?_);cases hm;exact aNo (.inr rfl) Tryz.results223 Z1 Z3 Z6
theorem aM8{a:Addr}{c:Nat}{r:List aE}(hm:((app [] []).bind fun l2=>
some l2)=some r):fS prog 223 [.v (.slice (some a) 0 c)] 3 (r.flatMap aV) r.length:=by
 refine fS.of_body func223 rfl (cI.fmdat r) ?_;simp only [ntmps223,List.length_cons,List.length_nil,Nat.reduceAdd,Nat.reduceSub,iO];refine sN 64 (pA ?_);refine fs (AWp.seq' (sN 128 (pA ?_)));refine pu rfl (aC4 Z1 Z1 (aKf underlying28)) ?_;refine fs (AWp.condF Z1 ?_);refine AWp.skip (bQ (sN 192 (hp (id:=128) rfl rfl (kZ cI (l:=[]) underlying28 aO2 aZk Z5 Zd Zd Zd (by simp only [go_sem,Nat.reduceBEq];try rfl) (by kernel_rfl)) ?_)));refine pA ?_;obtain ⟨l2,h1,hm⟩:=bnd hm;refine hp (id:=130) rfl rfl (wX cI underlying28 underlying28 rfl bOu bRc (by rw [aV9];decide) (by rw [aV9];decide) bRd Zd Zd Z1 Z3 Z6 (aRm Z1) rfl Z5 h1) ?_;refine pA ?_;refine fs (AWp.ret ?_);cases hm;exact aNo (.inr rfl) Tryz.results223 Z1 Z3 Z6
theorem aM9{x0:aE}{l0:List aE}{r:List aE}(hm:((app [] (x0::l0)).bind fun l2=>
some l2)=some r):fS prog 223 [.sl ((x0::l0).flatMap aV) (x0::l0).length false] 3 (r.flatMap aV) r.length:=by
 refine fS.of_body func223 rfl (cI.fmdat r) ?_;simp only [ntmps223,List.length_cons,List.length_nil,Nat.reduceAdd,Nat.reduceSub,iO];refine sN 64 (pA ?_);refine fs (AWp.seq' (sN 128 (pA ?_)));refine pu rfl (aC4 Z1 Z1 (aKe underlying28 (by simp))) ?_;refine fs (AWp.condF Z1 ?_);refine AWp.skip (bQ (sN 192 (hp (id:=128) rfl rfl (kZ cI (l:=[]) underlying28 aO2 aZk Z5 Zd Zd Zd (by simp only [go_sem,Nat.reduceBEq];try rfl) (by kernel_rfl)) ?_)));refine pA ?_;obtain ⟨l2,h1,hm⟩:=bnd hm;refine hp (id:=130) rfl rfl (wX cI underlying28 underlying28 rfl bOu bRc (by rw [aV9];decide) (by rw [aV9];decide) bRd Zd Zd Z1 Z3 Z6 (aVj cI Z1 rfl) rfl Z5 h1) ?_;refine pA ?_;refine fs (AWp.ret ?_);cases hm;exact aNo (.inr rfl) Tryz.results223 Z1 Z3 Z6
theorem aNw{l r:List aE}(hm:nZ l=some r):fS prog 223 [.sl (l.flatMap aV) l.length false] 3 (r.flatMap aV) r.length:=by
 cases l with
 |nil=>
  have hr:r=[]:=by unfold nZ app at hm;simpa using hm.symm
  subst hr;exact fS.nil_arg (aM7 (r:=[]) rfl) (fun a c=>aM8 (r:=[]) rfl)
 |cons x0 l0=>
  refine aM9 ?_;show (app [] (x0::l0)).bind _=_;unfold nZ at hm;rw [hm];rfl
def aB3(n_0:Int)(l_1:List aE)(u_2:Int)(v_3:Int)(aMi:Int):Option ((List aE)×Int):=
 ((kN n_0 l_1).bind fun r2=>
 ((eG ((!r2)==false) false (iL n_0 u_2)).bind fun r4=>
 ((eG (((!r2)||(!r4))==false) false (iL n_0 v_3)).bind fun r6=>
 ((eG ((((!r2)||(!r4))||(!r6))==false) false (sD aMi)).bind fun r8=>
 (bif ((((!r2)||(!r4))||(!r6))||(!r8)) then
  some (l_1,1)
 else
  ((qU l_1 u_2 v_3).bind fun ⟨r10,r11⟩=>
  (bif (!r11) then
   some (l_1,9)
  else
   ((nZ l_1).bind fun r13=>
   ((idx r13 r10).bind fun x15=>
   ((stt r13 r10 (aE.mk x15.U x15.V aMi)).bind fun l17=>
   some (l17,0)))))))))))
theorem bG4{n_0:Int}{l_1:List aE}{u_2:Int}{v_3:Int}{aMi:Int}{r:(List aE)×Int}(hm:aB3 n_0 l_1 u_2 v_3 aMi=some r):bY prog 176 [vi n_0,vl aV l_1,vi u_2,vi v_3,vi aMi] (.tup [vl aV r.1,vi r.2]):=by
 refine bd 55 func176 ?_;obtain ⟨r2,h1,hm⟩:=bnd hm;refine W ?_;refine cq (aD5 h1) ?_;obtain ⟨r4,h3,hm⟩:=bnd hm;refine W ?_;refine cg (fun hb=>oQ (kR h3 hb)) ?_;obtain ⟨r6,h5,hm⟩:=bnd hm;refine W ?_;refine cg (fun hb=>oQ (kR h5 hb)) ?_;obtain ⟨r8,h7,hm⟩:=bnd hm;refine W ?_;refine cg (fun hb=>aLf (kR h7 hb)) ?_;refine W ?_;refine cm hm (fun hm=>?_) fun hm=>?_
 · exact E
 refine W ?_;obtain ⟨⟨r10,r11⟩,h9,hm⟩:=bnd hm;refine cq (aHj h9) ?_;refine W ?_;refine cm hm (fun hm=>?_) fun hm=>?_
 · exact E
 obtain ⟨r13,h12,hm⟩:=bnd hm;refine W ?_;refine aR.callF (id:=257) Zd Z1 cAh (fun H=>(cD (cI.sl _ _ _) .nil)) cI Z5 (aNw h12) ?_;obtain ⟨x15,h14,hm⟩:=bnd hm;obtain ⟨l17,h16,hm⟩:=bnd hm;refine W ?_;have qh16:=nH h16;refine aR.heap0 (id:=325) rfl (bRw cI (off:=2) (y:=x15) (y':=(aE.mk x15.U x15.V aMi)) (cs:=[.v (.int .i64 aMi)]) sz3 Z1 Z1 Z3 rfl h14 rfl Zd Z9 rfl h16) ?_;exact E
instance:Ct prog 176 (K5 prog vi (vl aV) vi vi vi (t2 (vl aV) vi) 176 aB3):=⟨fun hm=>bG4 hm⟩
def vM(n_0:Int)(v_1:Int):Option (Bool):=
 some ((decide (0≤v_1))&&(decide (v_1<n_0)))
theorem aUk:K2 prog vi vi vb 220 vM:=fun hm=>be 12 func220 (h:=G)
instance:Ct prog 220 (K2 prog vi vi vb 220 vM):=⟨aUk⟩
attribute [local semireducible] aW
end Go.Proofs.YtkdohhmacfoolaaGreatDoor
