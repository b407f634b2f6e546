/- Facts. No condition. -/
import Derived.Test.YtkdohhmacfoolaaGreatDoorPeGA1
set_option linter.unusedVariables false
set_option linter.unusedSimpArgs false
set_option maxRecDepth 20000
set_option maxHeartbeats 4000000
namespace Go.Proofs.YtkdohhmacfoolaaGreatDoor
open Go.Proofs.Tryz Go Go.AM
attribute [local irreducible] aW
structure aT where
 R:Int
 V:Int
 Words:List Int
deriving DecidableEq
def yR(e:aT):List AV:=[.v (.int .i64 e.R),.v (.int .i64 e.V),.sl (e.Words.flatMap (ci .u64)) e.Words.length false]
theorem aQv:CF yR 3:=⟨fun _=>rfl,fun a x hx=>by
 simp only [yR,List.mem_cons,List.not_mem_nil,or_false] at hx;rcases hx with rfl|rfl|rfl
 · exact (.v _)
 · exact (.v _)
 · exact ((CFi .u64).sl _ _ _),fun _=>rfl⟩
instance:CC yR 3:=⟨aQv⟩
abbrev jP(e:aT):AV:= .agg [.v (.int .i64 e.R),vi e.V,vl (ci .u64) e.Words]
@[go_sem] theorem aLn(e:aT)(r:List AV):yR e++r= .v (.int .i64 e.R):: .v (.int .i64 e.V):: .sl (e.Words.flatMap (ci .u64)) e.Words.length false::r:=rfl
theorem bO0(x0 y0 x1 y1 x2 y2:Int):iH prog .eql 23 (.agg [.v (.int .i64 x0),.v (.int .i64 x1),.v (.int .i64 x2)]) (.agg [.v (.int .i64 y0),.v (.int .i64 y1),.v (.int .i64 y2)])=some (.v (.bool ((x0==y0)&&((x1==y1)&&(x2==y2))))):=
 (by kernel_rfl:iH prog .eql 23 (.agg [.v (.int .i64 x0),.v (.int .i64 x1),.v (.int .i64 x2)]) (.agg [.v (.int .i64 y0),.v (.int .i64 y1),.v (.int .i64 y2)])=some (.v (.bool ((x0==y0)&&((x1==y1)&&((x2==y2)&&true)))))).trans (by rw [Bool.and_true])
theorem bPx(x0 y0 x1 y1 x2 y2:Int):iH prog .neq 23 (.agg [.v (.int .i64 x0),.v (.int .i64 x1),.v (.int .i64 x2)]) (.agg [.v (.int .i64 y0),.v (.int .i64 y1),.v (.int .i64 y2)])=some (.v (.bool (!((x0==y0)&&((x1==y1)&&(x2==y2)))))):=
 (by kernel_rfl:iH prog .neq 23 (.agg [.v (.int .i64 x0),.v (.int .i64 x1),.v (.int .i64 x2)]) (.agg [.v (.int .i64 y0),.v (.int .i64 y1),.v (.int .i64 y2)])=some (.v (.bool (!((x0==y0)&&((x1==y1)&&((x2==y2)&&true))))))).trans (by rw [Bool.and_true])
attribute [go_sem] bO0 bPx
theorem bO2(x0 y0 x1 y1:Int):iH prog .eql 94 (.agg [.v (.int .u64 x0),.v (.int .u64 x1)]) (.agg [.v (.int .u64 y0),.v (.int .u64 y1)])=some (.v (.bool ((x0==y0)&&(x1==y1)))):=
 (by kernel_rfl:iH prog .eql 94 (.agg [.v (.int .u64 x0),.v (.int .u64 x1)]) (.agg [.v (.int .u64 y0),.v (.int .u64 y1)])=some (.v (.bool ((x0==y0)&&((x1==y1)&&true))))).trans (by rw [Bool.and_true])
theorem bPz(x0 y0 x1 y1:Int):iH prog .neq 94 (.agg [.v (.int .u64 x0),.v (.int .u64 x1)]) (.agg [.v (.int .u64 y0),.v (.int .u64 y1)])=some (.v (.bool (!((x0==y0)&&(x1==y1))))):=
 (by kernel_rfl:iH prog .neq 94 (.agg [.v (.int .u64 x0),.v (.int .u64 x1)]) (.agg [.v (.int .u64 y0),.v (.int .u64 y1)])=some (.v (.bool (!((x0==y0)&&((x1==y1)&&true)))))).trans (by rw [Bool.and_true])
attribute [go_sem] bO2 bPz
@[go_sem] theorem bEn(i o:Nat):aH prog 215 (.adr i o) 0=some (.adr i (o+0)):=by kernel_rfl
@[go_sem] theorem bEo(i o:Nat):aH prog 215 (.adr i o) 1=some (.adr i (o+1)):=by kernel_rfl
@[go_sem] theorem bEp(i o:Nat):aH prog 215 (.adr i o) 2=some (.adr i (o+2)):=by kernel_rfl
@[go_sem] theorem bJ2(i o:Nat):aH prog 23 (.adr i o) 0=some (.adr i (o+0)):=by kernel_rfl
@[go_sem] theorem bJ9(i o:Nat):aH prog 23 (.adr i o) 1=some (.adr i (o+1)):=by kernel_rfl
@[go_sem] theorem bJf(i o:Nat):aH prog 23 (.adr i o) 2=some (.adr i (o+2)):=by kernel_rfl
@[go_sem] theorem bJl(i o:Nat):aH prog 30 (.adr i o) 0=some (.adr i (o+0)):=by kernel_rfl
@[go_sem] theorem bJr(i o:Nat):aH prog 30 (.adr i o) 1=some (.adr i (o+3)):=by kernel_rfl
@[go_sem] theorem bJv(i o:Nat):aH prog 30 (.adr i o) 2=some (.adr i (o+4)):=by kernel_rfl
@[go_sem] theorem bKi(i o:Nat):aH prog 61 (.adr i o) 0=some (.adr i (o+0)):=by kernel_rfl
@[go_sem] theorem bKo(i o:Nat):aH prog 61 (.adr i o) 1=some (.adr i (o+1)):=by kernel_rfl
@[go_sem] theorem bKu(i o:Nat):aH prog 61 (.adr i o) 2=some (.adr i (o+2)):=by kernel_rfl
@[go_sem] theorem bL4(i o:Nat):aH prog 94 (.adr i o) 0=some (.adr i (o+0)):=by kernel_rfl
@[go_sem] theorem bL7(i o:Nat):aH prog 94 (.adr i o) 1=some (.adr i (o+1)):=by kernel_rfl
@[go_sem] theorem bP7(H:aG)(x0 x1 x2:AV)(xs:List AV):bT prog H 215 (.ptr (x0::x1::x2::xs))=some (.agg [x0,x1,x2]):=by kernel_rfl
@[go_sem] theorem bT5(H:aG)(x0 x1 x2:AV)(xs:List AV):bT prog H 23 (.ptr (x0::x1::x2::xs))=some (.agg [x0,x1,x2]):=by kernel_rfl
@[go_sem] theorem bT9(H:aG)(x:AV)(xs:List AV):bT prog H 24 (.ptr (x::xs))=some x:=by kernel_rfl
@[go_sem] theorem bTc(H:aG)(x:AV)(xs:List AV):bT prog H 27 (.ptr (x::xs))=some x:=by kernel_rfl
@[go_sem] theorem bTg(H:aG)(x:AV)(xs:List AV):bT prog H 28 (.ptr (x::xs))=some x:=by kernel_rfl
@[go_sem] theorem bXq(H:aG)(x:AV)(xs:List AV):bT prog H 3 (.ptr (x::xs))=some x:=by kernel_rfl
@[go_sem] theorem bTm(H:aG)(x0 x1 x2 x3 x4:AV)(xs:List AV):bT prog H 30 (.ptr (x0::x1::x2::x3::x4::xs))=some (.agg [x0,x1,x2,x3,x4]):=by kernel_rfl
@[go_sem] theorem bXy(H:aG)(x:AV)(xs:List AV):bT prog H 4 (.ptr (x::xs))=some x:=by kernel_rfl
@[go_sem] theorem bU5(H:aG)(x:AV)(xs:List AV):bT prog H 40 (.ptr (x::xs))=some x:=by kernel_rfl
@[go_sem] theorem bUd(H:aG)(x0 x1 x2:AV)(xs:List AV):bT prog H 61 (.ptr (x0::x1::x2::xs))=some (.agg [x0,x1,x2]):=by kernel_rfl
@[go_sem] theorem bUn(H:aG)(x0 x1:AV)(xs:List AV):bT prog H 94 (.ptr (x0::x1::xs))=some (.agg [x0,x1]):=by kernel_rfl
@[go_sem] theorem bIh(H:aG)(k:IntKind)(n:Int):mS prog H 3 40 (.v (.int k n))=some (.v (.int .u64 (IntKind.u64.wrap n))):=gJ underlying3 underlying40
@[go_sem] theorem bDz(H:aG)(k:IntKind)(n:Int):mS prog H 3 162 (.v (.int k n))=some (.v (.int .u64 (IntKind.u64.wrap n))):=gJ underlying3 underlying162
@[go_sem] theorem bNs(H:aG)(k:IntKind)(n:Int):mS prog H 5 3 (.v (.int k n))=some (.v (.int .i64 (IntKind.i64.wrap n))):=gJ underlying5 underlying3
@[go_sem] theorem bIk(H:aG)(k:IntKind)(n:Int):mS prog H 40 3 (.v (.int k n))=some (.v (.int .i64 (IntKind.i64.wrap n))):=gJ underlying40 underlying3
@[go_sem] theorem bDx(H:aG)(k:IntKind)(n:Int):mS prog H 277 5 (.v (.int k n))=some (.v (.int .u8 (IntKind.u8.wrap n))):=gJ underlying277 underlying5
abbrev aH3(rec1:List Bool→List aE→List aE→Int→Int→Option ((List aE)))(aC9:List Bool)(kC:List aE)(t8:List aE)(t9:Int)(t10:Int):Option ((List aE)):=
 rec1 aC9 kC t8 t9 (IntKind.i64.wrap (t10+1))
def aH2(rec1:List Bool→List aE→List aE→Int→Int→Option ((List aE)))(aC9:List Bool)(kC:List aE)(t8:List aE)(t9:Int)(t10:Int):Option ((List aE)):=
 (bif (decide (t10<t9)) then
  ((idx t8 t10).bind fun x2=>
  ((idx aC9 x2.U).bind fun x4=>
  ((idx aC9 x2.V).bind fun x6=>
  (bif (!(x4==x6)) then
   ((app kC [x2]).bind fun l8=>
   aH3 rec1 aC9 l8 t8 t9 t10)
  else
   aH3 rec1 aC9 kC t8 t9 t10))))
 else
  some kC)
def yV:Nat→List Bool→List aE→List aE→Int→Int→Option ((List aE))
 |0=>fun _ _ _ _ _=>none
 |n+1=>aH2 (yV n)
def aEr(l_0:List aE)(aC9:List Bool):Option ((List aE)):=
 yV aW aC9 [] l_0 (l_0.length:Int) 0
theorem aQ0:K2 prog (vl aV) (vl aPx) (vl aV) 214 aEr:=by
 intro l_0 aC9 r hm
 let I1:=((fun m s=> ∃aC9 kC t8 t9 t10,s=⟨31,(aF (aF (aF (aF (aF fa 1 (vl aPx aC9)) 5 (.own 1 0 kC.length)) 8 (vl aV t8)) 9 (vi t9)) 10 (vi t10)),⟨(upd aY 1 (.cells 3 (kC.flatMap aV) 0)),64⟩⟩∧yV m aC9 kC t8 t9 t10=some r):Nat→St→Prop)
 exact be 31 func214 (h:=G)
instance:Ct prog 214 (K2 prog (vl aV) (vl aPx) (vl aV) 214 aEr):=⟨aQ0⟩
def aOm(rec1:List aE→List Bool→List Int→Int→Int→Option ((List aE)×Int))(l_1:List aE)(bAq:List Bool)(t18:List Int)(t19:Int)(t20:Int):Option ((List aE)×Int):=
 (bif (decide (t20<t19)) then
  ((idx t18 t20).bind fun x6=>
  ((idx bAq x6).bind fun x8=>
  ((stt bAq x6 true).bind fun l10=>
  rec1 l_1 l10 t18 t19 (IntKind.i64.wrap (t20+1)))))
 else
  ((aEr l_1 bAq).bind fun r12=>
  some (r12,0)))
def aG3:Nat→List aE→List Bool→List Int→Int→Int→Option ((List aE)×Int)
 |0=>fun _ _ _ _ _=>none
 |n+1=>aOm (aG3 n)
def aIs(n_0:Int)(l_1:List aE)(aL8:List Int):Option ((List aE)×Int):=
 ((aKf n_0 l_1 aL8).bind fun r2=>
 (bif (!r2) then
  some ([],1)
 else
  ((mkc n_0 n_0 false).bind fun l4=>
  aG3 aW l_1 l4 aL8 (aL8.length:Int) 0)))
theorem bNm{n_0:Int}{l_1:List aE}{aL8:List Int}{r:(List aE)×Int}(hm:aIs n_0 l_1 aL8=some r):cE prog 164 [vi n_0,vl aV l_1,vl (ci .i64) aL8] (.tup [vl aV r.1,vi r.2]):=by
 refine bd 31 func164 ?_;obtain ⟨r2,h1,hm⟩:=bnd hm;refine W ?_;refine cq (aVu h1) ?_;refine W ?_;refine cm hm (fun hm=>?_) fun hm=>?_
 · exact E
 obtain ⟨l4,h3,hm⟩:=bnd hm;refine W ?_;refine aK CFb h3 ?_;refine W ?_;refine lp (fun m s=> ∃l_1 bAq t18 t19 t20,s=⟨31,(aF (aF (aF (aF (aF fa 1 (vl aV l_1)) 8 (.own 1 0 bAq.length)) 18 (vl (ci .i64) t18)) 19 (vi t19)) 20 (vi t20)),⟨(upd aY 1 (.cells 1 (bAq.flatMap aPx) 0)),64⟩⟩∧aG3 m l_1 bAq t18 t19 t20=some r) (Lr (fun j=>bif j==1 then 129 else 0)) ?_;rintro n1 s ⟨l_1,bAq,t18,t19,t20,rfl,hm⟩;refine W ?_;refine cm hm (fun hm=>?_) fun hm=>?_
 · obtain ⟨x6,h5,hm⟩:=bnd hm;obtain ⟨x8,h7,hm⟩:=bnd hm;obtain ⟨l10,h9,hm⟩:=bnd hm;refine W ?_;have qh9:=nF h9;refine aS h9 ?_;refine W ?_;exact Lr (fun j=>bif j==1 then 1 else 0)
 iterate 5 refine S1 ?_
 refine AWp.seq' ?_;refine AWp.weaken (aKj CFb 8 1 Z1 Z3 Z6) ?_;obtain ⟨r12,h11,hm⟩:=bnd hm;refine W ?_;refine cq (aQ0 h11) ?_;exact E
instance:Ct prog 164 (K3 prog vi (vl aV) (vl (ci .i64)) (t2 (vl aV) vi) 164 aIs):=⟨fun hm=>bNm hm⟩
def vV(g_0:aJ)(kA:Int)(v_2:Int):Option ((List aE)):=
 ((rT g_0 kA v_2).bind fun r2=>
 ((aIs g_0.Config.N g_0.Edges r2).bind fun ⟨r4,r5⟩=>
 some r4))
theorem aUy:K3 prog dQ vi vi (vl aV) 137 vV:=fun hm=>be 23 func137 (h:=G)
instance:Ct prog 137 (K3 prog dQ vi vi (vl aV) 137 vV):=⟨aUy⟩
def xL(x_0:Int):Option (Int):=
 ((aEn x_0).bind fun r2=>
 some r2)
theorem aVi{x_0:Int}{r:Int}(hm:xL x_0=some r):cE prog 160 [vu x_0] (vi r):=by
 refine bd 8 func160 ?_;refine W ?_;refine AWp.condF Z1 ?_;obtain ⟨r2,h1,hm⟩:=bnd hm;refine W ?_;refine cq (aPv h1) ?_;exact E
instance:Ct prog 160 (K1 prog vu vi 160 xL):=⟨fun hm=>aVi hm⟩
def vP(n_0:Int):Option (Int):=
 (bif (decide (n_0<1)) then
  some 0
 else
  ((xL (IntKind.u64.wrap (IntKind.i64.wrap (n_0-1)))).bind fun r2=>
  some (IntKind.i64.wrap ((IntKind.i64.wrap (2*r2))+2))))
theorem aUq:K1 prog vi vi 168 vP:=fun hm=>be 11 func168 (h:=G)
instance:Ct prog 168 (K1 prog vi vi 168 vP):=⟨aUq⟩
def oL(r_0:Int)(v_1:Int):Option (Bool):=
 some ((((decide (1≤r_0))&&(decide (r_0≤8)))&&(decide (1≤v_1)))&&(decide (v_1≤61)))
theorem aV3:K2 prog vi vi vb 216 oL:=fun hm=>be 19 func216 (h:=G)
instance:Ct prog 216 (K2 prog vi vi vb 216 oL):=⟨aV3⟩
def aF8(r_0:Int)(v_1:Int):Option (aT×Int):=
 ((oL r_0 v_1).bind fun r2=>
 (bif (!r2) then
  some ((aT.mk 0 0 []),1)
 else
  ((mkc (IntKind.i64.wrap (r_0*v_1)) (IntKind.i64.wrap (r_0*v_1)) 0).bind fun l4=>
  some ((aT.mk r_0 v_1 l4),0))))
theorem bCd:K2 prog vi vi (t2 jP vi) 167 aF8:=fun hm=>be 18 func167 (h:=G)
instance:Ct prog 167 (K2 prog vi vi (t2 jP vi) 167 aF8):=⟨bCd⟩
def rE(g_0:aJ)(kA:Int):Option ((List bW)):=
 ((slc g_0.Hashes (IntKind.i64.wrap (kA*g_0.Config.R)) (IntKind.i64.wrap ((IntKind.i64.wrap (kA*g_0.Config.R))+g_0.Config.R))).bind fun l2=>
 ((iP l2).bind fun r4=>
 some r4))
theorem aRe:K2 prog dQ vi (vl cL) 169 rE:=fun hm=>be 21 func169 (h:=G)
instance:Ct prog 169 (K2 prog dQ vi (vl cL) 169 rE):=⟨aRe⟩
def zN(v_0:Int):Option (Bool):=
 some ((decide (0≤v_0))&&(decide (v_0<16777216)))
theorem aYb:K1 prog vi vb 246 zN:=fun hm=>be 9 func246 (h:=G)
instance:Ct prog 246 (K1 prog vi vb 246 zN):=⟨aYb⟩
def aJg(u_0:Int)(v_1:Int):Option (Int×Int):=
 ((zN u_0).bind fun r2=>
 ((eK ((!r2)==false) false (zN v_1)).bind fun r4=>
 (bif ((!r2)||(!r4)) then
  some (0,1)
 else
  (bif (u_0==v_1) then
   some (0,8)
  else
   some ((IntKind.u64.wrap ((IntKind.u64.wrap ((IntKind.u64.wrap (if v_1<u_0 then v_1 else u_0))*16777216))+(IntKind.u64.wrap (if u_0<v_1 then v_1 else u_0)))),0)))))
theorem bPp:K2 prog vi vi (t2 vu vi) 217 aJg:=fun hm=>be 27 func217 (h:=G)
instance:Ct prog 217 (K2 prog vi vi (t2 vu vi) 217 aJg):=⟨bPp⟩
abbrev aPz(rec1:List Int→List aE→Int→Int→Option ((List Int)))(lJ:List Int)(t8:List aE)(t9:Int)(t10:Int):Option ((List Int)):=
 rec1 lJ t8 t9 (IntKind.i64.wrap (t10+1))
abbrev aIu(rec1:List Int→List aE→Int→Int→Option ((List Int)))(lJ:List Int)(cKb:Int)(t8:List aE)(t9:Int)(t10:Int):Option ((List Int)):=
 ((app lJ [cKb]).bind fun l7=>
 aPz rec1 l7 t8 t9 t10)
def aIt(rec1:List Int→List aE→Int→Int→Option ((List Int)))(lJ:List Int)(t8:List aE)(t9:Int)(t10:Int):Option ((List Int)):=
 (bif (decide (t10<t9)) then
  ((idx t8 t10).bind fun x2=>
  ((aJg x2.U x2.V).bind fun ⟨r4,r5⟩=>
  (bif (r5 !=0) then
   aIu rec1 lJ 0 t8 t9 t10
  else
   aIu rec1 lJ r4 t8 t9 t10)))
 else
  some lJ)
def aBd:Nat→List Int→List aE→Int→Int→Option ((List Int))
 |0=>fun _ _ _ _=>none
 |n+1=>aIt (aBd n)
def aDg(l_0:List aE):Option ((List Int)):=
 aBd aW [] l_0 (l_0.length:Int) 0
theorem bDu:K1 prog (vl aV) (vl (ci .u64)) 170 aDg:=by
 intro l_0 r hm
 let I1:=((fun m s=> ∃lJ t8 t9 t10,s=⟨30,(aF (aF (aF (aF fa 3 (.own 1 0 lJ.length)) 8 (vl aV t8)) 9 (vi t9)) 10 (vi t10)),⟨(upd aY 1 (.cells 1 (lJ.flatMap (ci .u64)) 0)),64⟩⟩∧aBd m lJ t8 t9 t10=some r):Nat→St→Prop)
 exact be 30 func170 (h:=G)
instance:Ct prog 170 (K1 prog (vl aV) (vl (ci .u64)) 170 aDg):=⟨bDu⟩
def rV(s_0:aT):Option (Bool):=
 ((oL s_0.R s_0.V).bind fun r2=>
 some (r2&&((s_0.Words.length:Int)==(IntKind.i64.wrap (s_0.R*s_0.V)))))
theorem aLa:K1 prog jP vb 166 rV:=fun hm=>be 19 func166 (h:=G)
instance:Ct prog 166 (K1 prog jP vb 166 rV):=⟨aLa⟩
def mB(l:List Int):Option (List Int):=app [] l
theorem aK0{r:List Int}(hm:some []=some r):fR prog 218 [.v (.slice none 0 0)] 1 (r.flatMap (ci .u64)) r.length:=by
 refine fR.of_body func218 rfl ((CFi .u64).fmdat r) ?_;simp only [ntmps218,List.length_cons,List.length_nil,Nat.reduceAdd,Nat.reduceSub,iN];refine sN 64 (pA ?_);refine fs (AWp.seq' (sN 128 (pA ?_)));refine pu rfl (aC2 Z1 Z1 (aMk underlying24)) ?_;refine fs (AWp.condT Z1 ?_);refine sN 192 (pA ?_);refine fs (AWp.weaken (aAn 2 900002 1 Z1 Z5) ?_);refine AWp.ret (jE ?_);cases hm;exact aNl (.inr rfl) Tryz.results218 Z1 Z3 Z6
theorem aK1{a:Addr}{c:Nat}{r:List Int}(hm:((app [] []).bind fun l2=>
some l2)=some r):fR prog 218 [.v (.slice (some a) 0 c)] 1 (r.flatMap (ci .u64)) r.length:=by
 refine fR.of_body func218 rfl ((CFi .u64).fmdat r) ?_;simp only [ntmps218,List.length_cons,List.length_nil,Nat.reduceAdd,Nat.reduceSub,iN];refine sN 64 (pA ?_);refine fs (AWp.seq' (sN 128 (pA ?_)));refine pu rfl (aC2 Z1 Z1 (aKd underlying24)) ?_;refine fs (AWp.condF Z1 ?_);refine AWp.skip (bQ (sN 192 (hp (id:=128) rfl rfl (kY (CFi .u64) (l:=[]) underlying24 aNy bVq Z5 Zd Zd Zd (by simp only [go_sem,Nat.reduceBEq];try rfl) (by kernel_rfl)) ?_)));refine pA ?_;obtain ⟨l2,h1,hm⟩:=bnd hm;refine hp (id:=130) rfl rfl (wX (CFi .u64) underlying24 underlying24 rfl bXn bYz (by rw [bM7];decide) (by rw [bM7];decide) bZ1 Zd Zd Z1 Z3 Z6 (aRj Z1) rfl Z5 h1) ?_;refine pA ?_;refine fs (AWp.ret ?_);cases hm;exact aNl (.inr rfl) Tryz.results218 Z1 Z3 Z6
theorem aK2{x0:Int}{l0:List Int}{r:List Int}(hm:((app [] (x0::l0)).bind fun l2=>
some l2)=some r):fR prog 218 [.sl ((x0::l0).flatMap (ci .u64)) (x0::l0).length false] 1 (r.flatMap (ci .u64)) r.length:=by
 refine fR.of_body func218 rfl ((CFi .u64).fmdat r) ?_;simp only [ntmps218,List.length_cons,List.length_nil,Nat.reduceAdd,Nat.reduceSub,iN];refine sN 64 (pA ?_);refine fs (AWp.seq' (sN 128 (pA ?_)));refine pu rfl (aC2 Z1 Z1 (aKc underlying24 (by simp))) ?_;refine fs (AWp.condF Z1 ?_);refine AWp.skip (bQ (sN 192 (hp (id:=128) rfl rfl (kY (CFi .u64) (l:=[]) underlying24 aNy bVq Z5 Zd Zd Zd (by simp only [go_sem,Nat.reduceBEq];try rfl) (by kernel_rfl)) ?_)));refine pA ?_;obtain ⟨l2,h1,hm⟩:=bnd hm;refine hp (id:=130) rfl rfl (wX (CFi .u64) underlying24 underlying24 rfl bXn bYz (by rw [bM7];decide) (by rw [bM7];decide) bZ1 Zd Zd Z1 Z3 Z6 (aVh (CFi .u64) Z1 rfl) rfl Z5 h1) ?_;refine pA ?_;refine fs (AWp.ret ?_);cases hm;exact aNl (.inr rfl) Tryz.results218 Z1 Z3 Z6
theorem aKx{l r:List Int}(hm:mB l=some r):fR prog 218 [.sl (l.flatMap (ci .u64)) l.length false] 1 (r.flatMap (ci .u64)) r.length:=by
 cases l with
 |nil=>
  have hr:r=[]:=by unfold mB app at hm;simpa using hm.symm
  subst hr;exact fR.nil_arg (aK0 (r:=[]) rfl) (fun a c=>aK1 (r:=[]) rfl)
 |cons x0 l0=>
  refine aK2 ?_;show (app [] (x0::l0)).bind _=_;unfold mB at hm;rw [hm];rfl
def zJ(h_0:bW)(aYd:Int):Option (Int):=
 ((aGd h_0.A aYd).bind fun r2=>
 ((aGc r2 h_0.B).bind fun r4=>
 some r4))
theorem aY1:K2 prog aZb vu vu 247 zJ:=fun hm=>be 12 func247 (h:=G)
instance:Ct prog 247 (K2 prog aZb vu vu 247 zJ):=⟨aY1⟩
def zI(aRp:Int):Option (Int):=
 (bif ((decide (aRp<0))||(decide (61≤aRp))) then
  some 0
 else
  ((chk (decide (0≤aRp))).bind fun _=>
  some (shr .u64 2305843009213693951 aRp)))
theorem aXz:K1 prog vi vu 248 zI:=fun hm=>be 11 func248 (h:=G)
instance:Ct prog 248 (K1 prog vi vu 248 zI):=⟨aXz⟩
def aHd(rec1:Int→Int→Int→Option (Int))(sV:Int)(aO4:Int)(aIx:Int):Option (Int):=
 ((eK ((decide (aIx<(if 61<sV then 61 else sV)))==true) 0 (zI aIx)).bind fun r4=>
 (bif ((decide (aIx<(if 61<sV then 61 else sV)))&&(decide (aO4<r4))) then
  rec1 sV aO4 (IntKind.i64.wrap (aIx+1))
 else
  some aIx))
def qP:Nat→Int→Int→Int→Option (Int)
 |0=>fun _ _ _=>none
 |n+1=>aHd (qP n)
def aBi(h_0:bW)(aYd:Int)(sV:Int):Option (Int):=
 ((zJ h_0 aYd).bind fun r2=>
 qP aW sV r2 0)
theorem aQc:K3 prog aZb vu vi vi 219 aBi:=by
 intro h_0 aYd sV r hm
 let I1:=((fun m s=> ∃sV aO4 aIx,s=⟨25,(aF (aF (aF fa 2 (vi sV)) 7 (vu aO4)) 8 (vi aIx)),⟨aY,64⟩⟩∧qP m sV aO4 aIx=some r):Nat→St→Prop)
 exact be 25 func219 (h:=G)
instance:Ct prog 219 (K3 prog aZb vu vi vi 219 aBi):=⟨aQc⟩
def aCg(rec1:Int→aT→aT→List Int→List bW→Int→Int→Option (aT×Int))(rec2:Int→aT→aT→List Int→Int→List bW→Int→Int→Int→Int→Option (aT×Int))(oY:Int)(s_3:aT)(t6:aT)(nG:List Int)(aQm:Int)(t26:List bW)(t27:Int)(t28:Int)(t37:Int)(t38:Int):Option (aT×Int):=
 (bif (decide (t38<t37)) then
  ((idx nG (IntKind.i64.wrap ((IntKind.i64.wrap (aQm*s_3.V))+t38))).bind fun x10=>
  ((idx nG (IntKind.i64.wrap ((IntKind.i64.wrap (aQm*s_3.V))+t38))).bind fun x12=>
  ((stt nG (IntKind.i64.wrap ((IntKind.i64.wrap (aQm*s_3.V))+t38)) (aAf .u64 x10 oY)).bind fun l14=>
  rec2 oY s_3 t6 l14 aQm t26 t27 t28 t37 (IntKind.i64.wrap (t38+1)))))
 else
  rec1 oY s_3 t6 nG t26 t27 (IntKind.i64.wrap (t28+1)))
def rJ(rec1:Int→aT→aT→List Int→List bW→Int→Int→Option (aT×Int)):Nat→Int→aT→aT→List Int→Int→List bW→Int→Int→Int→Int→Option (aT×Int)
 |0=>fun _ _ _ _ _ _ _ _ _ _=>none
 |n+1=>aCg rec1 (rJ rec1 n)
def aCf(rec1:Int→aT→aT→List Int→List bW→Int→Int→Option (aT×Int))(oY:Int)(s_3:aT)(t6:aT)(nG:List Int)(t26:List bW)(t27:Int)(t28:Int):Option (aT×Int):=
 (bif (decide (t28<t27)) then
  ((idx t26 t28).bind fun x6=>
  ((aBi x6 oY s_3.V).bind fun r8=>
  rJ rec1 aW oY s_3 t6 nG t28 t26 t27 t28 r8 0))
 else
  some ((aT.mk s_3.R s_3.V nG),0))
def lV:Nat→Int→aT→aT→List Int→List bW→Int→Int→Option (aT×Int)
 |0=>fun _ _ _ _ _ _ _=>none
 |n+1=>aCf (lV n)
def tO(s_0:aT)(l_1:List bW)(oY:Int):Option (aT×Int):=
 ((rV s_0).bind fun r2=>
 (bif ((!r2)||((l_1.length:Int) !=s_0.R)) then
  some (s_0,1)
 else
  ((mB s_0.Words).bind fun r4=>
  lV aW oY s_0 (aT.mk 0 0 []) r4 l_1 (l_1.length:Int) 0)))
theorem aTi{s_0:aT}{l_1:List bW}{oY:Int}{r:aT×Int}(hm:tO s_0 l_1 oY=some r):cE prog 171 [.agg [vi s_0.R,vi s_0.V,vl (ci .u64) s_0.Words],vl cL l_1,vu oY] (.tup [.agg [vi r.1.R,vi r.1.V,vl (ci .u64) r.1.Words],vi r.2]):=by
 refine bd 61 func171 ?_;obtain ⟨r2,h1,hm⟩:=bnd hm;refine W ?_;refine cq (aLa h1) ?_;refine W ?_;refine cm hm (fun hm=>?_) fun hm=>?_
 · exact E
 obtain ⟨r4,h3,hm⟩:=bnd hm;refine W ?_;refine aR.callF (id:=130) Zd Z1 cAb (fun H=>(cD ((CFi .u64).sl _ _ _) .nil)) (CFi .u64) Z5 (aKx h3) ?_;refine W ?_;refine lp (fun m s=> ∃oY s_3 t6 nG t26 t27 t28,s=⟨61,(aF (aF (aF (aF (aF (aF (aF fa 2 (vu oY)) 3 (.adr 1 0)) 6 (.adr 2 0)) 8 (.own 3 0 nG.length)) 26 (vl cL t26)) 27 (vi t27)) 28 (vi t28)),⟨(upd (upd (upd aY 1 (.cells 1 [vi s_3.R,vi s_3.V,vl (ci .u64) s_3.Words] 0)) 2 (.cells 1 [vi t6.R,vi t6.V,vl (ci .u64) t6.Words] 0)) 3 (.cells 1 (nG.flatMap (ci .u64)) 0)),64⟩⟩∧lV m oY s_3 t6 nG t26 t27 t28=some r) ?_ ?_
 · refine ⟨_,?_,oY,s_0,(aT.mk 0 0 []),r4,l_1,(l_1.length:Int),0,rfl,hm⟩;refine St.Le.trans (bAz 1 (ys:=[.v (.int .i64 ((aT.mk 0 0 []).R)),.v (.int .i64 ((aT.mk 0 0 []).V)),.sl (((aT.mk 0 0 []).Words).flatMap (ci .u64)) ((aT.mk 0 0 []).Words).length false]) Z3 (.cons (.data _ (.v _)) (.cons (.data _ (.v _)) (.cons (.nil false) .nil)))) ?_;exact cn (fun j=>bif j==1 then 0 else bif j==2 then 1 else bif j==3 then 130 else 0)
 rintro n1 s ⟨oY,s_3,t6,nG,t26,t27,t28,rfl,hm⟩;refine W ?_;refine cm hm (fun hm=>?_) fun hm=>?_
 ·
  obtain ⟨x6,h5,hm⟩:=bnd hm;obtain ⟨r8,h7,hm⟩:=bnd hm;refine W ?_;refine cq (aQc h7) ?_;refine W ?_;refine lp (fun m s=> ∃oY s_3 t6 nG aQm t26 t27 t28 t37 t38,s=⟨61,(aF (aF (aF (aF (aF (aF (aF (aF (aF (aF fa 2 (vu oY)) 3 (.adr 1 0)) 6 (.adr 2 0)) 8 (.own 3 0 nG.length)) 9 (vi aQm)) 26 (vl cL t26)) 27 (vi t27)) 28 (vi t28)) 37 (vi t37)) 38 (vi t38)),⟨(upd (upd (upd aY 1 (.cells 1 [vi s_3.R,vi s_3.V,vl (ci .u64) s_3.Words] 0)) 2 (.cells 1 [vi t6.R,vi t6.V,vl (ci .u64) t6.Words] 0)) 3 (.cells 1 (nG.flatMap (ci .u64)) 0)),64⟩⟩∧rJ (lV n1) m oY s_3 t6 nG aQm t26 t27 t28 t37 t38=some r) (Lr (fun j=>bif j==1 then 1 else bif j==2 then 2 else bif j==3 then 3 else 0)) ?_;rintro n2 s ⟨oY,s_3,t6,nG,aQm,t26,t27,t28,t37,t38,rfl,hm⟩;refine W ?_;refine cm hm (fun hm=>?_) fun hm=>?_
  · obtain ⟨x10,h9,hm⟩:=bnd hm;have hm:=sb hm h9;obtain ⟨l14,h13,hm⟩:=bnd hm;refine W ?_;have qh13:=nF h13;refine aS h13 ?_;refine W ?_;exact Lr (fun j=>bif j==1 then 1 else bif j==2 then 2 else bif j==3 then 3 else 0)
  refine W ?_;exact Lr (fun j=>bif j==1 then 1 else bif j==2 then 2 else bif j==3 then 3 else 0)
 iterate 5 refine S1 ?_
 refine AWp.seq' ?_;refine AWp.weaken (aKj (CFi .u64) 8 3 Z1 Z3 Z6) ?_;refine W ?_;refine bU (.agg [vi s_3.R,vi s_3.V,vl (ci .u64) nG]) ?_;exact E
instance:Ct prog 171 (K3 prog jP (vl cL) vu (t2 jP vi) 171 tO):=⟨fun hm=>aTi hm⟩
def aE0(rec1:aT→aT→List bW→List Int→Int→Int→Option (aT))(t6:aT)(s_7:aT)(bNa:List bW)(t27:List Int)(t28:Int)(t29:Int):Option (aT):=
 (bif (decide (t29<t28)) then
  ((idx t27 t29).bind fun x11=>
  ((tO s_7 bNa x11).bind fun ⟨r13,r14⟩=>
  rec1 t6 r13 bNa t27 t28 (IntKind.i64.wrap (t29+1))))
 else
  some s_7)
def tE:Nat→aT→aT→List bW→List Int→Int→Int→Option (aT)
 |0=>fun _ _ _ _ _ _=>none
 |n+1=>aE0 (tE n)
def vW(g_0:aJ)(kA:Int)(bWh:List aE):Option (aT):=
 ((vP g_0.Config.N).bind fun r2=>
 ((aF8 g_0.Config.R r2).bind fun ⟨r4,r5⟩=>
 ((rE g_0 kA).bind fun r7=>
 ((aDg bWh).bind fun r9=>
 tE aW (aT.mk 0 0 []) r4 r7 r9 (r9.length:Int) 0))))
theorem aUz:K3 prog dQ vi (vl aV) jP 139 vW:=by
 intro g_0 kA bWh r hm
 let I1:=((fun m s=> ∃t6 s_7 bNa t27 t28 t29,s=⟨42,(aF (aF (aF (aF (aF (aF fa 6 (.adr 1 0)) 7 (.adr 2 0)) 9 (vl cL bNa)) 27 (vl (ci .u64) t27)) 28 (vi t28)) 29 (vi t29)),⟨(upd (upd aY 1 (.cells 1 [vi t6.R,vi t6.V,vl (ci .u64) t6.Words] 0)) 2 (.cells 1 [vi s_7.R,vi s_7.V,vl (ci .u64) s_7.Words] 0)),64⟩⟩∧tE m t6 s_7 bNa t27 t28 t29=some r):Nat→St→Prop)
 exact be 42 func139 (h:=G)
instance:Ct prog 139 (K3 prog dQ vi (vl aV) jP 139 vW):=⟨aUz⟩
def aAr(aYc:Int):Option (Int×Int×Bool):=
 (bif (decide ((Int.tmod aYc 16777216)≤(IntKind.u64.wrap (Int.tdiv aYc 16777216)))) then
  some (0,0,false)
 else
  some ((IntKind.i64.wrap (IntKind.u64.wrap (Int.tdiv aYc 16777216))),(IntKind.i64.wrap (Int.tmod aYc 16777216)),true))
theorem bFf:K1 prog vu (t3 vi vi vb) 140 aAr:=fun hm=>be 18 func140 (h:=G)
instance:Ct prog 140 (K1 prog vu (t3 vi vi vb) 140 aAr):=⟨bFf⟩
abbrev aE5(rec1:List Int→List Int→Int→Int→Option ((List Int)))(lJ:List Int)(t13:List Int)(t14:Int)(t15:Int):Option ((List Int)):=
 rec1 lJ t13 t14 (IntKind.i64.wrap (t15+1))
def aE4(rec1:List Int→List Int→Int→Int→Option ((List Int)))(lJ:List Int)(t13:List Int)(t14:Int)(t15:Int):Option ((List Int)):=
 (bif (decide (t15<t14)) then
  ((idx t13 t15).bind fun x4=>
  ((aAr x4).bind fun ⟨r6,r7,r8⟩=>
  (bif r8 then
   ((app lJ [x4]).bind fun l10=>
   aE5 rec1 l10 t13 t14 t15)
  else
   aE5 rec1 lJ t13 t14 t15)))
 else
  some lJ)
def tN:Nat→List Int→List Int→Int→Int→Option ((List Int))
 |0=>fun _ _ _ _=>none
 |n+1=>aE4 (tN n)
def vX(s_0:aT):Option ((List Int)):=
 ((rV s_0).bind fun r2=>
 (bif (!r2) then
  some []
 else
  tN aW [] s_0.Words (s_0.Words.length:Int) 0))
theorem aV2:K1 prog jP (vl (ci .u64)) 138 vX:=by
 intro s_0 r hm
 let I1:=((fun m s=> ∃lJ t13 t14 t15,s=⟨32,(aF (aF (aF (aF fa 3 (.own 1 0 lJ.length)) 13 (vl (ci .u64) t13)) 14 (vi t14)) 15 (vi t15)),⟨(upd aY 1 (.cells 1 (lJ.flatMap (ci .u64)) 0)),64⟩⟩∧tN m lJ t13 t14 t15=some r):Nat→St→Prop)
 exact be 32 func138 (h:=G)
instance:Ct prog 138 (K1 prog jP (vl (ci .u64)) 138 vX):=⟨aV2⟩
abbrev aCc(rec1:aE→List aE→List Int→Int→Int→Option (aE×Bool))(t6:aE)(aNc:List aE)(t30:List Int)(t31:Int)(t32:Int):Option (aE×Bool):=
 rec1 t6 aNc t30 t31 (IntKind.i64.wrap (t32+1))
def aCb(rec1:aE→List aE→List Int→Int→Int→Option (aE×Bool))(t6:aE)(aNc:List aE)(t30:List Int)(t31:Int)(t32:Int):Option (aE×Bool):=
 (bif (decide (t32<t31)) then
  ((idx t30 t32).bind fun x10=>
  ((aAr x10).bind fun ⟨r12,r13,r14⟩=>
  (bif (!r14) then
   aCc rec1 t6 aNc t30 t31 t32
  else
   ((qS aNc r12 r13).bind fun ⟨r16,r17⟩=>
   (bif r17 then
    ((idx aNc r16).bind fun x19=>
    some (x19,true))
   else
    aCc rec1 t6 aNc t30 t31 t32)))))
 else
  some ((aE.mk 0 0 0),false))
def rF:Nat→aE→List aE→List Int→Int→Int→Option (aE×Bool)
 |0=>fun _ _ _ _ _=>none
 |n+1=>aCb (rF n)
def tJ(g_0:aJ)(kA:Int)(v_2:Int):Option (aE×Bool):=
 ((nV g_0 kA v_2).bind fun r2=>
 (bif (!r2) then
  some ((aE.mk 0 0 0),false)
 else
  ((vV g_0 kA v_2).bind fun r4=>
  ((vW g_0 kA r4).bind fun r6=>
  ((vX r6).bind fun r8=>
  rF aW (aE.mk 0 0 0) r4 r8 (r8.length:Int) 0)))))
theorem aTe:K3 prog dQ vi vi (t2 aFw vb) 96 tJ:=by
 intro g_0 kA v_2 r hm
 let I1:=((fun m s=> ∃t6 aNc t30 t31 t32,s=⟨58,(aF (aF (aF (aF (aF fa 6 (.adr 1 0)) 8 (vl aV aNc)) 30 (vl (ci .u64) t30)) 31 (vi t31)) 32 (vi t32)),⟨(upd aY 1 (.cells 1 [vi t6.U,vi t6.V,vi t6.Tier] 0)),64⟩⟩∧rF m t6 aNc t30 t31 t32=some r):Nat→St→Prop)
 exact be 58 func96 (h:=G)
instance:Ct prog 96 (K3 prog dQ vi vi (t2 aFw vb) 96 tJ):=⟨aTe⟩
def yI(g_0:aJ)(u_1:Int)(v_2:Int):Option (Bool):=
 ((gX g_0).bind fun r2=>
 some ((((r2&&(decide (0≤u_1)))&&(decide (u_1<g_0.Config.N)))&&(decide (0≤v_2)))&&(decide (v_2<g_0.Config.N))))
theorem bCr:K3 prog dQ vi vi vb 98 yI:=fun hm=>be 31 func98 (h:=G)
instance:Ct prog 98 (K3 prog dQ vi vi vb 98 yI):=⟨bCr⟩
def iK(n_0:Int)(v_1:Int):Option (Bool):=
 some ((decide (0≤v_1))&&(decide (v_1<n_0)))
theorem oO:K2 prog vi vi vb 141 iK:=fun hm=>be 12 func141 (h:=G)
instance:Ct prog 141 (K2 prog vi vi vb 141 iK):=⟨oO⟩
abbrev nZ(s_0:List aE):Option ((List aE)):=
 some s_0
abbrev sK(n_1:Int):Option ((List aE)):=
 (bif (decide (0<(IntKind.i64.wrap (n_1-(IntKind.i64.wrap (((0:Nat):Int)-((0:Nat):Int))))))) then
  ((chk (((0:Nat):Int)==0)).bind fun _=>
  ((chk (decide (0<(IntKind.i64.wrap (n_1-(IntKind.i64.wrap (((0:Nat):Int)-((0:Nat):Int))))))&&decide ((IntKind.i64.wrap (n_1-(IntKind.i64.wrap (((0:Nat):Int)-((0:Nat):Int)))))≤4294967296))).bind fun _=>
  ((chk (((0:Nat):Int)==0)).bind fun _=>
  nZ [])))
 else
  nZ [])
def pY(n_1:Int):Option ((List aE)):=
 (bif (decide (n_1<0)) then
  none
 else
  sK n_1)
theorem aPd{n_1:Int}{r:(List aE)}(hm:pY n_1=some r):fR prog 172 [.v (.slice none 0 0),.v (.int .i64 n_1)] 3 (r.flatMap aV) r.length:=by
 refine fR.of_body func172 rfl (cI.fmdat r) ?_;simp only [ntmps172,List.length_cons,List.length_nil,Nat.reduceAdd,Nat.reduceSub,iN];unfold pY at hm;refine sN 64 (pA ?_);refine fs (AWp.seqJ (fun s=> ∃(n_1:Int),s=(⟨27,(aF (aF (fun _=>AV.any) 0 (.v (.slice none 0 0))) 1 (.v (.int .i64 n_1))),⟨aY,64⟩⟩:St)∧sK n_1=some r) ?_ ?_)
 ·
  refine sN 128 ?_
  iterate 2 refine pA ?_
  refine fs (AWp.condM hm Z1 (fun _ hm=>?_) (fun _ hm=>?_))
  · cases hm
  · refine AWp.skip (oZ ?_);refine ⟨_,?_,n_1,rfl,hm⟩;exact cP id (wV (wV dR)) aXl
 ·
  rintro s ⟨n_1,rfl,hm⟩;unfold sK at hm;refine AWp.seqJ (fun s=> ∃(s_0:List aE),s=(⟨27,(aF (fun _=>AV.any) 0 (.own 1 0 s_0.length)),⟨(upd aY 1 (.cells 3 (s_0.flatMap aV) 0)),64⟩⟩:St)∧nZ s_0=some r) ?_ ?_
  ·
   refine sN 128 ?_
   iterate 2 refine pA ?_
   refine pu rfl (bGf underlying28 Z1) ?_
   iterate 5 refine pA ?_
   refine fs (sN 192 ?_)
   iterate 2 refine pA ?_
   refine fs (AWp.condM hm Z1 (fun _ hm=>?_) (fun _ hm=>?_))
   ·
    refine AWp.reg 64 (N':=256) rfl ?_
    iterate 2 refine pA ?_
    refine pu rfl (bGf underlying28 Z1) ?_;obtain ⟨_,h3,hm⟩:=bnd hm;refine pu rfl (bMy underlying28 aNz Z1 Z1 (eq_of_beq (vF h3))) ?_;refine pA ?_;obtain ⟨_,h4,hm⟩:=bnd hm;refine hp (id:=197) rfl rfl (bRr underlying28 underlying3 rfl bOr bR9 (by rw [aV7];decide) (by rw [aV7];decide) bRa Zd Zd Z1 Z1 Z5 h4) ?_
    iterate 2 refine pA ?_
    obtain ⟨_,h8,hm⟩:=bnd hm;refine pu rfl (bRx underlying28 aNz Z1 Z3 Z1 (eq_of_beq (vF h8))) ?_;refine pA ?_;refine aR.fin (oZ ?_);refine ⟨_,?_,[],rfl,hm⟩;refine St.Le.trans (bUt 197 Z3) ?_;exact cP (fun j=>bif j==1 then 197 else 0) (wO dR) (hW (eU cI dA))
   · refine AWp.skip (oZ ?_);refine ⟨_,?_,[],rfl,hm⟩;refine St.Le.trans (aAn 0 900000 3 Z1 Z5) ?_;exact cP (fun j=>bif j==1 then 900000 else 0) (wO dR) (hW (eU cI dA))
  ·
   rintro s ⟨s_0,rfl,hm⟩;unfold nZ at hm;refine sN 128 ?_
   iterate 2 refine pA ?_
   refine fs (AWp.ret ?_);cases hm;exact aNl (.inr rfl) Tryz.results172 Z1 Z3 Z6
abbrev vD(rec1:List (List aE)→Int→List (List aE)→Int→Int→Option ((List aE)))(iT:List (List aE))(aAx:Int)(t9:List (List aE))(t10:Int)(t11:Int):Option ((List aE)):=
 rec1 iT aAx t9 t10 (IntKind.i64.wrap (t11+1))
def vC(rec2:List aE→List (List aE)→Int→Int→Option ((List aE)))(xC:List aE)(t25:List (List aE))(t26:Int)(t27:Int):Option ((List aE)):=
 (bif (decide (t27<t26)) then
  ((idx t25 t27).bind fun x6=>
  ((app xC x6).bind fun l8=>
  rec2 l8 t25 t26 (IntKind.i64.wrap (t27+1))))
 else
  some xC)
def mC:Nat→List aE→List (List aE)→Int→Int→Option ((List aE))
 |0=>fun _ _ _ _=>none
 |n+1=>vC (mC n)
def uZ(rec1:List (List aE)→Int→List (List aE)→Int→Int→Option ((List aE)))(iT:List (List aE))(aAx:Int)(t9:List (List aE))(t10:Int)(t11:Int):Option ((List aE)):=
 (bif (decide (t11<t10)) then
  ((idx t9 t11).bind fun x2=>
  (bif (decide ((IntKind.i64.wrap (aAx+(x2.length:Int)))<0)) then
   none
  else
   vD rec1 iT (IntKind.i64.wrap (aAx+(x2.length:Int))) t9 t10 t11))
 else
  ((pY aAx).bind fun r4=>
  mC aW r4 iT (iT.length:Int) 0))
def kN:Nat→List (List aE)→Int→List (List aE)→Int→Int→Option ((List aE))
 |0=>fun _ _ _ _ _=>none
 |n+1=>uZ (kN n)
def lD(iT:List (List aE)):Option ((List aE)):=
 kN aW iT 0 iT (iT.length:Int) 0
theorem xJ{iT:List (List aE)}{r:(List aE)}(hm:lD iT=some r):cE prog 142 [.sl (iT.flatMap (csl aV)) iT.length false] (vl aV r):=by
 refine bd 36 func142 ?_;refine W ?_;refine lp (fun m s=> ∃iT aAx t9 t10 t11,s=⟨36,(aF (aF (aF (aF (aF fa 0 (.sl (iT.flatMap (csl aV)) iT.length false)) 3 (vi aAx)) 9 (.sl (t9.flatMap (csl aV)) t9.length false)) 10 (vi t10)) 11 (vi t11)),⟨aY,64⟩⟩∧kN m iT aAx t9 t10 t11=some r) L ?_;rintro n1 s ⟨iT,aAx,t9,t10,t11,rfl,hm⟩;refine W ?_;refine cm hm (fun hm=>?_) fun hm=>?_
 ·
  refine V ?_;refine AWp.seqJ (fun s=> ∃iT aAx t9 t10 t11,s=⟨36,(aF (aF (aF (aF (aF fa 0 (.sl (iT.flatMap (csl aV)) iT.length false)) 3 (vi aAx)) 9 (.sl (t9.flatMap (csl aV)) t9.length false)) 10 (vi t10)) 11 (vi t11)),⟨aY,64⟩⟩∧vD (kN n1) iT aAx t9 t10 t11=some r) ?_ ?_
  ·
   obtain ⟨x2,h1,hm⟩:=bnd hm;refine W ?_;refine cm hm (fun hm=>?_) fun hm=>?_
   · cases hm
   exact L
  rintro s ⟨iT,aAx,t9,t10,t11,rfl,hm⟩;exact L
 obtain ⟨r4,h3,hm⟩:=bnd hm;refine W ?_;refine aR.callF (id:=129) Zd Z1 cA2 (fun H=>(cV (cV .nil))) cI Z5 (aPd h3) ?_;refine W ?_;refine lp (fun m s=> ∃xC t25 t26 t27,s=⟨36,(aF (aF (aF (aF fa 6 (.own 1 0 xC.length)) 25 (.sl (t25.flatMap (csl aV)) t25.length false)) 26 (vi t26)) 27 (vi t27)),⟨(upd aY 1 (.cells 3 (xC.flatMap aV) 0)),64⟩⟩∧mC m xC t25 t26 t27=some r) (Lr (fun j=>bif j==1 then 129 else 0)) ?_;rintro n2 s ⟨xC,t25,t26,t27,rfl,hm⟩;refine W ?_;refine cm hm (fun hm=>?_) fun hm=>?_
 · obtain ⟨x6,h5,hm⟩:=bnd hm;obtain ⟨l8,h7,hm⟩:=bnd hm;refine W ?_;exact Lr (fun j=>bif j==1 then 194 else 0)
 exact E
instance:Ct prog 142 (K1 prog (vl (csl aV)) (vl aV) 142 lD):=⟨fun hm=>xJ hm⟩
def wE(n_0:Int)(l_1:List aE)(u_2:Int)(v_3:Int):Option ((List aE)×Int):=
 ((kM n_0 l_1).bind fun r2=>
 ((eK ((!r2)==false) false (iK n_0 u_2)).bind fun r4=>
 ((eK (((!r2)||(!r4))==false) false (iK n_0 v_3)).bind fun r6=>
 (bif (((!r2)||(!r4))||(!r6)) then
  some (l_1,1)
 else
  ((qS l_1 u_2 v_3).bind fun ⟨r8,r9⟩=>
  (bif (!r9) then
   some (l_1,9)
  else
   ((slc l_1 0 r8).bind fun l11=>
   ((slc l_1 (IntKind.i64.wrap (r8+1)) (l_1.length:Int)).bind fun l13=>
   ((lD [l11,l13]).bind fun r15=>
   some (r15,0))))))))))
theorem aV6{n_0:Int}{l_1:List aE}{u_2:Int}{v_3:Int}{r:(List aE)×Int}(hm:wE n_0 l_1 u_2 v_3=some r):cE prog 99 [vi n_0,vl aV l_1,vi u_2,vi v_3] (.tup [vl aV r.1,vi r.2]):=by
 refine bd 48 func99 ?_;obtain ⟨r2,h1,hm⟩:=bnd hm;refine W ?_;refine cq (aD3 h1) ?_;obtain ⟨r4,h3,hm⟩:=bnd hm;refine W ?_;refine cg (fun hb=>oO (kQ h3 hb)) ?_;obtain ⟨r6,h5,hm⟩:=bnd hm;refine W ?_;refine cg (fun hb=>oO (kQ h5 hb)) ?_;refine W ?_;refine cm hm (fun hm=>?_) fun hm=>?_
 · exact E
 refine W ?_;obtain ⟨⟨r8,r9⟩,h7,hm⟩:=bnd hm;refine cq (aHg h7) ?_;refine W ?_;refine cm hm (fun hm=>?_) fun hm=>?_
 · exact E
 obtain ⟨l11,h10,hm⟩:=bnd hm;obtain ⟨l13,h12,hm⟩:=bnd hm
 iterate 10 refine S1 ?_
 refine aR.pop Zd (aJk (ps:=[(0,.sl (l11.flatMap aV) l11.length (false&&(r8:Int).toNat==l_1.length)),(1,.sl (l13.flatMap aV) l13.length (false&&((l_1.length:Int):Int).toNat==l_1.length))]) (by simp only [go_sem,Nat.reduceBEq];try rfl) (aG5 (cI.sl _ _ _) (aG5 (cI.sl _ _ _) aXa))) (aT7 (CFl cI) (l:=[l11,l13]) (xs:=[.sl (l11.flatMap aV) l11.length (false&&(r8:Int).toNat==l_1.length),.sl (l13.flatMap aV) l13.length (false&&((l_1.length:Int):Int).toNat==l_1.length)]) underlying249 bVh bZ9 Zd Zd Zd (ps:=[(0,.sl (l11.flatMap aV) l11.length (false&&(r8:Int).toNat==l_1.length)),(1,.sl (l13.flatMap aV) l13.length (false&&((l_1.length:Int):Int).toNat==l_1.length))]) (by simp only [go_sem,Nat.reduceBEq];try rfl) (by kernel_rfl) (fun H=>(.cons (tdf rfl (cI.sl _ _ _)) (.cons (tdf rfl (cI.sl _ _ _)) .nil)))) rfl ?_;obtain ⟨r15,h14,hm⟩:=bnd hm;refine cq (xJ h14) ?_;exact E
instance:Ct prog 99 (K4 prog vi (vl aV) vi vi (t2 (vl aV) vi) 99 wE):=⟨fun hm=>aV6 hm⟩
def aK7(rec1:List aE→aE→Int→Option ((List aE)×Int))(l_1:List aE)(gK:aE)(nT:Int):Option ((List aE)×Int):=
 ((eK ((decide (nT<(l_1.length:Int)))==true) (aE.mk 0 0 0) (idx l_1 nT)).bind fun x11=>
 ((eK ((decide (nT<(l_1.length:Int)))==true) false (xB x11 gK)).bind fun r13=>
 (bif ((decide (nT<(l_1.length:Int)))&&r13) then
  rec1 l_1 gK (IntKind.i64.wrap (nT+1))
 else
  ((slc l_1 0 nT).bind fun l15=>
  ((slc l_1 nT (l_1.length:Int)).bind fun l17=>
  ((lD [l15,[gK],l17]).bind fun r19=>
  some (r19,0)))))))
def aC0:Nat→List aE→aE→Int→Option ((List aE)×Int)
 |0=>fun _ _ _=>none
 |n+1=>aK7 (aC0 n)
def aEa(n_0:Int)(l_1:List aE)(u_2:Int)(v_3:Int):Option ((List aE)×Int):=
 ((kM n_0 l_1).bind fun r2=>
 ((eK ((!r2)==false) false (iK n_0 u_2)).bind fun r4=>
 ((eK (((!r2)||(!r4))==false) false (iK n_0 v_3)).bind fun r6=>
 (bif (((!r2)||(!r4))||(!r6)) then
  some (l_1,1)
 else
  (bif (u_2==v_3) then
   some (l_1,8)
  else
   ((qS l_1 u_2 v_3).bind fun ⟨r8,r9⟩=>
   (bif r9 then
    some (l_1,4)
   else
    aC0 aW l_1 (aE.mk (if v_3<u_2 then v_3 else u_2) (if u_2<v_3 then v_3 else u_2) 0) 0)))))))
theorem bG0{n_0:Int}{l_1:List aE}{u_2:Int}{v_3:Int}{r:(List aE)×Int}(hm:aEa n_0 l_1 u_2 v_3=some r):cE prog 102 [vi n_0,vl aV l_1,vi u_2,vi v_3] (.tup [vl aV r.1,vi r.2]):=by
 refine bd 75 func102 ?_;obtain ⟨r2,h1,hm⟩:=bnd hm;refine W ?_;refine cq (aD3 h1) ?_;obtain ⟨r4,h3,hm⟩:=bnd hm;refine W ?_;refine cg (fun hb=>oO (kQ h3 hb)) ?_;obtain ⟨r6,h5,hm⟩:=bnd hm;refine W ?_;refine cg (fun hb=>oO (kQ h5 hb)) ?_;refine W ?_;refine cm hm (fun hm=>?_) fun hm=>?_
 · exact E
 refine W ?_;refine cm hm (fun hm=>?_) fun hm=>?_
 · exact E
 refine W ?_;obtain ⟨⟨r8,r9⟩,h7,hm⟩:=bnd hm;refine cq (aHg h7) ?_;refine W ?_;refine cm hm (fun hm=>?_) fun hm=>?_
 · exact E
 refine W ?_;refine bU (.agg [.v (.int .i64 (if v_3<u_2 then v_3 else u_2)),.v (.int .i64 (if u_2<v_3 then v_3 else u_2)),vi 0]) ?_;refine W ?_;refine lp (fun m s=> ∃l_1 gK nT,s=⟨75,(aF (aF (aF fa 1 (vl aV l_1)) 12 (.adr 1 0)) 13 (vi nT)),⟨(upd aY 1 (.cells 1 [vi gK.U,vi gK.V,vi gK.Tier] 0)),64⟩⟩∧aC0 m l_1 gK nT=some r) (Lr (fun j=>bif j==1 then 327 else 0)) ?_;rintro n1 s ⟨l_1,gK,nT,rfl,hm⟩;obtain ⟨x11,h10,hm⟩:=bnd hm;obtain ⟨r13,h12,hm⟩:=bnd hm;refine W ?_;refine cg (fun hb=>aT0 (kQ h12 hb)) ?_;refine W ?_;refine cm hm (fun hm=>?_) fun hm=>?_
 · refine W ?_;exact Lr (fun j=>bif j==1 then 1 else 0)
 obtain ⟨l15,h14,hm⟩:=bnd hm
 iterate 10 refine S1 ?_
 refine aR.pop Zd (aJk (ps:=[(0,.agg [.v (.int .i64 gK.U),.v (.int .i64 gK.V),.v (.int .i64 gK.Tier)])]) (by simp only [go_sem,Nat.reduceBEq];try rfl) (aG5 (.agg _ (cI.dat gK)) aXa)) (aT7 cI (l:=[gK]) (xs:=[.v (.int .i64 gK.U),.v (.int .i64 gK.V),.v (.int .i64 gK.Tier)]) underlying28 aNz aZh Zd Zd Zd (ps:=[(0,.agg [.v (.int .i64 gK.U),.v (.int .i64 gK.V),.v (.int .i64 gK.Tier)])]) (by simp only [go_sem,Nat.reduceBEq];try rfl) (by kernel_rfl) (fun H=>(.cons (.data _ (.v _)) (.cons (.data _ (.v _)) (.cons (.data _ (.v _)) .nil))))) rfl ?_;obtain ⟨l17,h16,hm⟩:=bnd hm
 iterate 3 refine S1 ?_
 refine aR.pop Zd (aJk (ps:=[(0,.sl (l15.flatMap aV) l15.length (false&&(nT:Int).toNat==l_1.length)),(1,.sl (([gK]).flatMap aV) ([gK]).length false),(2,.sl (l17.flatMap aV) l17.length (false&&((l_1.length:Int):Int).toNat==l_1.length))]) (by simp only [go_sem,Nat.reduceBEq];try rfl) (aG5 (cI.sl _ _ _) (aG5 (cI.sl _ _ _) (aG5 (cI.sl _ _ _) aXa)))) (aT7 (CFl cI) (l:=[l15,[gK],l17]) (xs:=[.sl (l15.flatMap aV) l15.length (false&&(nT:Int).toNat==l_1.length),.sl (([gK]).flatMap aV) ([gK]).length false,.sl (l17.flatMap aV) l17.length (false&&((l_1.length:Int):Int).toNat==l_1.length)]) underlying249 bVh bZ9 Zd Zd Zd (ps:=[(0,.sl (l15.flatMap aV) l15.length (false&&(nT:Int).toNat==l_1.length)),(1,.sl (([gK]).flatMap aV) ([gK]).length false),(2,.sl (l17.flatMap aV) l17.length (false&&((l_1.length:Int):Int).toNat==l_1.length))]) (by simp only [go_sem,Nat.reduceBEq];try rfl) (by kernel_rfl) (fun H=>(.cons (tdf rfl (cI.sl _ _ _)) (.cons (.data _ (cI.sl _ _ _)) (.cons (tdf rfl (cI.sl _ _ _)) .nil))))) rfl ?_;obtain ⟨r19,h18,hm⟩:=bnd hm;refine cq (xJ h18) ?_;exact E
instance:Ct prog 102 (K4 prog vi (vl aV) vi vi (t2 (vl aV) vi) 102 aEa):=⟨fun hm=>bG0 hm⟩
def aHt(rec1:List bW→List bW→Int→Option (Bool))(a_0:List bW)(b_1:List bW)(i_5:Int):Option (Bool):=
 (bif (decide (i_5<(a_0.length:Int))) then
  ((idx a_0 i_5).bind fun x2=>
  ((idx b_1 i_5).bind fun x4=>
  (bif (!((x2.A==x4.A)&&(x2.B==x4.B))) then
   some false
  else
   rec1 a_0 b_1 (IntKind.i64.wrap (i_5+1)))))
 else
  some true)
def zW:Nat→List bW→List bW→Int→Option (Bool)
 |0=>fun _ _ _=>none
 |n+1=>aHt (zW n)
def aBs(a_0:List bW)(b_1:List bW):Option (Bool):=
 (bif ((a_0.length:Int) !=(b_1.length:Int)) then
  some false
 else
  zW aW a_0 b_1 0)
theorem bC2:K2 prog (vl cL) (vl cL) vb 150 aBs:=by
 intro a_0 b_1 r hm
 let I1:=((fun m s=> ∃a_0 b_1 i_5,s=⟨26,(aF (aF (aF fa 0 (vl cL a_0)) 1 (vl cL b_1)) 5 (vi i_5)),⟨aY,64⟩⟩∧zW m a_0 b_1 i_5=some r):Nat→St→Prop)
 exact be 26 func150 (h:=G)
instance:Ct prog 150 (K2 prog (vl cL) (vl cL) vb 150 aBs):=⟨bC2⟩
def aBt(a_0:aJ)(b_1:aJ):Option (Bool):=
 ((eK (((a_0.Config.N==b_1.Config.N)&&((a_0.Config.L==b_1.Config.L)&&(a_0.Config.R==b_1.Config.R)))==true) false (aBs a_0.Hashes b_1.Hashes)).bind fun r2=>
 ((eK ((((a_0.Config.N==b_1.Config.N)&&((a_0.Config.L==b_1.Config.L)&&(a_0.Config.R==b_1.Config.R)))&&r2)==true) false (aBq a_0.Edges b_1.Edges)).bind fun r4=>
 some ((((a_0.Config.N==b_1.Config.N)&&((a_0.Config.L==b_1.Config.L)&&(a_0.Config.R==b_1.Config.R)))&&r2)&&r4)))
theorem bC3:K2 prog dQ dQ vb 112 aBt:=fun hm=>be 24 func112 (h:=G)
instance:Ct prog 112 (K2 prog dQ dQ vb 112 aBt):=⟨bC3⟩
abbrev aD2(rec1:Int→List Int→List aE→Int→Int→Option ((List Int)))(v_2:Int)(aFn:List Int)(t20:List aE)(t21:Int)(t22:Int):Option ((List Int)):=
 rec1 v_2 aFn t20 t21 (IntKind.i64.wrap (t22+1))
def aI7(rec1:Int→List Int→List aE→Int→Int→Option ((List Int)))(v_2:Int)(aFn:List Int)(t20:List aE)(t21:Int)(t22:Int):Option ((List Int)):=
 (bif (decide (t22<t21)) then
  ((idx t20 t22).bind fun x6=>
  (bif (v_2==x6.U) then
   ((app aFn [x6.V]).bind fun l8=>
   aD2 rec1 v_2 l8 t20 t21 t22)
  else
   (bif (v_2==x6.V) then
    ((app aFn [x6.U]).bind fun l10=>
    aD2 rec1 v_2 l10 t20 t21 t22)
   else
    aD2 rec1 v_2 aFn t20 t21 t22)))
 else
  some aFn)
def aA5:Nat→Int→List Int→List aE→Int→Int→Option ((List Int))
 |0=>fun _ _ _ _ _=>none
 |n+1=>aI7 (aA5 n)
def aFb(n_0:Int)(l_1:List aE)(v_2:Int):Option ((List Int)):=
 ((kM n_0 l_1).bind fun r2=>
 ((eK ((!r2)==false) false (iK n_0 v_2)).bind fun r4=>
 (bif ((!r2)||(!r4)) then
  some []
 else
  aA5 aW v_2 [] l_1 (l_1.length:Int) 0)))
theorem bCl:K3 prog vi (vl aV) vi (vl (ci .i64)) 122 aFb:=by
 intro n_0 l_1 v_2 r hm
 let I1:=((fun m s=> ∃v_2 aFn t20 t21 t22,s=⟨47,(aF (aF (aF (aF (aF fa 2 (vi v_2)) 7 (.own 1 0 aFn.length)) 20 (vl aV t20)) 21 (vi t21)) 22 (vi t22)),⟨(upd aY 1 (.cells 1 (aFn.flatMap (ci .i64)) 0)),64⟩⟩∧aA5 m v_2 aFn t20 t21 t22=some r):Nat→St→Prop)
 exact be 47 func122 (h:=G)
instance:Ct prog 122 (K3 prog vi (vl aV) vi (vl (ci .i64)) 122 aFb):=⟨bCl⟩
def uR(g_0:aJ)(kA:Int)(v_2:Int):Option ((List Int)):=
 ((gX g_0).bind fun r2=>
 (bif (((((!r2)||(decide (kA<0)))||(decide (g_0.Config.L<kA)))||(decide (v_2<0)))||(decide (g_0.Config.N≤v_2))) then
  some []
 else
  ((rT g_0 kA v_2).bind fun r4=>
  some r4)))
theorem aYy:K3 prog dQ vi vi (vl (ci .i64)) 173 uR:=fun hm=>be 36 func173 (h:=G)
instance:Ct prog 173 (K3 prog dQ vi vi (vl (ci .i64)) 173 uR):=⟨aYy⟩
abbrev aAl(rec1:aE→aE→List aE→Int→Int→Option (aE×Bool))(t2:aE)(kH:aE)(t15:List aE)(t16:Int)(t17:Int):Option (aE×Bool):=
 rec1 t2 kH t15 t16 (IntKind.i64.wrap (t17+1))
def aAk(rec1:aE→aE→List aE→Int→Int→Option (aE×Bool))(t2:aE)(kH:aE)(t15:List aE)(t16:Int)(t17:Int):Option (aE×Bool):=
 (bif (decide (t17<t16)) then
  ((idx t15 t17).bind fun x6=>
  ((eK (((decide (kH.Tier<x6.Tier))==false)&&((x6.Tier==kH.Tier)==true)) false (xB kH x6)).bind fun r8=>
  (bif ((decide (kH.Tier<x6.Tier))||((x6.Tier==kH.Tier)&&r8)) then
   aAl rec1 t2 x6 t15 t16 t17
  else
   aAl rec1 t2 kH t15 t16 t17)))
 else
  some (kH,true))
def oV:Nat→aE→aE→List aE→Int→Int→Option (aE×Bool)
 |0=>fun _ _ _ _ _=>none
 |n+1=>aAk (oV n)
def nI(l_0:List aE):Option (aE×Bool):=
 (bif ((l_0.length:Int)==0) then
  some ((aE.mk 0 0 0),false)
 else
  ((idx l_0 0).bind fun x2=>
  ((slc l_0 1 (l_0.length:Int)).bind fun l4=>
  oV aW (aE.mk 0 0 0) x2 l4 (l4.length:Int) 0)))
theorem aR4:K1 prog (vl aV) (t2 aFw vb) 175 nI:=by
 intro l_0 r hm
 let I1:=((fun m s=> ∃t2 kH t15 t16 t17,s=⟨41,(aF (aF (aF (aF (aF fa 2 (.adr 1 0)) 4 (.adr 2 0)) 15 (vl aV t15)) 16 (vi t16)) 17 (vi t17)),⟨(upd (upd aY 1 (.cells 1 [vi t2.U,vi t2.V,vi t2.Tier] 0)) 2 (.cells 1 [vi kH.U,vi kH.V,vi kH.Tier] 0)),64⟩⟩∧oV m t2 kH t15 t16 t17=some r):Nat→St→Prop)
 exact be 41 func175 (h:=G)
instance:Ct prog 175 (K1 prog (vl aV) (t2 aFw vb) 175 nI):=⟨aR4⟩
def nX(l:List aE):Option (List aE):=app [] l
theorem aM5{r:List aE}(hm:some []=some r):fR prog 223 [.v (.slice none 0 0)] 3 (r.flatMap aV) r.length:=by
 refine fR.of_body func223 rfl (cI.fmdat r) ?_;simp only [ntmps223,List.length_cons,List.length_nil,Nat.reduceAdd,Nat.reduceSub,iN];refine sN 64 (pA ?_);refine fs (AWp.seq' (sN 128 (pA ?_)));refine pu rfl (aC2 Z1 Z1 (aMk underlying28)) ?_;refine fs (AWp.condT Z1 ?_);refine sN 192 (pA ?_);refine fs (AWp.weaken (aAn 2 900002 3 Z1 Z5) ?_);refine AWp.ret (jE ?_);cases hm;exact aNl (.inr rfl) Tryz.results223 Z1 Z3 Z6
theorem aM6{a:Addr}{c:Nat}{r:List aE}(hm:((app [] []).bind fun l2=>
some l2)=some r):fR prog 223 [.v (.slice (some a) 0 c)] 3 (r.flatMap aV) r.length:=by
 refine fR.of_body func223 rfl (cI.fmdat r) ?_;simp only [ntmps223,List.length_cons,List.length_nil,Nat.reduceAdd,Nat.reduceSub,iN];refine sN 64 (pA ?_);refine fs (AWp.seq' (sN 128 (pA ?_)));refine pu rfl (aC2 Z1 Z1 (aKd underlying28)) ?_;refine fs (AWp.condF Z1 ?_);refine AWp.skip (bQ (sN 192 (hp (id:=128) rfl rfl (kY cI (l:=[]) underlying28 aNz aZh Z5 Zd Zd Zd (by simp only [go_sem,Nat.reduceBEq];try rfl) (by kernel_rfl)) ?_)));refine pA ?_;obtain ⟨l2,h1,hm⟩:=bnd hm;refine hp (id:=130) rfl rfl (wX cI underlying28 underlying28 rfl bOr bR9 (by rw [aV7];decide) (by rw [aV7];decide) bRa Zd Zd Z1 Z3 Z6 (aRj Z1) rfl Z5 h1) ?_;refine pA ?_;refine fs (AWp.ret ?_);cases hm;exact aNl (.inr rfl) Tryz.results223 Z1 Z3 Z6
theorem aM7{x0:aE}{l0:List aE}{r:List aE}(hm:((app [] (x0::l0)).bind fun l2=>
some l2)=some r):fR prog 223 [.sl ((x0::l0).flatMap aV) (x0::l0).length false] 3 (r.flatMap aV) r.length:=by
 refine fR.of_body func223 rfl (cI.fmdat r) ?_;simp only [ntmps223,List.length_cons,List.length_nil,Nat.reduceAdd,Nat.reduceSub,iN];refine sN 64 (pA ?_);refine fs (AWp.seq' (sN 128 (pA ?_)));refine pu rfl (aC2 Z1 Z1 (aKc underlying28 (by simp))) ?_;refine fs (AWp.condF Z1 ?_);refine AWp.skip (bQ (sN 192 (hp (id:=128) rfl rfl (kY cI (l:=[]) underlying28 aNz aZh Z5 Zd Zd Zd (by simp only [go_sem,Nat.reduceBEq];try rfl) (by kernel_rfl)) ?_)));refine pA ?_;obtain ⟨l2,h1,hm⟩:=bnd hm;refine hp (id:=130) rfl rfl (wX cI underlying28 underlying28 rfl bOr bR9 (by rw [aV7];decide) (by rw [aV7];decide) bRa Zd Zd Z1 Z3 Z6 (aVh cI Z1 rfl) rfl Z5 h1) ?_;refine pA ?_;refine fs (AWp.ret ?_);cases hm;exact aNl (.inr rfl) Tryz.results223 Z1 Z3 Z6
theorem aNt{l r:List aE}(hm:nX l=some r):fR prog 223 [.sl (l.flatMap aV) l.length false] 3 (r.flatMap aV) r.length:=by
 cases l with
 |nil=>
  have hr:r=[]:=by unfold nX app at hm;simpa using hm.symm
  subst hr;exact fR.nil_arg (aM5 (r:=[]) rfl) (fun a c=>aM6 (r:=[]) rfl)
 |cons x0 l0=>
  refine aM7 ?_;show (app [] (x0::l0)).bind _=_;unfold nX at hm;rw [hm];rfl
def aB0(n_0:Int)(l_1:List aE)(u_2:Int)(v_3:Int)(aMg:Int):Option ((List aE)×Int):=
 ((kM n_0 l_1).bind fun r2=>
 ((eK ((!r2)==false) false (iK n_0 u_2)).bind fun r4=>
 ((eK (((!r2)||(!r4))==false) false (iK n_0 v_3)).bind fun r6=>
 ((eK ((((!r2)||(!r4))||(!r6))==false) false (sB aMg)).bind fun r8=>
 (bif ((((!r2)||(!r4))||(!r6))||(!r8)) then
  some (l_1,1)
 else
  ((qS l_1 u_2 v_3).bind fun ⟨r10,r11⟩=>
  (bif (!r11) then
   some (l_1,9)
  else
   ((nX l_1).bind fun r13=>
   ((idx r13 r10).bind fun x15=>
   ((stt r13 r10 (aE.mk x15.U x15.V aMg)).bind fun l17=>
   some (l17,0)))))))))))
theorem bG1{n_0:Int}{l_1:List aE}{u_2:Int}{v_3:Int}{aMg:Int}{r:(List aE)×Int}(hm:aB0 n_0 l_1 u_2 v_3 aMg=some r):cE prog 176 [vi n_0,vl aV l_1,vi u_2,vi v_3,vi aMg] (.tup [vl aV r.1,vi r.2]):=by
 refine bd 55 func176 ?_;obtain ⟨r2,h1,hm⟩:=bnd hm;refine W ?_;refine cq (aD3 h1) ?_;obtain ⟨r4,h3,hm⟩:=bnd hm;refine W ?_;refine cg (fun hb=>oO (kQ h3 hb)) ?_;obtain ⟨r6,h5,hm⟩:=bnd hm;refine W ?_;refine cg (fun hb=>oO (kQ h5 hb)) ?_;obtain ⟨r8,h7,hm⟩:=bnd hm;refine W ?_;refine cg (fun hb=>aLd (kQ h7 hb)) ?_;refine W ?_;refine cm hm (fun hm=>?_) fun hm=>?_
 · exact E
 refine W ?_;obtain ⟨⟨r10,r11⟩,h9,hm⟩:=bnd hm;refine cq (aHg h9) ?_;refine W ?_;refine cm hm (fun hm=>?_) fun hm=>?_
 · exact E
 obtain ⟨r13,h12,hm⟩:=bnd hm;refine W ?_;refine aR.callF (id:=257) Zd Z1 cAd (fun H=>(cD (cI.sl _ _ _) .nil)) cI Z5 (aNt h12) ?_;obtain ⟨x15,h14,hm⟩:=bnd hm;obtain ⟨l17,h16,hm⟩:=bnd hm;refine W ?_;have qh16:=nF h16;refine aR.heap0 (id:=325) rfl (bRs cI (off:=2) (y:=x15) (y':=(aE.mk x15.U x15.V aMg)) (cs:=[.v (.int .i64 aMg)]) sz3 Z1 Z1 Z3 rfl h14 rfl Zd Z9 rfl h16) ?_;exact E
instance:Ct prog 176 (K5 prog vi (vl aV) vi vi vi (t2 (vl aV) vi) 176 aB0):=⟨fun hm=>bG1 hm⟩
def vM(n_0:Int)(v_1:Int):Option (Bool):=
 some ((decide (0≤v_1))&&(decide (v_1<n_0)))
theorem aUi:K2 prog vi vi vb 220 vM:=fun hm=>be 12 func220 (h:=G)
instance:Ct prog 220 (K2 prog vi vi vb 220 vM):=⟨aUi⟩
attribute [local semireducible] aW
end Go.Proofs.YtkdohhmacfoolaaGreatDoor
