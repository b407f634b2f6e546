/- Facts. No condition. -/
import Derived.Test.YtkdohhmacfoolaaGreatDoorOaGA1
set_option linter.unusedVariables false
set_option linter.unusedSimpArgs false
set_option maxRecDepth 20000
set_option maxHeartbeats 4000000
namespace Go.Proofs.YtkdohhmacfoolaaGreatDoor
open Go.Proofs.Tryz Go Go.AM
attribute [local irreducible] aZ
structure aN where
 R:Int
 V:Int
 Words:List Int
deriving DecidableEq
def qN(e:aN):List AV:=[.v (.int .i64 e.R),.v (.int .i64 e.V),.sl (e.Words.flatMap (ci .u64)) e.Words.length false]
theorem aJo:CF qN 3:=⟨fun _=>rfl,fun a x hx=>by
 simp only [qN,List.mem_cons,List.not_mem_nil,or_false] at hx;rcases hx with rfl|rfl|rfl
 · exact (.v _)
 · exact (.v _)
 · exact ((CFi .u64).sl _ _ _),fun _=>rfl⟩
instance:CC qN 3:=⟨aJo⟩
abbrev fL(e:aN):AV:= .agg [.v (.int .i64 e.R),vi e.V,vl (ci .u64) e.Words]
@[go_sem] theorem aF7(e:aN)(r:List AV):qN e++r= .v (.int .i64 e.R):: .v (.int .i64 e.V):: .sl (e.Words.flatMap (ci .u64)) e.Words.length false::r:=rfl
theorem bBq(x0 y0 x1 y1 x2 y2:Int):dU prog .eql 23 (.agg [.v (.int .i64 x0),.v (.int .i64 x1),.v (.int .i64 x2)]) (.agg [.v (.int .i64 y0),.v (.int .i64 y1),.v (.int .i64 y2)])=some (.v (.bool ((x0==y0)&&((x1==y1)&&(x2==y2))))):=
 (by kernel_rfl:dU prog .eql 23 (.agg [.v (.int .i64 x0),.v (.int .i64 x1),.v (.int .i64 x2)]) (.agg [.v (.int .i64 y0),.v (.int .i64 y1),.v (.int .i64 y2)])=some (.v (.bool ((x0==y0)&&((x1==y1)&&((x2==y2)&&true)))))).trans (by rw [Bool.and_true])
theorem bCv(x0 y0 x1 y1 x2 y2:Int):dU prog .neq 23 (.agg [.v (.int .i64 x0),.v (.int .i64 x1),.v (.int .i64 x2)]) (.agg [.v (.int .i64 y0),.v (.int .i64 y1),.v (.int .i64 y2)])=some (.v (.bool (!((x0==y0)&&((x1==y1)&&(x2==y2)))))):=
 (by kernel_rfl:dU prog .neq 23 (.agg [.v (.int .i64 x0),.v (.int .i64 x1),.v (.int .i64 x2)]) (.agg [.v (.int .i64 y0),.v (.int .i64 y1),.v (.int .i64 y2)])=some (.v (.bool (!((x0==y0)&&((x1==y1)&&((x2==y2)&&true))))))).trans (by rw [Bool.and_true])
attribute [go_sem] bBq bCv
theorem bBs(x0 y0 x1 y1:Int):dU prog .eql 94 (.agg [.v (.int .u64 x0),.v (.int .u64 x1)]) (.agg [.v (.int .u64 y0),.v (.int .u64 y1)])=some (.v (.bool ((x0==y0)&&(x1==y1)))):=
 (by kernel_rfl:dU prog .eql 94 (.agg [.v (.int .u64 x0),.v (.int .u64 x1)]) (.agg [.v (.int .u64 y0),.v (.int .u64 y1)])=some (.v (.bool ((x0==y0)&&((x1==y1)&&true))))).trans (by rw [Bool.and_true])
theorem bCx(x0 y0 x1 y1:Int):dU prog .neq 94 (.agg [.v (.int .u64 x0),.v (.int .u64 x1)]) (.agg [.v (.int .u64 y0),.v (.int .u64 y1)])=some (.v (.bool (!((x0==y0)&&(x1==y1))))):=
 (by kernel_rfl:dU prog .neq 94 (.agg [.v (.int .u64 x0),.v (.int .u64 x1)]) (.agg [.v (.int .u64 y0),.v (.int .u64 y1)])=some (.v (.bool (!((x0==y0)&&((x1==y1)&&true)))))).trans (by rw [Bool.and_true])
attribute [go_sem] bBs bCx
@[go_sem] theorem aUu(i o:Nat):aJ prog 215 (.adr i o) 0=some (.adr i (o+0)):=by kernel_rfl
@[go_sem] theorem aUv(i o:Nat):aJ prog 215 (.adr i o) 1=some (.adr i (o+1)):=by kernel_rfl
@[go_sem] theorem aUw(i o:Nat):aJ prog 215 (.adr i o) 2=some (.adr i (o+2)):=by kernel_rfl
@[go_sem] theorem aY1(i o:Nat):aJ prog 23 (.adr i o) 0=some (.adr i (o+0)):=by kernel_rfl
@[go_sem] theorem aY7(i o:Nat):aJ prog 23 (.adr i o) 1=some (.adr i (o+1)):=by kernel_rfl
@[go_sem] theorem aYc(i o:Nat):aJ prog 23 (.adr i o) 2=some (.adr i (o+2)):=by kernel_rfl
@[go_sem] theorem aYg(i o:Nat):aJ prog 30 (.adr i o) 0=some (.adr i (o+0)):=by kernel_rfl
@[go_sem] theorem aYk(i o:Nat):aJ prog 30 (.adr i o) 1=some (.adr i (o+3)):=by kernel_rfl
@[go_sem] theorem aYm(i o:Nat):aJ prog 30 (.adr i o) 2=some (.adr i (o+4)):=by kernel_rfl
@[go_sem] theorem aZ1(i o:Nat):aJ prog 61 (.adr i o) 0=some (.adr i (o+0)):=by kernel_rfl
@[go_sem] theorem aZ7(i o:Nat):aJ prog 61 (.adr i o) 1=some (.adr i (o+1)):=by kernel_rfl
@[go_sem] theorem aZd(i o:Nat):aJ prog 61 (.adr i o) 2=some (.adr i (o+2)):=by kernel_rfl
@[go_sem] theorem aZj(i o:Nat):aJ prog 94 (.adr i o) 0=some (.adr i (o+0)):=by kernel_rfl
@[go_sem] theorem aZl(i o:Nat):aJ prog 94 (.adr i o) 1=some (.adr i (o+1)):=by kernel_rfl
@[go_sem] theorem bCg(H:aG)(x0 x1 x2:AV)(xs:List AV):bP prog H 215 (.ptr (x0::x1::x2::xs))=some (.agg [x0,x1,x2]):=by kernel_rfl
@[go_sem] theorem bF0(H:aG)(x0 x1 x2:AV)(xs:List AV):bP prog H 23 (.ptr (x0::x1::x2::xs))=some (.agg [x0,x1,x2]):=by kernel_rfl
@[go_sem] theorem bF3(H:aG)(x:AV)(xs:List AV):bP prog H 24 (.ptr (x::xs))=some x:=by kernel_rfl
@[go_sem] theorem bF6(H:aG)(x:AV)(xs:List AV):bP prog H 27 (.ptr (x::xs))=some x:=by kernel_rfl
@[go_sem] theorem bF8(H:aG)(x:AV)(xs:List AV):bP prog H 28 (.ptr (x::xs))=some x:=by kernel_rfl
@[go_sem] theorem bIj(H:aG)(x:AV)(xs:List AV):bP prog H 3 (.ptr (x::xs))=some x:=by kernel_rfl
@[go_sem] theorem bFd(H:aG)(x0 x1 x2 x3 x4:AV)(xs:List AV):bP prog H 30 (.ptr (x0::x1::x2::x3::x4::xs))=some (.agg [x0,x1,x2,x3,x4]):=by kernel_rfl
@[go_sem] theorem bIp(H:aG)(x:AV)(xs:List AV):bP prog H 4 (.ptr (x::xs))=some x:=by kernel_rfl
@[go_sem] theorem bFo(H:aG)(x:AV)(xs:List AV):bP prog H 40 (.ptr (x::xs))=some x:=by kernel_rfl
@[go_sem] theorem bFu(H:aG)(x0 x1 x2:AV)(xs:List AV):bP prog H 61 (.ptr (x0::x1::x2::xs))=some (.agg [x0,x1,x2]):=by kernel_rfl
@[go_sem] theorem bG0(H:aG)(x0 x1:AV)(xs:List AV):bP prog H 94 (.ptr (x0::x1::xs))=some (.agg [x0,x1]):=by kernel_rfl
@[go_sem] theorem aXm(H:aG)(k:IntKind)(n:Int):qI prog H 3 40 (.v (.int k n))=some (.v (.int .u64 (IntKind.u64.wrap n))):=iJ underlying3 underlying40
@[go_sem] theorem aUc(H:aG)(k:IntKind)(n:Int):qI prog H 3 162 (.v (.int k n))=some (.v (.int .u64 (IntKind.u64.wrap n))):=iJ underlying3 underlying162
@[go_sem] theorem bBk(H:aG)(k:IntKind)(n:Int):qI prog H 5 3 (.v (.int k n))=some (.v (.int .i64 (IntKind.i64.wrap n))):=iJ underlying5 underlying3
@[go_sem] theorem aXn(H:aG)(k:IntKind)(n:Int):qI prog H 40 3 (.v (.int k n))=some (.v (.int .i64 (IntKind.i64.wrap n))):=iJ underlying40 underlying3
@[go_sem] theorem aUa(H:aG)(k:IntKind)(n:Int):qI prog H 277 5 (.v (.int k n))=some (.v (.int .u8 (IntKind.u8.wrap n))):=iJ underlying277 underlying5
abbrev aB1(rec1:List Bool→List aC→List aC→Int→Int→Option ((List aC)))(tK:List Bool)(fS:List aC)(t8:List aC)(t9:Int)(t10:Int):Option ((List aC)):=
 rec1 tK fS t8 t9 (IntKind.i64.wrap (t10+1))
def aB0(rec1:List Bool→List aC→List aC→Int→Int→Option ((List aC)))(tK:List Bool)(fS:List aC)(t8:List aC)(t9:Int)(t10:Int):Option ((List aC)):=
 (bif (decide (t10<t9)) then
  ((idx t8 t10).bind fun x2=>
  ((idx tK x2.U).bind fun x4=>
  ((idx tK x2.V).bind fun x6=>
  (bif (!(x4==x6)) then
   ((app fS [x2]).bind fun l8=>
   aB1 rec1 tK l8 t8 t9 t10)
  else
   aB1 rec1 tK fS t8 t9 t10))))
 else
  some fS)
def qP:Nat→List Bool→List aC→List aC→Int→Int→Option ((List aC))
 |0=>fun _ _ _ _ _=>none
 |n+1=>aB0 (qP n)
def xT(l_0:List aC)(tK:List Bool):Option ((List aC)):=
 qP aZ tK [] l_0 (l_0.length:Int) 0
theorem aJ3:K2 prog (vl aH) (vl aCh) (vl aH) 214 xT:=by
 intro l_0 tK r hm
 let I1:=((fun m s=> ∃tK fS t8 t9 t10,s=⟨31,(aD (aD (aD (aD (aD fa 1 (vl aCh tK)) 5 (.own 1 0 fS.length)) 8 (vl aH t8)) 9 (vi t9)) 10 (vi t10)),⟨(upd aV 1 (.cells 3 (fS.flatMap aH) 0)),64⟩⟩∧qP m tK fS t8 t9 t10=some r):Nat→St→Prop)
 exact be 31 func214 (h:=G)
instance:Ct prog 214 (K2 prog (vl aH) (vl aCh) (vl aH) 214 xT):=⟨aJ3⟩
def aI4(rec1:List aC→List Bool→List Int→Int→Int→Option ((List aC)×Int))(l_1:List aC)(aS2:List Bool)(t18:List Int)(t19:Int)(t20:Int):Option ((List aC)×Int):=
 (bif (decide (t20<t19)) then
  ((idx t18 t20).bind fun x6=>
  ((idx aS2 x6).bind fun x8=>
  ((stt aS2 x6 true).bind fun l10=>
  rec1 l_1 l10 t18 t19 (IntKind.i64.wrap (t20+1)))))
 else
  ((xT l_1 aS2).bind fun r12=>
  some (r12,0)))
def aA9:Nat→List aC→List Bool→List Int→Int→Int→Option ((List aC)×Int)
 |0=>fun _ _ _ _ _=>none
 |n+1=>aI4 (aA9 n)
def aCk(n_0:Int)(l_1:List aC)(aEo:List Int):Option ((List aC)×Int):=
 ((aDv n_0 l_1 aEo).bind fun r2=>
 (bif (!r2) then
  some ([],1)
 else
  ((mkc n_0 n_0 false).bind fun l4=>
  aA9 aZ l_1 l4 aEo (aEo.length:Int) 0)))
theorem bBf{n_0:Int}{l_1:List aC}{aEo:List Int}{r:(List aC)×Int}(hm:aCk n_0 l_1 aEo=some r):bH prog 164 [vi n_0,vl aH l_1,vl (ci .i64) aEo] (.tup [vl aH r.1,vi r.2]):=by
 refine bd 31 func164 ?_;obtain ⟨r2,h1,hm⟩:=bnd hm;refine W ?_;refine cq (aO5 h1) ?_;refine W ?_;refine cm hm (fun hm=>?_) fun hm=>?_
 · exact E
 obtain ⟨l4,h3,hm⟩:=bnd hm;refine W ?_;refine aK CFb h3 ?_;refine W ?_;refine lp (fun m s=> ∃l_1 aS2 t18 t19 t20,s=⟨31,(aD (aD (aD (aD (aD fa 1 (vl aH l_1)) 8 (.own 1 0 aS2.length)) 18 (vl (ci .i64) t18)) 19 (vi t19)) 20 (vi t20)),⟨(upd aV 1 (.cells 1 (aS2.flatMap aCh) 0)),64⟩⟩∧aA9 m l_1 aS2 t18 t19 t20=some r) (Lr (fun j=>bif j==1 then 129 else 0)) ?_;rintro n1 s ⟨l_1,aS2,t18,t19,t20,rfl,hm⟩;refine W ?_;refine cm hm (fun hm=>?_) fun hm=>?_
 · obtain ⟨x6,h5,hm⟩:=bnd hm;obtain ⟨x8,h7,hm⟩:=bnd hm;obtain ⟨l10,h9,hm⟩:=bnd hm;refine W ?_;have qh9:=kF h9;refine aS h9 ?_;refine W ?_;exact Lr (fun j=>bif j==1 then 1 else 0)
 iterate 5 refine S1 ?_
 refine AWp.seq' ?_;refine AWp.weaken (aGr CFb 8 1 Z1 Z3 Z6) ?_;obtain ⟨r12,h11,hm⟩:=bnd hm;refine W ?_;refine cq (aJ3 h11) ?_;exact E
instance:Ct prog 164 (K3 prog vi (vl aH) (vl (ci .i64)) (t2 (vl aH) vi) 164 aCk):=⟨fun hm=>bBf hm⟩
def oC(g_0:aE)(cX:Int)(v_2:Int):Option ((List aC)):=
 ((kT g_0 cX v_2).bind fun r2=>
 ((aCk g_0.Config.N g_0.Edges r2).bind fun ⟨r4,r5⟩=>
 some r4))
theorem aNf:K3 prog bW vi vi (vl aH) 137 oC:=fun hm=>be 23 func137 (h:=G)
instance:Ct prog 137 (K3 prog bW vi vi (vl aH) 137 oC):=⟨aNf⟩
def aDt(x_0:Int):Option (Int):=
 ((xP x_0).bind fun r2=>
 some r2)
theorem aNv{x_0:Int}{r:Int}(hm:aDt x_0=some r):bH prog 160 [vu x_0] (vi r):=by
 refine bd 8 func160 ?_;refine W ?_;refine AWp.condF Z1 ?_;obtain ⟨r2,h1,hm⟩:=bnd hm;refine W ?_;refine cq (aIz h1) ?_;exact E
instance:Ct prog 160 (K1 prog vu vi 160 aDt):=⟨fun hm=>aNv hm⟩
def nU(n_0:Int):Option (Int):=
 (bif (decide (n_0<1)) then
  some 0
 else
  ((aDt (IntKind.u64.wrap (IntKind.i64.wrap (n_0-1)))).bind fun r2=>
  some (IntKind.i64.wrap ((IntKind.i64.wrap (2*r2))+2))))
theorem aN6:K1 prog vi vi 168 nU:=fun hm=>be 11 func168 (h:=G)
instance:Ct prog 168 (K1 prog vi vi 168 nU):=⟨aN6⟩
def iZ(r_0:Int)(v_1:Int):Option (Bool):=
 some ((((decide (1≤r_0))&&(decide (r_0≤8)))&&(decide (1≤v_1)))&&(decide (v_1≤61)))
theorem aEr:K2 prog vi vi vb 216 iZ:=fun hm=>be 19 func216 (h:=G)
instance:Ct prog 216 (K2 prog vi vi vb 216 iZ):=⟨aEr⟩
def yS(r_0:Int)(v_1:Int):Option (aN×Int):=
 ((iZ r_0 v_1).bind fun r2=>
 (bif (!r2) then
  some ((aN.mk 0 0 []),1)
 else
  ((mkc (IntKind.i64.wrap (r_0*v_1)) (IntKind.i64.wrap (r_0*v_1)) 0).bind fun l4=>
  some ((aN.mk r_0 v_1 l4),0))))
theorem aSt{r_0:Int}{v_1:Int}{r:aN×Int}(hm:yS r_0 v_1=some r):bH prog 167 [vi r_0,vi v_1] (.tup [.agg [vi r.1.R,vi r.1.V,vl (ci .u64) r.1.Words],vi r.2]):=by
 refine bd 18 func167 ?_;obtain ⟨r2,h1,hm⟩:=bnd hm;refine W ?_;refine cq (aEr h1) ?_;refine W ?_;refine cm hm (fun hm=>?_) fun hm=>?_
 · refine W ?_;refine bU (.agg [vi 0,vi 0,.v (.slice none 0 0)]) ?_;exact E
 iterate 2 refine S1 ?_
 refine AWp.seq' ?_;refine AWp.regC 64 6 (N':=192) rfl ?_;obtain ⟨l4,h3,hm⟩:=bnd hm;refine W ?_;refine aK (CFi .u64) h3 ?_;refine aR.cut (aGr (CFi .u64) 16 133 Z1 Z3 Z6) ?_;refine bU (.agg [vi r_0,vi v_1,vl (ci .u64) l4]) ?_;exact E
instance:Ct prog 167 (K2 prog vi vi (t2 fL vi) 167 yS):=⟨fun hm=>aSt hm⟩
def kK(g_0:aE)(cX:Int):Option ((List bS)):=
 ((slc g_0.Hashes (IntKind.i64.wrap (cX*g_0.Config.R)) (IntKind.i64.wrap ((IntKind.i64.wrap (cX*g_0.Config.R))+g_0.Config.R))).bind fun l2=>
 ((eA l2).bind fun r4=>
 some r4))
theorem aK6:K2 prog bW vi (vl bC) 169 kK:=fun hm=>be 21 func169 (h:=G)
instance:Ct prog 169 (K2 prog bW vi (vl bC) 169 kK):=⟨aK6⟩
def qV(v_0:Int):Option (Bool):=
 some ((decide (0≤v_0))&&(decide (v_0<16777216)))
theorem aQ7:K1 prog vi vb 246 qV:=fun hm=>be 9 func246 (h:=G)
instance:Ct prog 246 (K1 prog vi vb 246 qV):=⟨aQ7⟩
def aCy(u_0:Int)(v_1:Int):Option (Int×Int):=
 ((qV u_0).bind fun r2=>
 ((dT ((!r2)==false) false (qV v_1)).bind fun r4=>
 (bif ((!r2)||(!r4)) then
  some (0,1)
 else
  (bif (u_0==v_1) then
   some (0,8)
  else
   some ((IntKind.u64.wrap ((IntKind.u64.wrap ((IntKind.u64.wrap (if v_1<u_0 then v_1 else u_0))*16777216))+(IntKind.u64.wrap (if u_0<v_1 then v_1 else u_0)))),0)))))
theorem bCs:K2 prog vi vi (t2 vu vi) 217 aCy:=fun hm=>be 27 func217 (h:=G)
instance:Ct prog 217 (K2 prog vi vi (t2 vu vi) 217 aCy):=⟨bCs⟩
abbrev aJ2(rec1:List Int→List aC→Int→Int→Option ((List Int)))(fU:List Int)(t8:List aC)(t9:Int)(t10:Int):Option ((List Int)):=
 rec1 fU t8 t9 (IntKind.i64.wrap (t10+1))
abbrev aCm(rec1:List Int→List aC→Int→Int→Option ((List Int)))(fU:List Int)(bS7:Int)(t8:List aC)(t9:Int)(t10:Int):Option ((List Int)):=
 ((app fU [bS7]).bind fun l7=>
 aJ2 rec1 l7 t8 t9 t10)
def aCl(rec1:List Int→List aC→Int→Int→Option ((List Int)))(fU:List Int)(t8:List aC)(t9:Int)(t10:Int):Option ((List Int)):=
 (bif (decide (t10<t9)) then
  ((idx t8 t10).bind fun x2=>
  ((aCy x2.U x2.V).bind fun ⟨r4,r5⟩=>
  (bif (r5 !=0) then
   aCm rec1 fU 0 t8 t9 t10
  else
   aCm rec1 fU r4 t8 t9 t10)))
 else
  some fU)
def sR:Nat→List Int→List aC→Int→Int→Option ((List Int))
 |0=>fun _ _ _ _=>none
 |n+1=>aCl (sR n)
def vH(l_0:List aC):Option ((List Int)):=
 sR aZ [] l_0 (l_0.length:Int) 0
theorem aU7:K1 prog (vl aH) (vl (ci .u64)) 170 vH:=by
 intro l_0 r hm
 let I1:=((fun m s=> ∃fU t8 t9 t10,s=⟨30,(aD (aD (aD (aD fa 3 (.own 1 0 fU.length)) 8 (vl aH t8)) 9 (vi t9)) 10 (vi t10)),⟨(upd aV 1 (.cells 1 (fU.flatMap (ci .u64)) 0)),64⟩⟩∧sR m fU t8 t9 t10=some r):Nat→St→Prop)
 exact be 30 func170 (h:=G)
instance:Ct prog 170 (K1 prog (vl aH) (vl (ci .u64)) 170 vH):=⟨aU7⟩
def kU(s_0:aN):Option (Bool):=
 ((iZ s_0.R s_0.V).bind fun r2=>
 some (r2&&((s_0.Words.length:Int)==(IntKind.i64.wrap (s_0.R*s_0.V)))))
theorem aEq:K1 prog fL vb 166 kU:=fun hm=>be 19 func166 (h:=G)
instance:Ct prog 166 (K1 prog fL vb 166 kU):=⟨aEq⟩
def gT(l:List Int):Option (List Int):=app [] l
theorem aDh{r:List Int}(hm:some []=some r):dD prog 218 [.v (.slice none 0 0)] 1 (r.flatMap (ci .u64)) r.length:=by
 refine dD.of_body func218 rfl ((CFi .u64).fmdat r) ?_;simp only [ntmps218,List.length_cons,List.length_nil,Nat.reduceAdd,Nat.reduceSub,eE];refine sN 64 (pA ?_);refine fs (AWp.seq' (sN 128 (pA ?_)));refine pu rfl (tE Z1 Z1 (aG4 underlying24)) ?_;refine fs (AWp.condT Z1 ?_);refine sN 192 (pA ?_);refine fs (AWp.weaken (oP 2 900002 1 Z1 Z5) ?_);refine AWp.ret (gD ?_);cases hm;exact aH6 (.inr rfl) Tryz.results218 Z1 Z3 Z6
theorem aDi{a:Addr}{c:Nat}{r:List Int}(hm:((app [] []).bind fun l2=>
some l2)=some r):dD prog 218 [.v (.slice (some a) 0 c)] 1 (r.flatMap (ci .u64)) r.length:=by
 refine dD.of_body func218 rfl ((CFi .u64).fmdat r) ?_;simp only [ntmps218,List.length_cons,List.length_nil,Nat.reduceAdd,Nat.reduceSub,eE];refine sN 64 (pA ?_);refine fs (AWp.seq' (sN 128 (pA ?_)));refine pu rfl (tE Z1 Z1 (aDs underlying24)) ?_;refine fs (AWp.condF Z1 ?_);refine AWp.skip (bI (sN 192 (hp (id:=128) rfl rfl (gV (CFi .u64) (l:=[]) underlying24 aK9 bGv Z5 Zd Zd Zd (by simp only [go_sem,Nat.reduceBEq];try rfl) (by kernel_rfl)) ?_)));refine pA ?_;obtain ⟨l2,h1,hm⟩:=bnd hm;refine hp (id:=130) rfl rfl (vA (CFi .u64) underlying24 underlying24 rfl bIe bJa (by rw [bA5];decide) (by rw [bA5];decide) bJe Zd Zd Z1 Z3 Z6 (aKc Z1) rfl Z5 h1) ?_;refine pA ?_;refine fs (AWp.ret ?_);cases hm;exact aH6 (.inr rfl) Tryz.results218 Z1 Z3 Z6
theorem aDj{x0:Int}{l0:List Int}{r:List Int}(hm:((app [] (x0::l0)).bind fun l2=>
some l2)=some r):dD prog 218 [.sl ((x0::l0).flatMap (ci .u64)) (x0::l0).length false] 1 (r.flatMap (ci .u64)) r.length:=by
 refine dD.of_body func218 rfl ((CFi .u64).fmdat r) ?_;simp only [ntmps218,List.length_cons,List.length_nil,Nat.reduceAdd,Nat.reduceSub,eE];refine sN 64 (pA ?_);refine fs (AWp.seq' (sN 128 (pA ?_)));refine pu rfl (tE Z1 Z1 (aDr underlying24 (by simp))) ?_;refine fs (AWp.condF Z1 ?_);refine AWp.skip (bI (sN 192 (hp (id:=128) rfl rfl (gV (CFi .u64) (l:=[]) underlying24 aK9 bGv Z5 Zd Zd Zd (by simp only [go_sem,Nat.reduceBEq];try rfl) (by kernel_rfl)) ?_)));refine pA ?_;obtain ⟨l2,h1,hm⟩:=bnd hm;refine hp (id:=130) rfl rfl (vA (CFi .u64) underlying24 underlying24 rfl bIe bJa (by rw [bA5];decide) (by rw [bA5];decide) bJe Zd Zd Z1 Z3 Z6 (aNu (CFi .u64) Z1 rfl) rfl Z5 h1) ?_;refine pA ?_;refine fs (AWp.ret ?_);cases hm;exact aH6 (.inr rfl) Tryz.results218 Z1 Z3 Z6
theorem aE8{l r:List Int}(hm:gT l=some r):dD prog 218 [.sl (l.flatMap (ci .u64)) l.length false] 1 (r.flatMap (ci .u64)) r.length:=by
 cases l with
 |nil=>
  have hr:r=[]:=by unfold gT app at hm;simpa using hm.symm
  subst hr;exact dD.nil_arg (aDh (r:=[]) rfl) (fun a c=>aDi (r:=[]) rfl)
 |cons x0 l0=>
  refine aDj ?_;show (app [] (x0::l0)).bind _=_;unfold gT at hm;rw [hm];rfl
def qT(h_0:bS)(aQ9:Int):Option (Int):=
 ((aCv h_0.A aQ9).bind fun r2=>
 ((aGv r2 h_0.B).bind fun r4=>
 some r4))
theorem aPz:K2 prog aQu vu vu 247 qT:=fun hm=>be 12 func247 (h:=G)
instance:Ct prog 247 (K2 prog aQu vu vu 247 qT):=⟨aPz⟩
def qS(aKh:Int):Option (Int):=
 (bif ((decide (aKh<0))||(decide (61≤aKh))) then
  some 0
 else
  ((chk (decide (0≤aKh))).bind fun _=>
  some (shr .u64 2305843009213693951 aKh)))
theorem aPx:K1 prog vi vu 248 qS:=fun hm=>be 11 func248 (h:=G)
instance:Ct prog 248 (K1 prog vi vu 248 qS):=⟨aPx⟩
def aBc(rec1:Int→Int→Int→Option (Int))(lT:Int)(aHr:Int)(aCo:Int):Option (Int):=
 ((dT ((decide (aCo<(if 61<lT then 61 else lT)))==true) 0 (qS aCo)).bind fun r4=>
 (bif ((decide (aCo<(if 61<lT then 61 else lT)))&&(decide (aHr<r4))) then
  rec1 lT aHr (IntKind.i64.wrap (aCo+1))
 else
  some aCo))
def kA:Nat→Int→Int→Int→Option (Int)
 |0=>fun _ _ _=>none
 |n+1=>aBc (kA n)
def sW(h_0:bS)(aQ9:Int)(lT:Int):Option (Int):=
 ((qT h_0 aQ9).bind fun r2=>
 kA aZ lT r2 0)
theorem aJ8:K3 prog aQu vu vi vi 219 sW:=by
 intro h_0 aQ9 lT r hm
 let I1:=((fun m s=> ∃lT aHr aCo,s=⟨25,(aD (aD (aD fa 2 (vi lT)) 7 (vu aHr)) 8 (vi aCo)),⟨aV,64⟩⟩∧kA m lT aHr aCo=some r):Nat→St→Prop)
 exact be 25 func219 (h:=G)
instance:Ct prog 219 (K3 prog aQu vu vi vi 219 sW):=⟨aJ8⟩
def tT(rec1:Int→aN→aN→List Int→List bS→Int→Int→Option (aN×Int))(rec2:Int→aN→aN→List Int→Int→List bS→Int→Int→Int→Int→Option (aN×Int))(jK:Int)(s_3:aN)(t6:aN)(iI:List Int)(aJf:Int)(t26:List bS)(t27:Int)(t28:Int)(t37:Int)(t38:Int):Option (aN×Int):=
 (bif (decide (t38<t37)) then
  ((idx iI (IntKind.i64.wrap ((IntKind.i64.wrap (aJf*s_3.V))+t38))).bind fun x10=>
  ((idx iI (IntKind.i64.wrap ((IntKind.i64.wrap (aJf*s_3.V))+t38))).bind fun x12=>
  ((stt iI (IntKind.i64.wrap ((IntKind.i64.wrap (aJf*s_3.V))+t38)) (bJu .u64 x10 jK)).bind fun l14=>
  rec2 jK s_3 t6 l14 aJf t26 t27 t28 t37 (IntKind.i64.wrap (t38+1)))))
 else
  rec1 jK s_3 t6 iI t26 t27 (IntKind.i64.wrap (t28+1)))
def kN(rec1:Int→aN→aN→List Int→List bS→Int→Int→Option (aN×Int)):Nat→Int→aN→aN→List Int→Int→List bS→Int→Int→Int→Int→Option (aN×Int)
 |0=>fun _ _ _ _ _ _ _ _ _ _=>none
 |n+1=>tT rec1 (kN rec1 n)
def tS(rec1:Int→aN→aN→List Int→List bS→Int→Int→Option (aN×Int))(jK:Int)(s_3:aN)(t6:aN)(iI:List Int)(t26:List bS)(t27:Int)(t28:Int):Option (aN×Int):=
 (bif (decide (t28<t27)) then
  ((idx t26 t28).bind fun x6=>
  ((sW x6 jK s_3.V).bind fun r8=>
  kN rec1 aZ jK s_3 t6 iI t28 t26 t27 t28 r8 0))
 else
  some ((aN.mk s_3.R s_3.V iI),0))
def gO:Nat→Int→aN→aN→List Int→List bS→Int→Int→Option (aN×Int)
 |0=>fun _ _ _ _ _ _ _=>none
 |n+1=>tS (gO n)
def mI(s_0:aN)(l_1:List bS)(jK:Int):Option (aN×Int):=
 ((kU s_0).bind fun r2=>
 (bif ((!r2)||((l_1.length:Int) !=s_0.R)) then
  some (s_0,1)
 else
  ((gT s_0.Words).bind fun r4=>
  gO aZ jK s_0 (aN.mk 0 0 []) r4 l_1 (l_1.length:Int) 0)))
theorem aM6{s_0:aN}{l_1:List bS}{jK:Int}{r:aN×Int}(hm:mI s_0 l_1 jK=some r):bH prog 171 [.agg [vi s_0.R,vi s_0.V,vl (ci .u64) s_0.Words],vl bC l_1,vu jK] (.tup [.agg [vi r.1.R,vi r.1.V,vl (ci .u64) r.1.Words],vi r.2]):=by
 refine bd 61 func171 ?_;obtain ⟨r2,h1,hm⟩:=bnd hm;refine W ?_;refine cq (aEq h1) ?_;refine W ?_;refine cm hm (fun hm=>?_) fun hm=>?_
 · exact E
 obtain ⟨r4,h3,hm⟩:=bnd hm;refine W ?_;refine aR.callF (id:=130) Zd Z1 bKc (fun H=>(cD ((CFi .u64).sl _ _ _) .nil)) (CFi .u64) Z5 (aE8 h3) ?_;refine W ?_;refine lp (fun m s=> ∃jK s_3 t6 iI t26 t27 t28,s=⟨61,(aD (aD (aD (aD (aD (aD (aD fa 2 (vu jK)) 3 (.adr 1 0)) 6 (.adr 2 0)) 8 (.own 3 0 iI.length)) 26 (vl bC t26)) 27 (vi t27)) 28 (vi t28)),⟨(upd (upd (upd aV 1 (.cells 1 [vi s_3.R,vi s_3.V,vl (ci .u64) s_3.Words] 0)) 2 (.cells 1 [vi t6.R,vi t6.V,vl (ci .u64) t6.Words] 0)) 3 (.cells 1 (iI.flatMap (ci .u64)) 0)),64⟩⟩∧gO m jK s_3 t6 iI t26 t27 t28=some r) ?_ ?_
 · refine ⟨_,?_,jK,s_0,(aN.mk 0 0 []),r4,l_1,(l_1.length:Int),0,rfl,hm⟩;refine St.Le.trans (aAc 1 (ys:=[.v (.int .i64 ((aN.mk 0 0 []).R)),.v (.int .i64 ((aN.mk 0 0 []).V)),.sl (((aN.mk 0 0 []).Words).flatMap (ci .u64)) ((aN.mk 0 0 []).Words).length false]) Z3 (.cons (.data _ (.v _)) (.cons (.data _ (.v _)) (.cons (.nil false) .nil)))) ?_;exact cn (fun j=>bif j==1 then 0 else bif j==2 then 1 else bif j==3 then 130 else 0)
 rintro n1 s ⟨jK,s_3,t6,iI,t26,t27,t28,rfl,hm⟩;refine W ?_;refine cm hm (fun hm=>?_) fun hm=>?_
 ·
  obtain ⟨x6,h5,hm⟩:=bnd hm;obtain ⟨r8,h7,hm⟩:=bnd hm;refine W ?_;refine cq (aJ8 h7) ?_;refine W ?_;refine lp (fun m s=> ∃jK s_3 t6 iI aJf t26 t27 t28 t37 t38,s=⟨61,(aD (aD (aD (aD (aD (aD (aD (aD (aD (aD fa 2 (vu jK)) 3 (.adr 1 0)) 6 (.adr 2 0)) 8 (.own 3 0 iI.length)) 9 (vi aJf)) 26 (vl bC t26)) 27 (vi t27)) 28 (vi t28)) 37 (vi t37)) 38 (vi t38)),⟨(upd (upd (upd aV 1 (.cells 1 [vi s_3.R,vi s_3.V,vl (ci .u64) s_3.Words] 0)) 2 (.cells 1 [vi t6.R,vi t6.V,vl (ci .u64) t6.Words] 0)) 3 (.cells 1 (iI.flatMap (ci .u64)) 0)),64⟩⟩∧kN (gO n1) m jK s_3 t6 iI aJf t26 t27 t28 t37 t38=some r) (Lr (fun j=>bif j==1 then 1 else bif j==2 then 2 else bif j==3 then 3 else 0)) ?_;rintro n2 s ⟨jK,s_3,t6,iI,aJf,t26,t27,t28,t37,t38,rfl,hm⟩;refine W ?_;refine cm hm (fun hm=>?_) fun hm=>?_
  · obtain ⟨x10,h9,hm⟩:=bnd hm;have hm:=sb hm h9;obtain ⟨l14,h13,hm⟩:=bnd hm;refine W ?_;have qh13:=kF h13;refine aS h13 ?_;refine W ?_;exact Lr (fun j=>bif j==1 then 1 else bif j==2 then 2 else bif j==3 then 3 else 0)
  refine W ?_;exact Lr (fun j=>bif j==1 then 1 else bif j==2 then 2 else bif j==3 then 3 else 0)
 iterate 5 refine S1 ?_
 refine AWp.seq' ?_;refine AWp.weaken (aGr (CFi .u64) 8 3 Z1 Z3 Z6) ?_;refine W ?_;refine bU (.agg [vi s_3.R,vi s_3.V,vl (ci .u64) iI]) ?_;exact E
instance:Ct prog 171 (K3 prog fL (vl bC) vu (t2 fL vi) 171 mI):=⟨fun hm=>aM6 hm⟩
def wK(rec1:aN→aN→List bS→List Int→Int→Int→Option (aN))(t6:aN)(s_7:aN)(bB7:List bS)(t27:List Int)(t28:Int)(t29:Int):Option (aN):=
 (bif (decide (t29<t28)) then
  ((idx t27 t29).bind fun x11=>
  ((mI s_7 bB7 x11).bind fun ⟨r13,r14⟩=>
  rec1 t6 r13 bB7 t27 t28 (IntKind.i64.wrap (t29+1))))
 else
  some s_7)
def mE:Nat→aN→aN→List bS→List Int→Int→Int→Option (aN)
 |0=>fun _ _ _ _ _ _=>none
 |n+1=>wK (mE n)
def oD(g_0:aE)(cX:Int)(bHe:List aC):Option (aN):=
 ((nU g_0.Config.N).bind fun r2=>
 ((yS g_0.Config.R r2).bind fun ⟨r4,r5⟩=>
 ((kK g_0 cX).bind fun r7=>
 ((vH bHe).bind fun r9=>
 mE aZ (aN.mk 0 0 []) r4 r7 r9 (r9.length:Int) 0))))
theorem aNg:K3 prog bW vi (vl aH) fL 139 oD:=by
 intro g_0 cX bHe r hm
 let I1:=((fun m s=> ∃t6 s_7 bB7 t27 t28 t29,s=⟨42,(aD (aD (aD (aD (aD (aD fa 6 (.adr 1 0)) 7 (.adr 2 0)) 9 (vl bC bB7)) 27 (vl (ci .u64) t27)) 28 (vi t28)) 29 (vi t29)),⟨(upd (upd aV 1 (.cells 1 [vi t6.R,vi t6.V,vl (ci .u64) t6.Words] 0)) 2 (.cells 1 [vi s_7.R,vi s_7.V,vl (ci .u64) s_7.Words] 0)),64⟩⟩∧mE m t6 s_7 bB7 t27 t28 t29=some r):Nat→St→Prop)
 exact be 42 func139 (h:=G)
instance:Ct prog 139 (K3 prog bW vi (vl aH) fL 139 oD):=⟨aNg⟩
def rX(aQ8:Int):Option (Int×Int×Bool):=
 (bif (decide ((Int.tmod aQ8 16777216)≤(IntKind.u64.wrap (Int.tdiv aQ8 16777216)))) then
  some (0,0,false)
 else
  some ((IntKind.i64.wrap (IntKind.u64.wrap (Int.tdiv aQ8 16777216))),(IntKind.i64.wrap (Int.tmod aQ8 16777216)),true))
theorem aVg:K1 prog vu (t3 vi vi vb) 140 rX:=fun hm=>be 18 func140 (h:=G)
instance:Ct prog 140 (K1 prog vu (t3 vi vi vb) 140 rX):=⟨aVg⟩
abbrev wR(rec1:List Int→List Int→Int→Int→Option ((List Int)))(fU:List Int)(t13:List Int)(t14:Int)(t15:Int):Option ((List Int)):=
 rec1 fU t13 t14 (IntKind.i64.wrap (t15+1))
def wQ(rec1:List Int→List Int→Int→Int→Option ((List Int)))(fU:List Int)(t13:List Int)(t14:Int)(t15:Int):Option ((List Int)):=
 (bif (decide (t15<t14)) then
  ((idx t13 t15).bind fun x4=>
  ((rX x4).bind fun ⟨r6,r7,r8⟩=>
  (bif r8 then
   ((app fU [x4]).bind fun l10=>
   wR rec1 l10 t13 t14 t15)
  else
   wR rec1 fU t13 t14 t15)))
 else
  some fU)
def mH:Nat→List Int→List Int→Int→Int→Option ((List Int))
 |0=>fun _ _ _ _=>none
 |n+1=>wQ (mH n)
def oE(s_0:aN):Option ((List Int)):=
 ((kU s_0).bind fun r2=>
 (bif (!r2) then
  some []
 else
  mH aZ [] s_0.Words (s_0.Words.length:Int) 0))
theorem aNi:K1 prog fL (vl (ci .u64)) 138 oE:=by
 intro s_0 r hm
 let I1:=((fun m s=> ∃fU t13 t14 t15,s=⟨32,(aD (aD (aD (aD fa 3 (.own 1 0 fU.length)) 13 (vl (ci .u64) t13)) 14 (vi t14)) 15 (vi t15)),⟨(upd aV 1 (.cells 1 (fU.flatMap (ci .u64)) 0)),64⟩⟩∧mH m fU t13 t14 t15=some r):Nat→St→Prop)
 exact be 32 func138 (h:=G)
instance:Ct prog 138 (K1 prog fL (vl (ci .u64)) 138 oE):=⟨aNi⟩
abbrev tO(rec1:aC→List aC→List Int→Int→Int→Option (aC×Bool))(t6:aC)(aGy:List aC)(t30:List Int)(t31:Int)(t32:Int):Option (aC×Bool):=
 rec1 t6 aGy t30 t31 (IntKind.i64.wrap (t32+1))
def tN(rec1:aC→List aC→List Int→Int→Int→Option (aC×Bool))(t6:aC)(aGy:List aC)(t30:List Int)(t31:Int)(t32:Int):Option (aC×Bool):=
 (bif (decide (t32<t31)) then
  ((idx t30 t32).bind fun x10=>
  ((rX x10).bind fun ⟨r12,r13,r14⟩=>
  (bif (!r14) then
   tO rec1 t6 aGy t30 t31 t32
  else
   ((kB aGy r12 r13).bind fun ⟨r16,r17⟩=>
   (bif r17 then
    ((idx aGy r16).bind fun x19=>
    some (x19,true))
   else
    tO rec1 t6 aGy t30 t31 t32)))))
 else
  some ((aC.mk 0 0 0),false))
def kL:Nat→aC→List aC→List Int→Int→Int→Option (aC×Bool)
 |0=>fun _ _ _ _ _=>none
 |n+1=>tN (kL n)
def jN(g_0:aE)(cX:Int)(v_2:Int):Option (aC×Bool):=
 ((iR g_0 cX v_2).bind fun r2=>
 (bif (!r2) then
  some ((aC.mk 0 0 0),false)
 else
  ((oC g_0 cX v_2).bind fun r4=>
  ((oD g_0 cX r4).bind fun r6=>
  ((oE r6).bind fun r8=>
  kL aZ (aC.mk 0 0 0) r4 r8 (r8.length:Int) 0)))))
theorem aDe:K3 prog bW vi vi (t2 xB vb) 96 jN:=by
 intro g_0 cX v_2 r hm
 let I1:=((fun m s=> ∃t6 aGy t30 t31 t32,s=⟨58,(aD (aD (aD (aD (aD fa 6 (.adr 1 0)) 8 (vl aH aGy)) 30 (vl (ci .u64) t30)) 31 (vi t31)) 32 (vi t32)),⟨(upd aV 1 (.cells 1 [vi t6.U,vi t6.V,vi t6.Tier] 0)),64⟩⟩∧kL m t6 aGy t30 t31 t32=some r):Nat→St→Prop)
 exact be 58 func96 (h:=G)
instance:Ct prog 96 (K3 prog bW vi vi (t2 xB vb) 96 jN):=⟨aDe⟩
def qE(g_0:aE)(u_1:Int)(v_2:Int):Option (Bool):=
 ((dC g_0).bind fun r2=>
 some ((((r2&&(decide (0≤u_1)))&&(decide (u_1<g_0.Config.N)))&&(decide (0≤v_2)))&&(decide (v_2<g_0.Config.N))))
theorem aT1:K3 prog bW vi vi vb 98 qE:=fun hm=>be 31 func98 (h:=G)
instance:Ct prog 98 (K3 prog bW vi vi vb 98 qE):=⟨aT1⟩
def eI(n_0:Int)(v_1:Int):Option (Bool):=
 some ((decide (0≤v_1))&&(decide (v_1<n_0)))
theorem jA:K2 prog vi vi vb 141 eI:=fun hm=>be 12 func141 (h:=G)
instance:Ct prog 141 (K2 prog vi vi vb 141 eI):=⟨jA⟩
abbrev iV(s_0:List aC):Option ((List aC)):=
 some s_0
abbrev lM(n_1:Int):Option ((List aC)):=
 (bif (decide (0<(IntKind.i64.wrap (n_1-(IntKind.i64.wrap (((0:Nat):Int)-((0:Nat):Int))))))) then
  ((chk (((0:Nat):Int)==0)).bind fun _=>
  ((chk (decide (0<(IntKind.i64.wrap (n_1-(IntKind.i64.wrap (((0:Nat):Int)-((0:Nat):Int))))))&&decide ((IntKind.i64.wrap (n_1-(IntKind.i64.wrap (((0:Nat):Int)-((0:Nat):Int)))))≤4294967296))).bind fun _=>
  ((chk (((0:Nat):Int)==0)).bind fun _=>
  iV [])))
 else
  iV [])
def jP(n_1:Int):Option ((List aC)):=
 (bif (decide (n_1<0)) then
  none
 else
  lM n_1)
theorem aIm{n_1:Int}{r:(List aC)}(hm:jP n_1=some r):dD prog 172 [.v (.slice none 0 0),.v (.int .i64 n_1)] 3 (r.flatMap aH) r.length:=by
 refine dD.of_body func172 rfl (bJ.fmdat r) ?_;simp only [ntmps172,List.length_cons,List.length_nil,Nat.reduceAdd,Nat.reduceSub,eE];unfold jP at hm;refine sN 64 (pA ?_);refine fs (AWp.seqJ (fun s=> ∃(n_1:Int),s=(⟨27,(aD (aD (fun _=>AV.any) 0 (.v (.slice none 0 0))) 1 (.v (.int .i64 n_1))),⟨aV,64⟩⟩:St)∧lM n_1=some r) ?_ ?_)
 ·
  refine sN 128 ?_
  iterate 2 refine pA ?_
  refine fs (AWp.condM hm Z1 (fun _ hm=>?_) (fun _ hm=>?_))
  · cases hm
  · refine AWp.skip (rM ?_);refine ⟨_,?_,n_1,rfl,hm⟩;exact cA id (wV (wV dA)) aPq
 ·
  rintro s ⟨n_1,rfl,hm⟩;unfold lM at hm;refine AWp.seqJ (fun s=> ∃(s_0:List aC),s=(⟨27,(aD (fun _=>AV.any) 0 (.own 1 0 s_0.length)),⟨(upd aV 1 (.cells 3 (s_0.flatMap aH) 0)),64⟩⟩:St)∧iV s_0=some r) ?_ ?_
  ·
   refine sN 128 ?_
   iterate 2 refine pA ?_
   refine pu rfl (aW6 underlying28 Z1) ?_
   iterate 5 refine pA ?_
   refine fs (sN 192 ?_)
   iterate 2 refine pA ?_
   refine fs (AWp.condM hm Z1 (fun _ hm=>?_) (fun _ hm=>?_))
   ·
    refine AWp.reg 64 (N':=256) rfl ?_
    iterate 2 refine pA ?_
    refine pu rfl (aW6 underlying28 Z1) ?_;obtain ⟨_,h3,hm⟩:=bnd hm;refine pu rfl (bAs underlying28 aKa Z1 Z1 (eq_of_beq (nO h3))) ?_;refine pA ?_;obtain ⟨_,h4,hm⟩:=bnd hm;refine hp (id:=197) rfl rfl (bE0 underlying28 underlying3 rfl bEu bGs (by rw [aSz];decide) (by rw [aSz];decide) bGt Zd Zd Z1 Z1 Z5 h4) ?_
    iterate 2 refine pA ?_
    obtain ⟨_,h8,hm⟩:=bnd hm;refine pu rfl (bE4 underlying28 aKa Z1 Z3 Z1 (eq_of_beq (nO h8))) ?_;refine pA ?_;refine aR.fin (rM ?_);refine ⟨_,?_,[],rfl,hm⟩;refine St.Le.trans (bG3 197 Z3) ?_;exact cA (fun j=>bif j==1 then 197 else 0) (wO dA) (hW (eU bJ cH))
   · refine AWp.skip (rM ?_);refine ⟨_,?_,[],rfl,hm⟩;refine St.Le.trans (oP 0 900000 3 Z1 Z5) ?_;exact cA (fun j=>bif j==1 then 900000 else 0) (wO dA) (hW (eU bJ cH))
  ·
   rintro s ⟨s_0,rfl,hm⟩;unfold iV at hm;refine sN 128 ?_
   iterate 2 refine pA ?_
   refine fs (AWp.ret ?_);cases hm;exact aH6 (.inr rfl) Tryz.results172 Z1 Z3 Z6
abbrev nK(rec1:List (List aC)→Int→List (List aC)→Int→Int→Option ((List aC)))(eG:List (List aC))(sB:Int)(t9:List (List aC))(t10:Int)(t11:Int):Option ((List aC)):=
 rec1 eG sB t9 t10 (IntKind.i64.wrap (t11+1))
def nJ(rec2:List aC→List (List aC)→Int→Int→Option ((List aC)))(oS:List aC)(t25:List (List aC))(t26:Int)(t27:Int):Option ((List aC)):=
 (bif (decide (t27<t26)) then
  ((idx t25 t27).bind fun x6=>
  ((app oS x6).bind fun l8=>
  rec2 l8 t25 t26 (IntKind.i64.wrap (t27+1))))
 else
  some oS)
def gU:Nat→List aC→List (List aC)→Int→Int→Option ((List aC))
 |0=>fun _ _ _ _=>none
 |n+1=>nJ (gU n)
def nI(rec1:List (List aC)→Int→List (List aC)→Int→Int→Option ((List aC)))(eG:List (List aC))(sB:Int)(t9:List (List aC))(t10:Int)(t11:Int):Option ((List aC)):=
 (bif (decide (t11<t10)) then
  ((idx t9 t11).bind fun x2=>
  (bif (decide ((IntKind.i64.wrap (sB+(x2.length:Int)))<0)) then
   none
  else
   nK rec1 eG (IntKind.i64.wrap (sB+(x2.length:Int))) t9 t10 t11))
 else
  ((jP sB).bind fun r4=>
  gU aZ r4 eG (eG.length:Int) 0))
def fN:Nat→List (List aC)→Int→List (List aC)→Int→Int→Option ((List aC))
 |0=>fun _ _ _ _ _=>none
 |n+1=>nI (fN n)
def fR(eG:List (List aC)):Option ((List aC)):=
 fN aZ eG 0 eG (eG.length:Int) 0
theorem oV{eG:List (List aC)}{r:(List aC)}(hm:fR eG=some r):bH prog 142 [.sl (eG.flatMap (csl aH)) eG.length false] (vl aH r):=by
 refine bd 36 func142 ?_;refine W ?_;refine lp (fun m s=> ∃eG sB t9 t10 t11,s=⟨36,(aD (aD (aD (aD (aD fa 0 (.sl (eG.flatMap (csl aH)) eG.length false)) 3 (vi sB)) 9 (.sl (t9.flatMap (csl aH)) t9.length false)) 10 (vi t10)) 11 (vi t11)),⟨aV,64⟩⟩∧fN m eG sB t9 t10 t11=some r) L ?_;rintro n1 s ⟨eG,sB,t9,t10,t11,rfl,hm⟩;refine W ?_;refine cm hm (fun hm=>?_) fun hm=>?_
 ·
  refine V ?_;refine AWp.seqJ (fun s=> ∃eG sB t9 t10 t11,s=⟨36,(aD (aD (aD (aD (aD fa 0 (.sl (eG.flatMap (csl aH)) eG.length false)) 3 (vi sB)) 9 (.sl (t9.flatMap (csl aH)) t9.length false)) 10 (vi t10)) 11 (vi t11)),⟨aV,64⟩⟩∧nK (fN n1) eG sB t9 t10 t11=some r) ?_ ?_
  ·
   obtain ⟨x2,h1,hm⟩:=bnd hm;refine W ?_;refine cm hm (fun hm=>?_) fun hm=>?_
   · cases hm
   exact L
  rintro s ⟨eG,sB,t9,t10,t11,rfl,hm⟩;exact L
 obtain ⟨r4,h3,hm⟩:=bnd hm;refine W ?_;refine aR.callF (id:=129) Zd Z1 bK9 (fun H=>(cV (cV .nil))) bJ Z5 (aIm h3) ?_;refine W ?_;refine lp (fun m s=> ∃oS t25 t26 t27,s=⟨36,(aD (aD (aD (aD fa 6 (.own 1 0 oS.length)) 25 (.sl (t25.flatMap (csl aH)) t25.length false)) 26 (vi t26)) 27 (vi t27)),⟨(upd aV 1 (.cells 3 (oS.flatMap aH) 0)),64⟩⟩∧gU m oS t25 t26 t27=some r) (Lr (fun j=>bif j==1 then 129 else 0)) ?_;rintro n2 s ⟨oS,t25,t26,t27,rfl,hm⟩;refine W ?_;refine cm hm (fun hm=>?_) fun hm=>?_
 · obtain ⟨x6,h5,hm⟩:=bnd hm;obtain ⟨l8,h7,hm⟩:=bnd hm;refine W ?_;exact Lr (fun j=>bif j==1 then 194 else 0)
 exact E
instance:Ct prog 142 (K1 prog (vl (csl aH)) (vl aH) 142 fR):=⟨fun hm=>oV hm⟩
def oF(n_0:Int)(l_1:List aC)(u_2:Int)(v_3:Int):Option ((List aC)×Int):=
 ((fK n_0 l_1).bind fun r2=>
 ((dT ((!r2)==false) false (eI n_0 u_2)).bind fun r4=>
 ((dT (((!r2)||(!r4))==false) false (eI n_0 v_3)).bind fun r6=>
 (bif (((!r2)||(!r4))||(!r6)) then
  some (l_1,1)
 else
  ((kB l_1 u_2 v_3).bind fun ⟨r8,r9⟩=>
  (bif (!r9) then
   some (l_1,9)
  else
   ((slc l_1 0 r8).bind fun l11=>
   ((slc l_1 (IntKind.i64.wrap (r8+1)) (l_1.length:Int)).bind fun l13=>
   ((fR [l11,l13]).bind fun r15=>
   some (r15,0))))))))))
theorem aNk{n_0:Int}{l_1:List aC}{u_2:Int}{v_3:Int}{r:(List aC)×Int}(hm:oF n_0 l_1 u_2 v_3=some r):bH prog 99 [vi n_0,vl aH l_1,vi u_2,vi v_3] (.tup [vl aH r.1,vi r.2]):=by
 refine bd 48 func99 ?_;obtain ⟨r2,h1,hm⟩:=bnd hm;refine W ?_;refine cq (uL h1) ?_;obtain ⟨r4,h3,hm⟩:=bnd hm;refine W ?_;refine cg (fun hb=>jA (eJ h3 hb)) ?_;obtain ⟨r6,h5,hm⟩:=bnd hm;refine W ?_;refine cg (fun hb=>jA (eJ h5 hb)) ?_;refine W ?_;refine cm hm (fun hm=>?_) fun hm=>?_
 · exact E
 refine W ?_;obtain ⟨⟨r8,r9⟩,h7,hm⟩:=bnd hm;refine cq (aBh h7) ?_;refine W ?_;refine cm hm (fun hm=>?_) fun hm=>?_
 · exact E
 obtain ⟨l11,h10,hm⟩:=bnd hm;obtain ⟨l13,h12,hm⟩:=bnd hm
 iterate 10 refine S1 ?_
 refine aR.pop Zd (aD0 (ps:=[(0,.sl (l11.flatMap aH) l11.length (false&&(r8:Int).toNat==l_1.length)),(1,.sl (l13.flatMap aH) l13.length (false&&((l_1.length:Int):Int).toNat==l_1.length))]) (by simp only [go_sem,Nat.reduceBEq];try rfl) (aAa (bJ.sl _ _ _) (aAa (bJ.sl _ _ _) aPh))) (aLv (CFl bJ) (l:=[l11,l13]) (xs:=[.sl (l11.flatMap aH) l11.length (false&&(r8:Int).toNat==l_1.length),.sl (l13.flatMap aH) l13.length (false&&((l_1.length:Int):Int).toNat==l_1.length)]) underlying249 bJ5 bJk Zd Zd Zd (ps:=[(0,.sl (l11.flatMap aH) l11.length (false&&(r8:Int).toNat==l_1.length)),(1,.sl (l13.flatMap aH) l13.length (false&&((l_1.length:Int):Int).toNat==l_1.length))]) (by simp only [go_sem,Nat.reduceBEq];try rfl) (by kernel_rfl) (fun H=>(.cons (tdf rfl (bJ.sl _ _ _)) (.cons (tdf rfl (bJ.sl _ _ _)) .nil)))) rfl ?_;obtain ⟨r15,h14,hm⟩:=bnd hm;refine cq (oV h14) ?_;exact E
instance:Ct prog 99 (K4 prog vi (vl aH) vi vi (t2 (vl aH) vi) 99 oF):=⟨fun hm=>aNk hm⟩
def aDm(rec1:List aC→aC→Int→Option ((List aC)×Int))(l_1:List aC)(dM:aC)(iQ:Int):Option ((List aC)×Int):=
 ((dT ((decide (iQ<(l_1.length:Int)))==true) (aC.mk 0 0 0) (idx l_1 iQ)).bind fun x11=>
 ((dT ((decide (iQ<(l_1.length:Int)))==true) false (oR x11 dM)).bind fun r13=>
 (bif ((decide (iQ<(l_1.length:Int)))&&r13) then
  rec1 l_1 dM (IntKind.i64.wrap (iQ+1))
 else
  ((slc l_1 0 iQ).bind fun l15=>
  ((slc l_1 iQ (l_1.length:Int)).bind fun l17=>
  ((fR [l15,[dM],l17]).bind fun r19=>
  some (r19,0)))))))
def tD:Nat→List aC→aC→Int→Option ((List aC)×Int)
 |0=>fun _ _ _=>none
 |n+1=>aDm (tD n)
def wT(n_0:Int)(l_1:List aC)(u_2:Int)(v_3:Int):Option ((List aC)×Int):=
 ((fK n_0 l_1).bind fun r2=>
 ((dT ((!r2)==false) false (eI n_0 u_2)).bind fun r4=>
 ((dT (((!r2)||(!r4))==false) false (eI n_0 v_3)).bind fun r6=>
 (bif (((!r2)||(!r4))||(!r6)) then
  some (l_1,1)
 else
  (bif (u_2==v_3) then
   some (l_1,8)
  else
   ((kB l_1 u_2 v_3).bind fun ⟨r8,r9⟩=>
   (bif r9 then
    some (l_1,4)
   else
    tD aZ l_1 (aC.mk (if v_3<u_2 then v_3 else u_2) (if u_2<v_3 then v_3 else u_2) 0) 0)))))))
theorem aVu{n_0:Int}{l_1:List aC}{u_2:Int}{v_3:Int}{r:(List aC)×Int}(hm:wT n_0 l_1 u_2 v_3=some r):bH prog 102 [vi n_0,vl aH l_1,vi u_2,vi v_3] (.tup [vl aH r.1,vi r.2]):=by
 refine bd 75 func102 ?_;obtain ⟨r2,h1,hm⟩:=bnd hm;refine W ?_;refine cq (uL h1) ?_;obtain ⟨r4,h3,hm⟩:=bnd hm;refine W ?_;refine cg (fun hb=>jA (eJ h3 hb)) ?_;obtain ⟨r6,h5,hm⟩:=bnd hm;refine W ?_;refine cg (fun hb=>jA (eJ h5 hb)) ?_;refine W ?_;refine cm hm (fun hm=>?_) fun hm=>?_
 · exact E
 refine W ?_;refine cm hm (fun hm=>?_) fun hm=>?_
 · exact E
 refine W ?_;obtain ⟨⟨r8,r9⟩,h7,hm⟩:=bnd hm;refine cq (aBh h7) ?_;refine W ?_;refine cm hm (fun hm=>?_) fun hm=>?_
 · exact E
 refine W ?_;refine bU (.agg [.v (.int .i64 (if v_3<u_2 then v_3 else u_2)),.v (.int .i64 (if u_2<v_3 then v_3 else u_2)),vi 0]) ?_;refine W ?_;refine lp (fun m s=> ∃l_1 dM iQ,s=⟨75,(aD (aD (aD fa 1 (vl aH l_1)) 12 (.adr 1 0)) 13 (vi iQ)),⟨(upd aV 1 (.cells 1 [vi dM.U,vi dM.V,vi dM.Tier] 0)),64⟩⟩∧tD m l_1 dM iQ=some r) (Lr (fun j=>bif j==1 then 327 else 0)) ?_;rintro n1 s ⟨l_1,dM,iQ,rfl,hm⟩;obtain ⟨x11,h10,hm⟩:=bnd hm;obtain ⟨r13,h12,hm⟩:=bnd hm;refine W ?_;refine cg (fun hb=>aLm (eJ h12 hb)) ?_;refine W ?_;refine cm hm (fun hm=>?_) fun hm=>?_
 · refine W ?_;exact Lr (fun j=>bif j==1 then 1 else 0)
 obtain ⟨l15,h14,hm⟩:=bnd hm
 iterate 10 refine S1 ?_
 refine aR.pop Zd (aD0 (ps:=[(0,.agg [.v (.int .i64 dM.U),.v (.int .i64 dM.V),.v (.int .i64 dM.Tier)])]) (by simp only [go_sem,Nat.reduceBEq];try rfl) (aAa (.agg _ (bJ.dat dM)) aPh)) (aLv bJ (l:=[dM]) (xs:=[.v (.int .i64 dM.U),.v (.int .i64 dM.V),.v (.int .i64 dM.Tier)]) underlying28 aKa aVz Zd Zd Zd (ps:=[(0,.agg [.v (.int .i64 dM.U),.v (.int .i64 dM.V),.v (.int .i64 dM.Tier)])]) (by simp only [go_sem,Nat.reduceBEq];try rfl) (by kernel_rfl) (fun H=>(.cons (.data _ (.v _)) (.cons (.data _ (.v _)) (.cons (.data _ (.v _)) .nil))))) rfl ?_;obtain ⟨l17,h16,hm⟩:=bnd hm
 iterate 3 refine S1 ?_
 refine aR.pop Zd (aD0 (ps:=[(0,.sl (l15.flatMap aH) l15.length (false&&(iQ:Int).toNat==l_1.length)),(1,.sl (([dM]).flatMap aH) ([dM]).length false),(2,.sl (l17.flatMap aH) l17.length (false&&((l_1.length:Int):Int).toNat==l_1.length))]) (by simp only [go_sem,Nat.reduceBEq];try rfl) (aAa (bJ.sl _ _ _) (aAa (bJ.sl _ _ _) (aAa (bJ.sl _ _ _) aPh)))) (aLv (CFl bJ) (l:=[l15,[dM],l17]) (xs:=[.sl (l15.flatMap aH) l15.length (false&&(iQ:Int).toNat==l_1.length),.sl (([dM]).flatMap aH) ([dM]).length false,.sl (l17.flatMap aH) l17.length (false&&((l_1.length:Int):Int).toNat==l_1.length)]) underlying249 bJ5 bJk Zd Zd Zd (ps:=[(0,.sl (l15.flatMap aH) l15.length (false&&(iQ:Int).toNat==l_1.length)),(1,.sl (([dM]).flatMap aH) ([dM]).length false),(2,.sl (l17.flatMap aH) l17.length (false&&((l_1.length:Int):Int).toNat==l_1.length))]) (by simp only [go_sem,Nat.reduceBEq];try rfl) (by kernel_rfl) (fun H=>(.cons (tdf rfl (bJ.sl _ _ _)) (.cons (.data _ (bJ.sl _ _ _)) (.cons (tdf rfl (bJ.sl _ _ _)) .nil))))) rfl ?_;obtain ⟨r19,h18,hm⟩:=bnd hm;refine cq (oV h18) ?_;exact E
instance:Ct prog 102 (K4 prog vi (vl aH) vi vi (t2 (vl aH) vi) 102 wT):=⟨fun hm=>aVu hm⟩
abbrev aC0(rec1:Int→List Int→List aC→Int→Int→Option ((List Int)))(v_2:Int)(zL:List Int)(t20:List aC)(t21:Int)(t22:Int):Option ((List Int)):=
 rec1 v_2 zL t20 t21 (IntKind.i64.wrap (t22+1))
def aQs(rec1:Int→List Int→List aC→Int→Int→Option ((List Int)))(v_2:Int)(zL:List Int)(t20:List aC)(t21:Int)(t22:Int):Option ((List Int)):=
 (bif (decide (t22<t21)) then
  ((idx t20 t22).bind fun x6=>
  (bif (v_2==x6.U) then
   ((app zL [x6.V]).bind fun l8=>
   aC0 rec1 v_2 l8 t20 t21 t22)
  else
   (bif (v_2==x6.V) then
    ((app zL [x6.U]).bind fun l10=>
    aC0 rec1 v_2 l10 t20 t21 t22)
   else
    aC0 rec1 v_2 zL t20 t21 t22)))
 else
  some zL)
def aC1:Nat→Int→List Int→List aC→Int→Int→Option ((List Int))
 |0=>fun _ _ _ _ _=>none
 |n+1=>aQs (aC1 n)
def aDn(n_0:Int)(l_1:List aC)(v_2:Int):Option ((List Int)):=
 ((fK n_0 l_1).bind fun r2=>
 ((dT ((!r2)==false) false (eI n_0 v_2)).bind fun r4=>
 (bif ((!r2)||(!r4)) then
  some []
 else
  aC1 aZ v_2 [] l_1 (l_1.length:Int) 0)))
theorem aSy:K3 prog vi (vl aH) vi (vl (ci .i64)) 122 aDn:=by
 intro n_0 l_1 v_2 r hm
 let I1:=((fun m s=> ∃v_2 zL t20 t21 t22,s=⟨47,(aD (aD (aD (aD (aD fa 2 (vi v_2)) 7 (.own 1 0 zL.length)) 20 (vl aH t20)) 21 (vi t21)) 22 (vi t22)),⟨(upd aV 1 (.cells 1 (zL.flatMap (ci .i64)) 0)),64⟩⟩∧aC1 m v_2 zL t20 t21 t22=some r):Nat→St→Prop)
 exact be 47 func122 (h:=G)
instance:Ct prog 122 (K3 prog vi (vl aH) vi (vl (ci .i64)) 122 aDn):=⟨aSy⟩
def nC(g_0:aE)(cX:Int)(v_2:Int):Option ((List Int)):=
 ((dC g_0).bind fun r2=>
 (bif (((((!r2)||(decide (cX<0)))||(decide (g_0.Config.L<cX)))||(decide (v_2<0)))||(decide (g_0.Config.N≤v_2))) then
  some []
 else
  ((kT g_0 cX v_2).bind fun r4=>
  some r4)))
theorem aQg:K3 prog bW vi vi (vl (ci .i64)) 173 nC:=fun hm=>be 36 func173 (h:=G)
instance:Ct prog 173 (K3 prog bW vi vi (vl (ci .i64)) 173 nC):=⟨aQg⟩
abbrev rW(rec1:aC→aC→List aC→Int→Int→Option (aC×Bool))(t2:aC)(fG:aC)(t15:List aC)(t16:Int)(t17:Int):Option (aC×Bool):=
 rec1 t2 fG t15 t16 (IntKind.i64.wrap (t17+1))
def rV(rec1:aC→aC→List aC→Int→Int→Option (aC×Bool))(t2:aC)(fG:aC)(t15:List aC)(t16:Int)(t17:Int):Option (aC×Bool):=
 (bif (decide (t17<t16)) then
  ((idx t15 t17).bind fun x6=>
  ((dT (((decide (fG.Tier<x6.Tier))==false)&&((x6.Tier==fG.Tier)==true)) false (oR fG x6)).bind fun r8=>
  (bif ((decide (fG.Tier<x6.Tier))||((x6.Tier==fG.Tier)&&r8)) then
   rW rec1 t2 x6 t15 t16 t17
  else
   rW rec1 t2 fG t15 t16 t17)))
 else
  some (fG,true))
def jJ:Nat→aC→aC→List aC→Int→Int→Option (aC×Bool)
 |0=>fun _ _ _ _ _=>none
 |n+1=>rV (jJ n)
def iK(l_0:List aC):Option (aC×Bool):=
 (bif ((l_0.length:Int)==0) then
  some ((aC.mk 0 0 0),false)
 else
  ((idx l_0 0).bind fun x2=>
  ((slc l_0 1 (l_0.length:Int)).bind fun l4=>
  jJ aZ (aC.mk 0 0 0) x2 l4 (l4.length:Int) 0)))
theorem aJw:K1 prog (vl aH) (t2 xB vb) 175 iK:=by
 intro l_0 r hm
 let I1:=((fun m s=> ∃t2 fG t15 t16 t17,s=⟨41,(aD (aD (aD (aD (aD fa 2 (.adr 1 0)) 4 (.adr 2 0)) 15 (vl aH t15)) 16 (vi t16)) 17 (vi t17)),⟨(upd (upd aV 1 (.cells 1 [vi t2.U,vi t2.V,vi t2.Tier] 0)) 2 (.cells 1 [vi fG.U,vi fG.V,vi fG.Tier] 0)),64⟩⟩∧jJ m t2 fG t15 t16 t17=some r):Nat→St→Prop)
 exact be 41 func175 (h:=G)
instance:Ct prog 175 (K1 prog (vl aH) (t2 xB vb) 175 iK):=⟨aJw⟩
def iS(l:List aC):Option (List aC):=app [] l
theorem aFp{r:List aC}(hm:some []=some r):dD prog 223 [.v (.slice none 0 0)] 3 (r.flatMap aH) r.length:=by
 refine dD.of_body func223 rfl (bJ.fmdat r) ?_;simp only [ntmps223,List.length_cons,List.length_nil,Nat.reduceAdd,Nat.reduceSub,eE];refine sN 64 (pA ?_);refine fs (AWp.seq' (sN 128 (pA ?_)));refine pu rfl (tE Z1 Z1 (aG4 underlying28)) ?_;refine fs (AWp.condT Z1 ?_);refine sN 192 (pA ?_);refine fs (AWp.weaken (oP 2 900002 3 Z1 Z5) ?_);refine AWp.ret (gD ?_);cases hm;exact aH6 (.inr rfl) Tryz.results223 Z1 Z3 Z6
theorem aFq{a:Addr}{c:Nat}{r:List aC}(hm:((app [] []).bind fun l2=>
some l2)=some r):dD prog 223 [.v (.slice (some a) 0 c)] 3 (r.flatMap aH) r.length:=by
 refine dD.of_body func223 rfl (bJ.fmdat r) ?_;simp only [ntmps223,List.length_cons,List.length_nil,Nat.reduceAdd,Nat.reduceSub,eE];refine sN 64 (pA ?_);refine fs (AWp.seq' (sN 128 (pA ?_)));refine pu rfl (tE Z1 Z1 (aDs underlying28)) ?_;refine fs (AWp.condF Z1 ?_);refine AWp.skip (bI (sN 192 (hp (id:=128) rfl rfl (gV bJ (l:=[]) underlying28 aKa aVz Z5 Zd Zd Zd (by simp only [go_sem,Nat.reduceBEq];try rfl) (by kernel_rfl)) ?_)));refine pA ?_;obtain ⟨l2,h1,hm⟩:=bnd hm;refine hp (id:=130) rfl rfl (vA bJ underlying28 underlying28 rfl bEu bGs (by rw [aSz];decide) (by rw [aSz];decide) bGt Zd Zd Z1 Z3 Z6 (aKc Z1) rfl Z5 h1) ?_;refine pA ?_;refine fs (AWp.ret ?_);cases hm;exact aH6 (.inr rfl) Tryz.results223 Z1 Z3 Z6
theorem aFr{x0:aC}{l0:List aC}{r:List aC}(hm:((app [] (x0::l0)).bind fun l2=>
some l2)=some r):dD prog 223 [.sl ((x0::l0).flatMap aH) (x0::l0).length false] 3 (r.flatMap aH) r.length:=by
 refine dD.of_body func223 rfl (bJ.fmdat r) ?_;simp only [ntmps223,List.length_cons,List.length_nil,Nat.reduceAdd,Nat.reduceSub,eE];refine sN 64 (pA ?_);refine fs (AWp.seq' (sN 128 (pA ?_)));refine pu rfl (tE Z1 Z1 (aDr underlying28 (by simp))) ?_;refine fs (AWp.condF Z1 ?_);refine AWp.skip (bI (sN 192 (hp (id:=128) rfl rfl (gV bJ (l:=[]) underlying28 aKa aVz Z5 Zd Zd Zd (by simp only [go_sem,Nat.reduceBEq];try rfl) (by kernel_rfl)) ?_)));refine pA ?_;obtain ⟨l2,h1,hm⟩:=bnd hm;refine hp (id:=130) rfl rfl (vA bJ underlying28 underlying28 rfl bEu bGs (by rw [aSz];decide) (by rw [aSz];decide) bGt Zd Zd Z1 Z3 Z6 (aNu bJ Z1 rfl) rfl Z5 h1) ?_;refine pA ?_;refine fs (AWp.ret ?_);cases hm;exact aH6 (.inr rfl) Tryz.results223 Z1 Z3 Z6
theorem aHf{l r:List aC}(hm:iS l=some r):dD prog 223 [.sl (l.flatMap aH) l.length false] 3 (r.flatMap aH) r.length:=by
 cases l with
 |nil=>
  have hr:r=[]:=by unfold iS app at hm;simpa using hm.symm
  subst hr;exact dD.nil_arg (aFp (r:=[]) rfl) (fun a c=>aFq (r:=[]) rfl)
 |cons x0 l0=>
  refine aFr ?_;show (app [] (x0::l0)).bind _=_;unfold iS at hm;rw [hm];rfl
def sD(n_0:Int)(l_1:List aC)(u_2:Int)(v_3:Int)(gQ:Int):Option ((List aC)×Int):=
 ((fK n_0 l_1).bind fun r2=>
 ((dT ((!r2)==false) false (eI n_0 u_2)).bind fun r4=>
 ((dT (((!r2)||(!r4))==false) false (eI n_0 v_3)).bind fun r6=>
 ((dT ((((!r2)||(!r4))||(!r6))==false) false (kW gQ)).bind fun r8=>
 (bif ((((!r2)||(!r4))||(!r6))||(!r8)) then
  some (l_1,1)
 else
  ((kB l_1 u_2 v_3).bind fun ⟨r10,r11⟩=>
  (bif (!r11) then
   some (l_1,9)
  else
   ((iS l_1).bind fun r13=>
   ((idx r13 r10).bind fun x15=>
   ((stt r13 r10 (aC.mk x15.U x15.V gQ)).bind fun l17=>
   some (l17,0)))))))))))
theorem aVv{n_0:Int}{l_1:List aC}{u_2:Int}{v_3:Int}{gQ:Int}{r:(List aC)×Int}(hm:sD n_0 l_1 u_2 v_3 gQ=some r):bH prog 176 [vi n_0,vl aH l_1,vi u_2,vi v_3,vi gQ] (.tup [vl aH r.1,vi r.2]):=by
 refine bd 55 func176 ?_;obtain ⟨r2,h1,hm⟩:=bnd hm;refine W ?_;refine cq (uL h1) ?_;obtain ⟨r4,h3,hm⟩:=bnd hm;refine W ?_;refine cg (fun hb=>jA (eJ h3 hb)) ?_;obtain ⟨r6,h5,hm⟩:=bnd hm;refine W ?_;refine cg (fun hb=>jA (eJ h5 hb)) ?_;obtain ⟨r8,h7,hm⟩:=bnd hm;refine W ?_;refine cg (fun hb=>aEu (eJ h7 hb)) ?_;refine W ?_;refine cm hm (fun hm=>?_) fun hm=>?_
 · exact E
 refine W ?_;obtain ⟨⟨r10,r11⟩,h9,hm⟩:=bnd hm;refine cq (aBh h9) ?_;refine W ?_;refine cm hm (fun hm=>?_) fun hm=>?_
 · exact E
 obtain ⟨r13,h12,hm⟩:=bnd hm;refine W ?_;refine aR.callF (id:=257) Zd Z1 bKe (fun H=>(cD (bJ.sl _ _ _) .nil)) bJ Z5 (aHf h12) ?_;obtain ⟨x15,h14,hm⟩:=bnd hm;obtain ⟨l17,h16,hm⟩:=bnd hm;refine W ?_;have qh16:=kF h16;refine aR.heap0 (id:=325) rfl (bE1 bJ (off:=2) (y:=x15) (y':=(aC.mk x15.U x15.V gQ)) (cs:=[.v (.int .i64 gQ)]) sz3 Z1 Z1 Z3 rfl h14 rfl Zd Z9 rfl h16) ?_;exact E
instance:Ct prog 176 (K5 prog vi (vl aH) vi vi vi (t2 (vl aH) vi) 176 sD):=⟨fun hm=>aVv hm⟩
def nT(n_0:Int)(v_1:Int):Option (Bool):=
 some ((decide (0≤v_1))&&(decide (v_1<n_0)))
theorem zH:K2 prog vi vi vb 220 nT:=fun hm=>be 12 func220 (h:=G)
instance:Ct prog 220 (K2 prog vi vi vb 220 nT):=⟨zH⟩
attribute [local semireducible] aZ
end Go.Proofs.YtkdohhmacfoolaaGreatDoor
