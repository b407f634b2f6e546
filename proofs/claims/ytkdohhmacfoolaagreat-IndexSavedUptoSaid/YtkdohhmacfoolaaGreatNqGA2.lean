/- Facts. No condition. -/
import Derived.Test.YtkdohhmacfoolaaGreatNqGA1
set_option linter.unusedVariables false
set_option linter.unusedSimpArgs false
set_option maxRecDepth 20000
set_option maxHeartbeats 4000000
namespace Go.Proofs.YtkdohhmacfoolaaGreat
open Go.Proofs.Tryz Go Go.AM
attribute [local irreducible] aZ
structure aY where
 R:Int
 V:Int
 Words:List Int
deriving DecidableEq
def aAx(e:aY):List AV:=[.v (.int .i64 e.R),.v (.int .i64 e.V),.sl (e.Words.flatMap (ci .u64)) e.Words.length false]
theorem aRe:CF aAx 3:=⟨fun _=>rfl,fun a x hx=>by
 simp only [aAx,List.mem_cons,List.not_mem_nil,or_false] at hx;rcases hx with rfl|rfl|rfl
 · exact (.v _)
 · exact (.v _)
 · exact ((CFi .u64).sl _ _ _),fun _=>rfl⟩
instance:CC aAx 3:=⟨aRe⟩
abbrev oK(e:aY):AV:= .agg [.v (.int .i64 e.R),vi e.V,vl (ci .u64) e.Words]
@[go_sem] theorem aM8(e:aY)(r:List AV):aAx e++r= .v (.int .i64 e.R):: .v (.int .i64 e.V):: .sl (e.Words.flatMap (ci .u64)) e.Words.length false::r:=rfl
@[go_sem] theorem bEm(i o:Nat):aO prog 102 (.adr i o) 0=some (.adr i (o+0)):=by kernel_rfl
@[go_sem] theorem bEs(i o:Nat):aO prog 102 (.adr i o) 1=some (.adr i (o+1)):=by kernel_rfl
@[go_sem] theorem bEy(i o:Nat):aO prog 102 (.adr i o) 2=some (.adr i (o+2)):=by kernel_rfl
@[go_sem] theorem bF6(i o:Nat):aO prog 120 (.adr i o) 0=some (.adr i (o+0)):=by kernel_rfl
@[go_sem] theorem bF9(i o:Nat):aO prog 120 (.adr i o) 1=some (.adr i (o+1)):=by kernel_rfl
@[go_sem] theorem bJm(i o:Nat):aO prog 23 (.adr i o) 0=some (.adr i (o+0)):=by kernel_rfl
@[go_sem] theorem bJt(i o:Nat):aO prog 23 (.adr i o) 1=some (.adr i (o+1)):=by kernel_rfl
@[go_sem] theorem bK0(i o:Nat):aO prog 23 (.adr i o) 2=some (.adr i (o+2)):=by kernel_rfl
@[go_sem] theorem bFg(i o:Nat):aO prog 243 (.adr i o) 0=some (.adr i (o+0)):=by kernel_rfl
@[go_sem] theorem bFh(i o:Nat):aO prog 243 (.adr i o) 1=some (.adr i (o+1)):=by kernel_rfl
@[go_sem] theorem bFi(i o:Nat):aO prog 243 (.adr i o) 2=some (.adr i (o+2)):=by kernel_rfl
@[go_sem] theorem bK6(i o:Nat):aO prog 30 (.adr i o) 0=some (.adr i (o+0)):=by kernel_rfl
@[go_sem] theorem bKc(i o:Nat):aO prog 30 (.adr i o) 1=some (.adr i (o+3)):=by kernel_rfl
@[go_sem] theorem bKg(i o:Nat):aO prog 30 (.adr i o) 2=some (.adr i (o+4)):=by kernel_rfl
@[go_sem] theorem bOe(H:aM)(x0 x1 x2:AV)(xs:List AV):cZ prog H 102 (.ptr (x0::x1::x2::xs))=some (.agg [x0,x1,x2]):=by kernel_rfl
@[go_sem] theorem bOn(H:aM)(x0 x1:AV)(xs:List AV):cZ prog H 120 (.ptr (x0::x1::xs))=some (.agg [x0,x1]):=by kernel_rfl
@[go_sem] theorem bRj(H:aM)(x:AV)(xs:List AV):cZ prog H 24 (.ptr (x::xs))=some x:=by kernel_rfl
@[go_sem] theorem bOw(H:aM)(x0 x1 x2:AV)(xs:List AV):cZ prog H 243 (.ptr (x0::x1::x2::xs))=some (.agg [x0,x1,x2]):=by kernel_rfl
@[go_sem] theorem bRo(H:aM)(x:AV)(xs:List AV):cZ prog H 27 (.ptr (x::xs))=some x:=by kernel_rfl
@[go_sem] theorem bRs(H:aM)(x:AV)(xs:List AV):cZ prog H 28 (.ptr (x::xs))=some x:=by kernel_rfl
@[go_sem] theorem bVj(H:aM)(x:AV)(xs:List AV):cZ prog H 3 (.ptr (x::xs))=some x:=by kernel_rfl
@[go_sem] theorem bRy(H:aM)(x0 x1 x2 x3 x4:AV)(xs:List AV):cZ prog H 30 (.ptr (x0::x1::x2::x3::x4::xs))=some (.agg [x0,x1,x2,x3,x4]):=by kernel_rfl
@[go_sem] theorem bVr(H:aM)(x:AV)(xs:List AV):cZ prog H 4 (.ptr (x::xs))=some x:=by kernel_rfl
@[go_sem] theorem bSj(H:aM)(x:AV)(xs:List AV):cZ prog H 43 (.ptr (x::xs))=some x:=by kernel_rfl
@[go_sem] theorem bJ6(H:aM)(k:IntKind)(n:Int):rX prog H 3 43 (.v (.int k n))=some (.v (.int .u64 (IntKind.u64.wrap n))):=mH underlying3 underlying43
@[go_sem] theorem bDu(H:aM)(k:IntKind)(n:Int):rX prog H 3 198 (.v (.int k n))=some (.v (.int .u64 (IntKind.u64.wrap n))):=mH underlying3 underlying198
@[go_sem] theorem bNf(H:aM)(k:IntKind)(n:Int):rX prog H 5 3 (.v (.int k n))=some (.v (.int .i64 (IntKind.i64.wrap n))):=mH underlying5 underlying3
@[go_sem] theorem bJ9(H:aM)(k:IntKind)(n:Int):rX prog H 43 3 (.v (.int k n))=some (.v (.int .i64 (IntKind.i64.wrap n))):=mH underlying43 underlying3
@[go_sem] theorem bDs(H:aM)(k:IntKind)(n:Int):rX prog H 214 5 (.v (.int k n))=some (.v (.int .u8 (IntKind.u8.wrap n))):=mH underlying214 underlying5
def aFz(aF5:Int)(vS:Int)(y_2:Int):Option (Int):=
 ((chk (y_2 !=0)).bind fun _=>
 ((aCv (Int.tmod aF5 y_2) vS y_2).bind fun ⟨r3,r4⟩=>
 some r4))
theorem bA4:K3 prog vu vu vu vu 166 aFz:=fun hm=>be 19 func166 (h:=G)
instance:Ct prog 166 (K3 prog vu vu vu vu 166 aFz):=⟨bA4⟩
def aHf(a_0:Int)(b_1:Int):Option (Int):=
 ((aEa a_0).bind fun r2=>
 ((aEa b_1).bind fun r4=>
 ((aCx r2 r4).bind fun ⟨r6,r7⟩=>
 ((aFz r6 r7 2305843009213693951).bind fun r9=>
 some r9))))
theorem bP5:K2 prog vu vu vu 139 aHf:=fun hm=>be 18 func139 (h:=G)
instance:Ct prog 139 (K2 prog vu vu vu 139 aHf):=⟨bP5⟩
def aG4(n_0:Int)(l_1:List aH)(v_2:Int):Option ((List Int)):=
 ((tV n_0 l_1).bind fun r2=>
 (bif (!r2) then
  some []
 else
  ((zE n_0 l_1).bind fun ⟨r4,r5⟩=>
  ((wK r4 v_2).bind fun r7=>
  some r7))))
theorem bAu:K3 prog vi (vl bE) vi (vl (ci .i64)) 197 aG4:=fun hm=>be 22 func197 (h:=G)
instance:Ct prog 197 (K3 prog vi (vl bE) vi (vl (ci .i64)) 197 aG4):=⟨bAu⟩
def vH(g_0:aU)(nV:Int)(v_2:Int):Option ((List Int)):=
 ((oB g_0.Config.N g_0.Edges nV).bind fun r2=>
 ((aG4 g_0.Config.N r2 v_2).bind fun r4=>
 some r4))
theorem aV9:K3 prog fY vi vi (vl (ci .i64)) 184 vH:=fun hm=>be 19 func184 (h:=G)
instance:Ct prog 184 (K3 prog fY vi vi (vl (ci .i64)) 184 vH):=⟨aV9⟩
def yH(g_0:aU)(nV:Int)(v_2:Int):Option ((List Int)):=
 ((lX g_0).bind fun r2=>
 (bif (((((!r2)||(decide (nV<0)))||(decide (g_0.Config.L<nV)))||(decide (v_2<0)))||(decide (g_0.Config.N≤v_2))) then
  some []
 else
  ((vH g_0 nV v_2).bind fun r4=>
  some r4)))
theorem aYz:K3 prog fY vi vi (vl (ci .i64)) 168 yH:=fun hm=>be 36 func168 (h:=G)
instance:Ct prog 168 (K3 prog fY vi vi (vl (ci .i64)) 168 yH):=⟨aYz⟩
def sD(g_0:aU)(nV:Int)(v_2:Int):Option (Bool):=
 ((lX g_0).bind fun r2=>
 some ((((r2&&(decide (0≤nV)))&&(decide (nV<g_0.Config.L)))&&(decide (0≤v_2)))&&(decide (v_2<g_0.Config.N))))
theorem aOh:K3 prog fY vi vi vb 185 sD:=fun hm=>be 31 func185 (h:=G)
instance:Ct prog 185 (K3 prog fY vi vi vb 185 sD):=⟨aOh⟩
def aMb(rec1:Int→List Int→Int→Int→Option (Bool))(n_0:Int)(t13:List Int)(t14:Int)(t15:Int):Option (Bool):=
 (bif (decide (t15<t14)) then
  ((idx t13 t15).bind fun x4=>
  (bif ((decide (x4<0))||(decide (n_0≤x4))) then
   some false
  else
   rec1 n_0 t13 t14 (IntKind.i64.wrap (t15+1))))
 else
  some true)
def aF0:Nat→Int→List Int→Int→Int→Option (Bool)
 |0=>fun _ _ _ _=>none
 |n+1=>aMb (aF0 n)
def aL5(n_0:Int)(l_1:List aH)(aLv:List Int):Option (Bool):=
 ((oJ n_0 l_1).bind fun r2=>
 (bif (!r2) then
  some false
 else
  aF0 aZ n_0 aLv (aLv.length:Int) 0))
theorem aW2:K3 prog vi (vl bE) (vl (ci .i64)) vb 205 aL5:=by
 intro n_0 l_1 aLv r hm
 let I1:=((fun m s=> ∃n_0 t13 t14 t15,s=⟨27,(aG (aG (aG (aG fa 0 (vi n_0)) 13 (vl (ci .i64) t13)) 14 (vi t14)) 15 (vi t15)),⟨bR,64⟩⟩∧aF0 m n_0 t13 t14 t15=some r):Nat→St→Prop)
 exact be 27 func205 (h:=G)
instance:Ct prog 205 (K3 prog vi (vl bE) (vl (ci .i64)) vb 205 aL5):=⟨aW2⟩
abbrev aI0(rec1:List Bool→List aH→List aH→Int→Int→Option ((List aH)))(aDt:List Bool)(nY:List aH)(t8:List aH)(t9:Int)(t10:Int):Option ((List aH)):=
 rec1 aDt nY t8 t9 (IntKind.i64.wrap (t10+1))
def aHz(rec1:List Bool→List aH→List aH→Int→Int→Option ((List aH)))(aDt:List Bool)(nY:List aH)(t8:List aH)(t9:Int)(t10:Int):Option ((List aH)):=
 (bif (decide (t10<t9)) then
  ((idx t8 t10).bind fun x2=>
  ((idx aDt x2.U).bind fun x4=>
  ((idx aDt x2.V).bind fun x6=>
  (bif (!(x4==x6)) then
   ((app nY [x2]).bind fun l8=>
   aI0 rec1 aDt l8 t8 t9 t10)
  else
   aI0 rec1 aDt nY t8 t9 t10))))
 else
  some nY)
def aB1:Nat→List Bool→List aH→List aH→Int→Int→Option ((List aH))
 |0=>fun _ _ _ _ _=>none
 |n+1=>aHz (aB1 n)
def aG2(l_0:List aH)(aDt:List Bool):Option ((List aH)):=
 aB1 aZ aDt [] l_0 (l_0.length:Int) 0
theorem aQi:K2 prog (vl bE) (vl aQf) (vl bE) 206 aG2:=by
 intro l_0 aDt r hm
 let I1:=((fun m s=> ∃aDt nY t8 t9 t10,s=⟨31,(aG (aG (aG (aG (aG fa 1 (vl aQf aDt)) 5 (.own 1 0 nY.length)) 8 (vl bE t8)) 9 (vi t9)) 10 (vi t10)),⟨(upd bR 1 (.cells 3 (nY.flatMap bE) 0)),64⟩⟩∧aB1 m aDt nY t8 t9 t10=some r):Nat→St→Prop)
 exact be 31 func206 (h:=G)
instance:Ct prog 206 (K2 prog (vl bE) (vl aQf) (vl bE) 206 aG2):=⟨aQi⟩
def aPe(rec1:List aH→List Bool→List Int→Int→Int→Option ((List aH)×Int))(l_1:List aH)(bAy:List Bool)(t18:List Int)(t19:Int)(t20:Int):Option ((List aH)×Int):=
 (bif (decide (t20<t19)) then
  ((idx t18 t20).bind fun x6=>
  ((idx bAy x6).bind fun x8=>
  ((stt bAy x6 true).bind fun l10=>
  rec1 l_1 l10 t18 t19 (IntKind.i64.wrap (t20+1)))))
 else
  ((aG2 l_1 bAy).bind fun r12=>
  some (r12,0)))
def aH8:Nat→List aH→List Bool→List Int→Int→Int→Option ((List aH)×Int)
 |0=>fun _ _ _ _ _=>none
 |n+1=>aPe (aH8 n)
def aJs(n_0:Int)(l_1:List aH)(aLv:List Int):Option ((List aH)×Int):=
 ((aL5 n_0 l_1 aLv).bind fun r2=>
 (bif (!r2) then
  some ([],1)
 else
  ((mkc n_0 n_0 false).bind fun l4=>
  aH8 aZ l_1 l4 aLv (aLv.length:Int) 0)))
theorem bNa{n_0:Int}{l_1:List aH}{aLv:List Int}{r:(List aH)×Int}(hm:aJs n_0 l_1 aLv=some r):dT prog 198 [vi n_0,vl bE l_1,vl (ci .i64) aLv] (.tup [vl bE r.1,vi r.2]):=by
 refine bd 31 func198 ?_;obtain ⟨r2,h1,hm⟩:=bnd hm;refine W ?_;refine cq (aW2 h1) ?_;refine W ?_;refine cm hm (fun hm=>?_) fun hm=>?_
 · exact E
 obtain ⟨l4,h3,hm⟩:=bnd hm;refine W ?_;refine aK CFb h3 ?_;refine W ?_;refine lp (fun m s=> ∃l_1 bAy t18 t19 t20,s=⟨31,(aG (aG (aG (aG (aG fa 1 (vl bE l_1)) 8 (.own 1 0 bAy.length)) 18 (vl (ci .i64) t18)) 19 (vi t19)) 20 (vi t20)),⟨(upd bR 1 (.cells 1 (bAy.flatMap aQf) 0)),64⟩⟩∧aH8 m l_1 bAy t18 t19 t20=some r) (Lr (fun j=>bif j==1 then 129 else 0)) ?_;rintro n1 s ⟨l_1,bAy,t18,t19,t20,rfl,hm⟩;refine W ?_;refine cm hm (fun hm=>?_) fun hm=>?_
 · obtain ⟨x6,h5,hm⟩:=bnd hm;obtain ⟨x8,h7,hm⟩:=bnd hm;obtain ⟨l10,h9,hm⟩:=bnd hm;refine W ?_;have qh9:=cY h9;refine aS h9 ?_;refine W ?_;exact Lr (fun j=>bif j==1 then 1 else 0)
 iterate 5 refine S1 ?_
 refine AWp.seq' ?_;refine AWp.weaken (aY4 CFb 8 1 Z1 Z3 Z6) ?_;obtain ⟨r12,h11,hm⟩:=bnd hm;refine W ?_;refine cq (aQi h11) ?_;exact E
instance:Ct prog 198 (K3 prog vi (vl bE) (vl (ci .i64)) (t2 (vl bE) vi) 198 aJs):=⟨fun hm=>bNa hm⟩
def zG(g_0:aU)(nV:Int)(v_2:Int):Option ((List aH)):=
 ((vH g_0 nV v_2).bind fun r2=>
 ((aJs g_0.Config.N g_0.Edges r2).bind fun ⟨r4,r5⟩=>
 some r4))
theorem aV6:K3 prog fY vi vi (vl bE) 186 zG:=fun hm=>be 23 func186 (h:=G)
instance:Ct prog 186 (K3 prog fY vi vi (vl bE) 186 zG):=⟨aV6⟩
def xS(x_0:Int):Option (Int):=
 ((aFy x_0).bind fun r2=>
 some r2)
theorem aL3{x_0:Int}{r:Int}(hm:xS x_0=some r):dT prog 134 [vu x_0] (vi r):=by
 refine bd 8 func134 ?_;refine W ?_;refine AWp.condF Z1 ?_;obtain ⟨r2,h1,hm⟩:=bnd hm;refine W ?_;refine cq (aQd h1) ?_;exact E
instance:Ct prog 134 (K1 prog vu vi 134 xS):=⟨fun hm=>aL3 hm⟩
def zD(n_0:Int):Option (Int):=
 (bif (decide (n_0<1)) then
  some 0
 else
  ((xS (IntKind.u64.wrap (IntKind.i64.wrap (n_0-1)))).bind fun r2=>
  some (IntKind.i64.wrap ((IntKind.i64.wrap (2*r2))+2))))
theorem aV0:K1 prog vi vi 201 zD:=fun hm=>be 11 func201 (h:=G)
instance:Ct prog 201 (K1 prog vi vi 201 zD):=⟨aV0⟩
def sQ(r_0:Int)(v_1:Int):Option (Bool):=
 some ((((decide (1≤r_0))&&(decide (r_0≤8)))&&(decide (1≤v_1)))&&(decide (v_1≤61)))
theorem aLy:K2 prog vi vi vb 207 sQ:=fun hm=>be 19 func207 (h:=G)
instance:Ct prog 207 (K2 prog vi vi vb 207 sQ):=⟨aLy⟩
def aGg(r_0:Int)(v_1:Int):Option (aY×Int):=
 ((sQ r_0 v_1).bind fun r2=>
 (bif (!r2) then
  some ((aY.mk 0 0 []),1)
 else
  ((mkc (IntKind.i64.wrap (r_0*v_1)) (IntKind.i64.wrap (r_0*v_1)) 0).bind fun l4=>
  some ((aY.mk r_0 v_1 l4),0))))
theorem bCb{r_0:Int}{v_1:Int}{r:aY×Int}(hm:aGg r_0 v_1=some r):dT prog 200 [vi r_0,vi v_1] (.tup [.agg [vi r.1.R,vi r.1.V,vl (ci .u64) r.1.Words],vi r.2]):=by
 refine bd 18 func200 ?_;obtain ⟨r2,h1,hm⟩:=bnd hm;refine W ?_;refine cq (aLy h1) ?_;refine W ?_;refine cm hm (fun hm=>?_) fun hm=>?_
 · refine W ?_;refine bU (.agg [vi 0,vi 0,.v (.slice none 0 0)]) ?_;exact E
 iterate 2 refine S1 ?_
 refine AWp.seq' ?_;refine AWp.regC 64 6 (N':=192) rfl ?_;obtain ⟨l4,h3,hm⟩:=bnd hm;refine W ?_;refine aK (CFi .u64) h3 ?_;refine aI.cut (aY4 (CFi .u64) 16 133 Z1 Z3 Z6) ?_;refine bU (.agg [vi r_0,vi v_1,vl (ci .u64) l4]) ?_;exact E
instance:Ct prog 200 (K2 prog vi vi (t2 oK vi) 200 aGg):=⟨fun hm=>bCb hm⟩
def uM(g_0:aU)(nV:Int):Option ((List dI)):=
 ((slc g_0.Hashes (IntKind.i64.wrap (nV*g_0.Config.R)) (IntKind.i64.wrap ((IntKind.i64.wrap (nV*g_0.Config.R))+g_0.Config.R))).bind fun l2=>
 ((mP l2).bind fun r4=>
 some r4))
theorem aRv:K2 prog fY vi (vl dW) 202 uM:=fun hm=>be 21 func202 (h:=G)
instance:Ct prog 202 (K2 prog fY vi (vl dW) 202 uM):=⟨aRv⟩
def aBg(v_0:Int):Option (Bool):=
 some ((decide (0≤v_0))&&(decide (v_0<16777216)))
theorem aYg:K1 prog vi vb 211 aBg:=fun hm=>be 9 func211 (h:=G)
instance:Ct prog 211 (K1 prog vi vb 211 aBg):=⟨aYg⟩
def aK9(u_0:Int)(v_1:Int):Option (Int×Int):=
 ((aBg u_0).bind fun r2=>
 ((dX ((!r2)==false) false (aBg v_1)).bind fun r4=>
 (bif ((!r2)||(!r4)) then
  some (0,1)
 else
  (bif (u_0==v_1) then
   some (0,8)
  else
   some ((IntKind.u64.wrap ((IntKind.u64.wrap ((IntKind.u64.wrap (if v_1<u_0 then v_1 else u_0))*16777216))+(IntKind.u64.wrap (if u_0<v_1 then v_1 else u_0)))),0)))))
theorem bP6:K2 prog vi vi (t2 vu vi) 208 aK9:=fun hm=>be 27 func208 (h:=G)
instance:Ct prog 208 (K2 prog vi vi (t2 vu vi) 208 aK9):=⟨bP6⟩
abbrev aQh(rec1:List Int→List aH→Int→Int→Option ((List Int)))(oY:List Int)(t8:List aH)(t9:Int)(t10:Int):Option ((List Int)):=
 rec1 oY t8 t9 (IntKind.i64.wrap (t10+1))
abbrev aJu(rec1:List Int→List aH→Int→Int→Option ((List Int)))(oY:List Int)(cFt:Int)(t8:List aH)(t9:Int)(t10:Int):Option ((List Int)):=
 ((app oY [cFt]).bind fun l7=>
 aQh rec1 l7 t8 t9 t10)
def aJt(rec1:List Int→List aH→Int→Int→Option ((List Int)))(oY:List Int)(t8:List aH)(t9:Int)(t10:Int):Option ((List Int)):=
 (bif (decide (t10<t9)) then
  ((idx t8 t10).bind fun x2=>
  ((aK9 x2.U x2.V).bind fun ⟨r4,r5⟩=>
  (bif (r5 !=0) then
   aJu rec1 oY 0 t8 t9 t10
  else
   aJu rec1 oY r4 t8 t9 t10)))
 else
  some oY)
def aCy:Nat→List Int→List aH→Int→Int→Option ((List Int))
 |0=>fun _ _ _ _=>none
 |n+1=>aJt (aCy n)
def aF1(l_0:List aH):Option ((List Int)):=
 aCy aZ [] l_0 (l_0.length:Int) 0
theorem bDp:K1 prog (vl bE) (vl (ci .u64)) 203 aF1:=by
 intro l_0 r hm
 let I1:=((fun m s=> ∃oY t8 t9 t10,s=⟨30,(aG (aG (aG (aG fa 3 (.own 1 0 oY.length)) 8 (vl bE t8)) 9 (vi t9)) 10 (vi t10)),⟨(upd bR 1 (.cells 1 (oY.flatMap (ci .u64)) 0)),64⟩⟩∧aCy m oY t8 t9 t10=some r):Nat→St→Prop)
 exact be 30 func203 (h:=G)
instance:Ct prog 203 (K1 prog (vl bE) (vl (ci .u64)) 203 aF1):=⟨bDp⟩
def vJ(s_0:aY):Option (Bool):=
 ((sQ s_0.R s_0.V).bind fun r2=>
 some (r2&&((s_0.Words.length:Int)==(IntKind.i64.wrap (s_0.R*s_0.V)))))
theorem aLx:K1 prog oK vb 199 vJ:=fun hm=>be 19 func199 (h:=G)
instance:Ct prog 199 (K1 prog oK vb 199 vJ):=⟨aLx⟩
def qR(l:List Int):Option (List Int):=app [] l
theorem aKp{r:List Int}(hm:some []=some r):kL prog 209 [.v (.slice none 0 0)] 1 (r.flatMap (ci .u64)) r.length:=by
 refine kL.of_body func209 rfl ((CFi .u64).fmdat r) ?_;simp only [ntmps209,List.length_cons,List.length_nil,Nat.reduceAdd,Nat.reduceSub,nD];refine sN 64 (pA ?_);refine fs (AWp.seq' (sN 128 (pA ?_)));refine pu rfl (aDn Z1 Z1 (aN6 underlying24)) ?_;refine fs (AWp.condT Z1 ?_);refine sN 192 (pA ?_);refine fs (AWp.weaken (aIb 2 900002 1 Z1 Z5) ?_);refine AWp.ret (lD ?_);cases hm;exact aOc (.inr rfl) Tryz.results209 Z1 Z3 Z6
theorem aKq{a:Addr}{c:Nat}{r:List Int}(hm:((app [] []).bind fun l2=>
some l2)=some r):kL prog 209 [.v (.slice (some a) 0 c)] 1 (r.flatMap (ci .u64)) r.length:=by
 refine kL.of_body func209 rfl ((CFi .u64).fmdat r) ?_;simp only [ntmps209,List.length_cons,List.length_nil,Nat.reduceAdd,Nat.reduceSub,nD];refine sN 64 (pA ?_);refine fs (AWp.seq' (sN 128 (pA ?_)));refine pu rfl (aDn Z1 Z1 (aL2 underlying24)) ?_;refine fs (AWp.condF Z1 ?_);refine AWp.skip (aV (sN 192 (hp (id:=128) rfl rfl (qU (CFi .u64) (l:=[]) underlying24 fF bM8 Z5 Zd Zd Zd (by simp only [go_sem,Nat.reduceBEq];try rfl) (by kernel_rfl)) ?_)));refine pA ?_;obtain ⟨l2,h1,hm⟩:=bnd hm;refine hp (id:=130) rfl rfl (aEu (CFi .u64) underlying24 underlying24 rfl bVh bWk (by rw [bM4];decide) (by rw [bM4];decide) bWl Zd Zd Z1 Z3 Z6 (aS0 Z1) rfl Z5 h1) ?_;refine pA ?_;refine fs (AWp.ret ?_);cases hm;exact aOc (.inr rfl) Tryz.results209 Z1 Z3 Z6
theorem aKr{x0:Int}{l0:List Int}{r:List Int}(hm:((app [] (x0::l0)).bind fun l2=>
some l2)=some r):kL prog 209 [.sl ((x0::l0).flatMap (ci .u64)) (x0::l0).length false] 1 (r.flatMap (ci .u64)) r.length:=by
 refine kL.of_body func209 rfl ((CFi .u64).fmdat r) ?_;simp only [ntmps209,List.length_cons,List.length_nil,Nat.reduceAdd,Nat.reduceSub,nD];refine sN 64 (pA ?_);refine fs (AWp.seq' (sN 128 (pA ?_)));refine pu rfl (aDn Z1 Z1 (aL1 underlying24 (by simp))) ?_;refine fs (AWp.condF Z1 ?_);refine AWp.skip (aV (sN 192 (hp (id:=128) rfl rfl (qU (CFi .u64) (l:=[]) underlying24 fF bM8 Z5 Zd Zd Zd (by simp only [go_sem,Nat.reduceBEq];try rfl) (by kernel_rfl)) ?_)));refine pA ?_;obtain ⟨l2,h1,hm⟩:=bnd hm;refine hp (id:=130) rfl rfl (aEu (CFi .u64) underlying24 underlying24 rfl bVh bWk (by rw [bM4];decide) (by rw [bM4];decide) bWl Zd Zd Z1 Z3 Z6 (aVq (CFi .u64) Z1 rfl) rfl Z5 h1) ?_;refine pA ?_;refine fs (AWp.ret ?_);cases hm;exact aOc (.inr rfl) Tryz.results209 Z1 Z3 Z6
theorem aLi{l r:List Int}(hm:qR l=some r):kL prog 209 [.sl (l.flatMap (ci .u64)) l.length false] 1 (r.flatMap (ci .u64)) r.length:=by
 cases l with
 |nil=>
  have hr:r=[]:=by unfold qR app at hm;simpa using hm.symm
  subst hr;exact kL.nil_arg (aKp (r:=[]) rfl) (fun a c=>aKq (r:=[]) rfl)
 |cons x0 l0=>
  refine aKr ?_;show (app [] (x0::l0)).bind _=_;unfold qR at hm;rw [hm];rfl
def aBe(h_0:dI)(aYi:Int):Option (Int):=
 ((aHf h_0.A aYi).bind fun r2=>
 ((aHe r2 h_0.B).bind fun r4=>
 some r4))
theorem aY8:K2 prog aZc vu vu 212 aBe:=fun hm=>be 12 func212 (h:=G)
instance:Ct prog 212 (K2 prog aZc vu vu 212 aBe):=⟨aY8⟩
def aBd(aSa:Int):Option (Int):=
 (bif ((decide (aSa<0))||(decide (61≤aSa))) then
  some 0
 else
  ((chk (decide (0≤aSa))).bind fun _=>
  some (shr .u64 2305843009213693951 aSa)))
theorem aY6:K1 prog vi vu 213 aBd:=fun hm=>be 11 func213 (h:=G)
instance:Ct prog 213 (K1 prog vi vu 213 aBd):=⟨aY6⟩
def aId(rec1:Int→Int→Int→Option (Int))(wI:Int)(aOu:Int)(aJx:Int):Option (Int):=
 ((dX ((decide (aJx<(if 61<wI then 61 else wI)))==true) 0 (aBd aJx)).bind fun r4=>
 (bif ((decide (aJx<(if 61<wI then 61 else wI)))&&(decide (aOu<r4))) then
  rec1 wI aOu (IntKind.i64.wrap (aJx+1))
 else
  some aJx))
def uB:Nat→Int→Int→Int→Option (Int)
 |0=>fun _ _ _=>none
 |n+1=>aId (uB n)
def aD3(h_0:dI)(aYi:Int)(wI:Int):Option (Int):=
 ((aBe h_0 aYi).bind fun r2=>
 uB aZ wI r2 0)
theorem aQt:K3 prog aZc vu vi vi 210 aD3:=by
 intro h_0 aYi wI r hm
 let I1:=((fun m s=> ∃wI aOu aJx,s=⟨25,(aG (aG (aG fa 2 (vi wI)) 7 (vu aOu)) 8 (vi aJx)),⟨bR,64⟩⟩∧uB m wI aOu aJx=some r):Nat→St→Prop)
 exact be 25 func210 (h:=G)
instance:Ct prog 210 (K3 prog aZc vu vi vi 210 aD3):=⟨aQt⟩
def aE0(rec1:Int→aY→aY→List Int→List dI→Int→Int→Option (aY×Int))(rec2:Int→aY→aY→List Int→Int→List dI→Int→Int→Int→Int→Option (aY×Int))(tE:Int)(s_3:aY)(t6:aY)(rO:List Int)(aR4:Int)(t26:List dI)(t27:Int)(t28:Int)(t37:Int)(t38:Int):Option (aY×Int):=
 (bif (decide (t38<t37)) then
  ((idx rO (IntKind.i64.wrap ((IntKind.i64.wrap (aR4*s_3.V))+t38))).bind fun x10=>
  ((idx rO (IntKind.i64.wrap ((IntKind.i64.wrap (aR4*s_3.V))+t38))).bind fun x12=>
  ((stt rO (IntKind.i64.wrap ((IntKind.i64.wrap (aR4*s_3.V))+t38)) (aC6 .u64 x10 tE)).bind fun l14=>
  rec2 tE s_3 t6 l14 aR4 t26 t27 t28 t37 (IntKind.i64.wrap (t38+1)))))
 else
  rec1 tE s_3 t6 rO t26 t27 (IntKind.i64.wrap (t28+1)))
def uR(rec1:Int→aY→aY→List Int→List dI→Int→Int→Option (aY×Int)):Nat→Int→aY→aY→List Int→Int→List dI→Int→Int→Int→Int→Option (aY×Int)
 |0=>fun _ _ _ _ _ _ _ _ _ _=>none
 |n+1=>aE0 rec1 (uR rec1 n)
def aDz(rec1:Int→aY→aY→List Int→List dI→Int→Int→Option (aY×Int))(tE:Int)(s_3:aY)(t6:aY)(rO:List Int)(t26:List dI)(t27:Int)(t28:Int):Option (aY×Int):=
 (bif (decide (t28<t27)) then
  ((idx t26 t28).bind fun x6=>
  ((aD3 x6 tE s_3.V).bind fun r8=>
  uR rec1 aZ tE s_3 t6 rO t28 t26 t27 t28 r8 0))
 else
  some ((aY.mk s_3.R s_3.V rO),0))
def qK:Nat→Int→aY→aY→List Int→List dI→Int→Int→Option (aY×Int)
 |0=>fun _ _ _ _ _ _ _=>none
 |n+1=>aDz (qK n)
def wZ(s_0:aY)(l_1:List dI)(tE:Int):Option (aY×Int):=
 ((vJ s_0).bind fun r2=>
 (bif ((!r2)||((l_1.length:Int) !=s_0.R)) then
  some (s_0,1)
 else
  ((qR s_0.Words).bind fun r4=>
  qK aZ tE s_0 (aY.mk 0 0 []) r4 l_1 (l_1.length:Int) 0)))
theorem aTy{s_0:aY}{l_1:List dI}{tE:Int}{r:aY×Int}(hm:wZ s_0 l_1 tE=some r):dT prog 204 [.agg [vi s_0.R,vi s_0.V,vl (ci .u64) s_0.Words],vl dW l_1,vu tE] (.tup [.agg [vi r.1.R,vi r.1.V,vl (ci .u64) r.1.Words],vi r.2]):=by
 refine bd 61 func204 ?_;obtain ⟨r2,h1,hm⟩:=bnd hm;refine W ?_;refine cq (aLx h1) ?_;refine W ?_;refine cm hm (fun hm=>?_) fun hm=>?_
 · exact E
 obtain ⟨r4,h3,hm⟩:=bnd hm;refine W ?_;refine aI.callF (id:=130) Zd Z1 bY7 (fun H=>(cD ((CFi .u64).sl _ _ _) .nil)) (CFi .u64) Z5 (aLi h3) ?_;refine W ?_;refine lp (fun m s=> ∃tE s_3 t6 rO t26 t27 t28,s=⟨61,(aG (aG (aG (aG (aG (aG (aG fa 2 (vu tE)) 3 (.adr 1 0)) 6 (.adr 2 0)) 8 (.own 3 0 rO.length)) 26 (vl dW t26)) 27 (vi t27)) 28 (vi t28)),⟨(upd (upd (upd bR 1 (.cells 1 [vi s_3.R,vi s_3.V,vl (ci .u64) s_3.Words] 0)) 2 (.cells 1 [vi t6.R,vi t6.V,vl (ci .u64) t6.Words] 0)) 3 (.cells 1 (rO.flatMap (ci .u64)) 0)),64⟩⟩∧qK m tE s_3 t6 rO t26 t27 t28=some r) ?_ ?_
 · refine ⟨_,?_,tE,s_0,(aY.mk 0 0 []),r4,l_1,(l_1.length:Int),0,rfl,hm⟩;refine St.Le.trans (bB6 1 (ys:=[.v (.int .i64 ((aY.mk 0 0 []).R)),.v (.int .i64 ((aY.mk 0 0 []).V)),.sl (((aY.mk 0 0 []).Words).flatMap (ci .u64)) ((aY.mk 0 0 []).Words).length false]) Z3 (.cons (.data _ (.v _)) (.cons (.data _ (.v _)) (.cons (.nil false) .nil)))) ?_;exact cn (fun j=>bif j==1 then 0 else bif j==2 then 1 else bif j==3 then 130 else 0)
 rintro n1 s ⟨tE,s_3,t6,rO,t26,t27,t28,rfl,hm⟩;refine W ?_;refine cm hm (fun hm=>?_) fun hm=>?_
 ·
  obtain ⟨x6,h5,hm⟩:=bnd hm;obtain ⟨r8,h7,hm⟩:=bnd hm;refine W ?_;refine cq (aQt h7) ?_;refine W ?_;refine lp (fun m s=> ∃tE s_3 t6 rO aR4 t26 t27 t28 t37 t38,s=⟨61,(aG (aG (aG (aG (aG (aG (aG (aG (aG (aG fa 2 (vu tE)) 3 (.adr 1 0)) 6 (.adr 2 0)) 8 (.own 3 0 rO.length)) 9 (vi aR4)) 26 (vl dW t26)) 27 (vi t27)) 28 (vi t28)) 37 (vi t37)) 38 (vi t38)),⟨(upd (upd (upd bR 1 (.cells 1 [vi s_3.R,vi s_3.V,vl (ci .u64) s_3.Words] 0)) 2 (.cells 1 [vi t6.R,vi t6.V,vl (ci .u64) t6.Words] 0)) 3 (.cells 1 (rO.flatMap (ci .u64)) 0)),64⟩⟩∧uR (qK n1) m tE s_3 t6 rO aR4 t26 t27 t28 t37 t38=some r) (Lr (fun j=>bif j==1 then 1 else bif j==2 then 2 else bif j==3 then 3 else 0)) ?_;rintro n2 s ⟨tE,s_3,t6,rO,aR4,t26,t27,t28,t37,t38,rfl,hm⟩;refine W ?_;refine cm hm (fun hm=>?_) fun hm=>?_
  · obtain ⟨x10,h9,hm⟩:=bnd hm;have hm:=sb hm h9;obtain ⟨l14,h13,hm⟩:=bnd hm;refine W ?_;have qh13:=cY h13;refine aS h13 ?_;refine W ?_;exact Lr (fun j=>bif j==1 then 1 else bif j==2 then 2 else bif j==3 then 3 else 0)
  refine W ?_;exact Lr (fun j=>bif j==1 then 1 else bif j==2 then 2 else bif j==3 then 3 else 0)
 iterate 5 refine S1 ?_
 refine AWp.seq' ?_;refine AWp.weaken (aY4 (CFi .u64) 8 3 Z1 Z3 Z6) ?_;refine W ?_;refine bU (.agg [vi s_3.R,vi s_3.V,vl (ci .u64) rO]) ?_;exact E
instance:Ct prog 204 (K3 prog oK (vl dW) vu (t2 oK vi) 204 wZ):=⟨fun hm=>aTy hm⟩
def aFc(rec1:aY→aY→List dI→List Int→Int→Int→Option (aY))(t6:aY)(s_7:aY)(bN0:List dI)(t27:List Int)(t28:Int)(t29:Int):Option (aY):=
 (bif (decide (t29<t28)) then
  ((idx t27 t29).bind fun x11=>
  ((wZ s_7 bN0 x11).bind fun ⟨r13,r14⟩=>
  rec1 t6 r13 bN0 t27 t28 (IntKind.i64.wrap (t29+1))))
 else
  some s_7)
def wM:Nat→aY→aY→List dI→List Int→Int→Int→Option (aY)
 |0=>fun _ _ _ _ _ _=>none
 |n+1=>aFc (wM n)
def zH(g_0:aU)(nV:Int)(bUd:List aH):Option (aY):=
 ((zD g_0.Config.N).bind fun r2=>
 ((aGg g_0.Config.R r2).bind fun ⟨r4,r5⟩=>
 ((uM g_0 nV).bind fun r7=>
 ((aF1 bUd).bind fun r9=>
 wM aZ (aY.mk 0 0 []) r4 r7 r9 (r9.length:Int) 0))))
theorem aV7:K3 prog fY vi (vl bE) oK 188 zH:=by
 intro g_0 nV bUd r hm
 let I1:=((fun m s=> ∃t6 s_7 bN0 t27 t28 t29,s=⟨42,(aG (aG (aG (aG (aG (aG fa 6 (.adr 1 0)) 7 (.adr 2 0)) 9 (vl dW bN0)) 27 (vl (ci .u64) t27)) 28 (vi t28)) 29 (vi t29)),⟨(upd (upd bR 1 (.cells 1 [vi t6.R,vi t6.V,vl (ci .u64) t6.Words] 0)) 2 (.cells 1 [vi s_7.R,vi s_7.V,vl (ci .u64) s_7.Words] 0)),64⟩⟩∧wM m t6 s_7 bN0 t27 t28 t29=some r):Nat→St→Prop)
 exact be 42 func188 (h:=G)
instance:Ct prog 188 (K3 prog fY vi (vl bE) oK 188 zH):=⟨aV7⟩
def aCe(aYh:Int):Option (Int×Int×Bool):=
 (bif (decide ((Int.tmod aYh 16777216)≤(IntKind.u64.wrap (Int.tdiv aYh 16777216)))) then
  some (0,0,false)
 else
  some ((IntKind.i64.wrap (IntKind.u64.wrap (Int.tdiv aYh 16777216))),(IntKind.i64.wrap (Int.tmod aYh 16777216)),true))
theorem bG2:K1 prog vu (t3 vi vi vb) 189 aCe:=fun hm=>be 18 func189 (h:=G)
instance:Ct prog 189 (K1 prog vu (t3 vi vi vb) 189 aCe):=⟨bG2⟩
abbrev aFh(rec1:List Int→List Int→Int→Int→Option ((List Int)))(oY:List Int)(t13:List Int)(t14:Int)(t15:Int):Option ((List Int)):=
 rec1 oY t13 t14 (IntKind.i64.wrap (t15+1))
def aFg(rec1:List Int→List Int→Int→Int→Option ((List Int)))(oY:List Int)(t13:List Int)(t14:Int)(t15:Int):Option ((List Int)):=
 (bif (decide (t15<t14)) then
  ((idx t13 t15).bind fun x4=>
  ((aCe x4).bind fun ⟨r6,r7,r8⟩=>
  (bif r8 then
   ((app oY [x4]).bind fun l10=>
   aFh rec1 l10 t13 t14 t15)
  else
   aFh rec1 oY t13 t14 t15)))
 else
  some oY)
def wY:Nat→List Int→List Int→Int→Int→Option ((List Int))
 |0=>fun _ _ _ _=>none
 |n+1=>aFg (wY n)
def zI(s_0:aY):Option ((List Int)):=
 ((vJ s_0).bind fun r2=>
 (bif (!r2) then
  some []
 else
  wY aZ [] s_0.Words (s_0.Words.length:Int) 0))
theorem aVa:K1 prog oK (vl (ci .u64)) 187 zI:=by
 intro s_0 r hm
 let I1:=((fun m s=> ∃oY t13 t14 t15,s=⟨32,(aG (aG (aG (aG fa 3 (.own 1 0 oY.length)) 13 (vl (ci .u64) t13)) 14 (vi t14)) 15 (vi t15)),⟨(upd bR 1 (.cells 1 (oY.flatMap (ci .u64)) 0)),64⟩⟩∧wY m oY t13 t14 t15=some r):Nat→St→Prop)
 exact be 32 func187 (h:=G)
instance:Ct prog 187 (K1 prog oK (vl (ci .u64)) 187 zI):=⟨aVa⟩
abbrev aDw(rec1:aH→List aH→List Int→Int→Int→Option (aH×Bool))(t6:aH)(aO2:List aH)(t30:List Int)(t31:Int)(t32:Int):Option (aH×Bool):=
 rec1 t6 aO2 t30 t31 (IntKind.i64.wrap (t32+1))
def aDv(rec1:aH→List aH→List Int→Int→Int→Option (aH×Bool))(t6:aH)(aO2:List aH)(t30:List Int)(t31:Int)(t32:Int):Option (aH×Bool):=
 (bif (decide (t32<t31)) then
  ((idx t30 t32).bind fun x10=>
  ((aCe x10).bind fun ⟨r12,r13,r14⟩=>
  (bif (!r14) then
   aDw rec1 t6 aO2 t30 t31 t32
  else
   ((uE aO2 r12 r13).bind fun ⟨r16,r17⟩=>
   (bif r17 then
    ((idx aO2 r16).bind fun x19=>
    some (x19,true))
   else
    aDw rec1 t6 aO2 t30 t31 t32)))))
 else
  some ((aH.mk 0 0 0),false))
def uN:Nat→aH→List aH→List Int→Int→Int→Option (aH×Bool)
 |0=>fun _ _ _ _ _=>none
 |n+1=>aDv (uN n)
def wT(g_0:aU)(nV:Int)(v_2:Int):Option (aH×Bool):=
 ((sD g_0 nV v_2).bind fun r2=>
 (bif (!r2) then
  some ((aH.mk 0 0 0),false)
 else
  ((zG g_0 nV v_2).bind fun r4=>
  ((zH g_0 nV r4).bind fun r6=>
  ((zI r6).bind fun r8=>
  uN aZ (aH.mk 0 0 0) r4 r8 (r8.length:Int) 0)))))
theorem aTu:K3 prog fY vi vi (t2 aJ8 vb) 169 wT:=by
 intro g_0 nV v_2 r hm
 let I1:=((fun m s=> ∃t6 aO2 t30 t31 t32,s=⟨58,(aG (aG (aG (aG (aG fa 6 (.adr 1 0)) 8 (vl bE aO2)) 30 (vl (ci .u64) t30)) 31 (vi t31)) 32 (vi t32)),⟨(upd bR 1 (.cells 1 [vi t6.U,vi t6.V,vi t6.Tier] 0)),64⟩⟩∧uN m t6 aO2 t30 t31 t32=some r):Nat→St→Prop)
 exact be 58 func169 (h:=G)
instance:Ct prog 169 (K3 prog fY vi vi (t2 aJ8 vb) 169 wT):=⟨aTu⟩
abbrev aCc(rec1:aH→aH→List aH→Int→Int→Option (aH×Bool))(t2:aH)(oD:aH)(t15:List aH)(t16:Int)(t17:Int):Option (aH×Bool):=
 rec1 t2 oD t15 t16 (IntKind.i64.wrap (t17+1))
def aCb(rec1:aH→aH→List aH→Int→Int→Option (aH×Bool))(t2:aH)(oD:aH)(t15:List aH)(t16:Int)(t17:Int):Option (aH×Bool):=
 (bif (decide (t17<t16)) then
  ((idx t15 t17).bind fun x6=>
  ((dX (((decide (oD.Tier<x6.Tier))==false)&&((x6.Tier==oD.Tier)==true)) false (aA2 oD x6)).bind fun r8=>
  (bif ((decide (oD.Tier<x6.Tier))||((x6.Tier==oD.Tier)&&r8)) then
   aCc rec1 t2 x6 t15 t16 t17
  else
   aCc rec1 t2 oD t15 t16 t17)))
 else
  some (oD,true))
def sX:Nat→aH→aH→List aH→Int→Int→Option (aH×Bool)
 |0=>fun _ _ _ _ _=>none
 |n+1=>aCb (sX n)
def rR(l_0:List aH):Option (aH×Bool):=
 (bif ((l_0.length:Int)==0) then
  some ((aH.mk 0 0 0),false)
 else
  ((idx l_0 0).bind fun x2=>
  ((slc l_0 1 (l_0.length:Int)).bind fun l4=>
  sX aZ (aH.mk 0 0 0) x2 l4 (l4.length:Int) 0)))
theorem aRl:K1 prog (vl bE) (t2 aJ8 vb) 171 rR:=by
 intro l_0 r hm
 let I1:=((fun m s=> ∃t2 oD t15 t16 t17,s=⟨41,(aG (aG (aG (aG (aG fa 2 (.adr 1 0)) 4 (.adr 2 0)) 15 (vl bE t15)) 16 (vi t16)) 17 (vi t17)),⟨(upd (upd bR 1 (.cells 1 [vi t2.U,vi t2.V,vi t2.Tier] 0)) 2 (.cells 1 [vi oD.U,vi oD.V,vi oD.Tier] 0)),64⟩⟩∧sX m t2 oD t15 t16 t17=some r):Nat→St→Prop)
 exact be 41 func171 (h:=G)
instance:Ct prog 171 (K1 prog (vl bE) (t2 aJ8 vb) 171 rR):=⟨aRl⟩
def sF(l:List aH):Option (List aH):=app [] l
theorem aMr{r:List aH}(hm:some []=some r):kL prog 193 [.v (.slice none 0 0)] 3 (r.flatMap bE) r.length:=by
 refine kL.of_body func193 rfl (dU.fmdat r) ?_;simp only [ntmps193,List.length_cons,List.length_nil,Nat.reduceAdd,Nat.reduceSub,nD];refine sN 64 (pA ?_);refine fs (AWp.seq' (sN 128 (pA ?_)));refine pu rfl (aDn Z1 Z1 (aN6 underlying28)) ?_;refine fs (AWp.condT Z1 ?_);refine sN 192 (pA ?_);refine fs (AWp.weaken (aIb 2 900002 3 Z1 Z5) ?_);refine AWp.ret (lD ?_);cases hm;exact aOc (.inr rfl) Tryz.results193 Z1 Z3 Z6
theorem aMs{a:Addr}{c:Nat}{r:List aH}(hm:((app [] []).bind fun l2=>
some l2)=some r):kL prog 193 [.v (.slice (some a) 0 c)] 3 (r.flatMap bE) r.length:=by
 refine kL.of_body func193 rfl (dU.fmdat r) ?_;simp only [ntmps193,List.length_cons,List.length_nil,Nat.reduceAdd,Nat.reduceSub,nD];refine sN 64 (pA ?_);refine fs (AWp.seq' (sN 128 (pA ?_)));refine pu rfl (aDn Z1 Z1 (aL2 underlying28)) ?_;refine fs (AWp.condF Z1 ?_);refine AWp.skip (aV (sN 192 (hp (id:=128) rfl rfl (qU dU (l:=[]) underlying28 aGi aOz Z5 Zd Zd Zd (by simp only [go_sem,Nat.reduceBEq];try rfl) (by kernel_rfl)) ?_)));refine pA ?_;obtain ⟨l2,h1,hm⟩:=bnd hm;refine hp (id:=130) rfl rfl (aEu dU underlying28 underlying28 rfl bAv bCo (by rw [aM2];decide) (by rw [aM2];decide) bCp Zd Zd Z1 Z3 Z6 (aS0 Z1) rfl Z5 h1) ?_;refine pA ?_;refine fs (AWp.ret ?_);cases hm;exact aOc (.inr rfl) Tryz.results193 Z1 Z3 Z6
theorem aMt{x0:aH}{l0:List aH}{r:List aH}(hm:((app [] (x0::l0)).bind fun l2=>
some l2)=some r):kL prog 193 [.sl ((x0::l0).flatMap bE) (x0::l0).length false] 3 (r.flatMap bE) r.length:=by
 refine kL.of_body func193 rfl (dU.fmdat r) ?_;simp only [ntmps193,List.length_cons,List.length_nil,Nat.reduceAdd,Nat.reduceSub,nD];refine sN 64 (pA ?_);refine fs (AWp.seq' (sN 128 (pA ?_)));refine pu rfl (aDn Z1 Z1 (aL1 underlying28 (by simp))) ?_;refine fs (AWp.condF Z1 ?_);refine AWp.skip (aV (sN 192 (hp (id:=128) rfl rfl (qU dU (l:=[]) underlying28 aGi aOz Z5 Zd Zd Zd (by simp only [go_sem,Nat.reduceBEq];try rfl) (by kernel_rfl)) ?_)));refine pA ?_;obtain ⟨l2,h1,hm⟩:=bnd hm;refine hp (id:=130) rfl rfl (aEu dU underlying28 underlying28 rfl bAv bCo (by rw [aM2];decide) (by rw [aM2];decide) bCp Zd Zd Z1 Z3 Z6 (aVq dU Z1 rfl) rfl Z5 h1) ?_;refine pA ?_;refine fs (AWp.ret ?_);cases hm;exact aOc (.inr rfl) Tryz.results193 Z1 Z3 Z6
theorem aOk{l r:List aH}(hm:sF l=some r):kL prog 193 [.sl (l.flatMap bE) l.length false] 3 (r.flatMap bE) r.length:=by
 cases l with
 |nil=>
  have hr:r=[]:=by unfold sF app at hm;simpa using hm.symm
  subst hr;exact kL.nil_arg (aMr (r:=[]) rfl) (fun a c=>aMs (r:=[]) rfl)
 |cons x0 l0=>
  refine aMt ?_;show (app [] (x0::l0)).bind _=_;unfold sF at hm;rw [hm];rfl
def aCn(n_0:Int)(l_1:List aH)(u_2:Int)(v_3:Int)(aN2:Int):Option ((List aH)×Int):=
 ((oJ n_0 l_1).bind fun r2=>
 ((dX ((!r2)==false) false (mI n_0 u_2)).bind fun r4=>
 ((dX (((!r2)||(!r4))==false) false (mI n_0 v_3)).bind fun r6=>
 ((dX ((((!r2)||(!r4))||(!r6))==false) false (vQ aN2)).bind fun r8=>
 (bif ((((!r2)||(!r4))||(!r6))||(!r8)) then
  some (l_1,1)
 else
  ((uE l_1 u_2 v_3).bind fun ⟨r10,r11⟩=>
  (bif (!r11) then
   some (l_1,9)
  else
   ((sF l_1).bind fun r13=>
   ((idx r13 r10).bind fun x15=>
   ((stt r13 r10 (aH.mk x15.U x15.V aN2)).bind fun l17=>
   some (l17,0)))))))))))
theorem bGl{n_0:Int}{l_1:List aH}{u_2:Int}{v_3:Int}{aN2:Int}{r:(List aH)×Int}(hm:aCn n_0 l_1 u_2 v_3 aN2=some r):dT prog 172 [vi n_0,vl bE l_1,vi u_2,vi v_3,vi aN2] (.tup [vl bE r.1,vi r.2]):=by
 refine bd 55 func172 ?_;obtain ⟨r2,h1,hm⟩:=bnd hm;refine W ?_;refine cq (aEk h1) ?_;obtain ⟨r4,h3,hm⟩:=bnd hm;refine W ?_;refine cg (fun hb=>sT (bI h3 hb)) ?_;obtain ⟨r6,h5,hm⟩:=bnd hm;refine W ?_;refine cg (fun hb=>sT (bI h5 hb)) ?_;obtain ⟨r8,h7,hm⟩:=bnd hm;refine W ?_;refine cg (fun hb=>aM1 (bI h7 hb)) ?_;refine W ?_;refine cm hm (fun hm=>?_) fun hm=>?_
 · exact E
 refine W ?_;obtain ⟨⟨r10,r11⟩,h9,hm⟩:=bnd hm;refine cq (aIf h9) ?_;refine W ?_;refine cm hm (fun hm=>?_) fun hm=>?_
 · exact E
 obtain ⟨r13,h12,hm⟩:=bnd hm;refine W ?_;refine aI.callF (id:=257) Zd Z1 bY6 (fun H=>(cD (dU.sl _ _ _) .nil)) dU Z5 (aOk h12) ?_;obtain ⟨x15,h14,hm⟩:=bnd hm;obtain ⟨l17,h16,hm⟩:=bnd hm;refine W ?_;have qh16:=cY h16;refine aI.heap0 (id:=325) rfl (bQc dU (off:=2) (y:=x15) (y':=(aH.mk x15.U x15.V aN2)) (cs:=[.v (.int .i64 aN2)]) sz3 Z1 Z1 Z3 rfl h14 rfl Zd Z9 rfl h16) ?_;exact E
instance:Ct prog 172 (K5 prog vi (vl bE) vi vi vi (t2 (vl bE) vi) 172 aCn):=⟨fun hm=>bGl hm⟩
def zB(n_0:Int)(v_1:Int):Option (Bool):=
 some ((decide (0≤v_1))&&(decide (v_1<n_0)))
theorem aGt:K2 prog vi vi vb 190 zB:=fun hm=>be 12 func190 (h:=G)
instance:Ct prog 190 (K2 prog vi vi vb 190 zB):=⟨aGt⟩
attribute [local semireducible] aZ
end Go.Proofs.YtkdohhmacfoolaaGreat
