/- Facts. No condition. -/
import Derived.Test.YtkdohhmacfoolaaGreatNpGA1
set_option linter.unusedVariables false
set_option linter.unusedSimpArgs false
set_option maxRecDepth 20000
set_option maxHeartbeats 4000000
namespace Go.Proofs.YtkdohhmacfoolaaGreat
open Go.Proofs.Tryz Go Go.AM
attribute [local irreducible] bC
structure aY where
 R:Int
 V:Int
 Words:List Int
deriving DecidableEq
def aAq(e:aY):List AV:=[.v (.int .i64 e.R),.v (.int .i64 e.V),.sl (e.Words.flatMap (ci .u64)) e.Words.length false]
theorem aQj:CF aAq 3:=⟨fun _=>rfl,fun a x hx=>by
 simp only [aAq,List.mem_cons,List.not_mem_nil,or_false] at hx;rcases hx with rfl|rfl|rfl
 · exact (.v _)
 · exact (.v _)
 · exact ((CFi .u64).sl _ _ _),fun _=>rfl⟩
instance:CC aAq 3:=⟨aQj⟩
abbrev oF(e:aY):AV:= .agg [.v (.int .i64 e.R),vi e.V,vl (ci .u64) e.Words]
@[go_sem] theorem aLm(e:aY)(r:List AV):aAq e++r= .v (.int .i64 e.R):: .v (.int .i64 e.V):: .sl (e.Words.flatMap (ci .u64)) e.Words.length false::r:=rfl
@[go_sem] theorem bDj(i o:Nat):aO prog 102 (.adr i o) 0=some (.adr i (o+0)):=by kernel_rfl
@[go_sem] theorem bDp(i o:Nat):aO prog 102 (.adr i o) 1=some (.adr i (o+1)):=by kernel_rfl
@[go_sem] theorem bDv(i o:Nat):aO prog 102 (.adr i o) 2=some (.adr i (o+2)):=by kernel_rfl
@[go_sem] theorem bE3(i o:Nat):aO prog 120 (.adr i o) 0=some (.adr i (o+0)):=by kernel_rfl
@[go_sem] theorem bE6(i o:Nat):aO prog 120 (.adr i o) 1=some (.adr i (o+1)):=by kernel_rfl
@[go_sem] theorem bIg(i o:Nat):aO prog 23 (.adr i o) 0=some (.adr i (o+0)):=by kernel_rfl
@[go_sem] theorem bIn(i o:Nat):aO prog 23 (.adr i o) 1=some (.adr i (o+1)):=by kernel_rfl
@[go_sem] theorem bIt(i o:Nat):aO prog 23 (.adr i o) 2=some (.adr i (o+2)):=by kernel_rfl
@[go_sem] theorem bEd(i o:Nat):aO prog 243 (.adr i o) 0=some (.adr i (o+0)):=by kernel_rfl
@[go_sem] theorem bEe(i o:Nat):aO prog 243 (.adr i o) 1=some (.adr i (o+1)):=by kernel_rfl
@[go_sem] theorem bEf(i o:Nat):aO prog 243 (.adr i o) 2=some (.adr i (o+2)):=by kernel_rfl
@[go_sem] theorem bIy(i o:Nat):aO prog 30 (.adr i o) 0=some (.adr i (o+0)):=by kernel_rfl
@[go_sem] theorem bJ4(i o:Nat):aO prog 30 (.adr i o) 1=some (.adr i (o+3)):=by kernel_rfl
@[go_sem] theorem bJ8(i o:Nat):aO prog 30 (.adr i o) 2=some (.adr i (o+4)):=by kernel_rfl
@[go_sem] theorem bMz(H:aM)(x0 x1 x2:AV)(xs:List AV):dD prog H 102 (.ptr (x0::x1::x2::xs))=some (.agg [x0,x1,x2]):=by kernel_rfl
@[go_sem] theorem bN8(H:aM)(x0 x1:AV)(xs:List AV):dD prog H 120 (.ptr (x0::x1::xs))=some (.agg [x0,x1]):=by kernel_rfl
@[go_sem] theorem bQ4(H:aM)(x:AV)(xs:List AV):dD prog H 24 (.ptr (x::xs))=some x:=by kernel_rfl
@[go_sem] theorem bNh(H:aM)(x0 x1 x2:AV)(xs:List AV):dD prog H 243 (.ptr (x0::x1::x2::xs))=some (.agg [x0,x1,x2]):=by kernel_rfl
@[go_sem] theorem bQ9(H:aM)(x:AV)(xs:List AV):dD prog H 27 (.ptr (x::xs))=some x:=by kernel_rfl
@[go_sem] theorem bQd(H:aM)(x:AV)(xs:List AV):dD prog H 28 (.ptr (x::xs))=some x:=by kernel_rfl
@[go_sem] theorem bU1(H:aM)(x:AV)(xs:List AV):dD prog H 3 (.ptr (x::xs))=some x:=by kernel_rfl
@[go_sem] theorem bQj(H:aM)(x0 x1 x2 x3 x4:AV)(xs:List AV):dD prog H 30 (.ptr (x0::x1::x2::x3::x4::xs))=some (.agg [x0,x1,x2,x3,x4]):=by kernel_rfl
@[go_sem] theorem bU9(H:aM)(x:AV)(xs:List AV):dD prog H 4 (.ptr (x::xs))=some x:=by kernel_rfl
@[go_sem] theorem bR3(H:aM)(x:AV)(xs:List AV):dD prog H 43 (.ptr (x::xs))=some x:=by kernel_rfl
@[go_sem] theorem bI0(H:aM)(k:IntKind)(n:Int):rO prog H 3 43 (.v (.int k n))=some (.v (.int .u64 (IntKind.u64.wrap n))):=mG underlying3 underlying43
@[go_sem] theorem bCq(H:aM)(k:IntKind)(n:Int):rO prog H 3 198 (.v (.int k n))=some (.v (.int .u64 (IntKind.u64.wrap n))):=mG underlying3 underlying198
@[go_sem] theorem bLy(H:aM)(k:IntKind)(n:Int):rO prog H 5 3 (.v (.int k n))=some (.v (.int .i64 (IntKind.i64.wrap n))):=mG underlying5 underlying3
@[go_sem] theorem bI3(H:aM)(k:IntKind)(n:Int):rO prog H 43 3 (.v (.int k n))=some (.v (.int .i64 (IntKind.i64.wrap n))):=mG underlying43 underlying3
@[go_sem] theorem bCo(H:aM)(k:IntKind)(n:Int):rO prog H 214 5 (.v (.int k n))=some (.v (.int .u8 (IntKind.u8.wrap n))):=mG underlying214 underlying5
def aFl(aEs:Int)(vH:Int)(y_2:Int):Option (Int):=
 ((chk (y_2 !=0)).bind fun _=>
 ((aCj (Int.tmod aEs y_2) vH y_2).bind fun ⟨r3,r4⟩=>
 some r4))
theorem aZ4:K3 prog vu vu vu vu 166 aFl:=fun hm=>be 19 func166 (h:=G)
instance:Ct prog 166 (K3 prog vu vu vu vu 166 aFl):=⟨aZ4⟩
def aGy(a_0:Int)(b_1:Int):Option (Int):=
 ((aDv a_0).bind fun r2=>
 ((aDv b_1).bind fun r4=>
 ((aCl r2 r4).bind fun ⟨r6,r7⟩=>
 ((aFl r6 r7 2305843009213693951).bind fun r9=>
 some r9))))
theorem bNp:K2 prog vu vu vu 139 aGy:=fun hm=>be 18 func139 (h:=G)
instance:Ct prog 139 (K2 prog vu vu vu 139 aGy):=⟨bNp⟩
def aFq(n_0:Int)(l_1:List aH)(v_2:Int):Option ((List Int)):=
 ((tJ n_0 l_1).bind fun r2=>
 (bif (!r2) then
  some []
 else
  ((yV n_0 l_1).bind fun ⟨r4,r5⟩=>
  ((wA r4 v_2).bind fun r7=>
  some r7))))
theorem aZs:K3 prog vi (vl bE) vi (vl (ci .i64)) 197 aFq:=fun hm=>be 22 func197 (h:=G)
instance:Ct prog 197 (K3 prog vi (vl bE) vi (vl (ci .i64)) 197 aFq):=⟨aZs⟩
def uS(g_0:aU)(nT:Int)(v_2:Int):Option ((List Int)):=
 ((nY g_0.Config.N g_0.Edges nT).bind fun r2=>
 ((aFq g_0.Config.N r2 v_2).bind fun r4=>
 some r4))
theorem aUc:K3 prog fX vi vi (vl (ci .i64)) 184 uS:=fun hm=>be 19 func184 (h:=G)
instance:Ct prog 184 (K3 prog fX vi vi (vl (ci .i64)) 184 uS):=⟨aUc⟩
def xU(g_0:aU)(nT:Int)(v_2:Int):Option ((List Int)):=
 ((lV g_0).bind fun r2=>
 (bif (((((!r2)||(decide (nT<0)))||(decide (g_0.Config.L<nT)))||(decide (v_2<0)))||(decide (g_0.Config.N≤v_2))) then
  some []
 else
  ((uS g_0 nT v_2).bind fun r4=>
  some r4)))
theorem aY1:K3 prog fX vi vi (vl (ci .i64)) 168 xU:=fun hm=>be 36 func168 (h:=G)
instance:Ct prog 168 (K3 prog fX vi vi (vl (ci .i64)) 168 xU):=⟨aY1⟩
def rT(g_0:aU)(nT:Int)(v_2:Int):Option (Bool):=
 ((lV g_0).bind fun r2=>
 some ((((r2&&(decide (0≤nT)))&&(decide (nT<g_0.Config.L)))&&(decide (0≤v_2)))&&(decide (v_2<g_0.Config.N))))
theorem aNl:K3 prog fX vi vi vb 185 rT:=fun hm=>be 31 func185 (h:=G)
instance:Ct prog 185 (K3 prog fX vi vi vb 185 rT):=⟨aNl⟩
def aLp(rec1:Int→List Int→Int→Int→Option (Bool))(n_0:Int)(t13:List Int)(t14:Int)(t15:Int):Option (Bool):=
 (bif (decide (t15<t14)) then
  ((idx t13 t15).bind fun x4=>
  (bif ((decide (x4<0))||(decide (n_0≤x4))) then
   some false
  else
   rec1 n_0 t13 t14 (IntKind.i64.wrap (t15+1))))
 else
  some true)
def aEn:Nat→Int→List Int→Int→Int→Option (Bool)
 |0=>fun _ _ _ _=>none
 |n+1=>aLp (aEn n)
def aKk(n_0:Int)(l_1:List aH)(aLa:List Int):Option (Bool):=
 ((oE n_0 l_1).bind fun r2=>
 (bif (!r2) then
  some false
 else
  aEn bC n_0 aLa (aLa.length:Int) 0))
theorem aV2:K3 prog vi (vl bE) (vl (ci .i64)) vb 205 aKk:=by
 intro n_0 l_1 aLa r hm
 let I1:=((fun m s=> ∃n_0 t13 t14 t15,s=⟨27,(aF (aF (aF (aF fa 0 (vi n_0)) 13 (vl (ci .i64) t13)) 14 (vi t14)) 15 (vi t15)),⟨bQ,64⟩⟩∧aEn m n_0 t13 t14 t15=some r):Nat→St→Prop)
 exact be 27 func205 (h:=G)
instance:Ct prog 205 (K3 prog vi (vl bE) (vl (ci .i64)) vb 205 aKk):=⟨aV2⟩
abbrev aHh(rec1:List Bool→List aH→List aH→Int→Int→Option ((List aH)))(aDf:List Bool)(nW:List aH)(t8:List aH)(t9:Int)(t10:Int):Option ((List aH)):=
 rec1 aDf nW t8 t9 (IntKind.i64.wrap (t10+1))
def aHg(rec1:List Bool→List aH→List aH→Int→Int→Option ((List aH)))(aDf:List Bool)(nW:List aH)(t8:List aH)(t9:Int)(t10:Int):Option ((List aH)):=
 (bif (decide (t10<t9)) then
  ((idx t8 t10).bind fun x2=>
  ((idx aDf x2.U).bind fun x4=>
  ((idx aDf x2.V).bind fun x6=>
  (bif (!(x4==x6)) then
   ((app nW [x2]).bind fun l8=>
   aHh rec1 aDf l8 t8 t9 t10)
  else
   aHh rec1 aDf nW t8 t9 t10))))
 else
  some nW)
def aAu:Nat→List Bool→List aH→List aH→Int→Int→Option ((List aH))
 |0=>fun _ _ _ _ _=>none
 |n+1=>aHg (aAu n)
def aFo(l_0:List aH)(aDf:List Bool):Option ((List aH)):=
 aAu bC aDf [] l_0 (l_0.length:Int) 0
theorem aPm:K2 prog (vl bE) (vl aPj) (vl bE) 206 aFo:=by
 intro l_0 aDf r hm
 let I1:=((fun m s=> ∃aDf nW t8 t9 t10,s=⟨31,(aF (aF (aF (aF (aF fa 1 (vl aPj aDf)) 5 (.own 1 0 nW.length)) 8 (vl bE t8)) 9 (vi t9)) 10 (vi t10)),⟨(upd bQ 1 (.cells 3 (nW.flatMap bE) 0)),64⟩⟩∧aAu m aDf nW t8 t9 t10=some r):Nat→St→Prop)
 exact be 31 func206 (h:=G)
instance:Ct prog 206 (K2 prog (vl bE) (vl aPj) (vl bE) 206 aFo):=⟨aPm⟩
def aOh(rec1:List aH→List Bool→List Int→Int→Int→Option ((List aH)×Int))(l_1:List aH)(aZw:List Bool)(t18:List Int)(t19:Int)(t20:Int):Option ((List aH)×Int):=
 (bif (decide (t20<t19)) then
  ((idx t18 t20).bind fun x6=>
  ((idx aZw x6).bind fun x8=>
  ((stt aZw x6 true).bind fun l10=>
  rec1 l_1 l10 t18 t19 (IntKind.i64.wrap (t20+1)))))
 else
  ((aFo l_1 aZw).bind fun r12=>
  some (r12,0)))
def aGs:Nat→List aH→List Bool→List Int→Int→Int→Option ((List aH)×Int)
 |0=>fun _ _ _ _ _=>none
 |n+1=>aOh (aGs n)
def aJa(n_0:Int)(l_1:List aH)(aLa:List Int):Option ((List aH)×Int):=
 ((aKk n_0 l_1 aLa).bind fun r2=>
 (bif (!r2) then
  some ([],1)
 else
  ((mkc n_0 n_0 false).bind fun l4=>
  aGs bC l_1 l4 aLa (aLa.length:Int) 0)))
theorem bLt{n_0:Int}{l_1:List aH}{aLa:List Int}{r:(List aH)×Int}(hm:aJa n_0 l_1 aLa=some r):dU prog 198 [vi n_0,vl bE l_1,vl (ci .i64) aLa] (.tup [vl bE r.1,vi r.2]):=by
 refine bd 31 func198 ?_;obtain ⟨r2,h1,hm⟩:=bnd hm;refine W ?_;refine cq (aV2 h1) ?_;refine W ?_;refine cm hm (fun hm=>?_) fun hm=>?_
 · exact E
 obtain ⟨l4,h3,hm⟩:=bnd hm;refine W ?_;refine aK CFb h3 ?_;refine W ?_;refine lp (fun m s=> ∃l_1 aZw t18 t19 t20,s=⟨31,(aF (aF (aF (aF (aF fa 1 (vl bE l_1)) 8 (.own 1 0 aZw.length)) 18 (vl (ci .i64) t18)) 19 (vi t19)) 20 (vi t20)),⟨(upd bQ 1 (.cells 1 (aZw.flatMap aPj) 0)),64⟩⟩∧aGs m l_1 aZw t18 t19 t20=some r) (Lr (fun j=>bif j==1 then 129 else 0)) ?_;rintro n1 s ⟨l_1,aZw,t18,t19,t20,rfl,hm⟩;refine W ?_;refine cm hm (fun hm=>?_) fun hm=>?_
 · obtain ⟨x6,h5,hm⟩:=bnd hm;obtain ⟨x8,h7,hm⟩:=bnd hm;obtain ⟨l10,h9,hm⟩:=bnd hm;refine W ?_;have qh9:=cX h9;refine aS h9 ?_;refine W ?_;exact Lr (fun j=>bif j==1 then 1 else 0)
 iterate 5 refine S1 ?_
 refine AWp.seq' ?_;refine AWp.weaken (aX6 CFb 8 1 Z1 Z3 Z6) ?_;obtain ⟨r12,h11,hm⟩:=bnd hm;refine W ?_;refine cq (aPm h11) ?_;exact E
instance:Ct prog 198 (K3 prog vi (vl bE) (vl (ci .i64)) (t2 (vl bE) vi) 198 aJa):=⟨fun hm=>bLt hm⟩
def yX(g_0:aU)(nT:Int)(v_2:Int):Option ((List aH)):=
 ((uS g_0 nT v_2).bind fun r2=>
 ((aJa g_0.Config.N g_0.Edges r2).bind fun ⟨r4,r5⟩=>
 some r4))
theorem aU9:K3 prog fX vi vi (vl bE) 186 yX:=fun hm=>be 23 func186 (h:=G)
instance:Ct prog 186 (K3 prog fX vi vi (vl bE) 186 yX):=⟨aU9⟩
def xH(x_0:Int):Option (Int):=
 ((aFk x_0).bind fun r2=>
 some r2)
theorem aKi{x_0:Int}{r:Int}(hm:xH x_0=some r):dU prog 134 [vu x_0] (vi r):=by
 refine bd 8 func134 ?_;refine W ?_;refine AWp.condF Z1 ?_;obtain ⟨r2,h1,hm⟩:=bnd hm;refine W ?_;refine cq (aPh h1) ?_;exact E
instance:Ct prog 134 (K1 prog vu vi 134 xH):=⟨fun hm=>aKi hm⟩
def yU(n_0:Int):Option (Int):=
 (bif (decide (n_0<1)) then
  some 0
 else
  ((xH (IntKind.u64.wrap (IntKind.i64.wrap (n_0-1)))).bind fun r2=>
  some (IntKind.i64.wrap ((IntKind.i64.wrap (2*r2))+2))))
theorem aU3:K1 prog vi vi 201 yU:=fun hm=>be 11 func201 (h:=G)
instance:Ct prog 201 (K1 prog vi vi 201 yU):=⟨aU3⟩
def sF(r_0:Int)(v_1:Int):Option (Bool):=
 some ((((decide (1≤r_0))&&(decide (r_0≤8)))&&(decide (1≤v_1)))&&(decide (v_1≤61)))
theorem aLd:K2 prog vi vi vb 207 sF:=fun hm=>be 19 func207 (h:=G)
instance:Ct prog 207 (K2 prog vi vi vb 207 sF):=⟨aLd⟩
def aG1(r_0:Int)(v_1:Int):Option (aY×Int):=
 ((sF r_0 v_1).bind fun r2=>
 (bif (!r2) then
  some ((aY.mk 0 0 []),1)
 else
  ((mkc (IntKind.i64.wrap (r_0*v_1)) (IntKind.i64.wrap (r_0*v_1)) 0).bind fun l4=>
  some ((aY.mk r_0 v_1 l4),0))))
theorem bB8{r_0:Int}{v_1:Int}{r:aY×Int}(hm:aG1 r_0 v_1=some r):dU prog 200 [vi r_0,vi v_1] (.tup [.agg [vi r.1.R,vi r.1.V,vl (ci .u64) r.1.Words],vi r.2]):=by
 refine bd 18 func200 ?_;obtain ⟨r2,h1,hm⟩:=bnd hm;refine W ?_;refine cq (aLd h1) ?_;refine W ?_;refine cm hm (fun hm=>?_) fun hm=>?_
 · refine W ?_;refine bU (.agg [vi 0,vi 0,.v (.slice none 0 0)]) ?_;exact E
 iterate 2 refine S1 ?_
 refine AWp.seq' ?_;refine AWp.regC 64 6 (N':=192) rfl ?_;obtain ⟨l4,h3,hm⟩:=bnd hm;refine W ?_;refine aK (CFi .u64) h3 ?_;refine aI.cut (aX6 (CFi .u64) 16 133 Z1 Z3 Z6) ?_;refine bU (.agg [vi r_0,vi v_1,vl (ci .u64) l4]) ?_;exact E
instance:Ct prog 200 (K2 prog vi vi (t2 oF vi) 200 aG1):=⟨fun hm=>bB8 hm⟩
def uC(g_0:aU)(nT:Int):Option ((List dI)):=
 ((slc g_0.Hashes (IntKind.i64.wrap (nT*g_0.Config.R)) (IntKind.i64.wrap ((IntKind.i64.wrap (nT*g_0.Config.R))+g_0.Config.R))).bind fun l2=>
 ((mO l2).bind fun r4=>
 some r4))
theorem aQz:K2 prog fX vi (vl dX) 202 uC:=fun hm=>be 21 func202 (h:=G)
instance:Ct prog 202 (K2 prog fX vi (vl dX) 202 uC):=⟨aQz⟩
def aB9(v_0:Int):Option (Bool):=
 some ((decide (0≤v_0))&&(decide (v_0<16777216)))
theorem aXg:K1 prog vi vb 211 aB9:=fun hm=>be 9 func211 (h:=G)
instance:Ct prog 211 (K1 prog vi vb 211 aB9):=⟨aXg⟩
def aJp(u_0:Int)(v_1:Int):Option (Int×Int):=
 ((aB9 u_0).bind fun r2=>
 ((fG ((!r2)==false) false (aB9 v_1)).bind fun r4=>
 (bif ((!r2)||(!r4)) then
  some (0,1)
 else
  (bif (u_0==v_1) then
   some (0,8)
  else
   some ((IntKind.u64.wrap ((IntKind.u64.wrap ((IntKind.u64.wrap (if v_1<u_0 then v_1 else u_0))*16777216))+(IntKind.u64.wrap (if u_0<v_1 then v_1 else u_0)))),0)))))
theorem bNq:K2 prog vi vi (t2 vu vi) 208 aJp:=fun hm=>be 27 func208 (h:=G)
instance:Ct prog 208 (K2 prog vi vi (t2 vu vi) 208 aJp):=⟨bNq⟩
abbrev aPl(rec1:List Int→List aH→Int→Int→Option ((List Int)))(oU:List Int)(t8:List aH)(t9:Int)(t10:Int):Option ((List Int)):=
 rec1 oU t8 t9 (IntKind.i64.wrap (t10+1))
abbrev aJc(rec1:List Int→List aH→Int→Int→Option ((List Int)))(oU:List Int)(cE8:Int)(t8:List aH)(t9:Int)(t10:Int):Option ((List Int)):=
 ((app oU [cE8]).bind fun l7=>
 aPl rec1 l7 t8 t9 t10)
def aJb(rec1:List Int→List aH→Int→Int→Option ((List Int)))(oU:List Int)(t8:List aH)(t9:Int)(t10:Int):Option ((List Int)):=
 (bif (decide (t10<t9)) then
  ((idx t8 t10).bind fun x2=>
  ((aJp x2.U x2.V).bind fun ⟨r4,r5⟩=>
  (bif (r5 !=0) then
   aJc rec1 oU 0 t8 t9 t10
  else
   aJc rec1 oU r4 t8 t9 t10)))
 else
  some oU)
def aCm:Nat→List Int→List aH→Int→Int→Option ((List Int))
 |0=>fun _ _ _ _=>none
 |n+1=>aJb (aCm n)
def aEo(l_0:List aH):Option ((List Int)):=
 aCm bC [] l_0 (l_0.length:Int) 0
theorem bCl:K1 prog (vl bE) (vl (ci .u64)) 203 aEo:=by
 intro l_0 r hm
 let I1:=((fun m s=> ∃oU t8 t9 t10,s=⟨30,(aF (aF (aF (aF fa 3 (.own 1 0 oU.length)) 8 (vl bE t8)) 9 (vi t9)) 10 (vi t10)),⟨(upd bQ 1 (.cells 1 (oU.flatMap (ci .u64)) 0)),64⟩⟩∧aCm m oU t8 t9 t10=some r):Nat→St→Prop)
 exact be 30 func203 (h:=G)
instance:Ct prog 203 (K1 prog (vl bE) (vl (ci .u64)) 203 aEo):=⟨bCl⟩
def uW(s_0:aY):Option (Bool):=
 ((sF s_0.R s_0.V).bind fun r2=>
 some (r2&&((s_0.Words.length:Int)==(IntKind.i64.wrap (s_0.R*s_0.V)))))
theorem aLc:K1 prog oF vb 199 uW:=fun hm=>be 19 func199 (h:=G)
instance:Ct prog 199 (K1 prog oF vb 199 uW):=⟨aLc⟩
def qL(l:List Int):Option (List Int):=app [] l
theorem aK5{r:List Int}(hm:some []=some r):kJ prog 209 [.v (.slice none 0 0)] 1 (r.flatMap (ci .u64)) r.length:=by
 refine kJ.of_body func209 rfl ((CFi .u64).fmdat r) ?_;simp only [ntmps209,List.length_cons,List.length_nil,Nat.reduceAdd,Nat.reduceSub,nB];refine sN 64 (pA ?_);refine fs (AWp.seq' (sN 128 (pA ?_)));refine pu rfl (aDa Z1 Z1 (aMg underlying24)) ?_;refine fs (AWp.condT Z1 ?_);refine sN 192 (pA ?_);refine fs (AWp.weaken (aHr 2 900002 1 Z1 Z5) ?_);refine AWp.ret (lA ?_);cases hm;exact aNh (.inr rfl) Tryz.results209 Z1 Z3 Z6
theorem aK6{a:Addr}{c:Nat}{r:List Int}(hm:((app [] []).bind fun l2=>
some l2)=some r):kJ prog 209 [.v (.slice (some a) 0 c)] 1 (r.flatMap (ci .u64)) r.length:=by
 refine kJ.of_body func209 rfl ((CFi .u64).fmdat r) ?_;simp only [ntmps209,List.length_cons,List.length_nil,Nat.reduceAdd,Nat.reduceSub,nB];refine sN 64 (pA ?_);refine fs (AWp.seq' (sN 128 (pA ?_)));refine pu rfl (aDa Z1 Z1 (aKh underlying24)) ?_;refine fs (AWp.condF Z1 ?_);refine AWp.skip (aV (sN 192 (hp (id:=128) rfl rfl (qN (CFi .u64) (l:=[]) underlying24 fD bKs Z5 Zd Zd Zd (by simp only [go_sem,Nat.reduceBEq];try rfl) (by kernel_rfl)) ?_)));refine pA ?_;obtain ⟨l2,h1,hm⟩:=bnd hm;refine hp (id:=130) rfl rfl (aEh (CFi .u64) underlying24 underlying24 rfl bTz bV4 (by rw [bKo];decide) (by rw [bKo];decide) bV5 Zd Zd Z1 Z3 Z6 (aR4 Z1) rfl Z5 h1) ?_;refine pA ?_;refine fs (AWp.ret ?_);cases hm;exact aNh (.inr rfl) Tryz.results209 Z1 Z3 Z6
theorem aK7{x0:Int}{l0:List Int}{r:List Int}(hm:((app [] (x0::l0)).bind fun l2=>
some l2)=some r):kJ prog 209 [.sl ((x0::l0).flatMap (ci .u64)) (x0::l0).length false] 1 (r.flatMap (ci .u64)) r.length:=by
 refine kJ.of_body func209 rfl ((CFi .u64).fmdat r) ?_;simp only [ntmps209,List.length_cons,List.length_nil,Nat.reduceAdd,Nat.reduceSub,nB];refine sN 64 (pA ?_);refine fs (AWp.seq' (sN 128 (pA ?_)));refine pu rfl (aDa Z1 Z1 (aKg underlying24 (by simp))) ?_;refine fs (AWp.condF Z1 ?_);refine AWp.skip (aV (sN 192 (hp (id:=128) rfl rfl (qN (CFi .u64) (l:=[]) underlying24 fD bKs Z5 Zd Zd Zd (by simp only [go_sem,Nat.reduceBEq];try rfl) (by kernel_rfl)) ?_)));refine pA ?_;obtain ⟨l2,h1,hm⟩:=bnd hm;refine hp (id:=130) rfl rfl (aEh (CFi .u64) underlying24 underlying24 rfl bTz bV4 (by rw [bKo];decide) (by rw [bKo];decide) bV5 Zd Zd Z1 Z3 Z6 (aUr (CFi .u64) Z1 rfl) rfl Z5 h1) ?_;refine pA ?_;refine fs (AWp.ret ?_);cases hm;exact aNh (.inr rfl) Tryz.results209 Z1 Z3 Z6
theorem aKw{l r:List Int}(hm:qL l=some r):kJ prog 209 [.sl (l.flatMap (ci .u64)) l.length false] 1 (r.flatMap (ci .u64)) r.length:=by
 cases l with
 |nil=>
  have hr:r=[]:=by unfold qL app at hm;simpa using hm.symm
  subst hr;exact kJ.nil_arg (aK5 (r:=[]) rfl) (fun a c=>aK6 (r:=[]) rfl)
 |cons x0 l0=>
  refine aK7 ?_;show (app [] (x0::l0)).bind _=_;unfold qL at hm;rw [hm];rfl
def aB7(h_0:dI)(aXi:Int):Option (Int):=
 ((aGy h_0.A aXi).bind fun r2=>
 ((aGx r2 h_0.B).bind fun r4=>
 some r4))
theorem aXa:K2 prog aYc vu vu 212 aB7:=fun hm=>be 12 func212 (h:=G)
instance:Ct prog 212 (K2 prog aYc vu vu 212 aB7):=⟨aXa⟩
def aB6(aRc:Int):Option (Int):=
 (bif ((decide (aRc<0))||(decide (61≤aRc))) then
  some 0
 else
  ((chk (decide (0≤aRc))).bind fun _=>
  some (shr .u64 2305843009213693951 aRc)))
theorem aX8:K1 prog vi vu 213 aB6:=fun hm=>be 11 func213 (h:=G)
instance:Ct prog 213 (K1 prog vi vu 213 aB6):=⟨aX8⟩
def aHt(rec1:Int→Int→Int→Option (Int))(vY:Int)(aNy:Int)(aJf:Int):Option (Int):=
 ((fG ((decide (aJf<(if 61<vY then 61 else vY)))==true) 0 (aB6 aJf)).bind fun r4=>
 (bif ((decide (aJf<(if 61<vY then 61 else vY)))&&(decide (aNy<r4))) then
  rec1 vY aNy (IntKind.i64.wrap (aJf+1))
 else
  some aJf))
def tO:Nat→Int→Int→Int→Option (Int)
 |0=>fun _ _ _=>none
 |n+1=>aHt (tO n)
def aCr(h_0:dI)(aXi:Int)(vY:Int):Option (Int):=
 ((aB7 h_0 aXi).bind fun r2=>
 tO bC vY r2 0)
theorem aPx:K3 prog aYc vu vi vi 210 aCr:=by
 intro h_0 aXi vY r hm
 let I1:=((fun m s=> ∃vY aNy aJf,s=⟨25,(aF (aF (aF fa 2 (vi vY)) 7 (vu aNy)) 8 (vi aJf)),⟨bQ,64⟩⟩∧tO m vY aNy aJf=some r):Nat→St→Prop)
 exact be 25 func210 (h:=G)
instance:Ct prog 210 (K3 prog aYc vu vi vi 210 aCr):=⟨aPx⟩
def aDm(rec1:Int→aY→aY→List Int→List dI→Int→Int→Option (aY×Int))(rec2:Int→aY→aY→List Int→Int→List dI→Int→Int→Int→Int→Option (aY×Int))(sR:Int)(s_3:aY)(t6:aY)(rF:List Int)(aQ8:Int)(t26:List dI)(t27:Int)(t28:Int)(t37:Int)(t38:Int):Option (aY×Int):=
 (bif (decide (t38<t37)) then
  ((idx rF (IntKind.i64.wrap ((IntKind.i64.wrap (aQ8*s_3.V))+t38))).bind fun x10=>
  ((idx rF (IntKind.i64.wrap ((IntKind.i64.wrap (aQ8*s_3.V))+t38))).bind fun x12=>
  ((stt rF (IntKind.i64.wrap ((IntKind.i64.wrap (aQ8*s_3.V))+t38)) (aBx .u64 x10 sR)).bind fun l14=>
  rec2 sR s_3 t6 l14 aQ8 t26 t27 t28 t37 (IntKind.i64.wrap (t38+1)))))
 else
  rec1 sR s_3 t6 rF t26 t27 (IntKind.i64.wrap (t28+1)))
def uH(rec1:Int→aY→aY→List Int→List dI→Int→Int→Option (aY×Int)):Nat→Int→aY→aY→List Int→Int→List dI→Int→Int→Int→Int→Option (aY×Int)
 |0=>fun _ _ _ _ _ _ _ _ _ _=>none
 |n+1=>aDm rec1 (uH rec1 n)
def aDl(rec1:Int→aY→aY→List Int→List dI→Int→Int→Option (aY×Int))(sR:Int)(s_3:aY)(t6:aY)(rF:List Int)(t26:List dI)(t27:Int)(t28:Int):Option (aY×Int):=
 (bif (decide (t28<t27)) then
  ((idx t26 t28).bind fun x6=>
  ((aCr x6 sR s_3.V).bind fun r8=>
  uH rec1 bC sR s_3 t6 rF t28 t26 t27 t28 r8 0))
 else
  some ((aY.mk s_3.R s_3.V rF),0))
def qE:Nat→Int→aY→aY→List Int→List dI→Int→Int→Option (aY×Int)
 |0=>fun _ _ _ _ _ _ _=>none
 |n+1=>aDl (qE n)
def wK(s_0:aY)(l_1:List dI)(sR:Int):Option (aY×Int):=
 ((uW s_0).bind fun r2=>
 (bif ((!r2)||((l_1.length:Int) !=s_0.R)) then
  some (s_0,1)
 else
  ((qL s_0.Words).bind fun r4=>
  qE bC sR s_0 (aY.mk 0 0 []) r4 l_1 (l_1.length:Int) 0)))
theorem aSz{s_0:aY}{l_1:List dI}{sR:Int}{r:aY×Int}(hm:wK s_0 l_1 sR=some r):dU prog 204 [.agg [vi s_0.R,vi s_0.V,vl (ci .u64) s_0.Words],vl dX l_1,vu sR] (.tup [.agg [vi r.1.R,vi r.1.V,vl (ci .u64) r.1.Words],vi r.2]):=by
 refine bd 61 func204 ?_;obtain ⟨r2,h1,hm⟩:=bnd hm;refine W ?_;refine cq (aLc h1) ?_;refine W ?_;refine cm hm (fun hm=>?_) fun hm=>?_
 · exact E
 obtain ⟨r4,h3,hm⟩:=bnd hm;refine W ?_;refine aI.callF (id:=130) Zd Z1 bWp (fun H=>(cD ((CFi .u64).sl _ _ _) .nil)) (CFi .u64) Z5 (aKw h3) ?_;refine W ?_;refine lp (fun m s=> ∃sR s_3 t6 rF t26 t27 t28,s=⟨61,(aF (aF (aF (aF (aF (aF (aF fa 2 (vu sR)) 3 (.adr 1 0)) 6 (.adr 2 0)) 8 (.own 3 0 rF.length)) 26 (vl dX t26)) 27 (vi t27)) 28 (vi t28)),⟨(upd (upd (upd bQ 1 (.cells 1 [vi s_3.R,vi s_3.V,vl (ci .u64) s_3.Words] 0)) 2 (.cells 1 [vi t6.R,vi t6.V,vl (ci .u64) t6.Words] 0)) 3 (.cells 1 (rF.flatMap (ci .u64)) 0)),64⟩⟩∧qE m sR s_3 t6 rF t26 t27 t28=some r) ?_ ?_
 · refine ⟨_,?_,sR,s_0,(aY.mk 0 0 []),r4,l_1,(l_1.length:Int),0,rfl,hm⟩;refine St.Le.trans (bA5 1 (ys:=[.v (.int .i64 ((aY.mk 0 0 []).R)),.v (.int .i64 ((aY.mk 0 0 []).V)),.sl (((aY.mk 0 0 []).Words).flatMap (ci .u64)) ((aY.mk 0 0 []).Words).length false]) Z3 (.cons (.data _ (.v _)) (.cons (.data _ (.v _)) (.cons (.nil false) .nil)))) ?_;exact cn (fun j=>bif j==1 then 0 else bif j==2 then 1 else bif j==3 then 130 else 0)
 rintro n1 s ⟨sR,s_3,t6,rF,t26,t27,t28,rfl,hm⟩;refine W ?_;refine cm hm (fun hm=>?_) fun hm=>?_
 ·
  obtain ⟨x6,h5,hm⟩:=bnd hm;obtain ⟨r8,h7,hm⟩:=bnd hm;refine W ?_;refine cq (aPx h7) ?_;refine W ?_;refine lp (fun m s=> ∃sR s_3 t6 rF aQ8 t26 t27 t28 t37 t38,s=⟨61,(aF (aF (aF (aF (aF (aF (aF (aF (aF (aF fa 2 (vu sR)) 3 (.adr 1 0)) 6 (.adr 2 0)) 8 (.own 3 0 rF.length)) 9 (vi aQ8)) 26 (vl dX t26)) 27 (vi t27)) 28 (vi t28)) 37 (vi t37)) 38 (vi t38)),⟨(upd (upd (upd bQ 1 (.cells 1 [vi s_3.R,vi s_3.V,vl (ci .u64) s_3.Words] 0)) 2 (.cells 1 [vi t6.R,vi t6.V,vl (ci .u64) t6.Words] 0)) 3 (.cells 1 (rF.flatMap (ci .u64)) 0)),64⟩⟩∧uH (qE n1) m sR s_3 t6 rF aQ8 t26 t27 t28 t37 t38=some r) (Lr (fun j=>bif j==1 then 1 else bif j==2 then 2 else bif j==3 then 3 else 0)) ?_;rintro n2 s ⟨sR,s_3,t6,rF,aQ8,t26,t27,t28,t37,t38,rfl,hm⟩;refine W ?_;refine cm hm (fun hm=>?_) fun hm=>?_
  · obtain ⟨x10,h9,hm⟩:=bnd hm;have hm:=sb hm h9;obtain ⟨l14,h13,hm⟩:=bnd hm;refine W ?_;have qh13:=cX h13;refine aS h13 ?_;refine W ?_;exact Lr (fun j=>bif j==1 then 1 else bif j==2 then 2 else bif j==3 then 3 else 0)
  refine W ?_;exact Lr (fun j=>bif j==1 then 1 else bif j==2 then 2 else bif j==3 then 3 else 0)
 iterate 5 refine S1 ?_
 refine AWp.seq' ?_;refine AWp.weaken (aX6 (CFi .u64) 8 3 Z1 Z3 Z6) ?_;refine W ?_;refine bU (.agg [vi s_3.R,vi s_3.V,vl (ci .u64) rF]) ?_;exact E
instance:Ct prog 204 (K3 prog oF (vl dX) vu (t2 oF vi) 204 wK):=⟨fun hm=>aSz hm⟩
def aEz(rec1:aY→aY→List dI→List Int→Int→Int→Option (aY))(t6:aY)(s_7:aY)(bLk:List dI)(t27:List Int)(t28:Int)(t29:Int):Option (aY):=
 (bif (decide (t29<t28)) then
  ((idx t27 t29).bind fun x11=>
  ((wK s_7 bLk x11).bind fun ⟨r13,r14⟩=>
  rec1 t6 r13 bLk t27 t28 (IntKind.i64.wrap (t29+1))))
 else
  some s_7)
def wB:Nat→aY→aY→List dI→List Int→Int→Int→Option (aY)
 |0=>fun _ _ _ _ _ _=>none
 |n+1=>aEz (wB n)
def yZ(g_0:aU)(nT:Int)(bSu:List aH):Option (aY):=
 ((yU g_0.Config.N).bind fun r2=>
 ((aG1 g_0.Config.R r2).bind fun ⟨r4,r5⟩=>
 ((uC g_0 nT).bind fun r7=>
 ((aEo bSu).bind fun r9=>
 wB bC (aY.mk 0 0 []) r4 r7 r9 (r9.length:Int) 0))))
theorem aUa:K3 prog fX vi (vl bE) oF 188 yZ:=by
 intro g_0 nT bSu r hm
 let I1:=((fun m s=> ∃t6 s_7 bLk t27 t28 t29,s=⟨42,(aF (aF (aF (aF (aF (aF fa 6 (.adr 1 0)) 7 (.adr 2 0)) 9 (vl dX bLk)) 27 (vl (ci .u64) t27)) 28 (vi t28)) 29 (vi t29)),⟨(upd (upd bQ 1 (.cells 1 [vi t6.R,vi t6.V,vl (ci .u64) t6.Words] 0)) 2 (.cells 1 [vi s_7.R,vi s_7.V,vl (ci .u64) s_7.Words] 0)),64⟩⟩∧wB m t6 s_7 bLk t27 t28 t29=some r):Nat→St→Prop)
 exact be 42 func188 (h:=G)
instance:Ct prog 188 (K3 prog fX vi (vl bE) oF 188 yZ):=⟨aUa⟩
def aC5(aXh:Int):Option (Int×Int×Bool):=
 (bif (decide ((Int.tmod aXh 16777216)≤(IntKind.u64.wrap (Int.tdiv aXh 16777216)))) then
  some (0,0,false)
 else
  some ((IntKind.i64.wrap (IntKind.u64.wrap (Int.tdiv aXh 16777216))),(IntKind.i64.wrap (Int.tmod aXh 16777216)),true))
theorem bEz:K1 prog vu (t3 vi vi vb) 189 aC5:=fun hm=>be 18 func189 (h:=G)
instance:Ct prog 189 (K1 prog vu (t3 vi vi vb) 189 aC5):=⟨bEz⟩
abbrev aF4(rec1:List Int→List Int→Int→Int→Option ((List Int)))(oU:List Int)(t13:List Int)(t14:Int)(t15:Int):Option ((List Int)):=
 rec1 oU t13 t14 (IntKind.i64.wrap (t15+1))
def aF3(rec1:List Int→List Int→Int→Int→Option ((List Int)))(oU:List Int)(t13:List Int)(t14:Int)(t15:Int):Option ((List Int)):=
 (bif (decide (t15<t14)) then
  ((idx t13 t15).bind fun x4=>
  ((aC5 x4).bind fun ⟨r6,r7,r8⟩=>
  (bif r8 then
   ((app oU [x4]).bind fun l10=>
   aF4 rec1 l10 t13 t14 t15)
  else
   aF4 rec1 oU t13 t14 t15)))
 else
  some oU)
def wJ:Nat→List Int→List Int→Int→Int→Option ((List Int))
 |0=>fun _ _ _ _=>none
 |n+1=>aF3 (wJ n)
def zA(s_0:aY):Option ((List Int)):=
 ((uW s_0).bind fun r2=>
 (bif (!r2) then
  some []
 else
  wJ bC [] s_0.Words (s_0.Words.length:Int) 0))
theorem aUd:K1 prog oF (vl (ci .u64)) 187 zA:=by
 intro s_0 r hm
 let I1:=((fun m s=> ∃oU t13 t14 t15,s=⟨32,(aF (aF (aF (aF fa 3 (.own 1 0 oU.length)) 13 (vl (ci .u64) t13)) 14 (vi t14)) 15 (vi t15)),⟨(upd bQ 1 (.cells 1 (oU.flatMap (ci .u64)) 0)),64⟩⟩∧wJ m oU t13 t14 t15=some r):Nat→St→Prop)
 exact be 32 func187 (h:=G)
instance:Ct prog 187 (K1 prog oF (vl (ci .u64)) 187 zA):=⟨aUd⟩
abbrev aDi(rec1:aH→List aH→List Int→Int→Int→Option (aH×Bool))(t6:aH)(aN8:List aH)(t30:List Int)(t31:Int)(t32:Int):Option (aH×Bool):=
 rec1 t6 aN8 t30 t31 (IntKind.i64.wrap (t32+1))
def aDh(rec1:aH→List aH→List Int→Int→Int→Option (aH×Bool))(t6:aH)(aN8:List aH)(t30:List Int)(t31:Int)(t32:Int):Option (aH×Bool):=
 (bif (decide (t32<t31)) then
  ((idx t30 t32).bind fun x10=>
  ((aC5 x10).bind fun ⟨r12,r13,r14⟩=>
  (bif (!r14) then
   aDi rec1 t6 aN8 t30 t31 t32
  else
   ((tR aN8 r12 r13).bind fun ⟨r16,r17⟩=>
   (bif r17 then
    ((idx aN8 r16).bind fun x19=>
    some (x19,true))
   else
    aDi rec1 t6 aN8 t30 t31 t32)))))
 else
  some ((aH.mk 0 0 0),false))
def uD:Nat→aH→List aH→List Int→Int→Int→Option (aH×Bool)
 |0=>fun _ _ _ _ _=>none
 |n+1=>aDh (uD n)
def wF(g_0:aU)(nT:Int)(v_2:Int):Option (aH×Bool):=
 ((rT g_0 nT v_2).bind fun r2=>
 (bif (!r2) then
  some ((aH.mk 0 0 0),false)
 else
  ((yX g_0 nT v_2).bind fun r4=>
  ((yZ g_0 nT r4).bind fun r6=>
  ((zA r6).bind fun r8=>
  uD bC (aH.mk 0 0 0) r4 r8 (r8.length:Int) 0)))))
theorem aSv:K3 prog fX vi vi (t2 aIo vb) 169 wF:=by
 intro g_0 nT v_2 r hm
 let I1:=((fun m s=> ∃t6 aN8 t30 t31 t32,s=⟨58,(aF (aF (aF (aF (aF fa 6 (.adr 1 0)) 8 (vl bE aN8)) 30 (vl (ci .u64) t30)) 31 (vi t31)) 32 (vi t32)),⟨(upd bQ 1 (.cells 1 [vi t6.U,vi t6.V,vi t6.Tier] 0)),64⟩⟩∧uD m t6 aN8 t30 t31 t32=some r):Nat→St→Prop)
 exact be 58 func169 (h:=G)
instance:Ct prog 169 (K3 prog fX vi vi (t2 aIo vb) 169 wF):=⟨aSv⟩
abbrev aC3(rec1:aH→aH→List aH→Int→Int→Option (aH×Bool))(t2:aH)(nZ:aH)(t15:List aH)(t16:Int)(t17:Int):Option (aH×Bool):=
 rec1 t2 nZ t15 t16 (IntKind.i64.wrap (t17+1))
def aC2(rec1:aH→aH→List aH→Int→Int→Option (aH×Bool))(t2:aH)(nZ:aH)(t15:List aH)(t16:Int)(t17:Int):Option (aH×Bool):=
 (bif (decide (t17<t16)) then
  ((idx t15 t17).bind fun x6=>
  ((fG (((decide (nZ.Tier<x6.Tier))==false)&&((x6.Tier==nZ.Tier)==true)) false (zT nZ x6)).bind fun r8=>
  (bif ((decide (nZ.Tier<x6.Tier))||((x6.Tier==nZ.Tier)&&r8)) then
   aC3 rec1 t2 x6 t15 t16 t17
  else
   aC3 rec1 t2 nZ t15 t16 t17)))
 else
  some (nZ,true))
def sO:Nat→aH→aH→List aH→Int→Int→Option (aH×Bool)
 |0=>fun _ _ _ _ _=>none
 |n+1=>aC2 (sO n)
def rH(l_0:List aH):Option (aH×Bool):=
 (bif ((l_0.length:Int)==0) then
  some ((aH.mk 0 0 0),false)
 else
  ((idx l_0 0).bind fun x2=>
  ((slc l_0 1 (l_0.length:Int)).bind fun l4=>
  sO bC (aH.mk 0 0 0) x2 l4 (l4.length:Int) 0)))
theorem aQq:K1 prog (vl bE) (t2 aIo vb) 171 rH:=by
 intro l_0 r hm
 let I1:=((fun m s=> ∃t2 nZ t15 t16 t17,s=⟨41,(aF (aF (aF (aF (aF fa 2 (.adr 1 0)) 4 (.adr 2 0)) 15 (vl bE t15)) 16 (vi t16)) 17 (vi t17)),⟨(upd (upd bQ 1 (.cells 1 [vi t2.U,vi t2.V,vi t2.Tier] 0)) 2 (.cells 1 [vi nZ.U,vi nZ.V,vi nZ.Tier] 0)),64⟩⟩∧sO m t2 nZ t15 t16 t17=some r):Nat→St→Prop)
 exact be 41 func171 (h:=G)
instance:Ct prog 171 (K1 prog (vl bE) (t2 aIo vb) 171 rH):=⟨aQq⟩
def rV(l:List aH):Option (List aH):=app [] l
theorem aM2{r:List aH}(hm:some []=some r):kJ prog 193 [.v (.slice none 0 0)] 3 (r.flatMap bE) r.length:=by
 refine kJ.of_body func193 rfl (dT.fmdat r) ?_;simp only [ntmps193,List.length_cons,List.length_nil,Nat.reduceAdd,Nat.reduceSub,nB];refine sN 64 (pA ?_);refine fs (AWp.seq' (sN 128 (pA ?_)));refine pu rfl (aDa Z1 Z1 (aMg underlying28)) ?_;refine fs (AWp.condT Z1 ?_);refine sN 192 (pA ?_);refine fs (AWp.weaken (aHr 2 900002 3 Z1 Z5) ?_);refine AWp.ret (lA ?_);cases hm;exact aNh (.inr rfl) Tryz.results193 Z1 Z3 Z6
theorem aM3{a:Addr}{c:Nat}{r:List aH}(hm:((app [] []).bind fun l2=>
some l2)=some r):kJ prog 193 [.v (.slice (some a) 0 c)] 3 (r.flatMap bE) r.length:=by
 refine kJ.of_body func193 rfl (dT.fmdat r) ?_;simp only [ntmps193,List.length_cons,List.length_nil,Nat.reduceAdd,Nat.reduceSub,nB];refine sN 64 (pA ?_);refine fs (AWp.seq' (sN 128 (pA ?_)));refine pu rfl (aDa Z1 Z1 (aKh underlying28)) ?_;refine fs (AWp.condF Z1 ?_);refine AWp.skip (aV (sN 192 (hp (id:=128) rfl rfl (qN dT (l:=[]) underlying28 aG3 aO2 Z5 Zd Zd Zd (by simp only [go_sem,Nat.reduceBEq];try rfl) (by kernel_rfl)) ?_)));refine pA ?_;obtain ⟨l2,h1,hm⟩:=bnd hm;refine hp (id:=130) rfl rfl (aEh dT underlying28 underlying28 rfl aZt bBk (by rw [aLh];decide) (by rw [aLh];decide) bBl Zd Zd Z1 Z3 Z6 (aR4 Z1) rfl Z5 h1) ?_;refine pA ?_;refine fs (AWp.ret ?_);cases hm;exact aNh (.inr rfl) Tryz.results193 Z1 Z3 Z6
theorem aM4{x0:aH}{l0:List aH}{r:List aH}(hm:((app [] (x0::l0)).bind fun l2=>
some l2)=some r):kJ prog 193 [.sl ((x0::l0).flatMap bE) (x0::l0).length false] 3 (r.flatMap bE) r.length:=by
 refine kJ.of_body func193 rfl (dT.fmdat r) ?_;simp only [ntmps193,List.length_cons,List.length_nil,Nat.reduceAdd,Nat.reduceSub,nB];refine sN 64 (pA ?_);refine fs (AWp.seq' (sN 128 (pA ?_)));refine pu rfl (aDa Z1 Z1 (aKg underlying28 (by simp))) ?_;refine fs (AWp.condF Z1 ?_);refine AWp.skip (aV (sN 192 (hp (id:=128) rfl rfl (qN dT (l:=[]) underlying28 aG3 aO2 Z5 Zd Zd Zd (by simp only [go_sem,Nat.reduceBEq];try rfl) (by kernel_rfl)) ?_)));refine pA ?_;obtain ⟨l2,h1,hm⟩:=bnd hm;refine hp (id:=130) rfl rfl (aEh dT underlying28 underlying28 rfl aZt bBk (by rw [aLh];decide) (by rw [aLh];decide) bBl Zd Zd Z1 Z3 Z6 (aUr dT Z1 rfl) rfl Z5 h1) ?_;refine pA ?_;refine fs (AWp.ret ?_);cases hm;exact aNh (.inr rfl) Tryz.results193 Z1 Z3 Z6
theorem aNo{l r:List aH}(hm:rV l=some r):kJ prog 193 [.sl (l.flatMap bE) l.length false] 3 (r.flatMap bE) r.length:=by
 cases l with
 |nil=>
  have hr:r=[]:=by unfold rV app at hm;simpa using hm.symm
  subst hr;exact kJ.nil_arg (aM2 (r:=[]) rfl) (fun a c=>aM3 (r:=[]) rfl)
 |cons x0 l0=>
  refine aM4 ?_;show (app [] (x0::l0)).bind _=_;unfold rV at hm;rw [hm];rfl
def aCd(n_0:Int)(l_1:List aH)(u_2:Int)(v_3:Int)(aMd:Int):Option ((List aH)×Int):=
 ((oE n_0 l_1).bind fun r2=>
 ((fG ((!r2)==false) false (mH n_0 u_2)).bind fun r4=>
 ((fG (((!r2)||(!r4))==false) false (mH n_0 v_3)).bind fun r6=>
 ((fG ((((!r2)||(!r4))||(!r6))==false) false (vF aMd)).bind fun r8=>
 (bif ((((!r2)||(!r4))||(!r6))||(!r8)) then
  some (l_1,1)
 else
  ((tR l_1 u_2 v_3).bind fun ⟨r10,r11⟩=>
  (bif (!r11) then
   some (l_1,9)
  else
   ((rV l_1).bind fun r13=>
   ((idx r13 r10).bind fun x15=>
   ((stt r13 r10 (aH.mk x15.U x15.V aMd)).bind fun l17=>
   some (l17,0)))))))))))
theorem bFh{n_0:Int}{l_1:List aH}{u_2:Int}{v_3:Int}{aMd:Int}{r:(List aH)×Int}(hm:aCd n_0 l_1 u_2 v_3 aMd=some r):dU prog 172 [vi n_0,vl bE l_1,vi u_2,vi v_3,vi aMd] (.tup [vl bE r.1,vi r.2]):=by
 refine bd 55 func172 ?_;obtain ⟨r2,h1,hm⟩:=bnd hm;refine W ?_;refine cq (aE6 h1) ?_;obtain ⟨r4,h3,hm⟩:=bnd hm;refine W ?_;refine cg (fun hb=>sI (bK h3 hb)) ?_;obtain ⟨r6,h5,hm⟩:=bnd hm;refine W ?_;refine cg (fun hb=>sI (bK h5 hb)) ?_;obtain ⟨r8,h7,hm⟩:=bnd hm;refine W ?_;refine cg (fun hb=>aLg (bK h7 hb)) ?_;refine W ?_;refine cm hm (fun hm=>?_) fun hm=>?_
 · exact E
 refine W ?_;obtain ⟨⟨r10,r11⟩,h9,hm⟩:=bnd hm;refine cq (aHv h9) ?_;refine W ?_;refine cm hm (fun hm=>?_) fun hm=>?_
 · exact E
 obtain ⟨r13,h12,hm⟩:=bnd hm;refine W ?_;refine aI.callF (id:=257) Zd Z1 bWo (fun H=>(cD (dT.sl _ _ _) .nil)) dT Z5 (aNo h12) ?_;obtain ⟨x15,h14,hm⟩:=bnd hm;obtain ⟨l17,h16,hm⟩:=bnd hm;refine W ?_;have qh16:=cX h16;refine aI.heap0 (id:=325) rfl (bOy dT (off:=2) (y:=x15) (y':=(aH.mk x15.U x15.V aMd)) (cs:=[.v (.int .i64 aMd)]) sz3 Z1 Z1 Z3 rfl h14 rfl Zd Z9 rfl h16) ?_;exact E
instance:Ct prog 172 (K5 prog vi (vl bE) vi vi vi (t2 (vl bE) vi) 172 aCd):=⟨fun hm=>bFh hm⟩
def yS(n_0:Int)(v_1:Int):Option (Bool):=
 some ((decide (0≤v_1))&&(decide (v_1<n_0)))
theorem aGc:K2 prog vi vi vb 190 yS:=fun hm=>be 12 func190 (h:=G)
instance:Ct prog 190 (K2 prog vi vi vb 190 yS):=⟨aGc⟩
attribute [local semireducible] bC
end Go.Proofs.YtkdohhmacfoolaaGreat
