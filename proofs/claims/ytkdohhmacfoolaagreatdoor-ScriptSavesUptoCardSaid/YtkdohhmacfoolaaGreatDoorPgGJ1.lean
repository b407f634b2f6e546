/- Facts. No condition. -/
import Derived.Test.YtkdohhmacfoolaaGreatDoorPgAmE
set_option linter.unusedVariables false
set_option linter.unusedSimpArgs false
set_option maxRecDepth 20000
set_option maxHeartbeats 4000000
namespace Go.Proofs.YtkdohhmacfoolaaGreatDoor
open Go.Proofs.Tryz Go Go.AM
attribute [local irreducible] aY
abbrev bMx:ByteArray:=⟨#[110,101,119,32,51,32,50,32,49,10,118,101,114,116,101,120,32,53,32,35,32,111,110,101,10,10,118,101,114,116,101,120,32,55,10,101,100,103,101,32,53,32,55,10,109,101,109,98,101,114,115,32,55,10,102,111,114,101,115,116,10,115,105,122,101,32,57,10,102,108,121,10,104,97,115,32,53,10,104,97,115,32,53,32,120]⟩
abbrev aIg:ByteArray:=⟨#[111,107,10,111,107,10,111,107,10,111,107,10,53,32,55,10,53,45,55,10,101,114,114,111,114,32,55,10,101,114,114,111,114,32,49,10,101,114,114,111,114,32,49,10,101,114,114,111,114,32,50,10]⟩
structure qJ where
 Used:Bool
 Key:Int
deriving DecidableEq
def vF(e:qJ):List AV:=[.v (.bool e.Used),.v (.int .u64 e.Key)]
@[go_sem] theorem aFy(e:qJ)(r:List AV):vF e++r= .v (.bool e.Used):: .v (.int .u64 e.Key)::r:=rfl
structure aCd where
 Graph:aJ
 Slots:List qJ
deriving DecidableEq
def aIc(e:aCd):List AV:=[.v (.int .i64 e.Graph.Config.N),.v (.int .i64 e.Graph.Config.L),.v (.int .i64 e.Graph.Config.R),.sl (e.Graph.Hashes.flatMap cH) e.Graph.Hashes.length false,.sl (e.Graph.Edges.flatMap aV) e.Graph.Edges.length false,.sl (e.Slots.flatMap vF) e.Slots.length false]
@[go_sem] theorem aFc(e:aCd)(r:List AV):aIc e++r= .v (.int .i64 e.Graph.Config.N):: .v (.int .i64 e.Graph.Config.L):: .v (.int .i64 e.Graph.Config.R):: .sl (e.Graph.Hashes.flatMap cH) e.Graph.Hashes.length false:: .sl (e.Graph.Edges.flatMap aV) e.Graph.Edges.length false:: .sl (e.Slots.flatMap vF) e.Slots.length false::r:=rfl
@[go_sem] theorem bDx(i o:Nat):aI prog 125 (.adr i o) 0=some (.adr i (o+0)):=by kernel_rfl
@[go_sem] theorem bDy(i o:Nat):aI prog 125 (.adr i o) 1=some (.adr i (o+5)):=by kernel_rfl
@[go_sem] theorem bJi(i o:Nat):aI prog 33 (.adr i o) 0=some (.adr i (o+0)):=by kernel_rfl
@[go_sem] theorem bJm(i o:Nat):aI prog 33 (.adr i o) 1=some (.adr i (o+5)):=by kernel_rfl
@[go_sem] theorem bJp(i o:Nat):aI prog 35 (.adr i o) 1=some (.adr i (o+1)):=by kernel_rfl
@[go_sem] theorem bKd(i o:Nat):aI prog 68 (.adr i o) 0=some (.adr i (o+0)):=by kernel_rfl
@[go_sem] theorem bKf(i o:Nat):aI prog 68 (.adr i o) 1=some (.adr i (o+6)):=by kernel_rfl
@[go_sem] theorem bKh(i o:Nat):aI prog 68 (.adr i o) 2=some (.adr i (o+8)):=by kernel_rfl
@[go_sem] theorem bOb(H:aH)(x:AV)(xs:List AV):bT prog H 123 (.ptr (x::xs))=some x:=by kernel_rfl
@[go_sem] theorem bOc(H:aH)(x0 x1 x2 x3 x4 x5:AV)(xs:List AV):bT prog H 125 (.ptr (x0::x1::x2::x3::x4::x5::xs))=some (.agg [x0,x1,x2,x3,x4,x5]):=by kernel_rfl
@[go_sem] theorem bOj(H:aH)(x0 x1:AV)(xs:List AV):bT prog H 223 (.ptr (x0::x1::xs))=some (.agg [x0,x1]):=by kernel_rfl
@[go_sem] theorem bX9(H:aH)(x:AV)(xs:List AV):bT prog H 3 (.ptr (x::xs))=some x:=by kernel_rfl
@[go_sem] theorem bT4(H:aH)(x0 x1 x2 x3 x4:AV)(xs:List AV):bT prog H 30 (.ptr (x0::x1::x2::x3::x4::xs))=some (.agg [x0,x1,x2,x3,x4]):=by kernel_rfl
@[go_sem] theorem bT8(H:aH)(x:AV)(xs:List AV):bT prog H 31 (.ptr (x::xs))=some x:=by kernel_rfl
@[go_sem] theorem bTd(H:aH)(x0 x1 x2 x3 x4 x5:AV)(xs:List AV):bT prog H 33 (.ptr (x0::x1::x2::x3::x4::x5::xs))=some (.agg [x0,x1,x2,x3,x4,x5]):=by kernel_rfl
@[go_sem] theorem bXf(H:aH)(x:AV)(xs:List AV):bT prog H 4 (.ptr (x::xs))=some x:=by kernel_rfl
@[go_sem] theorem bTw(H:aH)(x0 x1 x2 x3 x4 x5 x6 x7 x8:AV)(xs:List AV):bT prog H 68 (.ptr (x0::x1::x2::x3::x4::x5::x6::x7::x8::xs))=some (.agg [x0,x1,x2,x3,x4,x5,x6,x7,x8]):=by kernel_rfl
@[go_sem] theorem bTx(H:aH)(x:AV)(xs:List AV):bT prog H 69 (.ptr (x::xs))=some x:=by kernel_rfl
@[go_sem] theorem bXj(H:aH)(x:AV)(xs:List AV):bT prog H 9 (.ptr (x::xs))=some x:=by kernel_rfl
@[go_sem] theorem bU3(H:aH)(x0 x1:AV)(xs:List AV):bT prog H 96 (.ptr (x0::x1::xs))=some (.agg [x0,x1]):=by kernel_rfl
def aIw(rec1:Int→List (List ByteArray)→Int→Int→Option (Int))(rec2:Int→List ByteArray→List (List ByteArray)→Int→Int→List ByteArray→Int→Int→Option (Int))(n_5:Int)(l_7:List ByteArray)(t16:List (List ByteArray))(t17:Int)(t18:Int)(t25:List ByteArray)(t26:Int)(t27:Int):Option (Int):=
 (bif (decide (t27<t26)) then
  ((idx t25 t27).bind fun x6=>
  ((eJ (((decide (1000<(x6.size:Int)))==false)&&((decide (0<t27))==true)) ⟨#[]⟩ (idx l_7 0)).bind fun x8=>
  (bif ((decide (1000<(x6.size:Int)))||(((decide (0<t27))&&(decide (x8=⟨#[110,101,119]⟩)))&&(decide (1<(x6.size:Int))))) then
   some (-1)
  else
   rec2 n_5 l_7 t16 t17 t18 t25 t26 (IntKind.i64.wrap (t27+1)))))
 else
  rec1 n_5 t16 t17 (IntKind.i64.wrap (t18+1)))
def aBe(rec1:Int→List (List ByteArray)→Int→Int→Option (Int)):Nat→Int→List ByteArray→List (List ByteArray)→Int→Int→List ByteArray→Int→Int→Option (Int)
 |0=>fun _ _ _ _ _ _ _ _=>none
 |n+1=>aIw rec1 (aBe rec1 n)
def aIv(rec1:Int→List (List ByteArray)→Int→Int→Option (Int))(n_5:Int)(t16:List (List ByteArray))(t17:Int)(t18:Int):Option (Int):=
 (bif (decide (t18<t17)) then
  ((idx t16 t18).bind fun x4=>
  (bif (decide (6<(x4.length:Int))) then
   some (-1)
  else
   aBe rec1 aY n_5 x4 t16 t17 t18 x4 (x4.length:Int) 0))
 else
  some n_5)
def mI:Nat→Int→List (List ByteArray)→Int→Int→Option (Int)
 |0=>fun _ _ _ _=>none
 |n+1=>aIv (mI n)
def sV(aKb:List (List ByteArray))(aSn:Int):Option (Int):=
 ((slc aKb 0 (if aSn<(aKb.length:Int) then aSn else (aKb.length:Int))).bind fun l2=>
 mI aY (if aSn<(aKb.length:Int) then aSn else (aKb.length:Int)) l2 (l2.length:Int) 0)
theorem aLn:K2 prog (vl (csl kD)) vi vi 26 sV:=by
 intro aKb aSn r hm
 let I1:=((fun m s=> ∃n_5 t16 t17 t18,s=⟨53,(aF (aF (aF (aF fa 5 (vi n_5)) 16 (.sl (t16.flatMap (csl kD)) t16.length false)) 17 (vi t17)) 18 (vi t18)),⟨aZ,64⟩⟩∧mI m n_5 t16 t17 t18=some r):Nat→St→Prop)
 let I2:=fun (n1:Nat)=>((fun m s=> ∃n_5 l_7 t16 t17 t18 t25 t26 t27,s=⟨53,(aF (aF (aF (aF (aF (aF (aF (aF fa 5 (vi n_5)) 7 (vl kD l_7)) 16 (.sl (t16.flatMap (csl kD)) t16.length false)) 17 (vi t17)) 18 (vi t18)) 25 (vl kD t25)) 26 (vi t26)) 27 (vi t27)),⟨aZ,64⟩⟩∧aBe (mI n1) m n_5 l_7 t16 t17 t18 t25 t26 t27=some r):Nat→St→Prop)
 exact be 53 func26 (h:=G)
instance:Ct prog 26 (K2 prog (vl (csl kD)) vi vi 26 sV):=⟨aLn⟩
def uL:Option (Bool):=
 ((yL bMx [1,2,3,4]).bind fun r2=>
 ((eJ ((decide (r2=aIg))==true) ⟨#[]⟩ (yL ⟨#[115,105,122,101,32,53,10,88]⟩ [])).bind fun r4=>
 ((eJ (((decide (r2=aIg))&&(decide (r4=⟨#[101,114,114,111,114,32,50,32,97,116,32,55,10]⟩)))==true) ⟨#[]⟩ (yL ⟨#[115,105,122,101,32,53]⟩ [])).bind fun r6=>
 ((eJ ((((decide (r2=aIg))&&(decide (r4=⟨#[101,114,114,111,114,32,50,32,97,116,32,55,10]⟩)))&&(decide (r6=⟨#[101,114,114,111,114,32,51,10]⟩)))==true) ⟨#[]⟩ (bY GA.nil)).bind fun r8=>
 ((eJ (((((decide (r2=aIg))&&(decide (r4=⟨#[101,114,114,111,114,32,50,32,97,116,32,55,10]⟩)))&&(decide (r6=⟨#[101,114,114,111,114,32,51,10]⟩)))&&(decide (r8=⟨#[]⟩)))==true) ⟨#[]⟩ (bY (GA.b 4 true))).bind fun r10=>
 some (((((decide (r2=aIg))&&(decide (r4=⟨#[101,114,114,111,114,32,50,32,97,116,32,55,10]⟩)))&&(decide (r6=⟨#[101,114,114,111,114,32,51,10]⟩)))&&(decide (r8=⟨#[]⟩)))&&(decide (r10=⟨#[121,101,115]⟩))))))))
theorem aCm{r:Bool}(hm:uL=some r):cE prog 27 [] (vb r):=by
 refine bd 23 func27 ?_;refine W ?_;refine aL (CFi .u64) [1,2,3,4] ?_;obtain ⟨r2,h1,hm⟩:=bnd hm;refine aR.callB (r:= .v (.string r2)) Zd Z1 cIb (.cons (ltd fun H=>(td Z1 (.v _))) (.cons (lto (CFi .u64) Z1 Z3 Z6) aTu.nil)) bQ1 (aEz h1) ?_;obtain ⟨r4,h3,hm⟩:=bnd hm;refine W ?_;refine cg (fun hb=>aEz (kF h3 hb)) ?_;obtain ⟨r6,h5,hm⟩:=bnd hm;refine W ?_;refine cg (fun hb=>aEz (kF h5 hb)) ?_;obtain ⟨r8,h7,hm⟩:=bnd hm;refine W ?_;refine cg (fun hb=>aCw (kF h7 hb)) ?_;obtain ⟨r10,h9,hm⟩:=bnd hm;refine W ?_;refine cg (fun hb=>aCw (kF h9 hb)) ?_;exact E
instance:Ct prog 27 (K0 prog vb 27 uL):=⟨fun hm=>aCm hm⟩
def aNf:Option ((List ByteArray)):=
 some [⟨#[110,101,119]⟩,⟨#[112,108,97,110]⟩,⟨#[118,101,114,116,101,120]⟩,⟨#[100,114,111,112]⟩,⟨#[101,100,103,101]⟩,⟨#[99,117,116]⟩,⟨#[104,97,115]⟩,⟨#[100,101,103,114,101,101]⟩,⟨#[110,101,97,114]⟩,⟨#[99,111,110,110,101,99,116,101,100]⟩,⟨#[115,105,122,101]⟩,⟨#[99,111,117,110,116]⟩,⟨#[109,101,109,98,101,114,115]⟩,⟨#[102,111,114,101,115,116]⟩,⟨#[97,117,100,105,116]⟩,⟨#[115,97,118,101]⟩,⟨#[114,101,115,116,111,114,101]⟩]
def aHp(rec1:ByteArray→List ByteArray→Int→Option (Int))(dF:ByteArray)(l_3:List ByteArray)(i_4:Int):Option (Int):=
 (bif (decide (i_4<(l_3.length:Int))) then
  ((idx l_3 i_4).bind fun x4=>
  (bif (decide (x4=dF)) then
   some i_4
  else
   rec1 dF l_3 (IntKind.i64.wrap (i_4+1))))
 else
  some (-1))
def aCs:Nat→ByteArray→List ByteArray→Int→Option (Int)
 |0=>fun _ _ _=>none
 |n+1=>aHp (aCs n)
def tF(dF:ByteArray):Option (Int):=
 ((aNf).bind fun r2=>
 aCs aY dF r2 0)
abbrev mT(rec2:aG→aG→List (List ByteArray)→Int→Int→Option (Bool))(s_9:aG)(aAa:aG)(t91:List (List ByteArray))(t92:Int)(t93:Int):Option (Bool):=
 rec2 s_9 aAa t91 t92 (IntKind.i64.wrap (t93+1))
def aD8(rec2:aG→aG→List (List ByteArray)→Int→Int→Option (Bool))(s_9:aG)(aAa:aG)(t91:List (List ByteArray))(t92:Int)(t93:Int):Option (Bool):=
 (bif (decide (t93<t92)) then
  ((idx t91 t93).bind fun x28=>
  ((eJ ((decide (0<(x28.length:Int)))==true) ⟨#[]⟩ (idx x28 0)).bind fun x30=>
  ((eJ (((decide (0<(x28.length:Int)))==true)&&((decide (x30=⟨#[110,101,119]⟩))==false)) ⟨#[]⟩ (idx x28 0)).bind fun x32=>
  (bif ((decide (0<(x28.length:Int)))&&((decide (x30=⟨#[110,101,119]⟩))||(decide (x32=⟨#[112,108,97,110]⟩)))) then
   mT rec2 s_9 aAa t91 t92 t93
  else
   ((bP s_9 x28).bind fun ⟨r34,r35⟩=>
   ((bP aAa x28).bind fun ⟨r37,r38⟩=>
   (bif (!decide (r35=r38)) then
    some false
   else
    mT rec2 r34 r37 t91 t92 t93)))))))
 else
  ((uL).bind fun r40=>
  some r40))
def lN:Nat→aG→aG→List (List ByteArray)→Int→Int→Option (Bool)
 |0=>fun _ _ _ _ _=>none
 |n+1=>aD8 (lN n)
def aD7(rec1:List (List ByteArray)→Int→aG→List (List ByteArray)→Int→Int→Option (Bool))(b_1:List (List ByteArray))(m_8:Int)(s_9:aG)(t43:List (List ByteArray))(t44:Int)(t45:Int):Option (Bool):=
 (bif (decide (t45<t44)) then
  ((idx t43 t45).bind fun x10=>
  ((bP s_9 x10).bind fun ⟨r12,r13⟩=>
  rec1 b_1 m_8 r12 t43 t44 (IntKind.i64.wrap (t45+1))))
 else
  ((bP s_9 [⟨#[115,97,118,101]⟩]).bind fun ⟨r15,r16⟩=>
  (bif (!s_9.On) then
   ((eJ ((decide (r16=⟨#[101,114,114,111,114,32,51]⟩))==true) false (uL)).bind fun r18=>
   some ((decide (r16=⟨#[101,114,114,111,114,32,51]⟩))&&r18))
  else
   ((bP (aG.mk (aC.mk (aJ.mk (aX.mk 0 0 0) [] []) []) (bC.mk [1,2] 0) false) [⟨#[110,101,119]⟩,⟨#[49]⟩,⟨#[49]⟩,⟨#[49]⟩]).bind fun ⟨r20,r21⟩=>
   (bif (!decide (r21=⟨#[111,107]⟩)) then
    some false
   else
    ((bP r20 [⟨#[114,101,115,116,111,114,101]⟩,r16]).bind fun ⟨r23,r24⟩=>
    (bif (!decide (r24=⟨#[111,107]⟩)) then
     some false
    else
     ((slc b_1 0 m_8).bind fun l26=>
     lN aY s_9 r23 l26 (l26.length:Int) 0))))))))
def sO:Nat→List (List ByteArray)→Int→aG→List (List ByteArray)→Int→Int→Option (Bool)
 |0=>fun _ _ _ _ _ _=>none
 |n+1=>aD7 (sO n)
def vJ(a_0:List (List ByteArray))(b_1:List (List ByteArray))(lM:List Int):Option (Bool):=
 ((sV a_0 15).bind fun r2=>
 ((sV b_1 10).bind fun r4=>
 (bif (((decide (r2<0))||(decide (r4<0)))||(decide (60<(lM.length:Int)))) then
  ((uL).bind fun r6=>
  some r6)
 else
  ((slc a_0 0 r2).bind fun l8=>
  sO aY b_1 r4 (aG.mk (aC.mk (aJ.mk (aX.mk 0 0 0) [] []) []) (bC.mk lM 0) false) l8 (l8.length:Int) 0))))
theorem aKq{a_0:List (List ByteArray)}{b_1:List (List ByteArray)}{lM:List Int}{r:Bool}(hm:vJ a_0 b_1 lM=some r):cE prog 6 [.sl (a_0.flatMap (csl kD)) a_0.length false,.sl (b_1.flatMap (csl kD)) b_1.length false,vl (ci .u64) lM] (vb r):=by
 refine bd 131 func6 ?_;obtain ⟨r2,h1,hm⟩:=bnd hm;refine W ?_;refine cq (aLn h1) ?_;obtain ⟨r4,h3,hm⟩:=bnd hm;refine W ?_;refine cq (aLn h3) ?_;refine W ?_;refine cm hm (fun hm=>?_) fun hm=>?_
 · obtain ⟨r6,h5,hm⟩:=bnd hm;refine W ?_;refine cq (aCm h5) ?_;exact E
 refine W ?_;refine bU (.agg [vl (ci .u64) lM,vi 0]) ?_;refine bU (.agg [vi 0,vi 0,vi 0,.v (.slice none 0 0),.v (.slice none 0 0),.v (.slice none 0 0),vl (ci .u64) lM,vi 0,vb false]) ?_;obtain ⟨l8,h7,hm⟩:=bnd hm;refine W ?_;refine lp (fun m s=> ∃b_1 m_8 s_9 t43 t44 t45,s=⟨131,(aF (aF (aF (aF (aF (aF fa 1 (.sl (b_1.flatMap (csl kD)) b_1.length false)) 8 (vi m_8)) 9 (.adr 1 0)) 43 (.sl (t43.flatMap (csl kD)) t43.length false)) 44 (vi t44)) 45 (vi t45)),⟨(upd aZ 1 (.cells 1 [vi s_9.State.Graph.Config.N,vi s_9.State.Graph.Config.L,vi s_9.State.Graph.Config.R,vl cH s_9.State.Graph.Hashes,vl aV s_9.State.Graph.Edges,vl aW s_9.State.Slots,vl (ci .u64) s_9.Words.List,vi s_9.Words.At,vb s_9.On] 0)),64⟩⟩∧sO m b_1 m_8 s_9 t43 t44 t45=some r) ?_ ?_
 · refine ⟨_,?_,b_1,r4,(aG.mk (aC.mk (aJ.mk (aX.mk 0 0 0) [] []) []) (bC.mk lM 0) false),l8,(l8.length:Int),0,rfl,hm⟩;refine St.Le.trans (bOq 43 (.sl (l8.flatMap (csl kD)) l8.length false) (fun H=>(tdf Z1 ((CFl CFs).sl _ _ _)))) ?_;refine St.Le.trans (aSg 195 (ys:=[.v (.int .i64 (((((aG.mk (aC.mk (aJ.mk (aX.mk 0 0 0) [] []) []) (bC.mk lM 0) false).State).Graph).Config).N)),.v (.int .i64 (((((aG.mk (aC.mk (aJ.mk (aX.mk 0 0 0) [] []) []) (bC.mk lM 0) false).State).Graph).Config).L)),.v (.int .i64 (((((aG.mk (aC.mk (aJ.mk (aX.mk 0 0 0) [] []) []) (bC.mk lM 0) false).State).Graph).Config).R)),.sl (((((aG.mk (aC.mk (aJ.mk (aX.mk 0 0 0) [] []) []) (bC.mk lM 0) false).State).Graph).Hashes).flatMap cH) ((((aG.mk (aC.mk (aJ.mk (aX.mk 0 0 0) [] []) []) (bC.mk lM 0) false).State).Graph).Hashes).length false,.sl (((((aG.mk (aC.mk (aJ.mk (aX.mk 0 0 0) [] []) []) (bC.mk lM 0) false).State).Graph).Edges).flatMap aV) ((((aG.mk (aC.mk (aJ.mk (aX.mk 0 0 0) [] []) []) (bC.mk lM 0) false).State).Graph).Edges).length false,.sl ((((aG.mk (aC.mk (aJ.mk (aX.mk 0 0 0) [] []) []) (bC.mk lM 0) false).State).Slots).flatMap aW) (((aG.mk (aC.mk (aJ.mk (aX.mk 0 0 0) [] []) []) (bC.mk lM 0) false).State).Slots).length false,.sl ((((aG.mk (aC.mk (aJ.mk (aX.mk 0 0 0) [] []) []) (bC.mk lM 0) false).Words).List).flatMap (ci .u64)) (((aG.mk (aC.mk (aJ.mk (aX.mk 0 0 0) [] []) []) (bC.mk lM 0) false).Words).List).length false,.v (.int .i64 (((aG.mk (aC.mk (aJ.mk (aX.mk 0 0 0) [] []) []) (bC.mk lM 0) false).Words).At)),.v (.bool ((aG.mk (aC.mk (aJ.mk (aX.mk 0 0 0) [] []) []) (bC.mk lM 0) false).On))]) Z3 (.cons (.data _ (.v _)) (.cons (.data _ (.v _)) (.cons (.data _ (.v _)) (.cons (.nil false) (.cons (.nil false) (.cons (.nil false) (.cons (.data _ ((CFi .u64).sl _ _ _)) (.cons (.data _ (.v _)) (.cons (.data _ (.v _)) .nil)))))))))) ?_;exact cn (fun j=>bif j==1 then 195 else 0)
 rintro n1 s ⟨b_1,m_8,s_9,t43,t44,t45,rfl,hm⟩;refine W ?_;refine cm hm (fun hm=>?_) fun hm=>?_
 · obtain ⟨x10,h9,hm⟩:=bnd hm;refine W ?_;obtain ⟨⟨r12,r13⟩,h11,hm⟩:=bnd hm;refine cq (nU h11) ?_;refine W ?_;exact Lr (fun j=>bif j==1 then 1 else 0)
 refine W ?_;refine aL CFs [⟨#[115,97,118,101]⟩] ?_;obtain ⟨⟨r15,r16⟩,h14,hm⟩:=bnd hm;refine aR.callL1 (r:= .tup [.agg [.v (.int .i64 r15.State.Graph.Config.N),.v (.int .i64 r15.State.Graph.Config.L),.v (.int .i64 r15.State.Graph.Config.R),.sl (r15.State.Graph.Hashes.flatMap cH) r15.State.Graph.Hashes.length false,.sl (r15.State.Graph.Edges.flatMap aV) r15.State.Graph.Edges.length false,.sl (r15.State.Slots.flatMap aW) r15.State.Slots.length false,.sl (r15.Words.List.flatMap (ci .u64)) r15.Words.List.length false,.v (.int .i64 r15.Words.At),.v (.bool r15.On)],.v (.string r16)]) (id:=129) Zd Z1 bWu Z3 (cD (.agg _ (aAb.dat _)) (.cons (tdl CFs Z1 Z3 (by simp) Z6) .nil)) (nU h14) ?_;refine W ?_;refine cm hm (fun hm=>?_) fun hm=>?_
 · obtain ⟨r18,h17,hm⟩:=bnd hm;refine W ?_;refine cg (fun hb=>aCm (kF h17 hb)) ?_;exact E
 iterate 3 refine S1 ?_
 refine aR.pop Zd (aEu (ps:=[(0,.v (.int .u64 1)),(1,.v (.int .u64 2))]) (by simp only [go_sem,Nat.reduceBEq];try rfl) (aBb (.v _) (aBb (.v _) aR9))) (aNb (CFi .u64) (l:=[1,2]) (xs:=[.v (.int .u64 1),.v (.int .u64 2)]) underlying24 aM8 bQs Zd Zd Zd (ps:=[(0,.v (.int .u64 1)),(1,.v (.int .u64 2))]) (by simp only [go_sem,Nat.reduceBEq];try rfl) (by kernel_rfl) (fun H=>(.cons (.data _ (.v _)) (.cons (.data _ (.v _)) .nil)))) rfl ?_;refine bU (.agg [.sl (([1,2]).flatMap (ci .u64)) ([1,2]).length false,vi 0]) ?_;refine bU (.agg [vi 0,vi 0,vi 0,.v (.slice none 0 0),.v (.slice none 0 0),.v (.slice none 0 0),.sl (([1,2]).flatMap (ci .u64)) ([1,2]).length false,vi 0,vb false]) ?_;refine aL CFs [⟨#[110,101,119]⟩,⟨#[49]⟩,⟨#[49]⟩,⟨#[49]⟩] ?_;obtain ⟨⟨r20,r21⟩,h19,hm⟩:=bnd hm;refine aR.callL1 (r:= .tup [.agg [.v (.int .i64 r20.State.Graph.Config.N),.v (.int .i64 r20.State.Graph.Config.L),.v (.int .i64 r20.State.Graph.Config.R),.sl (r20.State.Graph.Hashes.flatMap cH) r20.State.Graph.Hashes.length false,.sl (r20.State.Graph.Edges.flatMap aV) r20.State.Graph.Edges.length false,.sl (r20.State.Slots.flatMap aW) r20.State.Slots.length false,.sl (r20.Words.List.flatMap (ci .u64)) r20.Words.List.length false,.v (.int .i64 r20.Words.At),.v (.bool r20.On)],.v (.string r21)]) (id:=259) Zd Z1 bWu Z3 (.cons (tda Z1 (.cons (.data _ (.v _)) (.cons (.data _ (.v _)) (.cons (.data _ (.v _)) (.cons (.nil false) (.cons (.nil false) (.cons (.nil false) (.cons (.data _ ((CFi .u64).sl _ _ _)) (.cons (.data _ (.v _)) (.cons (.data _ (.v _)) .nil)))))))))) (.cons (tdl CFs Z1 Z3 (by simp) Z6) .nil)) (nU h19) ?_;refine W ?_;refine cm hm (fun hm=>?_) fun hm=>?_
 · exact E
 refine W ?_;refine aL CFs [⟨#[114,101,115,116,111,114,101]⟩,r16] ?_;obtain ⟨⟨r23,r24⟩,h22,hm⟩:=bnd hm;refine aR.callL1 (r:= .tup [.agg [.v (.int .i64 r23.State.Graph.Config.N),.v (.int .i64 r23.State.Graph.Config.L),.v (.int .i64 r23.State.Graph.Config.R),.sl (r23.State.Graph.Hashes.flatMap cH) r23.State.Graph.Hashes.length false,.sl (r23.State.Graph.Edges.flatMap aV) r23.State.Graph.Edges.length false,.sl (r23.State.Slots.flatMap aW) r23.State.Slots.length false,.sl (r23.Words.List.flatMap (ci .u64)) r23.Words.List.length false,.v (.int .i64 r23.Words.At),.v (.bool r23.On)],.v (.string r24)]) (id:=386) Zd Z1 bWu Z3 (cD (.agg _ (aAb.dat _)) (.cons (tdl CFs Z1 Z3 (by simp) Z6) .nil)) (nU h22) ?_;refine W ?_;refine cm hm (fun hm=>?_) fun hm=>?_
 · exact E
 obtain ⟨l26,h25,hm⟩:=bnd hm;refine W ?_;refine lp (fun m s=> ∃s_9 aAa t91 t92 t93,s=⟨131,(aF (aF (aF (aF (aF fa 9 (.adr 1 0)) 14 (.adr 2 0)) 91 (.sl (t91.flatMap (csl kD)) t91.length false)) 92 (vi t92)) 93 (vi t93)),⟨(upd (upd aZ 1 (.cells 1 [vi s_9.State.Graph.Config.N,vi s_9.State.Graph.Config.L,vi s_9.State.Graph.Config.R,vl cH s_9.State.Graph.Hashes,vl aV s_9.State.Graph.Edges,vl aW s_9.State.Slots,vl (ci .u64) s_9.Words.List,vi s_9.Words.At,vb s_9.On] 0)) 2 (.cells 1 [vi aAa.State.Graph.Config.N,vi aAa.State.Graph.Config.L,vi aAa.State.Graph.Config.R,vl cH aAa.State.Graph.Hashes,vl aV aAa.State.Graph.Edges,vl aW aAa.State.Slots,vl (ci .u64) aAa.Words.List,vi aAa.Words.At,vb aAa.On] 0)),64⟩⟩∧lN m s_9 aAa t91 t92 t93=some r) ?_ ?_
 · refine ⟨_,?_,s_9,r23,l26,(l26.length:Int),0,rfl,hm⟩;refine St.Le.trans (bOq 91 (.sl (l26.flatMap (csl kD)) l26.length false) (fun H=>(tdf Z1 ((CFl CFs).sl _ _ _)))) ?_;exact cn (fun j=>bif j==1 then 1 else bif j==2 then 264 else 0)
 rintro n2 s ⟨s_9,aAa,t91,t92,t93,rfl,hm⟩;refine W ?_;refine cm hm (fun hm=>?_) fun hm=>?_
 ·
  refine V ?_;refine AWp.seqJ (fun s=> ∃s_9 aAa t91 t92 t93,s=⟨131,(aF (aF (aF (aF (aF fa 9 (.adr 1 0)) 14 (.adr 2 0)) 91 (.sl (t91.flatMap (csl kD)) t91.length false)) 92 (vi t92)) 93 (vi t93)),⟨(upd (upd aZ 1 (.cells 1 [vi s_9.State.Graph.Config.N,vi s_9.State.Graph.Config.L,vi s_9.State.Graph.Config.R,vl cH s_9.State.Graph.Hashes,vl aV s_9.State.Graph.Edges,vl aW s_9.State.Slots,vl (ci .u64) s_9.Words.List,vi s_9.Words.At,vb s_9.On] 0)) 2 (.cells 1 [vi aAa.State.Graph.Config.N,vi aAa.State.Graph.Config.L,vi aAa.State.Graph.Config.R,vl cH aAa.State.Graph.Hashes,vl aV aAa.State.Graph.Edges,vl aW aAa.State.Slots,vl (ci .u64) aAa.Words.List,vi aAa.Words.At,vb aAa.On] 0)),64⟩⟩∧mT (lN n2) s_9 aAa t91 t92 t93=some r) ?_ ?_
  ·
   obtain ⟨x28,h27,hm⟩:=bnd hm;obtain ⟨x30,h29,hm⟩:=bnd hm;obtain ⟨x32,h31,hm⟩:=bnd hm;refine W ?_;refine cm hm (fun hm=>?_) fun hm=>?_
   · refine W ?_;exact Lr (fun j=>bif j==1 then 1 else bif j==2 then 2 else 0)
   refine W ?_;obtain ⟨⟨r34,r35⟩,h33,hm⟩:=bnd hm;refine cq (nU h33) ?_;refine W ?_;obtain ⟨⟨r37,r38⟩,h36,hm⟩:=bnd hm;refine cq (nU h36) ?_;refine W ?_;refine cm hm (fun hm=>?_) fun hm=>?_
   · exact E
   refine W ?_;refine AWp.regV [(9,1),(14,2),(18,262),(20,326)] 64 mix (by kernel_rfl) (by kernel_rfl) (IV.cons (off:=0) Z1 (IV.cons (off:=0) Z1 (IV.cons (off:=0) Z1 (IV.cons (off:=0) Z1 IV.nil)))) (N':=512) rfl ?_;refine W ?_;exact Lr (fun j=>bif j==1 then 1 else bif j==2 then 2 else 0)
  rintro s ⟨s_9,aAa,t91,t92,t93,rfl,hm⟩;refine W ?_;exact Lr (fun j=>bif j==1 then 1 else bif j==2 then 2 else 0)
 obtain ⟨r40,h39,hm⟩:=bnd hm;refine W ?_;refine cq (aCm h39) ?_;exact E
instance:Ct prog 6 (K3 prog (vl (csl kD)) (vl (csl kD)) (vl (ci .u64)) vb 6 vJ):=⟨fun hm=>aKq hm⟩
attribute [local semireducible] aY
end Go.Proofs.YtkdohhmacfoolaaGreatDoor
