/- Facts. No condition. -/
import Derived.Test.YtkdohhmacfoolaaGreatDoorPeAmE
set_option linter.unusedVariables false
set_option linter.unusedSimpArgs false
set_option maxRecDepth 20000
set_option maxHeartbeats 4000000
namespace Go.Proofs.YtkdohhmacfoolaaGreatDoor
open Go.Proofs.Tryz Go Go.AM
attribute [local irreducible] aW
abbrev bNk:ByteArray:=⟨#[110,101,119,32,51,32,50,32,49,10,118,101,114,116,101,120,32,53,32,35,32,111,110,101,10,10,118,101,114,116,101,120,32,55,10,101,100,103,101,32,53,32,55,10,109,101,109,98,101,114,115,32,55,10,102,111,114,101,115,116,10,115,105,122,101,32,57,10,102,108,121,10,104,97,115,32,53,10,104,97,115,32,53,32,120]⟩
abbrev aIr:ByteArray:=⟨#[111,107,10,111,107,10,111,107,10,111,107,10,53,32,55,10,53,45,55,10,101,114,114,111,114,32,55,10,101,114,114,111,114,32,49,10,101,114,114,111,114,32,49,10,101,114,114,111,114,32,50,10]⟩
structure bE where
 Used:Bool
 Key:Int
deriving DecidableEq
def cN(e:bE):List AV:=[.v (.bool e.Used),.v (.int .u64 e.Key)]
theorem lN:CF cN 2:=⟨fun _=>rfl,fun a x hx=>by
 simp only [cN,List.mem_cons,List.not_mem_nil,or_false] at hx;rcases hx with rfl|rfl
 · exact (.v _)
 · exact (.v _),fun _=>rfl⟩
instance:CC cN 2:=⟨lN⟩
@[go_sem] theorem aG2(e:bE)(r:List AV):cN e++r= .v (.bool e.Used):: .v (.int .u64 e.Key)::r:=rfl
structure jD where
 Graph:aJ
 Slots:List bE
deriving DecidableEq
def nS(e:jD):List AV:=[.v (.int .i64 e.Graph.Config.N),.v (.int .i64 e.Graph.Config.L),.v (.int .i64 e.Graph.Config.R),.sl (e.Graph.Hashes.flatMap cL) e.Graph.Hashes.length false,.sl (e.Graph.Edges.flatMap aV) e.Graph.Edges.length false,.sl (e.Slots.flatMap cN) e.Slots.length false]
theorem aIf:CF nS 6:=⟨fun _=>rfl,fun a x hx=>by
 simp only [nS,List.mem_cons,List.not_mem_nil,or_false] at hx;rcases hx with rfl|rfl|rfl|rfl|rfl|rfl
 · exact (.v _)
 · exact (.v _)
 · exact (.v _)
 · exact (jQ.sl _ _ _)
 · exact (cI.sl _ _ _)
 · exact (lN.sl _ _ _),fun _=>rfl⟩
instance:CC nS 6:=⟨aIf⟩
abbrev jY(e:jD):AV:= .agg [.v (.int .i64 e.Graph.Config.N),vi e.Graph.Config.L,vi e.Graph.Config.R,vl cL e.Graph.Hashes,vl aV e.Graph.Edges,vl cN e.Slots]
@[go_sem] theorem aFh(e:jD)(r:List AV):nS e++r= .v (.int .i64 e.Graph.Config.N):: .v (.int .i64 e.Graph.Config.L):: .v (.int .i64 e.Graph.Config.R):: .sl (e.Graph.Hashes.flatMap cL) e.Graph.Hashes.length false:: .sl (e.Graph.Edges.flatMap aV) e.Graph.Edges.length false:: .sl (e.Slots.flatMap cN) e.Slots.length false::r:=rfl
@[go_sem] theorem bEi(i o:Nat):aH prog 125 (.adr i o) 0=some (.adr i (o+0)):=by kernel_rfl
@[go_sem] theorem bEj(i o:Nat):aH prog 125 (.adr i o) 1=some (.adr i (o+5)):=by kernel_rfl
@[go_sem] theorem bK3(i o:Nat):aH prog 33 (.adr i o) 0=some (.adr i (o+0)):=by kernel_rfl
@[go_sem] theorem bK7(i o:Nat):aH prog 33 (.adr i o) 1=some (.adr i (o+5)):=by kernel_rfl
@[go_sem] theorem bKa(i o:Nat):aH prog 35 (.adr i o) 1=some (.adr i (o+1)):=by kernel_rfl
@[go_sem] theorem bKy(i o:Nat):aH prog 68 (.adr i o) 0=some (.adr i (o+0)):=by kernel_rfl
@[go_sem] theorem bL0(i o:Nat):aH prog 68 (.adr i o) 1=some (.adr i (o+6)):=by kernel_rfl
@[go_sem] theorem bL2(i o:Nat):aH prog 68 (.adr i o) 2=some (.adr i (o+8)):=by kernel_rfl
@[go_sem] theorem bP0(H:aG)(x:AV)(xs:List AV):bT prog H 123 (.ptr (x::xs))=some x:=by kernel_rfl
@[go_sem] theorem bP1(H:aG)(x0 x1 x2 x3 x4 x5:AV)(xs:List AV):bT prog H 125 (.ptr (x0::x1::x2::x3::x4::x5::xs))=some (.agg [x0,x1,x2,x3,x4,x5]):=by kernel_rfl
@[go_sem] theorem bP8(H:aG)(x0 x1:AV)(xs:List AV):bT prog H 223 (.ptr (x0::x1::xs))=some (.agg [x0,x1]):=by kernel_rfl
@[go_sem] theorem bXw(H:aG)(x:AV)(xs:List AV):bT prog H 3 (.ptr (x::xs))=some x:=by kernel_rfl
@[go_sem] theorem bTs(H:aG)(x0 x1 x2 x3 x4:AV)(xs:List AV):bT prog H 30 (.ptr (x0::x1::x2::x3::x4::xs))=some (.agg [x0,x1,x2,x3,x4]):=by kernel_rfl
@[go_sem] theorem bTw(H:aG)(x:AV)(xs:List AV):bT prog H 31 (.ptr (x::xs))=some x:=by kernel_rfl
@[go_sem] theorem bU1(H:aG)(x0 x1 x2 x3 x4 x5:AV)(xs:List AV):bT prog H 33 (.ptr (x0::x1::x2::x3::x4::x5::xs))=some (.agg [x0,x1,x2,x3,x4,x5]):=by kernel_rfl
@[go_sem] theorem bY2(H:aG)(x:AV)(xs:List AV):bT prog H 4 (.ptr (x::xs))=some x:=by kernel_rfl
@[go_sem] theorem bUk(H:aG)(x0 x1 x2 x3 x4 x5 x6 x7 x8:AV)(xs:List AV):bT prog H 68 (.ptr (x0::x1::x2::x3::x4::x5::x6::x7::x8::xs))=some (.agg [x0,x1,x2,x3,x4,x5,x6,x7,x8]):=by kernel_rfl
@[go_sem] theorem bUl(H:aG)(x:AV)(xs:List AV):bT prog H 69 (.ptr (x::xs))=some x:=by kernel_rfl
@[go_sem] theorem bY6(H:aG)(x:AV)(xs:List AV):bT prog H 9 (.ptr (x::xs))=some x:=by kernel_rfl
@[go_sem] theorem bUr(H:aG)(x0 x1:AV)(xs:List AV):bT prog H 96 (.ptr (x0::x1::xs))=some (.agg [x0,x1]):=by kernel_rfl
def aJ6(rec1:Int→List (List ByteArray)→Int→Int→Option (Int))(rec2:Int→List ByteArray→List (List ByteArray)→Int→Int→List ByteArray→Int→Int→Option (Int))(n_5:Int)(l_7:List ByteArray)(t16:List (List ByteArray))(t17:Int)(t18:Int)(t25:List ByteArray)(t26:Int)(t27:Int):Option (Int):=
 (bif (decide (t27<t26)) then
  ((idx t25 t27).bind fun x6=>
  ((eK (((decide (1000<(x6.size:Int)))==false)&&((decide (0<t27))==true)) ⟨#[]⟩ (idx l_7 0)).bind fun x8=>
  (bif ((decide (1000<(x6.size:Int)))||(((decide (0<t27))&&(decide (x8=⟨#[110,101,119]⟩)))&&(decide (1<(x6.size:Int))))) then
   some (-1)
  else
   rec2 n_5 l_7 t16 t17 t18 t25 t26 (IntKind.i64.wrap (t27+1)))))
 else
  rec1 n_5 t16 t17 (IntKind.i64.wrap (t18+1)))
def aBg(rec1:Int→List (List ByteArray)→Int→Int→Option (Int)):Nat→Int→List ByteArray→List (List ByteArray)→Int→Int→List ByteArray→Int→Int→Option (Int)
 |0=>fun _ _ _ _ _ _ _ _=>none
 |n+1=>aJ6 rec1 (aBg rec1 n)
def aJ5(rec1:Int→List (List ByteArray)→Int→Int→Option (Int))(n_5:Int)(t16:List (List ByteArray))(t17:Int)(t18:Int):Option (Int):=
 (bif (decide (t18<t17)) then
  ((idx t16 t18).bind fun x4=>
  (bif (decide (6<(x4.length:Int))) then
   some (-1)
  else
   aBg rec1 aW n_5 x4 t16 t17 t18 x4 (x4.length:Int) 0))
 else
  some n_5)
def mH:Nat→Int→List (List ByteArray)→Int→Int→Option (Int)
 |0=>fun _ _ _ _=>none
 |n+1=>aJ5 (mH n)
def aAm(aB2:List (List ByteArray))(aSy:Int):Option (Int):=
 ((slc aB2 0 (if aSy<(aB2.length:Int) then aSy else (aB2.length:Int))).bind fun l2=>
 mH aW (if aSy<(aB2.length:Int) then aSy else (aB2.length:Int)) l2 (l2.length:Int) 0)
theorem bFa:K2 prog (vl (csl lT)) vi vi 26 aAm:=by
 intro aB2 aSy r hm
 let I1:=((fun m s=> ∃n_5 t16 t17 t18,s=⟨53,(aF (aF (aF (aF fa 5 (vi n_5)) 16 (.sl (t16.flatMap (csl lT)) t16.length false)) 17 (vi t17)) 18 (vi t18)),⟨aY,64⟩⟩∧mH m n_5 t16 t17 t18=some r):Nat→St→Prop)
 let I2:=fun (n1:Nat)=>((fun m s=> ∃n_5 l_7 t16 t17 t18 t25 t26 t27,s=⟨53,(aF (aF (aF (aF (aF (aF (aF (aF fa 5 (vi n_5)) 7 (vl lT l_7)) 16 (.sl (t16.flatMap (csl lT)) t16.length false)) 17 (vi t17)) 18 (vi t18)) 25 (vl lT t25)) 26 (vi t26)) 27 (vi t27)),⟨aY,64⟩⟩∧aBg (mH n1) m n_5 l_7 t16 t17 t18 t25 t26 t27=some r):Nat→St→Prop)
 exact be 53 func26 (h:=G)
instance:Ct prog 26 (K2 prog (vl (csl lT)) vi vi 26 aAm):=⟨bFa⟩
def zG:Option (Bool):=
 ((yC bNk [1,2,3,4]).bind fun r2=>
 ((eK ((decide (r2=aIr))==true) ⟨#[]⟩ (yC ⟨#[115,105,122,101,32,53,10,88]⟩ [])).bind fun r4=>
 ((eK (((decide (r2=aIr))&&(decide (r4=⟨#[101,114,114,111,114,32,50,32,97,116,32,55,10]⟩)))==true) ⟨#[]⟩ (yC ⟨#[115,105,122,101,32,53]⟩ [])).bind fun r6=>
 ((eK ((((decide (r2=aIr))&&(decide (r4=⟨#[101,114,114,111,114,32,50,32,97,116,32,55,10]⟩)))&&(decide (r6=⟨#[101,114,114,111,114,32,51,10]⟩)))==true) ⟨#[]⟩ (cR GA.nil)).bind fun r8=>
 ((eK (((((decide (r2=aIr))&&(decide (r4=⟨#[101,114,114,111,114,32,50,32,97,116,32,55,10]⟩)))&&(decide (r6=⟨#[101,114,114,111,114,32,51,10]⟩)))&&(decide (r8=⟨#[]⟩)))==true) ⟨#[]⟩ (cR (GA.b 4 true))).bind fun r10=>
 some (((((decide (r2=aIr))&&(decide (r4=⟨#[101,114,114,111,114,32,50,32,97,116,32,55,10]⟩)))&&(decide (r6=⟨#[101,114,114,111,114,32,51,10]⟩)))&&(decide (r8=⟨#[]⟩)))&&(decide (r10=⟨#[121,101,115]⟩))))))))
theorem aXw{r:Bool}(hm:zG=some r):cE prog 27 [] (vb r):=by
 refine bd 23 func27 ?_;refine W ?_;refine aL (CFi .u64) [1,2,3,4] ?_;obtain ⟨r2,h1,hm⟩:=bnd hm;refine aR.callB (r:= .v (.string r2)) Zd Z1 cJ4 (.cons (ltd fun H=>(td Z1 (.v _))) (.cons (lto (CFi .u64) Z1 Z3 Z6) aU4.nil)) bQo (aF4 h1) ?_;obtain ⟨r4,h3,hm⟩:=bnd hm;refine W ?_;refine cg (fun hb=>aF4 (kQ h3 hb)) ?_;obtain ⟨r6,h5,hm⟩:=bnd hm;refine W ?_;refine cg (fun hb=>aF4 (kQ h5 hb)) ?_;obtain ⟨r8,h7,hm⟩:=bnd hm;refine W ?_;refine cg (fun hb=>aCz (kQ h7 hb)) ?_;obtain ⟨r10,h9,hm⟩:=bnd hm;refine W ?_;refine cg (fun hb=>aCz (kQ h9 hb)) ?_;exact E
instance:Ct prog 27 (K0 prog vb 27 zG):=⟨fun hm=>aXw hm⟩
def aHc(rec1:List bE→List aI→Int→Int→Option ((List bE)))(aDu:List bE)(t6:List aI)(t7:Int)(t8:Int):Option ((List bE)):=
 (bif (decide (t8<t7)) then
  ((idx t6 t8).bind fun x2=>
  ((app aDu [(bE.mk x2.Used x2.Key)]).bind fun l4=>
  rec1 l4 t6 t7 (IntKind.i64.wrap (t8+1))))
 else
  some aDu)
def zF:Nat→List bE→List aI→Int→Int→Option ((List bE))
 |0=>fun _ _ _ _=>none
 |n+1=>aHc (zF n)
def aEu(l_0:List aI):Option ((List bE)):=
 zF aW [] l_0 (l_0.length:Int) 0
theorem bAx{l_0:List aI}{r:(List bE)}(hm:aEu l_0=some r):cE prog 114 [vl aX l_0] (vl cN r):=by
 refine bd 18 func114 ?_;refine W ?_;refine lp (fun m s=> ∃aDu t6 t7 t8,s=⟨18,(aF (aF (aF (aF fa 3 (.own 1 0 aDu.length)) 6 (vl aX t6)) 7 (vi t7)) 8 (vi t8)),⟨(upd aY 1 (.cells 2 (aDu.flatMap cN) 0)),64⟩⟩∧zF m aDu t6 t7 t8=some r) ?_ ?_
 · refine ⟨_,?_,[],l_0,(l_0.length:Int),0,rfl,hm⟩;refine St.Le.trans (aAn 3 900003 2 Z1 Z5) ?_;exact cn (fun j=>bif j==1 then 900003 else 0)
 rintro n1 s ⟨aDu,t6,t7,t8,rfl,hm⟩;refine W ?_;refine cm hm (fun hm=>?_) fun hm=>?_
 · obtain ⟨x2,h1,hm⟩:=bnd hm;refine W ?_;refine aL lN [(bE.mk x2.Used x2.Key)] ?_;obtain ⟨l4,h3,hm⟩:=bnd hm;refine W ?_;exact Lr (fun j=>bif j==1 then 195 else 0)
 exact E
instance:Ct prog 114 (K1 prog (vl aX) (vl cN) 114 aEu):=⟨fun hm=>bAx hm⟩
def aDo(s_0:aD):Option (jD):=
 ((aEu s_0.Slots).bind fun r2=>
 some (jD.mk s_0.Graph r2))
theorem bF9:K1 prog dC jY 66 aDo:=fun hm=>be 9 func66 (h:=G)
instance:Ct prog 66 (K1 prog dC jY 66 aDo):=⟨bF9⟩
def aHs(rec1:List bE→List bE→Int→Option (Bool))(a_0:List bE)(b_1:List bE)(i_5:Int):Option (Bool):=
 (bif (decide (i_5<(a_0.length:Int))) then
  ((idx a_0 i_5).bind fun x2=>
  ((idx b_1 i_5).bind fun x4=>
  (bif (!((x2.Used==x4.Used)&&((x2.Key==x4.Key)&&true))) then
   some false
  else
   rec1 a_0 b_1 (IntKind.i64.wrap (i_5+1)))))
 else
  some true)
def zV:Nat→List bE→List bE→Int→Option (Bool)
 |0=>fun _ _ _=>none
 |n+1=>aHs (zV n)
def aBr(a_0:List bE)(b_1:List bE):Option (Bool):=
 (bif ((a_0.length:Int) !=(b_1.length:Int)) then
  some false
 else
  zV aW a_0 b_1 0)
theorem bC1{a_0:List bE}{b_1:List bE}{r:Bool}(hm:aBr a_0 b_1=some r):cE prog 113 [vl cN a_0,vl cN b_1] (vb r):=by
 refine bd 26 func113 ?_;refine W ?_;refine cm hm (fun hm=>?_) fun hm=>?_
 · exact E
 refine W ?_;refine lp (fun m s=> ∃a_0 b_1 i_5,s=⟨26,(aF (aF (aF fa 0 (vl cN a_0)) 1 (vl cN b_1)) 5 (vi i_5)),⟨aY,64⟩⟩∧zV m a_0 b_1 i_5=some r) L ?_;rintro n1 s ⟨a_0,b_1,i_5,rfl,hm⟩;refine W ?_;refine cm hm (fun hm=>?_) fun hm=>?_
 ·
  obtain ⟨x2,h1,hm⟩:=bnd hm;obtain ⟨x4,h3,hm⟩:=bnd hm
  iterate 2 refine S1 ?_
  refine AWp.seq' ?_
  iterate 10 refine S1 ?_
  refine aR.pop Zd (bYe Z1 Z1 (.agg _ (lN.dat x2)) (.agg _ (lN.dat x4))) (bLs (xs:=[.v (.bool x2.Used),.v (.int .u64 x2.Key)]) (ys:=[.v (.bool x4.Used),.v (.int .u64 x4.Key)]) (b:=((x2.Used==x4.Used)&&((x2.Key==x4.Key)&&true))) underlying223 (by kernel_rfl) (by kernel_rfl) Z1 Z1 (by kernel_rfl)) rfl ?_;refine W ?_;refine cm hm (fun hm=>?_) fun hm=>?_
  · exact E
  exact L
 exact E
instance:Ct prog 113 (K2 prog (vl cN) (vl cN) vb 113 aBr):=⟨fun hm=>bC1 hm⟩
def aF2(a_0:jD)(b_1:jD):Option (Bool):=
 ((aBt a_0.Graph b_1.Graph).bind fun r2=>
 ((aBr a_0.Slots b_1.Slots).bind fun r4=>
 some (r2&&r4)))
theorem bC4:K2 prog jY jY vb 65 aF2:=fun hm=>be 21 func65 (h:=G)
instance:Ct prog 65 (K2 prog jY jY vb 65 aF2):=⟨bC4⟩
def aBh(a_0:aN)(b_1:aN):Option (Bool):=
 ((aDo a_0.State).bind fun r2=>
 ((aDo b_1.State).bind fun r4=>
 ((aF2 r2 r4).bind fun r6=>
 some ((r6&&(a_0.Words.At==b_1.Words.At))&&(a_0.On==b_1.On)))))
theorem bAy:K2 prog eE eE vb 29 aBh:=fun hm=>be 28 func29 (h:=G)
instance:Ct prog 29 (K2 prog eE eE vb 29 aBh):=⟨bAy⟩
def aC1(rec1:aN→List (List ByteArray)→Int→Int→Option (Bool))(s_6:aN)(t26:List (List ByteArray))(t27:Int)(t28:Int):Option (Bool):=
 (bif (decide (t28<t27)) then
  ((idx t26 t28).bind fun x8=>
  ((fG s_6 x8).bind fun ⟨r10,r11⟩=>
  ((eK ((!decide (r11=⟨#[111,107]⟩))==true) false (aBh s_6 r10)).bind fun r13=>
  (bif (((!decide (r11=⟨#[111,107]⟩))&&(!r13))||(decide (r11=⟨#[]⟩))) then
   some false
  else
   rec1 r10 t26 t27 (IntKind.i64.wrap (t28+1))))))
 else
  ((zG).bind fun r15=>
  some r15))
def rC:Nat→aN→List (List ByteArray)→Int→Int→Option (Bool)
 |0=>fun _ _ _ _=>none
 |n+1=>aC1 (rC n)
def sO(aB2:List (List ByteArray))(aB5:List Int):Option (Bool):=
 ((aAm aB2 30).bind fun r2=>
 (bif ((decide (r2<0))||(decide (60<(aB5.length:Int)))) then
  ((zG).bind fun r4=>
  some r4)
 else
  ((slc aB2 0 r2).bind fun l6=>
  rC aW (aN.mk (aD.mk (aJ.mk (bC.mk 0 0 0) [] []) []) (bI.mk aB5 0) false) l6 (l6.length:Int) 0)))
theorem aIj:K2 prog (vl (csl lT)) (vl (ci .u64)) vb 5 sO:=by
 intro aB2 aB5 r hm
 let I1:=((fun m s=> ∃s_6 t26 t27 t28,s=⟨53,(aF (aF (aF (aF fa 6 (.adr 1 0)) 26 (.sl (t26.flatMap (csl lT)) t26.length false)) 27 (vi t27)) 28 (vi t28)),⟨(upd aY 1 (.cells 1 [vi s_6.State.Graph.Config.N,vi s_6.State.Graph.Config.L,vi s_6.State.Graph.Config.R,vl cL s_6.State.Graph.Hashes,vl aV s_6.State.Graph.Edges,vl aX s_6.State.Slots,vl (ci .u64) s_6.Words.List,vi s_6.Words.At,vb s_6.On] 0)),64⟩⟩∧rC m s_6 t26 t27 t28=some r):Nat→St→Prop)
 exact be 53 func5 (h:=G)
instance:Ct prog 5 (K2 prog (vl (csl lT)) (vl (ci .u64)) vb 5 sO):=⟨aIj⟩
def aNj:Option ((List ByteArray)):=
 some [⟨#[110,101,119]⟩,⟨#[112,108,97,110]⟩,⟨#[118,101,114,116,101,120]⟩,⟨#[100,114,111,112]⟩,⟨#[101,100,103,101]⟩,⟨#[99,117,116]⟩,⟨#[104,97,115]⟩,⟨#[100,101,103,114,101,101]⟩,⟨#[110,101,97,114]⟩,⟨#[99,111,110,110,101,99,116,101,100]⟩,⟨#[115,105,122,101]⟩,⟨#[99,111,117,110,116]⟩,⟨#[109,101,109,98,101,114,115]⟩,⟨#[102,111,114,101,115,116]⟩,⟨#[97,117,100,105,116]⟩,⟨#[115,97,118,101]⟩,⟨#[114,101,115,116,111,114,101]⟩]
def aHy(rec1:ByteArray→List ByteArray→Int→Option (Int))(dJ:ByteArray)(l_3:List ByteArray)(i_4:Int):Option (Int):=
 (bif (decide (i_4<(l_3.length:Int))) then
  ((idx l_3 i_4).bind fun x4=>
  (bif (decide (x4=dJ)) then
   some i_4
  else
   rec1 dJ l_3 (IntKind.i64.wrap (i_4+1))))
 else
  some (-1))
def aCv:Nat→ByteArray→List ByteArray→Int→Option (Int)
 |0=>fun _ _ _=>none
 |n+1=>aHy (aCv n)
def sZ(dJ:ByteArray):Option (Int):=
 ((aNj).bind fun r2=>
 aCv aW dJ r2 0)
attribute [local semireducible] aW
structure aM where
 Most:Int
 Keys:List Int
 Pairs:List bG
deriving DecidableEq
def aHv(rec1:List Int→Int→Int→Option (Int))(l_0:List Int)(k_1:Int)(i_5:Int):Option (Int):=
 (bif (decide (i_5<(l_0.length:Int))) then
  ((idx l_0 i_5).bind fun x2=>
  (bif (x2==k_1) then
   some i_5
  else
   rec1 l_0 k_1 (IntKind.i64.wrap (i_5+1))))
 else
  some (-1))
def aCs:Nat→List Int→Int→Int→Option (Int)
 |0=>fun _ _ _=>none
 |n+1=>aHv (aCs n)
def aJv(l_0:List Int)(k_1:Int):Option (Int):=
 aCs aW l_0 k_1 0
def aCt(rec1:Int→aM→List Int→Int→Option ((List Int)))(a_1:Int)(m_2:aM)(kC:List Int)(i_6:Int):Option ((List Int)):=
 rec1 a_1 m_2 kC (IntKind.i64.wrap (i_6+1))
def aHx(rec1:Int→aM→List Int→Int→Option ((List Int)))(rec2:Int→aM→List Int→Int→Int→Int→Option ((List Int)))(a_1:Int)(m_2:aM)(kC:List Int)(i_6:Int)(aYe:Int)(k_9:Int):Option ((List Int)):=
 ((eK ((decide (k_9<(kC.length:Int)))==true) 0 (idx kC k_9)).bind fun x4=>
 (bif ((decide (k_9<(kC.length:Int)))&&(decide (x4<aYe))) then
  rec2 a_1 m_2 kC i_6 aYe (IntKind.i64.wrap (k_9+1))
 else
  ((slc kC 0 k_9).bind fun l6=>
  ((app [] l6).bind fun l8=>
  ((app l8 [aYe]).bind fun l10=>
  ((slc kC k_9 (kC.length:Int)).bind fun l12=>
  ((app l10 l12).bind fun l14=>
  aCt rec1 a_1 m_2 l14 i_6)))))))
def aCu(rec1:Int→aM→List Int→Int→Option ((List Int))):Nat→Int→aM→List Int→Int→Int→Int→Option ((List Int))
 |0=>fun _ _ _ _ _ _=>none
 |n+1=>aHx rec1 (aCu rec1 n)
def aHw(rec1:Int→aM→List Int→Int→Option ((List Int)))(a_1:Int)(m_2:aM)(kC:List Int)(i_6:Int):Option ((List Int)):=
 (bif (decide (i_6<(m_2.Pairs.length:Int))) then
  ((idx m_2.Pairs i_6).bind fun x2=>
  (bif ((x2.x0 !=a_1)&&(x2.x1 !=a_1)) then
   aCt rec1 a_1 m_2 kC i_6
  else
   aCu rec1 aW a_1 m_2 kC i_6 (IntKind.u64.wrap ((IntKind.u64.wrap (x2.x0+x2.x1))-a_1)) 0))
 else
  some kC)
def zX:Nat→Int→aM→List Int→Int→Option ((List Int))
 |0=>fun _ _ _ _=>none
 |n+1=>aHw (zX n)
def aQk(m_0:aM)(a_1:Int):Option ((List Int)):=
 zX aW a_1 m_0 [] 0
def aNi(a_0:Int)(b_1:Int)(t4:bG):Option (bG):=
 some (bG.mk a_0 b_1)
def aJx(a_0:Int)(b_1:Int):Option (bG):=
 (bif (decide (b_1<a_0)) then
  aNi b_1 a_0 (bG.mk 0 0)
 else
  aNi a_0 b_1 (bG.mk 0 0))
def aM1(rec1:List bG→bG→Int→Option (Int))(l_0:List bG)(p_3:bG)(i_5:Int):Option (Int):=
 (bif (decide (i_5<(l_0.length:Int))) then
  ((idx l_0 i_5).bind fun x2=>
  (bif (bE6 x2 p_3) then
   some i_5
  else
   rec1 l_0 p_3 (IntKind.i64.wrap (i_5+1))))
 else
  some (-1))
def aHu:Nat→List bG→bG→Int→Option (Int)
 |0=>fun _ _ _=>none
 |n+1=>aM1 (aHu n)
def aP6(l_0:List bG)(p_1:bG):Option (Int):=
 aHu aW l_0 p_1 0
def gV(m_0:aM)(aCo:Int)(a_2:Int)(b_3:Int):Option (aM×Int):=
 ((aJv m_0.Keys a_2).bind fun r2=>
 (bif (aCo==1) then
  (bif (decide (0≤r2)) then
   some (m_0,4)
  else
   (bif (decide (m_0.Most≤(m_0.Keys.length:Int))) then
    some (m_0,10)
   else
    ((app [] m_0.Keys).bind fun l4=>
    ((app l4 [a_2]).bind fun l6=>
    some ((aM.mk m_0.Most l6 m_0.Pairs),0)))))
 else
  ((eK (((decide (r2<0))==false)&&((decide (2<aCo))==true)) 0 (aJv m_0.Keys b_3)).bind fun r8=>
  (bif ((decide (r2<0))||((decide (2<aCo))&&(decide (r8<0)))) then
   some (m_0,7)
  else
   (bif (aCo==2) then
    ((aQk m_0 a_2).bind fun r10=>
    (bif (decide (0<(r10.length:Int))) then
     some (m_0,11)
    else
     ((slc m_0.Keys 0 r2).bind fun l12=>
     ((app [] l12).bind fun l14=>
     ((slc m_0.Keys (IntKind.i64.wrap (r2+1)) (m_0.Keys.length:Int)).bind fun l16=>
     ((app l14 l16).bind fun l18=>
     some ((aM.mk m_0.Most l18 m_0.Pairs),0)))))))
   else
    ((aJx a_2 b_3).bind fun r20=>
    ((aP6 m_0.Pairs r20).bind fun r22=>
    (bif (aCo==4) then
     (bif (decide (r22<0)) then
      some (m_0,9)
     else
      ((slc m_0.Pairs 0 r22).bind fun l24=>
      ((app [] l24).bind fun l26=>
      ((slc m_0.Pairs (IntKind.i64.wrap (r22+1)) (m_0.Pairs.length:Int)).bind fun l28=>
      ((app l26 l28).bind fun l30=>
      some ((aM.mk m_0.Most m_0.Keys l30),0))))))
    else
     (bif (a_2==b_3) then
      some (m_0,8)
     else
      (bif (decide (0≤r22)) then
       some (m_0,4)
      else
       ((app [] m_0.Pairs).bind fun l32=>
       ((app l32 [r20]).bind fun l34=>
       some ((aM.mk m_0.Most m_0.Keys l34),0)))))))))))))
structure aU where
 List:List Int
 At:Int
deriving DecidableEq
def aHq(w_0:aU):Option (Bool):=
 some ((decide (0≤w_0.At))&&(decide (w_0.At≤(w_0.List.length:Int))))
def aUt(rec1:aU→aU→Int→Option (Int×aU×Int))(w_1:aU)(t3:aU)(aMn:Int):Option (Int×aU×Int):=
 (bif (decide (aMn<(w_1.List.length:Int))) then
  ((idx w_1.List aMn).bind fun x4=>
  (bif ((Int.tmod x4 2305843009213693952) !=2305843009213693951) then
   some ((Int.tmod x4 2305843009213693952),(aU.mk w_1.List (IntKind.i64.wrap (aMn+1))),0)
  else
   rec1 w_1 t3 (IntKind.i64.wrap (aMn+1))))
 else
  some (0,w_1,5))
def aL5:Nat→aU→aU→Int→Option (Int×aU×Int)
 |0=>fun _ _ _=>none
 |n+1=>aUt (aL5 n)
def aYn(w_0:aU):Option (Int×aU×Int):=
 ((aHq w_0).bind fun r2=>
 (bif (!r2) then
  some (0,w_0,1)
 else
  aL5 aW w_0 (aU.mk [] 0) w_0.At))
def aTb(rec2:Int→aU→List Int→aU→List bW→Int→Option ((List bW)×aU×Int))(n_1:Int)(t5:aU)(aS3:List Int)(v_8:aU)(bQ7:List bW)(bSw:Int):Option ((List bW)×aU×Int):=
 (bif (decide (bSw<n_1)) then
  ((idx aS3 (IntKind.i64.wrap (2*bSw))).bind fun x10=>
  ((idx aS3 (IntKind.i64.wrap ((IntKind.i64.wrap (2*bSw))+1))).bind fun x12=>
  ((app bQ7 [(bW.mk x10 x12)]).bind fun l14=>
  rec2 n_1 t5 aS3 v_8 l14 (IntKind.i64.wrap (bSw+1)))))
 else
  some (bQ7,v_8,0))
def aJu:Nat→Int→aU→List Int→aU→List bW→Int→Option ((List bW)×aU×Int)
 |0=>fun _ _ _ _ _ _=>none
 |n+1=>aTb (aJu n)
def aTa(rec1:Int→aU→aU→List Int→aU→Option ((List bW)×aU×Int))(n_1:Int)(w_2:aU)(t5:aU)(aS3:List Int)(v_8:aU):Option ((List bW)×aU×Int):=
 (bif (decide ((aS3.length:Int)<(IntKind.i64.wrap (2*n_1)))) then
  ((aYn v_8).bind fun ⟨r4,r5,r6⟩=>
  (bif (r6 !=0) then
   some ([],w_2,r6)
  else
   ((app aS3 [r4]).bind fun l8=>
   rec1 n_1 w_2 t5 l8 r5)))
 else
  aJu aW n_1 t5 aS3 v_8 [] 0)
def aJt:Nat→Int→aU→aU→List Int→aU→Option ((List bW)×aU×Int)
 |0=>fun _ _ _ _ _=>none
 |n+1=>aTa (aJt n)
def aL6(w_0:aU)(n_1:Int):Option ((List bW)×aU×Int):=
 ((aHq w_0).bind fun r2=>
 (bif (((!r2)||(decide (n_1<0)))||(decide (128<n_1))) then
  some ([],w_0,1)
 else
  aJt aW n_1 w_0 (aU.mk [] 0) [] w_0))
end Go.Proofs.YtkdohhmacfoolaaGreatDoor
