/- Facts. No condition. -/
import Derived.Test.YtkdohhmacfoolaaGreatDoorPfAmE
set_option linter.unusedVariables false
set_option linter.unusedSimpArgs false
set_option maxRecDepth 20000
set_option maxHeartbeats 4000000
namespace Go.Proofs.YtkdohhmacfoolaaGreatDoor
open Go.Proofs.Tryz Go Go.AM
attribute [local irreducible] aW
abbrev bNn:ByteArray:=⟨#[110,101,119,32,51,32,50,32,49,10,118,101,114,116,101,120,32,53,32,35,32,111,110,101,10,10,118,101,114,116,101,120,32,55,10,101,100,103,101,32,53,32,55,10,109,101,109,98,101,114,115,32,55,10,102,111,114,101,115,116,10,115,105,122,101,32,57,10,102,108,121,10,104,97,115,32,53,10,104,97,115,32,53,32,120]⟩
abbrev aIt:ByteArray:=⟨#[111,107,10,111,107,10,111,107,10,111,107,10,53,32,55,10,53,45,55,10,101,114,114,111,114,32,55,10,101,114,114,111,114,32,49,10,101,114,114,111,114,32,49,10,101,114,114,111,114,32,50,10]⟩
structure bE where
 Used:Bool
 Key:Int
deriving DecidableEq
def cN(e:bE):List AV:=[.v (.bool e.Used),.v (.int .u64 e.Key)]
theorem lP:CF cN 2:=⟨fun _=>rfl,fun a x hx=>by
 simp only [cN,List.mem_cons,List.not_mem_nil,or_false] at hx;rcases hx with rfl|rfl
 · exact (.v _)
 · exact (.v _),fun _=>rfl⟩
instance:CC cN 2:=⟨lP⟩
@[go_sem] theorem aG5(e:bE)(r:List AV):cN e++r= .v (.bool e.Used):: .v (.int .u64 e.Key)::r:=rfl
structure jE where
 Graph:aJ
 Slots:List bE
deriving DecidableEq
def nU(e:jE):List AV:=[.v (.int .i64 e.Graph.Config.N),.v (.int .i64 e.Graph.Config.L),.v (.int .i64 e.Graph.Config.R),.sl (e.Graph.Hashes.flatMap cL) e.Graph.Hashes.length false,.sl (e.Graph.Edges.flatMap aV) e.Graph.Edges.length false,.sl (e.Slots.flatMap cN) e.Slots.length false]
theorem aIi:CF nU 6:=⟨fun _=>rfl,fun a x hx=>by
 simp only [nU,List.mem_cons,List.not_mem_nil,or_false] at hx;rcases hx with rfl|rfl|rfl|rfl|rfl|rfl
 · exact (.v _)
 · exact (.v _)
 · exact (.v _)
 · exact (jR.sl _ _ _)
 · exact (cI.sl _ _ _)
 · exact (lP.sl _ _ _),fun _=>rfl⟩
instance:CC nU 6:=⟨aIi⟩
abbrev jZ(e:jE):AV:= .agg [.v (.int .i64 e.Graph.Config.N),vi e.Graph.Config.L,vi e.Graph.Config.R,vl cL e.Graph.Hashes,vl aV e.Graph.Edges,vl cN e.Slots]
@[go_sem] theorem aFk(e:jE)(r:List AV):nU e++r= .v (.int .i64 e.Graph.Config.N):: .v (.int .i64 e.Graph.Config.L):: .v (.int .i64 e.Graph.Config.R):: .sl (e.Graph.Hashes.flatMap cL) e.Graph.Hashes.length false:: .sl (e.Graph.Edges.flatMap aV) e.Graph.Edges.length false:: .sl (e.Slots.flatMap cN) e.Slots.length false::r:=rfl
@[go_sem] theorem bEl(i o:Nat):aH prog 125 (.adr i o) 0=some (.adr i (o+0)):=by kernel_rfl
@[go_sem] theorem bEm(i o:Nat):aH prog 125 (.adr i o) 1=some (.adr i (o+5)):=by kernel_rfl
@[go_sem] theorem bK6(i o:Nat):aH prog 33 (.adr i o) 0=some (.adr i (o+0)):=by kernel_rfl
@[go_sem] theorem bKa(i o:Nat):aH prog 33 (.adr i o) 1=some (.adr i (o+5)):=by kernel_rfl
@[go_sem] theorem bKd(i o:Nat):aH prog 35 (.adr i o) 1=some (.adr i (o+1)):=by kernel_rfl
@[go_sem] theorem bL1(i o:Nat):aH prog 68 (.adr i o) 0=some (.adr i (o+0)):=by kernel_rfl
@[go_sem] theorem bL3(i o:Nat):aH prog 68 (.adr i o) 1=some (.adr i (o+6)):=by kernel_rfl
@[go_sem] theorem bL5(i o:Nat):aH prog 68 (.adr i o) 2=some (.adr i (o+8)):=by kernel_rfl
@[go_sem] theorem bP3(H:aG)(x:AV)(xs:List AV):bT prog H 123 (.ptr (x::xs))=some x:=by kernel_rfl
@[go_sem] theorem bP4(H:aG)(x0 x1 x2 x3 x4 x5:AV)(xs:List AV):bT prog H 125 (.ptr (x0::x1::x2::x3::x4::x5::xs))=some (.agg [x0,x1,x2,x3,x4,x5]):=by kernel_rfl
@[go_sem] theorem bPb(H:aG)(x0 x1:AV)(xs:List AV):bT prog H 223 (.ptr (x0::x1::xs))=some (.agg [x0,x1]):=by kernel_rfl
@[go_sem] theorem bY1(H:aG)(x:AV)(xs:List AV):bT prog H 3 (.ptr (x::xs))=some x:=by kernel_rfl
@[go_sem] theorem bTx(H:aG)(x0 x1 x2 x3 x4:AV)(xs:List AV):bT prog H 30 (.ptr (x0::x1::x2::x3::x4::xs))=some (.agg [x0,x1,x2,x3,x4]):=by kernel_rfl
@[go_sem] theorem bU1(H:aG)(x:AV)(xs:List AV):bT prog H 31 (.ptr (x::xs))=some x:=by kernel_rfl
@[go_sem] theorem bU6(H:aG)(x0 x1 x2 x3 x4 x5:AV)(xs:List AV):bT prog H 33 (.ptr (x0::x1::x2::x3::x4::x5::xs))=some (.agg [x0,x1,x2,x3,x4,x5]):=by kernel_rfl
@[go_sem] theorem bY7(H:aG)(x:AV)(xs:List AV):bT prog H 4 (.ptr (x::xs))=some x:=by kernel_rfl
@[go_sem] theorem bUp(H:aG)(x0 x1 x2 x3 x4 x5 x6 x7 x8:AV)(xs:List AV):bT prog H 68 (.ptr (x0::x1::x2::x3::x4::x5::x6::x7::x8::xs))=some (.agg [x0,x1,x2,x3,x4,x5,x6,x7,x8]):=by kernel_rfl
@[go_sem] theorem bUq(H:aG)(x:AV)(xs:List AV):bT prog H 69 (.ptr (x::xs))=some x:=by kernel_rfl
@[go_sem] theorem bYb(H:aG)(x:AV)(xs:List AV):bT prog H 9 (.ptr (x::xs))=some x:=by kernel_rfl
@[go_sem] theorem bUw(H:aG)(x0 x1:AV)(xs:List AV):bT prog H 96 (.ptr (x0::x1::xs))=some (.agg [x0,x1]):=by kernel_rfl
def aJ8(rec1:Int→List (List ByteArray)→Int→Int→Option (Int))(rec2:Int→List ByteArray→List (List ByteArray)→Int→Int→List ByteArray→Int→Int→Option (Int))(n_5:Int)(l_7:List ByteArray)(t16:List (List ByteArray))(t17:Int)(t18:Int)(t25:List ByteArray)(t26:Int)(t27:Int):Option (Int):=
 (bif (decide (t27<t26)) then
  ((idx t25 t27).bind fun x6=>
  ((eG (((decide (1000<(x6.size:Int)))==false)&&((decide (0<t27))==true)) ⟨#[]⟩ (idx l_7 0)).bind fun x8=>
  (bif ((decide (1000<(x6.size:Int)))||(((decide (0<t27))&&(decide (x8=⟨#[110,101,119]⟩)))&&(decide (1<(x6.size:Int))))) then
   some (-1)
  else
   rec2 n_5 l_7 t16 t17 t18 t25 t26 (IntKind.i64.wrap (t27+1)))))
 else
  rec1 n_5 t16 t17 (IntKind.i64.wrap (t18+1)))
def aBk(rec1:Int→List (List ByteArray)→Int→Int→Option (Int)):Nat→Int→List ByteArray→List (List ByteArray)→Int→Int→List ByteArray→Int→Int→Option (Int)
 |0=>fun _ _ _ _ _ _ _ _=>none
 |n+1=>aJ8 rec1 (aBk rec1 n)
def aJ7(rec1:Int→List (List ByteArray)→Int→Int→Option (Int))(n_5:Int)(t16:List (List ByteArray))(t17:Int)(t18:Int):Option (Int):=
 (bif (decide (t18<t17)) then
  ((idx t16 t18).bind fun x4=>
  (bif (decide (6<(x4.length:Int))) then
   some (-1)
  else
   aBk rec1 aW n_5 x4 t16 t17 t18 x4 (x4.length:Int) 0))
 else
  some n_5)
def mI:Nat→Int→List (List ByteArray)→Int→Int→Option (Int)
 |0=>fun _ _ _ _=>none
 |n+1=>aJ7 (mI n)
def aAp(aB6:List (List ByteArray))(aT0:Int):Option (Int):=
 ((slc aB6 0 (if aT0<(aB6.length:Int) then aT0 else (aB6.length:Int))).bind fun l2=>
 mI aW (if aT0<(aB6.length:Int) then aT0 else (aB6.length:Int)) l2 (l2.length:Int) 0)
theorem bFd:K2 prog (vl (csl lK)) vi vi 26 aAp:=by
 intro aB6 aT0 r hm
 let I1:=((fun m s=> ∃n_5 t16 t17 t18,s=⟨53,(aF (aF (aF (aF fa 5 (vi n_5)) 16 (.sl (t16.flatMap (csl lK)) t16.length false)) 17 (vi t17)) 18 (vi t18)),⟨aY,64⟩⟩∧mI m n_5 t16 t17 t18=some r):Nat→St→Prop)
 let I2:=fun (n1:Nat)=>((fun m s=> ∃n_5 l_7 t16 t17 t18 t25 t26 t27,s=⟨53,(aF (aF (aF (aF (aF (aF (aF (aF fa 5 (vi n_5)) 7 (vl lK l_7)) 16 (.sl (t16.flatMap (csl lK)) t16.length false)) 17 (vi t17)) 18 (vi t18)) 25 (vl lK t25)) 26 (vi t26)) 27 (vi t27)),⟨aY,64⟩⟩∧aBk (mI n1) m n_5 l_7 t16 t17 t18 t25 t26 t27=some r):Nat→St→Prop)
 exact be 53 func26 (h:=G)
instance:Ct prog 26 (K2 prog (vl (csl lK)) vi vi 26 aAp):=⟨bFd⟩
def zI:Option (Bool):=
 ((yD bNn [1,2,3,4]).bind fun r2=>
 ((eG ((decide (r2=aIt))==true) ⟨#[]⟩ (yD ⟨#[115,105,122,101,32,53,10,88]⟩ [])).bind fun r4=>
 ((eG (((decide (r2=aIt))&&(decide (r4=⟨#[101,114,114,111,114,32,50,32,97,116,32,55,10]⟩)))==true) ⟨#[]⟩ (yD ⟨#[115,105,122,101,32,53]⟩ [])).bind fun r6=>
 ((eG ((((decide (r2=aIt))&&(decide (r4=⟨#[101,114,114,111,114,32,50,32,97,116,32,55,10]⟩)))&&(decide (r6=⟨#[101,114,114,111,114,32,51,10]⟩)))==true) ⟨#[]⟩ (cU GA.nil)).bind fun r8=>
 ((eG (((((decide (r2=aIt))&&(decide (r4=⟨#[101,114,114,111,114,32,50,32,97,116,32,55,10]⟩)))&&(decide (r6=⟨#[101,114,114,111,114,32,51,10]⟩)))&&(decide (r8=⟨#[]⟩)))==true) ⟨#[]⟩ (cU (GA.b 4 true))).bind fun r10=>
 some (((((decide (r2=aIt))&&(decide (r4=⟨#[101,114,114,111,114,32,50,32,97,116,32,55,10]⟩)))&&(decide (r6=⟨#[101,114,114,111,114,32,51,10]⟩)))&&(decide (r8=⟨#[]⟩)))&&(decide (r10=⟨#[121,101,115]⟩))))))))
theorem aXz{r:Bool}(hm:zI=some r):bY prog 27 [] (vb r):=by
 refine bd 23 func27 ?_;refine W ?_;refine aL (CFi .u64) [1,2,3,4] ?_;obtain ⟨r2,h1,hm⟩:=bnd hm;refine aR.callB (r:= .v (.string r2)) Zd Z1 cJ8 (.cons (ltd fun H=>(td Z1 (.v _))) (.cons (lto (CFi .u64) Z1 Z3 Z6) aU6.nil)) bQr (aF6 h1) ?_;obtain ⟨r4,h3,hm⟩:=bnd hm;refine W ?_;refine cg (fun hb=>aF6 (kR h3 hb)) ?_;obtain ⟨r6,h5,hm⟩:=bnd hm;refine W ?_;refine cg (fun hb=>aF6 (kR h5 hb)) ?_;obtain ⟨r8,h7,hm⟩:=bnd hm;refine W ?_;refine cg (fun hb=>aD1 (kR h7 hb)) ?_;obtain ⟨r10,h9,hm⟩:=bnd hm;refine W ?_;refine cg (fun hb=>aD1 (kR h9 hb)) ?_;exact E
instance:Ct prog 27 (K0 prog vb 27 zI):=⟨fun hm=>aXz hm⟩
def aHf(rec1:List bE→List aI→Int→Int→Option ((List bE)))(aDw:List bE)(t6:List aI)(t7:Int)(t8:Int):Option ((List bE)):=
 (bif (decide (t8<t7)) then
  ((idx t6 t8).bind fun x2=>
  ((app aDw [(bE.mk x2.Used x2.Key)]).bind fun l4=>
  rec1 l4 t6 t7 (IntKind.i64.wrap (t8+1))))
 else
  some aDw)
def zH:Nat→List bE→List aI→Int→Int→Option ((List bE))
 |0=>fun _ _ _ _=>none
 |n+1=>aHf (zH n)
def aEw(l_0:List aI):Option ((List bE)):=
 zH aW [] l_0 (l_0.length:Int) 0
theorem bB0{l_0:List aI}{r:(List bE)}(hm:aEw l_0=some r):bY prog 114 [vl aX l_0] (vl cN r):=by
 refine bd 18 func114 ?_;refine W ?_;refine lp (fun m s=> ∃aDw t6 t7 t8,s=⟨18,(aF (aF (aF (aF fa 3 (.own 1 0 aDw.length)) 6 (vl aX t6)) 7 (vi t7)) 8 (vi t8)),⟨(upd aY 1 (.cells 2 (aDw.flatMap cN) 0)),64⟩⟩∧zH m aDw t6 t7 t8=some r) ?_ ?_
 · refine ⟨_,?_,[],l_0,(l_0.length:Int),0,rfl,hm⟩;refine St.Le.trans (aAq 3 900003 2 Z1 Z5) ?_;exact cn (fun j=>bif j==1 then 900003 else 0)
 rintro n1 s ⟨aDw,t6,t7,t8,rfl,hm⟩;refine W ?_;refine cm hm (fun hm=>?_) fun hm=>?_
 · obtain ⟨x2,h1,hm⟩:=bnd hm;refine W ?_;refine aL lP [(bE.mk x2.Used x2.Key)] ?_;obtain ⟨l4,h3,hm⟩:=bnd hm;refine W ?_;exact Lr (fun j=>bif j==1 then 195 else 0)
 exact E
instance:Ct prog 114 (K1 prog (vl aX) (vl cN) 114 aEw):=⟨fun hm=>bB0 hm⟩
def aDq(s_0:aD):Option (jE):=
 ((aEw s_0.Slots).bind fun r2=>
 some (jE.mk s_0.Graph r2))
theorem bFc:K1 prog dF jZ 66 aDq:=fun hm=>be 9 func66 (h:=G)
instance:Ct prog 66 (K1 prog dF jZ 66 aDq):=⟨bFc⟩
def aHv(rec1:List bE→List bE→Int→Option (Bool))(a_0:List bE)(b_1:List bE)(i_5:Int):Option (Bool):=
 (bif (decide (i_5<(a_0.length:Int))) then
  ((idx a_0 i_5).bind fun x2=>
  ((idx b_1 i_5).bind fun x4=>
  (bif (!((x2.Used==x4.Used)&&((x2.Key==x4.Key)&&true))) then
   some false
  else
   rec1 a_0 b_1 (IntKind.i64.wrap (i_5+1)))))
 else
  some true)
def zX:Nat→List bE→List bE→Int→Option (Bool)
 |0=>fun _ _ _=>none
 |n+1=>aHv (zX n)
def aBu(a_0:List bE)(b_1:List bE):Option (Bool):=
 (bif ((a_0.length:Int) !=(b_1.length:Int)) then
  some false
 else
  zX aW a_0 b_1 0)
theorem bC3{a_0:List bE}{b_1:List bE}{r:Bool}(hm:aBu a_0 b_1=some r):bY prog 113 [vl cN a_0,vl cN b_1] (vb r):=by
 refine bd 26 func113 ?_;refine W ?_;refine cm hm (fun hm=>?_) fun hm=>?_
 · exact E
 refine W ?_;refine lp (fun m s=> ∃a_0 b_1 i_5,s=⟨26,(aF (aF (aF fa 0 (vl cN a_0)) 1 (vl cN b_1)) 5 (vi i_5)),⟨aY,64⟩⟩∧zX m a_0 b_1 i_5=some r) L ?_;rintro n1 s ⟨a_0,b_1,i_5,rfl,hm⟩;refine W ?_;refine cm hm (fun hm=>?_) fun hm=>?_
 ·
  obtain ⟨x2,h1,hm⟩:=bnd hm;obtain ⟨x4,h3,hm⟩:=bnd hm
  iterate 2 refine S1 ?_
  refine AWp.seq' ?_
  iterate 10 refine S1 ?_
  refine aR.pop Zd (bYj Z1 Z1 (.agg _ (lP.dat x2)) (.agg _ (lP.dat x4))) (bLu (xs:=[.v (.bool x2.Used),.v (.int .u64 x2.Key)]) (ys:=[.v (.bool x4.Used),.v (.int .u64 x4.Key)]) (b:=((x2.Used==x4.Used)&&((x2.Key==x4.Key)&&true))) underlying223 (by kernel_rfl) (by kernel_rfl) Z1 Z1 (by kernel_rfl)) rfl ?_;refine W ?_;refine cm hm (fun hm=>?_) fun hm=>?_
  · exact E
  exact L
 exact E
instance:Ct prog 113 (K2 prog (vl cN) (vl cN) vb 113 aBu):=⟨fun hm=>bC3 hm⟩
def aF4(a_0:jE)(b_1:jE):Option (Bool):=
 ((aBw a_0.Graph b_1.Graph).bind fun r2=>
 ((aBu a_0.Slots b_1.Slots).bind fun r4=>
 some (r2&&r4)))
theorem bC6:K2 prog jZ jZ vb 65 aF4:=fun hm=>be 21 func65 (h:=G)
instance:Ct prog 65 (K2 prog jZ jZ vb 65 aF4):=⟨bC6⟩
def xW(a_0:aM)(b_1:aM):Option (Bool):=
 ((aDq a_0.State).bind fun r2=>
 ((aDq b_1.State).bind fun r4=>
 ((aF4 r2 r4).bind fun r6=>
 some ((r6&&(a_0.Words.At==b_1.Words.At))&&(a_0.On==b_1.On)))))
theorem bB1:K2 prog eF eF vb 29 xW:=fun hm=>be 28 func29 (h:=G)
instance:Ct prog 29 (K2 prog eF eF vb 29 xW):=⟨bB1⟩
def aCx:Option ((List ByteArray)):=
 some [⟨#[110,101,119]⟩,⟨#[112,108,97,110]⟩,⟨#[118,101,114,116,101,120]⟩,⟨#[100,114,111,112]⟩,⟨#[101,100,103,101]⟩,⟨#[99,117,116]⟩,⟨#[104,97,115]⟩,⟨#[100,101,103,114,101,101]⟩,⟨#[110,101,97,114]⟩,⟨#[99,111,110,110,101,99,116,101,100]⟩,⟨#[115,105,122,101]⟩,⟨#[99,111,117,110,116]⟩,⟨#[109,101,109,98,101,114,115]⟩,⟨#[102,111,114,101,115,116]⟩,⟨#[97,117,100,105,116]⟩,⟨#[115,97,118,101]⟩,⟨#[114,101,115,116,111,114,101]⟩]
theorem aNm{r:(List ByteArray)}(hm:aCx=some r):bY prog 67 [] (vl lK r):=by
 refine bd 2 func67 ?_;refine W ?_;refine aL CFs [⟨#[110,101,119]⟩,⟨#[112,108,97,110]⟩,⟨#[118,101,114,116,101,120]⟩,⟨#[100,114,111,112]⟩,⟨#[101,100,103,101]⟩,⟨#[99,117,116]⟩,⟨#[104,97,115]⟩,⟨#[100,101,103,114,101,101]⟩,⟨#[110,101,97,114]⟩,⟨#[99,111,110,110,101,99,116,101,100]⟩,⟨#[115,105,122,101]⟩,⟨#[99,111,117,110,116]⟩,⟨#[109,101,109,98,101,114,115]⟩,⟨#[102,111,114,101,115,116]⟩,⟨#[97,117,100,105,116]⟩,⟨#[115,97,118,101]⟩,⟨#[114,101,115,116,111,114,101]⟩] ?_;exact E
instance:Ct prog 67 (K0 prog (vl lK) 67 aCx):=⟨fun hm=>aNm hm⟩
def aI1(rec1:ByteArray→List ByteArray→Int→Option (Int))(cY:ByteArray)(l_3:List ByteArray)(i_4:Int):Option (Int):=
 (bif (decide (i_4<(l_3.length:Int))) then
  ((idx l_3 i_4).bind fun x4=>
  (bif (decide (x4=cY)) then
   some i_4
  else
   rec1 cY l_3 (IntKind.i64.wrap (i_4+1))))
 else
  some (-1))
def aA0:Nat→ByteArray→List ByteArray→Int→Option (Int)
 |0=>fun _ _ _=>none
 |n+1=>aI1 (aA0 n)
def mM(cY:ByteArray):Option (Int):=
 ((aCx).bind fun r2=>
 aA0 aW cY r2 0)
theorem bC7{cY:ByteArray}{r:Int}(hm:mM cY=some r):bY prog 30 [.v (.string cY)] (vi r):=by
 refine bd 19 func30 ?_;obtain ⟨r2,h1,hm⟩:=bnd hm;refine W ?_;refine cq (aNm h1) ?_;refine W ?_;refine lp (fun m s=> ∃cY l_3 i_4,s=⟨19,(aF (aF (aF fa 0 (.v (.string cY))) 3 (vl lK l_3)) 4 (vi i_4)),⟨aY,64⟩⟩∧aA0 m cY l_3 i_4=some r) L ?_;rintro n1 s ⟨cY,l_3,i_4,rfl,hm⟩;refine W ?_;refine cm hm (fun hm=>?_) fun hm=>?_
 ·
  obtain ⟨x4,h3,hm⟩:=bnd hm;refine W ?_;refine cm hm (fun hm=>?_) fun hm=>?_
  · exact E
  exact L
 exact E
instance:Ct prog 30 (K1 prog vs vi 30 mM):=⟨fun hm=>bC7 hm⟩
abbrev aB4(rec1:aM→List (List ByteArray)→Int→Int→Option (Bool))(s_6:aM)(t28:List (List ByteArray))(t29:Int)(t30:Int):Option (Bool):=
 rec1 s_6 t28 t29 (IntKind.i64.wrap (t30+1))
def aFh(rec1:aM→List (List ByteArray)→Int→Int→Option (Bool))(s_6:aM)(t28:List (List ByteArray))(t29:Int)(t30:Int):Option (Bool):=
 (bif (decide (t30<t29)) then
  ((idx t28 t30).bind fun x8=>
  ((eG ((decide (0<(x8.length:Int)))==true) ⟨#[]⟩ (idx x8 0)).bind fun x10=>
  ((eG ((decide (0<(x8.length:Int)))==true) 0 (mM x10)).bind fun r12=>
  ((eG (((decide (0<(x8.length:Int)))&&(decide (5<r12)))==true) ⟨#[]⟩ (idx x8 0)).bind fun x14=>
  (bif (((decide (0<(x8.length:Int)))&&(decide (5<r12)))&&(!decide (x14=⟨#[114,101,115,116,111,114,101]⟩))) then
   ((eJ s_6 x8).bind fun ⟨r16,r17⟩=>
   ((eJ r16 x8).bind fun ⟨r19,r20⟩=>
   ((eG ((!decide (r17=r20))==false) false (xW s_6 r16)).bind fun r22=>
   ((eG (((!decide (r17=r20))||(!r22))==false) false (xW r16 r19)).bind fun r24=>
   (bif (((!decide (r17=r20))||(!r22))||(!r24)) then
    some false
   else
    aB4 rec1 s_6 t28 t29 t30)))))
  else
   ((eJ s_6 x8).bind fun ⟨r26,r27⟩=>
   aB4 rec1 r26 t28 t29 t30))))))
 else
  ((zI).bind fun r29=>
  some r29))
def rM:Nat→aM→List (List ByteArray)→Int→Int→Option (Bool)
 |0=>fun _ _ _ _=>none
 |n+1=>aFh (rM n)
def yL(aB6:List (List ByteArray))(aB9:List Int):Option (Bool):=
 ((aAp aB6 30).bind fun r2=>
 (bif ((decide (r2<0))||(decide (60<(aB9.length:Int)))) then
  ((zI).bind fun r4=>
  some r4)
 else
  ((slc aB6 0 r2).bind fun l6=>
  rM aW (aM.mk (aD.mk (aJ.mk (bC.mk 0 0 0) [] []) []) (bI.mk aB9 0) false) l6 (l6.length:Int) 0)))
theorem aMm:K2 prog (vl (csl lK)) (vl (ci .u64)) vb 7 yL:=by
 intro aB6 aB9 r hm
 let I1:=((fun m s=> ∃s_6 t28 t29 t30,s=⟨85,(aF (aF (aF (aF fa 6 (.adr 1 0)) 28 (.sl (t28.flatMap (csl lK)) t28.length false)) 29 (vi t29)) 30 (vi t30)),⟨(upd aY 1 (.cells 1 [vi s_6.State.Graph.Config.N,vi s_6.State.Graph.Config.L,vi s_6.State.Graph.Config.R,vl cL s_6.State.Graph.Hashes,vl aV s_6.State.Graph.Edges,vl aX s_6.State.Slots,vl (ci .u64) s_6.Words.List,vi s_6.Words.At,vb s_6.On] 0)),64⟩⟩∧rM m s_6 t28 t29 t30=some r):Nat→St→Prop)
 exact be 85 func7 (h:=G)
instance:Ct prog 7 (K2 prog (vl (csl lK)) (vl (ci .u64)) vb 7 yL):=⟨aMm⟩
attribute [local semireducible] aW
structure aN where
 Most:Int
 Keys:List Int
 Pairs:List bG
deriving DecidableEq
def aHy(rec1:List Int→Int→Int→Option (Int))(l_0:List Int)(k_1:Int)(i_5:Int):Option (Int):=
 (bif (decide (i_5<(l_0.length:Int))) then
  ((idx l_0 i_5).bind fun x2=>
  (bif (x2==k_1) then
   some i_5
  else
   rec1 l_0 k_1 (IntKind.i64.wrap (i_5+1))))
 else
  some (-1))
def aCu:Nat→List Int→Int→Int→Option (Int)
 |0=>fun _ _ _=>none
 |n+1=>aHy (aCu n)
def aJx(l_0:List Int)(k_1:Int):Option (Int):=
 aCu aW l_0 k_1 0
def aCv(rec1:Int→aN→List Int→Int→Option ((List Int)))(a_1:Int)(m_2:aN)(kD:List Int)(i_6:Int):Option ((List Int)):=
 rec1 a_1 m_2 kD (IntKind.i64.wrap (i_6+1))
def aI0(rec1:Int→aN→List Int→Int→Option ((List Int)))(rec2:Int→aN→List Int→Int→Int→Int→Option ((List Int)))(a_1:Int)(m_2:aN)(kD:List Int)(i_6:Int)(aYh:Int)(k_9:Int):Option ((List Int)):=
 ((eG ((decide (k_9<(kD.length:Int)))==true) 0 (idx kD k_9)).bind fun x4=>
 (bif ((decide (k_9<(kD.length:Int)))&&(decide (x4<aYh))) then
  rec2 a_1 m_2 kD i_6 aYh (IntKind.i64.wrap (k_9+1))
 else
  ((slc kD 0 k_9).bind fun l6=>
  ((app [] l6).bind fun l8=>
  ((app l8 [aYh]).bind fun l10=>
  ((slc kD k_9 (kD.length:Int)).bind fun l12=>
  ((app l10 l12).bind fun l14=>
  aCv rec1 a_1 m_2 l14 i_6)))))))
def aCw(rec1:Int→aN→List Int→Int→Option ((List Int))):Nat→Int→aN→List Int→Int→Int→Int→Option ((List Int))
 |0=>fun _ _ _ _ _ _=>none
 |n+1=>aI0 rec1 (aCw rec1 n)
def aHz(rec1:Int→aN→List Int→Int→Option ((List Int)))(a_1:Int)(m_2:aN)(kD:List Int)(i_6:Int):Option ((List Int)):=
 (bif (decide (i_6<(m_2.Pairs.length:Int))) then
  ((idx m_2.Pairs i_6).bind fun x2=>
  (bif ((x2.x0 !=a_1)&&(x2.x1 !=a_1)) then
   aCv rec1 a_1 m_2 kD i_6
  else
   aCw rec1 aW a_1 m_2 kD i_6 (IntKind.u64.wrap ((IntKind.u64.wrap (x2.x0+x2.x1))-a_1)) 0))
 else
  some kD)
def zZ:Nat→Int→aN→List Int→Int→Option ((List Int))
 |0=>fun _ _ _ _=>none
 |n+1=>aHz (zZ n)
def aQn(m_0:aN)(a_1:Int):Option ((List Int)):=
 zZ aW a_1 m_0 [] 0
def aNl(a_0:Int)(b_1:Int)(t4:bG):Option (bG):=
 some (bG.mk a_0 b_1)
def aJz(a_0:Int)(b_1:Int):Option (bG):=
 (bif (decide (b_1<a_0)) then
  aNl b_1 a_0 (bG.mk 0 0)
 else
  aNl a_0 b_1 (bG.mk 0 0))
def aM3(rec1:List bG→bG→Int→Option (Int))(l_0:List bG)(p_3:bG)(i_5:Int):Option (Int):=
 (bif (decide (i_5<(l_0.length:Int))) then
  ((idx l_0 i_5).bind fun x2=>
  (bif (bE9 x2 p_3) then
   some i_5
  else
   rec1 l_0 p_3 (IntKind.i64.wrap (i_5+1))))
 else
  some (-1))
def aHx:Nat→List bG→bG→Int→Option (Int)
 |0=>fun _ _ _=>none
 |n+1=>aM3 (aHx n)
def aP9(l_0:List bG)(p_1:bG):Option (Int):=
 aHx aW l_0 p_1 0
def gX(m_0:aN)(aCq:Int)(a_2:Int)(b_3:Int):Option (aN×Int):=
 ((aJx m_0.Keys a_2).bind fun r2=>
 (bif (aCq==1) then
  (bif (decide (0≤r2)) then
   some (m_0,4)
  else
   (bif (decide (m_0.Most≤(m_0.Keys.length:Int))) then
    some (m_0,10)
   else
    ((app [] m_0.Keys).bind fun l4=>
    ((app l4 [a_2]).bind fun l6=>
    some ((aN.mk m_0.Most l6 m_0.Pairs),0)))))
 else
  ((eG (((decide (r2<0))==false)&&((decide (2<aCq))==true)) 0 (aJx m_0.Keys b_3)).bind fun r8=>
  (bif ((decide (r2<0))||((decide (2<aCq))&&(decide (r8<0)))) then
   some (m_0,7)
  else
   (bif (aCq==2) then
    ((aQn m_0 a_2).bind fun r10=>
    (bif (decide (0<(r10.length:Int))) then
     some (m_0,11)
    else
     ((slc m_0.Keys 0 r2).bind fun l12=>
     ((app [] l12).bind fun l14=>
     ((slc m_0.Keys (IntKind.i64.wrap (r2+1)) (m_0.Keys.length:Int)).bind fun l16=>
     ((app l14 l16).bind fun l18=>
     some ((aN.mk m_0.Most l18 m_0.Pairs),0)))))))
   else
    ((aJz a_2 b_3).bind fun r20=>
    ((aP9 m_0.Pairs r20).bind fun r22=>
    (bif (aCq==4) then
     (bif (decide (r22<0)) then
      some (m_0,9)
     else
      ((slc m_0.Pairs 0 r22).bind fun l24=>
      ((app [] l24).bind fun l26=>
      ((slc m_0.Pairs (IntKind.i64.wrap (r22+1)) (m_0.Pairs.length:Int)).bind fun l28=>
      ((app l26 l28).bind fun l30=>
      some ((aN.mk m_0.Most m_0.Keys l30),0))))))
    else
     (bif (a_2==b_3) then
      some (m_0,8)
     else
      (bif (decide (0≤r22)) then
       some (m_0,4)
      else
       ((app [] m_0.Pairs).bind fun l32=>
       ((app l32 [r20]).bind fun l34=>
       some ((aN.mk m_0.Most m_0.Keys l34),0)))))))))))))
structure aU where
 List:List Int
 At:Int
deriving DecidableEq
def aHt(w_0:aU):Option (Bool):=
 some ((decide (0≤w_0.At))&&(decide (w_0.At≤(w_0.List.length:Int))))
def aUv(rec1:aU→aU→Int→Option (Int×aU×Int))(w_1:aU)(t3:aU)(aMq:Int):Option (Int×aU×Int):=
 (bif (decide (aMq<(w_1.List.length:Int))) then
  ((idx w_1.List aMq).bind fun x4=>
  (bif ((Int.tmod x4 2305843009213693952) !=2305843009213693951) then
   some ((Int.tmod x4 2305843009213693952),(aU.mk w_1.List (IntKind.i64.wrap (aMq+1))),0)
  else
   rec1 w_1 t3 (IntKind.i64.wrap (aMq+1))))
 else
  some (0,w_1,5))
def aL7:Nat→aU→aU→Int→Option (Int×aU×Int)
 |0=>fun _ _ _=>none
 |n+1=>aUv (aL7 n)
def aYq(w_0:aU):Option (Int×aU×Int):=
 ((aHt w_0).bind fun r2=>
 (bif (!r2) then
  some (0,w_0,1)
 else
  aL7 aW w_0 (aU.mk [] 0) w_0.At))
def aTd(rec2:Int→aU→List Int→aU→List bW→Int→Option ((List bW)×aU×Int))(n_1:Int)(t5:aU)(aS5:List Int)(v_8:aU)(bQa:List bW)(bT1:Int):Option ((List bW)×aU×Int):=
 (bif (decide (bT1<n_1)) then
  ((idx aS5 (IntKind.i64.wrap (2*bT1))).bind fun x10=>
  ((idx aS5 (IntKind.i64.wrap ((IntKind.i64.wrap (2*bT1))+1))).bind fun x12=>
  ((app bQa [(bW.mk x10 x12)]).bind fun l14=>
  rec2 n_1 t5 aS5 v_8 l14 (IntKind.i64.wrap (bT1+1)))))
 else
  some (bQa,v_8,0))
def aJw:Nat→Int→aU→List Int→aU→List bW→Int→Option ((List bW)×aU×Int)
 |0=>fun _ _ _ _ _ _=>none
 |n+1=>aTd (aJw n)
def aTc(rec1:Int→aU→aU→List Int→aU→Option ((List bW)×aU×Int))(n_1:Int)(w_2:aU)(t5:aU)(aS5:List Int)(v_8:aU):Option ((List bW)×aU×Int):=
 (bif (decide ((aS5.length:Int)<(IntKind.i64.wrap (2*n_1)))) then
  ((aYq v_8).bind fun ⟨r4,r5,r6⟩=>
  (bif (r6 !=0) then
   some ([],w_2,r6)
  else
   ((app aS5 [r4]).bind fun l8=>
   rec1 n_1 w_2 t5 l8 r5)))
 else
  aJw aW n_1 t5 aS5 v_8 [] 0)
def aJv:Nat→Int→aU→aU→List Int→aU→Option ((List bW)×aU×Int)
 |0=>fun _ _ _ _ _=>none
 |n+1=>aTc (aJv n)
def aL8(w_0:aU)(n_1:Int):Option ((List bW)×aU×Int):=
 ((aHt w_0).bind fun r2=>
 (bif (((!r2)||(decide (n_1<0)))||(decide (128<n_1))) then
  some ([],w_0,1)
 else
  aJv aW n_1 w_0 (aU.mk [] 0) [] w_0))
end Go.Proofs.YtkdohhmacfoolaaGreatDoor
