/- Facts. No condition. -/
import Derived.Test.YtkdohhmacfoolaaGreatDoorObGI2
set_option linter.unusedVariables false
set_option linter.unusedSimpArgs false
set_option maxRecDepth 20000
set_option maxHeartbeats 4000000
namespace Go.Proofs.YtkdohhmacfoolaaGreatDoor
open Go.Proofs.Tryz Go Go.AM
attribute [local irreducible] bC
@[go_sem] theorem bFt(i o:Nat):aM prog 23 (.adr i o) 0=some (.adr i (o+0)):=by kernel_rfl
@[go_sem] theorem bG0(i o:Nat):aM prog 23 (.adr i o) 1=some (.adr i (o+1)):=by kernel_rfl
@[go_sem] theorem bG6(i o:Nat):aM prog 23 (.adr i o) 2=some (.adr i (o+2)):=by kernel_rfl
@[go_sem] theorem bGt(i o:Nat):aM prog 35 (.adr i o) 0=some (.adr i (o+0)):=by kernel_rfl
@[go_sem] theorem bGv(i o:Nat):aM prog 35 (.adr i o) 1=some (.adr i (o+1)):=by kernel_rfl
@[go_sem] theorem bGz(i o:Nat):aM prog 42 (.adr i o) 1=some (.adr i (o+1)):=by kernel_rfl
@[go_sem] theorem bH1(i o:Nat):aM prog 42 (.adr i o) 2=some (.adr i (o+2)):=by kernel_rfl
@[go_sem] theorem bHl(i o:Nat):aM prog 68 (.adr i o) 1=some (.adr i (o+6)):=by kernel_rfl
@[go_sem] theorem bO3(H:aI)(x0 x1 x2:AV)(xs:List AV):bW prog H 23 (.ptr (x0::x1::x2::xs))=some (.agg [x0,x1,x2]):=by kernel_rfl
@[go_sem] theorem bO7(H:aI)(x:AV)(xs:List AV):bW prog H 24 (.ptr (x::xs))=some x:=by kernel_rfl
@[go_sem] theorem bSf(H:aI)(x:AV)(xs:List AV):bW prog H 3 (.ptr (x::xs))=some x:=by kernel_rfl
@[go_sem] theorem bOn(H:aI)(x0 x1 x2 x3 x4:AV)(xs:List AV):bW prog H 30 (.ptr (x0::x1::x2::x3::x4::xs))=some (.agg [x0,x1,x2,x3,x4]):=by kernel_rfl
@[go_sem] theorem bOt(H:aI)(x0 x1 x2 x3 x4 x5:AV)(xs:List AV):bW prog H 33 (.ptr (x0::x1::x2::x3::x4::x5::xs))=some (.agg [x0,x1,x2,x3,x4,x5]):=by kernel_rfl
@[go_sem] theorem bOv(H:aI)(x0 x1:AV)(xs:List AV):bW prog H 35 (.ptr (x0::x1::xs))=some (.agg [x0,x1]):=by kernel_rfl
@[go_sem] theorem bP1(H:aI)(x:AV)(xs:List AV):bW prog H 40 (.ptr (x::xs))=some x:=by kernel_rfl
@[go_sem] theorem bP3(H:aI)(x0 x1 x2 x3:AV)(xs:List AV):bW prog H 42 (.ptr (x0::x1::x2::x3::xs))=some (.agg [x0,x1,x2,x3]):=by kernel_rfl
@[go_sem] theorem bPb(H:aI)(x0 x1 x2 x3 x4 x5 x6 x7 x8:AV)(xs:List AV):bW prog H 68 (.ptr (x0::x1::x2::x3::x4::x5::x6::x7::x8::xs))=some (.agg [x0,x1,x2,x3,x4,x5,x6,x7,x8]):=by kernel_rfl
@[go_sem] theorem bSn(H:aI)(x:AV)(xs:List AV):bW prog H 9 (.ptr (x::xs))=some x:=by kernel_rfl
@[go_sem] theorem bFa(H:aI)(k:IntKind)(n:Int):nE prog H 40 3 (.v (.int k n))=some (.v (.int .i64 (IntKind.i64.wrap n))):=iA underlying40 underlying3
def aEs(rec1:aR→aR→Int→Option (Int×aR×Int))(w_1:aR)(t3:aR)(aKi:Int):Option (Int×aR×Int):=
 (bif (decide (aKi<(w_1.List.length:Int))) then
  ((idx w_1.List aKi).bind fun x4=>
  (bif (decide ((aGj .u64 x4 2305843009213693951)<2305843009213693951)) then
   some ((aGj .u64 x4 2305843009213693951),(aR.mk w_1.List (IntKind.i64.wrap (aKi+1))),0)
  else
   rec1 w_1 t3 (IntKind.i64.wrap (aKi+1))))
 else
  some (0,w_1,5))
def uR:Nat→aR→aR→Int→Option (Int×aR×Int)
 |0=>fun _ _ _=>none
 |n+1=>aEs (uR n)
def tY(w_0:aR):Option (Int×aR×Int):=
 ((oW w_0).bind fun r2=>
 (bif (!r2) then
  some (0,w_0,1)
 else
  uR bC w_0 (aR.mk [] 0) w_0.At))
theorem aYb{w_0:aR}{r:Int×aR×Int}(hm:tY w_0=some r):bO prog 74 [.agg [vl (ci .u64) w_0.List,vi w_0.At]] (.tup [vu r.1,.agg [vl (ci .u64) r.2.1.List,vi r.2.1.At],vi r.2.2]):=by
 refine bd 35 func74 ?_;obtain ⟨r2,h1,hm⟩:=bnd hm;refine W ?_;refine cq (aO6 h1) ?_;refine W ?_;refine cm hm (fun hm=>?_) fun hm=>?_
 · exact E
 refine W ?_;refine lp (fun m s=> ∃w_1 t3 aKi,s=⟨35,(aE (aE (aE fa 1 (.adr 1 0)) 3 (.adr 2 0)) 5 (vi aKi)),⟨(upd (upd aZ 1 (.cells 1 [vl (ci .u64) w_1.List,vi w_1.At] 0)) 2 (.cells 1 [vl (ci .u64) t3.List,vi t3.At] 0)),64⟩⟩∧uR m w_1 t3 aKi=some r) ?_ ?_
 · refine ⟨_,?_,w_0,(aR.mk [] 0),w_0.At,rfl,hm⟩;refine St.Le.trans (aGz 2 (ys:=[.sl (((aR.mk [] 0).List).flatMap (ci .u64)) ((aR.mk [] 0).List).length false,.v (.int .i64 ((aR.mk [] 0).At))]) Z3 (.cons (.nil false) (.cons (.data _ (.v _)) .nil))) ?_;exact cn (fun j=>bif j==1 then 0 else bif j==2 then 2 else 0)
 rintro n1 s ⟨w_1,t3,aKi,rfl,hm⟩;refine W ?_;refine cm hm (fun hm=>?_) fun hm=>?_
 ·
  obtain ⟨x4,h3,hm⟩:=bnd hm;refine W ?_;refine cm hm (fun hm=>?_) fun hm=>?_
  · refine W ?_;refine bU (.agg [vl (ci .u64) w_1.List,.v (.int .i64 (IntKind.i64.wrap (aKi+1)))]) ?_;exact E
  refine W ?_;exact Lr (fun j=>bif j==1 then 1 else bif j==2 then 2 else 0)
 exact E
instance:Ct prog 74 (K1 prog kC (t3 vu kC vi) 74 tY):=⟨fun hm=>aYb hm⟩
def rX(rec1:aR→aR→List bM→aR→Int→Int→Option ((List bM)×aR×Int))(w_2:aR)(t5:aR)(aB2:List bM)(aNa:aR)(t31:Int)(t32:Int):Option ((List bM)×aR×Int):=
 (bif (decide (t32<t31)) then
  ((tY aNa).bind fun ⟨r6,r7,r8⟩=>
  (bif (r8 !=0) then
   some ([],w_2,r8)
  else
   ((tY r7).bind fun ⟨r10,r11,r12⟩=>
   (bif (r12 !=0) then
    some ([],w_2,r12)
   else
    ((idx aB2 t32).bind fun x14=>
    ((stt aB2 t32 (bM.mk r6 r10)).bind fun l16=>
    rec1 w_2 t5 l16 r11 t31 (IntKind.i64.wrap (t32+1))))))))
 else
  some (aB2,aNa,0))
def nO:Nat→aR→aR→List bM→aR→Int→Int→Option ((List bM)×aR×Int)
 |0=>fun _ _ _ _ _ _=>none
 |n+1=>rX (nO n)
def qY(w_0:aR)(n_1:Int):Option ((List bM)×aR×Int):=
 ((oW w_0).bind fun r2=>
 (bif (((!r2)||(decide (n_1<0)))||(decide (128<n_1))) then
  some ([],w_0,1)
 else
  ((mkc n_1 n_1 (bM.mk 0 0)).bind fun l4=>
  nO bC w_0 (aR.mk [] 0) l4 w_0 (l4.length:Int) 0)))
theorem aKv:K2 prog kC vi (t3 (vl bI) kC vi) 33 qY:=by
 intro w_0 n_1 r hm
 let I1:=((fun m s=> ∃w_2 t5 aB2 aNa t31 t32,s=⟨65,(aE (aE (aE (aE (aE (aE fa 2 (.adr 1 0)) 5 (.adr 2 0)) 7 (.own 3 0 aB2.length)) 8 (.adr 4 0)) 31 (vi t31)) 32 (vi t32)),⟨(upd (upd (upd (upd aZ 1 (.cells 1 [vl (ci .u64) w_2.List,vi w_2.At] 0)) 2 (.cells 1 [vl (ci .u64) t5.List,vi t5.At] 0)) 3 (.cells 2 (aB2.flatMap bI) 0)) 4 (.cells 1 [vl (ci .u64) aNa.List,vi aNa.At] 0)),64⟩⟩∧nO m w_2 t5 aB2 aNa t31 t32=some r):Nat→St→Prop)
 exact be 65 func33 (h:=G)
instance:Ct prog 33 (K2 prog kC vi (t3 (vl bI) kC vi) 33 qY):=⟨aKv⟩
def aG2(n_0:Int):Option ((List aN)×Int):=
 ((nC n_0).bind fun r2=>
 (bif (!r2) then
  some ([],1)
 else
  ((mkc n_0 n_0 (aN.mk false 0)).bind fun l4=>
  some (l4,0))))
theorem aS1:K1 prog vi (t2 (vl aT) vi) 35 aG2:=fun hm=>be 9 func35 (h:=G)
instance:Ct prog 35 (K1 prog vi (t2 (vl aT) vi) 35 aG2):=⟨aS1⟩
def lL(c_0:aU)(w_1:aR):Option (aC×aR×Int):=
 (bif ((((((decide (c_0.N<1))||(decide (1024<c_0.N)))||(decide (c_0.L<1)))||(decide (16<c_0.L)))||(decide (c_0.R<1)))||(decide (8<c_0.R))) then
  some ((aC.mk (aF.mk (aU.mk 0 0 0) [] []) []),w_1,1)
 else
  ((qY w_1 (IntKind.i64.wrap (c_0.L*c_0.R))).bind fun ⟨r2,r3,r4⟩=>
  (bif (r4 !=0) then
   some ((aC.mk (aF.mk (aU.mk 0 0 0) [] []) []),w_1,r4)
  else
   ((aBv c_0 r2).bind fun ⟨r6,r7⟩=>
   (bif (r7 !=0) then
    some ((aC.mk (aF.mk (aU.mk 0 0 0) [] []) []),w_1,r7)
   else
    ((aG2 c_0.N).bind fun ⟨r9,r10⟩=>
    (bif (r10 !=0) then
     some ((aC.mk (aF.mk (aU.mk 0 0 0) [] []) []),w_1,r10)
    else
     some ((aC.mk r6 r9),r3,0))))))))
theorem aJm{c_0:aU}{w_1:aR}{r:aC×aR×Int}(hm:lL c_0 w_1=some r):bO prog 10 [.agg [vi c_0.N,vi c_0.L,vi c_0.R],.agg [vl (ci .u64) w_1.List,vi w_1.At]] (.tup [.agg [vi r.1.Graph.Config.N,vi r.1.Graph.Config.L,vi r.1.Graph.Config.R,vl bI r.1.Graph.Hashes,vl aO r.1.Graph.Edges,vl aT r.1.Slots],.agg [vl (ci .u64) r.2.1.List,vi r.2.1.At],vi r.2.2]):=by
 refine bd 84 func10 ?_;refine W ?_;refine cm hm (fun hm=>?_) fun hm=>?_
 · refine W ?_;refine AWp.regV [(3,1),(4,2),(5,3)] 64 mix (by kernel_rfl) (by kernel_rfl) (IV.cons (off:=0) Z1 (IV.cons (off:=0) Z1 (IV.cons (off:=0) Z1 IV.nil))) (N':=192) rfl ?_;refine bU (.agg [vi 0,vi 0,vi 0,.v (.slice none 0 0),.v (.slice none 0 0),.v (.slice none 0 0)]) ?_;exact E
 refine W ?_;obtain ⟨⟨r2,r3,r4⟩,h1,hm⟩:=bnd hm;refine cq (aKv h1) ?_;refine W ?_;refine cm hm (fun hm=>?_) fun hm=>?_
 · refine W ?_;refine AWp.regV [(3,1),(4,2),(5,3)] 64 mix (by kernel_rfl) (by kernel_rfl) (IV.cons (off:=0) Z1 (IV.cons (off:=0) Z1 (IV.cons (off:=0) Z1 IV.nil))) (N':=320) rfl ?_;refine bU (.agg [vi 0,vi 0,vi 0,.v (.slice none 0 0),.v (.slice none 0 0),.v (.slice none 0 0)]) ?_;exact E
 refine W ?_;obtain ⟨⟨r6,r7⟩,h5,hm⟩:=bnd hm;refine cq (aRx h5) ?_;refine W ?_;refine cm hm (fun hm=>?_) fun hm=>?_
 · refine W ?_;refine AWp.regV [(3,1),(4,2),(5,3)] 64 mix (by kernel_rfl) (by kernel_rfl) (IV.cons (off:=0) Z1 (IV.cons (off:=0) Z1 (IV.cons (off:=0) Z1 IV.nil))) (N':=448) rfl ?_;refine bU (.agg [vi 0,vi 0,vi 0,.v (.slice none 0 0),.v (.slice none 0 0),.v (.slice none 0 0)]) ?_;exact E
 refine W ?_;obtain ⟨⟨r9,r10⟩,h8,hm⟩:=bnd hm;refine cq (aS1 h8) ?_;refine W ?_;refine cm hm (fun hm=>?_) fun hm=>?_
 · refine W ?_;refine AWp.regV [(3,1),(4,2),(5,3)] 64 mix (by kernel_rfl) (by kernel_rfl) (IV.cons (off:=0) Z1 (IV.cons (off:=0) Z1 (IV.cons (off:=0) Z1 IV.nil))) (N':=576) rfl ?_;refine bU (.agg [vi 0,vi 0,vi 0,.v (.slice none 0 0),.v (.slice none 0 0),.v (.slice none 0 0)]) ?_;exact E
 refine W ?_;refine AWp.regV [(4,2),(5,3),(8,139),(10,262)] 64 mix (by kernel_rfl) (by kernel_rfl) (IV.cons (off:=0) Z1 (IV.cons (off:=0) Z1 (IV.cons (off:=0) Z1 (IV.cons (off:=0) Z1 IV.nil)))) (N':=576) rfl ?_;refine W ?_;refine bU (.agg [vi r6.Config.N,vi r6.Config.L,vi r6.Config.R,vl bI r6.Hashes,vl aO r6.Edges,vl aT r9]) ?_;exact E
instance:Ct prog 10 (K2 prog aEa kC (t3 dI kC vi) 10 lL):=⟨fun hm=>aJm hm⟩
abbrev aHl(s_3:aH)(t6:aH)(bAw:aU):Option (aH×ByteArray):=
 ((lL bAw s_3.Words).bind fun ⟨r12,r13,r14⟩=>
 (bif (r14 !=0) then
  ((jD (GA.i 36 .i64 r14)).bind fun r16=>
  some (s_3,r16))
 else
  ((jD (GA.i 36 .i64 0)).bind fun r18=>
  some ((aH.mk r12 r13 true),r18))))
def aRi(rec1:Int→List Int→aH→aH→List Int→Int→Int→Option (aH×ByteArray))(wB:Int)(oC:List Int)(s_3:aH)(t6:aH)(t18:List Int)(t19:Int)(t20:Int):Option (aH×ByteArray):=
 (bif (decide (t20<t19)) then
  ((idx t18 t20).bind fun x2=>
  (bif (decide (2147483647<x2)) then
   ((jD (GA.i 36 .i64 6)).bind fun r4=>
   some (s_3,r4))
  else
   rec1 wB oC s_3 t6 t18 t19 (IntKind.i64.wrap (t20+1))))
 else
  ((idx oC 0).bind fun x6=>
  ((idx oC 1).bind fun x8=>
  ((idx oC 2).bind fun x10=>
  (bif (wB==(-2)) then
   none
  else
   aHl s_3 t6 (aU.mk (IntKind.i64.wrap x6) (IntKind.i64.wrap x8) (IntKind.i64.wrap x10)))))))
def aBg:Nat→Int→List Int→aH→aH→List Int→Int→Int→Option (aH×ByteArray)
 |0=>fun _ _ _ _ _ _ _=>none
 |n+1=>aRi (aBg n)
def aD6(s_0:aH)(wB:Int)(oC:List Int):Option (aH×ByteArray):=
 aBg bC wB oC s_0 (aH.mk (aC.mk (aF.mk (aU.mk 0 0 0) [] []) []) (aR.mk [] 0) false) oC (oC.length:Int) 0
theorem aIx{s_0:aH}{wB:Int}{oC:List Int}{r:aH×ByteArray}(hm:aD6 s_0 wB oC=some r):bO prog 64 [.agg [vi s_0.State.Graph.Config.N,vi s_0.State.Graph.Config.L,vi s_0.State.Graph.Config.R,vl bI s_0.State.Graph.Hashes,vl aO s_0.State.Graph.Edges,vl aT s_0.State.Slots,vl (ci .u64) s_0.Words.List,vi s_0.Words.At,vb s_0.On],vi wB,vl (ci .u64) oC] (.tup [.agg [vi r.1.State.Graph.Config.N,vi r.1.State.Graph.Config.L,vi r.1.State.Graph.Config.R,vl bI r.1.State.Graph.Hashes,vl aO r.1.State.Graph.Edges,vl aT r.1.State.Slots,vl (ci .u64) r.1.Words.List,vi r.1.Words.At,vb r.1.On],.v (.string r.2)]):=by
 refine bd 80 func64 ?_;refine W ?_;refine lp (fun m s=> ∃wB oC s_3 t6 t18 t19 t20,s=⟨80,(aE (aE (aE (aE (aE (aE (aE fa 1 (vi wB)) 2 (vl (ci .u64) oC)) 3 (.adr 1 0)) 6 (.adr 2 0)) 18 (vl (ci .u64) t18)) 19 (vi t19)) 20 (vi t20)),⟨(upd (upd aZ 1 (.cells 1 [vi s_3.State.Graph.Config.N,vi s_3.State.Graph.Config.L,vi s_3.State.Graph.Config.R,vl bI s_3.State.Graph.Hashes,vl aO s_3.State.Graph.Edges,vl aT s_3.State.Slots,vl (ci .u64) s_3.Words.List,vi s_3.Words.At,vb s_3.On] 0)) 2 (.cells 1 [vi t6.State.Graph.Config.N,vi t6.State.Graph.Config.L,vi t6.State.Graph.Config.R,vl bI t6.State.Graph.Hashes,vl aO t6.State.Graph.Edges,vl aT t6.State.Slots,vl (ci .u64) t6.Words.List,vi t6.Words.At,vb t6.On] 0)),64⟩⟩∧aBg m wB oC s_3 t6 t18 t19 t20=some r) ?_ ?_
 · refine ⟨_,?_,wB,oC,s_0,(aH.mk (aC.mk (aF.mk (aU.mk 0 0 0) [] []) []) (aR.mk [] 0) false),oC,(oC.length:Int),0,rfl,hm⟩;refine St.Le.trans (aGz 1 (ys:=[.v (.int .i64 (((((aH.mk (aC.mk (aF.mk (aU.mk 0 0 0) [] []) []) (aR.mk [] 0) false).State).Graph).Config).N)),.v (.int .i64 (((((aH.mk (aC.mk (aF.mk (aU.mk 0 0 0) [] []) []) (aR.mk [] 0) false).State).Graph).Config).L)),.v (.int .i64 (((((aH.mk (aC.mk (aF.mk (aU.mk 0 0 0) [] []) []) (aR.mk [] 0) false).State).Graph).Config).R)),.sl (((((aH.mk (aC.mk (aF.mk (aU.mk 0 0 0) [] []) []) (aR.mk [] 0) false).State).Graph).Hashes).flatMap bI) ((((aH.mk (aC.mk (aF.mk (aU.mk 0 0 0) [] []) []) (aR.mk [] 0) false).State).Graph).Hashes).length false,.sl (((((aH.mk (aC.mk (aF.mk (aU.mk 0 0 0) [] []) []) (aR.mk [] 0) false).State).Graph).Edges).flatMap aO) ((((aH.mk (aC.mk (aF.mk (aU.mk 0 0 0) [] []) []) (aR.mk [] 0) false).State).Graph).Edges).length false,.sl ((((aH.mk (aC.mk (aF.mk (aU.mk 0 0 0) [] []) []) (aR.mk [] 0) false).State).Slots).flatMap aT) (((aH.mk (aC.mk (aF.mk (aU.mk 0 0 0) [] []) []) (aR.mk [] 0) false).State).Slots).length false,.sl ((((aH.mk (aC.mk (aF.mk (aU.mk 0 0 0) [] []) []) (aR.mk [] 0) false).Words).List).flatMap (ci .u64)) (((aH.mk (aC.mk (aF.mk (aU.mk 0 0 0) [] []) []) (aR.mk [] 0) false).Words).List).length false,.v (.int .i64 (((aH.mk (aC.mk (aF.mk (aU.mk 0 0 0) [] []) []) (aR.mk [] 0) false).Words).At)),.v (.bool ((aH.mk (aC.mk (aF.mk (aU.mk 0 0 0) [] []) []) (aR.mk [] 0) false).On))]) Z3 (.cons (.data _ (.v _)) (.cons (.data _ (.v _)) (.cons (.data _ (.v _)) (.cons (.nil false) (.cons (.nil false) (.cons (.nil false) (.cons (.nil false) (.cons (.data _ (.v _)) (.cons (.data _ (.v _)) .nil)))))))))) ?_;exact cn (fun j=>bif j==1 then 0 else bif j==2 then 1 else 0)
 rintro n1 s ⟨wB,oC,s_3,t6,t18,t19,t20,rfl,hm⟩;refine W ?_;refine cm hm (fun hm=>?_) fun hm=>?_
 ·
  obtain ⟨x2,h1,hm⟩:=bnd hm;refine W ?_;refine cm hm (fun hm=>?_) fun hm=>?_
  · obtain ⟨r4,h3,hm⟩:=bnd hm;refine W ?_;refine cq (jW h3) ?_;exact E
  refine W ?_;exact Lr (fun j=>bif j==1 then 1 else bif j==2 then 2 else 0)
 obtain ⟨x6,h5,hm⟩:=bnd hm;obtain ⟨x8,h7,hm⟩:=bnd hm;obtain ⟨x10,h9,hm⟩:=bnd hm;refine W ?_;refine bU (.agg [.v (.int .i64 (IntKind.i64.wrap x6)),.v (.int .i64 (IntKind.i64.wrap x8)),.v (.int .i64 (IntKind.i64.wrap x10))]) ?_;refine V ?_;refine AWp.seqJ (fun s=> ∃s_3 t6 bAw,s=⟨80,(aE (aE (aE fa 3 (.adr 1 0)) 6 (.adr 2 0)) 13 (.adr 3 0)),⟨(upd (upd (upd aZ 1 (.cells 1 [vi s_3.State.Graph.Config.N,vi s_3.State.Graph.Config.L,vi s_3.State.Graph.Config.R,vl bI s_3.State.Graph.Hashes,vl aO s_3.State.Graph.Edges,vl aT s_3.State.Slots,vl (ci .u64) s_3.Words.List,vi s_3.Words.At,vb s_3.On] 0)) 2 (.cells 1 [vi t6.State.Graph.Config.N,vi t6.State.Graph.Config.L,vi t6.State.Graph.Config.R,vl bI t6.State.Graph.Hashes,vl aO t6.State.Graph.Edges,vl aT t6.State.Slots,vl (ci .u64) t6.Words.List,vi t6.Words.At,vb t6.On] 0)) 3 (.cells 1 [vi bAw.N,vi bAw.L,vi bAw.R] 0)),64⟩⟩∧aHl s_3 t6 bAw=some r) ?_ ?_
 ·
  refine W ?_;refine cm hm (fun hm=>?_) fun hm=>?_
  · cases hm
  refine W ?_;exact Lr (fun j=>bif j==1 then 1 else bif j==2 then 2 else bif j==3 then 196 else 0)
 rintro s ⟨s_3,t6,bAw,rfl,hm⟩;refine W ?_;obtain ⟨⟨r12,r13,r14⟩,h11,hm⟩:=bnd hm;refine cq (aJm h11) ?_;refine W ?_;refine cm hm (fun hm=>?_) fun hm=>?_
 · obtain ⟨r16,h15,hm⟩:=bnd hm;refine W ?_;refine cq (jW h15) ?_;exact E
 refine W ?_;refine bU (.agg [vi r12.Graph.Config.N,vi r12.Graph.Config.L,vi r12.Graph.Config.R,vl bI r12.Graph.Hashes,vl aO r12.Graph.Edges,vl aT r12.Slots,vl (ci .u64) r13.List,vi r13.At,vb true]) ?_;obtain ⟨r18,h17,hm⟩:=bnd hm;refine W ?_;refine cq (jW h17) ?_;exact E
instance:Ct prog 64 (K3 prog kQ vi (vl (ci .u64)) (t2 kQ vs) 64 aD6):=⟨fun hm=>aIx hm⟩
abbrev aD8(s_2:aH)(t4:aH)(aDp:bD):Option (aH×ByteArray):=
 ((aFq s_2 aDp).bind fun ⟨r21,r22⟩=>
 some (r21,r22))
abbrev aD7(s_2:aH)(t4:aH)(aQw:Int)(aKh:List Int)(aDp:bD):Option (aH×ByteArray):=
 (bif (decide (1<aQw)) then
  ((idx aKh 1).bind fun x24=>
  aD8 s_2 t4 (bD.mk aDp.Do aDp.A x24 aDp.Text))
 else
  aD8 s_2 t4 aDp)
def jV(s_0:aH)(oO:List ByteArray):Option (aH×ByteArray):=
 (bif ((oO.length:Int)==0) then
  ((jD (GA.i 36 .i64 1)).bind fun r2=>
  some (s_0,r2))
 else
  ((idx oO 0).bind fun x4=>
  ((zI x4).bind fun ⟨r6,r7⟩=>
  (bif ((r6==0)||((IntKind.i64.wrap ((oO.length:Int)-1)) !=r7)) then
   ((jD (GA.i 36 .i64 1)).bind fun r9=>
   some (s_0,r9))
  else
   (bif (r6==15) then
    none
   else
    ((slc oO 1 (oO.length:Int)).bind fun l11=>
    ((zJ l11).bind fun ⟨r13,r14⟩=>
    (bif (r14 !=0) then
     ((jD (GA.i 36 .i64 r14)).bind fun r16=>
     some (s_0,r16))
    else
     (bif ((r6==(-1))||(r6==(-2))) then
      ((aD6 s_0 r6 r13).bind fun ⟨r18,r19⟩=>
      some (r18,r19))
     else
      (bif (decide (0<r7)) then
       ((idx r13 0).bind fun x26=>
       aD7 s_0 (aH.mk (aC.mk (aF.mk (aU.mk 0 0 0) [] []) []) (aR.mk [] 0) false) r7 r13 (bD.mk r6 x26 0 ⟨#[]⟩))
      else
       aD7 s_0 (aH.mk (aC.mk (aF.mk (aU.mk 0 0 0) [] []) []) (aR.mk [] 0) false) r7 r13 (bD.mk r6 0 0 ⟨#[]⟩)))))))))))
theorem aLw{s_0:aH}{oO:List ByteArray}{r:aH×ByteArray}(hm:jV s_0 oO=some r):bO prog 28 [.agg [vi s_0.State.Graph.Config.N,vi s_0.State.Graph.Config.L,vi s_0.State.Graph.Config.R,vl bI s_0.State.Graph.Hashes,vl aO s_0.State.Graph.Edges,vl aT s_0.State.Slots,vl (ci .u64) s_0.Words.List,vi s_0.Words.At,vb s_0.On],vl qX oO] (.tup [.agg [vi r.1.State.Graph.Config.N,vi r.1.State.Graph.Config.L,vi r.1.State.Graph.Config.R,vl bI r.1.State.Graph.Hashes,vl aO r.1.State.Graph.Edges,vl aT r.1.State.Slots,vl (ci .u64) r.1.Words.List,vi r.1.Words.At,vb r.1.On],.v (.string r.2)]):=by
 refine bd 103 func28 ?_;refine W ?_;refine cm hm (fun hm=>?_) fun hm=>?_
 · obtain ⟨r2,h1,hm⟩:=bnd hm;refine W ?_;refine cq (jW h1) ?_;exact E
 obtain ⟨x4,h3,hm⟩:=bnd hm;refine W ?_;obtain ⟨⟨r6,r7⟩,h5,hm⟩:=bnd hm;refine cq (aG9 h5) ?_;refine W ?_;refine cm hm (fun hm=>?_) fun hm=>?_
 · obtain ⟨r9,h8,hm⟩:=bnd hm;refine W ?_;refine cq (jW h8) ?_;exact E
 refine W ?_;refine cm hm (fun hm=>?_) fun hm=>?_
 · cases hm
 obtain ⟨l11,h10,hm⟩:=bnd hm;refine W ?_;obtain ⟨⟨r13,r14⟩,h12,hm⟩:=bnd hm;refine cq (aGa h12) ?_;refine W ?_;refine cm hm (fun hm=>?_) fun hm=>?_
 · obtain ⟨r16,h15,hm⟩:=bnd hm;refine W ?_;refine cq (jW h15) ?_;exact E
 refine W ?_;refine cm hm (fun hm=>?_) fun hm=>?_
 · refine W ?_;obtain ⟨⟨r18,r19⟩,h17,hm⟩:=bnd hm;refine cq (aIx h17) ?_;exact E
 refine W ?_;refine bU (.agg [vi r6,vu 0,vu 0,.v (.string ⟨#[]⟩)]) ?_;refine V ?_;refine AWp.seqJ (fun s=> ∃s_2 t4 aQw aKh aDp,s=⟨103,(aE (aE (aE (aE (aE fa 2 (.adr 1 0)) 4 (.adr 2 0)) 7 (vi aQw)) 10 (vl (ci .u64) aKh)) 12 (.adr 3 0)),⟨(upd (upd (upd aZ 1 (.cells 1 [vi s_2.State.Graph.Config.N,vi s_2.State.Graph.Config.L,vi s_2.State.Graph.Config.R,vl bI s_2.State.Graph.Hashes,vl aO s_2.State.Graph.Edges,vl aT s_2.State.Slots,vl (ci .u64) s_2.Words.List,vi s_2.Words.At,vb s_2.On] 0)) 2 (.cells 1 [vi t4.State.Graph.Config.N,vi t4.State.Graph.Config.L,vi t4.State.Graph.Config.R,vl bI t4.State.Graph.Hashes,vl aO t4.State.Graph.Edges,vl aT t4.State.Slots,vl (ci .u64) t4.Words.List,vi t4.Words.At,vb t4.On] 0)) 3 (.cells 1 [vi aDp.Do,vu aDp.A,vu aDp.B,.v (.string aDp.Text)] 0)),64⟩⟩∧aD7 s_2 t4 aQw aKh aDp=some r) ?_ ?_
 ·
  refine W ?_;refine cm hm (fun hm=>?_) fun hm=>?_
  · obtain ⟨x26,h25,hm⟩:=bnd hm;refine W ?_;refine ⟨_,?_,s_0,(aH.mk (aC.mk (aF.mk (aU.mk 0 0 0) [] []) []) (aR.mk [] 0) false),r7,r13,(bD.mk r6 x26 0 ⟨#[]⟩),rfl,hm⟩;refine St.Le.trans (aGz 1 (ys:=[.v (.int .i64 (((((aH.mk (aC.mk (aF.mk (aU.mk 0 0 0) [] []) []) (aR.mk [] 0) false).State).Graph).Config).N)),.v (.int .i64 (((((aH.mk (aC.mk (aF.mk (aU.mk 0 0 0) [] []) []) (aR.mk [] 0) false).State).Graph).Config).L)),.v (.int .i64 (((((aH.mk (aC.mk (aF.mk (aU.mk 0 0 0) [] []) []) (aR.mk [] 0) false).State).Graph).Config).R)),.sl (((((aH.mk (aC.mk (aF.mk (aU.mk 0 0 0) [] []) []) (aR.mk [] 0) false).State).Graph).Hashes).flatMap bI) ((((aH.mk (aC.mk (aF.mk (aU.mk 0 0 0) [] []) []) (aR.mk [] 0) false).State).Graph).Hashes).length false,.sl (((((aH.mk (aC.mk (aF.mk (aU.mk 0 0 0) [] []) []) (aR.mk [] 0) false).State).Graph).Edges).flatMap aO) ((((aH.mk (aC.mk (aF.mk (aU.mk 0 0 0) [] []) []) (aR.mk [] 0) false).State).Graph).Edges).length false,.sl ((((aH.mk (aC.mk (aF.mk (aU.mk 0 0 0) [] []) []) (aR.mk [] 0) false).State).Slots).flatMap aT) (((aH.mk (aC.mk (aF.mk (aU.mk 0 0 0) [] []) []) (aR.mk [] 0) false).State).Slots).length false,.sl ((((aH.mk (aC.mk (aF.mk (aU.mk 0 0 0) [] []) []) (aR.mk [] 0) false).Words).List).flatMap (ci .u64)) (((aH.mk (aC.mk (aF.mk (aU.mk 0 0 0) [] []) []) (aR.mk [] 0) false).Words).List).length false,.v (.int .i64 (((aH.mk (aC.mk (aF.mk (aU.mk 0 0 0) [] []) []) (aR.mk [] 0) false).Words).At)),.v (.bool ((aH.mk (aC.mk (aF.mk (aU.mk 0 0 0) [] []) []) (aR.mk [] 0) false).On))]) Z3 (.cons (.data _ (.v _)) (.cons (.data _ (.v _)) (.cons (.data _ (.v _)) (.cons (.nil false) (.cons (.nil false) (.cons (.nil false) (.cons (.nil false) (.cons (.data _ (.v _)) (.cons (.data _ (.v _)) .nil)))))))))) ?_;exact cn (fun j=>bif j==1 then 0 else bif j==2 then 1 else bif j==3 then 514 else 0)
  refine W ?_;refine ⟨_,?_,s_0,(aH.mk (aC.mk (aF.mk (aU.mk 0 0 0) [] []) []) (aR.mk [] 0) false),r7,r13,(bD.mk r6 0 0 ⟨#[]⟩),rfl,hm⟩;refine St.Le.trans (aGz 1 (ys:=[.v (.int .i64 (((((aH.mk (aC.mk (aF.mk (aU.mk 0 0 0) [] []) []) (aR.mk [] 0) false).State).Graph).Config).N)),.v (.int .i64 (((((aH.mk (aC.mk (aF.mk (aU.mk 0 0 0) [] []) []) (aR.mk [] 0) false).State).Graph).Config).L)),.v (.int .i64 (((((aH.mk (aC.mk (aF.mk (aU.mk 0 0 0) [] []) []) (aR.mk [] 0) false).State).Graph).Config).R)),.sl (((((aH.mk (aC.mk (aF.mk (aU.mk 0 0 0) [] []) []) (aR.mk [] 0) false).State).Graph).Hashes).flatMap bI) ((((aH.mk (aC.mk (aF.mk (aU.mk 0 0 0) [] []) []) (aR.mk [] 0) false).State).Graph).Hashes).length false,.sl (((((aH.mk (aC.mk (aF.mk (aU.mk 0 0 0) [] []) []) (aR.mk [] 0) false).State).Graph).Edges).flatMap aO) ((((aH.mk (aC.mk (aF.mk (aU.mk 0 0 0) [] []) []) (aR.mk [] 0) false).State).Graph).Edges).length false,.sl ((((aH.mk (aC.mk (aF.mk (aU.mk 0 0 0) [] []) []) (aR.mk [] 0) false).State).Slots).flatMap aT) (((aH.mk (aC.mk (aF.mk (aU.mk 0 0 0) [] []) []) (aR.mk [] 0) false).State).Slots).length false,.sl ((((aH.mk (aC.mk (aF.mk (aU.mk 0 0 0) [] []) []) (aR.mk [] 0) false).Words).List).flatMap (ci .u64)) (((aH.mk (aC.mk (aF.mk (aU.mk 0 0 0) [] []) []) (aR.mk [] 0) false).Words).List).length false,.v (.int .i64 (((aH.mk (aC.mk (aF.mk (aU.mk 0 0 0) [] []) []) (aR.mk [] 0) false).Words).At)),.v (.bool ((aH.mk (aC.mk (aF.mk (aU.mk 0 0 0) [] []) []) (aR.mk [] 0) false).On))]) Z3 (.cons (.data _ (.v _)) (.cons (.data _ (.v _)) (.cons (.data _ (.v _)) (.cons (.nil false) (.cons (.nil false) (.cons (.nil false) (.cons (.nil false) (.cons (.data _ (.v _)) (.cons (.data _ (.v _)) .nil)))))))))) ?_;exact cn (fun j=>bif j==1 then 0 else bif j==2 then 1 else bif j==3 then 514 else 0)
 rintro s ⟨s_2,t4,aQw,aKh,aDp,rfl,hm⟩;refine AWp.seqJ (fun s=> ∃s_2 t4 aDp,s=⟨103,(aE (aE (aE fa 2 (.adr 1 0)) 4 (.adr 2 0)) 12 (.adr 3 0)),⟨(upd (upd (upd aZ 1 (.cells 1 [vi s_2.State.Graph.Config.N,vi s_2.State.Graph.Config.L,vi s_2.State.Graph.Config.R,vl bI s_2.State.Graph.Hashes,vl aO s_2.State.Graph.Edges,vl aT s_2.State.Slots,vl (ci .u64) s_2.Words.List,vi s_2.Words.At,vb s_2.On] 0)) 2 (.cells 1 [vi t4.State.Graph.Config.N,vi t4.State.Graph.Config.L,vi t4.State.Graph.Config.R,vl bI t4.State.Graph.Hashes,vl aO t4.State.Graph.Edges,vl aT t4.State.Slots,vl (ci .u64) t4.Words.List,vi t4.Words.At,vb t4.On] 0)) 3 (.cells 1 [vi aDp.Do,vu aDp.A,vu aDp.B,.v (.string aDp.Text)] 0)),64⟩⟩∧aD8 s_2 t4 aDp=some r) ?_ ?_
 ·
  refine W ?_;refine cm hm (fun hm=>?_) fun hm=>?_
  · obtain ⟨x24,h23,hm⟩:=bnd hm;refine W ?_;exact Lr (fun j=>bif j==1 then 1 else bif j==2 then 2 else bif j==3 then 3 else 0)
  refine W ?_;exact Lr (fun j=>bif j==1 then 1 else bif j==2 then 2 else bif j==3 then 3 else 0)
 rintro s ⟨s_2,t4,aDp,rfl,hm⟩;refine W ?_;obtain ⟨⟨r21,r22⟩,h20,hm⟩:=bnd hm;refine cq (aLv h20) ?_;exact E
instance:Ct prog 28 (K2 prog kQ (vl qX) (t2 kQ vs) 28 jV):=⟨fun hm=>aLw hm⟩
def aCx(r_0:Int):Option (Bool):=
 some ((((decide (97≤r_0))&&(decide (r_0≤122)))||((decide (48≤r_0))&&(decide (r_0≤57))))||((decide (945≤r_0))&&(decide (r_0≤969))))
theorem aIq{r_0:Int}{r:Bool}(hm:aCx r_0=some r):bO prog 115 [.v (.int .i32 r_0)] (vb r):=by
 refine bd 25 func115 ?_;exact E
instance:Ct prog 115 (K1 prog (vk .i32) vb 115 aCx):=⟨fun hm=>aIq hm⟩
abbrev pF(rec1:ByteArray→List (List ByteArray)→List ByteArray→Int→Bool→Int→ByteArray→Nat→Option ((List (List ByteArray))×Int×Int))(eP:ByteArray)(dF:List (List ByteArray))(eJ:List ByteArray)(fF:Int)(dN:Bool)(fC:Int)(t14s:ByteArray)(t14p:Nat):Option ((List (List ByteArray))×Int×Int):=
 rec1 eP dF eJ fF dN (IntKind.i64.wrap (fC+1)) t14s t14p
abbrev aCa(rec1:ByteArray→List (List ByteArray)→List ByteArray→Int→Bool→Int→ByteArray→Nat→Option ((List (List ByteArray))×Int×Int))(eP:ByteArray)(dF:List (List ByteArray))(eJ:List ByteArray)(fF:Int)(dN:Bool)(fC:Int)(bI1:Int)(aZa:Int)(aDz:Bool)(t14s:ByteArray)(t14p:Nat):Option ((List (List ByteArray))×Int×Int):=
 (bif (aZa==10) then
  ((app dF [eJ]).bind fun l5=>
  pF rec1 eP l5 [] fF false fC t14s t14p)
 else
  (bif ((dN||(aZa==32))||(aZa==9)) then
   pF rec1 eP dF eJ fF dN fC t14s t14p
  else
   (bif (aZa==35) then
    pF rec1 eP dF eJ fF true fC t14s t14p
   else
    (bif (!aDz) then
     some ([],fC,2)
    else
     (bif (decide (fF<0)) then
      pF rec1 eP dF eJ bI1 dN fC t14s t14p
     else
      pF rec1 eP dF eJ fF dN fC t14s t14p)))))
abbrev aCb(dF:List (List ByteArray))(eJ:List ByteArray):Option ((List (List ByteArray))×Int×Int):=
 ((app dF [eJ]).bind fun l11=>
 some (l11,0,0))
def aH0(rec1:ByteArray→List (List ByteArray)→List ByteArray→Int→Bool→Int→ByteArray→Nat→Option ((List (List ByteArray))×Int×Int))(eP:ByteArray)(dF:List (List ByteArray))(eJ:List ByteArray)(fF:Int)(dN:Bool)(fC:Int)(t14s:ByteArray)(t14p:Nat):Option ((List (List ByteArray))×Int×Int):=
 (bif (decide (t14p<t14s.size)) then
  ((fX ((!dN)==true) false (aCx (((Utf8.decode t14s t14p).1:Nat):Int))).bind fun r3=>
  (bif ((decide (0≤fF))&&(!((!dN)&&r3))) then
   ((bIf eP fF ((t14p:Nat):Int)).bind fun l7=>
   ((app eJ [l7]).bind fun l9=>
   aCa rec1 eP dF l9 (-1) dN fC ((t14p:Nat):Int) (((Utf8.decode t14s t14p).1:Nat):Int) ((!dN)&&r3) t14s (t14p+(Utf8.decode t14s t14p).2)))
  else
   aCa rec1 eP dF eJ fF dN fC ((t14p:Nat):Int) (((Utf8.decode t14s t14p).1:Nat):Int) ((!dN)&&r3) t14s (t14p+(Utf8.decode t14s t14p).2)))
 else
  (bif (decide (0≤fF)) then
   ((bIf eP fF (eP.size:Int)).bind fun l13=>
   ((app eJ [l13]).bind fun l15=>
   aCb dF l15))
  else
   aCb dF eJ))
def uB:Nat→ByteArray→List (List ByteArray)→List ByteArray→Int→Bool→Int→ByteArray→Nat→Option ((List (List ByteArray))×Int×Int)
 |0=>fun _ _ _ _ _ _ _ _=>none
 |n+1=>aH0 (uB n)
def aB6(eP:ByteArray):Option ((List (List ByteArray))×Int×Int):=
 uB bC eP [] [] (-1) false 0 eP 0
theorem aQu{eP:ByteArray}{r:(List (List ByteArray))×Int×Int}(hm:aB6 eP=some r):bO prog 68 [.v (.string eP)] (.tup [.sl (r.1.flatMap (csl qX)) r.1.length false,.v (.int .i64 r.2.1),.v (.int .i64 r.2.2)]):=by
 refine bO.of_body func68 rfl ?_;simp only [ntmps68,List.length_cons,List.length_nil,Nat.reduceAdd,Nat.reduceSub,gD];unfold aB6 at hm;refine sr (N':=64) rfl ?_
 iterate 3 refine pA ?_
 refine fs ?_;refine sr (N':=128) rfl ?_;refine pA ?_;refine fs ?_;refine sr (N':=192) rfl ?_;refine pA ?_;refine fs ?_;refine sr (N':=256) rfl ?_;refine pA ?_;refine fs ?_;refine sr (N':=320) rfl ?_;refine pA ?_;refine fs ?_;refine sr (N':=384) rfl ?_;refine pA ?_;refine fs ?_;refine AWp.seq' ?_;refine sr (N':=448) rfl ?_;refine pA ?_;refine hp (id:=385) rfl rfl (aGi underlying9 Z1 Z5) ?_;refine fs ?_;refine AWp.block ?_;refine AWp.loopM (fun m s=> ∃(eP:ByteArray) (dF:List (List ByteArray)) (eJ:List ByteArray) (fF:Int) (dN:Bool) (fC:Int) (t14s:ByteArray) (t14p:Nat),s=(⟨80,(aE (aE (aE (aE (aE (aE (aE (fun _=>AV.any) 0 (.v (.string eP))) 5 (.own 1 0 dF.length)) 6 (.own 2 0 eJ.length)) 7 (.v (.int .i64 fF))) 8 (.v (.bool dN))) 9 (.v (.int .i64 fC))) 14 (.adr 3 0)),⟨(upd (upd (upd aZ 1 (.cells 1 (dF.flatMap (csl qX)) 0)) 2 (.cells 1 (eJ.flatMap qX) 0)) 3 (.iter t14s t14p)),64⟩⟩:St)∧uB m eP dF eJ fF dN fC t14s t14p=some r) bC ?_ ?_ ?_
 · rintro s ⟨_,_,_,_,_,_,_,_,_,h⟩;cases h
 · refine ⟨_,?_,eP,[],[],(-1),false,0,eP,0,rfl,hm⟩;refine St.Le.trans (rQ 5 900005 1 Z1 Z5) ?_;refine St.Le.trans (rQ 6 900006 1 Z1 Z5) ?_;exact cC (fun j=>bif j==1 then 900005 else bif j==2 then 900006 else bif j==3 then 385 else 0) (bH _ _ (iS Z1 rfl Z7) (wV (wV (wV (wO (wO (wV cY))))))) (hW (bX (iX Z3) (eU CFs (eU (CFl CFs) cM))))
 ·
  rintro n1 s ⟨eP,dF,eJ,fF,dN,fC,t14s,t14p,rfl,hm⟩;replace hm:aH0 (uB n1) eP dF eJ fF dN fC t14s t14p=some r:=hm;unfold aH0 at hm;refine sr (N':=128) rfl ?_;refine aX3 hm (fun h1 hm=>?_) (fun h1 hm=>?_)
  ·
   refine hp (id:=64) rfl rfl (aAp Z1 Z3 (of_decide_eq_true h1)) ?_;refine pA ?_;refine fs ?_;refine AWp.seq' ?_;refine AWp.condT Z1 ?_;refine AWp.skip ?_;refine bJ ?_;refine AWp.block ?_;refine sr (N':=192) rfl ?_
   iterate 4 refine pA ?_
   refine fs ?_;refine sr (N':=256) rfl ?_
   iterate 4 first|refine pA ?_|refine pB ?_
   obtain ⟨r3,h2,hm⟩:=bnd hm;refine aW.callQG (r:= .v (.bool r3)) Zd rfl Z2 Z1 bU9 (fun hb H=>(.cons (td (Zh hb) (.v _)) .nil)) (fun hb=>aIq (gN h2 hb)) ?_
   iterate 2 refine pA ?_
   refine fs ?_;refine AWp.seqJ (fun s=> ∃(eP:ByteArray) (dF:List (List ByteArray)) (eJ:List ByteArray) (fF:Int) (dN:Bool) (fC:Int) (bI1:Int) (aZa:Int) (aDz:Bool) (t14s:ByteArray) (t14p:Nat),s=(⟨80,(aE (aE (aE (aE (aE (aE (aE (aE (aE (aE (fun _=>AV.any) 0 (.v (.string eP))) 5 (.own 1 0 dF.length)) 6 (.own 2 0 eJ.length)) 7 (.v (.int .i64 fF))) 8 (.v (.bool dN))) 9 (.v (.int .i64 fC))) 10 (.v (.int .i64 bI1))) 11 (.v (.int .i32 aZa))) 12 (.v (.bool aDz))) 14 (.adr 3 0)),⟨(upd (upd (upd aZ 1 (.cells 1 (dF.flatMap (csl qX)) 0)) 2 (.cells 1 (eJ.flatMap qX) 0)) 3 (.iter t14s t14p)),64⟩⟩:St)∧aCa (uB n1) eP dF eJ fF dN fC bI1 aZa aDz t14s t14p=some r) ?_ ?_
   ·
    refine sr (N':=320) rfl ?_
    iterate 6 first|refine pA ?_|refine pB ?_
    refine fs ?_;refine AWp.condM hm Z1 (fun _ hm=>?_) (fun _ hm=>?_)
    ·
     refine sr (N':=384) rfl ?_
     iterate 4 refine pA ?_
     obtain ⟨l7,h6,hm⟩:=bnd hm;refine pu rfl (bDa underlying9 Z1 (aEc Z1 (bCw h6).1) (aEc Z1 (bCw h6).2) h6) ?_;refine hp (id:=325) rfl rfl (iT CFs (l:=[l7]) underlying69 sz9 zc9 Z5 Zd Zd Zd (by simp only [go_sem,Nat.reduceBEq];try rfl) (by kernel_rfl)) ?_;obtain ⟨l9,h8,hm⟩:=bnd hm;refine hp (id:=326) rfl rfl (tH CFs underlying69 underlying69 rfl in9 ts9 (by rw [tb9];decide) (by rw [tb9];decide) tz9 Zd Zd Z1 Z3 Z6 (wI CFs Z1 Z3 Z6) rfl Z5 h8) ?_;refine pA ?_;refine fs ?_;refine AWp.reg 64 (N':=448) rfl ?_;refine pA ?_;refine aW.fin ?_;refine wE ?_;refine ⟨_,?_,eP,dF,l9,(-1),dN,fC,((t14p:Nat):Int),(((Utf8.decode t14s t14p).1:Nat):Int),((!dN)&&r3),t14s,(t14p+(Utf8.decode t14s t14p).2),rfl,hm⟩;exact cC (fun j=>bif j==1 then 1 else bif j==2 then 326 else bif j==3 then 3 else 0) (bH _ _ (iS Z1 rfl Z7) (wV (wV (wV (wV (wV (wV (wO (wO (wV cY)))))))))) (hW (bX (iX Z3) (eU CFs (eU (CFl CFs) cM))))
    · refine AWp.skip ?_;refine wE ?_;refine ⟨_,?_,eP,dF,eJ,fF,dN,fC,((t14p:Nat):Int),(((Utf8.decode t14s t14p).1:Nat):Int),((!dN)&&r3),t14s,(t14p+(Utf8.decode t14s t14p).2),rfl,hm⟩;exact cC (fun j=>bif j==1 then 1 else bif j==2 then 2 else bif j==3 then 3 else 0) (bH _ _ (iS Z1 rfl Z7) (wV (wV (wV (wV (wV (wV (wO (wO (wV cY)))))))))) (hW (bX (iX Z3) (eU CFs (eU (CFl CFs) cM))))
   ·
    rintro s ⟨eP,dF,eJ,fF,dN,fC,bI1,aZa,aDz,t14s,t14p,rfl,hm⟩;unfold aCa at hm;refine AWp.seqJ (fun s=> ∃(eP:ByteArray) (dF:List (List ByteArray)) (eJ:List ByteArray) (fF:Int) (dN:Bool) (fC:Int) (t14s:ByteArray) (t14p:Nat),s=(⟨80,(aE (aE (aE (aE (aE (aE (aE (fun _=>AV.any) 0 (.v (.string eP))) 5 (.own 1 0 dF.length)) 6 (.own 2 0 eJ.length)) 7 (.v (.int .i64 fF))) 8 (.v (.bool dN))) 9 (.v (.int .i64 fC))) 14 (.adr 3 0)),⟨(upd (upd (upd aZ 1 (.cells 1 (dF.flatMap (csl qX)) 0)) 2 (.cells 1 (eJ.flatMap qX) 0)) 3 (.iter t14s t14p)),64⟩⟩:St)∧pF (uB n1) eP dF eJ fF dN fC t14s t14p=some r) ?_ ?_
    ·
     refine AWp.block ?_;refine sr (N':=128) rfl ?_
     iterate 3 refine pA ?_
     refine fs ?_;refine AWp.condM hm Z1 (fun _ hm=>?_) (fun _ hm=>?_)
     ·
      refine AWp.seq' ?_;refine AWp.weaken (aL8 CFs 6 2 Z1 Z3 Z6) ?_;refine AWp.reg 64 (N':=192) rfl ?_
      iterate 2 refine pA ?_
      refine hp (id:=130) rfl rfl (iT (CFl CFs) (l:=[eJ]) underlying65 bT5 bTl Z5 Zd Zd Zd (by simp only [go_sem,Nat.reduceBEq];try rfl) (by kernel_rfl)) ?_;obtain ⟨l5,h4,hm⟩:=bnd hm;refine hp (id:=131) rfl rfl (tH (CFl CFs) underlying65 underlying65 rfl bS8 bTb (by rw [bIl];decide) (by rw [bIl];decide) bTd Zd Zd Z1 Z3 Z6 (wI (CFl CFs) Z1 Z3 Z6) rfl Z5 h4) ?_;refine pA ?_;refine fs ?_;refine sr (N':=256) rfl ?_;refine pA ?_;refine fs ?_;refine AWp.reg 64 (N':=320) rfl ?_;refine pA ?_;refine aW.fin ?_;refine gZ ?_;refine wE ?_;refine ⟨_,?_,eP,l5,[],fF,false,fC,t14s,t14p,rfl,hm⟩;refine St.Le.trans (rQ 6 900006 1 Z1 Z5) ?_;exact cC (fun j=>bif j==1 then 131 else bif j==2 then 900006 else bif j==3 then 3 else 0) (bH _ _ (iS Z1 rfl Z7) (wV (wV (wV (wO (wO (wV cY))))))) (hW (bX (iX Z3) (eU CFs (eU (CFl CFs) cM))))
     ·
      refine sr (N':=192) rfl ?_
      iterate 10 first|refine pA ?_|refine pB ?_
      refine fs ?_;refine AWp.condM hm Z1 (fun _ hm=>?_) (fun _ hm=>?_)
      · refine AWp.skip ?_;refine gZ ?_;refine wE ?_;refine ⟨_,?_,eP,dF,eJ,fF,dN,fC,t14s,t14p,rfl,hm⟩;exact cC (fun j=>bif j==1 then 1 else bif j==2 then 2 else bif j==3 then 3 else 0) (bH _ _ (iS Z1 rfl Z7) (wV (wV (wV (wO (wO (wV cY))))))) (hW (bX (iX Z3) (eU CFs (eU (CFl CFs) cM))))
      ·
       refine sr (N':=256) rfl ?_
       iterate 3 refine pA ?_
       refine fs ?_;refine AWp.condM hm Z1 (fun _ hm=>?_) (fun _ hm=>?_)
       · refine AWp.reg 64 (N':=320) rfl ?_;refine pA ?_;refine aW.fin ?_;refine gZ ?_;refine wE ?_;refine ⟨_,?_,eP,dF,eJ,fF,true,fC,t14s,t14p,rfl,hm⟩;exact cC (fun j=>bif j==1 then 1 else bif j==2 then 2 else bif j==3 then 3 else 0) (bH _ _ (iS Z1 rfl Z7) (wV (wV (wV (wO (wO (wV cY))))))) (hW (bX (iX Z3) (eU CFs (eU (CFl CFs) cM))))
       ·
        refine sr (N':=320) rfl ?_
        iterate 3 refine pA ?_
        refine fs ?_;refine AWp.condM hm Z1 (fun _ hm=>?_) (fun _ hm=>?_)
        ·
         refine sr (N':=384) rfl ?_
         iterate 4 refine pA ?_
         refine fs ?_;refine AWp.ret ?_;refine sK ?_;refine bCp ?_;refine sK ?_;refine tG ?_;refine sK ?_;refine hZ ?_;cases hm;exact bE6 (.inr rfl) Tryz.results68 (tdn Z1) (td Z1 (.v _)) (td Z1 (.v _))
        ·
         refine sr (N':=384) rfl ?_
         iterate 3 refine pA ?_
         refine fs ?_;refine AWp.condM hm Z1 (fun _ hm=>?_) (fun _ hm=>?_)
         ·
          refine AWp.reg 64 (N':=448) rfl ?_
          iterate 2 refine pA ?_
          refine aW.fin ?_;refine gZ ?_;refine wE ?_;refine ⟨_,?_,eP,dF,eJ,bI1,dN,fC,t14s,t14p,rfl,hm⟩;exact cC (fun j=>bif j==1 then 1 else bif j==2 then 2 else bif j==3 then 3 else 0) (bH _ _ (iS Z1 rfl Z7) (wV (wV (wV (wO (wO (wV cY))))))) (hW (bX (iX Z3) (eU CFs (eU (CFl CFs) cM))))
         · refine AWp.skip ?_;refine gZ ?_;refine wE ?_;refine ⟨_,?_,eP,dF,eJ,fF,dN,fC,t14s,t14p,rfl,hm⟩;exact cC (fun j=>bif j==1 then 1 else bif j==2 then 2 else bif j==3 then 3 else 0) (bH _ _ (iS Z1 rfl Z7) (wV (wV (wV (wO (wO (wV cY))))))) (hW (bX (iX Z3) (eU CFs (eU (CFl CFs) cM))))
    ·
     rintro s ⟨eP,dF,eJ,fF,dN,fC,t14s,t14p,rfl,hm⟩;unfold pF at hm;refine AWp.reg 64 (N':=128) rfl ?_
     iterate 3 refine pA ?_
     refine aW.fin ?_;refine gZ ?_;refine fR ?_;refine ⟨_,?_,eP,dF,eJ,fF,dN,(IntKind.i64.wrap (fC+1)),t14s,t14p,rfl,hm⟩;exact cC (fun j=>bif j==1 then 1 else bif j==2 then 2 else bif j==3 then 3 else 0) (bH _ _ (iS Z1 rfl Z7) (wV (wV (wV (wO (wO (wV cY))))))) (hW (bX (iX Z3) (eU CFs (eU (CFl CFs) cM))))
  ·
   refine hp (id:=64) rfl rfl (aCr Z1 Z3 (of_decide_eq_false h1)) ?_;refine pA ?_;refine fs ?_;refine AWp.seq' ?_;refine AWp.condF Z1 ?_;refine AWp.exit ?_;refine iE ?_;refine gG ?_;refine gF ?_;refine bJ ?_;refine AWp.seqJ (fun s=> ∃(dF:List (List ByteArray)) (eJ:List ByteArray),s=(⟨80,(aE (aE (fun _=>AV.any) 5 (.own 1 0 dF.length)) 6 (.own 2 0 eJ.length)),⟨(upd (upd aZ 1 (.cells 1 (dF.flatMap (csl qX)) 0)) 2 (.cells 1 (eJ.flatMap qX) 0)),64⟩⟩:St)∧aCb dF eJ=some r) ?_ ?_
   ·
    refine sr (N':=192) rfl ?_
    iterate 2 refine pA ?_
    refine fs ?_;refine AWp.condM hm Z1 (fun _ hm=>?_) (fun _ hm=>?_)
    ·
     refine AWp.reg 64 (N':=256) rfl ?_
     iterate 3 refine pA ?_
     obtain ⟨l13,h12,hm⟩:=bnd hm;refine pu rfl (bDa underlying9 Z1 (aEc Z1 (bCw h12).1) (aUt _) h12) ?_;refine hp (id:=196) rfl rfl (iT CFs (l:=[l13]) underlying69 sz9 zc9 Z5 Zd Zd Zd (by simp only [go_sem,Nat.reduceBEq];try rfl) (by kernel_rfl)) ?_;obtain ⟨l15,h14,hm⟩:=bnd hm;refine hp (id:=197) rfl rfl (tH CFs underlying69 underlying69 rfl in9 ts9 (by rw [tb9];decide) (by rw [tb9];decide) tz9 Zd Zd Z1 Z3 Z6 (wI CFs Z1 Z3 Z6) rfl Z5 h14) ?_;refine pA ?_;refine aW.fin ?_;refine wE ?_;refine ⟨_,?_,dF,l15,rfl,hm⟩;exact cC (fun j=>bif j==1 then 1 else bif j==2 then 197 else 0) (wO (wO cY)) (hW (eU CFs (eU (CFl CFs) cM)))
    · refine AWp.skip ?_;refine wE ?_;refine ⟨_,?_,dF,eJ,rfl,hm⟩;exact cC (fun j=>bif j==1 then 1 else bif j==2 then 2 else 0) (wO (wO cY)) (hW (eU CFs (eU (CFl CFs) cM)))
   ·
    rintro s ⟨dF,eJ,rfl,hm⟩;unfold aCb at hm;refine AWp.seq' ?_;refine AWp.weaken (aL8 CFs 6 2 Z1 Z3 Z6) ?_;refine AWp.reg 64 (N':=128) rfl ?_
    iterate 2 refine pA ?_
    refine hp (id:=66) rfl rfl (iT (CFl CFs) (l:=[eJ]) underlying65 bT5 bTl Z5 Zd Zd Zd (by simp only [go_sem,Nat.reduceBEq];try rfl) (by kernel_rfl)) ?_;obtain ⟨l11,h10,hm⟩:=bnd hm;refine hp (id:=67) rfl rfl (tH (CFl CFs) underlying65 underlying65 rfl bS8 bTb (by rw [bIl];decide) (by rw [bIl];decide) bTd Zd Zd Z1 Z3 Z6 (wI (CFl CFs) Z1 Z3 Z6) rfl Z5 h10) ?_
    iterate 3 refine pA ?_
    refine fs ?_;refine AWp.ret ?_;cases hm;exact bE6 (.inr rfl) Tryz.results68 (tdo (CFl CFs) Z1 Z3 Z6) (td Z1 (.v _)) (td Z1 (.v _))
instance:Ct prog 68 (K1 prog vs (t3 (vl (csl qX)) vi vi) 68 aB6):=⟨fun hm=>aQu hm⟩
attribute [local semireducible] bC
end Go.Proofs.YtkdohhmacfoolaaGreatDoor
