/- Facts. No condition. -/
import Derived.Test.YtkdohhmacfoolaaGreatNpGI2
set_option linter.unusedVariables false
set_option linter.unusedSimpArgs false
set_option maxRecDepth 20000
set_option maxHeartbeats 4000000
namespace Go.Proofs.YtkdohhmacfoolaaGreat
open Go.Proofs.Tryz Go Go.AM
attribute [local irreducible] bC
@[go_sem] theorem bD9(x0:AV)(xs:List AV):aO prog 104 (.ptr (x0::xs)) 1=some (.ptr xs):=by kernel_rfl
@[go_sem] theorem bDm(i o:Nat):aO prog 102 (.adr i o) 0=some (.adr i (o+0)):=by kernel_rfl
@[go_sem] theorem bDs(i o:Nat):aO prog 102 (.adr i o) 1=some (.adr i (o+1)):=by kernel_rfl
@[go_sem] theorem bDx(i o:Nat):aO prog 102 (.adr i o) 2=some (.adr i (o+2)):=by kernel_rfl
@[go_sem] theorem bDz(i o:Nat):aO prog 104 (.adr i o) 0=some (.adr i (o+0)):=by kernel_rfl
@[go_sem] theorem bE1(i o:Nat):aO prog 104 (.adr i o) 1=some (.adr i (o+1)):=by kernel_rfl
@[go_sem] theorem bE4(i o:Nat):aO prog 120 (.adr i o) 0=some (.adr i (o+0)):=by kernel_rfl
@[go_sem] theorem bE7(i o:Nat):aO prog 120 (.adr i o) 1=some (.adr i (o+1)):=by kernel_rfl
@[go_sem] theorem bIj(i o:Nat):aO prog 23 (.adr i o) 0=some (.adr i (o+0)):=by kernel_rfl
@[go_sem] theorem bIq(i o:Nat):aO prog 23 (.adr i o) 1=some (.adr i (o+1)):=by kernel_rfl
@[go_sem] theorem bIv(i o:Nat):aO prog 23 (.adr i o) 2=some (.adr i (o+2)):=by kernel_rfl
@[go_sem] theorem bJ1(i o:Nat):aO prog 30 (.adr i o) 0=some (.adr i (o+0)):=by kernel_rfl
@[go_sem] theorem bJ5(i o:Nat):aO prog 30 (.adr i o) 1=some (.adr i (o+3)):=by kernel_rfl
@[go_sem] theorem bJb(i o:Nat):aO prog 30 (.adr i o) 2=some (.adr i (o+4)):=by kernel_rfl
@[go_sem] theorem bJe(i o:Nat):aO prog 33 (.adr i o) 0=some (.adr i (o+0)):=by kernel_rfl
@[go_sem] theorem bJi(i o:Nat):aO prog 33 (.adr i o) 1=some (.adr i (o+5)):=by kernel_rfl
theorem bK2(i o:Nat)(k:IntKind):pY prog 69 (.adr i o) (.v (.int k 0))=some (.adr i o):=by kernel_rfl
theorem bK4(i o:Nat)(k:IntKind):pY prog 69 (.adr i o) (.v (.int k 1))=some (.adr i (o+1)):=by kernel_rfl
attribute [go_sem] bK2 bK4
@[go_sem] theorem bN2(H:aM)(x0 x1 x2:AV)(xs:List AV):dD prog H 102 (.ptr (x0::x1::x2::xs))=some (.agg [x0,x1,x2]):=by kernel_rfl
@[go_sem] theorem bN5(H:aM)(x0 x1:AV)(xs:List AV):dD prog H 104 (.ptr (x0::x1::xs))=some (.agg [x0,x1]):=by kernel_rfl
@[go_sem] theorem bN9(H:aM)(x0 x1:AV)(xs:List AV):dD prog H 120 (.ptr (x0::x1::xs))=some (.agg [x0,x1]):=by kernel_rfl
@[go_sem] theorem bNc(H:aM)(x0:AV)(xs:List AV):dD prog H 130 (.ptr (x0::xs))=some (.agg [x0]):=by kernel_rfl
@[go_sem] theorem bQ1(H:aM)(x0 x1 x2:AV)(xs:List AV):dD prog H 23 (.ptr (x0::x1::x2::xs))=some (.agg [x0,x1,x2]):=by kernel_rfl
@[go_sem] theorem bQa(H:aM)(x:AV)(xs:List AV):dD prog H 27 (.ptr (x::xs))=some x:=by kernel_rfl
@[go_sem] theorem bQg(H:aM)(x:AV)(xs:List AV):dD prog H 28 (.ptr (x::xs))=some x:=by kernel_rfl
@[go_sem] theorem bU5(H:aM)(x:AV)(xs:List AV):dD prog H 3 (.ptr (x::xs))=some x:=by kernel_rfl
@[go_sem] theorem bQm(H:aM)(x0 x1 x2 x3 x4:AV)(xs:List AV):dD prog H 30 (.ptr (x0::x1::x2::x3::x4::xs))=some (.agg [x0,x1,x2,x3,x4]):=by kernel_rfl
@[go_sem] theorem bQq(H:aM)(x:AV)(xs:List AV):dD prog H 31 (.ptr (x::xs))=some x:=by kernel_rfl
@[go_sem] theorem bQt(H:aM)(x0 x1 x2 x3 x4 x5:AV)(xs:List AV):dD prog H 33 (.ptr (x0::x1::x2::x3::x4::x5::xs))=some (.agg [x0,x1,x2,x3,x4,x5]):=by kernel_rfl
@[go_sem] theorem bUc(H:aM)(x:AV)(xs:List AV):dD prog H 4 (.ptr (x::xs))=some x:=by kernel_rfl
@[go_sem] theorem bR6(H:aM)(x:AV)(xs:List AV):dD prog H 43 (.ptr (x::xs))=some x:=by kernel_rfl
@[go_sem] theorem bRf(H:aM)(x0 x1:AV)(xs:List AV):dD prog H 69 (.ptr (x0::x1::xs))=some (.agg [x0,x1]):=by kernel_rfl
@[go_sem] theorem bI1(H:aM)(k:IntKind)(n:Int):rO prog H 3 43 (.v (.int k n))=some (.v (.int .u64 (IntKind.u64.wrap n))):=mG underlying3 underlying43
@[go_sem] theorem bCt(H:aM)(k:IntKind)(n:Int):rO prog H 3 198 (.v (.int k n))=some (.v (.int .u64 (IntKind.u64.wrap n))):=mG underlying3 underlying198
@[go_sem] theorem bI6(H:aM)(k:IntKind)(n:Int):rO prog H 5 43 (.v (.int k n))=some (.v (.int .u64 (IntKind.u64.wrap n))):=mG underlying5 underlying43
def jO(bO:(aC→aC→Option (Int)))(rec1:List aC→Int→Int→Option (List aC))(aB:List aC)(i_8:Int)(j_9:Int):Option (List aC):=
 (bif (decide (i_8<j_9)) then
  ((idx aB j_9).bind fun x2=>
  ((idx aB i_8).bind fun x4=>
  ((idx aB i_8).bind fun x6=>
  ((stt aB i_8 x2).bind fun l8=>
  ((idx l8 j_9).bind fun x10=>
  ((stt l8 j_9 x4).bind fun l12=>
  rec1 l12 (IntKind.i64.wrap (i_8+1)) (IntKind.i64.wrap (j_9-1))))))))
 else
  some aB)
def gS(bO:(aC→aC→Option (Int))):Nat→List aC→Int→Int→Option (List aC)
 |0=>fun _ _ _=>none
 |n+1=>jO bO (gS bO n)
def kH(aB:List aC)(a_1:Int)(b_2:Int)(bO:(aC→aC→Option (Int))):Option (List aC):=
 gS bO bC aB a_1 (IntKind.i64.wrap (b_2-1))
theorem aAj{aB:List aC}{a_1:Int}{b_2:Int}{bO:(aC→aC→Option (Int))}{r:List aC}(hm:kH aB a_1 b_2 bO=some r){jG:FuncId}{eK:List AV}(mS: ∀a,a∈eK→AM.Data a)(oX:(Program.funcs prog)[jG]?.any (fun fn=>fn.body.isSome&&fn.name != "runtime.NumGoroutine")=true)(oY: ∀ {x0 x1 r},bO x0 x1=some r→dU prog jG ([.agg [.v (.int .u64 x0.x0),.v (.int .u64 x0.x1)],.agg [.v (.int .u64 x1.x0),.v (.int .u64 x1.x1)]]++eK) (.v (.int .i64 r))){H:aM}{i0:Nat}(he:H.ent i0= .cells 2 (aB.flatMap bS) 0):dR prog 160 [.own i0 0 aB.length,.v (.int .i64 a_1),.v (.int .i64 b_2),.clo (.func jG) [] eK] H (.tup []) (H.put i0 (.cells 2 (r.flatMap bS) 0)):=by
 refine dR.of_bodyM func160 rfl he ?_;generalize H.ent=h0;simp only [ntmps160,List.length_cons,List.length_nil,Nat.reduceAdd,Nat.reduceSub];unfold kH at hm;refine sN 64 ?_
 iterate 2 refine pA ?_
 refine fs (sN 128 ?_)
 iterate 3 refine pA ?_
 refine fs (AWp.block (AWp.loopM (fun m s=> ∃(aB:List aC) (i_8:Int) (j_9:Int),s=(⟨34,(aF (aF (aF (fun _=>AV.any) 0 (.own i0 0 aB.length)) 8 (.v (.int .i64 i_8))) 9 (.v (.int .i64 j_9))),⟨(upd h0 i0 (.cells 2 (aB.flatMap bS) 0)),64⟩⟩:St)∧gS bO m aB i_8 j_9=some r) bC ?_ ?_ ?_))
 · rintro s ⟨_,_,_,_,h⟩;cases h
 · refine ⟨_,?_,aB,a_1,(IntKind.i64.wrap (b_2-1)),rfl,hm⟩;exact bM (aD 9 _ Z1 (aD 8 _ Z1 (aD 0 _ (bN Z1 Z6) bF))) Zc
 ·
  rintro n1 s ⟨aB,i_8,j_9,rfl,hm⟩;replace hm:jO bO (gS bO n1) aB i_8 j_9=some r:=hm;unfold jO at hm;refine AWp.seq' (sN 128 ?_)
  iterate 3 refine pA ?_
  refine fs (AWp.condM hm Z1 (fun _ hm=>?_) (fun _ hm=>?_))
  ·
   refine AWp.skip (aV (AWp.block (sd mix (by kernel_rfl) (N':=192) rfl ?_)))
   iterate 6 refine pA ?_
   obtain ⟨x2,h1,hm⟩:=bnd hm;refine pu rfl (aN underlying40 fR Z1 Za Z6 Z1 h1) ?_;refine pu rfl (bL aJ Z1 Za h1 Zb) ?_
   iterate 2 refine pA ?_
   obtain ⟨x4,h3,hm⟩:=bnd hm;refine pu rfl (aN underlying40 fR Z1 Za Z6 Z1 h3) ?_;refine pu rfl (bL aJ Z1 Za h3 Zb) ?_;obtain ⟨x6,h5,hm⟩:=bnd hm;refine pu rfl (aN underlying40 fR Z1 Za Z6 Z1 h5) ?_;obtain ⟨l8,h7,hm⟩:=bnd hm;have qh7:=cX h7;refine aI.heap0 (id:=141) rfl (eP aJ fR Z1 Z1 Za rfl h7) ?_;obtain ⟨x10,h9,hm⟩:=bnd hm;refine pu rfl (aN underlying40 fR Z1 Za Z6 Z1 h9) ?_;obtain ⟨l12,h11,hm⟩:=bnd hm;have qh11:=cX h11;refine aI.heap0 (id:=143) rfl (eP aJ fR Z1 Z1 Za rfl h11) ?_;refine fs (sN 256 ?_)
   iterate 3 refine pA ?_
   refine fs (AWp.reg 64 (N':=320) rfl ?_)
   iterate 3 refine pA ?_
   refine aI.fin (eR (cN ?_));refine ⟨_,?_,l12,(IntKind.i64.wrap (i_8+1)),(IntKind.i64.wrap (j_9-1)),rfl,hm⟩;exact bM (aD 9 _ Z1 (aD 8 _ Z1 (aD 0 _ (bN Z1 Z6) bF))) Zc
  · refine AWp.exit (dJ (cY (cU ?_)));cases hm;exact aL8 (.inl rfl) Tryz.results160 Zc
abbrev cG(bO:(aC→aC→Option (Int)))(rec1:List aC→Int→Int→Int→Int→Option (Bool×List aC))(aB:List aC)(a_1:Int)(b_2:Int)(i_9:Int)(fS:Int):Option (Bool×List aC):=
 rec1 aB a_1 b_2 i_9 (IntKind.i64.wrap (fS+1))
def fK(bO:(aC→aC→Option (Int)))(rec1:List aC→Int→Int→Int→Int→Option (Bool×List aC))(rec3:List aC→Int→Int→Int→Int→Int→Option (Bool×List aC))(aB:List aC)(a_1:Int)(b_2:Int)(i_9:Int)(fS:Int)(oI:Int):Option (Bool×List aC):=
 (bif (decide (oI<b_2)) then
  ((idx aB oI).bind fun x20=>
  ((idx aB (IntKind.i64.wrap (oI-1))).bind fun x22=>
  ((bO x20 x22).bind fun r24=>
  (bif (!(decide (r24<0))) then
   cG bO rec1 aB a_1 b_2 i_9 fS
  else
   ((idx aB (IntKind.i64.wrap (oI-1))).bind fun x26=>
   ((idx aB oI).bind fun x28=>
   ((idx aB oI).bind fun x30=>
   ((stt aB oI x26).bind fun l32=>
   ((idx l32 (IntKind.i64.wrap (oI-1))).bind fun x34=>
   ((stt l32 (IntKind.i64.wrap (oI-1)) x28).bind fun l36=>
   rec3 l36 a_1 b_2 i_9 fS (IntKind.i64.wrap (oI+1))))))))))))
 else
  cG bO rec1 aB a_1 b_2 i_9 fS)
def eC(bO:(aC→aC→Option (Int)))(rec1:List aC→Int→Int→Int→Int→Option (Bool×List aC)):Nat→List aC→Int→Int→Int→Int→Int→Option (Bool×List aC)
 |0=>fun _ _ _ _ _ _=>none
 |n+1=>fK bO rec1 (eC bO rec1 n)
abbrev cZ(bO:(aC→aC→Option (Int)))(rec1:List aC→Int→Int→Int→Int→Option (Bool×List aC))(aB:List aC)(a_1:Int)(b_2:Int)(i_9:Int)(fS:Int):Option (Bool×List aC):=
 (bif (decide (2≤(IntKind.i64.wrap (b_2-i_9)))) then
  eC bO rec1 bC aB a_1 b_2 i_9 fS (IntKind.i64.wrap (i_9+1))
 else
  cG bO rec1 aB a_1 b_2 i_9 fS)
def fL(bO:(aC→aC→Option (Int)))(rec1:List aC→Int→Int→Int→Int→Option (Bool×List aC))(rec4:List aC→Int→Int→Int→Int→Int→Option (Bool×List aC))(aB:List aC)(a_1:Int)(b_2:Int)(i_9:Int)(fS:Int)(gP:Int):Option (Bool×List aC):=
 (bif (decide (1≤gP)) then
  ((idx aB gP).bind fun x38=>
  ((idx aB (IntKind.i64.wrap (gP-1))).bind fun x40=>
  ((bO x38 x40).bind fun r42=>
  (bif (!(decide (r42<0))) then
   cZ bO rec1 aB a_1 b_2 i_9 fS
  else
   ((idx aB (IntKind.i64.wrap (gP-1))).bind fun x44=>
   ((idx aB gP).bind fun x46=>
   ((idx aB gP).bind fun x48=>
   ((stt aB gP x44).bind fun l50=>
   ((idx l50 (IntKind.i64.wrap (gP-1))).bind fun x52=>
   ((stt l50 (IntKind.i64.wrap (gP-1)) x46).bind fun l54=>
   rec4 l54 a_1 b_2 i_9 fS (IntKind.i64.wrap (gP-1))))))))))))
 else
  cZ bO rec1 aB a_1 b_2 i_9 fS)
def eE(bO:(aC→aC→Option (Int)))(rec1:List aC→Int→Int→Int→Int→Option (Bool×List aC)):Nat→List aC→Int→Int→Int→Int→Int→Option (Bool×List aC)
 |0=>fun _ _ _ _ _ _=>none
 |n+1=>fL bO rec1 (eE bO rec1 n)
def fJ(bO:(aC→aC→Option (Int)))(rec1:List aC→Int→Int→Int→Int→Option (Bool×List aC))(rec2:List aC→Int→Int→Int→Int→Option (Bool×List aC))(aB:List aC)(a_1:Int)(b_2:Int)(i_9:Int)(fS:Int):Option (Bool×List aC):=
 ((fG ((decide (i_9<b_2))==true) (aC.mk 0 0) (idx aB i_9)).bind fun x2=>
 ((fG ((decide (i_9<b_2))==true) (aC.mk 0 0) (idx aB (IntKind.i64.wrap (i_9-1)))).bind fun x4=>
 ((fG ((decide (i_9<b_2))==true) 0 (bO x2 x4)).bind fun r6=>
 (bif ((decide (i_9<b_2))&&(!(decide (r6<0)))) then
  rec2 aB a_1 b_2 (IntKind.i64.wrap (i_9+1)) fS
 else
  (bif (i_9==b_2) then
   some (true,aB)
  else
   (bif (decide ((IntKind.i64.wrap (b_2-a_1))<50)) then
    some (false,aB)
   else
    ((idx aB (IntKind.i64.wrap (i_9-1))).bind fun x8=>
    ((idx aB i_9).bind fun x10=>
    ((idx aB i_9).bind fun x12=>
    ((stt aB i_9 x8).bind fun l14=>
    ((idx l14 (IntKind.i64.wrap (i_9-1))).bind fun x16=>
    ((stt l14 (IntKind.i64.wrap (i_9-1)) x10).bind fun l18=>
    (bif (decide (2≤(IntKind.i64.wrap (i_9-a_1)))) then
     eE bO rec1 bC l18 a_1 b_2 i_9 fS (IntKind.i64.wrap (i_9-1))
    else
     cZ bO rec1 l18 a_1 b_2 i_9 fS)))))))))))))
def dZ(bO:(aC→aC→Option (Int)))(rec1:List aC→Int→Int→Int→Int→Option (Bool×List aC)):Nat→List aC→Int→Int→Int→Int→Option (Bool×List aC)
 |0=>fun _ _ _ _ _=>none
 |n+1=>fJ bO rec1 (dZ bO rec1 n)
def fI(bO:(aC→aC→Option (Int)))(rec1:List aC→Int→Int→Int→Int→Option (Bool×List aC))(aB:List aC)(a_1:Int)(b_2:Int)(i_9:Int)(fS:Int):Option (Bool×List aC):=
 (bif (decide (fS<5)) then
  dZ bO rec1 bC aB a_1 b_2 i_9 fS
 else
  some (false,aB))
def aW(bO:(aC→aC→Option (Int))):Nat→List aC→Int→Int→Int→Int→Option (Bool×List aC)
 |0=>fun _ _ _ _ _=>none
 |n+1=>fI bO (aW bO n)
def fZ(aB:List aC)(a_1:Int)(b_2:Int)(bO:(aC→aC→Option (Int))):Option (Bool×List aC):=
 aW bO bC aB a_1 b_2 (IntKind.i64.wrap (a_1+1)) 0
theorem uI{aB:List aC}{a_1:Int}{b_2:Int}{bO:(aC→aC→Option (Int))}{r:Bool×List aC}(hm:fZ aB a_1 b_2 bO=some r){jG:FuncId}{eK:List AV}(mS: ∀a,a∈eK→AM.Data a)(oX:(Program.funcs prog)[jG]?.any (fun fn=>fn.body.isSome&&fn.name != "runtime.NumGoroutine")=true)(oY: ∀ {x0 x1 r},bO x0 x1=some r→dU prog jG ([.agg [.v (.int .u64 x0.x0),.v (.int .u64 x0.x1)],.agg [.v (.int .u64 x1.x0),.v (.int .u64 x1.x1)]]++eK) (.v (.int .i64 r))){H:aM}{i0:Nat}(he:H.ent i0= .cells 2 (aB.flatMap bS) 0):dR prog 161 [.own i0 0 aB.length,.v (.int .i64 a_1),.v (.int .i64 b_2),.clo (.func jG) [] eK] H (.v (.bool r.1)) (H.put i0 (.cells 2 (r.2.flatMap bS) 0)):=by
 refine dR.of_bodyM func161 rfl he ?_;generalize H.ent=h0;simp only [ntmps161,List.length_cons,List.length_nil,Nat.reduceAdd,Nat.reduceSub];unfold fZ at hm;refine sN 64 (pA ?_);refine fs (sN 128 ?_)
 iterate 3 refine pA ?_
 refine fs (AWp.seq' (sN 192 (pA ?_)));refine fs (AWp.block (AWp.loopM (fun m s=> ∃(aB:List aC) (a_1:Int) (b_2:Int) (i_9:Int) (fS:Int),s=(⟨141,(aF (aF (aF (aF (aF (aF (fun _=>AV.any) 0 (.own i0 0 aB.length)) 1 (.v (.int .i64 a_1))) 2 (.v (.int .i64 b_2))) 3 (.clo (.func jG) [] eK)) 9 (.v (.int .i64 i_9))) 10 (.v (.int .i64 fS))),⟨(upd h0 i0 (.cells 2 (aB.flatMap bS) 0)),64⟩⟩:St)∧aW bO m aB a_1 b_2 i_9 fS=some r) bC ?_ ?_ ?_))
 · rintro s ⟨_,_,_,_,_,_,h⟩;cases h
 · refine ⟨_,?_,aB,a_1,b_2,(IntKind.i64.wrap (a_1+1)),0,rfl,hm⟩;exact bM (aD 10 _ Z1 (aD 9 _ Z1 (aD 3 _ Z1 (aD 2 _ Z1 (aD 1 _ Z1 (aD 0 _ (bN Z1 Z6) bF)))))) Zc
 ·
  rintro n1 s ⟨aB,a_1,b_2,i_9,fS,rfl,hm⟩;replace hm:fI bO (aW bO n1) aB a_1 b_2 i_9 fS=some r:=hm;unfold fI at hm;refine AWp.seq' (sN 128 ?_)
  iterate 2 refine pA ?_
  refine fs (AWp.condM hm Z1 (fun _ hm=>?_) (fun _ hm=>?_))
  ·
   refine AWp.skip (aV (AWp.seqJ (fun s=> ∃(aB:List aC) (a_1:Int) (b_2:Int) (i_9:Int) (fS:Int),s=(⟨141,(aF (aF (aF (aF (aF (aF (fun _=>AV.any) 0 (.own i0 0 aB.length)) 1 (.v (.int .i64 a_1))) 2 (.v (.int .i64 b_2))) 3 (.clo (.func jG) [] eK)) 9 (.v (.int .i64 i_9))) 10 (.v (.int .i64 fS))),⟨(upd h0 i0 (.cells 2 (aB.flatMap bS) 0)),64⟩⟩:St)∧cG bO (aW bO n1) aB a_1 b_2 i_9 fS=some r) ?_ ?_))
   ·
    refine AWp.block (AWp.seq' (AWp.block (AWp.loopM (fun m s=> ∃(aB:List aC) (a_1:Int) (b_2:Int) (i_9:Int) (fS:Int),s=(⟨141,(aF (aF (aF (aF (aF (aF (fun _=>AV.any) 0 (.own i0 0 aB.length)) 1 (.v (.int .i64 a_1))) 2 (.v (.int .i64 b_2))) 3 (.clo (.func jG) [] eK)) 9 (.v (.int .i64 i_9))) 10 (.v (.int .i64 fS))),⟨(upd h0 i0 (.cells 2 (aB.flatMap bS) 0)),64⟩⟩:St)∧dZ bO (aW bO n1) m aB a_1 b_2 i_9 fS=some r) bC ?_ ?_ ?_)))
    · rintro s ⟨_,_,_,_,_,_,h⟩;cases h
    · refine ⟨_,?_,aB,a_1,b_2,i_9,fS,rfl,hm⟩;exact bM (aD 10 _ Z1 (aD 9 _ Z1 (aD 3 _ Z1 (aD 2 _ Z1 (aD 1 _ Z1 (aD 0 _ (bN Z1 Z6) bF)))))) Zc
    ·
     rintro n2 s ⟨aB,a_1,b_2,i_9,fS,rfl,hm⟩;replace hm:fJ bO (aW bO n1) (dZ bO (aW bO n1) n2) aB a_1 b_2 i_9 fS=some r:=hm;unfold fJ at hm;refine AWp.seq' (sd mix (by kernel_rfl) (N':=128) rfl ?_)
     iterate 7 first|refine pA ?_|refine pB ?_
     obtain ⟨x2,h1,hm⟩:=bnd hm;refine pg rfl rfl Z2 (fun hb=>(aN underlying40 fR (Zh hb) Za Z6 (Zh hb) (bK h1 hb))) ?_;refine pg rfl rfl Z2 (fun hb=>(bL aJ (Zh hb) Za (bK h1 hb) Zb)) ?_
     iterate 3 refine pB ?_
     obtain ⟨x4,h3,hm⟩:=bnd hm;refine pg rfl rfl Z2 (fun hb=>(aN underlying40 fR (Zh hb) Za Z6 (Zh hb) (bK h3 hb))) ?_;refine pg rfl rfl Z2 (fun hb=>(bL aJ (Zh hb) Za (bK h3 hb) Zb)) ?_;obtain ⟨r6,h5,hm⟩:=bnd hm;refine aI.callQCG (r:= .v (.int .i64 r6)) Zd rfl Z2 (fun hb=>(Zh hb)) mS oX (fun hb H=>(.cons (td (Zh hb) (.agg _ (aJ.dat _))) (.cons (td (Zh hb) (.agg _ (aJ.dat _))) .nil))) (fun hb=>oY (bK h5 hb)) ?_
     iterate 3 first|refine pA ?_|refine pB ?_
     refine fs (AWp.condM hm Z1 (fun _ hm=>?_) (fun _ hm=>?_))
     ·
      refine AWp.skip (aV (AWp.block (AWp.reg 64 (N':=192) rfl ?_)))
      iterate 3 refine pA ?_
      refine aI.fin (eR (cN ?_));refine ⟨_,?_,aB,a_1,b_2,(IntKind.i64.wrap (i_9+1)),fS,rfl,hm⟩;exact bM (aD 10 _ Z1 (aD 9 _ Z1 (aD 3 _ Z1 (aD 2 _ Z1 (aD 1 _ Z1 (aD 0 _ (bN Z1 Z6) bF)))))) Zc
     ·
      refine AWp.exit (dJ (cY (cU (aV (AWp.seq' (sN 192 ?_))))))
      iterate 3 refine pA ?_
      refine fs (AWp.condM hm Z1 (fun _ hm=>?_) (fun _ hm=>?_))
      · refine sN 256 (pA ?_);refine fs (AWp.ret (lA (pO (aQv (qQ (pO (lA ?_)))))));cases hm;exact aFx (.inr rfl) Tryz.results161 Z1 Zc
      ·
       refine AWp.skip (aV (AWp.seq' (sN 256 ?_)))
       iterate 4 refine pA ?_
       refine fs (AWp.condM hm Z1 (fun _ hm=>?_) (fun _ hm=>?_))
       · refine sN 320 (pA ?_);refine fs (AWp.ret (lA (pO (aQv (qQ (pO (lA ?_)))))));cases hm;exact aFx (.inr rfl) Tryz.results161 Z1 Zc
       ·
        refine AWp.skip (aV (sd mix (by kernel_rfl) (N':=320) rfl ?_))
        iterate 8 refine pA ?_
        obtain ⟨x8,h7,hm⟩:=bnd hm;refine pu rfl (aN underlying40 fR Z1 Za Z6 Z1 h7) ?_;refine pu rfl (bL aJ Z1 Za h7 Zb) ?_
        iterate 2 refine pA ?_
        obtain ⟨x10,h9,hm⟩:=bnd hm;refine pu rfl (aN underlying40 fR Z1 Za Z6 Z1 h9) ?_;refine pu rfl (bL aJ Z1 Za h9 Zb) ?_;obtain ⟨x12,h11,hm⟩:=bnd hm;refine pu rfl (aN underlying40 fR Z1 Za Z6 Z1 h11) ?_;obtain ⟨l14,h13,hm⟩:=bnd hm;have qh13:=cX h13;refine aI.heap0 (id:=271) rfl (eP aJ fR Z1 Z1 Za rfl h13) ?_;obtain ⟨x16,h15,hm⟩:=bnd hm;refine pu rfl (aN underlying40 fR Z1 Za Z6 Z1 h15) ?_;obtain ⟨l18,h17,hm⟩:=bnd hm;have qh17:=cX h17;refine aI.heap0 (id:=273) rfl (eP aJ fR Z1 Z1 Za rfl h17) ?_;refine fs (AWp.seqJ (fun s=> ∃(aB:List aC) (a_1:Int) (b_2:Int) (i_9:Int) (fS:Int),s=(⟨141,(aF (aF (aF (aF (aF (aF (fun _=>AV.any) 0 (.own i0 0 aB.length)) 1 (.v (.int .i64 a_1))) 2 (.v (.int .i64 b_2))) 3 (.clo (.func jG) [] eK)) 9 (.v (.int .i64 i_9))) 10 (.v (.int .i64 fS))),⟨(upd h0 i0 (.cells 2 (aB.flatMap bS) 0)),64⟩⟩:St)∧cZ bO (aW bO n1) aB a_1 b_2 i_9 fS=some r) ?_ ?_)
        ·
         refine sN 384 ?_
         iterate 4 refine pA ?_
         refine fs (AWp.condM hm Z1 (fun _ hm=>?_) (fun _ hm=>?_))
         ·
          refine sN 448 ?_
          iterate 3 refine pA ?_
          refine fs (AWp.block (AWp.loopM (fun m s=> ∃(aB:List aC) (a_1:Int) (b_2:Int) (i_9:Int) (fS:Int) (gP:Int),s=(⟨141,(aF (aF (aF (aF (aF (aF (aF (fun _=>AV.any) 0 (.own i0 0 aB.length)) 1 (.v (.int .i64 a_1))) 2 (.v (.int .i64 b_2))) 3 (.clo (.func jG) [] eK)) 9 (.v (.int .i64 i_9))) 10 (.v (.int .i64 fS))) 11 (.v (.int .i64 gP))),⟨(upd h0 i0 (.cells 2 (aB.flatMap bS) 0)),64⟩⟩:St)∧eE bO (aW bO n1) m aB a_1 b_2 i_9 fS gP=some r) bC ?_ ?_ ?_))
          · rintro s ⟨_,_,_,_,_,_,_,h⟩;cases h
          · refine ⟨_,?_,l18,a_1,b_2,i_9,fS,(IntKind.i64.wrap (i_9-1)),rfl,hm⟩;exact bM (aD 11 _ Z1 (aD 10 _ Z1 (aD 9 _ Z1 (aD 3 _ Z1 (aD 2 _ Z1 (aD 1 _ Z1 (aD 0 _ (bN Z1 Z6) bF))))))) Zc
          ·
           rintro n4 s ⟨aB,a_1,b_2,i_9,fS,gP,rfl,hm⟩;replace hm:fL bO (aW bO n1) (eE bO (aW bO n1) n4) aB a_1 b_2 i_9 fS gP=some r:=hm;unfold fL at hm;refine AWp.seq' (sN 128 ?_)
           iterate 2 refine pA ?_
           refine fs (AWp.condM hm Z1 (fun _ hm=>?_) (fun _ hm=>?_))
           ·
            refine AWp.skip (aV (AWp.seq' (AWp.block (AWp.seq' (sd mix (by kernel_rfl) (N':=192) rfl ?_)))))
            iterate 3 refine pA ?_
            obtain ⟨x38,h37,hm⟩:=bnd hm;refine pu rfl (aN underlying40 fR Z1 Za Z6 Z1 h37) ?_;refine pu rfl (bL aJ Z1 Za h37 Zb) ?_
            iterate 3 refine pA ?_
            obtain ⟨x40,h39,hm⟩:=bnd hm;refine pu rfl (aN underlying40 fR Z1 Za Z6 Z1 h39) ?_;refine pu rfl (bL aJ Z1 Za h39 Zb) ?_;obtain ⟨r42,h41,hm⟩:=bnd hm;refine aI.callQC (r:= .v (.int .i64 r42)) Zd Z1 mS oX (fun H=>(cD (.agg _ (aJ.dat _)) (cD (.agg _ (aJ.dat _)) .nil))) (oY h41) ?_
            iterate 2 refine pA ?_
            refine fs (AWp.condM hm Z1 (fun _ hm=>?_) (fun _ hm=>?_))
            · refine AWp.exit (dJ (rG Zd ?_));refine dJ (cY (cU (nG ?_)));refine ⟨_,?_,aB,a_1,b_2,i_9,fS,rfl,hm⟩;exact bM (aD 10 _ Z1 (aD 9 _ Z1 (aD 3 _ Z1 (aD 2 _ Z1 (aD 1 _ Z1 (aD 0 _ (bN Z1 Z6) bF)))))) Zc
            ·
             refine AWp.skip (aV (AWp.regD 64 mix (by kernel_rfl) (N':=256) rfl ?_))
             iterate 8 refine pA ?_
             obtain ⟨x44,h43,hm⟩:=bnd hm;refine pu rfl (aN underlying40 fR Z1 Za Z6 Z1 h43) ?_;refine pu rfl (bL aJ Z1 Za h43 Zb) ?_
             iterate 2 refine pA ?_
             obtain ⟨x46,h45,hm⟩:=bnd hm;refine pu rfl (aN underlying40 fR Z1 Za Z6 Z1 h45) ?_;refine pu rfl (bL aJ Z1 Za h45 Zb) ?_;obtain ⟨x48,h47,hm⟩:=bnd hm;refine pu rfl (aN underlying40 fR Z1 Za Z6 Z1 h47) ?_;obtain ⟨l50,h49,hm⟩:=bnd hm;have qh49:=cX h49;refine aI.heap0 (id:=207) rfl (eP aJ fR Z1 Z1 Za rfl h49) ?_;obtain ⟨x52,h51,hm⟩:=bnd hm;refine pu rfl (aN underlying40 fR Z1 Za Z6 Z1 h51) ?_;obtain ⟨l54,h53,hm⟩:=bnd hm;have qh53:=cX h53;refine aI.heap0 (id:=209) rfl (eP aJ fR Z1 Z1 Za rfl h53) ?_;refine aI.fin (eR (aV (AWp.reg 64 (N':=320) rfl ?_)))
             iterate 3 refine pA ?_
             refine aI.fin (cN ?_);refine ⟨_,?_,l54,a_1,b_2,i_9,fS,(IntKind.i64.wrap (gP-1)),rfl,hm⟩;exact bM (aD 11 _ Z1 (aD 10 _ Z1 (aD 9 _ Z1 (aD 3 _ Z1 (aD 2 _ Z1 (aD 1 _ Z1 (aD 0 _ (bN Z1 Z6) bF))))))) Zc
           · refine AWp.exit (dJ (cY (cU (nG ?_))));refine ⟨_,?_,aB,a_1,b_2,i_9,fS,rfl,hm⟩;exact bM (aD 10 _ Z1 (aD 9 _ Z1 (aD 3 _ Z1 (aD 2 _ Z1 (aD 1 _ Z1 (aD 0 _ (bN Z1 Z6) bF)))))) Zc
         · refine AWp.skip (nG ?_);refine ⟨_,?_,l18,a_1,b_2,i_9,fS,rfl,hm⟩;exact bM (aD 10 _ Z1 (aD 9 _ Z1 (aD 3 _ Z1 (aD 2 _ Z1 (aD 1 _ Z1 (aD 0 _ (bN Z1 Z6) bF)))))) Zc
        ·
         rintro s ⟨aB,a_1,b_2,i_9,fS,rfl,hm⟩;unfold cZ at hm;refine sN 128 ?_
         iterate 4 refine pA ?_
         refine fs (AWp.condM hm Z1 (fun _ hm=>?_) (fun _ hm=>?_))
         ·
          refine sN 192 ?_
          iterate 3 refine pA ?_
          refine fs (AWp.block (AWp.loopM (fun m s=> ∃(aB:List aC) (a_1:Int) (b_2:Int) (i_9:Int) (fS:Int) (oI:Int),s=(⟨141,(aF (aF (aF (aF (aF (aF (aF (fun _=>AV.any) 0 (.own i0 0 aB.length)) 1 (.v (.int .i64 a_1))) 2 (.v (.int .i64 b_2))) 3 (.clo (.func jG) [] eK)) 9 (.v (.int .i64 i_9))) 10 (.v (.int .i64 fS))) 12 (.v (.int .i64 oI))),⟨(upd h0 i0 (.cells 2 (aB.flatMap bS) 0)),64⟩⟩:St)∧eC bO (aW bO n1) m aB a_1 b_2 i_9 fS oI=some r) bC ?_ ?_ ?_))
          · rintro s ⟨_,_,_,_,_,_,_,h⟩;cases h
          · refine ⟨_,?_,aB,a_1,b_2,i_9,fS,(IntKind.i64.wrap (i_9+1)),rfl,hm⟩;exact bM (aD 12 _ Z1 (aD 10 _ Z1 (aD 9 _ Z1 (aD 3 _ Z1 (aD 2 _ Z1 (aD 1 _ Z1 (aD 0 _ (bN Z1 Z6) bF))))))) Zc
          ·
           rintro n3 s ⟨aB,a_1,b_2,i_9,fS,oI,rfl,hm⟩;replace hm:fK bO (aW bO n1) (eC bO (aW bO n1) n3) aB a_1 b_2 i_9 fS oI=some r:=hm;unfold fK at hm;refine AWp.seq' (sN 128 ?_)
           iterate 3 refine pA ?_
           refine fs (AWp.condM hm Z1 (fun _ hm=>?_) (fun _ hm=>?_))
           ·
            refine AWp.skip (aV (AWp.seq' (AWp.block (AWp.seq' (sd mix (by kernel_rfl) (N':=192) rfl ?_)))))
            iterate 3 refine pA ?_
            obtain ⟨x20,h19,hm⟩:=bnd hm;refine pu rfl (aN underlying40 fR Z1 Za Z6 Z1 h19) ?_;refine pu rfl (bL aJ Z1 Za h19 Zb) ?_
            iterate 3 refine pA ?_
            obtain ⟨x22,h21,hm⟩:=bnd hm;refine pu rfl (aN underlying40 fR Z1 Za Z6 Z1 h21) ?_;refine pu rfl (bL aJ Z1 Za h21 Zb) ?_;obtain ⟨r24,h23,hm⟩:=bnd hm;refine aI.callQC (r:= .v (.int .i64 r24)) Zd Z1 mS oX (fun H=>(cD (.agg _ (aJ.dat _)) (cD (.agg _ (aJ.dat _)) .nil))) (oY h23) ?_
            iterate 2 refine pA ?_
            refine fs (AWp.condM hm Z1 (fun _ hm=>?_) (fun _ hm=>?_))
            · refine AWp.exit (dJ (rG Zd ?_));refine dJ (cY (cU (eR (nG ?_))));refine ⟨_,?_,aB,a_1,b_2,i_9,fS,rfl,hm⟩;exact bM (aD 10 _ Z1 (aD 9 _ Z1 (aD 3 _ Z1 (aD 2 _ Z1 (aD 1 _ Z1 (aD 0 _ (bN Z1 Z6) bF)))))) Zc
            ·
             refine AWp.skip (aV (AWp.regD 64 mix (by kernel_rfl) (N':=256) rfl ?_))
             iterate 8 refine pA ?_
             obtain ⟨x26,h25,hm⟩:=bnd hm;refine pu rfl (aN underlying40 fR Z1 Za Z6 Z1 h25) ?_;refine pu rfl (bL aJ Z1 Za h25 Zb) ?_
             iterate 2 refine pA ?_
             obtain ⟨x28,h27,hm⟩:=bnd hm;refine pu rfl (aN underlying40 fR Z1 Za Z6 Z1 h27) ?_;refine pu rfl (bL aJ Z1 Za h27 Zb) ?_;obtain ⟨x30,h29,hm⟩:=bnd hm;refine pu rfl (aN underlying40 fR Z1 Za Z6 Z1 h29) ?_;obtain ⟨l32,h31,hm⟩:=bnd hm;have qh31:=cX h31;refine aI.heap0 (id:=207) rfl (eP aJ fR Z1 Z1 Za rfl h31) ?_;obtain ⟨x34,h33,hm⟩:=bnd hm;refine pu rfl (aN underlying40 fR Z1 Za Z6 Z1 h33) ?_;obtain ⟨l36,h35,hm⟩:=bnd hm;have qh35:=cX h35;refine aI.heap0 (id:=209) rfl (eP aJ fR Z1 Z1 Za rfl h35) ?_;refine aI.fin (eR (aV (AWp.reg 64 (N':=320) rfl ?_)))
             iterate 3 refine pA ?_
             refine aI.fin (cN ?_);refine ⟨_,?_,l36,a_1,b_2,i_9,fS,(IntKind.i64.wrap (oI+1)),rfl,hm⟩;exact bM (aD 12 _ Z1 (aD 10 _ Z1 (aD 9 _ Z1 (aD 3 _ Z1 (aD 2 _ Z1 (aD 1 _ Z1 (aD 0 _ (bN Z1 Z6) bF))))))) Zc
           · refine AWp.exit (dJ (cY (cU (eR (nG ?_)))));refine ⟨_,?_,aB,a_1,b_2,i_9,fS,rfl,hm⟩;exact bM (aD 10 _ Z1 (aD 9 _ Z1 (aD 3 _ Z1 (aD 2 _ Z1 (aD 1 _ Z1 (aD 0 _ (bN Z1 Z6) bF)))))) Zc
         · refine AWp.skip (eR (nG ?_));refine ⟨_,?_,aB,a_1,b_2,i_9,fS,rfl,hm⟩;exact bM (aD 10 _ Z1 (aD 9 _ Z1 (aD 3 _ Z1 (aD 2 _ Z1 (aD 1 _ Z1 (aD 0 _ (bN Z1 Z6) bF)))))) Zc
   ·
    rintro s ⟨aB,a_1,b_2,i_9,fS,rfl,hm⟩;unfold cG at hm;refine AWp.reg 64 (N':=128) rfl ?_
    iterate 3 refine pA ?_
    refine aI.fin (cN ?_);refine ⟨_,?_,aB,a_1,b_2,i_9,(IntKind.i64.wrap (fS+1)),rfl,hm⟩;exact bM (aD 10 _ Z1 (aD 9 _ Z1 (aD 3 _ Z1 (aD 2 _ Z1 (aD 1 _ Z1 (aD 0 _ (bN Z1 Z6) bF)))))) Zc
  · refine AWp.exit (dJ (cY (cU (aV (sN 192 (pA ?_))))));refine fs (AWp.ret ?_);cases hm;exact aFx (.inr rfl) Tryz.results161 Z1 Zc
def gZ(bP:(aC→aC→Option (Int)))(rec1:List aC→Int→Int→Int→Option (Int×List aC))(rec3:List aC→Int→Int→Int→Option (Int×List aC))(aB:List aC)(a_1:Int)(pZ:Int)(oI:Int):Option (Int×List aC):=
 ((fG ((decide (pZ≤oI))==true) (aC.mk 0 0) (idx aB a_1)).bind fun x20=>
 ((fG ((decide (pZ≤oI))==true) (aC.mk 0 0) (idx aB oI)).bind fun x22=>
 ((fG ((decide (pZ≤oI))==true) 0 (bP x20 x22)).bind fun r24=>
 (bif ((decide (pZ≤oI))&&(decide (r24<0))) then
  rec3 aB a_1 pZ (IntKind.i64.wrap (oI-1))
 else
  (bif (decide (oI<pZ)) then
   some (pZ,aB)
  else
   ((idx aB oI).bind fun x26=>
   ((idx aB pZ).bind fun x28=>
   ((idx aB pZ).bind fun x30=>
   ((stt aB pZ x26).bind fun l32=>
   ((idx l32 oI).bind fun x34=>
   ((stt l32 oI x28).bind fun l36=>
   rec1 l36 a_1 (IntKind.i64.wrap (pZ+1)) (IntKind.i64.wrap (oI-1)))))))))))))
def fU(bP:(aC→aC→Option (Int)))(rec1:List aC→Int→Int→Int→Option (Int×List aC)):Nat→List aC→Int→Int→Int→Option (Int×List aC)
 |0=>fun _ _ _ _=>none
 |n+1=>gZ bP rec1 (fU bP rec1 n)
def gY(bP:(aC→aC→Option (Int)))(rec1:List aC→Int→Int→Int→Option (Int×List aC))(rec2:List aC→Int→Int→Int→Option (Int×List aC))(aB:List aC)(a_1:Int)(pZ:Int)(oI:Int):Option (Int×List aC):=
 ((fG ((decide (pZ≤oI))==true) (aC.mk 0 0) (idx aB a_1)).bind fun x14=>
 ((fG ((decide (pZ≤oI))==true) (aC.mk 0 0) (idx aB pZ)).bind fun x16=>
 ((fG ((decide (pZ≤oI))==true) 0 (bP x14 x16)).bind fun r18=>
 (bif ((decide (pZ≤oI))&&(!(decide (r18<0)))) then
  rec2 aB a_1 (IntKind.i64.wrap (pZ+1)) oI
 else
  fU bP rec1 bC aB a_1 pZ oI))))
def fT(bP:(aC→aC→Option (Int)))(rec1:List aC→Int→Int→Int→Option (Int×List aC)):Nat→List aC→Int→Int→Int→Option (Int×List aC)
 |0=>fun _ _ _ _=>none
 |n+1=>gY bP rec1 (fT bP rec1 n)
def gX(bP:(aC→aC→Option (Int)))(rec1:List aC→Int→Int→Int→Option (Int×List aC))(aB:List aC)(a_1:Int)(pZ:Int)(oI:Int):Option (Int×List aC):=
 fT bP rec1 bC aB a_1 pZ oI
def bW(bP:(aC→aC→Option (Int))):Nat→List aC→Int→Int→Int→Option (Int×List aC)
 |0=>fun _ _ _ _=>none
 |n+1=>gX bP (bW bP n)
def iW(aB:List aC)(a_1:Int)(b_2:Int)(mY:Int)(bP:(aC→aC→Option (Int))):Option (Int×List aC):=
 ((idx aB mY).bind fun x2=>
 ((idx aB a_1).bind fun x4=>
 ((idx aB a_1).bind fun x6=>
 ((stt aB a_1 x2).bind fun l8=>
 ((idx l8 mY).bind fun x10=>
 ((stt l8 mY x4).bind fun l12=>
 bW bP bC l12 a_1 (IntKind.i64.wrap (a_1+1)) (IntKind.i64.wrap (b_2-1))))))))
theorem zB{aB:List aC}{a_1:Int}{b_2:Int}{mY:Int}{bP:(aC→aC→Option (Int))}{r:Int×List aC}(hm:iW aB a_1 b_2 mY bP=some r){jH:FuncId}{eN:List AV}(gF: ∀a,a∈eN→AM.Data a)(lF:(Program.funcs prog)[jH]?.any (fun fn=>fn.body.isSome&&fn.name != "runtime.NumGoroutine")=true)(lH: ∀ {x0 x1 r},bP x0 x1=some r→dU prog jH ([.agg [.v (.int .u64 x0.x0),.v (.int .u64 x0.x1)],.agg [.v (.int .u64 x1.x0),.v (.int .u64 x1.x1)]]++eN) (.v (.int .i64 r))){H:aM}{i0:Nat}(he:H.ent i0= .cells 2 (aB.flatMap bS) 0):dR prog 162 [.own i0 0 aB.length,.v (.int .i64 a_1),.v (.int .i64 b_2),.v (.int .i64 mY),.clo (.func jH) [] eN] H (.v (.int .i64 r.1)) (H.put i0 (.cells 2 (r.2.flatMap bS) 0)):=by
 refine dR.of_bodyM func162 rfl he ?_;generalize H.ent=h0;simp only [ntmps162,List.length_cons,List.length_nil,Nat.reduceAdd,Nat.reduceSub];unfold iW at hm;refine sN 64 (pA ?_);refine fs (sd mix (by kernel_rfl) (N':=128) rfl ?_)
 iterate 6 refine pA ?_
 obtain ⟨x2,h1,hm⟩:=bnd hm;refine pu rfl (aN underlying40 fR Z1 Za Z6 Z1 h1) ?_;refine pu rfl (bL aJ Z1 Za h1 Zb) ?_
 iterate 2 refine pA ?_
 obtain ⟨x4,h3,hm⟩:=bnd hm;refine pu rfl (aN underlying40 fR Z1 Za Z6 Z1 h3) ?_;refine pu rfl (bL aJ Z1 Za h3 Zb) ?_;obtain ⟨x6,h5,hm⟩:=bnd hm;refine pu rfl (aN underlying40 fR Z1 Za Z6 Z1 h5) ?_;obtain ⟨l8,h7,hm⟩:=bnd hm;have qh7:=cX h7;refine aI.heap0 (id:=77) rfl (eP aJ fR Z1 Z1 Za rfl h7) ?_;obtain ⟨x10,h9,hm⟩:=bnd hm;refine pu rfl (aN underlying40 fR Z1 Za Z6 Z1 h9) ?_;obtain ⟨l12,h11,hm⟩:=bnd hm;have qh11:=cX h11;refine aI.heap0 (id:=79) rfl (eP aJ fR Z1 Z1 Za rfl h11) ?_;refine fs (sN 192 ?_)
 iterate 6 refine pA ?_
 refine fs (AWp.seq' (AWp.block (AWp.loopM (fun m s=> ∃(aB:List aC) (a_1:Int) (pZ:Int) (oI:Int),s=(⟨90,(aF (aF (aF (aF (aF (fun _=>AV.any) 0 (.own i0 0 aB.length)) 1 (.v (.int .i64 a_1))) 4 (.clo (.func jH) [] eN)) 11 (.v (.int .i64 pZ))) 12 (.v (.int .i64 oI))),⟨(upd h0 i0 (.cells 2 (aB.flatMap bS) 0)),64⟩⟩:St)∧bW bP m aB a_1 pZ oI=some r) bC ?_ ?_ ?_)))
 · rintro s ⟨_,_,_,_,_,h⟩;cases h
 · refine ⟨_,?_,l12,a_1,(IntKind.i64.wrap (a_1+1)),(IntKind.i64.wrap (b_2-1)),rfl,hm⟩;exact bM (aD 12 _ Z1 (aD 11 _ Z1 (aD 4 _ Z1 (aD 1 _ Z1 (aD 0 _ (bN Z1 Z6) bF))))) Zc
 ·
  rintro n1 s ⟨aB,a_1,pZ,oI,rfl,hm⟩;replace hm:gX bP (bW bP n1) aB a_1 pZ oI=some r:=hm;unfold gX at hm;refine AWp.block (AWp.seq' (AWp.block (AWp.loopM (fun m s=> ∃(aB:List aC) (a_1:Int) (pZ:Int) (oI:Int),s=(⟨90,(aF (aF (aF (aF (aF (fun _=>AV.any) 0 (.own i0 0 aB.length)) 1 (.v (.int .i64 a_1))) 4 (.clo (.func jH) [] eN)) 11 (.v (.int .i64 pZ))) 12 (.v (.int .i64 oI))),⟨(upd h0 i0 (.cells 2 (aB.flatMap bS) 0)),64⟩⟩:St)∧fT bP (bW bP n1) m aB a_1 pZ oI=some r) bC ?_ ?_ ?_)))
  · rintro s ⟨_,_,_,_,_,h⟩;cases h
  · refine ⟨_,?_,aB,a_1,pZ,oI,rfl,hm⟩;exact bM (aD 12 _ Z1 (aD 11 _ Z1 (aD 4 _ Z1 (aD 1 _ Z1 (aD 0 _ (bN Z1 Z6) bF))))) Zc
  ·
   rintro n2 s ⟨aB,a_1,pZ,oI,rfl,hm⟩;replace hm:gY bP (bW bP n1) (fT bP (bW bP n1) n2) aB a_1 pZ oI=some r:=hm;unfold gY at hm;refine AWp.seq' (sd mix (by kernel_rfl) (N':=128) rfl ?_)
   iterate 7 first|refine pA ?_|refine pB ?_
   obtain ⟨x14,h13,hm⟩:=bnd hm;refine pg rfl rfl Z2 (fun hb=>(aN underlying40 fR (Zh hb) Za Z6 (Zh hb) (bK h13 hb))) ?_;refine pg rfl rfl Z2 (fun hb=>(bL aJ (Zh hb) Za (bK h13 hb) Zb)) ?_
   iterate 2 refine pB ?_
   obtain ⟨x16,h15,hm⟩:=bnd hm;refine pg rfl rfl Z2 (fun hb=>(aN underlying40 fR (Zh hb) Za Z6 (Zh hb) (bK h15 hb))) ?_;refine pg rfl rfl Z2 (fun hb=>(bL aJ (Zh hb) Za (bK h15 hb) Zb)) ?_;obtain ⟨r18,h17,hm⟩:=bnd hm;refine aI.callQCG (r:= .v (.int .i64 r18)) Zd rfl Z2 (fun hb=>(Zh hb)) gF lF (fun hb H=>(.cons (td (Zh hb) (.agg _ (aJ.dat _))) (.cons (td (Zh hb) (.agg _ (aJ.dat _))) .nil))) (fun hb=>lH (bK h17 hb)) ?_
   iterate 3 first|refine pA ?_|refine pB ?_
   refine fs (AWp.condM hm Z1 (fun _ hm=>?_) (fun _ hm=>?_))
   ·
    refine AWp.skip (aV (AWp.block (AWp.reg 64 (N':=192) rfl ?_)))
    iterate 3 refine pA ?_
    refine aI.fin (eR (cN ?_));refine ⟨_,?_,aB,a_1,(IntKind.i64.wrap (pZ+1)),oI,rfl,hm⟩;exact bM (aD 12 _ Z1 (aD 11 _ Z1 (aD 4 _ Z1 (aD 1 _ Z1 (aD 0 _ (bN Z1 Z6) bF))))) Zc
   ·
    refine AWp.exit (dJ (cY (cU (aV (AWp.seq' (AWp.block (AWp.loopM (fun m s=> ∃(aB:List aC) (a_1:Int) (pZ:Int) (oI:Int),s=(⟨90,(aF (aF (aF (aF (aF (fun _=>AV.any) 0 (.own i0 0 aB.length)) 1 (.v (.int .i64 a_1))) 4 (.clo (.func jH) [] eN)) 11 (.v (.int .i64 pZ))) 12 (.v (.int .i64 oI))),⟨(upd h0 i0 (.cells 2 (aB.flatMap bS) 0)),64⟩⟩:St)∧fU bP (bW bP n1) m aB a_1 pZ oI=some r) bC ?_ ?_ ?_)))))))
    · rintro s ⟨_,_,_,_,_,h⟩;cases h
    · refine ⟨_,?_,aB,a_1,pZ,oI,rfl,hm⟩;exact bM (aD 12 _ Z1 (aD 11 _ Z1 (aD 4 _ Z1 (aD 1 _ Z1 (aD 0 _ (bN Z1 Z6) bF))))) Zc
    ·
     rintro n3 s ⟨aB,a_1,pZ,oI,rfl,hm⟩;replace hm:gZ bP (bW bP n1) (fU bP (bW bP n1) n3) aB a_1 pZ oI=some r:=hm;unfold gZ at hm;refine AWp.seq' (sd mix (by kernel_rfl) (N':=128) rfl ?_)
     iterate 7 first|refine pA ?_|refine pB ?_
     obtain ⟨x20,h19,hm⟩:=bnd hm;refine pg rfl rfl Z2 (fun hb=>(aN underlying40 fR (Zh hb) Za Z6 (Zh hb) (bK h19 hb))) ?_;refine pg rfl rfl Z2 (fun hb=>(bL aJ (Zh hb) Za (bK h19 hb) Zb)) ?_
     iterate 2 refine pB ?_
     obtain ⟨x22,h21,hm⟩:=bnd hm;refine pg rfl rfl Z2 (fun hb=>(aN underlying40 fR (Zh hb) Za Z6 (Zh hb) (bK h21 hb))) ?_;refine pg rfl rfl Z2 (fun hb=>(bL aJ (Zh hb) Za (bK h21 hb) Zb)) ?_;obtain ⟨r24,h23,hm⟩:=bnd hm;refine aI.callQCG (r:= .v (.int .i64 r24)) Zd rfl Z2 (fun hb=>(Zh hb)) gF lF (fun hb H=>(.cons (td (Zh hb) (.agg _ (aJ.dat _))) (.cons (td (Zh hb) (.agg _ (aJ.dat _))) .nil))) (fun hb=>lH (bK h23 hb)) ?_
     iterate 2 first|refine pA ?_|refine pB ?_
     refine fs (AWp.condM hm Z1 (fun _ hm=>?_) (fun _ hm=>?_))
     ·
      refine AWp.skip (aV (AWp.block (AWp.reg 64 (N':=192) rfl ?_)))
      iterate 3 refine pA ?_
      refine aI.fin (eR (cN ?_));refine ⟨_,?_,aB,a_1,pZ,(IntKind.i64.wrap (oI-1)),rfl,hm⟩;exact bM (aD 12 _ Z1 (aD 11 _ Z1 (aD 4 _ Z1 (aD 1 _ Z1 (aD 0 _ (bN Z1 Z6) bF))))) Zc
     ·
      refine AWp.exit (dJ (cY (cU (aV (AWp.seq' (sN 192 ?_))))))
      iterate 3 refine pA ?_
      refine fs (AWp.condM hm Z1 (fun _ hm=>?_) (fun _ hm=>?_))
      ·
       refine AWp.exit (dJ (rG Zd ?_));refine cY (cU (aV (sN 256 ?_)))
       iterate 2 refine pA ?_
       refine fs (AWp.ret ?_);cases hm;exact aFx (.inr rfl) Tryz.results162 Z1 Zc
      ·
       refine AWp.skip (aV (sd mix (by kernel_rfl) (N':=256) rfl ?_))
       iterate 6 refine pA ?_
       obtain ⟨x26,h25,hm⟩:=bnd hm;refine pu rfl (aN underlying40 fR Z1 Za Z6 Z1 h25) ?_;refine pu rfl (bL aJ Z1 Za h25 Zb) ?_
       iterate 2 refine pA ?_
       obtain ⟨x28,h27,hm⟩:=bnd hm;refine pu rfl (aN underlying40 fR Z1 Za Z6 Z1 h27) ?_;refine pu rfl (bL aJ Z1 Za h27 Zb) ?_;obtain ⟨x30,h29,hm⟩:=bnd hm;refine pu rfl (aN underlying40 fR Z1 Za Z6 Z1 h29) ?_;obtain ⟨l32,h31,hm⟩:=bnd hm;have qh31:=cX h31;refine aI.heap0 (id:=205) rfl (eP aJ fR Z1 Z1 Za rfl h31) ?_;obtain ⟨x34,h33,hm⟩:=bnd hm;refine pu rfl (aN underlying40 fR Z1 Za Z6 Z1 h33) ?_;obtain ⟨l36,h35,hm⟩:=bnd hm;have qh35:=cX h35;refine aI.heap0 (id:=207) rfl (eP aJ fR Z1 Z1 Za rfl h35) ?_;refine fs (sN 320 ?_)
       iterate 3 refine pA ?_
       refine fs (AWp.reg 64 (N':=384) rfl ?_)
       iterate 3 refine pA ?_
       refine aI.fin (eR (cN ?_));refine ⟨_,?_,l36,a_1,(IntKind.i64.wrap (pZ+1)),(IntKind.i64.wrap (oI-1)),rfl,hm⟩;exact bM (aD 12 _ Z1 (aD 11 _ Z1 (aD 4 _ Z1 (aD 1 _ Z1 (aD 0 _ (bN Z1 Z6) bF))))) Zc
def kU(bP:(aC→aC→Option (Int)))(rec3:List aC→Int→Int→Int→Option (Int×Bool×List aC))(rec5:List aC→Int→Int→Int→Option (Int×Bool×List aC))(aB:List aC)(a_1:Int)(kC:Int)(jI:Int):Option (Int×Bool×List aC):=
 ((fG ((decide (kC≤jI))==true) (aC.mk 0 0) (idx aB jI)).bind fun x56=>
 ((fG ((decide (kC≤jI))==true) (aC.mk 0 0) (idx aB a_1)).bind fun x58=>
 ((fG ((decide (kC≤jI))==true) 0 (bP x56 x58)).bind fun r60=>
 (bif ((decide (kC≤jI))&&(!(decide (r60<0)))) then
  rec5 aB a_1 kC (IntKind.i64.wrap (jI-1))
 else
  (bif (decide (jI<kC)) then
   ((idx aB a_1).bind fun x62=>
   ((idx aB jI).bind fun x64=>
   ((idx aB jI).bind fun x66=>
   ((stt aB jI x62).bind fun l68=>
   ((idx l68 a_1).bind fun x70=>
   ((stt l68 a_1 x64).bind fun l72=>
   some (jI,false,l72)))))))
  else
   ((idx aB jI).bind fun x74=>
   ((idx aB kC).bind fun x76=>
   ((idx aB kC).bind fun x78=>
   ((stt aB kC x74).bind fun l80=>
   ((idx l80 jI).bind fun x82=>
   ((stt l80 jI x76).bind fun l84=>
   rec3 l84 a_1 (IntKind.i64.wrap (kC+1)) (IntKind.i64.wrap (jI-1)))))))))))))
def iF(bP:(aC→aC→Option (Int)))(rec3:List aC→Int→Int→Int→Option (Int×Bool×List aC)):Nat→List aC→Int→Int→Int→Option (Int×Bool×List aC)
 |0=>fun _ _ _ _=>none
 |n+1=>kU bP rec3 (iF bP rec3 n)
def kT(bP:(aC→aC→Option (Int)))(rec3:List aC→Int→Int→Int→Option (Int×Bool×List aC))(rec4:List aC→Int→Int→Int→Option (Int×Bool×List aC))(aB:List aC)(a_1:Int)(kC:Int)(jI:Int):Option (Int×Bool×List aC):=
 ((fG ((decide (kC≤jI))==true) (aC.mk 0 0) (idx aB kC)).bind fun x50=>
 ((fG ((decide (kC≤jI))==true) (aC.mk 0 0) (idx aB a_1)).bind fun x52=>
 ((fG ((decide (kC≤jI))==true) 0 (bP x50 x52)).bind fun r54=>
 (bif ((decide (kC≤jI))&&(decide (r54<0))) then
  rec4 aB a_1 (IntKind.i64.wrap (kC+1)) jI
 else
  iF bP rec3 bC aB a_1 kC jI))))
def iE(bP:(aC→aC→Option (Int)))(rec3:List aC→Int→Int→Int→Option (Int×Bool×List aC)):Nat→List aC→Int→Int→Int→Option (Int×Bool×List aC)
 |0=>fun _ _ _ _=>none
 |n+1=>kT bP rec3 (iE bP rec3 n)
def kS(bP:(aC→aC→Option (Int)))(rec3:List aC→Int→Int→Int→Option (Int×Bool×List aC))(aB:List aC)(a_1:Int)(kC:Int)(jI:Int):Option (Int×Bool×List aC):=
 iE bP rec3 bC aB a_1 kC jI
def cQ(bP:(aC→aC→Option (Int))):Nat→List aC→Int→Int→Int→Option (Int×Bool×List aC)
 |0=>fun _ _ _ _=>none
 |n+1=>kS bP (cQ bP n)
def kR(bP:(aC→aC→Option (Int)))(rec2:List aC→Int→Int→Int→Option (Int×Bool×List aC))(aB:List aC)(a_1:Int)(kC:Int)(jI:Int):Option (Int×Bool×List aC):=
 ((fG ((decide (kC≤jI))==true) (aC.mk 0 0) (idx aB jI)).bind fun x20=>
 ((fG ((decide (kC≤jI))==true) (aC.mk 0 0) (idx aB a_1)).bind fun x22=>
 ((fG ((decide (kC≤jI))==true) 0 (bP x20 x22)).bind fun r24=>
 (bif ((decide (kC≤jI))&&(!(decide (r24<0)))) then
  rec2 aB a_1 kC (IntKind.i64.wrap (jI-1))
 else
  (bif (decide (jI<kC)) then
   ((idx aB a_1).bind fun x26=>
   ((idx aB jI).bind fun x28=>
   ((idx aB jI).bind fun x30=>
   ((stt aB jI x26).bind fun l32=>
   ((idx l32 a_1).bind fun x34=>
   ((stt l32 a_1 x28).bind fun l36=>
   some (jI,true,l36)))))))
  else
   ((idx aB jI).bind fun x38=>
   ((idx aB kC).bind fun x40=>
   ((idx aB kC).bind fun x42=>
   ((stt aB kC x38).bind fun l44=>
   ((idx l44 jI).bind fun x46=>
   ((stt l44 jI x40).bind fun l48=>
   cQ bP bC l48 a_1 (IntKind.i64.wrap (kC+1)) (IntKind.i64.wrap (jI-1)))))))))))))
def iD(bP:(aC→aC→Option (Int))):Nat→List aC→Int→Int→Int→Option (Int×Bool×List aC)
 |0=>fun _ _ _ _=>none
 |n+1=>kR bP (iD bP n)
def kQ(bP:(aC→aC→Option (Int)))(rec1:List aC→Int→Int→Int→Option (Int×Bool×List aC))(aB:List aC)(a_1:Int)(kC:Int)(jI:Int):Option (Int×Bool×List aC):=
 ((fG ((decide (kC≤jI))==true) (aC.mk 0 0) (idx aB kC)).bind fun x14=>
 ((fG ((decide (kC≤jI))==true) (aC.mk 0 0) (idx aB a_1)).bind fun x16=>
 ((fG ((decide (kC≤jI))==true) 0 (bP x14 x16)).bind fun r18=>
 (bif ((decide (kC≤jI))&&(decide (r18<0))) then
  rec1 aB a_1 (IntKind.i64.wrap (kC+1)) jI
 else
  iD bP bC aB a_1 kC jI))))
def iC(bP:(aC→aC→Option (Int))):Nat→List aC→Int→Int→Int→Option (Int×Bool×List aC)
 |0=>fun _ _ _ _=>none
 |n+1=>kQ bP (iC bP n)
def lO(aB:List aC)(a_1:Int)(b_2:Int)(mY:Int)(bP:(aC→aC→Option (Int))):Option (Int×Bool×List aC):=
 ((idx aB mY).bind fun x2=>
 ((idx aB a_1).bind fun x4=>
 ((idx aB a_1).bind fun x6=>
 ((stt aB a_1 x2).bind fun l8=>
 ((idx l8 mY).bind fun x10=>
 ((stt l8 mY x4).bind fun l12=>
 iC bP bC l12 a_1 (IntKind.i64.wrap (a_1+1)) (IntKind.i64.wrap (b_2-1))))))))
theorem aC9{aB:List aC}{a_1:Int}{b_2:Int}{mY:Int}{bP:(aC→aC→Option (Int))}{r:Int×Bool×List aC}(hm:lO aB a_1 b_2 mY bP=some r){jH:FuncId}{eN:List AV}(gF: ∀a,a∈eN→AM.Data a)(lF:(Program.funcs prog)[jH]?.any (fun fn=>fn.body.isSome&&fn.name != "runtime.NumGoroutine")=true)(lH: ∀ {x0 x1 r},bP x0 x1=some r→dU prog jH ([.agg [.v (.int .u64 x0.x0),.v (.int .u64 x0.x1)],.agg [.v (.int .u64 x1.x0),.v (.int .u64 x1.x1)]]++eN) (.v (.int .i64 r))){H:aM}{i0:Nat}(he:H.ent i0= .cells 2 (aB.flatMap bS) 0):dR prog 163 [.own i0 0 aB.length,.v (.int .i64 a_1),.v (.int .i64 b_2),.v (.int .i64 mY),.clo (.func jH) [] eN] H (.tup [.v (.int .i64 r.1),.v (.bool r.2.1)]) (H.put i0 (.cells 2 (r.2.2.flatMap bS) 0)):=by
 refine dR.of_bodyM func163 rfl he ?_;generalize H.ent=h0;simp only [ntmps163,List.length_cons,List.length_nil,Nat.reduceAdd,Nat.reduceSub];unfold lO at hm;refine sN 64 ?_
 iterate 2 refine pA ?_
 refine fs (sd mix (by kernel_rfl) (N':=128) rfl ?_)
 iterate 6 refine pA ?_
 obtain ⟨x2,h1,hm⟩:=bnd hm;refine pu rfl (aN underlying40 fR Z1 Za Z6 Z1 h1) ?_;refine pu rfl (bL aJ Z1 Za h1 Zb) ?_
 iterate 2 refine pA ?_
 obtain ⟨x4,h3,hm⟩:=bnd hm;refine pu rfl (aN underlying40 fR Z1 Za Z6 Z1 h3) ?_;refine pu rfl (bL aJ Z1 Za h3 Zb) ?_;obtain ⟨x6,h5,hm⟩:=bnd hm;refine pu rfl (aN underlying40 fR Z1 Za Z6 Z1 h5) ?_;obtain ⟨l8,h7,hm⟩:=bnd hm;have qh7:=cX h7;refine aI.heap0 (id:=77) rfl (eP aJ fR Z1 Z1 Za rfl h7) ?_;obtain ⟨x10,h9,hm⟩:=bnd hm;refine pu rfl (aN underlying40 fR Z1 Za Z6 Z1 h9) ?_;obtain ⟨l12,h11,hm⟩:=bnd hm;have qh11:=cX h11;refine aI.heap0 (id:=79) rfl (eP aJ fR Z1 Z1 Za rfl h11) ?_;refine fs (sN 192 ?_)
 iterate 6 refine pA ?_
 refine fs (AWp.seq' (AWp.block (AWp.loopM (fun m s=> ∃(aB:List aC) (a_1:Int) (kC:Int) (jI:Int),s=(⟨178,(aF (aF (aF (aF (aF (fun _=>AV.any) 0 (.own i0 0 aB.length)) 1 (.v (.int .i64 a_1))) 4 (.clo (.func jH) [] eN)) 12 (.v (.int .i64 kC))) 13 (.v (.int .i64 jI))),⟨(upd h0 i0 (.cells 2 (aB.flatMap bS) 0)),64⟩⟩:St)∧iC bP m aB a_1 kC jI=some r) bC ?_ ?_ ?_)))
 · rintro s ⟨_,_,_,_,_,h⟩;cases h
 · refine ⟨_,?_,l12,a_1,(IntKind.i64.wrap (a_1+1)),(IntKind.i64.wrap (b_2-1)),rfl,hm⟩;exact bM (aD 13 _ Z1 (aD 12 _ Z1 (aD 4 _ Z1 (aD 1 _ Z1 (aD 0 _ (bN Z1 Z6) bF))))) Zc
 ·
  rintro n1 s ⟨aB,a_1,kC,jI,rfl,hm⟩;replace hm:kQ bP (iC bP n1) aB a_1 kC jI=some r:=hm;unfold kQ at hm;refine AWp.seq' (sd mix (by kernel_rfl) (N':=128) rfl ?_)
  iterate 7 first|refine pA ?_|refine pB ?_
  obtain ⟨x14,h13,hm⟩:=bnd hm;refine pg rfl rfl Z2 (fun hb=>(aN underlying40 fR (Zh hb) Za Z6 (Zh hb) (bK h13 hb))) ?_;refine pg rfl rfl Z2 (fun hb=>(bL aJ (Zh hb) Za (bK h13 hb) Zb)) ?_
  iterate 2 refine pB ?_
  obtain ⟨x16,h15,hm⟩:=bnd hm;refine pg rfl rfl Z2 (fun hb=>(aN underlying40 fR (Zh hb) Za Z6 (Zh hb) (bK h15 hb))) ?_;refine pg rfl rfl Z2 (fun hb=>(bL aJ (Zh hb) Za (bK h15 hb) Zb)) ?_;obtain ⟨r18,h17,hm⟩:=bnd hm;refine aI.callQCG (r:= .v (.int .i64 r18)) Zd rfl Z2 (fun hb=>(Zh hb)) gF lF (fun hb H=>(.cons (td (Zh hb) (.agg _ (aJ.dat _))) (.cons (td (Zh hb) (.agg _ (aJ.dat _))) .nil))) (fun hb=>lH (bK h17 hb)) ?_
  iterate 2 first|refine pA ?_|refine pB ?_
  refine fs (AWp.condM hm Z1 (fun _ hm=>?_) (fun _ hm=>?_))
  ·
   refine AWp.skip (aV (AWp.block (AWp.reg 64 (N':=192) rfl ?_)))
   iterate 3 refine pA ?_
   refine aI.fin (eR (cN ?_));refine ⟨_,?_,aB,a_1,(IntKind.i64.wrap (kC+1)),jI,rfl,hm⟩;exact bM (aD 13 _ Z1 (aD 12 _ Z1 (aD 4 _ Z1 (aD 1 _ Z1 (aD 0 _ (bN Z1 Z6) bF))))) Zc
  ·
   refine AWp.exit (dJ (cY (cU (aV (AWp.seq' (AWp.block (AWp.loopM (fun m s=> ∃(aB:List aC) (a_1:Int) (kC:Int) (jI:Int),s=(⟨178,(aF (aF (aF (aF (aF (fun _=>AV.any) 0 (.own i0 0 aB.length)) 1 (.v (.int .i64 a_1))) 4 (.clo (.func jH) [] eN)) 12 (.v (.int .i64 kC))) 13 (.v (.int .i64 jI))),⟨(upd h0 i0 (.cells 2 (aB.flatMap bS) 0)),64⟩⟩:St)∧iD bP m aB a_1 kC jI=some r) bC ?_ ?_ ?_)))))))
   · rintro s ⟨_,_,_,_,_,h⟩;cases h
   · refine ⟨_,?_,aB,a_1,kC,jI,rfl,hm⟩;exact bM (aD 13 _ Z1 (aD 12 _ Z1 (aD 4 _ Z1 (aD 1 _ Z1 (aD 0 _ (bN Z1 Z6) bF))))) Zc
   ·
    rintro n2 s ⟨aB,a_1,kC,jI,rfl,hm⟩;replace hm:kR bP (iD bP n2) aB a_1 kC jI=some r:=hm;unfold kR at hm;refine AWp.seq' (sd mix (by kernel_rfl) (N':=128) rfl ?_)
    iterate 7 first|refine pA ?_|refine pB ?_
    obtain ⟨x20,h19,hm⟩:=bnd hm;refine pg rfl rfl Z2 (fun hb=>(aN underlying40 fR (Zh hb) Za Z6 (Zh hb) (bK h19 hb))) ?_;refine pg rfl rfl Z2 (fun hb=>(bL aJ (Zh hb) Za (bK h19 hb) Zb)) ?_
    iterate 2 refine pB ?_
    obtain ⟨x22,h21,hm⟩:=bnd hm;refine pg rfl rfl Z2 (fun hb=>(aN underlying40 fR (Zh hb) Za Z6 (Zh hb) (bK h21 hb))) ?_;refine pg rfl rfl Z2 (fun hb=>(bL aJ (Zh hb) Za (bK h21 hb) Zb)) ?_;obtain ⟨r24,h23,hm⟩:=bnd hm;refine aI.callQCG (r:= .v (.int .i64 r24)) Zd rfl Z2 (fun hb=>(Zh hb)) gF lF (fun hb H=>(.cons (td (Zh hb) (.agg _ (aJ.dat _))) (.cons (td (Zh hb) (.agg _ (aJ.dat _))) .nil))) (fun hb=>lH (bK h23 hb)) ?_
    iterate 3 first|refine pA ?_|refine pB ?_
    refine fs (AWp.condM hm Z1 (fun _ hm=>?_) (fun _ hm=>?_))
    ·
     refine AWp.skip (aV (AWp.block (AWp.reg 64 (N':=192) rfl ?_)))
     iterate 3 refine pA ?_
     refine aI.fin (eR (cN ?_));refine ⟨_,?_,aB,a_1,kC,(IntKind.i64.wrap (jI-1)),rfl,hm⟩;exact bM (aD 13 _ Z1 (aD 12 _ Z1 (aD 4 _ Z1 (aD 1 _ Z1 (aD 0 _ (bN Z1 Z6) bF))))) Zc
    ·
     refine AWp.exit (dJ (cY (cU (aV (AWp.seq' (sN 192 ?_))))))
     iterate 3 refine pA ?_
     refine fs (AWp.condM hm Z1 (fun _ hm=>?_) (fun _ hm=>?_))
     ·
      refine sd mix (by kernel_rfl) (N':=256) rfl ?_
      iterate 6 refine pA ?_
      obtain ⟨x26,h25,hm⟩:=bnd hm;refine pu rfl (aN underlying40 fR Z1 Za Z6 Z1 h25) ?_;refine pu rfl (bL aJ Z1 Za h25 Zb) ?_
      iterate 2 refine pA ?_
      obtain ⟨x28,h27,hm⟩:=bnd hm;refine pu rfl (aN underlying40 fR Z1 Za Z6 Z1 h27) ?_;refine pu rfl (bL aJ Z1 Za h27 Zb) ?_;obtain ⟨x30,h29,hm⟩:=bnd hm;refine pu rfl (aN underlying40 fR Z1 Za Z6 Z1 h29) ?_;obtain ⟨l32,h31,hm⟩:=bnd hm;have qh31:=cX h31;refine aI.heap0 (id:=205) rfl (eP aJ fR Z1 Z1 Za rfl h31) ?_;obtain ⟨x34,h33,hm⟩:=bnd hm;refine pu rfl (aN underlying40 fR Z1 Za Z6 Z1 h33) ?_;obtain ⟨l36,h35,hm⟩:=bnd hm;have qh35:=cX h35;refine aI.heap0 (id:=207) rfl (eP aJ fR Z1 Z1 Za rfl h35) ?_;refine fs (sN 320 ?_)
      iterate 3 refine pA ?_
      refine fs (AWp.ret (lA ?_));cases hm;exact aQ6 (.inr rfl) Tryz.results163 Z1 Z1 Zc
     ·
      refine AWp.skip (aV (sd mix (by kernel_rfl) (N':=256) rfl ?_))
      iterate 6 refine pA ?_
      obtain ⟨x38,h37,hm⟩:=bnd hm;refine pu rfl (aN underlying40 fR Z1 Za Z6 Z1 h37) ?_;refine pu rfl (bL aJ Z1 Za h37 Zb) ?_
      iterate 2 refine pA ?_
      obtain ⟨x40,h39,hm⟩:=bnd hm;refine pu rfl (aN underlying40 fR Z1 Za Z6 Z1 h39) ?_;refine pu rfl (bL aJ Z1 Za h39 Zb) ?_;obtain ⟨x42,h41,hm⟩:=bnd hm;refine pu rfl (aN underlying40 fR Z1 Za Z6 Z1 h41) ?_;obtain ⟨l44,h43,hm⟩:=bnd hm;have qh43:=cX h43;refine aI.heap0 (id:=205) rfl (eP aJ fR Z1 Z1 Za rfl h43) ?_;obtain ⟨x46,h45,hm⟩:=bnd hm;refine pu rfl (aN underlying40 fR Z1 Za Z6 Z1 h45) ?_;obtain ⟨l48,h47,hm⟩:=bnd hm;have qh47:=cX h47;refine aI.heap0 (id:=207) rfl (eP aJ fR Z1 Z1 Za rfl h47) ?_;refine fs (sN 320 ?_)
      iterate 3 refine pA ?_
      refine fs (sN 384 ?_)
      iterate 3 refine pA ?_
      refine fs (AWp.seq' (AWp.block (AWp.loopM (fun m s=> ∃(aB:List aC) (a_1:Int) (kC:Int) (jI:Int),s=(⟨178,(aF (aF (aF (aF (aF (fun _=>AV.any) 0 (.own i0 0 aB.length)) 1 (.v (.int .i64 a_1))) 4 (.clo (.func jH) [] eN)) 12 (.v (.int .i64 kC))) 13 (.v (.int .i64 jI))),⟨(upd h0 i0 (.cells 2 (aB.flatMap bS) 0)),64⟩⟩:St)∧cQ bP m aB a_1 kC jI=some r) bC ?_ ?_ ?_)))
      · rintro s ⟨_,_,_,_,_,h⟩;cases h
      · refine ⟨_,?_,l48,a_1,(IntKind.i64.wrap (kC+1)),(IntKind.i64.wrap (jI-1)),rfl,hm⟩;exact bM (aD 13 _ Z1 (aD 12 _ Z1 (aD 4 _ Z1 (aD 1 _ Z1 (aD 0 _ (bN Z1 Z6) bF))))) Zc
      ·
       rintro n3 s ⟨aB,a_1,kC,jI,rfl,hm⟩;replace hm:kS bP (cQ bP n3) aB a_1 kC jI=some r:=hm;unfold kS at hm;refine AWp.block (AWp.seq' (AWp.block (AWp.loopM (fun m s=> ∃(aB:List aC) (a_1:Int) (kC:Int) (jI:Int),s=(⟨178,(aF (aF (aF (aF (aF (fun _=>AV.any) 0 (.own i0 0 aB.length)) 1 (.v (.int .i64 a_1))) 4 (.clo (.func jH) [] eN)) 12 (.v (.int .i64 kC))) 13 (.v (.int .i64 jI))),⟨(upd h0 i0 (.cells 2 (aB.flatMap bS) 0)),64⟩⟩:St)∧iE bP (cQ bP n3) m aB a_1 kC jI=some r) bC ?_ ?_ ?_)))
       · rintro s ⟨_,_,_,_,_,h⟩;cases h
       · refine ⟨_,?_,aB,a_1,kC,jI,rfl,hm⟩;exact bM (aD 13 _ Z1 (aD 12 _ Z1 (aD 4 _ Z1 (aD 1 _ Z1 (aD 0 _ (bN Z1 Z6) bF))))) Zc
       ·
        rintro n4 s ⟨aB,a_1,kC,jI,rfl,hm⟩;replace hm:kT bP (cQ bP n3) (iE bP (cQ bP n3) n4) aB a_1 kC jI=some r:=hm;unfold kT at hm;refine AWp.seq' (sd mix (by kernel_rfl) (N':=128) rfl ?_)
        iterate 7 first|refine pA ?_|refine pB ?_
        obtain ⟨x50,h49,hm⟩:=bnd hm;refine pg rfl rfl Z2 (fun hb=>(aN underlying40 fR (Zh hb) Za Z6 (Zh hb) (bK h49 hb))) ?_;refine pg rfl rfl Z2 (fun hb=>(bL aJ (Zh hb) Za (bK h49 hb) Zb)) ?_
        iterate 2 refine pB ?_
        obtain ⟨x52,h51,hm⟩:=bnd hm;refine pg rfl rfl Z2 (fun hb=>(aN underlying40 fR (Zh hb) Za Z6 (Zh hb) (bK h51 hb))) ?_;refine pg rfl rfl Z2 (fun hb=>(bL aJ (Zh hb) Za (bK h51 hb) Zb)) ?_;obtain ⟨r54,h53,hm⟩:=bnd hm;refine aI.callQCG (r:= .v (.int .i64 r54)) Zd rfl Z2 (fun hb=>(Zh hb)) gF lF (fun hb H=>(.cons (td (Zh hb) (.agg _ (aJ.dat _))) (.cons (td (Zh hb) (.agg _ (aJ.dat _))) .nil))) (fun hb=>lH (bK h53 hb)) ?_
        iterate 2 first|refine pA ?_|refine pB ?_
        refine fs (AWp.condM hm Z1 (fun _ hm=>?_) (fun _ hm=>?_))
        ·
         refine AWp.skip (aV (AWp.block (AWp.reg 64 (N':=192) rfl ?_)))
         iterate 3 refine pA ?_
         refine aI.fin (eR (cN ?_));refine ⟨_,?_,aB,a_1,(IntKind.i64.wrap (kC+1)),jI,rfl,hm⟩;exact bM (aD 13 _ Z1 (aD 12 _ Z1 (aD 4 _ Z1 (aD 1 _ Z1 (aD 0 _ (bN Z1 Z6) bF))))) Zc
        ·
         refine AWp.exit (dJ (cY (cU (aV (AWp.seq' (AWp.block (AWp.loopM (fun m s=> ∃(aB:List aC) (a_1:Int) (kC:Int) (jI:Int),s=(⟨178,(aF (aF (aF (aF (aF (fun _=>AV.any) 0 (.own i0 0 aB.length)) 1 (.v (.int .i64 a_1))) 4 (.clo (.func jH) [] eN)) 12 (.v (.int .i64 kC))) 13 (.v (.int .i64 jI))),⟨(upd h0 i0 (.cells 2 (aB.flatMap bS) 0)),64⟩⟩:St)∧iF bP (cQ bP n3) m aB a_1 kC jI=some r) bC ?_ ?_ ?_)))))))
         · rintro s ⟨_,_,_,_,_,h⟩;cases h
         · refine ⟨_,?_,aB,a_1,kC,jI,rfl,hm⟩;exact bM (aD 13 _ Z1 (aD 12 _ Z1 (aD 4 _ Z1 (aD 1 _ Z1 (aD 0 _ (bN Z1 Z6) bF))))) Zc
         ·
          rintro n5 s ⟨aB,a_1,kC,jI,rfl,hm⟩;replace hm:kU bP (cQ bP n3) (iF bP (cQ bP n3) n5) aB a_1 kC jI=some r:=hm;unfold kU at hm;refine AWp.seq' (sd mix (by kernel_rfl) (N':=128) rfl ?_)
          iterate 7 first|refine pA ?_|refine pB ?_
          obtain ⟨x56,h55,hm⟩:=bnd hm;refine pg rfl rfl Z2 (fun hb=>(aN underlying40 fR (Zh hb) Za Z6 (Zh hb) (bK h55 hb))) ?_;refine pg rfl rfl Z2 (fun hb=>(bL aJ (Zh hb) Za (bK h55 hb) Zb)) ?_
          iterate 2 refine pB ?_
          obtain ⟨x58,h57,hm⟩:=bnd hm;refine pg rfl rfl Z2 (fun hb=>(aN underlying40 fR (Zh hb) Za Z6 (Zh hb) (bK h57 hb))) ?_;refine pg rfl rfl Z2 (fun hb=>(bL aJ (Zh hb) Za (bK h57 hb) Zb)) ?_;obtain ⟨r60,h59,hm⟩:=bnd hm;refine aI.callQCG (r:= .v (.int .i64 r60)) Zd rfl Z2 (fun hb=>(Zh hb)) gF lF (fun hb H=>(.cons (td (Zh hb) (.agg _ (aJ.dat _))) (.cons (td (Zh hb) (.agg _ (aJ.dat _))) .nil))) (fun hb=>lH (bK h59 hb)) ?_
          iterate 3 first|refine pA ?_|refine pB ?_
          refine fs (AWp.condM hm Z1 (fun _ hm=>?_) (fun _ hm=>?_))
          ·
           refine AWp.skip (aV (AWp.block (AWp.reg 64 (N':=192) rfl ?_)))
           iterate 3 refine pA ?_
           refine aI.fin (eR (cN ?_));refine ⟨_,?_,aB,a_1,kC,(IntKind.i64.wrap (jI-1)),rfl,hm⟩;exact bM (aD 13 _ Z1 (aD 12 _ Z1 (aD 4 _ Z1 (aD 1 _ Z1 (aD 0 _ (bN Z1 Z6) bF))))) Zc
          ·
           refine AWp.exit (dJ (cY (cU (aV (AWp.seq' (sN 192 ?_))))))
           iterate 3 refine pA ?_
           refine fs (AWp.condM hm Z1 (fun _ hm=>?_) (fun _ hm=>?_))
           ·
            refine AWp.exit (dJ (rG Zd ?_));refine cY (cU (aV (sd mix (by kernel_rfl) (N':=256) rfl ?_)))
            iterate 6 refine pA ?_
            obtain ⟨x62,h61,hm⟩:=bnd hm;refine pu rfl (aN underlying40 fR Z1 Za Z6 Z1 h61) ?_;refine pu rfl (bL aJ Z1 Za h61 Zb) ?_
            iterate 2 refine pA ?_
            obtain ⟨x64,h63,hm⟩:=bnd hm;refine pu rfl (aN underlying40 fR Z1 Za Z6 Z1 h63) ?_;refine pu rfl (bL aJ Z1 Za h63 Zb) ?_;obtain ⟨x66,h65,hm⟩:=bnd hm;refine pu rfl (aN underlying40 fR Z1 Za Z6 Z1 h65) ?_;obtain ⟨l68,h67,hm⟩:=bnd hm;have qh67:=cX h67;refine aI.heap0 (id:=205) rfl (eP aJ fR Z1 Z1 Za rfl h67) ?_;obtain ⟨x70,h69,hm⟩:=bnd hm;refine pu rfl (aN underlying40 fR Z1 Za Z6 Z1 h69) ?_;obtain ⟨l72,h71,hm⟩:=bnd hm;have qh71:=cX h71;refine aI.heap0 (id:=207) rfl (eP aJ fR Z1 Z1 Za rfl h71) ?_;refine fs (sN 320 ?_)
            iterate 3 refine pA ?_
            refine fs (AWp.ret ?_);cases hm;exact aQ6 (.inr rfl) Tryz.results163 Z1 Z1 Zc
           ·
            refine AWp.skip (aV (sd mix (by kernel_rfl) (N':=256) rfl ?_))
            iterate 6 refine pA ?_
            obtain ⟨x74,h73,hm⟩:=bnd hm;refine pu rfl (aN underlying40 fR Z1 Za Z6 Z1 h73) ?_;refine pu rfl (bL aJ Z1 Za h73 Zb) ?_
            iterate 2 refine pA ?_
            obtain ⟨x76,h75,hm⟩:=bnd hm;refine pu rfl (aN underlying40 fR Z1 Za Z6 Z1 h75) ?_;refine pu rfl (bL aJ Z1 Za h75 Zb) ?_;obtain ⟨x78,h77,hm⟩:=bnd hm;refine pu rfl (aN underlying40 fR Z1 Za Z6 Z1 h77) ?_;obtain ⟨l80,h79,hm⟩:=bnd hm;have qh79:=cX h79;refine aI.heap0 (id:=205) rfl (eP aJ fR Z1 Z1 Za rfl h79) ?_;obtain ⟨x82,h81,hm⟩:=bnd hm;refine pu rfl (aN underlying40 fR Z1 Za Z6 Z1 h81) ?_;obtain ⟨l84,h83,hm⟩:=bnd hm;have qh83:=cX h83;refine aI.heap0 (id:=207) rfl (eP aJ fR Z1 Z1 Za rfl h83) ?_;refine fs (sN 320 ?_)
            iterate 3 refine pA ?_
            refine fs (AWp.reg 64 (N':=384) rfl ?_)
            iterate 3 refine pA ?_
            refine aI.fin (eR (cN ?_));refine ⟨_,?_,l84,a_1,(IntKind.i64.wrap (kC+1)),(IntKind.i64.wrap (jI-1)),rfl,hm⟩;exact bM (aD 13 _ Z1 (aD 12 _ Z1 (aD 4 _ Z1 (aD 1 _ Z1 (aD 0 _ (bN Z1 Z6) bF))))) Zc
abbrev jV(bP:(aC→aC→Option (Int)))(recf:(List aC)→Int→Int→Int→((aC→aC→Option (Int)))→Option (List aC))(rec1:List aC→Int→Int→Int→Bool→Bool→Option (List aC))(aB:List aC)(a_1:Int)(b_2:Int)(bG:Int)(bT:Bool)(bI:Bool)(jS:Int)(qJ:Int):Option (List aC):=
 ((fG ((decide (0<a_1))==true) (aC.mk 0 0) (idx aB (IntKind.i64.wrap (a_1-1)))).bind fun x9=>
 ((fG ((decide (0<a_1))==true) (aC.mk 0 0) (idx aB qJ)).bind fun x11=>
 ((fG ((decide (0<a_1))==true) 0 (bP x9 x11)).bind fun r13=>
 (bif ((decide (0<a_1))&&(!(decide (r13<0)))) then
  ((sX (fun x=>x.2.length) aB.length (iW aB a_1 b_2 qJ bP)).bind fun ⟨r16,l15⟩=>
  rec1 l15 r16 b_2 bG bT bI)
 else
  ((sX (fun x=>x.2.2.length) aB.length (lO aB a_1 b_2 qJ bP)).bind fun ⟨r19,r20,l18⟩=>
  (bif (decide ((IntKind.i64.wrap (r19-a_1))<(IntKind.i64.wrap (b_2-r19)))) then
   ((sX (fun x=>x.length) l18.length (recf l18 a_1 r19 bG bP)).bind fun l22=>
   rec1 l22 (IntKind.i64.wrap (r19+1)) b_2 bG (decide ((IntKind.i64.wrap (Int.tdiv jS 8))≤(IntKind.i64.wrap (r19-a_1)))) r20)
  else
   ((sX (fun x=>x.length) l18.length (recf l18 (IntKind.i64.wrap (r19+1)) b_2 bG bP)).bind fun l24=>
   rec1 l24 a_1 r19 bG (decide ((IntKind.i64.wrap (Int.tdiv jS 8))≤(IntKind.i64.wrap (b_2-r19)))) r20)))))))
abbrev jU(bP:(aC→aC→Option (Int)))(recf:(List aC)→Int→Int→Int→((aC→aC→Option (Int)))→Option (List aC))(rec1:List aC→Int→Int→Int→Bool→Bool→Option (List aC))(aB:List aC)(a_1:Int)(b_2:Int)(bG:Int)(bT:Bool)(bI:Bool)(jS:Int)(qJ:Int)(aN0:Int):Option (List aC):=
 (bif ((bT&&bI)&&(aN0==1)) then
  ((sX (fun x=>x.2.length) aB.length (fZ aB a_1 b_2 bP)).bind fun ⟨r27,l26⟩=>
  (bif r27 then
   some l26
  else
   jV bP recf rec1 l26 a_1 b_2 bG bT bI jS qJ))
 else
  jV bP recf rec1 aB a_1 b_2 bG bT bI jS qJ)
abbrev jT(bP:(aC→aC→Option (Int)))(recf:(List aC)→Int→Int→Int→((aC→aC→Option (Int)))→Option (List aC))(rec1:List aC→Int→Int→Int→Bool→Bool→Option (List aC))(aB:List aC)(a_1:Int)(b_2:Int)(bG:Int)(bT:Bool)(bI:Bool)(jS:Int):Option (List aC):=
 ((mN aB a_1 b_2 bP).bind fun ⟨r6,r7⟩=>
 (bif (r7==2) then
  ((sX (fun x=>x.length) aB.length (kH aB a_1 b_2 bP)).bind fun l29=>
  jU bP recf rec1 l29 a_1 b_2 bG bT bI jS (IntKind.i64.wrap ((IntKind.i64.wrap (b_2-1))-(IntKind.i64.wrap (r6-a_1)))) 1)
 else
  jU bP recf rec1 aB a_1 b_2 bG bT bI jS r6 r7))
def mA(bP:(aC→aC→Option (Int)))(recf:(List aC)→Int→Int→Int→((aC→aC→Option (Int)))→Option (List aC))(rec1:List aC→Int→Int→Int→Bool→Bool→Option (List aC))(aB:List aC)(a_1:Int)(b_2:Int)(bG:Int)(bT:Bool)(bI:Bool):Option (List aC):=
 (bif (decide ((IntKind.i64.wrap (b_2-a_1))≤12)) then
  ((sX (fun x=>x.length) aB.length (jM aB a_1 b_2 bP)).bind fun l2=>
  some l2)
 else
  (bif (bG==0) then
   ((sX (fun x=>x.length) aB.length (lY aB a_1 b_2 bP)).bind fun l4=>
   some l4)
  else
   (bif (!bT) then
    ((sX (fun x=>x.length) aB.length (jK aB a_1 b_2 bP)).bind fun l31=>
    jT bP recf rec1 l31 a_1 b_2 (IntKind.i64.wrap (bG-1)) bT bI (IntKind.i64.wrap (b_2-a_1)))
   else
    jT bP recf rec1 aB a_1 b_2 bG bT bI (IntKind.i64.wrap (b_2-a_1)))))
def cO(bP:(aC→aC→Option (Int)))(recf:(List aC)→Int→Int→Int→((aC→aC→Option (Int)))→Option (List aC)):Nat→List aC→Int→Int→Int→Bool→Bool→Option (List aC)
 |0=>fun _ _ _ _ _ _=>none
 |n+1=>mA bP recf (cO bP recf n)
def qF(recf:(List aC)→Int→Int→Int→((aC→aC→Option (Int)))→Option (List aC))(aB:List aC)(a_1:Int)(b_2:Int)(bG:Int)(bP:(aC→aC→Option (Int))):Option (List aC):=
 cO bP recf bC aB a_1 b_2 bG true true
def bZ:Nat→(List aC)→Int→Int→Int→(aC→aC→Option (Int))→Option (List aC)
 |0=>fun _ _ _ _ _=>none
 |n+1=>qF (bZ n)
def uK(aB:List aC)(a_1:Int)(b_2:Int)(bG:Int)(bP:(aC→aC→Option (Int))):Option (List aC):=bZ bC aB a_1 b_2 bG bP
theorem aD4: ∀(nn:Nat) {aB:List aC} {a_1:Int} {b_2:Int} {bG:Int} {bP:(aC→aC→Option (Int))} {r:List aC} (hm:bZ nn aB a_1 b_2 bG bP=some r) {jH:FuncId} {eN:List AV} (gF: ∀a,a∈eN→AM.Data a) (lF:(Program.funcs prog)[jH]?.any (fun fn=>fn.body.isSome&&fn.name != "runtime.NumGoroutine")=true) (lH: ∀ {x0 x1 r},bP x0 x1=some r→dU prog jH ([.agg [.v (.int .u64 x0.x0),.v (.int .u64 x0.x1)],.agg [.v (.int .u64 x1.x0),.v (.int .u64 x1.x1)]]++eN) (.v (.int .i64 r))) {H:aM} {i0:Nat} (he:H.ent i0= .cells 2 (aB.flatMap bS) 0) (hk: ∀id,3000000≤id→H.ent id= .fresh) (hD: ∀id,aD9 (H.ent id)) (hi:i0<3000000),dR prog 136 [.own i0 0 aB.length,.v (.int .i64 a_1),.v (.int .i64 b_2),.v (.int .i64 bG),.clo (.func jH) [] eN] H (.tup []) (H.put i0 (.cells 2 (r.flatMap bS) 0)):=by
 intro nn
 induction nn with
 |zero=>
  intro aB a_1 b_2 bG bP r hm;replace hm:none=some r:=hm;cases hm
 |succ nn ih=>
  intro aB a_1 b_2 bG bP r hm jH eN gF lF lH H i0 he hk hD hi;replace hm:qF (bZ nn) aB a_1 b_2 bG bP=some r:=hm;refine dR.of_bodyK func136 rfl he hk ?_;clear he;generalize H.ent=h0 at hk hD⊢;have hne1: ∀ {k:Nat},3000000≤k→(k==i0)=false:=fun hh=>by simp;omega
  have hne2: ∀ {k:Nat},3000000≤k→(i0==k)=false:=fun hh=>by simp;omega
  simp only [ntmps136,List.length_cons,List.length_nil,Nat.reduceAdd,Nat.reduceSub];unfold qF at hm;refine AWp.behind ?_;refine sN 3000064 (pA ?_);refine fs (sN 3000128 (pA ?_));refine fs (AWp.block (AWp.loopM (fun m s=> ∃(aB:List aC) (a_1:Int) (b_2:Int) (bG:Int) (bT:Bool) (bI:Bool),s=(⟨148,(aF (aF (aF (aF (aF (aF (aF (fun _=>AV.any) 0 (.own i0 0 aB.length)) 1 (.v (.int .i64 a_1))) 2 (.v (.int .i64 b_2))) 3 (.v (.int .i64 bG))) 4 (.clo (.func jH) [] eN)) 10 (.v (.bool bT))) 11 (.v (.bool bI))),⟨(upd h0 i0 (.cells 2 (aB.flatMap bS) 0)),64⟩⟩:St)∧cO bP (bZ nn) m aB a_1 b_2 bG bT bI=some r) bC ?_ ?_ ?_))
  · rintro s ⟨_,_,_,_,_,_,_,h⟩;cases h
  · refine ⟨_,?_,aB,a_1,b_2,bG,true,true,rfl,hm⟩;exact bM (aD 11 _ Z1 (aD 10 _ Z1 (aD 4 _ Z1 (aD 3 _ Z1 (aD 2 _ Z1 (aD 1 _ Z1 (aD 0 _ (bN Z1 Z6) bF))))))) Zi
  ·
   rintro n1 s ⟨aB,a_1,b_2,bG,bT,bI,rfl,hm⟩;replace hm:mA bP (bZ nn) (cO bP (bZ nn) n1) aB a_1 b_2 bG bT bI=some r:=hm;unfold mA at hm;refine AWp.block (sN 128 ?_)
   iterate 4 refine pA ?_
   refine fs (AWp.seq' (sN 192 ?_))
   iterate 2 refine pA ?_
   refine fs (AWp.condM hm Z1 (fun _ hm=>?_) (fun _ hm=>?_))
   ·
    refine sN 256 ?_
    iterate 4 refine pA ?_
    obtain ⟨l2,h1,hm⟩:=bnd hm;have qh1:=oZ h1;refine aI.callM Zd Z1 bWe ?_ (zZ (oO h1) gF lF lH (i0:=i0) Ze) ?_
    ·
     try simp only [go_sem,Nat.reduceBEq]
     first|done|rfl|(congr 2<;>omega)
    refine fs (AWp.ret (lA (pO (qQ (pO ?_)))));cases hm;exact aIw (.inr rfl) Tryz.results136 (by intro q hq;simp only [upd];all_goals ((repeat' split)<;>first|rfl|omega)) (fun q hq=>by rw [upd_ne _ _ _ _ om];exact hk q hq) (nL (vS aJ) hD)
   ·
    refine AWp.skip (aV (AWp.seq' (sN 256 ?_)))
    iterate 2 refine pA ?_
    refine fs (AWp.condM hm Z1 (fun _ hm=>?_) (fun _ hm=>?_))
    ·
     refine sN 320 ?_
     iterate 4 refine pA ?_
     obtain ⟨l4,h3,hm⟩:=bnd hm;have qh3:=oZ h3;refine aI.callM Zd Z1 bWf ?_ (aD2 (oO h3) gF lF lH (i0:=i0) Ze) ?_
     ·
      try simp only [go_sem,Nat.reduceBEq]
      first|done|rfl|(congr 2<;>omega)
     refine fs (AWp.ret (lA (pO (qQ (pO ?_)))));cases hm;exact aIw (.inr rfl) Tryz.results136 (by intro q hq;simp only [upd];all_goals ((repeat' split)<;>first|rfl|omega)) (fun q hq=>by rw [upd_ne _ _ _ _ om];exact hk q hq) (nL (vS aJ) hD)
    ·
     refine AWp.skip (aV (AWp.seqJ (fun s=> ∃(aB:List aC) (a_1:Int) (b_2:Int) (bG:Int) (bT:Bool) (bI:Bool) (jS:Int),s=(⟨148,(aF (aF (aF (aF (aF (aF (aF (aF (fun _=>AV.any) 0 (.own i0 0 aB.length)) 1 (.v (.int .i64 a_1))) 2 (.v (.int .i64 b_2))) 3 (.v (.int .i64 bG))) 4 (.clo (.func jH) [] eN)) 10 (.v (.bool bT))) 11 (.v (.bool bI))) 12 (.v (.int .i64 jS))),⟨(upd h0 i0 (.cells 2 (aB.flatMap bS) 0)),64⟩⟩:St)∧jT bP (bZ nn) (cO bP (bZ nn) n1) aB a_1 b_2 bG bT bI jS=some r) ?_ ?_))
     ·
      refine sN 320 ?_
      iterate 2 refine pA ?_
      refine fs (AWp.condM hm Z1 (fun _ hm=>?_) (fun _ hm=>?_))
      ·
       refine sN 384 ?_
       iterate 4 refine pA ?_
       obtain ⟨l31,h30,hm⟩:=bnd hm;have qh30:=oZ h30;refine aI.callM Zd Z1 bWg ?_ (zW (oO h30) gF lF lH (i0:=i0) Ze (fun q hq=>by simp only [upd_ne _ _ _ _ (show q≠i0 by omega)];exact hk q hq) (by (repeat (first|exact hD|refine nL (vS aJ) ?_))) hi) ?_
       ·
        try simp only [go_sem,Nat.reduceBEq]
        first|done|rfl|(congr 2<;>omega)
       refine fs (AWp.reg 64 (N':=448) rfl ?_)
       iterate 3 refine pA ?_
       refine aI.fin (nG ?_);refine ⟨_,?_,l31,a_1,b_2,(IntKind.i64.wrap (bG-1)),bT,bI,(IntKind.i64.wrap (b_2-a_1)),rfl,hm⟩;exact bM (aD 12 _ Z1 (aD 11 _ Z1 (aD 10 _ Z1 (aD 4 _ Z1 (aD 3 _ Z1 (aD 2 _ Z1 (aD 1 _ Z1 (aD 0 _ (bN Z1 Z6) bF)))))))) Zi
      · refine AWp.skip (nG ?_);refine ⟨_,?_,aB,a_1,b_2,bG,bT,bI,(IntKind.i64.wrap (b_2-a_1)),rfl,hm⟩;exact bM (aD 12 _ Z1 (aD 11 _ Z1 (aD 10 _ Z1 (aD 4 _ Z1 (aD 3 _ Z1 (aD 2 _ Z1 (aD 1 _ Z1 (aD 0 _ (bN Z1 Z6) bF)))))))) Zi
     ·
      rintro s ⟨aB,a_1,b_2,bG,bT,bI,jS,rfl,hm⟩;unfold jT at hm;refine sN 128 ?_
      iterate 4 refine pA ?_
      obtain ⟨⟨r6,r7⟩,h5,hm⟩:=bnd hm;refine aI.callB (r:= .tup [.v (.int .i64 r6),.v (.int .i64 r7)]) Zd Z1 bWh (.cons (lto aJ Z1 Ze Z6) (.cons (ltd fun H=>(td Z1 (.v _))) (.cons (ltd fun H=>(td Z1 (.v _))) (.cons (ltd fun H=>(td Z1 (bI8 gF))) aRj.nil)))) bT0 (aBk h5 gF lF lH) ?_
      iterate 5 refine pA ?_
      refine fs (AWp.seqJ (fun s=> ∃(aB:List aC) (a_1:Int) (b_2:Int) (bG:Int) (bT:Bool) (bI:Bool) (jS:Int) (qJ:Int) (aN0:Int),s=(⟨148,(aF (aF (aF (aF (aF (aF (aF (aF (aF (aF (fun _=>AV.any) 0 (.own i0 0 aB.length)) 1 (.v (.int .i64 a_1))) 2 (.v (.int .i64 b_2))) 3 (.v (.int .i64 bG))) 4 (.clo (.func jH) [] eN)) 10 (.v (.bool bT))) 11 (.v (.bool bI))) 12 (.v (.int .i64 jS))) 13 (.v (.int .i64 qJ))) 14 (.v (.int .i64 aN0))),⟨(upd h0 i0 (.cells 2 (aB.flatMap bS) 0)),64⟩⟩:St)∧jU bP (bZ nn) (cO bP (bZ nn) n1) aB a_1 b_2 bG bT bI jS qJ aN0=some r) ?_ ?_)
      ·
       refine sN 192 ?_
       iterate 2 refine pA ?_
       refine fs (AWp.condM hm Z1 (fun _ hm=>?_) (fun _ hm=>?_))
       ·
        refine sN 256 ?_
        iterate 4 refine pA ?_
        obtain ⟨l29,h28,hm⟩:=bnd hm;have qh28:=oZ h28;refine aI.callM Zd Z1 bWi ?_ (aAj (oO h28) gF lF lH (i0:=i0) Ze) ?_
        ·
         try simp only [go_sem,Nat.reduceBEq]
         first|done|rfl|(congr 2<;>omega)
        refine fs (sN 320 ?_)
        iterate 7 refine pA ?_
        refine fs (AWp.reg 64 (N':=384) rfl ?_);refine pA ?_;refine aI.fin (nG ?_);refine ⟨_,?_,l29,a_1,b_2,bG,bT,bI,jS,(IntKind.i64.wrap ((IntKind.i64.wrap (b_2-1))-(IntKind.i64.wrap (r6-a_1)))),1,rfl,hm⟩;exact bM (aD 14 _ Z1 (aD 13 _ Z1 (aD 12 _ Z1 (aD 11 _ Z1 (aD 10 _ Z1 (aD 4 _ Z1 (aD 3 _ Z1 (aD 2 _ Z1 (aD 1 _ Z1 (aD 0 _ (bN Z1 Z6) bF)))))))))) Zi
       · refine AWp.skip (nG ?_);refine ⟨_,?_,aB,a_1,b_2,bG,bT,bI,jS,r6,r7,rfl,hm⟩;exact bM (aD 14 _ Z1 (aD 13 _ Z1 (aD 12 _ Z1 (aD 11 _ Z1 (aD 10 _ Z1 (aD 4 _ Z1 (aD 3 _ Z1 (aD 2 _ Z1 (aD 1 _ Z1 (aD 0 _ (bN Z1 Z6) bF)))))))))) Zi
      ·
       rintro s ⟨aB,a_1,b_2,bG,bT,bI,jS,qJ,aN0,rfl,hm⟩;unfold jU at hm;refine AWp.seqJ (fun s=> ∃(aB:List aC) (a_1:Int) (b_2:Int) (bG:Int) (bT:Bool) (bI:Bool) (jS:Int) (qJ:Int),s=(⟨148,(aF (aF (aF (aF (aF (aF (aF (aF (aF (fun _=>AV.any) 0 (.own i0 0 aB.length)) 1 (.v (.int .i64 a_1))) 2 (.v (.int .i64 b_2))) 3 (.v (.int .i64 bG))) 4 (.clo (.func jH) [] eN)) 10 (.v (.bool bT))) 11 (.v (.bool bI))) 12 (.v (.int .i64 jS))) 13 (.v (.int .i64 qJ))),⟨(upd h0 i0 (.cells 2 (aB.flatMap bS) 0)),64⟩⟩:St)∧jV bP (bZ nn) (cO bP (bZ nn) n1) aB a_1 b_2 bG bT bI jS qJ=some r) ?_ ?_
       ·
        refine sN 128 ?_
        iterate 8 first|refine pA ?_|refine pB ?_
        refine fs (AWp.condM hm Z1 (fun _ hm=>?_) (fun _ hm=>?_))
        ·
         refine sN 192 ?_
         iterate 4 refine pA ?_
         obtain ⟨⟨r27,l26⟩,h25,hm⟩:=bnd hm;have qh25:=oZ h25;dsimp only at qh25;refine aI.callM Zd Z1 bWj ?_ (uI (oO h25) gF lF lH (i0:=i0) Ze) ?_
         ·
          try simp only [go_sem,Nat.reduceBEq]
          first|done|rfl|(congr 2<;>omega)
         refine fs (AWp.condM hm Z1 (fun _ hm=>?_) (fun _ hm=>?_))
         · refine AWp.ret (aQv (pO (qQ (pO ?_))));cases hm;exact aIw (.inr rfl) Tryz.results136 (by intro q hq;simp only [upd];all_goals ((repeat' split)<;>first|rfl|omega)) (fun q hq=>by rw [upd_ne _ _ _ _ om];exact hk q hq) (nL (vS aJ) hD)
         · refine AWp.skip (nG ?_);refine ⟨_,?_,l26,a_1,b_2,bG,bT,bI,jS,qJ,rfl,hm⟩;exact bM (aD 13 _ Z1 (aD 12 _ Z1 (aD 11 _ Z1 (aD 10 _ Z1 (aD 4 _ Z1 (aD 3 _ Z1 (aD 2 _ Z1 (aD 1 _ Z1 (aD 0 _ (bN Z1 Z6) bF))))))))) Zi
        · refine AWp.skip (nG ?_);refine ⟨_,?_,aB,a_1,b_2,bG,bT,bI,jS,qJ,rfl,hm⟩;exact bM (aD 13 _ Z1 (aD 12 _ Z1 (aD 11 _ Z1 (aD 10 _ Z1 (aD 4 _ Z1 (aD 3 _ Z1 (aD 2 _ Z1 (aD 1 _ Z1 (aD 0 _ (bN Z1 Z6) bF))))))))) Zi
       ·
        rintro s ⟨aB,a_1,b_2,bG,bT,bI,jS,qJ,rfl,hm⟩;unfold jV at hm;refine AWp.seq' (sd mix (by kernel_rfl) (N':=128) rfl ?_)
        iterate 7 first|refine pA ?_|refine pB ?_
        obtain ⟨x9,h8,hm⟩:=bnd hm;refine pg rfl rfl Z2 (fun hb=>(aN underlying40 fR (Zh hb) Ze Z6 (Zh hb) (bK h8 hb))) ?_;refine pg rfl rfl Z2 (fun hb=>(bL aJ (Zh hb) Ze (bK h8 hb) Zb)) ?_
        iterate 2 refine pB ?_
        obtain ⟨x11,h10,hm⟩:=bnd hm;refine pg rfl rfl Z2 (fun hb=>(aN underlying40 fR (Zh hb) Ze Z6 (Zh hb) (bK h10 hb))) ?_;refine pg rfl rfl Z2 (fun hb=>(bL aJ (Zh hb) Ze (bK h10 hb) Zb)) ?_;obtain ⟨r13,h12,hm⟩:=bnd hm;refine aI.callQCG (r:= .v (.int .i64 r13)) Zd rfl Z2 (fun hb=>(Zh hb)) gF lF (fun hb H=>(.cons (td (Zh hb) (.agg _ (aJ.dat _))) (.cons (td (Zh hb) (.agg _ (aJ.dat _))) .nil))) (fun hb=>lH (bK h12 hb)) ?_
        iterate 3 first|refine pA ?_|refine pB ?_
        refine fs (AWp.condM hm Z1 (fun _ hm=>?_) (fun _ hm=>?_))
        ·
         refine sN 192 ?_
         iterate 5 refine pA ?_
         obtain ⟨⟨r16,l15⟩,h14,hm⟩:=bnd hm;have qh14:=oZ h14;dsimp only at qh14;refine aI.callM Zd Z1 bWk ?_ (zB (oO h14) gF lF lH (i0:=i0) Ze) ?_
         ·
          try simp only [go_sem,Nat.reduceBEq]
          first|done|rfl|(congr 2<;>omega)
         refine pA ?_;refine fs (sN 256 ?_)
         iterate 2 refine pA ?_
         refine fs (AWp.exit (dJ (cU (cN ?_))));refine ⟨_,?_,l15,r16,b_2,bG,bT,bI,rfl,hm⟩;exact bM (aD 11 _ Z1 (aD 10 _ Z1 (aD 4 _ Z1 (aD 3 _ Z1 (aD 2 _ Z1 (aD 1 _ Z1 (aD 0 _ (bN Z1 Z6) bF))))))) Zi
        ·
         refine AWp.skip (aV (sN 192 ?_))
         iterate 5 refine pA ?_
         obtain ⟨⟨r19,r20,l18⟩,h17,hm⟩:=bnd hm;have qh17:=oZ h17;dsimp only at qh17;refine aI.callM Zd Z1 bWl ?_ (aC9 (oO h17) gF lF lH (i0:=i0) Ze) ?_
         ·
          try simp only [go_sem,Nat.reduceBEq]
          first|done|rfl|(congr 2<;>omega)
         iterate 5 refine pA ?_
         refine fs (sN 256 ?_)
         iterate 2 refine pA ?_
         refine fs (sN 320 ?_)
         iterate 8 refine pA ?_
         refine fs (sN 384 ?_)
         iterate 3 refine pu rfl Zj ?_
         refine fs (sN 448 ?_)
         iterate 3 refine pA ?_
         refine fs (AWp.condM hm Z1 (fun _ hm=>?_) (fun _ hm=>?_))
         ·
          refine sN 512 ?_
          iterate 4 refine pA ?_
          refine fs (sN 576 ?_)
          iterate 5 refine pA ?_
          obtain ⟨l22,h21,hm⟩:=bnd hm;have qh21:=oZ h21;refine aI.callM Zd Z1 bMb ?_ (ih (oO h21) gF lF lH (i0:=i0) Ze (fun q hq=>by simp only [upd_ne _ _ _ _ (show q≠i0 by omega)];exact hk q hq) (by (repeat (first|exact hD|refine nL (vS aJ) ?_))) hi) ?_
          ·
           try simp only [go_sem,Nat.reduceBEq]
           first|done|rfl|(congr 2<;>omega)
          refine fs (AWp.reg 64 (N':=640) rfl ?_)
          iterate 3 refine pA ?_
          refine aI.fin (eR (cN ?_));refine ⟨_,?_,l22,(IntKind.i64.wrap (r19+1)),b_2,bG,(decide ((IntKind.i64.wrap (Int.tdiv jS 8))≤(IntKind.i64.wrap (r19-a_1)))),r20,rfl,hm⟩;exact bM (aD 11 _ Z1 (aD 10 _ Z1 (aD 4 _ Z1 (aD 3 _ Z1 (aD 2 _ Z1 (aD 1 _ Z1 (aD 0 _ (bN Z1 Z6) bF))))))) Zi
         ·
          refine sN 512 ?_
          iterate 4 refine pA ?_
          refine fs (sN 576 ?_)
          iterate 6 refine pA ?_
          obtain ⟨l24,h23,hm⟩:=bnd hm;have qh23:=oZ h23;refine aI.callM Zd Z1 bMb ?_ (ih (oO h23) gF lF lH (i0:=i0) Ze (fun q hq=>by simp only [upd_ne _ _ _ _ (show q≠i0 by omega)];exact hk q hq) (by (repeat (first|exact hD|refine nL (vS aJ) ?_))) hi) ?_
          ·
           try simp only [go_sem,Nat.reduceBEq]
           first|done|rfl|(congr 2<;>omega)
          refine fs (AWp.reg 64 (N':=640) rfl ?_)
          iterate 2 refine pA ?_
          refine aI.fin (eR (cN ?_));refine ⟨_,?_,l24,a_1,r19,bG,(decide ((IntKind.i64.wrap (Int.tdiv jS 8))≤(IntKind.i64.wrap (b_2-r19)))),r20,rfl,hm⟩;exact bM (aD 11 _ Z1 (aD 10 _ Z1 (aD 4 _ Z1 (aD 3 _ Z1 (aD 2 _ Z1 (aD 1 _ Z1 (aD 0 _ (bN Z1 Z6) bF))))))) Zi
theorem aDn{aB:List aC}{a_1:Int}{b_2:Int}{bG:Int}{bP:(aC→aC→Option (Int))}{r:List aC}(hm:uK aB a_1 b_2 bG bP=some r){jH:FuncId}{eN:List AV}(gF: ∀a,a∈eN→AM.Data a)(lF:(Program.funcs prog)[jH]?.any (fun fn=>fn.body.isSome&&fn.name != "runtime.NumGoroutine")=true)(lH: ∀ {x0 x1 r},bP x0 x1=some r→dU prog jH ([.agg [.v (.int .u64 x0.x0),.v (.int .u64 x0.x1)],.agg [.v (.int .u64 x1.x0),.v (.int .u64 x1.x1)]]++eN) (.v (.int .i64 r))){H:aM}{i0:Nat}(he:H.ent i0= .cells 2 (aB.flatMap bS) 0)(hk: ∀id,3000000≤id→H.ent id= .fresh)(hD: ∀id,aD9 (H.ent id))(hi:i0<3000000):dR prog 136 [.own i0 0 aB.length,.v (.int .i64 a_1),.v (.int .i64 b_2),.v (.int .i64 bG),.clo (.func jH) [] eN] H (.tup []) (H.put i0 (.cells 2 (r.flatMap bS) 0)):=aD4 bC hm gF lF lH he hk hD hi
def nA(x_0:List aC)(bG3:(aC→aC→Option (Int))):Option (List aC):=
 ((xH (IntKind.u64.wrap (x_0.length:Int))).bind fun r2=>
 ((sX (fun x=>x.length) x_0.length (uK x_0 0 (x_0.length:Int) r2 bG3)).bind fun l4=>
 some l4))
theorem aIh{x_0:List aC}{bG3:(aC→aC→Option (Int))}{r:List aC}(hm:nA x_0 bG3=some r){aWp:FuncId}{aOc:List AV}(bEi: ∀a,a∈aOc→AM.Data a)(bMq:(Program.funcs prog)[aWp]?.any (fun fn=>fn.body.isSome&&fn.name != "runtime.NumGoroutine")=true)(bMr: ∀ {x0 x1 r},bG3 x0 x1=some r→dU prog aWp ([.agg [.v (.int .u64 x0.x0),.v (.int .u64 x0.x1)],.agg [.v (.int .u64 x1.x0),.v (.int .u64 x1.x1)]]++aOc) (.v (.int .i64 r))){H:aM}{i0:Nat}(he:H.ent i0= .cells 2 (x_0.flatMap bS) 0)(hk: ∀id,3000000≤id→H.ent id= .fresh)(hD: ∀id,aD9 (H.ent id))(hi:i0<3000000):dR prog 104 [.own i0 0 x_0.length,.clo (.func aWp) [] aOc] H (.tup []) (H.put i0 (.cells 2 (r.flatMap bS) 0)):=by
 refine dR.of_bodyK func104 rfl he hk ?_;clear he;generalize H.ent=h0 at hk hD⊢;have hne1: ∀ {k:Nat},3000000≤k→(k==i0)=false:=fun hh=>by simp;omega
 have hne2: ∀ {k:Nat},3000000≤k→(i0==k)=false:=fun hh=>by simp;omega
 simp only [ntmps104,List.length_cons,List.length_nil,Nat.reduceAdd,Nat.reduceSub];unfold nA at hm;refine AWp.behind ?_;refine sN 3000064 ?_
 iterate 3 refine pA ?_
 refine fs (AWp.reg 64 (N':=3000128) rfl ?_)
 iterate 4 refine pA ?_
 obtain ⟨r2,h1,hm⟩:=bnd hm;refine aI.callQ (r:= .v (.int .i64 r2)) Zd Z1 bSi (fun H=>(cV .nil)) (aKi h1) ?_;refine pA ?_;obtain ⟨l4,h3,hm⟩:=bnd hm;have qh3:=oZ h3;refine aI.callM Zd Z1 bMb ?_ (aDn (oO h3) bEi bMq bMr (i0:=i0) Ze (fun q hq=>by simp only [upd_ne _ _ _ _ (show q≠i0 by omega)];exact hk q hq) (by (repeat (first|exact hD|refine nL (vS aJ) ?_))) hi) ?_
 ·
  try simp only [go_sem,Nat.reduceBEq]
  first|done|rfl|(congr 2<;>omega)
 refine aI.fin ?_;cases hm;exact aIw (.inl rfl) Tryz.results104 (by intro q hq;simp only [upd];all_goals ((repeat' split)<;>first|rfl|omega)) (fun q hq=>by rw [upd_ne _ _ _ _ om];exact hk q hq) (nL (vS aJ) hD)
def oK(x_0:Int)(y_1:Int):Option (Int):=
 ((mW x_0).bind fun r2=>
 ((mW y_1).bind fun r4=>
 (bif r2 then
  (bif r4 then
   some 0
  else
   some (-1))
 else
  (bif r4 then
   some 1
  else
   (bif (decide (x_0<y_1)) then
    some (-1)
   else
    (bif (decide (y_1<x_0)) then
     some 1
    else
     some 0))))))
theorem zQ:K2 prog vu vu vi 107 oK:=fun hm=>be 20 func107 (h:=G)
instance:Ct prog 107 (K2 prog vu vu vi 107 oK):=⟨zQ⟩
def vQ(rec1:Int→List Int→Int→Int→Option (Int))(aP5:Int)(t6:List Int)(t7:Int)(t8:Int):Option (Int):=
 (bif (decide (t8<t7)) then
  ((idx t6 t8).bind fun x2=>
  (bif (x2 !=aP5) then
   some x2
  else
   rec1 aP5 t6 t7 (IntKind.i64.wrap (t8+1))))
 else
  some aP5)
def aA4:Nat→Int→List Int→Int→Int→Option (Int)
 |0=>fun _ _ _ _=>none
 |n+1=>vQ (aA4 n)
def aEl(bFj:List Int):Option (Int):=
 aA4 bC 0 bFj (bFj.length:Int) 0
theorem aRx:K1 prog (vl (ci .i64)) vi 106 aEl:=by
 intro bFj r hm
 let I1:=((fun m s=> ∃aP5 t6 t7 t8,s=⟨18,(aF (aF (aF (aF fa 3 (vi aP5)) 6 (vl (ci .i64) t6)) 7 (vi t7)) 8 (vi t8)),⟨bQ,64⟩⟩∧aA4 m aP5 t6 t7 t8=some r):Nat→St→Prop)
 exact be 18 func106 (h:=G)
instance:Ct prog 106 (K1 prog (vl (ci .i64)) vi 106 aEl):=⟨aRx⟩
def qC(p_0:aC)(q_1:aC):Option (Int):=
 ((oK p_0.x0 q_1.x0).bind fun r2=>
 ((oK p_0.x1 q_1.x1).bind fun r4=>
 ((aEl [r2,r4]).bind fun r6=>
 some r6)))
theorem aIu{p_0:aC}{q_1:aC}{r:Int}(hm:qC p_0 q_1=some r):dU prog 105 [.agg [vu p_0.x0,vu p_0.x1],.agg [vu q_1.x0,vu q_1.x1]] (vi r):=by
 refine bd 17 func105 ?_;obtain ⟨r2,h1,hm⟩:=bnd hm;refine W ?_;refine cq (zQ h1) ?_;obtain ⟨r4,h3,hm⟩:=bnd hm;refine W ?_;refine cq (zQ h3) ?_;refine aL (CFi .i64) [r2,r4] ?_;obtain ⟨r6,h5,hm⟩:=bnd hm;refine aI.callB (r:= .v (.int .i64 r6)) Zd Z1 bW0 (.cons (lto (CFi .i64) Z1 Z3 Z6) aRj.nil) bSz (aRx h5) ?_;exact E
instance:Ct prog 105 (K2 prog aVy aVy vi 105 qC):=⟨fun hm=>aIu hm⟩
def aEt(rec1:aG→List aC→List aH→Int→Int→Option ((List aC)))(s_1:aG)(aFu:List aC)(t19:List aH)(t20:Int)(t21:Int):Option ((List aC)):=
 (bif (decide (t21<t20)) then
  ((idx t19 t21).bind fun x4=>
  ((idx s_1.Slots x4.U).bind fun x6=>
  ((idx s_1.Slots x4.V).bind fun x8=>
  ((app aFu [(aC.mk (if x8.Key<x6.Key then x8.Key else x6.Key) (if x6.Key<x8.Key then x8.Key else x6.Key))]).bind fun l10=>
  rec1 s_1 l10 t19 t20 (IntKind.i64.wrap (t21+1))))))
 else
  ((sX (fun x=>x.length) aFu.length (nA aFu (fun x0 x1=>qC x0 x1))).bind fun l12=>
  some l12))
def vW:Nat→aG→List aC→List aH→Int→Int→Option ((List aC))
 |0=>fun _ _ _ _ _=>none
 |n+1=>aEt (vW n)
def yT(s_0:aG):Option ((List aC)):=
 ((nY s_0.Graph.Config.N s_0.Graph.Edges s_0.Graph.Config.L).bind fun r2=>
 vW bC s_0 [] r2 (r2.length:Int) 0)
theorem aTz{s_0:aG}{r:(List aC)}(hm:yT s_0=some r):dU prog 80 [.agg [vi s_0.Graph.Config.N,vi s_0.Graph.Config.L,vi s_0.Graph.Config.R,vl dX s_0.Graph.Hashes,vl bE s_0.Graph.Edges,vl bH s_0.Slots]] (vl bS r):=by
 refine bd 53 func80 ?_;obtain ⟨r2,h1,hm⟩:=bnd hm;refine W ?_;refine cq (aLf h1) ?_;refine W ?_;refine lp (fun m s=> ∃s_1 aFu t19 t20 t21,s=⟨53,(aF (aF (aF (aF (aF fa 1 (.adr 1 0)) 4 (.own 2 0 aFu.length)) 19 (vl bE t19)) 20 (vi t20)) 21 (vi t21)),⟨(upd (upd bQ 1 (.cells 1 [vi s_1.Graph.Config.N,vi s_1.Graph.Config.L,vi s_1.Graph.Config.R,vl dX s_1.Graph.Hashes,vl bE s_1.Graph.Edges,vl bH s_1.Slots] 0)) 2 (.cells 2 (aFu.flatMap bS) 0)),64⟩⟩∧vW m s_1 aFu t19 t20 t21=some r) ?_ ?_
 · refine ⟨_,?_,s_0,[],r2,(r2.length:Int),0,rfl,hm⟩;refine St.Le.trans (aHr 4 900004 2 Z1 Z5) ?_;exact cn (fun j=>bif j==1 then 0 else bif j==2 then 900004 else 0)
 rintro n1 s ⟨s_1,aFu,t19,t20,t21,rfl,hm⟩;refine W ?_;refine cm hm (fun hm=>?_) fun hm=>?_
 · obtain ⟨x4,h3,hm⟩:=bnd hm;obtain ⟨x6,h5,hm⟩:=bnd hm;obtain ⟨x8,h7,hm⟩:=bnd hm;refine W ?_;refine bU (.agg [.v (.int .u64 (if x8.Key<x6.Key then x8.Key else x6.Key)),.v (.int .u64 (if x6.Key<x8.Key then x8.Key else x6.Key))]) ?_;refine aL aJ [(aC.mk (if x8.Key<x6.Key then x8.Key else x6.Key) (if x6.Key<x8.Key then x8.Key else x6.Key))] ?_;obtain ⟨l10,h9,hm⟩:=bnd hm;refine W ?_;exact Lr (fun j=>bif j==1 then 1 else bif j==2 then 265 else 0)
 obtain ⟨l12,h11,hm⟩:=bnd hm;refine W ?_;have qh11:=oZ h11;refine aI.callM Zd Z1 bVy Z1 (aIh (oO h11) aLq bVz (fun h=>aIu h) Z3 (by (repeat (first|exact bMx|refine bEq ?_ Zd))) (by (repeat (first|exact bM1|refine nL trivial ?_|refine nL (vS aJ) ?_|refine nL ⟨Nat.zero_le _,(aH3.dat s_1)⟩ ?_|refine nL ⟨Nat.zero_le _,DS⟩ ?_))) Zd) ?_;exact E
instance:Ct prog 80 (K1 prog eJ (vl bS) 80 yT):=⟨fun hm=>aTz hm⟩
def aMc(rec1:ByteArray→Int→Int→Option (Int))(b_0:ByteArray)(bBa:Int)(i_4:Int):Option (Int):=
 (bif (decide (i_4<(b_0.size:Int))) then
  ((aGy bBa 257).bind fun r2=>
  ((aSx b_0 i_4).bind fun b4=>
  ((aGx r2 (IntKind.u64.wrap ((IntKind.u64.wrap b4)+1))).bind fun r6=>
  rec1 b_0 r6 (IntKind.i64.wrap (i_4+1)))))
 else
  some bBa)
def aF6:Nat→ByteArray→Int→Int→Option (Int)
 |0=>fun _ _ _=>none
 |n+1=>aMc (aF6 n)
def aKs(b_0:ByteArray):Option (Int):=
 aF6 bC b_0 1 0
theorem aVr:K1 prog vs vu 111 aKs:=by
 intro b_0 r hm
 let I1:=((fun m s=> ∃b_0 bBa i_4,s=⟨20,(aF (aF (aF fa 0 (.v (.string b_0))) 3 (vu bBa)) 4 (vi i_4)),⟨bQ,64⟩⟩∧aF6 m b_0 bBa i_4=some r):Nat→St→Prop)
 exact be 20 func111 (h:=G)
instance:Ct prog 111 (K1 prog vs vu 111 aKs):=⟨aVr⟩
abbrev aKb(rec3:aG→List Int→List aR→Int→Int→Option (ByteArray×Int))(s_1:aG)(b_5:List Int)(t58:List aR)(t59:Int)(t60:Int):Option (ByteArray×Int):=
 rec3 s_1 b_5 t58 t59 (IntKind.i64.wrap (t60+1))
abbrev aD7(rec3:aG→List Int→List aR→Int→Int→Option (ByteArray×Int))(s_1:aG)(b_5:List Int)(aKr:aR)(aNx:Int)(t58:List aR)(t59:Int)(t60:Int):Option (ByteArray×Int):=
 ((pP b_5 aNx 1).bind fun l16=>
 ((pP l16 aKr.Key 8).bind fun l18=>
 aKb rec3 s_1 l18 t58 t59 t60))
def aKa(rec4:List Int→List aH→Int→Int→Option (ByteArray×Int))(b_5:List Int)(t83:List aH)(t84:Int)(t85:Int):Option (ByteArray×Int):=
 (bif (decide (t85<t84)) then
  ((idx t83 t85).bind fun x22=>
  ((pP b_5 (IntKind.u64.wrap x22.U) 2).bind fun l24=>
  ((pP l24 (IntKind.u64.wrap x22.V) 2).bind fun l26=>
  ((pP l26 (IntKind.u64.wrap x22.Tier) 1).bind fun l28=>
  rec4 l28 t83 t84 (IntKind.i64.wrap (t85+1))))))
 else
  ((aKs (sL b_5)).bind fun r30=>
  ((pP b_5 r30 8).bind fun l32=>
  some ((sL l32),0))))
def aAf:Nat→List Int→List aH→Int→Int→Option (ByteArray×Int)
 |0=>fun _ _ _ _=>none
 |n+1=>aKa (aAf n)
def aK9(rec3:aG→List Int→List aR→Int→Int→Option (ByteArray×Int))(s_1:aG)(b_5:List Int)(t58:List aR)(t59:Int)(t60:Int):Option (ByteArray×Int):=
 (bif (decide (t60<t59)) then
  ((idx t58 t60).bind fun x14=>
  (bif x14.Used then
   aD7 rec3 s_1 b_5 x14 1 t58 t59 t60
  else
   aD7 rec3 s_1 b_5 x14 0 t58 t59 t60))
 else
  ((pP b_5 (IntKind.u64.wrap (s_1.Graph.Edges.length:Int)) 4).bind fun l20=>
  aAf bC l20 s_1.Graph.Edges (s_1.Graph.Edges.length:Int) 0))
def qX:Nat→aG→List Int→List aR→Int→Int→Option (ByteArray×Int)
 |0=>fun _ _ _ _ _=>none
 |n+1=>aK9 (qX n)
def aK8(rec2:aG→List Int→List dI→Int→Int→Option (ByteArray×Int))(s_1:aG)(b_5:List Int)(t42:List dI)(t43:Int)(t44:Int):Option (ByteArray×Int):=
 (bif (decide (t44<t43)) then
  ((idx t42 t44).bind fun x8=>
  ((pP b_5 x8.A 8).bind fun l10=>
  ((pP l10 x8.B 8).bind fun l12=>
  rec2 s_1 l12 t42 t43 (IntKind.i64.wrap (t44+1)))))
 else
  qX bC s_1 b_5 s_1.Slots (s_1.Slots.length:Int) 0)
def wM:Nat→aG→List Int→List dI→Int→Int→Option (ByteArray×Int)
 |0=>fun _ _ _ _ _=>none
 |n+1=>aK8 (wM n)
def aD6(rec1:aG→List Int→List Int→Int→Int→Option (ByteArray×Int))(s_1:aG)(b_5:List Int)(t29:List Int)(t30:Int)(t31:Int):Option (ByteArray×Int):=
 (bif (decide (t31<t30)) then
  ((idx t29 t31).bind fun x4=>
  ((pP b_5 (IntKind.u64.wrap x4) 2).bind fun l6=>
  rec1 s_1 l6 t29 t30 (IntKind.i64.wrap (t31+1))))
 else
  wM bC s_1 b_5 s_1.Graph.Hashes (s_1.Graph.Hashes.length:Int) 0)
def rY:Nat→aG→List Int→List Int→Int→Int→Option (ByteArray×Int)
 |0=>fun _ _ _ _ _=>none
 |n+1=>aD6 (rY n)
def sG(s_0:aG):Option (ByteArray×Int):=
 ((qW s_0).bind fun r2=>
 (bif (!r2) then
  some (⟨#[]⟩,1)
 else
  rY bC s_0 [82,65,70,84] [s_0.Graph.Config.N,s_0.Graph.Config.L,s_0.Graph.Config.R] (([s_0.Graph.Config.N,s_0.Graph.Config.L,s_0.Graph.Config.R]).length:Int) 0))
theorem aT1{s_0:aG}{r:ByteArray×Int}(hm:sG s_0=some r):dU prog 82 [.agg [vi s_0.Graph.Config.N,vi s_0.Graph.Config.L,vi s_0.Graph.Config.R,vl dX s_0.Graph.Hashes,vl bE s_0.Graph.Edges,vl bH s_0.Slots]] (.tup [.v (.string r.1),vi r.2]):=by
 refine bd 111 func82 ?_;obtain ⟨r2,h1,hm⟩:=bnd hm;refine W ?_;refine cq (aQb h1) ?_;refine W ?_;refine cm hm (fun hm=>?_) fun hm=>?_
 · exact E
 iterate 9 refine S1 ?_
 refine AWp.seq' ?_;refine AWp.regL (N':=256) [82,65,70,84] rfl rfl underlying172 underlying5 sz5 zc5 Z5 Zd Zd rfl (by simp only [go_sem,Nat.reduceBEq];try rfl) (by kernel_rfl) rfl rfl ?_;refine W ?_;refine aL (CFi .i64) [s_0.Graph.Config.N,s_0.Graph.Config.L,s_0.Graph.Config.R] ?_;refine W ?_;refine lp (fun m s=> ∃s_1 b_5 t29 t30 t31,s=⟨111,(aF (aF (aF (aF (aF fa 1 (.adr 1 0)) 5 (.own 2 0 b_5.length)) 29 (.own 3 0 t29.length)) 30 (vi t30)) 31 (vi t31)),⟨(upd (upd (upd bQ 1 (.cells 1 [vi s_1.Graph.Config.N,vi s_1.Graph.Config.L,vi s_1.Graph.Config.R,vl dX s_1.Graph.Hashes,vl bE s_1.Graph.Edges,vl bH s_1.Slots] 0)) 2 (.cells 1 (b_5.flatMap (ci .u8)) 0)) 3 (.cells 1 (t29.flatMap (ci .i64)) 0)),64⟩⟩∧rY m s_1 b_5 t29 t30 t31=some r) (Lr (fun j=>bif j==1 then 0 else bif j==2 then 192 else bif j==3 then 262 else 0)) ?_;rintro n1 s ⟨s_1,b_5,t29,t30,t31,rfl,hm⟩;refine W ?_;refine cm hm (fun hm=>?_) fun hm=>?_
 · obtain ⟨x4,h3,hm⟩:=bnd hm;obtain ⟨l6,h5,hm⟩:=bnd hm;refine W ?_;refine aI.callA Zd Z1 aL2 Z1 (vD h5 (J:=195) Z3 (aL3 Z5) Zd Zd KF DF) ?_;refine W ?_;exact Lr (fun j=>bif j==1 then 1 else bif j==2 then 195 else bif j==3 then 3 else 0)
 refine W ?_;refine lp (fun m s=> ∃s_1 b_5 t42 t43 t44,s=⟨111,(aF (aF (aF (aF (aF fa 1 (.adr 1 0)) 5 (.own 2 0 b_5.length)) 42 (vl dX t42)) 43 (vi t43)) 44 (vi t44)),⟨(upd (upd bQ 1 (.cells 1 [vi s_1.Graph.Config.N,vi s_1.Graph.Config.L,vi s_1.Graph.Config.R,vl dX s_1.Graph.Hashes,vl bE s_1.Graph.Edges,vl bH s_1.Slots] 0)) 2 (.cells 1 (b_5.flatMap (ci .u8)) 0)),64⟩⟩∧wM m s_1 b_5 t42 t43 t44=some r) (Lr (fun j=>bif j==1 then 1 else bif j==2 then 2 else 0)) ?_;rintro n2 s ⟨s_1,b_5,t42,t43,t44,rfl,hm⟩;refine W ?_;refine cm hm (fun hm=>?_) fun hm=>?_
 · obtain ⟨x8,h7,hm⟩:=bnd hm;obtain ⟨l10,h9,hm⟩:=bnd hm;refine W ?_;refine aI.callA Zd Z1 aL2 Z1 (vD h9 (J:=195) Z3 (aL3 Z5) Zd Zd KF DF) ?_;obtain ⟨l12,h11,hm⟩:=bnd hm;refine W ?_;refine aI.callA Zd Z1 aL2 Z1 (vD h11 (J:=259) Z3 (aL3 Z5) Zd Zd KF DF) ?_;refine W ?_;exact Lr (fun j=>bif j==1 then 1 else bif j==2 then 259 else 0)
 refine W ?_;refine lp (fun m s=> ∃s_1 b_5 t58 t59 t60,s=⟨111,(aF (aF (aF (aF (aF fa 1 (.adr 1 0)) 5 (.own 2 0 b_5.length)) 58 (vl bH t58)) 59 (vi t59)) 60 (vi t60)),⟨(upd (upd bQ 1 (.cells 1 [vi s_1.Graph.Config.N,vi s_1.Graph.Config.L,vi s_1.Graph.Config.R,vl dX s_1.Graph.Hashes,vl bE s_1.Graph.Edges,vl bH s_1.Slots] 0)) 2 (.cells 1 (b_5.flatMap (ci .u8)) 0)),64⟩⟩∧qX m s_1 b_5 t58 t59 t60=some r) (Lr (fun j=>bif j==1 then 1 else bif j==2 then 2 else 0)) ?_;rintro n3 s ⟨s_1,b_5,t58,t59,t60,rfl,hm⟩;refine W ?_;refine cm hm (fun hm=>?_) fun hm=>?_
 ·
  refine V ?_;refine AWp.seqJ (fun s=> ∃s_1 b_5 t58 t59 t60,s=⟨111,(aF (aF (aF (aF (aF fa 1 (.adr 1 0)) 5 (.own 2 0 b_5.length)) 58 (vl bH t58)) 59 (vi t59)) 60 (vi t60)),⟨(upd (upd bQ 1 (.cells 1 [vi s_1.Graph.Config.N,vi s_1.Graph.Config.L,vi s_1.Graph.Config.R,vl dX s_1.Graph.Hashes,vl bE s_1.Graph.Edges,vl bH s_1.Slots] 0)) 2 (.cells 1 (b_5.flatMap (ci .u8)) 0)),64⟩⟩∧aKb (qX n3) s_1 b_5 t58 t59 t60=some r) ?_ ?_
  ·
   obtain ⟨x14,h13,hm⟩:=bnd hm;refine V ?_;refine AWp.seqJ (fun s=> ∃s_1 b_5 aKr aNx t58 t59 t60,s=⟨111,(aF (aF (aF (aF (aF (aF (aF fa 1 (.adr 1 0)) 5 (.own 2 0 b_5.length)) 11 (.adr 3 0)) 12 (vu aNx)) 58 (vl bH t58)) 59 (vi t59)) 60 (vi t60)),⟨(upd (upd (upd bQ 1 (.cells 1 [vi s_1.Graph.Config.N,vi s_1.Graph.Config.L,vi s_1.Graph.Config.R,vl dX s_1.Graph.Hashes,vl bE s_1.Graph.Edges,vl bH s_1.Slots] 0)) 2 (.cells 1 (b_5.flatMap (ci .u8)) 0)) 3 (.cells 1 [vb aKr.Used,vu aKr.Key] 0)),64⟩⟩∧aD7 (qX n3) s_1 b_5 aKr aNx t58 t59 t60=some r) ?_ ?_
   ·
    refine W ?_;refine cm hm (fun hm=>?_) fun hm=>?_
    · refine W ?_;exact Lr (fun j=>bif j==1 then 1 else bif j==2 then 2 else bif j==3 then 130 else 0)
    refine W ?_;exact Lr (fun j=>bif j==1 then 1 else bif j==2 then 2 else bif j==3 then 130 else 0)
   rintro s ⟨s_1,b_5,aKr,aNx,t58,t59,t60,rfl,hm⟩;obtain ⟨l16,h15,hm⟩:=bnd hm;refine W ?_;refine aI.callA Zd Z1 aL2 Z1 (vD h15 (J:=66) Z3 (aL3 Z5) Zd Zd KF DF) ?_;obtain ⟨l18,h17,hm⟩:=bnd hm;refine W ?_;refine aI.callA Zd Z1 aL2 Z1 (vD h17 (J:=131) Z3 (aL3 Z5) Zd Zd KF DF) ?_;refine W ?_;exact Lr (fun j=>bif j==1 then 1 else bif j==2 then 131 else 0)
  rintro s ⟨s_1,b_5,t58,t59,t60,rfl,hm⟩;refine W ?_;exact Lr (fun j=>bif j==1 then 1 else bif j==2 then 2 else 0)
 obtain ⟨l20,h19,hm⟩:=bnd hm;refine W ?_;refine aI.callA Zd Z1 aL2 Z1 (vD h19 (J:=134) Z3 (aL3 Z5) Zd Zd KF DF) ?_;refine W ?_;refine lp (fun m s=> ∃b_5 t83 t84 t85,s=⟨111,(aF (aF (aF (aF fa 5 (.own 1 0 b_5.length)) 83 (vl bE t83)) 84 (vi t84)) 85 (vi t85)),⟨(upd bQ 1 (.cells 1 (b_5.flatMap (ci .u8)) 0)),64⟩⟩∧aAf m b_5 t83 t84 t85=some r) (Lr (fun j=>bif j==1 then 134 else 0)) ?_;rintro n4 s ⟨b_5,t83,t84,t85,rfl,hm⟩;refine W ?_;refine cm hm (fun hm=>?_) fun hm=>?_
 · obtain ⟨x22,h21,hm⟩:=bnd hm;obtain ⟨l24,h23,hm⟩:=bnd hm;refine W ?_;refine aI.callA Zd Z1 aL2 Z1 (vD h23 (J:=196) Z3 (aL3 Z5) Zd Zd KF DF) ?_;obtain ⟨l26,h25,hm⟩:=bnd hm;refine W ?_;refine aI.callA Zd Z1 aL2 Z1 (vD h25 (J:=260) Z3 (aL3 Z5) Zd Zd KF DF) ?_;obtain ⟨l28,h27,hm⟩:=bnd hm;refine W ?_;refine aI.callA Zd Z1 aL2 Z1 (vD h27 (J:=324) Z3 (aL3 Z5) Zd Zd KF DF) ?_;refine W ?_;exact Lr (fun j=>bif j==1 then 324 else 0)
 refine W ?_;refine pu rfl (aYv underlying172 underlying9 underlying5 Z1 Z3 Z6) ?_;obtain ⟨r30,h29,hm⟩:=bnd hm;refine cq (aVr h29) ?_;obtain ⟨l32,h31,hm⟩:=bnd hm;refine aI.callA Zd Z1 aL2 Z1 (vD h31 (J:=132) Z3 (aL3 Z5) Zd Zd KF DF) ?_;refine pu rfl (aYv underlying172 underlying9 underlying5 Z1 Z3 Z6) ?_;exact E
instance:Ct prog 82 (K1 prog eJ (t2 vs vi) 82 sG):=⟨fun hm=>aT1 hm⟩
def sD(s_0:aG)(aLr:Int)(u_2:Int)(v_3:Int):Option (GA):=
 ((wT s_0.Graph).bind fun r2=>
 (bif (aLr==5) then
  ((tR s_0.Graph.Edges u_2 v_3).bind fun ⟨r4,r5⟩=>
  some (GA.b 4 r5))
 else
  (bif (aLr==6) then
   ((uP s_0 u_2).bind fun r7=>
   some (GA.i 3 .i64 r7))
  else
   (bif (aLr==7) then
    ((aAa s_0 u_2).bind fun r9=>
    ((sZ s_0 r9).bind fun r11=>
    some (GA.lu 24 r11)))
   else
    (bif (aLr==8) then
     ((idx r2 u_2).bind fun x13=>
     ((idx r2 v_3).bind fun x15=>
     some (GA.b 4 (x13==x15))))
    else
     (bif (aLr==9) then
      ((wA r2 u_2).bind fun r17=>
      ((sZ s_0 r17).bind fun r19=>
      some (GA.i 3 .i64 (r19.length:Int))))
     else
      (bif (aLr==10) then
       ((aB2 s_0 r2).bind fun r21=>
       some (GA.i 3 .i64 r21))
      else
       (bif (aLr==11) then
        ((wA r2 u_2).bind fun r23=>
        ((sZ s_0 r23).bind fun r25=>
        some (GA.lu 24 r25)))
       else
        (bif (aLr==12) then
         ((yT s_0).bind fun r27=>
         some (GA.lp 40 r27))
        else
         (bif (aLr==13) then
          ((aAo s_0.Graph).bind fun r29=>
          some (GA.b 4 r29))
         else
          ((sG s_0).bind fun ⟨r31,r32⟩=>
          some (GA.s 9 r31))))))))))))
theorem aTw:K4 prog eJ vi vi vi GA.av 42 sD:=fun hm=>be 98 func42 (h:=G)
instance:Ct prog 42 (K4 prog eJ vi vi vi GA.av 42 sD):=⟨aTw⟩
def tX(f_1:(aR→Option (Bool)))(rec1:List aR→Int→Int→Option (Int))(s_0:List aR)(t7:Int)(t8:Int):Option (Int):=
 (bif (decide (t8<t7)) then
  ((idx s_0 t8).bind fun x2=>
  ((f_1 x2).bind fun r4=>
  (bif r4 then
   some t8
  else
   rec1 s_0 t7 (IntKind.i64.wrap (t8+1)))))
 else
  some (-1))
def mC(f_1:(aR→Option (Bool))):Nat→List aR→Int→Int→Option (Int)
 |0=>fun _ _ _=>none
 |n+1=>tX f_1 (mC f_1 n)
def vI(s_0:List aR)(f_1:(aR→Option (Bool))):Option (Int):=
 mC f_1 bC s_0 (s_0.length:Int) 0
theorem aJ1{s_0:List aR}{f_1:(aR→Option (Bool))}{r:Int}(hm:vI s_0 f_1=some r){aMv:FuncId}{aDr:List AV}(aS6: ∀a,a∈aDr→AM.Data a)(bEh:(Program.funcs prog)[aMv]?.any (fun fn=>fn.body.isSome&&fn.name != "runtime.NumGoroutine")=true)(bEj: ∀ {x0 r},f_1 x0=some r→dU prog aMv ([.agg [vb x0.Used,vu x0.Key]]++aDr) (vb r)):dU prog 112 [vl bH s_0,.clo (.func aMv) [] aDr] (vi r):=by
 refine bd 19 func112 ?_;refine W ?_;refine lp (fun m s=> ∃s_0 t7 t8,s=⟨19,(aF (aF (aF (aF fa 0 (vl bH s_0)) 1 (.clo (.func aMv) [] aDr)) 7 (vi t7)) 8 (vi t8)),⟨bQ,64⟩⟩∧mC f_1 m s_0 t7 t8=some r) L ?_;rintro n1 s ⟨s_0,t7,t8,rfl,hm⟩;refine W ?_;refine cm hm (fun hm=>?_) fun hm=>?_
 ·
  obtain ⟨x2,h1,hm⟩:=bnd hm;obtain ⟨r4,h3,hm⟩:=bnd hm;refine W ?_;refine aI.callQC (r:= .v (.bool r4)) Zd Z1 aS6 bEh (fun H=>(cD (.agg _ (eX.dat _)) .nil)) (bEj h3) ?_;refine W ?_;refine cm hm (fun hm=>?_) fun hm=>?_
  · exact E
  exact L
 exact E
def qT(bUz:aR):Option (Bool):=
 some (!bUz.Used)
theorem aNz:K1 prog aQi vb 113 qT:=fun hm=>be 6 func113 (h:=G)
instance:Ct prog 113 (K1 prog aQi vb 113 qT):=⟨aNz⟩
def oD(l:List aR):Option (List aR):=app [] l
theorem aM8{r:List aR}(hm:some []=some r):kJ prog 114 [.v (.slice none 0 0)] 2 (r.flatMap bH) r.length:=by
 refine kJ.of_body func114 rfl (eX.fmdat r) ?_;simp only [ntmps114,List.length_cons,List.length_nil,Nat.reduceAdd,Nat.reduceSub,nB];refine sN 64 (pA ?_);refine fs (AWp.seq' (sN 128 (pA ?_)));refine pu rfl (aDa Z1 Z1 (aMg underlying31)) ?_;refine fs (AWp.condT Z1 ?_);refine sN 192 (pA ?_);refine fs (AWp.weaken (aHr 2 900002 2 Z1 Z5) ?_);refine AWp.ret (lA ?_);cases hm;exact aNh (.inr rfl) Tryz.results114 Z1 Z3 Z6
theorem aM9{a:Addr}{c:Nat}{r:List aR}(hm:((app [] []).bind fun l2=>
some l2)=some r):kJ prog 114 [.v (.slice (some a) 0 c)] 2 (r.flatMap bH) r.length:=by
 refine kJ.of_body func114 rfl (eX.fmdat r) ?_;simp only [ntmps114,List.length_cons,List.length_nil,Nat.reduceAdd,Nat.reduceSub,nB];refine sN 64 (pA ?_);refine fs (AWp.seq' (sN 128 (pA ?_)));refine pu rfl (aDa Z1 Z1 (aKh underlying31)) ?_;refine fs (AWp.condF Z1 ?_);refine AWp.skip (aV (sN 192 (hp (id:=128) rfl rfl (qN eX (l:=[]) underlying31 bBb bBs Z5 Zd Zd Zd (by simp only [go_sem,Nat.reduceBEq];try rfl) (by kernel_rfl)) ?_)));refine pA ?_;obtain ⟨l2,h1,hm⟩:=bnd hm;refine hp (id:=130) rfl rfl (aEh eX underlying31 underlying31 rfl bGj bHd (by rw [aQg];decide) (by rw [aQg];decide) bHf Zd Zd Z1 Z3 Z6 (aR4 Z1) rfl Z5 h1) ?_;refine pA ?_;refine fs (AWp.ret ?_);cases hm;exact aNh (.inr rfl) Tryz.results114 Z1 Z3 Z6
theorem aMa{x0:aR}{l0:List aR}{r:List aR}(hm:((app [] (x0::l0)).bind fun l2=>
some l2)=some r):kJ prog 114 [.sl ((x0::l0).flatMap bH) (x0::l0).length false] 2 (r.flatMap bH) r.length:=by
 refine kJ.of_body func114 rfl (eX.fmdat r) ?_;simp only [ntmps114,List.length_cons,List.length_nil,Nat.reduceAdd,Nat.reduceSub,nB];refine sN 64 (pA ?_);refine fs (AWp.seq' (sN 128 (pA ?_)));refine pu rfl (aDa Z1 Z1 (aKg underlying31 (by simp))) ?_;refine fs (AWp.condF Z1 ?_);refine AWp.skip (aV (sN 192 (hp (id:=128) rfl rfl (qN eX (l:=[]) underlying31 bBb bBs Z5 Zd Zd Zd (by simp only [go_sem,Nat.reduceBEq];try rfl) (by kernel_rfl)) ?_)));refine pA ?_;obtain ⟨l2,h1,hm⟩:=bnd hm;refine hp (id:=130) rfl rfl (aEh eX underlying31 underlying31 rfl bGj bHd (by rw [aQg];decide) (by rw [aQg];decide) bHf Zd Zd Z1 Z3 Z6 (aUr eX Z1 rfl) rfl Z5 h1) ?_;refine pA ?_;refine fs (AWp.ret ?_);cases hm;exact aNh (.inr rfl) Tryz.results114 Z1 Z3 Z6
theorem aG2{l r:List aR}(hm:oD l=some r):kJ prog 114 [.sl (l.flatMap bH) l.length false] 2 (r.flatMap bH) r.length:=by
 cases l with
 |nil=>
  have hr:r=[]:=by unfold oD app at hm;simpa using hm.symm
  subst hr;exact kJ.nil_arg (aM8 (r:=[]) rfl) (fun a c=>aM9 (r:=[]) rfl)
 |cons x0 l0=>
  refine aMa ?_;show (app [] (x0::l0)).bind _=_;unfold oD at hm;rw [hm];rfl
def aFf(l_0:List aR)(nV:Int):Option ((List aR)×Int×Int):=
 ((rZ l_0).bind fun ⟨r2,r3⟩=>
 (bif (!r3) then
  some (l_0,0,1)
 else
  ((aA5 r2 nV).bind fun ⟨r5,r6⟩=>
  (bif r6 then
   some (l_0,0,4)
  else
   ((vI l_0 (fun x0=>qT x0)).bind fun r8=>
   (bif (decide (r8<0)) then
    some (l_0,0,10)
   else
    ((oD l_0).bind fun r10=>
    ((idx r10 r8).bind fun x12=>
    ((stt r10 r8 (aR.mk true nV)).bind fun l14=>
    some (l14,r8,0))))))))))
theorem bFk{l_0:List aR}{nV:Int}{r:(List aR)×Int×Int}(hm:aFf l_0 nV=some r):dU prog 83 [vl bH l_0,vu nV] (.tup [vl bH r.1,vi r.2.1,vi r.2.2]):=by
 refine bd 43 func83 ?_;refine W ?_;obtain ⟨⟨r2,r3⟩,h1,hm⟩:=bnd hm;refine cq (aIp h1) ?_;refine W ?_;refine cm hm (fun hm=>?_) fun hm=>?_
 · exact E
 refine W ?_;obtain ⟨⟨r5,r6⟩,h4,hm⟩:=bnd hm;refine cq (aOi h4) ?_;refine W ?_;refine cm hm (fun hm=>?_) fun hm=>?_
 · exact E
 obtain ⟨r8,h7,hm⟩:=bnd hm;refine W ?_;refine aI.callQ (r:= .v (.int .i64 r8)) Zd Z1 bW1 (fun H=>(cD (eX.sl _ _ _) (cD (bI8 aLq) .nil))) (aJ1 h7 aLq bW2 (fun h=>aNz h)) ?_;refine W ?_;refine cm hm (fun hm=>?_) fun hm=>?_
 · exact E
 obtain ⟨r10,h9,hm⟩:=bnd hm;refine W ?_;refine aI.callF (id:=449) Zd Z1 bSe (fun H=>(cD (eX.sl _ _ _) .nil)) eX Z5 (aG2 h9) ?_;refine W ?_;refine bU (.agg [vb true,vu nV]) ?_;obtain ⟨x12,h11,hm⟩:=bnd hm;obtain ⟨l14,h13,hm⟩:=bnd hm;refine W ?_;have qh13:=cX h13;refine aS h13 ?_;exact E
instance:Ct prog 83 (K2 prog (vl bH) vu (t3 (vl bH) vi vi) 83 aFf):=⟨fun hm=>bFk hm⟩
attribute [local semireducible] bC
end Go.Proofs.YtkdohhmacfoolaaGreat
