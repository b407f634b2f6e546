/- Facts. No condition. -/
import Derived.Test.YtkdohhmacfoolaaGreatNqGI2
set_option linter.unusedVariables false
set_option linter.unusedSimpArgs false
set_option maxRecDepth 20000
set_option maxHeartbeats 4000000
namespace Go.Proofs.YtkdohhmacfoolaaGreat
open Go.Proofs.Tryz Go Go.AM
attribute [local irreducible] aZ
@[go_sem] theorem bEd(x0:AV)(xs:List AV):aO prog 104 (.ptr (x0::xs)) 1=some (.ptr xs):=by kernel_rfl
@[go_sem] theorem bEp(i o:Nat):aO prog 102 (.adr i o) 0=some (.adr i (o+0)):=by kernel_rfl
@[go_sem] theorem bEv(i o:Nat):aO prog 102 (.adr i o) 1=some (.adr i (o+1)):=by kernel_rfl
@[go_sem] theorem bF0(i o:Nat):aO prog 102 (.adr i o) 2=some (.adr i (o+2)):=by kernel_rfl
@[go_sem] theorem bF2(i o:Nat):aO prog 104 (.adr i o) 0=some (.adr i (o+0)):=by kernel_rfl
@[go_sem] theorem bF4(i o:Nat):aO prog 104 (.adr i o) 1=some (.adr i (o+1)):=by kernel_rfl
@[go_sem] theorem bF7(i o:Nat):aO prog 120 (.adr i o) 0=some (.adr i (o+0)):=by kernel_rfl
@[go_sem] theorem bFa(i o:Nat):aO prog 120 (.adr i o) 1=some (.adr i (o+1)):=by kernel_rfl
@[go_sem] theorem bJp(i o:Nat):aO prog 23 (.adr i o) 0=some (.adr i (o+0)):=by kernel_rfl
@[go_sem] theorem bJw(i o:Nat):aO prog 23 (.adr i o) 1=some (.adr i (o+1)):=by kernel_rfl
@[go_sem] theorem bK2(i o:Nat):aO prog 23 (.adr i o) 2=some (.adr i (o+2)):=by kernel_rfl
@[go_sem] theorem bK9(i o:Nat):aO prog 30 (.adr i o) 0=some (.adr i (o+0)):=by kernel_rfl
@[go_sem] theorem bKd(i o:Nat):aO prog 30 (.adr i o) 1=some (.adr i (o+3)):=by kernel_rfl
@[go_sem] theorem bKj(i o:Nat):aO prog 30 (.adr i o) 2=some (.adr i (o+4)):=by kernel_rfl
@[go_sem] theorem bKm(i o:Nat):aO prog 33 (.adr i o) 0=some (.adr i (o+0)):=by kernel_rfl
@[go_sem] theorem bKr(i o:Nat):aO prog 33 (.adr i o) 1=some (.adr i (o+5)):=by kernel_rfl
theorem bLf(i o:Nat)(k:IntKind):oC prog 69 (.adr i o) (.v (.int k 0))=some (.adr i o):=by kernel_rfl
theorem bLi(i o:Nat)(k:IntKind):oC prog 69 (.adr i o) (.v (.int k 1))=some (.adr i (o+1)):=by kernel_rfl
attribute [go_sem] bLf bLi
@[go_sem] theorem bOh(H:aM)(x0 x1 x2:AV)(xs:List AV):cZ prog H 102 (.ptr (x0::x1::x2::xs))=some (.agg [x0,x1,x2]):=by kernel_rfl
@[go_sem] theorem bOk(H:aM)(x0 x1:AV)(xs:List AV):cZ prog H 104 (.ptr (x0::x1::xs))=some (.agg [x0,x1]):=by kernel_rfl
@[go_sem] theorem bOo(H:aM)(x0 x1:AV)(xs:List AV):cZ prog H 120 (.ptr (x0::x1::xs))=some (.agg [x0,x1]):=by kernel_rfl
@[go_sem] theorem bOr(H:aM)(x0:AV)(xs:List AV):cZ prog H 130 (.ptr (x0::xs))=some (.agg [x0]):=by kernel_rfl
@[go_sem] theorem bRg(H:aM)(x0 x1 x2:AV)(xs:List AV):cZ prog H 23 (.ptr (x0::x1::x2::xs))=some (.agg [x0,x1,x2]):=by kernel_rfl
@[go_sem] theorem bRp(H:aM)(x:AV)(xs:List AV):cZ prog H 27 (.ptr (x::xs))=some x:=by kernel_rfl
@[go_sem] theorem bRv(H:aM)(x:AV)(xs:List AV):cZ prog H 28 (.ptr (x::xs))=some x:=by kernel_rfl
@[go_sem] theorem bVn(H:aM)(x:AV)(xs:List AV):cZ prog H 3 (.ptr (x::xs))=some x:=by kernel_rfl
@[go_sem] theorem bS1(H:aM)(x0 x1 x2 x3 x4:AV)(xs:List AV):cZ prog H 30 (.ptr (x0::x1::x2::x3::x4::xs))=some (.agg [x0,x1,x2,x3,x4]):=by kernel_rfl
@[go_sem] theorem bS6(H:aM)(x:AV)(xs:List AV):cZ prog H 31 (.ptr (x::xs))=some x:=by kernel_rfl
@[go_sem] theorem bSa(H:aM)(x0 x1 x2 x3 x4 x5:AV)(xs:List AV):cZ prog H 33 (.ptr (x0::x1::x2::x3::x4::x5::xs))=some (.agg [x0,x1,x2,x3,x4,x5]):=by kernel_rfl
@[go_sem] theorem bVu(H:aM)(x:AV)(xs:List AV):cZ prog H 4 (.ptr (x::xs))=some x:=by kernel_rfl
@[go_sem] theorem bSm(H:aM)(x:AV)(xs:List AV):cZ prog H 43 (.ptr (x::xs))=some x:=by kernel_rfl
@[go_sem] theorem bSw(H:aM)(x0 x1:AV)(xs:List AV):cZ prog H 69 (.ptr (x0::x1::xs))=some (.agg [x0,x1]):=by kernel_rfl
@[go_sem] theorem bJ7(H:aM)(k:IntKind)(n:Int):rX prog H 3 43 (.v (.int k n))=some (.v (.int .u64 (IntKind.u64.wrap n))):=mH underlying3 underlying43
@[go_sem] theorem bDx(H:aM)(k:IntKind)(n:Int):rX prog H 3 198 (.v (.int k n))=some (.v (.int .u64 (IntKind.u64.wrap n))):=mH underlying3 underlying198
@[go_sem] theorem bJc(H:aM)(k:IntKind)(n:Int):rX prog H 5 43 (.v (.int k n))=some (.v (.int .u64 (IntKind.u64.wrap n))):=mH underlying5 underlying43
def jQ(bP:(aC→aC→Option (Int)))(rec1:List aC→Int→Int→Option (List aC))(aB:List aC)(i_8:Int)(j_9:Int):Option (List aC):=
 (bif (decide (i_8<j_9)) then
  ((idx aB j_9).bind fun x2=>
  ((idx aB i_8).bind fun x4=>
  ((idx aB i_8).bind fun x6=>
  ((stt aB i_8 x2).bind fun l8=>
  ((idx l8 j_9).bind fun x10=>
  ((stt l8 j_9 x4).bind fun l12=>
  rec1 l12 (IntKind.i64.wrap (i_8+1)) (IntKind.i64.wrap (j_9-1))))))))
 else
  some aB)
def gT(bP:(aC→aC→Option (Int))):Nat→List aC→Int→Int→Option (List aC)
 |0=>fun _ _ _=>none
 |n+1=>jQ bP (gT bP n)
def kJ(aB:List aC)(a_1:Int)(b_2:Int)(bP:(aC→aC→Option (Int))):Option (List aC):=
 gT bP aZ aB a_1 (IntKind.i64.wrap (b_2-1))
theorem aAp{aB:List aC}{a_1:Int}{b_2:Int}{bP:(aC→aC→Option (Int))}{r:List aC}(hm:kJ aB a_1 b_2 bP=some r){jI:FuncId}{eP:List AV}(mU: ∀a,a∈eP→AM.Data a)(pH:(Program.funcs prog)[jI]?.any (fun fn=>fn.body.isSome&&fn.name != "runtime.NumGoroutine")=true)(pO: ∀ {x0 x1 r},bP x0 x1=some r→dT prog jI ([.agg [.v (.int .u64 x0.x0),.v (.int .u64 x0.x1)],.agg [.v (.int .u64 x1.x0),.v (.int .u64 x1.x1)]]++eP) (.v (.int .i64 r))){H:aM}{i0:Nat}(he:H.ent i0= .cells 2 (aB.flatMap bT) 0):dR prog 160 [.own i0 0 aB.length,.v (.int .i64 a_1),.v (.int .i64 b_2),.clo (.func jI) [] eP] H (.tup []) (H.put i0 (.cells 2 (r.flatMap bT) 0)):=by
 refine dR.of_bodyM func160 rfl he ?_;generalize H.ent=h0;simp only [ntmps160,List.length_cons,List.length_nil,Nat.reduceAdd,Nat.reduceSub];unfold kJ at hm;refine sN 64 ?_
 iterate 2 refine pA ?_
 refine fs (sN 128 ?_)
 iterate 3 refine pA ?_
 refine fs (AWp.block (AWp.loopM (fun m s=> ∃(aB:List aC) (i_8:Int) (j_9:Int),s=(⟨34,(aG (aG (aG (fun _=>AV.any) 0 (.own i0 0 aB.length)) 8 (.v (.int .i64 i_8))) 9 (.v (.int .i64 j_9))),⟨(upd h0 i0 (.cells 2 (aB.flatMap bT) 0)),64⟩⟩:St)∧gT bP m aB i_8 j_9=some r) aZ ?_ ?_ ?_))
 · rintro s ⟨_,_,_,_,h⟩;cases h
 · refine ⟨_,?_,aB,a_1,(IntKind.i64.wrap (b_2-1)),rfl,hm⟩;exact bN (aD 9 _ Z1 (aD 8 _ Z1 (aD 0 _ (bO Z1 Z6) bF))) Zc
 ·
  rintro n1 s ⟨aB,i_8,j_9,rfl,hm⟩;replace hm:jQ bP (gT bP n1) aB i_8 j_9=some r:=hm;unfold jQ at hm;refine AWp.seq' (sN 128 ?_)
  iterate 3 refine pA ?_
  refine fs (AWp.condM hm Z1 (fun _ hm=>?_) (fun _ hm=>?_))
  ·
   refine AWp.skip (aV (AWp.block (sd mix (by kernel_rfl) (N':=192) rfl ?_)))
   iterate 6 refine pA ?_
   obtain ⟨x2,h1,hm⟩:=bnd hm;refine pu rfl (aN underlying40 fS Z1 Za Z6 Z1 h1) ?_;refine pu rfl (bM aJ Z1 Za h1 Zb) ?_
   iterate 2 refine pA ?_
   obtain ⟨x4,h3,hm⟩:=bnd hm;refine pu rfl (aN underlying40 fS Z1 Za Z6 Z1 h3) ?_;refine pu rfl (bM aJ Z1 Za h3 Zb) ?_;obtain ⟨x6,h5,hm⟩:=bnd hm;refine pu rfl (aN underlying40 fS Z1 Za Z6 Z1 h5) ?_;obtain ⟨l8,h7,hm⟩:=bnd hm;have qh7:=cY h7;refine aI.heap0 (id:=141) rfl (eR aJ fS Z1 Z1 Za rfl h7) ?_;obtain ⟨x10,h9,hm⟩:=bnd hm;refine pu rfl (aN underlying40 fS Z1 Za Z6 Z1 h9) ?_;obtain ⟨l12,h11,hm⟩:=bnd hm;have qh11:=cY h11;refine aI.heap0 (id:=143) rfl (eR aJ fS Z1 Z1 Za rfl h11) ?_;refine fs (sN 256 ?_)
   iterate 3 refine pA ?_
   refine fs (AWp.reg 64 (N':=320) rfl ?_)
   iterate 3 refine pA ?_
   refine aI.fin (eT (cO ?_));refine ⟨_,?_,l12,(IntKind.i64.wrap (i_8+1)),(IntKind.i64.wrap (j_9-1)),rfl,hm⟩;exact bN (aD 9 _ Z1 (aD 8 _ Z1 (aD 0 _ (bO Z1 Z6) bF))) Zc
  · refine AWp.exit (dJ (dA (cW ?_)));cases hm;exact aLt (.inl rfl) Tryz.results160 Zc
abbrev cH(bP:(aC→aC→Option (Int)))(rec1:List aC→Int→Int→Int→Int→Option (Bool×List aC))(aB:List aC)(a_1:Int)(b_2:Int)(i_9:Int)(fT:Int):Option (Bool×List aC):=
 rec1 aB a_1 b_2 i_9 (IntKind.i64.wrap (fT+1))
def fL(bP:(aC→aC→Option (Int)))(rec1:List aC→Int→Int→Int→Int→Option (Bool×List aC))(rec3:List aC→Int→Int→Int→Int→Int→Option (Bool×List aC))(aB:List aC)(a_1:Int)(b_2:Int)(i_9:Int)(fT:Int)(oO:Int):Option (Bool×List aC):=
 (bif (decide (oO<b_2)) then
  ((idx aB oO).bind fun x20=>
  ((idx aB (IntKind.i64.wrap (oO-1))).bind fun x22=>
  ((bP x20 x22).bind fun r24=>
  (bif (!(decide (r24<0))) then
   cH bP rec1 aB a_1 b_2 i_9 fT
  else
   ((idx aB (IntKind.i64.wrap (oO-1))).bind fun x26=>
   ((idx aB oO).bind fun x28=>
   ((idx aB oO).bind fun x30=>
   ((stt aB oO x26).bind fun l32=>
   ((idx l32 (IntKind.i64.wrap (oO-1))).bind fun x34=>
   ((stt l32 (IntKind.i64.wrap (oO-1)) x28).bind fun l36=>
   rec3 l36 a_1 b_2 i_9 fT (IntKind.i64.wrap (oO+1))))))))))))
 else
  cH bP rec1 aB a_1 b_2 i_9 fT)
def eF(bP:(aC→aC→Option (Int)))(rec1:List aC→Int→Int→Int→Int→Option (Bool×List aC)):Nat→List aC→Int→Int→Int→Int→Int→Option (Bool×List aC)
 |0=>fun _ _ _ _ _ _=>none
 |n+1=>fL bP rec1 (eF bP rec1 n)
abbrev dB(bP:(aC→aC→Option (Int)))(rec1:List aC→Int→Int→Int→Int→Option (Bool×List aC))(aB:List aC)(a_1:Int)(b_2:Int)(i_9:Int)(fT:Int):Option (Bool×List aC):=
 (bif (decide (2≤(IntKind.i64.wrap (b_2-i_9)))) then
  eF bP rec1 aZ aB a_1 b_2 i_9 fT (IntKind.i64.wrap (i_9+1))
 else
  cH bP rec1 aB a_1 b_2 i_9 fT)
def fN(bP:(aC→aC→Option (Int)))(rec1:List aC→Int→Int→Int→Int→Option (Bool×List aC))(rec4:List aC→Int→Int→Int→Int→Int→Option (Bool×List aC))(aB:List aC)(a_1:Int)(b_2:Int)(i_9:Int)(fT:Int)(gQ:Int):Option (Bool×List aC):=
 (bif (decide (1≤gQ)) then
  ((idx aB gQ).bind fun x38=>
  ((idx aB (IntKind.i64.wrap (gQ-1))).bind fun x40=>
  ((bP x38 x40).bind fun r42=>
  (bif (!(decide (r42<0))) then
   dB bP rec1 aB a_1 b_2 i_9 fT
  else
   ((idx aB (IntKind.i64.wrap (gQ-1))).bind fun x44=>
   ((idx aB gQ).bind fun x46=>
   ((idx aB gQ).bind fun x48=>
   ((stt aB gQ x44).bind fun l50=>
   ((idx l50 (IntKind.i64.wrap (gQ-1))).bind fun x52=>
   ((stt l50 (IntKind.i64.wrap (gQ-1)) x46).bind fun l54=>
   rec4 l54 a_1 b_2 i_9 fT (IntKind.i64.wrap (gQ-1))))))))))))
 else
  dB bP rec1 aB a_1 b_2 i_9 fT)
def eG(bP:(aC→aC→Option (Int)))(rec1:List aC→Int→Int→Int→Int→Option (Bool×List aC)):Nat→List aC→Int→Int→Int→Int→Int→Option (Bool×List aC)
 |0=>fun _ _ _ _ _ _=>none
 |n+1=>fN bP rec1 (eG bP rec1 n)
def fK(bP:(aC→aC→Option (Int)))(rec1:List aC→Int→Int→Int→Int→Option (Bool×List aC))(rec2:List aC→Int→Int→Int→Int→Option (Bool×List aC))(aB:List aC)(a_1:Int)(b_2:Int)(i_9:Int)(fT:Int):Option (Bool×List aC):=
 ((dX ((decide (i_9<b_2))==true) (aC.mk 0 0) (idx aB i_9)).bind fun x2=>
 ((dX ((decide (i_9<b_2))==true) (aC.mk 0 0) (idx aB (IntKind.i64.wrap (i_9-1)))).bind fun x4=>
 ((dX ((decide (i_9<b_2))==true) 0 (bP x2 x4)).bind fun r6=>
 (bif ((decide (i_9<b_2))&&(!(decide (r6<0)))) then
  rec2 aB a_1 b_2 (IntKind.i64.wrap (i_9+1)) fT
 else
  (bif (i_9==b_2) then
   some (true,aB)
  else
   (bif (decide ((IntKind.i64.wrap (b_2-a_1))<50)) then
    some (false,aB)
   else
    ((idx aB (IntKind.i64.wrap (i_9-1))).bind fun x8=>
    ((idx aB i_9).bind fun x10=>
    ((idx aB i_9).bind fun x12=>
    ((stt aB i_9 x8).bind fun l14=>
    ((idx l14 (IntKind.i64.wrap (i_9-1))).bind fun x16=>
    ((stt l14 (IntKind.i64.wrap (i_9-1)) x10).bind fun l18=>
    (bif (decide (2≤(IntKind.i64.wrap (i_9-a_1)))) then
     eG bP rec1 aZ l18 a_1 b_2 i_9 fT (IntKind.i64.wrap (i_9-1))
    else
     dB bP rec1 l18 a_1 b_2 i_9 fT)))))))))))))
def eE(bP:(aC→aC→Option (Int)))(rec1:List aC→Int→Int→Int→Int→Option (Bool×List aC)):Nat→List aC→Int→Int→Int→Int→Option (Bool×List aC)
 |0=>fun _ _ _ _ _=>none
 |n+1=>fK bP rec1 (eE bP rec1 n)
def fJ(bP:(aC→aC→Option (Int)))(rec1:List aC→Int→Int→Int→Int→Option (Bool×List aC))(aB:List aC)(a_1:Int)(b_2:Int)(i_9:Int)(fT:Int):Option (Bool×List aC):=
 (bif (decide (fT<5)) then
  eE bP rec1 aZ aB a_1 b_2 i_9 fT
 else
  some (false,aB))
def aW(bP:(aC→aC→Option (Int))):Nat→List aC→Int→Int→Int→Int→Option (Bool×List aC)
 |0=>fun _ _ _ _ _=>none
 |n+1=>fJ bP (aW bP n)
def gD(aB:List aC)(a_1:Int)(b_2:Int)(bP:(aC→aC→Option (Int))):Option (Bool×List aC):=
 aW bP aZ aB a_1 b_2 (IntKind.i64.wrap (a_1+1)) 0
theorem uS{aB:List aC}{a_1:Int}{b_2:Int}{bP:(aC→aC→Option (Int))}{r:Bool×List aC}(hm:gD aB a_1 b_2 bP=some r){jI:FuncId}{eP:List AV}(mU: ∀a,a∈eP→AM.Data a)(pH:(Program.funcs prog)[jI]?.any (fun fn=>fn.body.isSome&&fn.name != "runtime.NumGoroutine")=true)(pO: ∀ {x0 x1 r},bP x0 x1=some r→dT prog jI ([.agg [.v (.int .u64 x0.x0),.v (.int .u64 x0.x1)],.agg [.v (.int .u64 x1.x0),.v (.int .u64 x1.x1)]]++eP) (.v (.int .i64 r))){H:aM}{i0:Nat}(he:H.ent i0= .cells 2 (aB.flatMap bT) 0):dR prog 161 [.own i0 0 aB.length,.v (.int .i64 a_1),.v (.int .i64 b_2),.clo (.func jI) [] eP] H (.v (.bool r.1)) (H.put i0 (.cells 2 (r.2.flatMap bT) 0)):=by
 refine dR.of_bodyM func161 rfl he ?_;generalize H.ent=h0;simp only [ntmps161,List.length_cons,List.length_nil,Nat.reduceAdd,Nat.reduceSub];unfold gD at hm;refine sN 64 (pA ?_);refine fs (sN 128 ?_)
 iterate 3 refine pA ?_
 refine fs (AWp.seq' (sN 192 (pA ?_)));refine fs (AWp.block (AWp.loopM (fun m s=> ∃(aB:List aC) (a_1:Int) (b_2:Int) (i_9:Int) (fT:Int),s=(⟨141,(aG (aG (aG (aG (aG (aG (fun _=>AV.any) 0 (.own i0 0 aB.length)) 1 (.v (.int .i64 a_1))) 2 (.v (.int .i64 b_2))) 3 (.clo (.func jI) [] eP)) 9 (.v (.int .i64 i_9))) 10 (.v (.int .i64 fT))),⟨(upd h0 i0 (.cells 2 (aB.flatMap bT) 0)),64⟩⟩:St)∧aW bP m aB a_1 b_2 i_9 fT=some r) aZ ?_ ?_ ?_))
 · rintro s ⟨_,_,_,_,_,_,h⟩;cases h
 · refine ⟨_,?_,aB,a_1,b_2,(IntKind.i64.wrap (a_1+1)),0,rfl,hm⟩;exact bN (aD 10 _ Z1 (aD 9 _ Z1 (aD 3 _ Z1 (aD 2 _ Z1 (aD 1 _ Z1 (aD 0 _ (bO Z1 Z6) bF)))))) Zc
 ·
  rintro n1 s ⟨aB,a_1,b_2,i_9,fT,rfl,hm⟩;replace hm:fJ bP (aW bP n1) aB a_1 b_2 i_9 fT=some r:=hm;unfold fJ at hm;refine AWp.seq' (sN 128 ?_)
  iterate 2 refine pA ?_
  refine fs (AWp.condM hm Z1 (fun _ hm=>?_) (fun _ hm=>?_))
  ·
   refine AWp.skip (aV (AWp.seqJ (fun s=> ∃(aB:List aC) (a_1:Int) (b_2:Int) (i_9:Int) (fT:Int),s=(⟨141,(aG (aG (aG (aG (aG (aG (fun _=>AV.any) 0 (.own i0 0 aB.length)) 1 (.v (.int .i64 a_1))) 2 (.v (.int .i64 b_2))) 3 (.clo (.func jI) [] eP)) 9 (.v (.int .i64 i_9))) 10 (.v (.int .i64 fT))),⟨(upd h0 i0 (.cells 2 (aB.flatMap bT) 0)),64⟩⟩:St)∧cH bP (aW bP n1) aB a_1 b_2 i_9 fT=some r) ?_ ?_))
   ·
    refine AWp.block (AWp.seq' (AWp.block (AWp.loopM (fun m s=> ∃(aB:List aC) (a_1:Int) (b_2:Int) (i_9:Int) (fT:Int),s=(⟨141,(aG (aG (aG (aG (aG (aG (fun _=>AV.any) 0 (.own i0 0 aB.length)) 1 (.v (.int .i64 a_1))) 2 (.v (.int .i64 b_2))) 3 (.clo (.func jI) [] eP)) 9 (.v (.int .i64 i_9))) 10 (.v (.int .i64 fT))),⟨(upd h0 i0 (.cells 2 (aB.flatMap bT) 0)),64⟩⟩:St)∧eE bP (aW bP n1) m aB a_1 b_2 i_9 fT=some r) aZ ?_ ?_ ?_)))
    · rintro s ⟨_,_,_,_,_,_,h⟩;cases h
    · refine ⟨_,?_,aB,a_1,b_2,i_9,fT,rfl,hm⟩;exact bN (aD 10 _ Z1 (aD 9 _ Z1 (aD 3 _ Z1 (aD 2 _ Z1 (aD 1 _ Z1 (aD 0 _ (bO Z1 Z6) bF)))))) Zc
    ·
     rintro n2 s ⟨aB,a_1,b_2,i_9,fT,rfl,hm⟩;replace hm:fK bP (aW bP n1) (eE bP (aW bP n1) n2) aB a_1 b_2 i_9 fT=some r:=hm;unfold fK at hm;refine AWp.seq' (sd mix (by kernel_rfl) (N':=128) rfl ?_)
     iterate 7 first|refine pA ?_|refine pB ?_
     obtain ⟨x2,h1,hm⟩:=bnd hm;refine pg rfl rfl Z2 (fun hb=>(aN underlying40 fS (Zh hb) Za Z6 (Zh hb) (bI h1 hb))) ?_;refine pg rfl rfl Z2 (fun hb=>(bM aJ (Zh hb) Za (bI h1 hb) Zb)) ?_
     iterate 3 refine pB ?_
     obtain ⟨x4,h3,hm⟩:=bnd hm;refine pg rfl rfl Z2 (fun hb=>(aN underlying40 fS (Zh hb) Za Z6 (Zh hb) (bI h3 hb))) ?_;refine pg rfl rfl Z2 (fun hb=>(bM aJ (Zh hb) Za (bI h3 hb) Zb)) ?_;obtain ⟨r6,h5,hm⟩:=bnd hm;refine aI.callQCG (r:= .v (.int .i64 r6)) Zd rfl Z2 (fun hb=>(Zh hb)) mU pH (fun hb H=>(.cons (td (Zh hb) (.agg _ (aJ.dat _))) (.cons (td (Zh hb) (.agg _ (aJ.dat _))) .nil))) (fun hb=>pO (bI h5 hb)) ?_
     iterate 3 first|refine pA ?_|refine pB ?_
     refine fs (AWp.condM hm Z1 (fun _ hm=>?_) (fun _ hm=>?_))
     ·
      refine AWp.skip (aV (AWp.block (AWp.reg 64 (N':=192) rfl ?_)))
      iterate 3 refine pA ?_
      refine aI.fin (eT (cO ?_));refine ⟨_,?_,aB,a_1,b_2,(IntKind.i64.wrap (i_9+1)),fT,rfl,hm⟩;exact bN (aD 10 _ Z1 (aD 9 _ Z1 (aD 3 _ Z1 (aD 2 _ Z1 (aD 1 _ Z1 (aD 0 _ (bO Z1 Z6) bF)))))) Zc
     ·
      refine AWp.exit (dJ (dA (cW (aV (AWp.seq' (sN 192 ?_))))))
      iterate 3 refine pA ?_
      refine fs (AWp.condM hm Z1 (fun _ hm=>?_) (fun _ hm=>?_))
      · refine sN 256 (pA ?_);refine fs (AWp.ret (lD (qD (aRr (qX (qD (lD ?_)))))));cases hm;exact aGc (.inr rfl) Tryz.results161 Z1 Zc
      ·
       refine AWp.skip (aV (AWp.seq' (sN 256 ?_)))
       iterate 4 refine pA ?_
       refine fs (AWp.condM hm Z1 (fun _ hm=>?_) (fun _ hm=>?_))
       · refine sN 320 (pA ?_);refine fs (AWp.ret (lD (qD (aRr (qX (qD (lD ?_)))))));cases hm;exact aGc (.inr rfl) Tryz.results161 Z1 Zc
       ·
        refine AWp.skip (aV (sd mix (by kernel_rfl) (N':=320) rfl ?_))
        iterate 8 refine pA ?_
        obtain ⟨x8,h7,hm⟩:=bnd hm;refine pu rfl (aN underlying40 fS Z1 Za Z6 Z1 h7) ?_;refine pu rfl (bM aJ Z1 Za h7 Zb) ?_
        iterate 2 refine pA ?_
        obtain ⟨x10,h9,hm⟩:=bnd hm;refine pu rfl (aN underlying40 fS Z1 Za Z6 Z1 h9) ?_;refine pu rfl (bM aJ Z1 Za h9 Zb) ?_;obtain ⟨x12,h11,hm⟩:=bnd hm;refine pu rfl (aN underlying40 fS Z1 Za Z6 Z1 h11) ?_;obtain ⟨l14,h13,hm⟩:=bnd hm;have qh13:=cY h13;refine aI.heap0 (id:=271) rfl (eR aJ fS Z1 Z1 Za rfl h13) ?_;obtain ⟨x16,h15,hm⟩:=bnd hm;refine pu rfl (aN underlying40 fS Z1 Za Z6 Z1 h15) ?_;obtain ⟨l18,h17,hm⟩:=bnd hm;have qh17:=cY h17;refine aI.heap0 (id:=273) rfl (eR aJ fS Z1 Z1 Za rfl h17) ?_;refine fs (AWp.seqJ (fun s=> ∃(aB:List aC) (a_1:Int) (b_2:Int) (i_9:Int) (fT:Int),s=(⟨141,(aG (aG (aG (aG (aG (aG (fun _=>AV.any) 0 (.own i0 0 aB.length)) 1 (.v (.int .i64 a_1))) 2 (.v (.int .i64 b_2))) 3 (.clo (.func jI) [] eP)) 9 (.v (.int .i64 i_9))) 10 (.v (.int .i64 fT))),⟨(upd h0 i0 (.cells 2 (aB.flatMap bT) 0)),64⟩⟩:St)∧dB bP (aW bP n1) aB a_1 b_2 i_9 fT=some r) ?_ ?_)
        ·
         refine sN 384 ?_
         iterate 4 refine pA ?_
         refine fs (AWp.condM hm Z1 (fun _ hm=>?_) (fun _ hm=>?_))
         ·
          refine sN 448 ?_
          iterate 3 refine pA ?_
          refine fs (AWp.block (AWp.loopM (fun m s=> ∃(aB:List aC) (a_1:Int) (b_2:Int) (i_9:Int) (fT:Int) (gQ:Int),s=(⟨141,(aG (aG (aG (aG (aG (aG (aG (fun _=>AV.any) 0 (.own i0 0 aB.length)) 1 (.v (.int .i64 a_1))) 2 (.v (.int .i64 b_2))) 3 (.clo (.func jI) [] eP)) 9 (.v (.int .i64 i_9))) 10 (.v (.int .i64 fT))) 11 (.v (.int .i64 gQ))),⟨(upd h0 i0 (.cells 2 (aB.flatMap bT) 0)),64⟩⟩:St)∧eG bP (aW bP n1) m aB a_1 b_2 i_9 fT gQ=some r) aZ ?_ ?_ ?_))
          · rintro s ⟨_,_,_,_,_,_,_,h⟩;cases h
          · refine ⟨_,?_,l18,a_1,b_2,i_9,fT,(IntKind.i64.wrap (i_9-1)),rfl,hm⟩;exact bN (aD 11 _ Z1 (aD 10 _ Z1 (aD 9 _ Z1 (aD 3 _ Z1 (aD 2 _ Z1 (aD 1 _ Z1 (aD 0 _ (bO Z1 Z6) bF))))))) Zc
          ·
           rintro n4 s ⟨aB,a_1,b_2,i_9,fT,gQ,rfl,hm⟩;replace hm:fN bP (aW bP n1) (eG bP (aW bP n1) n4) aB a_1 b_2 i_9 fT gQ=some r:=hm;unfold fN at hm;refine AWp.seq' (sN 128 ?_)
           iterate 2 refine pA ?_
           refine fs (AWp.condM hm Z1 (fun _ hm=>?_) (fun _ hm=>?_))
           ·
            refine AWp.skip (aV (AWp.seq' (AWp.block (AWp.seq' (sd mix (by kernel_rfl) (N':=192) rfl ?_)))))
            iterate 3 refine pA ?_
            obtain ⟨x38,h37,hm⟩:=bnd hm;refine pu rfl (aN underlying40 fS Z1 Za Z6 Z1 h37) ?_;refine pu rfl (bM aJ Z1 Za h37 Zb) ?_
            iterate 3 refine pA ?_
            obtain ⟨x40,h39,hm⟩:=bnd hm;refine pu rfl (aN underlying40 fS Z1 Za Z6 Z1 h39) ?_;refine pu rfl (bM aJ Z1 Za h39 Zb) ?_;obtain ⟨r42,h41,hm⟩:=bnd hm;refine aI.callQC (r:= .v (.int .i64 r42)) Zd Z1 mU pH (fun H=>(cD (.agg _ (aJ.dat _)) (cD (.agg _ (aJ.dat _)) .nil))) (pO h41) ?_
            iterate 2 refine pA ?_
            refine fs (AWp.condM hm Z1 (fun _ hm=>?_) (fun _ hm=>?_))
            · refine AWp.exit (dJ (rQ Zd ?_));refine dJ (dA (cW (nH ?_)));refine ⟨_,?_,aB,a_1,b_2,i_9,fT,rfl,hm⟩;exact bN (aD 10 _ Z1 (aD 9 _ Z1 (aD 3 _ Z1 (aD 2 _ Z1 (aD 1 _ Z1 (aD 0 _ (bO Z1 Z6) bF)))))) Zc
            ·
             refine AWp.skip (aV (AWp.regD 64 mix (by kernel_rfl) (N':=256) rfl ?_))
             iterate 8 refine pA ?_
             obtain ⟨x44,h43,hm⟩:=bnd hm;refine pu rfl (aN underlying40 fS Z1 Za Z6 Z1 h43) ?_;refine pu rfl (bM aJ Z1 Za h43 Zb) ?_
             iterate 2 refine pA ?_
             obtain ⟨x46,h45,hm⟩:=bnd hm;refine pu rfl (aN underlying40 fS Z1 Za Z6 Z1 h45) ?_;refine pu rfl (bM aJ Z1 Za h45 Zb) ?_;obtain ⟨x48,h47,hm⟩:=bnd hm;refine pu rfl (aN underlying40 fS Z1 Za Z6 Z1 h47) ?_;obtain ⟨l50,h49,hm⟩:=bnd hm;have qh49:=cY h49;refine aI.heap0 (id:=207) rfl (eR aJ fS Z1 Z1 Za rfl h49) ?_;obtain ⟨x52,h51,hm⟩:=bnd hm;refine pu rfl (aN underlying40 fS Z1 Za Z6 Z1 h51) ?_;obtain ⟨l54,h53,hm⟩:=bnd hm;have qh53:=cY h53;refine aI.heap0 (id:=209) rfl (eR aJ fS Z1 Z1 Za rfl h53) ?_;refine aI.fin (eT (aV (AWp.reg 64 (N':=320) rfl ?_)))
             iterate 3 refine pA ?_
             refine aI.fin (cO ?_);refine ⟨_,?_,l54,a_1,b_2,i_9,fT,(IntKind.i64.wrap (gQ-1)),rfl,hm⟩;exact bN (aD 11 _ Z1 (aD 10 _ Z1 (aD 9 _ Z1 (aD 3 _ Z1 (aD 2 _ Z1 (aD 1 _ Z1 (aD 0 _ (bO Z1 Z6) bF))))))) Zc
           · refine AWp.exit (dJ (dA (cW (nH ?_))));refine ⟨_,?_,aB,a_1,b_2,i_9,fT,rfl,hm⟩;exact bN (aD 10 _ Z1 (aD 9 _ Z1 (aD 3 _ Z1 (aD 2 _ Z1 (aD 1 _ Z1 (aD 0 _ (bO Z1 Z6) bF)))))) Zc
         · refine AWp.skip (nH ?_);refine ⟨_,?_,l18,a_1,b_2,i_9,fT,rfl,hm⟩;exact bN (aD 10 _ Z1 (aD 9 _ Z1 (aD 3 _ Z1 (aD 2 _ Z1 (aD 1 _ Z1 (aD 0 _ (bO Z1 Z6) bF)))))) Zc
        ·
         rintro s ⟨aB,a_1,b_2,i_9,fT,rfl,hm⟩;unfold dB at hm;refine sN 128 ?_
         iterate 4 refine pA ?_
         refine fs (AWp.condM hm Z1 (fun _ hm=>?_) (fun _ hm=>?_))
         ·
          refine sN 192 ?_
          iterate 3 refine pA ?_
          refine fs (AWp.block (AWp.loopM (fun m s=> ∃(aB:List aC) (a_1:Int) (b_2:Int) (i_9:Int) (fT:Int) (oO:Int),s=(⟨141,(aG (aG (aG (aG (aG (aG (aG (fun _=>AV.any) 0 (.own i0 0 aB.length)) 1 (.v (.int .i64 a_1))) 2 (.v (.int .i64 b_2))) 3 (.clo (.func jI) [] eP)) 9 (.v (.int .i64 i_9))) 10 (.v (.int .i64 fT))) 12 (.v (.int .i64 oO))),⟨(upd h0 i0 (.cells 2 (aB.flatMap bT) 0)),64⟩⟩:St)∧eF bP (aW bP n1) m aB a_1 b_2 i_9 fT oO=some r) aZ ?_ ?_ ?_))
          · rintro s ⟨_,_,_,_,_,_,_,h⟩;cases h
          · refine ⟨_,?_,aB,a_1,b_2,i_9,fT,(IntKind.i64.wrap (i_9+1)),rfl,hm⟩;exact bN (aD 12 _ Z1 (aD 10 _ Z1 (aD 9 _ Z1 (aD 3 _ Z1 (aD 2 _ Z1 (aD 1 _ Z1 (aD 0 _ (bO Z1 Z6) bF))))))) Zc
          ·
           rintro n3 s ⟨aB,a_1,b_2,i_9,fT,oO,rfl,hm⟩;replace hm:fL bP (aW bP n1) (eF bP (aW bP n1) n3) aB a_1 b_2 i_9 fT oO=some r:=hm;unfold fL at hm;refine AWp.seq' (sN 128 ?_)
           iterate 3 refine pA ?_
           refine fs (AWp.condM hm Z1 (fun _ hm=>?_) (fun _ hm=>?_))
           ·
            refine AWp.skip (aV (AWp.seq' (AWp.block (AWp.seq' (sd mix (by kernel_rfl) (N':=192) rfl ?_)))))
            iterate 3 refine pA ?_
            obtain ⟨x20,h19,hm⟩:=bnd hm;refine pu rfl (aN underlying40 fS Z1 Za Z6 Z1 h19) ?_;refine pu rfl (bM aJ Z1 Za h19 Zb) ?_
            iterate 3 refine pA ?_
            obtain ⟨x22,h21,hm⟩:=bnd hm;refine pu rfl (aN underlying40 fS Z1 Za Z6 Z1 h21) ?_;refine pu rfl (bM aJ Z1 Za h21 Zb) ?_;obtain ⟨r24,h23,hm⟩:=bnd hm;refine aI.callQC (r:= .v (.int .i64 r24)) Zd Z1 mU pH (fun H=>(cD (.agg _ (aJ.dat _)) (cD (.agg _ (aJ.dat _)) .nil))) (pO h23) ?_
            iterate 2 refine pA ?_
            refine fs (AWp.condM hm Z1 (fun _ hm=>?_) (fun _ hm=>?_))
            · refine AWp.exit (dJ (rQ Zd ?_));refine dJ (dA (cW (eT (nH ?_))));refine ⟨_,?_,aB,a_1,b_2,i_9,fT,rfl,hm⟩;exact bN (aD 10 _ Z1 (aD 9 _ Z1 (aD 3 _ Z1 (aD 2 _ Z1 (aD 1 _ Z1 (aD 0 _ (bO Z1 Z6) bF)))))) Zc
            ·
             refine AWp.skip (aV (AWp.regD 64 mix (by kernel_rfl) (N':=256) rfl ?_))
             iterate 8 refine pA ?_
             obtain ⟨x26,h25,hm⟩:=bnd hm;refine pu rfl (aN underlying40 fS Z1 Za Z6 Z1 h25) ?_;refine pu rfl (bM aJ Z1 Za h25 Zb) ?_
             iterate 2 refine pA ?_
             obtain ⟨x28,h27,hm⟩:=bnd hm;refine pu rfl (aN underlying40 fS Z1 Za Z6 Z1 h27) ?_;refine pu rfl (bM aJ Z1 Za h27 Zb) ?_;obtain ⟨x30,h29,hm⟩:=bnd hm;refine pu rfl (aN underlying40 fS Z1 Za Z6 Z1 h29) ?_;obtain ⟨l32,h31,hm⟩:=bnd hm;have qh31:=cY h31;refine aI.heap0 (id:=207) rfl (eR aJ fS Z1 Z1 Za rfl h31) ?_;obtain ⟨x34,h33,hm⟩:=bnd hm;refine pu rfl (aN underlying40 fS Z1 Za Z6 Z1 h33) ?_;obtain ⟨l36,h35,hm⟩:=bnd hm;have qh35:=cY h35;refine aI.heap0 (id:=209) rfl (eR aJ fS Z1 Z1 Za rfl h35) ?_;refine aI.fin (eT (aV (AWp.reg 64 (N':=320) rfl ?_)))
             iterate 3 refine pA ?_
             refine aI.fin (cO ?_);refine ⟨_,?_,l36,a_1,b_2,i_9,fT,(IntKind.i64.wrap (oO+1)),rfl,hm⟩;exact bN (aD 12 _ Z1 (aD 10 _ Z1 (aD 9 _ Z1 (aD 3 _ Z1 (aD 2 _ Z1 (aD 1 _ Z1 (aD 0 _ (bO Z1 Z6) bF))))))) Zc
           · refine AWp.exit (dJ (dA (cW (eT (nH ?_)))));refine ⟨_,?_,aB,a_1,b_2,i_9,fT,rfl,hm⟩;exact bN (aD 10 _ Z1 (aD 9 _ Z1 (aD 3 _ Z1 (aD 2 _ Z1 (aD 1 _ Z1 (aD 0 _ (bO Z1 Z6) bF)))))) Zc
         · refine AWp.skip (eT (nH ?_));refine ⟨_,?_,aB,a_1,b_2,i_9,fT,rfl,hm⟩;exact bN (aD 10 _ Z1 (aD 9 _ Z1 (aD 3 _ Z1 (aD 2 _ Z1 (aD 1 _ Z1 (aD 0 _ (bO Z1 Z6) bF)))))) Zc
   ·
    rintro s ⟨aB,a_1,b_2,i_9,fT,rfl,hm⟩;unfold cH at hm;refine AWp.reg 64 (N':=128) rfl ?_
    iterate 3 refine pA ?_
    refine aI.fin (cO ?_);refine ⟨_,?_,aB,a_1,b_2,i_9,(IntKind.i64.wrap (fT+1)),rfl,hm⟩;exact bN (aD 10 _ Z1 (aD 9 _ Z1 (aD 3 _ Z1 (aD 2 _ Z1 (aD 1 _ Z1 (aD 0 _ (bO Z1 Z6) bF)))))) Zc
  · refine AWp.exit (dJ (dA (cW (aV (sN 192 (pA ?_))))));refine fs (AWp.ret ?_);cases hm;exact aGc (.inr rfl) Tryz.results161 Z1 Zc
def hY(bQ:(aC→aC→Option (Int)))(rec1:List aC→Int→Int→Int→Option (Int×List aC))(rec3:List aC→Int→Int→Int→Option (Int×List aC))(aB:List aC)(a_1:Int)(qH:Int)(oO:Int):Option (Int×List aC):=
 ((dX ((decide (qH≤oO))==true) (aC.mk 0 0) (idx aB a_1)).bind fun x20=>
 ((dX ((decide (qH≤oO))==true) (aC.mk 0 0) (idx aB oO)).bind fun x22=>
 ((dX ((decide (qH≤oO))==true) 0 (bQ x20 x22)).bind fun r24=>
 (bif ((decide (qH≤oO))&&(decide (r24<0))) then
  rec3 aB a_1 qH (IntKind.i64.wrap (oO-1))
 else
  (bif (decide (oO<qH)) then
   some (qH,aB)
  else
   ((idx aB oO).bind fun x26=>
   ((idx aB qH).bind fun x28=>
   ((idx aB qH).bind fun x30=>
   ((stt aB qH x26).bind fun l32=>
   ((idx l32 oO).bind fun x34=>
   ((stt l32 oO x28).bind fun l36=>
   rec1 l36 a_1 (IntKind.i64.wrap (qH+1)) (IntKind.i64.wrap (oO-1)))))))))))))
def fV(bQ:(aC→aC→Option (Int)))(rec1:List aC→Int→Int→Int→Option (Int×List aC)):Nat→List aC→Int→Int→Int→Option (Int×List aC)
 |0=>fun _ _ _ _=>none
 |n+1=>hY bQ rec1 (fV bQ rec1 n)
def gZ(bQ:(aC→aC→Option (Int)))(rec1:List aC→Int→Int→Int→Option (Int×List aC))(rec2:List aC→Int→Int→Int→Option (Int×List aC))(aB:List aC)(a_1:Int)(qH:Int)(oO:Int):Option (Int×List aC):=
 ((dX ((decide (qH≤oO))==true) (aC.mk 0 0) (idx aB a_1)).bind fun x14=>
 ((dX ((decide (qH≤oO))==true) (aC.mk 0 0) (idx aB qH)).bind fun x16=>
 ((dX ((decide (qH≤oO))==true) 0 (bQ x14 x16)).bind fun r18=>
 (bif ((decide (qH≤oO))&&(!(decide (r18<0)))) then
  rec2 aB a_1 (IntKind.i64.wrap (qH+1)) oO
 else
  fV bQ rec1 aZ aB a_1 qH oO))))
def fU(bQ:(aC→aC→Option (Int)))(rec1:List aC→Int→Int→Int→Option (Int×List aC)):Nat→List aC→Int→Int→Int→Option (Int×List aC)
 |0=>fun _ _ _ _=>none
 |n+1=>gZ bQ rec1 (fU bQ rec1 n)
def gY(bQ:(aC→aC→Option (Int)))(rec1:List aC→Int→Int→Int→Option (Int×List aC))(aB:List aC)(a_1:Int)(qH:Int)(oO:Int):Option (Int×List aC):=
 fU bQ rec1 aZ aB a_1 qH oO
def bX(bQ:(aC→aC→Option (Int))):Nat→List aC→Int→Int→Int→Option (Int×List aC)
 |0=>fun _ _ _ _=>none
 |n+1=>gY bQ (bX bQ n)
def iX(aB:List aC)(a_1:Int)(b_2:Int)(nA:Int)(bQ:(aC→aC→Option (Int))):Option (Int×List aC):=
 ((idx aB nA).bind fun x2=>
 ((idx aB a_1).bind fun x4=>
 ((idx aB a_1).bind fun x6=>
 ((stt aB a_1 x2).bind fun l8=>
 ((idx l8 nA).bind fun x10=>
 ((stt l8 nA x4).bind fun l12=>
 bX bQ aZ l12 a_1 (IntKind.i64.wrap (a_1+1)) (IntKind.i64.wrap (b_2-1))))))))
theorem zJ{aB:List aC}{a_1:Int}{b_2:Int}{nA:Int}{bQ:(aC→aC→Option (Int))}{r:Int×List aC}(hm:iX aB a_1 b_2 nA bQ=some r){jJ:FuncId}{eQ:List AV}(gG: ∀a,a∈eQ→AM.Data a)(lH:(Program.funcs prog)[jJ]?.any (fun fn=>fn.body.isSome&&fn.name != "runtime.NumGoroutine")=true)(lJ: ∀ {x0 x1 r},bQ x0 x1=some r→dT prog jJ ([.agg [.v (.int .u64 x0.x0),.v (.int .u64 x0.x1)],.agg [.v (.int .u64 x1.x0),.v (.int .u64 x1.x1)]]++eQ) (.v (.int .i64 r))){H:aM}{i0:Nat}(he:H.ent i0= .cells 2 (aB.flatMap bT) 0):dR prog 162 [.own i0 0 aB.length,.v (.int .i64 a_1),.v (.int .i64 b_2),.v (.int .i64 nA),.clo (.func jJ) [] eQ] H (.v (.int .i64 r.1)) (H.put i0 (.cells 2 (r.2.flatMap bT) 0)):=by
 refine dR.of_bodyM func162 rfl he ?_;generalize H.ent=h0;simp only [ntmps162,List.length_cons,List.length_nil,Nat.reduceAdd,Nat.reduceSub];unfold iX at hm;refine sN 64 (pA ?_);refine fs (sd mix (by kernel_rfl) (N':=128) rfl ?_)
 iterate 6 refine pA ?_
 obtain ⟨x2,h1,hm⟩:=bnd hm;refine pu rfl (aN underlying40 fS Z1 Za Z6 Z1 h1) ?_;refine pu rfl (bM aJ Z1 Za h1 Zb) ?_
 iterate 2 refine pA ?_
 obtain ⟨x4,h3,hm⟩:=bnd hm;refine pu rfl (aN underlying40 fS Z1 Za Z6 Z1 h3) ?_;refine pu rfl (bM aJ Z1 Za h3 Zb) ?_;obtain ⟨x6,h5,hm⟩:=bnd hm;refine pu rfl (aN underlying40 fS Z1 Za Z6 Z1 h5) ?_;obtain ⟨l8,h7,hm⟩:=bnd hm;have qh7:=cY h7;refine aI.heap0 (id:=77) rfl (eR aJ fS Z1 Z1 Za rfl h7) ?_;obtain ⟨x10,h9,hm⟩:=bnd hm;refine pu rfl (aN underlying40 fS Z1 Za Z6 Z1 h9) ?_;obtain ⟨l12,h11,hm⟩:=bnd hm;have qh11:=cY h11;refine aI.heap0 (id:=79) rfl (eR aJ fS Z1 Z1 Za rfl h11) ?_;refine fs (sN 192 ?_)
 iterate 6 refine pA ?_
 refine fs (AWp.seq' (AWp.block (AWp.loopM (fun m s=> ∃(aB:List aC) (a_1:Int) (qH:Int) (oO:Int),s=(⟨90,(aG (aG (aG (aG (aG (fun _=>AV.any) 0 (.own i0 0 aB.length)) 1 (.v (.int .i64 a_1))) 4 (.clo (.func jJ) [] eQ)) 11 (.v (.int .i64 qH))) 12 (.v (.int .i64 oO))),⟨(upd h0 i0 (.cells 2 (aB.flatMap bT) 0)),64⟩⟩:St)∧bX bQ m aB a_1 qH oO=some r) aZ ?_ ?_ ?_)))
 · rintro s ⟨_,_,_,_,_,h⟩;cases h
 · refine ⟨_,?_,l12,a_1,(IntKind.i64.wrap (a_1+1)),(IntKind.i64.wrap (b_2-1)),rfl,hm⟩;exact bN (aD 12 _ Z1 (aD 11 _ Z1 (aD 4 _ Z1 (aD 1 _ Z1 (aD 0 _ (bO Z1 Z6) bF))))) Zc
 ·
  rintro n1 s ⟨aB,a_1,qH,oO,rfl,hm⟩;replace hm:gY bQ (bX bQ n1) aB a_1 qH oO=some r:=hm;unfold gY at hm;refine AWp.block (AWp.seq' (AWp.block (AWp.loopM (fun m s=> ∃(aB:List aC) (a_1:Int) (qH:Int) (oO:Int),s=(⟨90,(aG (aG (aG (aG (aG (fun _=>AV.any) 0 (.own i0 0 aB.length)) 1 (.v (.int .i64 a_1))) 4 (.clo (.func jJ) [] eQ)) 11 (.v (.int .i64 qH))) 12 (.v (.int .i64 oO))),⟨(upd h0 i0 (.cells 2 (aB.flatMap bT) 0)),64⟩⟩:St)∧fU bQ (bX bQ n1) m aB a_1 qH oO=some r) aZ ?_ ?_ ?_)))
  · rintro s ⟨_,_,_,_,_,h⟩;cases h
  · refine ⟨_,?_,aB,a_1,qH,oO,rfl,hm⟩;exact bN (aD 12 _ Z1 (aD 11 _ Z1 (aD 4 _ Z1 (aD 1 _ Z1 (aD 0 _ (bO Z1 Z6) bF))))) Zc
  ·
   rintro n2 s ⟨aB,a_1,qH,oO,rfl,hm⟩;replace hm:gZ bQ (bX bQ n1) (fU bQ (bX bQ n1) n2) aB a_1 qH oO=some r:=hm;unfold gZ at hm;refine AWp.seq' (sd mix (by kernel_rfl) (N':=128) rfl ?_)
   iterate 7 first|refine pA ?_|refine pB ?_
   obtain ⟨x14,h13,hm⟩:=bnd hm;refine pg rfl rfl Z2 (fun hb=>(aN underlying40 fS (Zh hb) Za Z6 (Zh hb) (bI h13 hb))) ?_;refine pg rfl rfl Z2 (fun hb=>(bM aJ (Zh hb) Za (bI h13 hb) Zb)) ?_
   iterate 2 refine pB ?_
   obtain ⟨x16,h15,hm⟩:=bnd hm;refine pg rfl rfl Z2 (fun hb=>(aN underlying40 fS (Zh hb) Za Z6 (Zh hb) (bI h15 hb))) ?_;refine pg rfl rfl Z2 (fun hb=>(bM aJ (Zh hb) Za (bI h15 hb) Zb)) ?_;obtain ⟨r18,h17,hm⟩:=bnd hm;refine aI.callQCG (r:= .v (.int .i64 r18)) Zd rfl Z2 (fun hb=>(Zh hb)) gG lH (fun hb H=>(.cons (td (Zh hb) (.agg _ (aJ.dat _))) (.cons (td (Zh hb) (.agg _ (aJ.dat _))) .nil))) (fun hb=>lJ (bI h17 hb)) ?_
   iterate 3 first|refine pA ?_|refine pB ?_
   refine fs (AWp.condM hm Z1 (fun _ hm=>?_) (fun _ hm=>?_))
   ·
    refine AWp.skip (aV (AWp.block (AWp.reg 64 (N':=192) rfl ?_)))
    iterate 3 refine pA ?_
    refine aI.fin (eT (cO ?_));refine ⟨_,?_,aB,a_1,(IntKind.i64.wrap (qH+1)),oO,rfl,hm⟩;exact bN (aD 12 _ Z1 (aD 11 _ Z1 (aD 4 _ Z1 (aD 1 _ Z1 (aD 0 _ (bO Z1 Z6) bF))))) Zc
   ·
    refine AWp.exit (dJ (dA (cW (aV (AWp.seq' (AWp.block (AWp.loopM (fun m s=> ∃(aB:List aC) (a_1:Int) (qH:Int) (oO:Int),s=(⟨90,(aG (aG (aG (aG (aG (fun _=>AV.any) 0 (.own i0 0 aB.length)) 1 (.v (.int .i64 a_1))) 4 (.clo (.func jJ) [] eQ)) 11 (.v (.int .i64 qH))) 12 (.v (.int .i64 oO))),⟨(upd h0 i0 (.cells 2 (aB.flatMap bT) 0)),64⟩⟩:St)∧fV bQ (bX bQ n1) m aB a_1 qH oO=some r) aZ ?_ ?_ ?_)))))))
    · rintro s ⟨_,_,_,_,_,h⟩;cases h
    · refine ⟨_,?_,aB,a_1,qH,oO,rfl,hm⟩;exact bN (aD 12 _ Z1 (aD 11 _ Z1 (aD 4 _ Z1 (aD 1 _ Z1 (aD 0 _ (bO Z1 Z6) bF))))) Zc
    ·
     rintro n3 s ⟨aB,a_1,qH,oO,rfl,hm⟩;replace hm:hY bQ (bX bQ n1) (fV bQ (bX bQ n1) n3) aB a_1 qH oO=some r:=hm;unfold hY at hm;refine AWp.seq' (sd mix (by kernel_rfl) (N':=128) rfl ?_)
     iterate 7 first|refine pA ?_|refine pB ?_
     obtain ⟨x20,h19,hm⟩:=bnd hm;refine pg rfl rfl Z2 (fun hb=>(aN underlying40 fS (Zh hb) Za Z6 (Zh hb) (bI h19 hb))) ?_;refine pg rfl rfl Z2 (fun hb=>(bM aJ (Zh hb) Za (bI h19 hb) Zb)) ?_
     iterate 2 refine pB ?_
     obtain ⟨x22,h21,hm⟩:=bnd hm;refine pg rfl rfl Z2 (fun hb=>(aN underlying40 fS (Zh hb) Za Z6 (Zh hb) (bI h21 hb))) ?_;refine pg rfl rfl Z2 (fun hb=>(bM aJ (Zh hb) Za (bI h21 hb) Zb)) ?_;obtain ⟨r24,h23,hm⟩:=bnd hm;refine aI.callQCG (r:= .v (.int .i64 r24)) Zd rfl Z2 (fun hb=>(Zh hb)) gG lH (fun hb H=>(.cons (td (Zh hb) (.agg _ (aJ.dat _))) (.cons (td (Zh hb) (.agg _ (aJ.dat _))) .nil))) (fun hb=>lJ (bI h23 hb)) ?_
     iterate 2 first|refine pA ?_|refine pB ?_
     refine fs (AWp.condM hm Z1 (fun _ hm=>?_) (fun _ hm=>?_))
     ·
      refine AWp.skip (aV (AWp.block (AWp.reg 64 (N':=192) rfl ?_)))
      iterate 3 refine pA ?_
      refine aI.fin (eT (cO ?_));refine ⟨_,?_,aB,a_1,qH,(IntKind.i64.wrap (oO-1)),rfl,hm⟩;exact bN (aD 12 _ Z1 (aD 11 _ Z1 (aD 4 _ Z1 (aD 1 _ Z1 (aD 0 _ (bO Z1 Z6) bF))))) Zc
     ·
      refine AWp.exit (dJ (dA (cW (aV (AWp.seq' (sN 192 ?_))))))
      iterate 3 refine pA ?_
      refine fs (AWp.condM hm Z1 (fun _ hm=>?_) (fun _ hm=>?_))
      ·
       refine AWp.exit (dJ (rQ Zd ?_));refine dA (cW (aV (sN 256 ?_)))
       iterate 2 refine pA ?_
       refine fs (AWp.ret ?_);cases hm;exact aGc (.inr rfl) Tryz.results162 Z1 Zc
      ·
       refine AWp.skip (aV (sd mix (by kernel_rfl) (N':=256) rfl ?_))
       iterate 6 refine pA ?_
       obtain ⟨x26,h25,hm⟩:=bnd hm;refine pu rfl (aN underlying40 fS Z1 Za Z6 Z1 h25) ?_;refine pu rfl (bM aJ Z1 Za h25 Zb) ?_
       iterate 2 refine pA ?_
       obtain ⟨x28,h27,hm⟩:=bnd hm;refine pu rfl (aN underlying40 fS Z1 Za Z6 Z1 h27) ?_;refine pu rfl (bM aJ Z1 Za h27 Zb) ?_;obtain ⟨x30,h29,hm⟩:=bnd hm;refine pu rfl (aN underlying40 fS Z1 Za Z6 Z1 h29) ?_;obtain ⟨l32,h31,hm⟩:=bnd hm;have qh31:=cY h31;refine aI.heap0 (id:=205) rfl (eR aJ fS Z1 Z1 Za rfl h31) ?_;obtain ⟨x34,h33,hm⟩:=bnd hm;refine pu rfl (aN underlying40 fS Z1 Za Z6 Z1 h33) ?_;obtain ⟨l36,h35,hm⟩:=bnd hm;have qh35:=cY h35;refine aI.heap0 (id:=207) rfl (eR aJ fS Z1 Z1 Za rfl h35) ?_;refine fs (sN 320 ?_)
       iterate 3 refine pA ?_
       refine fs (AWp.reg 64 (N':=384) rfl ?_)
       iterate 3 refine pA ?_
       refine aI.fin (eT (cO ?_));refine ⟨_,?_,l36,a_1,(IntKind.i64.wrap (qH+1)),(IntKind.i64.wrap (oO-1)),rfl,hm⟩;exact bN (aD 12 _ Z1 (aD 11 _ Z1 (aD 4 _ Z1 (aD 1 _ Z1 (aD 0 _ (bO Z1 Z6) bF))))) Zc
def kW(bQ:(aC→aC→Option (Int)))(rec3:List aC→Int→Int→Int→Option (Int×Bool×List aC))(rec5:List aC→Int→Int→Int→Option (Int×Bool×List aC))(aB:List aC)(a_1:Int)(kE:Int)(jK:Int):Option (Int×Bool×List aC):=
 ((dX ((decide (kE≤jK))==true) (aC.mk 0 0) (idx aB jK)).bind fun x56=>
 ((dX ((decide (kE≤jK))==true) (aC.mk 0 0) (idx aB a_1)).bind fun x58=>
 ((dX ((decide (kE≤jK))==true) 0 (bQ x56 x58)).bind fun r60=>
 (bif ((decide (kE≤jK))&&(!(decide (r60<0)))) then
  rec5 aB a_1 kE (IntKind.i64.wrap (jK-1))
 else
  (bif (decide (jK<kE)) then
   ((idx aB a_1).bind fun x62=>
   ((idx aB jK).bind fun x64=>
   ((idx aB jK).bind fun x66=>
   ((stt aB jK x62).bind fun l68=>
   ((idx l68 a_1).bind fun x70=>
   ((stt l68 a_1 x64).bind fun l72=>
   some (jK,false,l72)))))))
  else
   ((idx aB jK).bind fun x74=>
   ((idx aB kE).bind fun x76=>
   ((idx aB kE).bind fun x78=>
   ((stt aB kE x74).bind fun l80=>
   ((idx l80 jK).bind fun x82=>
   ((stt l80 jK x76).bind fun l84=>
   rec3 l84 a_1 (IntKind.i64.wrap (kE+1)) (IntKind.i64.wrap (jK-1)))))))))))))
def iG(bQ:(aC→aC→Option (Int)))(rec3:List aC→Int→Int→Int→Option (Int×Bool×List aC)):Nat→List aC→Int→Int→Int→Option (Int×Bool×List aC)
 |0=>fun _ _ _ _=>none
 |n+1=>kW bQ rec3 (iG bQ rec3 n)
def kV(bQ:(aC→aC→Option (Int)))(rec3:List aC→Int→Int→Int→Option (Int×Bool×List aC))(rec4:List aC→Int→Int→Int→Option (Int×Bool×List aC))(aB:List aC)(a_1:Int)(kE:Int)(jK:Int):Option (Int×Bool×List aC):=
 ((dX ((decide (kE≤jK))==true) (aC.mk 0 0) (idx aB kE)).bind fun x50=>
 ((dX ((decide (kE≤jK))==true) (aC.mk 0 0) (idx aB a_1)).bind fun x52=>
 ((dX ((decide (kE≤jK))==true) 0 (bQ x50 x52)).bind fun r54=>
 (bif ((decide (kE≤jK))&&(decide (r54<0))) then
  rec4 aB a_1 (IntKind.i64.wrap (kE+1)) jK
 else
  iG bQ rec3 aZ aB a_1 kE jK))))
def iF(bQ:(aC→aC→Option (Int)))(rec3:List aC→Int→Int→Int→Option (Int×Bool×List aC)):Nat→List aC→Int→Int→Int→Option (Int×Bool×List aC)
 |0=>fun _ _ _ _=>none
 |n+1=>kV bQ rec3 (iF bQ rec3 n)
def kU(bQ:(aC→aC→Option (Int)))(rec3:List aC→Int→Int→Int→Option (Int×Bool×List aC))(aB:List aC)(a_1:Int)(kE:Int)(jK:Int):Option (Int×Bool×List aC):=
 iF bQ rec3 aZ aB a_1 kE jK
def cR(bQ:(aC→aC→Option (Int))):Nat→List aC→Int→Int→Int→Option (Int×Bool×List aC)
 |0=>fun _ _ _ _=>none
 |n+1=>kU bQ (cR bQ n)
def kT(bQ:(aC→aC→Option (Int)))(rec2:List aC→Int→Int→Int→Option (Int×Bool×List aC))(aB:List aC)(a_1:Int)(kE:Int)(jK:Int):Option (Int×Bool×List aC):=
 ((dX ((decide (kE≤jK))==true) (aC.mk 0 0) (idx aB jK)).bind fun x20=>
 ((dX ((decide (kE≤jK))==true) (aC.mk 0 0) (idx aB a_1)).bind fun x22=>
 ((dX ((decide (kE≤jK))==true) 0 (bQ x20 x22)).bind fun r24=>
 (bif ((decide (kE≤jK))&&(!(decide (r24<0)))) then
  rec2 aB a_1 kE (IntKind.i64.wrap (jK-1))
 else
  (bif (decide (jK<kE)) then
   ((idx aB a_1).bind fun x26=>
   ((idx aB jK).bind fun x28=>
   ((idx aB jK).bind fun x30=>
   ((stt aB jK x26).bind fun l32=>
   ((idx l32 a_1).bind fun x34=>
   ((stt l32 a_1 x28).bind fun l36=>
   some (jK,true,l36)))))))
  else
   ((idx aB jK).bind fun x38=>
   ((idx aB kE).bind fun x40=>
   ((idx aB kE).bind fun x42=>
   ((stt aB kE x38).bind fun l44=>
   ((idx l44 jK).bind fun x46=>
   ((stt l44 jK x40).bind fun l48=>
   cR bQ aZ l48 a_1 (IntKind.i64.wrap (kE+1)) (IntKind.i64.wrap (jK-1)))))))))))))
def iE(bQ:(aC→aC→Option (Int))):Nat→List aC→Int→Int→Int→Option (Int×Bool×List aC)
 |0=>fun _ _ _ _=>none
 |n+1=>kT bQ (iE bQ n)
def kS(bQ:(aC→aC→Option (Int)))(rec1:List aC→Int→Int→Int→Option (Int×Bool×List aC))(aB:List aC)(a_1:Int)(kE:Int)(jK:Int):Option (Int×Bool×List aC):=
 ((dX ((decide (kE≤jK))==true) (aC.mk 0 0) (idx aB kE)).bind fun x14=>
 ((dX ((decide (kE≤jK))==true) (aC.mk 0 0) (idx aB a_1)).bind fun x16=>
 ((dX ((decide (kE≤jK))==true) 0 (bQ x14 x16)).bind fun r18=>
 (bif ((decide (kE≤jK))&&(decide (r18<0))) then
  rec1 aB a_1 (IntKind.i64.wrap (kE+1)) jK
 else
  iE bQ aZ aB a_1 kE jK))))
def iD(bQ:(aC→aC→Option (Int))):Nat→List aC→Int→Int→Int→Option (Int×Bool×List aC)
 |0=>fun _ _ _ _=>none
 |n+1=>kS bQ (iD bQ n)
def lQ(aB:List aC)(a_1:Int)(b_2:Int)(nA:Int)(bQ:(aC→aC→Option (Int))):Option (Int×Bool×List aC):=
 ((idx aB nA).bind fun x2=>
 ((idx aB a_1).bind fun x4=>
 ((idx aB a_1).bind fun x6=>
 ((stt aB a_1 x2).bind fun l8=>
 ((idx l8 nA).bind fun x10=>
 ((stt l8 nA x4).bind fun l12=>
 iD bQ aZ l12 a_1 (IntKind.i64.wrap (a_1+1)) (IntKind.i64.wrap (b_2-1))))))))
theorem aCj{aB:List aC}{a_1:Int}{b_2:Int}{nA:Int}{bQ:(aC→aC→Option (Int))}{r:Int×Bool×List aC}(hm:lQ aB a_1 b_2 nA bQ=some r){jJ:FuncId}{eQ:List AV}(gG: ∀a,a∈eQ→AM.Data a)(lH:(Program.funcs prog)[jJ]?.any (fun fn=>fn.body.isSome&&fn.name != "runtime.NumGoroutine")=true)(lJ: ∀ {x0 x1 r},bQ x0 x1=some r→dT prog jJ ([.agg [.v (.int .u64 x0.x0),.v (.int .u64 x0.x1)],.agg [.v (.int .u64 x1.x0),.v (.int .u64 x1.x1)]]++eQ) (.v (.int .i64 r))){H:aM}{i0:Nat}(he:H.ent i0= .cells 2 (aB.flatMap bT) 0):dR prog 163 [.own i0 0 aB.length,.v (.int .i64 a_1),.v (.int .i64 b_2),.v (.int .i64 nA),.clo (.func jJ) [] eQ] H (.tup [.v (.int .i64 r.1),.v (.bool r.2.1)]) (H.put i0 (.cells 2 (r.2.2.flatMap bT) 0)):=by
 refine dR.of_bodyM func163 rfl he ?_;generalize H.ent=h0;simp only [ntmps163,List.length_cons,List.length_nil,Nat.reduceAdd,Nat.reduceSub];unfold lQ at hm;refine sN 64 ?_
 iterate 2 refine pA ?_
 refine fs (sd mix (by kernel_rfl) (N':=128) rfl ?_)
 iterate 6 refine pA ?_
 obtain ⟨x2,h1,hm⟩:=bnd hm;refine pu rfl (aN underlying40 fS Z1 Za Z6 Z1 h1) ?_;refine pu rfl (bM aJ Z1 Za h1 Zb) ?_
 iterate 2 refine pA ?_
 obtain ⟨x4,h3,hm⟩:=bnd hm;refine pu rfl (aN underlying40 fS Z1 Za Z6 Z1 h3) ?_;refine pu rfl (bM aJ Z1 Za h3 Zb) ?_;obtain ⟨x6,h5,hm⟩:=bnd hm;refine pu rfl (aN underlying40 fS Z1 Za Z6 Z1 h5) ?_;obtain ⟨l8,h7,hm⟩:=bnd hm;have qh7:=cY h7;refine aI.heap0 (id:=77) rfl (eR aJ fS Z1 Z1 Za rfl h7) ?_;obtain ⟨x10,h9,hm⟩:=bnd hm;refine pu rfl (aN underlying40 fS Z1 Za Z6 Z1 h9) ?_;obtain ⟨l12,h11,hm⟩:=bnd hm;have qh11:=cY h11;refine aI.heap0 (id:=79) rfl (eR aJ fS Z1 Z1 Za rfl h11) ?_;refine fs (sN 192 ?_)
 iterate 6 refine pA ?_
 refine fs (AWp.seq' (AWp.block (AWp.loopM (fun m s=> ∃(aB:List aC) (a_1:Int) (kE:Int) (jK:Int),s=(⟨178,(aG (aG (aG (aG (aG (fun _=>AV.any) 0 (.own i0 0 aB.length)) 1 (.v (.int .i64 a_1))) 4 (.clo (.func jJ) [] eQ)) 12 (.v (.int .i64 kE))) 13 (.v (.int .i64 jK))),⟨(upd h0 i0 (.cells 2 (aB.flatMap bT) 0)),64⟩⟩:St)∧iD bQ m aB a_1 kE jK=some r) aZ ?_ ?_ ?_)))
 · rintro s ⟨_,_,_,_,_,h⟩;cases h
 · refine ⟨_,?_,l12,a_1,(IntKind.i64.wrap (a_1+1)),(IntKind.i64.wrap (b_2-1)),rfl,hm⟩;exact bN (aD 13 _ Z1 (aD 12 _ Z1 (aD 4 _ Z1 (aD 1 _ Z1 (aD 0 _ (bO Z1 Z6) bF))))) Zc
 ·
  rintro n1 s ⟨aB,a_1,kE,jK,rfl,hm⟩;replace hm:kS bQ (iD bQ n1) aB a_1 kE jK=some r:=hm;unfold kS at hm;refine AWp.seq' (sd mix (by kernel_rfl) (N':=128) rfl ?_)
  iterate 7 first|refine pA ?_|refine pB ?_
  obtain ⟨x14,h13,hm⟩:=bnd hm;refine pg rfl rfl Z2 (fun hb=>(aN underlying40 fS (Zh hb) Za Z6 (Zh hb) (bI h13 hb))) ?_;refine pg rfl rfl Z2 (fun hb=>(bM aJ (Zh hb) Za (bI h13 hb) Zb)) ?_
  iterate 2 refine pB ?_
  obtain ⟨x16,h15,hm⟩:=bnd hm;refine pg rfl rfl Z2 (fun hb=>(aN underlying40 fS (Zh hb) Za Z6 (Zh hb) (bI h15 hb))) ?_;refine pg rfl rfl Z2 (fun hb=>(bM aJ (Zh hb) Za (bI h15 hb) Zb)) ?_;obtain ⟨r18,h17,hm⟩:=bnd hm;refine aI.callQCG (r:= .v (.int .i64 r18)) Zd rfl Z2 (fun hb=>(Zh hb)) gG lH (fun hb H=>(.cons (td (Zh hb) (.agg _ (aJ.dat _))) (.cons (td (Zh hb) (.agg _ (aJ.dat _))) .nil))) (fun hb=>lJ (bI h17 hb)) ?_
  iterate 2 first|refine pA ?_|refine pB ?_
  refine fs (AWp.condM hm Z1 (fun _ hm=>?_) (fun _ hm=>?_))
  ·
   refine AWp.skip (aV (AWp.block (AWp.reg 64 (N':=192) rfl ?_)))
   iterate 3 refine pA ?_
   refine aI.fin (eT (cO ?_));refine ⟨_,?_,aB,a_1,(IntKind.i64.wrap (kE+1)),jK,rfl,hm⟩;exact bN (aD 13 _ Z1 (aD 12 _ Z1 (aD 4 _ Z1 (aD 1 _ Z1 (aD 0 _ (bO Z1 Z6) bF))))) Zc
  ·
   refine AWp.exit (dJ (dA (cW (aV (AWp.seq' (AWp.block (AWp.loopM (fun m s=> ∃(aB:List aC) (a_1:Int) (kE:Int) (jK:Int),s=(⟨178,(aG (aG (aG (aG (aG (fun _=>AV.any) 0 (.own i0 0 aB.length)) 1 (.v (.int .i64 a_1))) 4 (.clo (.func jJ) [] eQ)) 12 (.v (.int .i64 kE))) 13 (.v (.int .i64 jK))),⟨(upd h0 i0 (.cells 2 (aB.flatMap bT) 0)),64⟩⟩:St)∧iE bQ m aB a_1 kE jK=some r) aZ ?_ ?_ ?_)))))))
   · rintro s ⟨_,_,_,_,_,h⟩;cases h
   · refine ⟨_,?_,aB,a_1,kE,jK,rfl,hm⟩;exact bN (aD 13 _ Z1 (aD 12 _ Z1 (aD 4 _ Z1 (aD 1 _ Z1 (aD 0 _ (bO Z1 Z6) bF))))) Zc
   ·
    rintro n2 s ⟨aB,a_1,kE,jK,rfl,hm⟩;replace hm:kT bQ (iE bQ n2) aB a_1 kE jK=some r:=hm;unfold kT at hm;refine AWp.seq' (sd mix (by kernel_rfl) (N':=128) rfl ?_)
    iterate 7 first|refine pA ?_|refine pB ?_
    obtain ⟨x20,h19,hm⟩:=bnd hm;refine pg rfl rfl Z2 (fun hb=>(aN underlying40 fS (Zh hb) Za Z6 (Zh hb) (bI h19 hb))) ?_;refine pg rfl rfl Z2 (fun hb=>(bM aJ (Zh hb) Za (bI h19 hb) Zb)) ?_
    iterate 2 refine pB ?_
    obtain ⟨x22,h21,hm⟩:=bnd hm;refine pg rfl rfl Z2 (fun hb=>(aN underlying40 fS (Zh hb) Za Z6 (Zh hb) (bI h21 hb))) ?_;refine pg rfl rfl Z2 (fun hb=>(bM aJ (Zh hb) Za (bI h21 hb) Zb)) ?_;obtain ⟨r24,h23,hm⟩:=bnd hm;refine aI.callQCG (r:= .v (.int .i64 r24)) Zd rfl Z2 (fun hb=>(Zh hb)) gG lH (fun hb H=>(.cons (td (Zh hb) (.agg _ (aJ.dat _))) (.cons (td (Zh hb) (.agg _ (aJ.dat _))) .nil))) (fun hb=>lJ (bI h23 hb)) ?_
    iterate 3 first|refine pA ?_|refine pB ?_
    refine fs (AWp.condM hm Z1 (fun _ hm=>?_) (fun _ hm=>?_))
    ·
     refine AWp.skip (aV (AWp.block (AWp.reg 64 (N':=192) rfl ?_)))
     iterate 3 refine pA ?_
     refine aI.fin (eT (cO ?_));refine ⟨_,?_,aB,a_1,kE,(IntKind.i64.wrap (jK-1)),rfl,hm⟩;exact bN (aD 13 _ Z1 (aD 12 _ Z1 (aD 4 _ Z1 (aD 1 _ Z1 (aD 0 _ (bO Z1 Z6) bF))))) Zc
    ·
     refine AWp.exit (dJ (dA (cW (aV (AWp.seq' (sN 192 ?_))))))
     iterate 3 refine pA ?_
     refine fs (AWp.condM hm Z1 (fun _ hm=>?_) (fun _ hm=>?_))
     ·
      refine sd mix (by kernel_rfl) (N':=256) rfl ?_
      iterate 6 refine pA ?_
      obtain ⟨x26,h25,hm⟩:=bnd hm;refine pu rfl (aN underlying40 fS Z1 Za Z6 Z1 h25) ?_;refine pu rfl (bM aJ Z1 Za h25 Zb) ?_
      iterate 2 refine pA ?_
      obtain ⟨x28,h27,hm⟩:=bnd hm;refine pu rfl (aN underlying40 fS Z1 Za Z6 Z1 h27) ?_;refine pu rfl (bM aJ Z1 Za h27 Zb) ?_;obtain ⟨x30,h29,hm⟩:=bnd hm;refine pu rfl (aN underlying40 fS Z1 Za Z6 Z1 h29) ?_;obtain ⟨l32,h31,hm⟩:=bnd hm;have qh31:=cY h31;refine aI.heap0 (id:=205) rfl (eR aJ fS Z1 Z1 Za rfl h31) ?_;obtain ⟨x34,h33,hm⟩:=bnd hm;refine pu rfl (aN underlying40 fS Z1 Za Z6 Z1 h33) ?_;obtain ⟨l36,h35,hm⟩:=bnd hm;have qh35:=cY h35;refine aI.heap0 (id:=207) rfl (eR aJ fS Z1 Z1 Za rfl h35) ?_;refine fs (sN 320 ?_)
      iterate 3 refine pA ?_
      refine fs (AWp.ret (lD ?_));cases hm;exact aR2 (.inr rfl) Tryz.results163 Z1 Z1 Zc
     ·
      refine AWp.skip (aV (sd mix (by kernel_rfl) (N':=256) rfl ?_))
      iterate 6 refine pA ?_
      obtain ⟨x38,h37,hm⟩:=bnd hm;refine pu rfl (aN underlying40 fS Z1 Za Z6 Z1 h37) ?_;refine pu rfl (bM aJ Z1 Za h37 Zb) ?_
      iterate 2 refine pA ?_
      obtain ⟨x40,h39,hm⟩:=bnd hm;refine pu rfl (aN underlying40 fS Z1 Za Z6 Z1 h39) ?_;refine pu rfl (bM aJ Z1 Za h39 Zb) ?_;obtain ⟨x42,h41,hm⟩:=bnd hm;refine pu rfl (aN underlying40 fS Z1 Za Z6 Z1 h41) ?_;obtain ⟨l44,h43,hm⟩:=bnd hm;have qh43:=cY h43;refine aI.heap0 (id:=205) rfl (eR aJ fS Z1 Z1 Za rfl h43) ?_;obtain ⟨x46,h45,hm⟩:=bnd hm;refine pu rfl (aN underlying40 fS Z1 Za Z6 Z1 h45) ?_;obtain ⟨l48,h47,hm⟩:=bnd hm;have qh47:=cY h47;refine aI.heap0 (id:=207) rfl (eR aJ fS Z1 Z1 Za rfl h47) ?_;refine fs (sN 320 ?_)
      iterate 3 refine pA ?_
      refine fs (sN 384 ?_)
      iterate 3 refine pA ?_
      refine fs (AWp.seq' (AWp.block (AWp.loopM (fun m s=> ∃(aB:List aC) (a_1:Int) (kE:Int) (jK:Int),s=(⟨178,(aG (aG (aG (aG (aG (fun _=>AV.any) 0 (.own i0 0 aB.length)) 1 (.v (.int .i64 a_1))) 4 (.clo (.func jJ) [] eQ)) 12 (.v (.int .i64 kE))) 13 (.v (.int .i64 jK))),⟨(upd h0 i0 (.cells 2 (aB.flatMap bT) 0)),64⟩⟩:St)∧cR bQ m aB a_1 kE jK=some r) aZ ?_ ?_ ?_)))
      · rintro s ⟨_,_,_,_,_,h⟩;cases h
      · refine ⟨_,?_,l48,a_1,(IntKind.i64.wrap (kE+1)),(IntKind.i64.wrap (jK-1)),rfl,hm⟩;exact bN (aD 13 _ Z1 (aD 12 _ Z1 (aD 4 _ Z1 (aD 1 _ Z1 (aD 0 _ (bO Z1 Z6) bF))))) Zc
      ·
       rintro n3 s ⟨aB,a_1,kE,jK,rfl,hm⟩;replace hm:kU bQ (cR bQ n3) aB a_1 kE jK=some r:=hm;unfold kU at hm;refine AWp.block (AWp.seq' (AWp.block (AWp.loopM (fun m s=> ∃(aB:List aC) (a_1:Int) (kE:Int) (jK:Int),s=(⟨178,(aG (aG (aG (aG (aG (fun _=>AV.any) 0 (.own i0 0 aB.length)) 1 (.v (.int .i64 a_1))) 4 (.clo (.func jJ) [] eQ)) 12 (.v (.int .i64 kE))) 13 (.v (.int .i64 jK))),⟨(upd h0 i0 (.cells 2 (aB.flatMap bT) 0)),64⟩⟩:St)∧iF bQ (cR bQ n3) m aB a_1 kE jK=some r) aZ ?_ ?_ ?_)))
       · rintro s ⟨_,_,_,_,_,h⟩;cases h
       · refine ⟨_,?_,aB,a_1,kE,jK,rfl,hm⟩;exact bN (aD 13 _ Z1 (aD 12 _ Z1 (aD 4 _ Z1 (aD 1 _ Z1 (aD 0 _ (bO Z1 Z6) bF))))) Zc
       ·
        rintro n4 s ⟨aB,a_1,kE,jK,rfl,hm⟩;replace hm:kV bQ (cR bQ n3) (iF bQ (cR bQ n3) n4) aB a_1 kE jK=some r:=hm;unfold kV at hm;refine AWp.seq' (sd mix (by kernel_rfl) (N':=128) rfl ?_)
        iterate 7 first|refine pA ?_|refine pB ?_
        obtain ⟨x50,h49,hm⟩:=bnd hm;refine pg rfl rfl Z2 (fun hb=>(aN underlying40 fS (Zh hb) Za Z6 (Zh hb) (bI h49 hb))) ?_;refine pg rfl rfl Z2 (fun hb=>(bM aJ (Zh hb) Za (bI h49 hb) Zb)) ?_
        iterate 2 refine pB ?_
        obtain ⟨x52,h51,hm⟩:=bnd hm;refine pg rfl rfl Z2 (fun hb=>(aN underlying40 fS (Zh hb) Za Z6 (Zh hb) (bI h51 hb))) ?_;refine pg rfl rfl Z2 (fun hb=>(bM aJ (Zh hb) Za (bI h51 hb) Zb)) ?_;obtain ⟨r54,h53,hm⟩:=bnd hm;refine aI.callQCG (r:= .v (.int .i64 r54)) Zd rfl Z2 (fun hb=>(Zh hb)) gG lH (fun hb H=>(.cons (td (Zh hb) (.agg _ (aJ.dat _))) (.cons (td (Zh hb) (.agg _ (aJ.dat _))) .nil))) (fun hb=>lJ (bI h53 hb)) ?_
        iterate 2 first|refine pA ?_|refine pB ?_
        refine fs (AWp.condM hm Z1 (fun _ hm=>?_) (fun _ hm=>?_))
        ·
         refine AWp.skip (aV (AWp.block (AWp.reg 64 (N':=192) rfl ?_)))
         iterate 3 refine pA ?_
         refine aI.fin (eT (cO ?_));refine ⟨_,?_,aB,a_1,(IntKind.i64.wrap (kE+1)),jK,rfl,hm⟩;exact bN (aD 13 _ Z1 (aD 12 _ Z1 (aD 4 _ Z1 (aD 1 _ Z1 (aD 0 _ (bO Z1 Z6) bF))))) Zc
        ·
         refine AWp.exit (dJ (dA (cW (aV (AWp.seq' (AWp.block (AWp.loopM (fun m s=> ∃(aB:List aC) (a_1:Int) (kE:Int) (jK:Int),s=(⟨178,(aG (aG (aG (aG (aG (fun _=>AV.any) 0 (.own i0 0 aB.length)) 1 (.v (.int .i64 a_1))) 4 (.clo (.func jJ) [] eQ)) 12 (.v (.int .i64 kE))) 13 (.v (.int .i64 jK))),⟨(upd h0 i0 (.cells 2 (aB.flatMap bT) 0)),64⟩⟩:St)∧iG bQ (cR bQ n3) m aB a_1 kE jK=some r) aZ ?_ ?_ ?_)))))))
         · rintro s ⟨_,_,_,_,_,h⟩;cases h
         · refine ⟨_,?_,aB,a_1,kE,jK,rfl,hm⟩;exact bN (aD 13 _ Z1 (aD 12 _ Z1 (aD 4 _ Z1 (aD 1 _ Z1 (aD 0 _ (bO Z1 Z6) bF))))) Zc
         ·
          rintro n5 s ⟨aB,a_1,kE,jK,rfl,hm⟩;replace hm:kW bQ (cR bQ n3) (iG bQ (cR bQ n3) n5) aB a_1 kE jK=some r:=hm;unfold kW at hm;refine AWp.seq' (sd mix (by kernel_rfl) (N':=128) rfl ?_)
          iterate 7 first|refine pA ?_|refine pB ?_
          obtain ⟨x56,h55,hm⟩:=bnd hm;refine pg rfl rfl Z2 (fun hb=>(aN underlying40 fS (Zh hb) Za Z6 (Zh hb) (bI h55 hb))) ?_;refine pg rfl rfl Z2 (fun hb=>(bM aJ (Zh hb) Za (bI h55 hb) Zb)) ?_
          iterate 2 refine pB ?_
          obtain ⟨x58,h57,hm⟩:=bnd hm;refine pg rfl rfl Z2 (fun hb=>(aN underlying40 fS (Zh hb) Za Z6 (Zh hb) (bI h57 hb))) ?_;refine pg rfl rfl Z2 (fun hb=>(bM aJ (Zh hb) Za (bI h57 hb) Zb)) ?_;obtain ⟨r60,h59,hm⟩:=bnd hm;refine aI.callQCG (r:= .v (.int .i64 r60)) Zd rfl Z2 (fun hb=>(Zh hb)) gG lH (fun hb H=>(.cons (td (Zh hb) (.agg _ (aJ.dat _))) (.cons (td (Zh hb) (.agg _ (aJ.dat _))) .nil))) (fun hb=>lJ (bI h59 hb)) ?_
          iterate 3 first|refine pA ?_|refine pB ?_
          refine fs (AWp.condM hm Z1 (fun _ hm=>?_) (fun _ hm=>?_))
          ·
           refine AWp.skip (aV (AWp.block (AWp.reg 64 (N':=192) rfl ?_)))
           iterate 3 refine pA ?_
           refine aI.fin (eT (cO ?_));refine ⟨_,?_,aB,a_1,kE,(IntKind.i64.wrap (jK-1)),rfl,hm⟩;exact bN (aD 13 _ Z1 (aD 12 _ Z1 (aD 4 _ Z1 (aD 1 _ Z1 (aD 0 _ (bO Z1 Z6) bF))))) Zc
          ·
           refine AWp.exit (dJ (dA (cW (aV (AWp.seq' (sN 192 ?_))))))
           iterate 3 refine pA ?_
           refine fs (AWp.condM hm Z1 (fun _ hm=>?_) (fun _ hm=>?_))
           ·
            refine AWp.exit (dJ (rQ Zd ?_));refine dA (cW (aV (sd mix (by kernel_rfl) (N':=256) rfl ?_)))
            iterate 6 refine pA ?_
            obtain ⟨x62,h61,hm⟩:=bnd hm;refine pu rfl (aN underlying40 fS Z1 Za Z6 Z1 h61) ?_;refine pu rfl (bM aJ Z1 Za h61 Zb) ?_
            iterate 2 refine pA ?_
            obtain ⟨x64,h63,hm⟩:=bnd hm;refine pu rfl (aN underlying40 fS Z1 Za Z6 Z1 h63) ?_;refine pu rfl (bM aJ Z1 Za h63 Zb) ?_;obtain ⟨x66,h65,hm⟩:=bnd hm;refine pu rfl (aN underlying40 fS Z1 Za Z6 Z1 h65) ?_;obtain ⟨l68,h67,hm⟩:=bnd hm;have qh67:=cY h67;refine aI.heap0 (id:=205) rfl (eR aJ fS Z1 Z1 Za rfl h67) ?_;obtain ⟨x70,h69,hm⟩:=bnd hm;refine pu rfl (aN underlying40 fS Z1 Za Z6 Z1 h69) ?_;obtain ⟨l72,h71,hm⟩:=bnd hm;have qh71:=cY h71;refine aI.heap0 (id:=207) rfl (eR aJ fS Z1 Z1 Za rfl h71) ?_;refine fs (sN 320 ?_)
            iterate 3 refine pA ?_
            refine fs (AWp.ret ?_);cases hm;exact aR2 (.inr rfl) Tryz.results163 Z1 Z1 Zc
           ·
            refine AWp.skip (aV (sd mix (by kernel_rfl) (N':=256) rfl ?_))
            iterate 6 refine pA ?_
            obtain ⟨x74,h73,hm⟩:=bnd hm;refine pu rfl (aN underlying40 fS Z1 Za Z6 Z1 h73) ?_;refine pu rfl (bM aJ Z1 Za h73 Zb) ?_
            iterate 2 refine pA ?_
            obtain ⟨x76,h75,hm⟩:=bnd hm;refine pu rfl (aN underlying40 fS Z1 Za Z6 Z1 h75) ?_;refine pu rfl (bM aJ Z1 Za h75 Zb) ?_;obtain ⟨x78,h77,hm⟩:=bnd hm;refine pu rfl (aN underlying40 fS Z1 Za Z6 Z1 h77) ?_;obtain ⟨l80,h79,hm⟩:=bnd hm;have qh79:=cY h79;refine aI.heap0 (id:=205) rfl (eR aJ fS Z1 Z1 Za rfl h79) ?_;obtain ⟨x82,h81,hm⟩:=bnd hm;refine pu rfl (aN underlying40 fS Z1 Za Z6 Z1 h81) ?_;obtain ⟨l84,h83,hm⟩:=bnd hm;have qh83:=cY h83;refine aI.heap0 (id:=207) rfl (eR aJ fS Z1 Z1 Za rfl h83) ?_;refine fs (sN 320 ?_)
            iterate 3 refine pA ?_
            refine fs (AWp.reg 64 (N':=384) rfl ?_)
            iterate 3 refine pA ?_
            refine aI.fin (eT (cO ?_));refine ⟨_,?_,l84,a_1,(IntKind.i64.wrap (kE+1)),(IntKind.i64.wrap (jK-1)),rfl,hm⟩;exact bN (aD 13 _ Z1 (aD 12 _ Z1 (aD 4 _ Z1 (aD 1 _ Z1 (aD 0 _ (bO Z1 Z6) bF))))) Zc
abbrev jX(bQ:(aC→aC→Option (Int)))(recf:(List aC)→Int→Int→Int→((aC→aC→Option (Int)))→Option (List aC))(rec1:List aC→Int→Int→Int→Bool→Bool→Option (List aC))(aB:List aC)(a_1:Int)(b_2:Int)(bG:Int)(bW:Bool)(bJ:Bool)(jU:Int)(qP:Int):Option (List aC):=
 ((dX ((decide (0<a_1))==true) (aC.mk 0 0) (idx aB (IntKind.i64.wrap (a_1-1)))).bind fun x9=>
 ((dX ((decide (0<a_1))==true) (aC.mk 0 0) (idx aB qP)).bind fun x11=>
 ((dX ((decide (0<a_1))==true) 0 (bQ x9 x11)).bind fun r13=>
 (bif ((decide (0<a_1))&&(!(decide (r13<0)))) then
  ((tM (fun x=>x.2.length) aB.length (iX aB a_1 b_2 qP bQ)).bind fun ⟨r16,l15⟩=>
  rec1 l15 r16 b_2 bG bW bJ)
 else
  ((tM (fun x=>x.2.2.length) aB.length (lQ aB a_1 b_2 qP bQ)).bind fun ⟨r19,r20,l18⟩=>
  (bif (decide ((IntKind.i64.wrap (r19-a_1))<(IntKind.i64.wrap (b_2-r19)))) then
   ((tM (fun x=>x.length) l18.length (recf l18 a_1 r19 bG bQ)).bind fun l22=>
   rec1 l22 (IntKind.i64.wrap (r19+1)) b_2 bG (decide ((IntKind.i64.wrap (Int.tdiv jU 8))≤(IntKind.i64.wrap (r19-a_1)))) r20)
  else
   ((tM (fun x=>x.length) l18.length (recf l18 (IntKind.i64.wrap (r19+1)) b_2 bG bQ)).bind fun l24=>
   rec1 l24 a_1 r19 bG (decide ((IntKind.i64.wrap (Int.tdiv jU 8))≤(IntKind.i64.wrap (b_2-r19)))) r20)))))))
abbrev jW(bQ:(aC→aC→Option (Int)))(recf:(List aC)→Int→Int→Int→((aC→aC→Option (Int)))→Option (List aC))(rec1:List aC→Int→Int→Int→Bool→Bool→Option (List aC))(aB:List aC)(a_1:Int)(b_2:Int)(bG:Int)(bW:Bool)(bJ:Bool)(jU:Int)(qP:Int)(aNt:Int):Option (List aC):=
 (bif ((bW&&bJ)&&(aNt==1)) then
  ((tM (fun x=>x.2.length) aB.length (gD aB a_1 b_2 bQ)).bind fun ⟨r27,l26⟩=>
  (bif r27 then
   some l26
  else
   jX bQ recf rec1 l26 a_1 b_2 bG bW bJ jU qP))
 else
  jX bQ recf rec1 aB a_1 b_2 bG bW bJ jU qP)
abbrev jV(bQ:(aC→aC→Option (Int)))(recf:(List aC)→Int→Int→Int→((aC→aC→Option (Int)))→Option (List aC))(rec1:List aC→Int→Int→Int→Bool→Bool→Option (List aC))(aB:List aC)(a_1:Int)(b_2:Int)(bG:Int)(bW:Bool)(bJ:Bool)(jU:Int):Option (List aC):=
 ((mO aB a_1 b_2 bQ).bind fun ⟨r6,r7⟩=>
 (bif (r7==2) then
  ((tM (fun x=>x.length) aB.length (kJ aB a_1 b_2 bQ)).bind fun l29=>
  jW bQ recf rec1 l29 a_1 b_2 bG bW bJ jU (IntKind.i64.wrap ((IntKind.i64.wrap (b_2-1))-(IntKind.i64.wrap (r6-a_1)))) 1)
 else
  jW bQ recf rec1 aB a_1 b_2 bG bW bJ jU r6 r7))
def mC(bQ:(aC→aC→Option (Int)))(recf:(List aC)→Int→Int→Int→((aC→aC→Option (Int)))→Option (List aC))(rec1:List aC→Int→Int→Int→Bool→Bool→Option (List aC))(aB:List aC)(a_1:Int)(b_2:Int)(bG:Int)(bW:Bool)(bJ:Bool):Option (List aC):=
 (bif (decide ((IntKind.i64.wrap (b_2-a_1))≤12)) then
  ((tM (fun x=>x.length) aB.length (jO aB a_1 b_2 bQ)).bind fun l2=>
  some l2)
 else
  (bif (bG==0) then
   ((tM (fun x=>x.length) aB.length (mA aB a_1 b_2 bQ)).bind fun l4=>
   some l4)
  else
   (bif (!bW) then
    ((tM (fun x=>x.length) aB.length (jM aB a_1 b_2 bQ)).bind fun l31=>
    jV bQ recf rec1 l31 a_1 b_2 (IntKind.i64.wrap (bG-1)) bW bJ (IntKind.i64.wrap (b_2-a_1)))
   else
    jV bQ recf rec1 aB a_1 b_2 bG bW bJ (IntKind.i64.wrap (b_2-a_1)))))
def cP(bQ:(aC→aC→Option (Int)))(recf:(List aC)→Int→Int→Int→((aC→aC→Option (Int)))→Option (List aC)):Nat→List aC→Int→Int→Int→Bool→Bool→Option (List aC)
 |0=>fun _ _ _ _ _ _=>none
 |n+1=>mC bQ recf (cP bQ recf n)
def qL(recf:(List aC)→Int→Int→Int→((aC→aC→Option (Int)))→Option (List aC))(aB:List aC)(a_1:Int)(b_2:Int)(bG:Int)(bQ:(aC→aC→Option (Int))):Option (List aC):=
 cP bQ recf aZ aB a_1 b_2 bG true true
def cC:Nat→(List aC)→Int→Int→Int→(aC→aC→Option (Int))→Option (List aC)
 |0=>fun _ _ _ _ _=>none
 |n+1=>qL (cC n)
def uW(aB:List aC)(a_1:Int)(b_2:Int)(bG:Int)(bQ:(aC→aC→Option (Int))):Option (List aC):=cC aZ aB a_1 b_2 bG bQ
theorem aDg: ∀(nn:Nat) {aB:List aC} {a_1:Int} {b_2:Int} {bG:Int} {bQ:(aC→aC→Option (Int))} {r:List aC} (hm:cC nn aB a_1 b_2 bG bQ=some r) {jJ:FuncId} {eQ:List AV} (gG: ∀a,a∈eQ→AM.Data a) (lH:(Program.funcs prog)[jJ]?.any (fun fn=>fn.body.isSome&&fn.name != "runtime.NumGoroutine")=true) (lJ: ∀ {x0 x1 r},bQ x0 x1=some r→dT prog jJ ([.agg [.v (.int .u64 x0.x0),.v (.int .u64 x0.x1)],.agg [.v (.int .u64 x1.x0),.v (.int .u64 x1.x1)]]++eQ) (.v (.int .i64 r))) {H:aM} {i0:Nat} (he:H.ent i0= .cells 2 (aB.flatMap bT) 0) (hk: ∀id,3000000≤id→H.ent id= .fresh) (hD: ∀id,aDl (H.ent id)) (hi:i0<3000000),dR prog 136 [.own i0 0 aB.length,.v (.int .i64 a_1),.v (.int .i64 b_2),.v (.int .i64 bG),.clo (.func jJ) [] eQ] H (.tup []) (H.put i0 (.cells 2 (r.flatMap bT) 0)):=by
 intro nn
 induction nn with
 |zero=>
  intro aB a_1 b_2 bG bQ r hm;replace hm:none=some r:=hm;cases hm
 |succ nn ih=>
  intro aB a_1 b_2 bG bQ r hm jJ eQ gG lH lJ H i0 he hk hD hi;replace hm:qL (cC nn) aB a_1 b_2 bG bQ=some r:=hm;refine dR.of_bodyK func136 rfl he hk ?_;clear he;generalize H.ent=h0 at hk hD⊢;have hne1: ∀ {k:Nat},3000000≤k→(k==i0)=false:=fun hh=>by simp;omega
  have hne2: ∀ {k:Nat},3000000≤k→(i0==k)=false:=fun hh=>by simp;omega
  simp only [ntmps136,List.length_cons,List.length_nil,Nat.reduceAdd,Nat.reduceSub];unfold qL at hm;refine AWp.behind ?_;refine sN 3000064 (pA ?_);refine fs (sN 3000128 (pA ?_));refine fs (AWp.block (AWp.loopM (fun m s=> ∃(aB:List aC) (a_1:Int) (b_2:Int) (bG:Int) (bW:Bool) (bJ:Bool),s=(⟨148,(aG (aG (aG (aG (aG (aG (aG (fun _=>AV.any) 0 (.own i0 0 aB.length)) 1 (.v (.int .i64 a_1))) 2 (.v (.int .i64 b_2))) 3 (.v (.int .i64 bG))) 4 (.clo (.func jJ) [] eQ)) 10 (.v (.bool bW))) 11 (.v (.bool bJ))),⟨(upd h0 i0 (.cells 2 (aB.flatMap bT) 0)),64⟩⟩:St)∧cP bQ (cC nn) m aB a_1 b_2 bG bW bJ=some r) aZ ?_ ?_ ?_))
  · rintro s ⟨_,_,_,_,_,_,_,h⟩;cases h
  · refine ⟨_,?_,aB,a_1,b_2,bG,true,true,rfl,hm⟩;exact bN (aD 11 _ Z1 (aD 10 _ Z1 (aD 4 _ Z1 (aD 3 _ Z1 (aD 2 _ Z1 (aD 1 _ Z1 (aD 0 _ (bO Z1 Z6) bF))))))) Zi
  ·
   rintro n1 s ⟨aB,a_1,b_2,bG,bW,bJ,rfl,hm⟩;replace hm:mC bQ (cC nn) (cP bQ (cC nn) n1) aB a_1 b_2 bG bW bJ=some r:=hm;unfold mC at hm;refine AWp.block (sN 128 ?_)
   iterate 4 refine pA ?_
   refine fs (AWp.seq' (sN 192 ?_))
   iterate 2 refine pA ?_
   refine fs (AWp.condM hm Z1 (fun _ hm=>?_) (fun _ hm=>?_))
   ·
    refine sN 256 ?_
    iterate 4 refine pA ?_
    obtain ⟨l2,h1,hm⟩:=bnd hm;have qh1:=pP h1;refine aI.callM Zd Z1 bXw ?_ (aA8 (oU h1) gG lH lJ (i0:=i0) Ze) ?_
    ·
     try simp only [go_sem,Nat.reduceBEq]
     first|done|rfl|(congr 2<;>omega)
    refine fs (AWp.ret (lD (qD (qX (qD ?_)))));cases hm;exact aJe (.inr rfl) Tryz.results136 (by intro q hq;simp only [upd];all_goals ((repeat' split)<;>first|rfl|omega)) (fun q hq=>by rw [upd_ne _ _ _ _ om];exact hk q hq) (nM (wB aJ) hD)
   ·
    refine AWp.skip (aV (AWp.seq' (sN 256 ?_)))
    iterate 2 refine pA ?_
    refine fs (AWp.condM hm Z1 (fun _ hm=>?_) (fun _ hm=>?_))
    ·
     refine sN 320 ?_
     iterate 4 refine pA ?_
     obtain ⟨l4,h3,hm⟩:=bnd hm;have qh3:=pP h3;refine aI.callM Zd Z1 bXx ?_ (aDe (oU h3) gG lH lJ (i0:=i0) Ze) ?_
     ·
      try simp only [go_sem,Nat.reduceBEq]
      first|done|rfl|(congr 2<;>omega)
     refine fs (AWp.ret (lD (qD (qX (qD ?_)))));cases hm;exact aJe (.inr rfl) Tryz.results136 (by intro q hq;simp only [upd];all_goals ((repeat' split)<;>first|rfl|omega)) (fun q hq=>by rw [upd_ne _ _ _ _ om];exact hk q hq) (nM (wB aJ) hD)
    ·
     refine AWp.skip (aV (AWp.seqJ (fun s=> ∃(aB:List aC) (a_1:Int) (b_2:Int) (bG:Int) (bW:Bool) (bJ:Bool) (jU:Int),s=(⟨148,(aG (aG (aG (aG (aG (aG (aG (aG (fun _=>AV.any) 0 (.own i0 0 aB.length)) 1 (.v (.int .i64 a_1))) 2 (.v (.int .i64 b_2))) 3 (.v (.int .i64 bG))) 4 (.clo (.func jJ) [] eQ)) 10 (.v (.bool bW))) 11 (.v (.bool bJ))) 12 (.v (.int .i64 jU))),⟨(upd h0 i0 (.cells 2 (aB.flatMap bT) 0)),64⟩⟩:St)∧jV bQ (cC nn) (cP bQ (cC nn) n1) aB a_1 b_2 bG bW bJ jU=some r) ?_ ?_))
     ·
      refine sN 320 ?_
      iterate 2 refine pA ?_
      refine fs (AWp.condM hm Z1 (fun _ hm=>?_) (fun _ hm=>?_))
      ·
       refine sN 384 ?_
       iterate 4 refine pA ?_
       obtain ⟨l31,h30,hm⟩:=bnd hm;have qh30:=pP h30;refine aI.callM Zd Z1 bXy ?_ (aA5 (oU h30) gG lH lJ (i0:=i0) Ze (fun q hq=>by simp only [upd_ne _ _ _ _ (show q≠i0 by omega)];exact hk q hq) (by (repeat (first|exact hD|refine nM (wB aJ) ?_))) hi) ?_
       ·
        try simp only [go_sem,Nat.reduceBEq]
        first|done|rfl|(congr 2<;>omega)
       refine fs (AWp.reg 64 (N':=448) rfl ?_)
       iterate 3 refine pA ?_
       refine aI.fin (nH ?_);refine ⟨_,?_,l31,a_1,b_2,(IntKind.i64.wrap (bG-1)),bW,bJ,(IntKind.i64.wrap (b_2-a_1)),rfl,hm⟩;exact bN (aD 12 _ Z1 (aD 11 _ Z1 (aD 10 _ Z1 (aD 4 _ Z1 (aD 3 _ Z1 (aD 2 _ Z1 (aD 1 _ Z1 (aD 0 _ (bO Z1 Z6) bF)))))))) Zi
      · refine AWp.skip (nH ?_);refine ⟨_,?_,aB,a_1,b_2,bG,bW,bJ,(IntKind.i64.wrap (b_2-a_1)),rfl,hm⟩;exact bN (aD 12 _ Z1 (aD 11 _ Z1 (aD 10 _ Z1 (aD 4 _ Z1 (aD 3 _ Z1 (aD 2 _ Z1 (aD 1 _ Z1 (aD 0 _ (bO Z1 Z6) bF)))))))) Zi
     ·
      rintro s ⟨aB,a_1,b_2,bG,bW,bJ,jU,rfl,hm⟩;unfold jV at hm;refine sN 128 ?_
      iterate 4 refine pA ?_
      obtain ⟨⟨r6,r7⟩,h5,hm⟩:=bnd hm;refine aI.callB (r:= .tup [.v (.int .i64 r6),.v (.int .i64 r7)]) Zd Z1 bXz (.cons (lto aJ Z1 Ze Z6) (.cons (ltd fun H=>(td Z1 (.v _))) (.cons (ltd fun H=>(td Z1 (.v _))) (.cons (ltd fun H=>(td Z1 (bJe gG))) aSh.nil)))) bUj (aBs h5 gG lH lJ) ?_
      iterate 5 refine pA ?_
      refine fs (AWp.seqJ (fun s=> ∃(aB:List aC) (a_1:Int) (b_2:Int) (bG:Int) (bW:Bool) (bJ:Bool) (jU:Int) (qP:Int) (aNt:Int),s=(⟨148,(aG (aG (aG (aG (aG (aG (aG (aG (aG (aG (fun _=>AV.any) 0 (.own i0 0 aB.length)) 1 (.v (.int .i64 a_1))) 2 (.v (.int .i64 b_2))) 3 (.v (.int .i64 bG))) 4 (.clo (.func jJ) [] eQ)) 10 (.v (.bool bW))) 11 (.v (.bool bJ))) 12 (.v (.int .i64 jU))) 13 (.v (.int .i64 qP))) 14 (.v (.int .i64 aNt))),⟨(upd h0 i0 (.cells 2 (aB.flatMap bT) 0)),64⟩⟩:St)∧jW bQ (cC nn) (cP bQ (cC nn) n1) aB a_1 b_2 bG bW bJ jU qP aNt=some r) ?_ ?_)
      ·
       refine sN 192 ?_
       iterate 2 refine pA ?_
       refine fs (AWp.condM hm Z1 (fun _ hm=>?_) (fun _ hm=>?_))
       ·
        refine sN 256 ?_
        iterate 4 refine pA ?_
        obtain ⟨l29,h28,hm⟩:=bnd hm;have qh28:=pP h28;refine aI.callM Zd Z1 bY0 ?_ (aAp (oU h28) gG lH lJ (i0:=i0) Ze) ?_
        ·
         try simp only [go_sem,Nat.reduceBEq]
         first|done|rfl|(congr 2<;>omega)
        refine fs (sN 320 ?_)
        iterate 7 refine pA ?_
        refine fs (AWp.reg 64 (N':=384) rfl ?_);refine pA ?_;refine aI.fin (nH ?_);refine ⟨_,?_,l29,a_1,b_2,bG,bW,bJ,jU,(IntKind.i64.wrap ((IntKind.i64.wrap (b_2-1))-(IntKind.i64.wrap (r6-a_1)))),1,rfl,hm⟩;exact bN (aD 14 _ Z1 (aD 13 _ Z1 (aD 12 _ Z1 (aD 11 _ Z1 (aD 10 _ Z1 (aD 4 _ Z1 (aD 3 _ Z1 (aD 2 _ Z1 (aD 1 _ Z1 (aD 0 _ (bO Z1 Z6) bF)))))))))) Zi
       · refine AWp.skip (nH ?_);refine ⟨_,?_,aB,a_1,b_2,bG,bW,bJ,jU,r6,r7,rfl,hm⟩;exact bN (aD 14 _ Z1 (aD 13 _ Z1 (aD 12 _ Z1 (aD 11 _ Z1 (aD 10 _ Z1 (aD 4 _ Z1 (aD 3 _ Z1 (aD 2 _ Z1 (aD 1 _ Z1 (aD 0 _ (bO Z1 Z6) bF)))))))))) Zi
      ·
       rintro s ⟨aB,a_1,b_2,bG,bW,bJ,jU,qP,aNt,rfl,hm⟩;unfold jW at hm;refine AWp.seqJ (fun s=> ∃(aB:List aC) (a_1:Int) (b_2:Int) (bG:Int) (bW:Bool) (bJ:Bool) (jU:Int) (qP:Int),s=(⟨148,(aG (aG (aG (aG (aG (aG (aG (aG (aG (fun _=>AV.any) 0 (.own i0 0 aB.length)) 1 (.v (.int .i64 a_1))) 2 (.v (.int .i64 b_2))) 3 (.v (.int .i64 bG))) 4 (.clo (.func jJ) [] eQ)) 10 (.v (.bool bW))) 11 (.v (.bool bJ))) 12 (.v (.int .i64 jU))) 13 (.v (.int .i64 qP))),⟨(upd h0 i0 (.cells 2 (aB.flatMap bT) 0)),64⟩⟩:St)∧jX bQ (cC nn) (cP bQ (cC nn) n1) aB a_1 b_2 bG bW bJ jU qP=some r) ?_ ?_
       ·
        refine sN 128 ?_
        iterate 8 first|refine pA ?_|refine pB ?_
        refine fs (AWp.condM hm Z1 (fun _ hm=>?_) (fun _ hm=>?_))
        ·
         refine sN 192 ?_
         iterate 4 refine pA ?_
         obtain ⟨⟨r27,l26⟩,h25,hm⟩:=bnd hm;have qh25:=pP h25;dsimp only at qh25;refine aI.callM Zd Z1 bY1 ?_ (uS (oU h25) gG lH lJ (i0:=i0) Ze) ?_
         ·
          try simp only [go_sem,Nat.reduceBEq]
          first|done|rfl|(congr 2<;>omega)
         refine fs (AWp.condM hm Z1 (fun _ hm=>?_) (fun _ hm=>?_))
         · refine AWp.ret (aRr (qD (qX (qD ?_))));cases hm;exact aJe (.inr rfl) Tryz.results136 (by intro q hq;simp only [upd];all_goals ((repeat' split)<;>first|rfl|omega)) (fun q hq=>by rw [upd_ne _ _ _ _ om];exact hk q hq) (nM (wB aJ) hD)
         · refine AWp.skip (nH ?_);refine ⟨_,?_,l26,a_1,b_2,bG,bW,bJ,jU,qP,rfl,hm⟩;exact bN (aD 13 _ Z1 (aD 12 _ Z1 (aD 11 _ Z1 (aD 10 _ Z1 (aD 4 _ Z1 (aD 3 _ Z1 (aD 2 _ Z1 (aD 1 _ Z1 (aD 0 _ (bO Z1 Z6) bF))))))))) Zi
        · refine AWp.skip (nH ?_);refine ⟨_,?_,aB,a_1,b_2,bG,bW,bJ,jU,qP,rfl,hm⟩;exact bN (aD 13 _ Z1 (aD 12 _ Z1 (aD 11 _ Z1 (aD 10 _ Z1 (aD 4 _ Z1 (aD 3 _ Z1 (aD 2 _ Z1 (aD 1 _ Z1 (aD 0 _ (bO Z1 Z6) bF))))))))) Zi
       ·
        rintro s ⟨aB,a_1,b_2,bG,bW,bJ,jU,qP,rfl,hm⟩;unfold jX at hm;refine AWp.seq' (sd mix (by kernel_rfl) (N':=128) rfl ?_)
        iterate 7 first|refine pA ?_|refine pB ?_
        obtain ⟨x9,h8,hm⟩:=bnd hm;refine pg rfl rfl Z2 (fun hb=>(aN underlying40 fS (Zh hb) Ze Z6 (Zh hb) (bI h8 hb))) ?_;refine pg rfl rfl Z2 (fun hb=>(bM aJ (Zh hb) Ze (bI h8 hb) Zb)) ?_
        iterate 2 refine pB ?_
        obtain ⟨x11,h10,hm⟩:=bnd hm;refine pg rfl rfl Z2 (fun hb=>(aN underlying40 fS (Zh hb) Ze Z6 (Zh hb) (bI h10 hb))) ?_;refine pg rfl rfl Z2 (fun hb=>(bM aJ (Zh hb) Ze (bI h10 hb) Zb)) ?_;obtain ⟨r13,h12,hm⟩:=bnd hm;refine aI.callQCG (r:= .v (.int .i64 r13)) Zd rfl Z2 (fun hb=>(Zh hb)) gG lH (fun hb H=>(.cons (td (Zh hb) (.agg _ (aJ.dat _))) (.cons (td (Zh hb) (.agg _ (aJ.dat _))) .nil))) (fun hb=>lJ (bI h12 hb)) ?_
        iterate 3 first|refine pA ?_|refine pB ?_
        refine fs (AWp.condM hm Z1 (fun _ hm=>?_) (fun _ hm=>?_))
        ·
         refine sN 192 ?_
         iterate 5 refine pA ?_
         obtain ⟨⟨r16,l15⟩,h14,hm⟩:=bnd hm;have qh14:=pP h14;dsimp only at qh14;refine aI.callM Zd Z1 bY2 ?_ (zJ (oU h14) gG lH lJ (i0:=i0) Ze) ?_
         ·
          try simp only [go_sem,Nat.reduceBEq]
          first|done|rfl|(congr 2<;>omega)
         refine pA ?_;refine fs (sN 256 ?_)
         iterate 2 refine pA ?_
         refine fs (AWp.exit (dJ (cW (cO ?_))));refine ⟨_,?_,l15,r16,b_2,bG,bW,bJ,rfl,hm⟩;exact bN (aD 11 _ Z1 (aD 10 _ Z1 (aD 4 _ Z1 (aD 3 _ Z1 (aD 2 _ Z1 (aD 1 _ Z1 (aD 0 _ (bO Z1 Z6) bF))))))) Zi
        ·
         refine AWp.skip (aV (sN 192 ?_))
         iterate 5 refine pA ?_
         obtain ⟨⟨r19,r20,l18⟩,h17,hm⟩:=bnd hm;have qh17:=pP h17;dsimp only at qh17;refine aI.callM Zd Z1 bY3 ?_ (aCj (oU h17) gG lH lJ (i0:=i0) Ze) ?_
         ·
          try simp only [go_sem,Nat.reduceBEq]
          first|done|rfl|(congr 2<;>omega)
         iterate 5 refine pA ?_
         refine fs (sN 256 ?_)
         iterate 2 refine pA ?_
         refine fs (sN 320 ?_)
         iterate 8 refine pA ?_
         refine fs (sN 384 ?_)
         iterate 3 refine pu rfl Zj ?_
         refine fs (sN 448 ?_)
         iterate 3 refine pA ?_
         refine fs (AWp.condM hm Z1 (fun _ hm=>?_) (fun _ hm=>?_))
         ·
          refine sN 512 ?_
          iterate 4 refine pA ?_
          refine fs (sN 576 ?_)
          iterate 5 refine pA ?_
          obtain ⟨l22,h21,hm⟩:=bnd hm;have qh21:=pP h21;refine aI.callM Zd Z1 bNs ?_ (ih (oU h21) gG lH lJ (i0:=i0) Ze (fun q hq=>by simp only [upd_ne _ _ _ _ (show q≠i0 by omega)];exact hk q hq) (by (repeat (first|exact hD|refine nM (wB aJ) ?_))) hi) ?_
          ·
           try simp only [go_sem,Nat.reduceBEq]
           first|done|rfl|(congr 2<;>omega)
          refine fs (AWp.reg 64 (N':=640) rfl ?_)
          iterate 3 refine pA ?_
          refine aI.fin (eT (cO ?_));refine ⟨_,?_,l22,(IntKind.i64.wrap (r19+1)),b_2,bG,(decide ((IntKind.i64.wrap (Int.tdiv jU 8))≤(IntKind.i64.wrap (r19-a_1)))),r20,rfl,hm⟩;exact bN (aD 11 _ Z1 (aD 10 _ Z1 (aD 4 _ Z1 (aD 3 _ Z1 (aD 2 _ Z1 (aD 1 _ Z1 (aD 0 _ (bO Z1 Z6) bF))))))) Zi
         ·
          refine sN 512 ?_
          iterate 4 refine pA ?_
          refine fs (sN 576 ?_)
          iterate 6 refine pA ?_
          obtain ⟨l24,h23,hm⟩:=bnd hm;have qh23:=pP h23;refine aI.callM Zd Z1 bNs ?_ (ih (oU h23) gG lH lJ (i0:=i0) Ze (fun q hq=>by simp only [upd_ne _ _ _ _ (show q≠i0 by omega)];exact hk q hq) (by (repeat (first|exact hD|refine nM (wB aJ) ?_))) hi) ?_
          ·
           try simp only [go_sem,Nat.reduceBEq]
           first|done|rfl|(congr 2<;>omega)
          refine fs (AWp.reg 64 (N':=640) rfl ?_)
          iterate 2 refine pA ?_
          refine aI.fin (eT (cO ?_));refine ⟨_,?_,l24,a_1,r19,bG,(decide ((IntKind.i64.wrap (Int.tdiv jU 8))≤(IntKind.i64.wrap (b_2-r19)))),r20,rfl,hm⟩;exact bN (aD 11 _ Z1 (aD 10 _ Z1 (aD 4 _ Z1 (aD 3 _ Z1 (aD 2 _ Z1 (aD 1 _ Z1 (aD 0 _ (bO Z1 Z6) bF))))))) Zi
theorem aE1{aB:List aC}{a_1:Int}{b_2:Int}{bG:Int}{bQ:(aC→aC→Option (Int))}{r:List aC}(hm:uW aB a_1 b_2 bG bQ=some r){jJ:FuncId}{eQ:List AV}(gG: ∀a,a∈eQ→AM.Data a)(lH:(Program.funcs prog)[jJ]?.any (fun fn=>fn.body.isSome&&fn.name != "runtime.NumGoroutine")=true)(lJ: ∀ {x0 x1 r},bQ x0 x1=some r→dT prog jJ ([.agg [.v (.int .u64 x0.x0),.v (.int .u64 x0.x1)],.agg [.v (.int .u64 x1.x0),.v (.int .u64 x1.x1)]]++eQ) (.v (.int .i64 r))){H:aM}{i0:Nat}(he:H.ent i0= .cells 2 (aB.flatMap bT) 0)(hk: ∀id,3000000≤id→H.ent id= .fresh)(hD: ∀id,aDl (H.ent id))(hi:i0<3000000):dR prog 136 [.own i0 0 aB.length,.v (.int .i64 a_1),.v (.int .i64 b_2),.v (.int .i64 bG),.clo (.func jJ) [] eQ] H (.tup []) (H.put i0 (.cells 2 (r.flatMap bT) 0)):=aDg aZ hm gG lH lJ he hk hD hi
def nC(x_0:List aC)(bH7:(aC→aC→Option (Int))):Option (List aC):=
 ((xS (IntKind.u64.wrap (x_0.length:Int))).bind fun r2=>
 ((tM (fun x=>x.length) x_0.length (uW x_0 0 (x_0.length:Int) r2 bH7)).bind fun l4=>
 some l4))
theorem aJ1{x_0:List aC}{bH7:(aC→aC→Option (Int))}{r:List aC}(hm:nC x_0 bH7=some r){aXo:FuncId}{aP9:List AV}(bFn: ∀a,a∈aP9→AM.Data a)(bO5:(Program.funcs prog)[aXo]?.any (fun fn=>fn.body.isSome&&fn.name != "runtime.NumGoroutine")=true)(bO6: ∀ {x0 x1 r},bH7 x0 x1=some r→dT prog aXo ([.agg [.v (.int .u64 x0.x0),.v (.int .u64 x0.x1)],.agg [.v (.int .u64 x1.x0),.v (.int .u64 x1.x1)]]++aP9) (.v (.int .i64 r))){H:aM}{i0:Nat}(he:H.ent i0= .cells 2 (x_0.flatMap bT) 0)(hk: ∀id,3000000≤id→H.ent id= .fresh)(hD: ∀id,aDl (H.ent id))(hi:i0<3000000):dR prog 104 [.own i0 0 x_0.length,.clo (.func aXo) [] aP9] H (.tup []) (H.put i0 (.cells 2 (r.flatMap bT) 0)):=by
 refine dR.of_bodyK func104 rfl he hk ?_;clear he;generalize H.ent=h0 at hk hD⊢;have hne1: ∀ {k:Nat},3000000≤k→(k==i0)=false:=fun hh=>by simp;omega
 have hne2: ∀ {k:Nat},3000000≤k→(i0==k)=false:=fun hh=>by simp;omega
 simp only [ntmps104,List.length_cons,List.length_nil,Nat.reduceAdd,Nat.reduceSub];unfold nC at hm;refine AWp.behind ?_;refine sN 3000064 ?_
 iterate 3 refine pA ?_
 refine fs (AWp.reg 64 (N':=3000128) rfl ?_)
 iterate 4 refine pA ?_
 obtain ⟨r2,h1,hm⟩:=bnd hm;refine aI.callQ (r:= .v (.int .i64 r2)) Zd Z1 bU1 (fun H=>(cV .nil)) (aL3 h1) ?_;refine pA ?_;obtain ⟨l4,h3,hm⟩:=bnd hm;have qh3:=pP h3;refine aI.callM Zd Z1 bNs ?_ (aE1 (oU h3) bFn bO5 bO6 (i0:=i0) Ze (fun q hq=>by simp only [upd_ne _ _ _ _ (show q≠i0 by omega)];exact hk q hq) (by (repeat (first|exact hD|refine nM (wB aJ) ?_))) hi) ?_
 ·
  try simp only [go_sem,Nat.reduceBEq]
  first|done|rfl|(congr 2<;>omega)
 refine aI.fin ?_;cases hm;exact aJe (.inl rfl) Tryz.results104 (by intro q hq;simp only [upd];all_goals ((repeat' split)<;>first|rfl|omega)) (fun q hq=>by rw [upd_ne _ _ _ _ om];exact hk q hq) (nM (wB aJ) hD)
def oQ(x_0:Int)(y_1:Int):Option (Int):=
 ((mY x_0).bind fun r2=>
 ((mY y_1).bind fun r4=>
 (bif r2 then
  (bif r4 then
   some 0
  else
   some (-1))
 else
  (bif r4 then
   some 1
  else
   (bif (decide (x_0<y_1)) then
    some (-1)
   else
    (bif (decide (y_1<x_0)) then
     some 1
    else
     some 0))))))
theorem zY:K2 prog vu vu vi 107 oQ:=fun hm=>be 20 func107 (h:=G)
instance:Ct prog 107 (K2 prog vu vu vi 107 oQ):=⟨zY⟩
def vZ(rec1:Int→List Int→Int→Int→Option (Int))(aQ2:Int)(t6:List Int)(t7:Int)(t8:Int):Option (Int):=
 (bif (decide (t8<t7)) then
  ((idx t6 t8).bind fun x2=>
  (bif (x2 !=aQ2) then
   some x2
  else
   rec1 aQ2 t6 t7 (IntKind.i64.wrap (t8+1))))
 else
  some aQ2)
def aAd:Nat→Int→List Int→Int→Int→Option (Int)
 |0=>fun _ _ _ _=>none
 |n+1=>vZ (aAd n)
def aEy(bGo:List Int):Option (Int):=
 aAd aZ 0 bGo (bGo.length:Int) 0
theorem aSw:K1 prog (vl (ci .i64)) vi 106 aEy:=by
 intro bGo r hm
 let I1:=((fun m s=> ∃aQ2 t6 t7 t8,s=⟨18,(aG (aG (aG (aG fa 3 (vi aQ2)) 6 (vl (ci .i64) t6)) 7 (vi t7)) 8 (vi t8)),⟨bR,64⟩⟩∧aAd m aQ2 t6 t7 t8=some r):Nat→St→Prop)
 exact be 18 func106 (h:=G)
instance:Ct prog 106 (K1 prog (vl (ci .i64)) vi 106 aEy):=⟨aSw⟩
def qI(p_0:aC)(q_1:aC):Option (Int):=
 ((oQ p_0.x0 q_1.x0).bind fun r2=>
 ((oQ p_0.x1 q_1.x1).bind fun r4=>
 ((aEy [r2,r4]).bind fun r6=>
 some r6)))
theorem aJc{p_0:aC}{q_1:aC}{r:Int}(hm:qI p_0 q_1=some r):dT prog 105 [.agg [vu p_0.x0,vu p_0.x1],.agg [vu q_1.x0,vu q_1.x1]] (vi r):=by
 refine bd 17 func105 ?_;obtain ⟨r2,h1,hm⟩:=bnd hm;refine W ?_;refine cq (zY h1) ?_;obtain ⟨r4,h3,hm⟩:=bnd hm;refine W ?_;refine cq (zY h3) ?_;refine aL (CFi .i64) [r2,r4] ?_;obtain ⟨r6,h5,hm⟩:=bnd hm;refine aI.callB (r:= .v (.int .i64 r6)) Zd Z1 bXi (.cons (lto (CFi .i64) Z1 Z3 Z6) aSh.nil) bUi (aSw h5) ?_;exact E
instance:Ct prog 105 (K2 prog aWw aWw vi 105 qI):=⟨fun hm=>aJc hm⟩
def aF6(rec1:aF→List aC→List aH→Int→Int→Option ((List aC)))(s_1:aF)(aG9:List aC)(t19:List aH)(t20:Int)(t21:Int):Option ((List aC)):=
 (bif (decide (t21<t20)) then
  ((idx t19 t21).bind fun x4=>
  ((idx s_1.Slots x4.U).bind fun x6=>
  ((idx s_1.Slots x4.V).bind fun x8=>
  ((app aG9 [(aC.mk (if x8.Key<x6.Key then x8.Key else x6.Key) (if x6.Key<x8.Key then x8.Key else x6.Key))]).bind fun l10=>
  rec1 s_1 l10 t19 t20 (IntKind.i64.wrap (t21+1))))))
 else
  ((tM (fun x=>x.length) aG9.length (nC aG9 (fun x0 x1=>qI x0 x1))).bind fun l12=>
  some l12))
def wG:Nat→aF→List aC→List aH→Int→Int→Option ((List aC))
 |0=>fun _ _ _ _ _=>none
 |n+1=>aF6 (wG n)
def zC(s_0:aF):Option ((List aC)):=
 ((oB s_0.Graph.Config.N s_0.Graph.Edges s_0.Graph.Config.L).bind fun r2=>
 wG aZ s_0 [] r2 (r2.length:Int) 0)
theorem aUw{s_0:aF}{r:(List aC)}(hm:zC s_0=some r):dT prog 80 [.agg [vi s_0.Graph.Config.N,vi s_0.Graph.Config.L,vi s_0.Graph.Config.R,vl dW s_0.Graph.Hashes,vl bE s_0.Graph.Edges,vl bH s_0.Slots]] (vl bT r):=by
 refine bd 53 func80 ?_;obtain ⟨r2,h1,hm⟩:=bnd hm;refine W ?_;refine cq (aM0 h1) ?_;refine W ?_;refine lp (fun m s=> ∃s_1 aG9 t19 t20 t21,s=⟨53,(aG (aG (aG (aG (aG fa 1 (.adr 1 0)) 4 (.own 2 0 aG9.length)) 19 (vl bE t19)) 20 (vi t20)) 21 (vi t21)),⟨(upd (upd bR 1 (.cells 1 [vi s_1.Graph.Config.N,vi s_1.Graph.Config.L,vi s_1.Graph.Config.R,vl dW s_1.Graph.Hashes,vl bE s_1.Graph.Edges,vl bH s_1.Slots] 0)) 2 (.cells 2 (aG9.flatMap bT) 0)),64⟩⟩∧wG m s_1 aG9 t19 t20 t21=some r) ?_ ?_
 · refine ⟨_,?_,s_0,[],r2,(r2.length:Int),0,rfl,hm⟩;refine St.Le.trans (aIb 4 900004 2 Z1 Z5) ?_;exact cn (fun j=>bif j==1 then 0 else bif j==2 then 900004 else 0)
 rintro n1 s ⟨s_1,aG9,t19,t20,t21,rfl,hm⟩;refine W ?_;refine cm hm (fun hm=>?_) fun hm=>?_
 · obtain ⟨x4,h3,hm⟩:=bnd hm;obtain ⟨x6,h5,hm⟩:=bnd hm;obtain ⟨x8,h7,hm⟩:=bnd hm;refine W ?_;refine bU (.agg [.v (.int .u64 (if x8.Key<x6.Key then x8.Key else x6.Key)),.v (.int .u64 (if x6.Key<x8.Key then x8.Key else x6.Key))]) ?_;refine aL aJ [(aC.mk (if x8.Key<x6.Key then x8.Key else x6.Key) (if x6.Key<x8.Key then x8.Key else x6.Key))] ?_;obtain ⟨l10,h9,hm⟩:=bnd hm;refine W ?_;exact Lr (fun j=>bif j==1 then 1 else bif j==2 then 265 else 0)
 obtain ⟨l12,h11,hm⟩:=bnd hm;refine W ?_;have qh11:=pP h11;refine aI.callM Zd Z1 bXg Z1 (aJ1 (oU h11) aMc bXh (fun h=>aJc h) Z3 (by (repeat (first|exact bOb|refine bFv ?_ Zd))) (by (repeat (first|exact bNi|refine nM trivial ?_|refine nM (wB aJ) ?_|refine nM ⟨Nat.zero_le _,(aHm.dat s_1)⟩ ?_|refine nM ⟨Nat.zero_le _,DS⟩ ?_))) Zd) ?_;exact E
instance:Ct prog 80 (K1 prog eN (vl bT) 80 zC):=⟨fun hm=>aUw hm⟩
def aN1(rec1:ByteArray→Int→Int→Option (Int))(b_0:ByteArray)(bCd:Int)(i_4:Int):Option (Int):=
 (bif (decide (i_4<(b_0.size:Int))) then
  ((aHf bCd 257).bind fun r2=>
  ((aTw b_0 i_4).bind fun b4=>
  ((aHe r2 (IntKind.u64.wrap ((IntKind.u64.wrap b4)+1))).bind fun r6=>
  rec1 b_0 r6 (IntKind.i64.wrap (i_4+1)))))
 else
  some bCd)
def aFk:Nat→ByteArray→Int→Int→Option (Int)
 |0=>fun _ _ _=>none
 |n+1=>aN1 (aFk n)
def aLe(b_0:ByteArray):Option (Int):=
 aFk aZ b_0 1 0
theorem aWp:K1 prog vs vu 111 aLe:=by
 intro b_0 r hm
 let I1:=((fun m s=> ∃b_0 bCd i_4,s=⟨20,(aG (aG (aG fa 0 (.v (.string b_0))) 3 (vu bCd)) 4 (vi i_4)),⟨bR,64⟩⟩∧aFk m b_0 bCd i_4=some r):Nat→St→Prop)
 exact be 20 func111 (h:=G)
instance:Ct prog 111 (K1 prog vs vu 111 aLe):=⟨aWp⟩
abbrev aKw(rec3:aF→List Int→List aR→Int→Int→Option (ByteArray×Int))(s_1:aF)(b_5:List Int)(t58:List aR)(t59:Int)(t60:Int):Option (ByteArray×Int):=
 rec3 s_1 b_5 t58 t59 (IntKind.i64.wrap (t60+1))
abbrev aDj(rec3:aF→List Int→List aR→Int→Int→Option (ByteArray×Int))(s_1:aF)(b_5:List Int)(aLd:aR)(aOt:Int)(t58:List aR)(t59:Int)(t60:Int):Option (ByteArray×Int):=
 ((qE b_5 aOt 1).bind fun l16=>
 ((qE l16 aLd.Key 8).bind fun l18=>
 aKw rec3 s_1 l18 t58 t59 t60))
def aKv(rec4:List Int→List aH→Int→Int→Option (ByteArray×Int))(b_5:List Int)(t83:List aH)(t84:Int)(t85:Int):Option (ByteArray×Int):=
 (bif (decide (t85<t84)) then
  ((idx t83 t85).bind fun x22=>
  ((qE b_5 (IntKind.u64.wrap x22.U) 2).bind fun l24=>
  ((qE l24 (IntKind.u64.wrap x22.V) 2).bind fun l26=>
  ((qE l26 (IntKind.u64.wrap x22.Tier) 1).bind fun l28=>
  rec4 l28 t83 t84 (IntKind.i64.wrap (t85+1))))))
 else
  ((aLe (qG b_5)).bind fun r30=>
  ((qE b_5 r30 8).bind fun l32=>
  some ((qG l32),0))))
def aAn:Nat→List Int→List aH→Int→Int→Option (ByteArray×Int)
 |0=>fun _ _ _ _=>none
 |n+1=>aKv (aAn n)
def aKu(rec3:aF→List Int→List aR→Int→Int→Option (ByteArray×Int))(s_1:aF)(b_5:List Int)(t58:List aR)(t59:Int)(t60:Int):Option (ByteArray×Int):=
 (bif (decide (t60<t59)) then
  ((idx t58 t60).bind fun x14=>
  (bif x14.Used then
   aDj rec3 s_1 b_5 x14 1 t58 t59 t60
  else
   aDj rec3 s_1 b_5 x14 0 t58 t59 t60))
 else
  ((qE b_5 (IntKind.u64.wrap (s_1.Graph.Edges.length:Int)) 4).bind fun l20=>
  aAn aZ l20 s_1.Graph.Edges (s_1.Graph.Edges.length:Int) 0))
def rH:Nat→aF→List Int→List aR→Int→Int→Option (ByteArray×Int)
 |0=>fun _ _ _ _ _=>none
 |n+1=>aKu (rH n)
def aKt(rec2:aF→List Int→List dI→Int→Int→Option (ByteArray×Int))(s_1:aF)(b_5:List Int)(t42:List dI)(t43:Int)(t44:Int):Option (ByteArray×Int):=
 (bif (decide (t44<t43)) then
  ((idx t42 t44).bind fun x8=>
  ((qE b_5 x8.A 8).bind fun l10=>
  ((qE l10 x8.B 8).bind fun l12=>
  rec2 s_1 l12 t42 t43 (IntKind.i64.wrap (t44+1)))))
 else
  rH aZ s_1 b_5 s_1.Slots (s_1.Slots.length:Int) 0)
def xB:Nat→aF→List Int→List dI→Int→Int→Option (ByteArray×Int)
 |0=>fun _ _ _ _ _=>none
 |n+1=>aKt (xB n)
def aDi(rec1:aF→List Int→List Int→Int→Int→Option (ByteArray×Int))(s_1:aF)(b_5:List Int)(t29:List Int)(t30:Int)(t31:Int):Option (ByteArray×Int):=
 (bif (decide (t31<t30)) then
  ((idx t29 t31).bind fun x4=>
  ((qE b_5 (IntKind.u64.wrap x4) 2).bind fun l6=>
  rec1 s_1 l6 t29 t30 (IntKind.i64.wrap (t31+1))))
 else
  xB aZ s_1 b_5 s_1.Graph.Hashes (s_1.Graph.Hashes.length:Int) 0)
def sJ:Nat→aF→List Int→List Int→Int→Int→Option (ByteArray×Int)
 |0=>fun _ _ _ _ _=>none
 |n+1=>aDi (sJ n)
def sR(s_0:aF):Option (ByteArray×Int):=
 ((pY s_0).bind fun r2=>
 (bif (!r2) then
  some (⟨#[]⟩,1)
 else
  sJ aZ s_0 [82,65,70,84] [s_0.Graph.Config.N,s_0.Graph.Config.L,s_0.Graph.Config.R] (([s_0.Graph.Config.N,s_0.Graph.Config.L,s_0.Graph.Config.R]).length:Int) 0))
theorem aU0{s_0:aF}{r:ByteArray×Int}(hm:sR s_0=some r):dT prog 82 [.agg [vi s_0.Graph.Config.N,vi s_0.Graph.Config.L,vi s_0.Graph.Config.R,vl dW s_0.Graph.Hashes,vl bE s_0.Graph.Edges,vl bH s_0.Slots]] (.tup [.v (.string r.1),vi r.2]):=by
 refine bd 111 func82 ?_;obtain ⟨r2,h1,hm⟩:=bnd hm;refine W ?_;refine cq (aKs h1) ?_;refine W ?_;refine cm hm (fun hm=>?_) fun hm=>?_
 · exact E
 iterate 9 refine S1 ?_
 refine AWp.seq' ?_;refine AWp.regL (N':=256) [82,65,70,84] rfl rfl underlying172 underlying5 sz5 zc5 Z5 Zd Zd rfl (by simp only [go_sem,Nat.reduceBEq];try rfl) (by kernel_rfl) rfl rfl ?_;refine W ?_;refine aL (CFi .i64) [s_0.Graph.Config.N,s_0.Graph.Config.L,s_0.Graph.Config.R] ?_;refine W ?_;refine lp (fun m s=> ∃s_1 b_5 t29 t30 t31,s=⟨111,(aG (aG (aG (aG (aG fa 1 (.adr 1 0)) 5 (.own 2 0 b_5.length)) 29 (.own 3 0 t29.length)) 30 (vi t30)) 31 (vi t31)),⟨(upd (upd (upd bR 1 (.cells 1 [vi s_1.Graph.Config.N,vi s_1.Graph.Config.L,vi s_1.Graph.Config.R,vl dW s_1.Graph.Hashes,vl bE s_1.Graph.Edges,vl bH s_1.Slots] 0)) 2 (.cells 1 (b_5.flatMap (ci .u8)) 0)) 3 (.cells 1 (t29.flatMap (ci .i64)) 0)),64⟩⟩∧sJ m s_1 b_5 t29 t30 t31=some r) (Lr (fun j=>bif j==1 then 0 else bif j==2 then 192 else bif j==3 then 262 else 0)) ?_;rintro n1 s ⟨s_1,b_5,t29,t30,t31,rfl,hm⟩;refine W ?_;refine cm hm (fun hm=>?_) fun hm=>?_
 · obtain ⟨x4,h3,hm⟩:=bnd hm;obtain ⟨l6,h5,hm⟩:=bnd hm;refine W ?_;refine aI.callA Zd Z1 aLm Z1 (vP h5 (J:=195) Z3 (aLn Z5) Zd Zd KF DF) ?_;refine W ?_;exact Lr (fun j=>bif j==1 then 1 else bif j==2 then 195 else bif j==3 then 3 else 0)
 refine W ?_;refine lp (fun m s=> ∃s_1 b_5 t42 t43 t44,s=⟨111,(aG (aG (aG (aG (aG fa 1 (.adr 1 0)) 5 (.own 2 0 b_5.length)) 42 (vl dW t42)) 43 (vi t43)) 44 (vi t44)),⟨(upd (upd bR 1 (.cells 1 [vi s_1.Graph.Config.N,vi s_1.Graph.Config.L,vi s_1.Graph.Config.R,vl dW s_1.Graph.Hashes,vl bE s_1.Graph.Edges,vl bH s_1.Slots] 0)) 2 (.cells 1 (b_5.flatMap (ci .u8)) 0)),64⟩⟩∧xB m s_1 b_5 t42 t43 t44=some r) (Lr (fun j=>bif j==1 then 1 else bif j==2 then 2 else 0)) ?_;rintro n2 s ⟨s_1,b_5,t42,t43,t44,rfl,hm⟩;refine W ?_;refine cm hm (fun hm=>?_) fun hm=>?_
 · obtain ⟨x8,h7,hm⟩:=bnd hm;obtain ⟨l10,h9,hm⟩:=bnd hm;refine W ?_;refine aI.callA Zd Z1 aLm Z1 (vP h9 (J:=195) Z3 (aLn Z5) Zd Zd KF DF) ?_;obtain ⟨l12,h11,hm⟩:=bnd hm;refine W ?_;refine aI.callA Zd Z1 aLm Z1 (vP h11 (J:=259) Z3 (aLn Z5) Zd Zd KF DF) ?_;refine W ?_;exact Lr (fun j=>bif j==1 then 1 else bif j==2 then 259 else 0)
 refine W ?_;refine lp (fun m s=> ∃s_1 b_5 t58 t59 t60,s=⟨111,(aG (aG (aG (aG (aG fa 1 (.adr 1 0)) 5 (.own 2 0 b_5.length)) 58 (vl bH t58)) 59 (vi t59)) 60 (vi t60)),⟨(upd (upd bR 1 (.cells 1 [vi s_1.Graph.Config.N,vi s_1.Graph.Config.L,vi s_1.Graph.Config.R,vl dW s_1.Graph.Hashes,vl bE s_1.Graph.Edges,vl bH s_1.Slots] 0)) 2 (.cells 1 (b_5.flatMap (ci .u8)) 0)),64⟩⟩∧rH m s_1 b_5 t58 t59 t60=some r) (Lr (fun j=>bif j==1 then 1 else bif j==2 then 2 else 0)) ?_;rintro n3 s ⟨s_1,b_5,t58,t59,t60,rfl,hm⟩;refine W ?_;refine cm hm (fun hm=>?_) fun hm=>?_
 ·
  refine V ?_;refine AWp.seqJ (fun s=> ∃s_1 b_5 t58 t59 t60,s=⟨111,(aG (aG (aG (aG (aG fa 1 (.adr 1 0)) 5 (.own 2 0 b_5.length)) 58 (vl bH t58)) 59 (vi t59)) 60 (vi t60)),⟨(upd (upd bR 1 (.cells 1 [vi s_1.Graph.Config.N,vi s_1.Graph.Config.L,vi s_1.Graph.Config.R,vl dW s_1.Graph.Hashes,vl bE s_1.Graph.Edges,vl bH s_1.Slots] 0)) 2 (.cells 1 (b_5.flatMap (ci .u8)) 0)),64⟩⟩∧aKw (rH n3) s_1 b_5 t58 t59 t60=some r) ?_ ?_
  ·
   obtain ⟨x14,h13,hm⟩:=bnd hm;refine V ?_;refine AWp.seqJ (fun s=> ∃s_1 b_5 aLd aOt t58 t59 t60,s=⟨111,(aG (aG (aG (aG (aG (aG (aG fa 1 (.adr 1 0)) 5 (.own 2 0 b_5.length)) 11 (.adr 3 0)) 12 (vu aOt)) 58 (vl bH t58)) 59 (vi t59)) 60 (vi t60)),⟨(upd (upd (upd bR 1 (.cells 1 [vi s_1.Graph.Config.N,vi s_1.Graph.Config.L,vi s_1.Graph.Config.R,vl dW s_1.Graph.Hashes,vl bE s_1.Graph.Edges,vl bH s_1.Slots] 0)) 2 (.cells 1 (b_5.flatMap (ci .u8)) 0)) 3 (.cells 1 [vb aLd.Used,vu aLd.Key] 0)),64⟩⟩∧aDj (rH n3) s_1 b_5 aLd aOt t58 t59 t60=some r) ?_ ?_
   ·
    refine W ?_;refine cm hm (fun hm=>?_) fun hm=>?_
    · refine W ?_;exact Lr (fun j=>bif j==1 then 1 else bif j==2 then 2 else bif j==3 then 130 else 0)
    refine W ?_;exact Lr (fun j=>bif j==1 then 1 else bif j==2 then 2 else bif j==3 then 130 else 0)
   rintro s ⟨s_1,b_5,aLd,aOt,t58,t59,t60,rfl,hm⟩;obtain ⟨l16,h15,hm⟩:=bnd hm;refine W ?_;refine aI.callA Zd Z1 aLm Z1 (vP h15 (J:=66) Z3 (aLn Z5) Zd Zd KF DF) ?_;obtain ⟨l18,h17,hm⟩:=bnd hm;refine W ?_;refine aI.callA Zd Z1 aLm Z1 (vP h17 (J:=131) Z3 (aLn Z5) Zd Zd KF DF) ?_;refine W ?_;exact Lr (fun j=>bif j==1 then 1 else bif j==2 then 131 else 0)
  rintro s ⟨s_1,b_5,t58,t59,t60,rfl,hm⟩;refine W ?_;exact Lr (fun j=>bif j==1 then 1 else bif j==2 then 2 else 0)
 obtain ⟨l20,h19,hm⟩:=bnd hm;refine W ?_;refine aI.callA Zd Z1 aLm Z1 (vP h19 (J:=134) Z3 (aLn Z5) Zd Zd KF DF) ?_;refine W ?_;refine lp (fun m s=> ∃b_5 t83 t84 t85,s=⟨111,(aG (aG (aG (aG fa 5 (.own 1 0 b_5.length)) 83 (vl bE t83)) 84 (vi t84)) 85 (vi t85)),⟨(upd bR 1 (.cells 1 (b_5.flatMap (ci .u8)) 0)),64⟩⟩∧aAn m b_5 t83 t84 t85=some r) (Lr (fun j=>bif j==1 then 134 else 0)) ?_;rintro n4 s ⟨b_5,t83,t84,t85,rfl,hm⟩;refine W ?_;refine cm hm (fun hm=>?_) fun hm=>?_
 · obtain ⟨x22,h21,hm⟩:=bnd hm;obtain ⟨l24,h23,hm⟩:=bnd hm;refine W ?_;refine aI.callA Zd Z1 aLm Z1 (vP h23 (J:=196) Z3 (aLn Z5) Zd Zd KF DF) ?_;obtain ⟨l26,h25,hm⟩:=bnd hm;refine W ?_;refine aI.callA Zd Z1 aLm Z1 (vP h25 (J:=260) Z3 (aLn Z5) Zd Zd KF DF) ?_;obtain ⟨l28,h27,hm⟩:=bnd hm;refine W ?_;refine aI.callA Zd Z1 aLm Z1 (vP h27 (J:=324) Z3 (aLn Z5) Zd Zd KF DF) ?_;refine W ?_;exact Lr (fun j=>bif j==1 then 324 else 0)
 refine W ?_;refine pu rfl (aZv underlying172 underlying9 underlying5 Z1 Z3 Z6) ?_;obtain ⟨r30,h29,hm⟩:=bnd hm;refine cq (aWp h29) ?_;obtain ⟨l32,h31,hm⟩:=bnd hm;refine aI.callA Zd Z1 aLm Z1 (vP h31 (J:=132) Z3 (aLn Z5) Zd Zd KF DF) ?_;refine pu rfl (aZv underlying172 underlying9 underlying5 Z1 Z3 Z6) ?_;exact E
instance:Ct prog 82 (K1 prog eN (t2 vs vi) 82 sR):=⟨fun hm=>aU0 hm⟩
def rF(s_0:aF)(aMd:Int)(u_2:Int)(v_3:Int):Option (GA):=
 ((xH s_0.Graph).bind fun r2=>
 (bif (aMd==5) then
  ((uE s_0.Graph.Edges u_2 v_3).bind fun ⟨r4,r5⟩=>
  some (GA.b 4 r5))
 else
  (bif (aMd==6) then
   ((vE s_0 u_2).bind fun r7=>
   some (GA.i 3 .i64 r7))
  else
   (bif (aMd==7) then
    ((aAi s_0 u_2).bind fun r9=>
    ((tO s_0 r9).bind fun r11=>
    some (GA.lu 24 r11)))
   else
    (bif (aMd==8) then
     ((idx r2 u_2).bind fun x13=>
     ((idx r2 v_3).bind fun x15=>
     some (GA.b 4 (x13==x15))))
    else
     (bif (aMd==9) then
      ((wK r2 u_2).bind fun r17=>
      ((tO s_0 r17).bind fun r19=>
      some (GA.i 3 .i64 (r19.length:Int))))
     else
      (bif (aMd==10) then
       ((aB9 s_0 r2).bind fun r21=>
       some (GA.i 3 .i64 r21))
      else
       (bif (aMd==11) then
        ((wK r2 u_2).bind fun r23=>
        ((tO s_0 r23).bind fun r25=>
        some (GA.lu 24 r25)))
       else
        (bif (aMd==12) then
         ((zC s_0).bind fun r27=>
         some (GA.lp 40 r27))
        else
         (bif (aMd==13) then
          ((aAv s_0.Graph).bind fun r29=>
          some (GA.b 4 r29))
         else
          ((sR s_0).bind fun ⟨r31,r32⟩=>
          some (GA.s 9 r31))))))))))))
theorem aUt:K4 prog eN vi vi vi GA.av 42 rF:=fun hm=>be 98 func42 (h:=G)
instance:Ct prog 42 (K4 prog eN vi vi vi GA.av 42 rF):=⟨aUt⟩
def uH(f_1:(aR→Option (Bool)))(rec1:List aR→Int→Int→Option (Int))(s_0:List aR)(t7:Int)(t8:Int):Option (Int):=
 (bif (decide (t8<t7)) then
  ((idx s_0 t8).bind fun x2=>
  ((f_1 x2).bind fun r4=>
  (bif r4 then
   some t8
  else
   rec1 s_0 t7 (IntKind.i64.wrap (t8+1)))))
 else
  some (-1))
def mE(f_1:(aR→Option (Bool))):Nat→List aR→Int→Int→Option (Int)
 |0=>fun _ _ _=>none
 |n+1=>uH f_1 (mE f_1 n)
def vT(s_0:List aR)(f_1:(aR→Option (Bool))):Option (Int):=
 mE f_1 aZ s_0 (s_0.length:Int) 0
theorem aJj{s_0:List aR}{f_1:(aR→Option (Bool))}{r:Int}(hm:vT s_0 f_1=some r){aNn:FuncId}{aE5:List AV}(aT5: ∀a,a∈aE5→AM.Data a)(bFm:(Program.funcs prog)[aNn]?.any (fun fn=>fn.body.isSome&&fn.name != "runtime.NumGoroutine")=true)(bFo: ∀ {x0 r},f_1 x0=some r→dT prog aNn ([.agg [vb x0.Used,vu x0.Key]]++aE5) (vb r)):dT prog 112 [vl bH s_0,.clo (.func aNn) [] aE5] (vi r):=by
 refine bd 19 func112 ?_;refine W ?_;refine lp (fun m s=> ∃s_0 t7 t8,s=⟨19,(aG (aG (aG (aG fa 0 (vl bH s_0)) 1 (.clo (.func aNn) [] aE5)) 7 (vi t7)) 8 (vi t8)),⟨bR,64⟩⟩∧mE f_1 m s_0 t7 t8=some r) L ?_;rintro n1 s ⟨s_0,t7,t8,rfl,hm⟩;refine W ?_;refine cm hm (fun hm=>?_) fun hm=>?_
 ·
  obtain ⟨x2,h1,hm⟩:=bnd hm;obtain ⟨r4,h3,hm⟩:=bnd hm;refine W ?_;refine aI.callQC (r:= .v (.bool r4)) Zd Z1 aT5 bFm (fun H=>(cD (.agg _ (eZ.dat _)) .nil)) (bFo h3) ?_;refine W ?_;refine cm hm (fun hm=>?_) fun hm=>?_
  · exact E
  exact L
 exact E
def rC(bWf:aR):Option (Bool):=
 some (!bWf.Used)
theorem aOv:K1 prog aRd vb 113 rC:=fun hm=>be 6 func113 (h:=G)
instance:Ct prog 113 (K1 prog aRd vb 113 rC):=⟨aOv⟩
def oI(l:List aR):Option (List aR):=app [] l
theorem aMx{r:List aR}(hm:some []=some r):kL prog 114 [.v (.slice none 0 0)] 2 (r.flatMap bH) r.length:=by
 refine kL.of_body func114 rfl (eZ.fmdat r) ?_;simp only [ntmps114,List.length_cons,List.length_nil,Nat.reduceAdd,Nat.reduceSub,nD];refine sN 64 (pA ?_);refine fs (AWp.seq' (sN 128 (pA ?_)));refine pu rfl (aDn Z1 Z1 (aN6 underlying31)) ?_;refine fs (AWp.condT Z1 ?_);refine sN 192 (pA ?_);refine fs (AWp.weaken (aIb 2 900002 2 Z1 Z5) ?_);refine AWp.ret (lD ?_);cases hm;exact aOc (.inr rfl) Tryz.results114 Z1 Z3 Z6
theorem aMy{a:Addr}{c:Nat}{r:List aR}(hm:((app [] []).bind fun l2=>
some l2)=some r):kL prog 114 [.v (.slice (some a) 0 c)] 2 (r.flatMap bH) r.length:=by
 refine kL.of_body func114 rfl (eZ.fmdat r) ?_;simp only [ntmps114,List.length_cons,List.length_nil,Nat.reduceAdd,Nat.reduceSub,nD];refine sN 64 (pA ?_);refine fs (AWp.seq' (sN 128 (pA ?_)));refine pu rfl (aDn Z1 Z1 (aL2 underlying31)) ?_;refine fs (AWp.condF Z1 ?_);refine AWp.skip (aV (sN 192 (hp (id:=128) rfl rfl (qU eZ (l:=[]) underlying31 bCe bCw Z5 Zd Zd Zd (by simp only [go_sem,Nat.reduceBEq];try rfl) (by kernel_rfl)) ?_)));refine pA ?_;obtain ⟨l2,h1,hm⟩:=bnd hm;refine hp (id:=130) rfl rfl (aEu eZ underlying31 underlying31 rfl bHp bIk (by rw [aRb];decide) (by rw [aRb];decide) bIm Zd Zd Z1 Z3 Z6 (aS0 Z1) rfl Z5 h1) ?_;refine pA ?_;refine fs (AWp.ret ?_);cases hm;exact aOc (.inr rfl) Tryz.results114 Z1 Z3 Z6
theorem aMz{x0:aR}{l0:List aR}{r:List aR}(hm:((app [] (x0::l0)).bind fun l2=>
some l2)=some r):kL prog 114 [.sl ((x0::l0).flatMap bH) (x0::l0).length false] 2 (r.flatMap bH) r.length:=by
 refine kL.of_body func114 rfl (eZ.fmdat r) ?_;simp only [ntmps114,List.length_cons,List.length_nil,Nat.reduceAdd,Nat.reduceSub,nD];refine sN 64 (pA ?_);refine fs (AWp.seq' (sN 128 (pA ?_)));refine pu rfl (aDn Z1 Z1 (aL1 underlying31 (by simp))) ?_;refine fs (AWp.condF Z1 ?_);refine AWp.skip (aV (sN 192 (hp (id:=128) rfl rfl (qU eZ (l:=[]) underlying31 bCe bCw Z5 Zd Zd Zd (by simp only [go_sem,Nat.reduceBEq];try rfl) (by kernel_rfl)) ?_)));refine pA ?_;obtain ⟨l2,h1,hm⟩:=bnd hm;refine hp (id:=130) rfl rfl (aEu eZ underlying31 underlying31 rfl bHp bIk (by rw [aRb];decide) (by rw [aRb];decide) bIm Zd Zd Z1 Z3 Z6 (aVq eZ Z1 rfl) rfl Z5 h1) ?_;refine pA ?_;refine fs (AWp.ret ?_);cases hm;exact aOc (.inr rfl) Tryz.results114 Z1 Z3 Z6
theorem aGh{l r:List aR}(hm:oI l=some r):kL prog 114 [.sl (l.flatMap bH) l.length false] 2 (r.flatMap bH) r.length:=by
 cases l with
 |nil=>
  have hr:r=[]:=by unfold oI app at hm;simpa using hm.symm
  subst hr;exact kL.nil_arg (aMx (r:=[]) rfl) (fun a c=>aMy (r:=[]) rfl)
 |cons x0 l0=>
  refine aMz ?_;show (app [] (x0::l0)).bind _=_;unfold oI at hm;rw [hm];rfl
def aFs(l_0:List aR)(nX:Int):Option ((List aR)×Int×Int):=
 ((sK l_0).bind fun ⟨r2,r3⟩=>
 (bif (!r3) then
  some (l_0,0,1)
 else
  ((aAe r2 nX).bind fun ⟨r5,r6⟩=>
  (bif r6 then
   some (l_0,0,4)
  else
   ((vT l_0 (fun x0=>rC x0)).bind fun r8=>
   (bif (decide (r8<0)) then
    some (l_0,0,10)
   else
    ((oI l_0).bind fun r10=>
    ((idx r10 r8).bind fun x12=>
    ((stt r10 r8 (aR.mk true nX)).bind fun l14=>
    some (l14,r8,0))))))))))
theorem bGp{l_0:List aR}{nX:Int}{r:(List aR)×Int×Int}(hm:aFs l_0 nX=some r):dT prog 83 [vl bH l_0,vu nX] (.tup [vl bH r.1,vi r.2.1,vi r.2.2]):=by
 refine bd 43 func83 ?_;refine W ?_;obtain ⟨⟨r2,r3⟩,h1,hm⟩:=bnd hm;refine cq (aJ9 h1) ?_;refine W ?_;refine cm hm (fun hm=>?_) fun hm=>?_
 · exact E
 refine W ?_;obtain ⟨⟨r5,r6⟩,h4,hm⟩:=bnd hm;refine cq (aPf h4) ?_;refine W ?_;refine cm hm (fun hm=>?_) fun hm=>?_
 · exact E
 obtain ⟨r8,h7,hm⟩:=bnd hm;refine W ?_;refine aI.callQ (r:= .v (.int .i64 r8)) Zd Z1 bXj (fun H=>(cD (eZ.sl _ _ _) (cD (bJe aMc) .nil))) (aJj h7 aMc bXk (fun h=>aOv h)) ?_;refine W ?_;refine cm hm (fun hm=>?_) fun hm=>?_
 · exact E
 obtain ⟨r10,h9,hm⟩:=bnd hm;refine W ?_;refine aI.callF (id:=449) Zd Z1 bTx (fun H=>(cD (eZ.sl _ _ _) .nil)) eZ Z5 (aGh h9) ?_;refine W ?_;refine bU (.agg [vb true,vu nX]) ?_;obtain ⟨x12,h11,hm⟩:=bnd hm;obtain ⟨l14,h13,hm⟩:=bnd hm;refine W ?_;have qh13:=cY h13;refine aS h13 ?_;exact E
instance:Ct prog 83 (K2 prog (vl bH) vu (t3 (vl bH) vi vi) 83 aFs):=⟨fun hm=>bGp hm⟩
attribute [local semireducible] aZ
end Go.Proofs.YtkdohhmacfoolaaGreat
