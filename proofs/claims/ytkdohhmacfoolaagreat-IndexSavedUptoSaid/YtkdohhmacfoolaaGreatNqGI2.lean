/- Facts. No condition. -/
import Derived.Test.YtkdohhmacfoolaaGreatNqGI1
set_option linter.unusedVariables false
set_option linter.unusedSimpArgs false
set_option maxRecDepth 20000
set_option maxHeartbeats 4000000
namespace Go.Proofs.YtkdohhmacfoolaaGreat
open Go.Proofs.Tryz Go Go.AM
attribute [local irreducible] aZ
@[go_sem] theorem bEb(xs:List AV):aO prog 104 (.ptr (xs)) 0=some (.ptr xs):=by kernel_rfl
@[go_sem] theorem bEc(x0:AV)(xs:List AV):aO prog 104 (.ptr (x0::xs)) 1=some (.ptr xs):=by kernel_rfl
@[go_sem] theorem bKq(i o:Nat):aO prog 33 (.adr i o) 1=some (.adr i (o+5)):=by kernel_rfl
@[go_sem] theorem bVm(H:aM)(x:AV)(xs:List AV):cZ prog H 3 (.ptr (x::xs))=some x:=by kernel_rfl
@[go_sem] theorem bS5(H:aM)(x:AV)(xs:List AV):cZ prog H 31 (.ptr (x::xs))=some x:=by kernel_rfl
@[go_sem] theorem bVt(H:aM)(x:AV)(xs:List AV):cZ prog H 4 (.ptr (x::xs))=some x:=by kernel_rfl
@[go_sem] theorem bSl(H:aM)(x:AV)(xs:List AV):cZ prog H 43 (.ptr (x::xs))=some x:=by kernel_rfl
@[go_sem] theorem bSv(H:aM)(x0 x1:AV)(xs:List AV):cZ prog H 69 (.ptr (x0::x1::xs))=some (.agg [x0,x1]):=by kernel_rfl
@[go_sem] theorem bDw(H:aM)(k:IntKind)(n:Int):rX prog H 3 198 (.v (.int k n))=some (.v (.int .u64 (IntKind.u64.wrap n))):=mH underlying3 underlying198
@[go_sem] theorem bDz(H:aM)(k:IntKind)(n:Int):rX prog H 3 231 (.v (.int k n))=some (.v (.int .u64 (IntKind.u64.wrap n))):=mH underlying3 underlying231
@[go_sem] theorem bDr(H:aM)(k:IntKind)(n:Int):rX prog H 198 3 (.v (.int k n))=some (.v (.int .i64 (IntKind.i64.wrap n))):=mH underlying198 underlying3
abbrev kH(zX:Int)(gQ:Int):Option (Int×Int):=
 (bif (zX==0) then
  some (gQ,1)
 else
  (bif (zX==12) then
   some (gQ,2)
  else
   some (gQ,0)))
abbrev kI(aB:List Int)(zX:Int)(kD:Int)(gQ:Int)(aRm:Int):Option (Int×Int):=
 ((kQ aB kD gQ aRm zX).bind fun ⟨r3,x2⟩=>
 kH x2 r3)
def kN(aB:List Int)(a_1:Int)(b_2:Int):Option (Int×Int):=
 (bif (decide (8≤(IntKind.i64.wrap (b_2-a_1)))) then
  (bif (decide (50≤(IntKind.i64.wrap (b_2-a_1)))) then
   ((eX aB (IntKind.i64.wrap (a_1+(IntKind.i64.wrap ((IntKind.i64.wrap (Int.tdiv (IntKind.i64.wrap (b_2-a_1)) 4))*1)))) 0).bind fun ⟨r6,x5⟩=>
   ((eX aB (IntKind.i64.wrap (a_1+(IntKind.i64.wrap ((IntKind.i64.wrap (Int.tdiv (IntKind.i64.wrap (b_2-a_1)) 4))*2)))) x5).bind fun ⟨r9,x8⟩=>
   ((eX aB (IntKind.i64.wrap (a_1+(IntKind.i64.wrap ((IntKind.i64.wrap (Int.tdiv (IntKind.i64.wrap (b_2-a_1)) 4))*3)))) x8).bind fun ⟨r12,x11⟩=>
   kI aB x11 r6 r9 r12)))
  else
   kI aB 0 (IntKind.i64.wrap (a_1+(IntKind.i64.wrap ((IntKind.i64.wrap (Int.tdiv (IntKind.i64.wrap (b_2-a_1)) 4))*1)))) (IntKind.i64.wrap (a_1+(IntKind.i64.wrap ((IntKind.i64.wrap (Int.tdiv (IntKind.i64.wrap (b_2-a_1)) 4))*2)))) (IntKind.i64.wrap (a_1+(IntKind.i64.wrap ((IntKind.i64.wrap (Int.tdiv (IntKind.i64.wrap (b_2-a_1)) 4))*3)))))
 else
  kH 0 (IntKind.i64.wrap (a_1+(IntKind.i64.wrap ((IntKind.i64.wrap (Int.tdiv (IntKind.i64.wrap (b_2-a_1)) 4))*2)))))
theorem sE{aB:List Int}{a_1:Int}{b_2:Int}{r:Int×Int}(hm:kN aB a_1 b_2=some r):dT prog 148 [vl (ci .u64) aB,vi a_1,vi b_2] (.tup [vi r.1,vi r.2]):=by
 refine bd 57 func148 ?_;refine V ?_;refine AWp.seqJ (fun s=> ∃zX gQ,s=⟨57,(aG (aG fa 9 (.adr 1 0)) 11 (vi gQ)),⟨(upd bR 1 (.cells 1 [vi zX] 0)),64⟩⟩∧kH zX gQ=some r) ?_ ?_
 ·
  refine W ?_;refine cm hm (fun hm=>?_) fun hm=>?_
  ·
   refine AWp.seqJ (fun s=> ∃aB zX kD gQ aRm,s=⟨57,(aG (aG (aG (aG (aG fa 0 (vl (ci .u64) aB)) 9 (.adr 1 0)) 10 (vi kD)) 11 (vi gQ)) 12 (vi aRm)),⟨(upd bR 1 (.cells 1 [vi zX] 0)),64⟩⟩∧kI aB zX kD gQ aRm=some r) ?_ ?_
   ·
    refine W ?_;refine cm hm (fun hm=>?_) fun hm=>?_
    · refine W ?_;obtain ⟨⟨r6,x5⟩,h4,hm⟩:=bnd hm;refine aI.callM Zd Z1 bNt Z1 (nJ h4 Z3) ?_;refine W ?_;obtain ⟨⟨r9,x8⟩,h7,hm⟩:=bnd hm;refine aI.callM Zd Z1 bNt Z1 (nJ h7 Z3) ?_;refine W ?_;obtain ⟨⟨r12,x11⟩,h10,hm⟩:=bnd hm;refine aI.callM Zd Z1 bNt Z1 (nJ h10 Z3) ?_;refine W ?_;exact Lr (fun j=>bif j==1 then 128 else 0)
    refine W ?_;exact Lr (fun j=>bif j==1 then 128 else 0)
   rintro s ⟨aB,zX,kD,gQ,aRm,rfl,hm⟩;refine W ?_;obtain ⟨⟨r3,x2⟩,h1,hm⟩:=bnd hm;refine aI.callM Zd Z1 bU7 Z1 (vX h1 Z3) ?_;refine W ?_;exact Lr (fun j=>bif j==1 then 1 else 0)
  refine W ?_;exact Lr (fun j=>bif j==1 then 128 else 0)
 rintro s ⟨zX,gQ,rfl,hm⟩;refine W ?_;refine cm hm (fun hm=>?_) fun hm=>?_
 · exact E
 refine W ?_;refine cm hm (fun hm=>?_) fun hm=>?_
 · exact E
 exact E
instance:Ct prog 148 (K3 prog (vl (ci .u64)) vi vi (t2 vi vi) 148 kN):=⟨fun hm=>sE hm⟩
def jR(rec1:List Int→Int→Int→Option (List Int))(aB:List Int)(i_6:Int)(j_7:Int):Option (List Int):=
 (bif (decide (i_6<j_7)) then
  ((idx aB j_7).bind fun x2=>
  ((idx aB i_6).bind fun x4=>
  ((idx aB i_6).bind fun x6=>
  ((stt aB i_6 x2).bind fun l8=>
  ((idx l8 j_7).bind fun x10=>
  ((stt l8 j_7 x4).bind fun l12=>
  rec1 l12 (IntKind.i64.wrap (i_6+1)) (IntKind.i64.wrap (j_7-1))))))))
 else
  some aB)
def gU:Nat→List Int→Int→Int→Option (List Int)
 |0=>fun _ _ _=>none
 |n+1=>jR (gU n)
def kK(aB:List Int)(a_1:Int)(b_2:Int):Option (List Int):=
 gU aZ aB a_1 (IntKind.i64.wrap (b_2-1))
theorem aAq{aB:List Int}{a_1:Int}{b_2:Int}{r:List Int}(hm:kK aB a_1 b_2=some r){H:aM}{i0:Nat}(he:H.ent i0= .cells 1 (aB.flatMap (ci .u64)) 0):dR prog 149 [.own i0 0 aB.length,.v (.int .i64 a_1),.v (.int .i64 b_2)] H (.tup []) (H.put i0 (.cells 1 (r.flatMap (ci .u64)) 0)):=by
 refine dR.of_bodyM func149 rfl he ?_;generalize H.ent=h0;simp only [ntmps149,List.length_cons,List.length_nil,Nat.reduceAdd,Nat.reduceSub];unfold kK at hm;refine sN 64 ?_
 iterate 2 refine pA ?_
 refine fs (sN 128 ?_)
 iterate 3 refine pA ?_
 refine fs (AWp.block (AWp.loopM (fun m s=> ∃(aB:List Int) (i_6:Int) (j_7:Int),s=(⟨32,(aG (aG (aG (fun _=>AV.any) 0 (.own i0 0 aB.length)) 6 (.v (.int .i64 i_6))) 7 (.v (.int .i64 j_7))),⟨(upd h0 i0 (.cells 1 (aB.flatMap (ci .u64)) 0)),64⟩⟩:St)∧gU m aB i_6 j_7=some r) aZ ?_ ?_ ?_))
 · rintro s ⟨_,_,_,_,h⟩;cases h
 · refine ⟨_,?_,aB,a_1,(IntKind.i64.wrap (b_2-1)),rfl,hm⟩;exact bN (aD 7 _ Z1 (aD 6 _ Z1 (aD 0 _ (bO Z1 Z6) bF))) Zc
 ·
  rintro n1 s ⟨aB,i_6,j_7,rfl,hm⟩;replace hm:jR (gU n1) aB i_6 j_7=some r:=hm;unfold jR at hm;refine AWp.seq' (sN 128 ?_)
  iterate 3 refine pA ?_
  refine fs (AWp.condM hm Z1 (fun _ hm=>?_) (fun _ hm=>?_))
  ·
   refine AWp.skip (aV (AWp.block (sd mix (by kernel_rfl) (N':=192) rfl ?_)))
   iterate 6 refine pA ?_
   obtain ⟨x2,h1,hm⟩:=bnd hm;refine pu rfl (aN underlying24 fF Z1 Za Z6 Z1 h1) ?_;refine pu rfl (bM (CFi .u64) Z1 Za h1 Zb) ?_
   iterate 2 refine pA ?_
   obtain ⟨x4,h3,hm⟩:=bnd hm;refine pu rfl (aN underlying24 fF Z1 Za Z6 Z1 h3) ?_;refine pu rfl (bM (CFi .u64) Z1 Za h3 Zb) ?_;obtain ⟨x6,h5,hm⟩:=bnd hm;refine pu rfl (aN underlying24 fF Z1 Za Z6 Z1 h5) ?_;obtain ⟨l8,h7,hm⟩:=bnd hm;have qh7:=cY h7;refine aI.heap0 (id:=141) rfl (eR (CFi .u64) fF Z1 Z1 Za rfl h7) ?_;obtain ⟨x10,h9,hm⟩:=bnd hm;refine pu rfl (aN underlying24 fF Z1 Za Z6 Z1 h9) ?_;obtain ⟨l12,h11,hm⟩:=bnd hm;have qh11:=cY h11;refine aI.heap0 (id:=143) rfl (eR (CFi .u64) fF Z1 Z1 Za rfl h11) ?_;refine fs (sN 256 ?_)
   iterate 3 refine pA ?_
   refine fs (AWp.reg 64 (N':=320) rfl ?_)
   iterate 3 refine pA ?_
   refine aI.fin (eT (cO ?_));refine ⟨_,?_,l12,(IntKind.i64.wrap (i_6+1)),(IntKind.i64.wrap (j_7-1)),rfl,hm⟩;exact bN (aD 7 _ Z1 (aD 6 _ Z1 (aD 0 _ (bO Z1 Z6) bF))) Zc
  · refine AWp.exit (dJ (dA (cW ?_)));cases hm;exact aLt (.inl rfl) Tryz.results149 Zc
abbrev cI(rec1:List Int→Int→Int→Int→Int→Option (Bool×List Int))(aB:List Int)(a_1:Int)(b_2:Int)(i_7:Int)(j_8:Int):Option (Bool×List Int):=
 rec1 aB a_1 b_2 i_7 (IntKind.i64.wrap (j_8+1))
def fQ(rec1:List Int→Int→Int→Int→Int→Option (Bool×List Int))(rec3:List Int→Int→Int→Int→Int→Int→Option (Bool×List Int))(aB:List Int)(a_1:Int)(b_2:Int)(i_7:Int)(j_8:Int)(fT:Int):Option (Bool×List Int):=
 (bif (decide (fT<b_2)) then
  ((idx aB fT).bind fun x20=>
  ((idx aB (IntKind.i64.wrap (fT-1))).bind fun x22=>
  ((fG x20 x22).bind fun r24=>
  (bif (!r24) then
   cI rec1 aB a_1 b_2 i_7 j_8
  else
   ((idx aB (IntKind.i64.wrap (fT-1))).bind fun x26=>
   ((idx aB fT).bind fun x28=>
   ((idx aB fT).bind fun x30=>
   ((stt aB fT x26).bind fun l32=>
   ((idx l32 (IntKind.i64.wrap (fT-1))).bind fun x34=>
   ((stt l32 (IntKind.i64.wrap (fT-1)) x28).bind fun l36=>
   rec3 l36 a_1 b_2 i_7 j_8 (IntKind.i64.wrap (fT+1))))))))))))
 else
  cI rec1 aB a_1 b_2 i_7 j_8)
def eJ(rec1:List Int→Int→Int→Int→Int→Option (Bool×List Int)):Nat→List Int→Int→Int→Int→Int→Int→Option (Bool×List Int)
 |0=>fun _ _ _ _ _ _=>none
 |n+1=>fQ rec1 (eJ rec1 n)
abbrev dC(rec1:List Int→Int→Int→Int→Int→Option (Bool×List Int))(aB:List Int)(a_1:Int)(b_2:Int)(i_7:Int)(j_8:Int):Option (Bool×List Int):=
 (bif (decide (2≤(IntKind.i64.wrap (b_2-i_7)))) then
  eJ rec1 aZ aB a_1 b_2 i_7 j_8 (IntKind.i64.wrap (i_7+1))
 else
  cI rec1 aB a_1 b_2 i_7 j_8)
def fR(rec1:List Int→Int→Int→Int→Int→Option (Bool×List Int))(rec4:List Int→Int→Int→Int→Int→Int→Option (Bool×List Int))(aB:List Int)(a_1:Int)(b_2:Int)(i_7:Int)(j_8:Int)(j_9:Int):Option (Bool×List Int):=
 (bif (decide (1≤j_9)) then
  ((idx aB j_9).bind fun x38=>
  ((idx aB (IntKind.i64.wrap (j_9-1))).bind fun x40=>
  ((fG x38 x40).bind fun r42=>
  (bif (!r42) then
   dC rec1 aB a_1 b_2 i_7 j_8
  else
   ((idx aB (IntKind.i64.wrap (j_9-1))).bind fun x44=>
   ((idx aB j_9).bind fun x46=>
   ((idx aB j_9).bind fun x48=>
   ((stt aB j_9 x44).bind fun l50=>
   ((idx l50 (IntKind.i64.wrap (j_9-1))).bind fun x52=>
   ((stt l50 (IntKind.i64.wrap (j_9-1)) x46).bind fun l54=>
   rec4 l54 a_1 b_2 i_7 j_8 (IntKind.i64.wrap (j_9-1))))))))))))
 else
  dC rec1 aB a_1 b_2 i_7 j_8)
def eK(rec1:List Int→Int→Int→Int→Int→Option (Bool×List Int)):Nat→List Int→Int→Int→Int→Int→Int→Option (Bool×List Int)
 |0=>fun _ _ _ _ _ _=>none
 |n+1=>fR rec1 (eK rec1 n)
def fP(rec1:List Int→Int→Int→Int→Int→Option (Bool×List Int))(rec2:List Int→Int→Int→Int→Int→Option (Bool×List Int))(aB:List Int)(a_1:Int)(b_2:Int)(i_7:Int)(j_8:Int):Option (Bool×List Int):=
 ((dX ((decide (i_7<b_2))==true) 0 (idx aB i_7)).bind fun x2=>
 ((dX ((decide (i_7<b_2))==true) 0 (idx aB (IntKind.i64.wrap (i_7-1)))).bind fun x4=>
 ((dX ((decide (i_7<b_2))==true) false (fG x2 x4)).bind fun r6=>
 (bif ((decide (i_7<b_2))&&(!r6)) then
  rec2 aB a_1 b_2 (IntKind.i64.wrap (i_7+1)) j_8
 else
  (bif (i_7==b_2) then
   some (true,aB)
  else
   (bif (decide ((IntKind.i64.wrap (b_2-a_1))<50)) then
    some (false,aB)
   else
    ((idx aB (IntKind.i64.wrap (i_7-1))).bind fun x8=>
    ((idx aB i_7).bind fun x10=>
    ((idx aB i_7).bind fun x12=>
    ((stt aB i_7 x8).bind fun l14=>
    ((idx l14 (IntKind.i64.wrap (i_7-1))).bind fun x16=>
    ((stt l14 (IntKind.i64.wrap (i_7-1)) x10).bind fun l18=>
    (bif (decide (2≤(IntKind.i64.wrap (i_7-a_1)))) then
     eK rec1 aZ l18 a_1 b_2 i_7 j_8 (IntKind.i64.wrap (i_7-1))
    else
     dC rec1 l18 a_1 b_2 i_7 j_8)))))))))))))
def eI(rec1:List Int→Int→Int→Int→Int→Option (Bool×List Int)):Nat→List Int→Int→Int→Int→Int→Option (Bool×List Int)
 |0=>fun _ _ _ _ _=>none
 |n+1=>fP rec1 (eI rec1 n)
def fO(rec1:List Int→Int→Int→Int→Int→Option (Bool×List Int))(aB:List Int)(a_1:Int)(b_2:Int)(i_7:Int)(j_8:Int):Option (Bool×List Int):=
 (bif (decide (j_8<5)) then
  eI rec1 aZ aB a_1 b_2 i_7 j_8
 else
  some (false,aB))
def aX:Nat→List Int→Int→Int→Int→Int→Option (Bool×List Int)
 |0=>fun _ _ _ _ _=>none
 |n+1=>fO (aX n)
def gF(aB:List Int)(a_1:Int)(b_2:Int):Option (Bool×List Int):=
 aX aZ aB a_1 b_2 (IntKind.i64.wrap (a_1+1)) 0
theorem uT{aB:List Int}{a_1:Int}{b_2:Int}{r:Bool×List Int}(hm:gF aB a_1 b_2=some r){H:aM}{i0:Nat}(he:H.ent i0= .cells 1 (aB.flatMap (ci .u64)) 0):dR prog 150 [.own i0 0 aB.length,.v (.int .i64 a_1),.v (.int .i64 b_2)] H (.v (.bool r.1)) (H.put i0 (.cells 1 (r.2.flatMap (ci .u64)) 0)):=by
 refine dR.of_bodyM func150 rfl he ?_;generalize H.ent=h0;simp only [ntmps150,List.length_cons,List.length_nil,Nat.reduceAdd,Nat.reduceSub];unfold gF at hm;refine sN 64 (pA ?_);refine fs (sN 128 ?_)
 iterate 3 refine pA ?_
 refine fs (AWp.seq' (sN 192 (pA ?_)));refine fs (AWp.block (AWp.loopM (fun m s=> ∃(aB:List Int) (a_1:Int) (b_2:Int) (i_7:Int) (j_8:Int),s=(⟨133,(aG (aG (aG (aG (aG (fun _=>AV.any) 0 (.own i0 0 aB.length)) 1 (.v (.int .i64 a_1))) 2 (.v (.int .i64 b_2))) 7 (.v (.int .i64 i_7))) 8 (.v (.int .i64 j_8))),⟨(upd h0 i0 (.cells 1 (aB.flatMap (ci .u64)) 0)),64⟩⟩:St)∧aX m aB a_1 b_2 i_7 j_8=some r) aZ ?_ ?_ ?_))
 · rintro s ⟨_,_,_,_,_,_,h⟩;cases h
 · refine ⟨_,?_,aB,a_1,b_2,(IntKind.i64.wrap (a_1+1)),0,rfl,hm⟩;exact bN (aD 8 _ Z1 (aD 7 _ Z1 (aD 2 _ Z1 (aD 1 _ Z1 (aD 0 _ (bO Z1 Z6) bF))))) Zc
 ·
  rintro n1 s ⟨aB,a_1,b_2,i_7,j_8,rfl,hm⟩;replace hm:fO (aX n1) aB a_1 b_2 i_7 j_8=some r:=hm;unfold fO at hm;refine AWp.seq' (sN 128 ?_)
  iterate 2 refine pA ?_
  refine fs (AWp.condM hm Z1 (fun _ hm=>?_) (fun _ hm=>?_))
  ·
   refine AWp.skip (aV (AWp.seqJ (fun s=> ∃(aB:List Int) (a_1:Int) (b_2:Int) (i_7:Int) (j_8:Int),s=(⟨133,(aG (aG (aG (aG (aG (fun _=>AV.any) 0 (.own i0 0 aB.length)) 1 (.v (.int .i64 a_1))) 2 (.v (.int .i64 b_2))) 7 (.v (.int .i64 i_7))) 8 (.v (.int .i64 j_8))),⟨(upd h0 i0 (.cells 1 (aB.flatMap (ci .u64)) 0)),64⟩⟩:St)∧cI (aX n1) aB a_1 b_2 i_7 j_8=some r) ?_ ?_))
   ·
    refine AWp.block (AWp.seq' (AWp.block (AWp.loopM (fun m s=> ∃(aB:List Int) (a_1:Int) (b_2:Int) (i_7:Int) (j_8:Int),s=(⟨133,(aG (aG (aG (aG (aG (fun _=>AV.any) 0 (.own i0 0 aB.length)) 1 (.v (.int .i64 a_1))) 2 (.v (.int .i64 b_2))) 7 (.v (.int .i64 i_7))) 8 (.v (.int .i64 j_8))),⟨(upd h0 i0 (.cells 1 (aB.flatMap (ci .u64)) 0)),64⟩⟩:St)∧eI (aX n1) m aB a_1 b_2 i_7 j_8=some r) aZ ?_ ?_ ?_)))
    · rintro s ⟨_,_,_,_,_,_,h⟩;cases h
    · refine ⟨_,?_,aB,a_1,b_2,i_7,j_8,rfl,hm⟩;exact bN (aD 8 _ Z1 (aD 7 _ Z1 (aD 2 _ Z1 (aD 1 _ Z1 (aD 0 _ (bO Z1 Z6) bF))))) Zc
    ·
     rintro n2 s ⟨aB,a_1,b_2,i_7,j_8,rfl,hm⟩;replace hm:fP (aX n1) (eI (aX n1) n2) aB a_1 b_2 i_7 j_8=some r:=hm;unfold fP at hm;refine AWp.seq' (sd mix (by kernel_rfl) (N':=128) rfl ?_)
     iterate 6 first|refine pA ?_|refine pB ?_
     obtain ⟨x2,h1,hm⟩:=bnd hm;refine pg rfl rfl Z2 (fun hb=>(aN underlying24 fF (Zh hb) Za Z6 (Zh hb) (bI h1 hb))) ?_;refine pg rfl rfl Z2 (fun hb=>(bM (CFi .u64) (Zh hb) Za (bI h1 hb) Zb)) ?_
     iterate 3 refine pB ?_
     obtain ⟨x4,h3,hm⟩:=bnd hm;refine pg rfl rfl Z2 (fun hb=>(aN underlying24 fF (Zh hb) Za Z6 (Zh hb) (bI h3 hb))) ?_;refine pg rfl rfl Z2 (fun hb=>(bM (CFi .u64) (Zh hb) Za (bI h3 hb) Zb)) ?_;obtain ⟨r6,h5,hm⟩:=bnd hm;refine aI.callQG (r:= .v (.bool r6)) Zd rfl Z2 Z1 aG3 (fun hb H=>(.cons (td (Zh hb) (.v _)) (.cons (td (Zh hb) (.v _)) .nil))) (fun hb=>gX (bI h5 hb)) ?_
     iterate 2 first|refine pA ?_|refine pB ?_
     refine fs (AWp.condM hm Z1 (fun _ hm=>?_) (fun _ hm=>?_))
     ·
      refine AWp.skip (aV (AWp.block (AWp.reg 64 (N':=192) rfl ?_)))
      iterate 3 refine pA ?_
      refine aI.fin (eT (cO ?_));refine ⟨_,?_,aB,a_1,b_2,(IntKind.i64.wrap (i_7+1)),j_8,rfl,hm⟩;exact bN (aD 8 _ Z1 (aD 7 _ Z1 (aD 2 _ Z1 (aD 1 _ Z1 (aD 0 _ (bO Z1 Z6) bF))))) Zc
     ·
      refine AWp.exit (dJ (dA (cW (aV (AWp.seq' (sN 192 ?_))))))
      iterate 3 refine pA ?_
      refine fs (AWp.condM hm Z1 (fun _ hm=>?_) (fun _ hm=>?_))
      · refine sN 256 (pA ?_);refine fs (AWp.ret (lD (qD (aRr (qX (qD (lD ?_)))))));cases hm;exact aGc (.inr rfl) Tryz.results150 Z1 Zc
      ·
       refine AWp.skip (aV (AWp.seq' (sN 256 ?_)))
       iterate 4 refine pA ?_
       refine fs (AWp.condM hm Z1 (fun _ hm=>?_) (fun _ hm=>?_))
       · refine sN 320 (pA ?_);refine fs (AWp.ret (lD (qD (aRr (qX (qD (lD ?_)))))));cases hm;exact aGc (.inr rfl) Tryz.results150 Z1 Zc
       ·
        refine AWp.skip (aV (sd mix (by kernel_rfl) (N':=320) rfl ?_))
        iterate 8 refine pA ?_
        obtain ⟨x8,h7,hm⟩:=bnd hm;refine pu rfl (aN underlying24 fF Z1 Za Z6 Z1 h7) ?_;refine pu rfl (bM (CFi .u64) Z1 Za h7 Zb) ?_
        iterate 2 refine pA ?_
        obtain ⟨x10,h9,hm⟩:=bnd hm;refine pu rfl (aN underlying24 fF Z1 Za Z6 Z1 h9) ?_;refine pu rfl (bM (CFi .u64) Z1 Za h9 Zb) ?_;obtain ⟨x12,h11,hm⟩:=bnd hm;refine pu rfl (aN underlying24 fF Z1 Za Z6 Z1 h11) ?_;obtain ⟨l14,h13,hm⟩:=bnd hm;have qh13:=cY h13;refine aI.heap0 (id:=271) rfl (eR (CFi .u64) fF Z1 Z1 Za rfl h13) ?_;obtain ⟨x16,h15,hm⟩:=bnd hm;refine pu rfl (aN underlying24 fF Z1 Za Z6 Z1 h15) ?_;obtain ⟨l18,h17,hm⟩:=bnd hm;have qh17:=cY h17;refine aI.heap0 (id:=273) rfl (eR (CFi .u64) fF Z1 Z1 Za rfl h17) ?_;refine fs (AWp.seqJ (fun s=> ∃(aB:List Int) (a_1:Int) (b_2:Int) (i_7:Int) (j_8:Int),s=(⟨133,(aG (aG (aG (aG (aG (fun _=>AV.any) 0 (.own i0 0 aB.length)) 1 (.v (.int .i64 a_1))) 2 (.v (.int .i64 b_2))) 7 (.v (.int .i64 i_7))) 8 (.v (.int .i64 j_8))),⟨(upd h0 i0 (.cells 1 (aB.flatMap (ci .u64)) 0)),64⟩⟩:St)∧dC (aX n1) aB a_1 b_2 i_7 j_8=some r) ?_ ?_)
        ·
         refine sN 384 ?_
         iterate 4 refine pA ?_
         refine fs (AWp.condM hm Z1 (fun _ hm=>?_) (fun _ hm=>?_))
         ·
          refine sN 448 ?_
          iterate 3 refine pA ?_
          refine fs (AWp.block (AWp.loopM (fun m s=> ∃(aB:List Int) (a_1:Int) (b_2:Int) (i_7:Int) (j_8:Int) (j_9:Int),s=(⟨133,(aG (aG (aG (aG (aG (aG (fun _=>AV.any) 0 (.own i0 0 aB.length)) 1 (.v (.int .i64 a_1))) 2 (.v (.int .i64 b_2))) 7 (.v (.int .i64 i_7))) 8 (.v (.int .i64 j_8))) 9 (.v (.int .i64 j_9))),⟨(upd h0 i0 (.cells 1 (aB.flatMap (ci .u64)) 0)),64⟩⟩:St)∧eK (aX n1) m aB a_1 b_2 i_7 j_8 j_9=some r) aZ ?_ ?_ ?_))
          · rintro s ⟨_,_,_,_,_,_,_,h⟩;cases h
          · refine ⟨_,?_,l18,a_1,b_2,i_7,j_8,(IntKind.i64.wrap (i_7-1)),rfl,hm⟩;exact bN (aD 9 _ Z1 (aD 8 _ Z1 (aD 7 _ Z1 (aD 2 _ Z1 (aD 1 _ Z1 (aD 0 _ (bO Z1 Z6) bF)))))) Zc
          ·
           rintro n4 s ⟨aB,a_1,b_2,i_7,j_8,j_9,rfl,hm⟩;replace hm:fR (aX n1) (eK (aX n1) n4) aB a_1 b_2 i_7 j_8 j_9=some r:=hm;unfold fR at hm;refine AWp.seq' (sN 128 ?_)
           iterate 2 refine pA ?_
           refine fs (AWp.condM hm Z1 (fun _ hm=>?_) (fun _ hm=>?_))
           ·
            refine AWp.skip (aV (AWp.seq' (AWp.block (AWp.seq' (sd mix (by kernel_rfl) (N':=192) rfl ?_)))))
            iterate 2 refine pA ?_
            obtain ⟨x38,h37,hm⟩:=bnd hm;refine pu rfl (aN underlying24 fF Z1 Za Z6 Z1 h37) ?_;refine pu rfl (bM (CFi .u64) Z1 Za h37 Zb) ?_
            iterate 3 refine pA ?_
            obtain ⟨x40,h39,hm⟩:=bnd hm;refine pu rfl (aN underlying24 fF Z1 Za Z6 Z1 h39) ?_;refine pu rfl (bM (CFi .u64) Z1 Za h39 Zb) ?_;obtain ⟨r42,h41,hm⟩:=bnd hm;refine aI.callQ (r:= .v (.bool r42)) Zd Z1 aG3 (fun H=>(cV (cV .nil))) (gX h41) ?_;refine pA ?_;refine fs (AWp.condM hm Z1 (fun _ hm=>?_) (fun _ hm=>?_))
            · refine AWp.exit (dJ (rQ Zd ?_));refine dJ (dA (cW (nH ?_)));refine ⟨_,?_,aB,a_1,b_2,i_7,j_8,rfl,hm⟩;exact bN (aD 8 _ Z1 (aD 7 _ Z1 (aD 2 _ Z1 (aD 1 _ Z1 (aD 0 _ (bO Z1 Z6) bF))))) Zc
            ·
             refine AWp.skip (aV (AWp.regD 64 mix (by kernel_rfl) (N':=256) rfl ?_))
             iterate 8 refine pA ?_
             obtain ⟨x44,h43,hm⟩:=bnd hm;refine pu rfl (aN underlying24 fF Z1 Za Z6 Z1 h43) ?_;refine pu rfl (bM (CFi .u64) Z1 Za h43 Zb) ?_
             iterate 2 refine pA ?_
             obtain ⟨x46,h45,hm⟩:=bnd hm;refine pu rfl (aN underlying24 fF Z1 Za Z6 Z1 h45) ?_;refine pu rfl (bM (CFi .u64) Z1 Za h45 Zb) ?_;obtain ⟨x48,h47,hm⟩:=bnd hm;refine pu rfl (aN underlying24 fF Z1 Za Z6 Z1 h47) ?_;obtain ⟨l50,h49,hm⟩:=bnd hm;have qh49:=cY h49;refine aI.heap0 (id:=207) rfl (eR (CFi .u64) fF Z1 Z1 Za rfl h49) ?_;obtain ⟨x52,h51,hm⟩:=bnd hm;refine pu rfl (aN underlying24 fF Z1 Za Z6 Z1 h51) ?_;obtain ⟨l54,h53,hm⟩:=bnd hm;have qh53:=cY h53;refine aI.heap0 (id:=209) rfl (eR (CFi .u64) fF Z1 Z1 Za rfl h53) ?_;refine aI.fin (eT (aV (AWp.reg 64 (N':=320) rfl ?_)))
             iterate 3 refine pA ?_
             refine aI.fin (cO ?_);refine ⟨_,?_,l54,a_1,b_2,i_7,j_8,(IntKind.i64.wrap (j_9-1)),rfl,hm⟩;exact bN (aD 9 _ Z1 (aD 8 _ Z1 (aD 7 _ Z1 (aD 2 _ Z1 (aD 1 _ Z1 (aD 0 _ (bO Z1 Z6) bF)))))) Zc
           · refine AWp.exit (dJ (dA (cW (nH ?_))));refine ⟨_,?_,aB,a_1,b_2,i_7,j_8,rfl,hm⟩;exact bN (aD 8 _ Z1 (aD 7 _ Z1 (aD 2 _ Z1 (aD 1 _ Z1 (aD 0 _ (bO Z1 Z6) bF))))) Zc
         · refine AWp.skip (nH ?_);refine ⟨_,?_,l18,a_1,b_2,i_7,j_8,rfl,hm⟩;exact bN (aD 8 _ Z1 (aD 7 _ Z1 (aD 2 _ Z1 (aD 1 _ Z1 (aD 0 _ (bO Z1 Z6) bF))))) Zc
        ·
         rintro s ⟨aB,a_1,b_2,i_7,j_8,rfl,hm⟩;unfold dC at hm;refine sN 128 ?_
         iterate 4 refine pA ?_
         refine fs (AWp.condM hm Z1 (fun _ hm=>?_) (fun _ hm=>?_))
         ·
          refine sN 192 ?_
          iterate 3 refine pA ?_
          refine fs (AWp.block (AWp.loopM (fun m s=> ∃(aB:List Int) (a_1:Int) (b_2:Int) (i_7:Int) (j_8:Int) (fT:Int),s=(⟨133,(aG (aG (aG (aG (aG (aG (fun _=>AV.any) 0 (.own i0 0 aB.length)) 1 (.v (.int .i64 a_1))) 2 (.v (.int .i64 b_2))) 7 (.v (.int .i64 i_7))) 8 (.v (.int .i64 j_8))) 10 (.v (.int .i64 fT))),⟨(upd h0 i0 (.cells 1 (aB.flatMap (ci .u64)) 0)),64⟩⟩:St)∧eJ (aX n1) m aB a_1 b_2 i_7 j_8 fT=some r) aZ ?_ ?_ ?_))
          · rintro s ⟨_,_,_,_,_,_,_,h⟩;cases h
          · refine ⟨_,?_,aB,a_1,b_2,i_7,j_8,(IntKind.i64.wrap (i_7+1)),rfl,hm⟩;exact bN (aD 10 _ Z1 (aD 8 _ Z1 (aD 7 _ Z1 (aD 2 _ Z1 (aD 1 _ Z1 (aD 0 _ (bO Z1 Z6) bF)))))) Zc
          ·
           rintro n3 s ⟨aB,a_1,b_2,i_7,j_8,fT,rfl,hm⟩;replace hm:fQ (aX n1) (eJ (aX n1) n3) aB a_1 b_2 i_7 j_8 fT=some r:=hm;unfold fQ at hm;refine AWp.seq' (sN 128 ?_)
           iterate 3 refine pA ?_
           refine fs (AWp.condM hm Z1 (fun _ hm=>?_) (fun _ hm=>?_))
           ·
            refine AWp.skip (aV (AWp.seq' (AWp.block (AWp.seq' (sd mix (by kernel_rfl) (N':=192) rfl ?_)))))
            iterate 2 refine pA ?_
            obtain ⟨x20,h19,hm⟩:=bnd hm;refine pu rfl (aN underlying24 fF Z1 Za Z6 Z1 h19) ?_;refine pu rfl (bM (CFi .u64) Z1 Za h19 Zb) ?_
            iterate 3 refine pA ?_
            obtain ⟨x22,h21,hm⟩:=bnd hm;refine pu rfl (aN underlying24 fF Z1 Za Z6 Z1 h21) ?_;refine pu rfl (bM (CFi .u64) Z1 Za h21 Zb) ?_;obtain ⟨r24,h23,hm⟩:=bnd hm;refine aI.callQ (r:= .v (.bool r24)) Zd Z1 aG3 (fun H=>(cV (cV .nil))) (gX h23) ?_;refine pA ?_;refine fs (AWp.condM hm Z1 (fun _ hm=>?_) (fun _ hm=>?_))
            · refine AWp.exit (dJ (rQ Zd ?_));refine dJ (dA (cW (eT (nH ?_))));refine ⟨_,?_,aB,a_1,b_2,i_7,j_8,rfl,hm⟩;exact bN (aD 8 _ Z1 (aD 7 _ Z1 (aD 2 _ Z1 (aD 1 _ Z1 (aD 0 _ (bO Z1 Z6) bF))))) Zc
            ·
             refine AWp.skip (aV (AWp.regD 64 mix (by kernel_rfl) (N':=256) rfl ?_))
             iterate 8 refine pA ?_
             obtain ⟨x26,h25,hm⟩:=bnd hm;refine pu rfl (aN underlying24 fF Z1 Za Z6 Z1 h25) ?_;refine pu rfl (bM (CFi .u64) Z1 Za h25 Zb) ?_
             iterate 2 refine pA ?_
             obtain ⟨x28,h27,hm⟩:=bnd hm;refine pu rfl (aN underlying24 fF Z1 Za Z6 Z1 h27) ?_;refine pu rfl (bM (CFi .u64) Z1 Za h27 Zb) ?_;obtain ⟨x30,h29,hm⟩:=bnd hm;refine pu rfl (aN underlying24 fF Z1 Za Z6 Z1 h29) ?_;obtain ⟨l32,h31,hm⟩:=bnd hm;have qh31:=cY h31;refine aI.heap0 (id:=207) rfl (eR (CFi .u64) fF Z1 Z1 Za rfl h31) ?_;obtain ⟨x34,h33,hm⟩:=bnd hm;refine pu rfl (aN underlying24 fF Z1 Za Z6 Z1 h33) ?_;obtain ⟨l36,h35,hm⟩:=bnd hm;have qh35:=cY h35;refine aI.heap0 (id:=209) rfl (eR (CFi .u64) fF Z1 Z1 Za rfl h35) ?_;refine aI.fin (eT (aV (AWp.reg 64 (N':=320) rfl ?_)))
             iterate 3 refine pA ?_
             refine aI.fin (cO ?_);refine ⟨_,?_,l36,a_1,b_2,i_7,j_8,(IntKind.i64.wrap (fT+1)),rfl,hm⟩;exact bN (aD 10 _ Z1 (aD 8 _ Z1 (aD 7 _ Z1 (aD 2 _ Z1 (aD 1 _ Z1 (aD 0 _ (bO Z1 Z6) bF)))))) Zc
           · refine AWp.exit (dJ (dA (cW (eT (nH ?_)))));refine ⟨_,?_,aB,a_1,b_2,i_7,j_8,rfl,hm⟩;exact bN (aD 8 _ Z1 (aD 7 _ Z1 (aD 2 _ Z1 (aD 1 _ Z1 (aD 0 _ (bO Z1 Z6) bF))))) Zc
         · refine AWp.skip (eT (nH ?_));refine ⟨_,?_,aB,a_1,b_2,i_7,j_8,rfl,hm⟩;exact bN (aD 8 _ Z1 (aD 7 _ Z1 (aD 2 _ Z1 (aD 1 _ Z1 (aD 0 _ (bO Z1 Z6) bF))))) Zc
   ·
    rintro s ⟨aB,a_1,b_2,i_7,j_8,rfl,hm⟩;unfold cI at hm;refine AWp.reg 64 (N':=128) rfl ?_
    iterate 3 refine pA ?_
    refine aI.fin (cO ?_);refine ⟨_,?_,aB,a_1,b_2,i_7,(IntKind.i64.wrap (j_8+1)),rfl,hm⟩;exact bN (aD 8 _ Z1 (aD 7 _ Z1 (aD 2 _ Z1 (aD 1 _ Z1 (aD 0 _ (bO Z1 Z6) bF))))) Zc
  · refine AWp.exit (dJ (dA (cW (aV (sN 192 (pA ?_))))));refine fs (AWp.ret ?_);cases hm;exact aGc (.inr rfl) Tryz.results150 Z1 Zc
def iB(rec1:List Int→Int→Int→Int→Option (Int×List Int))(rec3:List Int→Int→Int→Int→Option (Int×List Int))(aB:List Int)(a_1:Int)(i_9:Int)(fT:Int):Option (Int×List Int):=
 ((dX ((decide (i_9≤fT))==true) 0 (idx aB a_1)).bind fun x20=>
 ((dX ((decide (i_9≤fT))==true) 0 (idx aB fT)).bind fun x22=>
 ((dX ((decide (i_9≤fT))==true) false (fG x20 x22)).bind fun r24=>
 (bif ((decide (i_9≤fT))&&r24) then
  rec3 aB a_1 i_9 (IntKind.i64.wrap (fT-1))
 else
  (bif (decide (fT<i_9)) then
   some (i_9,aB)
  else
   ((idx aB fT).bind fun x26=>
   ((idx aB i_9).bind fun x28=>
   ((idx aB i_9).bind fun x30=>
   ((stt aB i_9 x26).bind fun l32=>
   ((idx l32 fT).bind fun x34=>
   ((stt l32 fT x28).bind fun l36=>
   rec1 l36 a_1 (IntKind.i64.wrap (i_9+1)) (IntKind.i64.wrap (fT-1)))))))))))))
def fX(rec1:List Int→Int→Int→Int→Option (Int×List Int)):Nat→List Int→Int→Int→Int→Option (Int×List Int)
 |0=>fun _ _ _ _=>none
 |n+1=>iB rec1 (fX rec1 n)
def iA(rec1:List Int→Int→Int→Int→Option (Int×List Int))(rec2:List Int→Int→Int→Int→Option (Int×List Int))(aB:List Int)(a_1:Int)(i_9:Int)(fT:Int):Option (Int×List Int):=
 ((dX ((decide (i_9≤fT))==true) 0 (idx aB a_1)).bind fun x14=>
 ((dX ((decide (i_9≤fT))==true) 0 (idx aB i_9)).bind fun x16=>
 ((dX ((decide (i_9≤fT))==true) false (fG x14 x16)).bind fun r18=>
 (bif ((decide (i_9≤fT))&&(!r18)) then
  rec2 aB a_1 (IntKind.i64.wrap (i_9+1)) fT
 else
  fX rec1 aZ aB a_1 i_9 fT))))
def fW(rec1:List Int→Int→Int→Int→Option (Int×List Int)):Nat→List Int→Int→Int→Int→Option (Int×List Int)
 |0=>fun _ _ _ _=>none
 |n+1=>iA rec1 (fW rec1 n)
def hZ(rec1:List Int→Int→Int→Int→Option (Int×List Int))(aB:List Int)(a_1:Int)(i_9:Int)(fT:Int):Option (Int×List Int):=
 fW rec1 aZ aB a_1 i_9 fT
def bY:Nat→List Int→Int→Int→Int→Option (Int×List Int)
 |0=>fun _ _ _ _=>none
 |n+1=>hZ (bY n)
def iY(aB:List Int)(a_1:Int)(b_2:Int)(nA:Int):Option (Int×List Int):=
 ((idx aB nA).bind fun x2=>
 ((idx aB a_1).bind fun x4=>
 ((idx aB a_1).bind fun x6=>
 ((stt aB a_1 x2).bind fun l8=>
 ((idx l8 nA).bind fun x10=>
 ((stt l8 nA x4).bind fun l12=>
 bY aZ l12 a_1 (IntKind.i64.wrap (a_1+1)) (IntKind.i64.wrap (b_2-1))))))))
theorem zK{aB:List Int}{a_1:Int}{b_2:Int}{nA:Int}{r:Int×List Int}(hm:iY aB a_1 b_2 nA=some r){H:aM}{i0:Nat}(he:H.ent i0= .cells 1 (aB.flatMap (ci .u64)) 0):dR prog 152 [.own i0 0 aB.length,.v (.int .i64 a_1),.v (.int .i64 b_2),.v (.int .i64 nA)] H (.v (.int .i64 r.1)) (H.put i0 (.cells 1 (r.2.flatMap (ci .u64)) 0)):=by
 refine dR.of_bodyM func152 rfl he ?_;generalize H.ent=h0;simp only [ntmps152,List.length_cons,List.length_nil,Nat.reduceAdd,Nat.reduceSub];unfold iY at hm;refine sN 64 (pA ?_);refine fs (sd mix (by kernel_rfl) (N':=128) rfl ?_)
 iterate 6 refine pA ?_
 obtain ⟨x2,h1,hm⟩:=bnd hm;refine pu rfl (aN underlying24 fF Z1 Za Z6 Z1 h1) ?_;refine pu rfl (bM (CFi .u64) Z1 Za h1 Zb) ?_
 iterate 2 refine pA ?_
 obtain ⟨x4,h3,hm⟩:=bnd hm;refine pu rfl (aN underlying24 fF Z1 Za Z6 Z1 h3) ?_;refine pu rfl (bM (CFi .u64) Z1 Za h3 Zb) ?_;obtain ⟨x6,h5,hm⟩:=bnd hm;refine pu rfl (aN underlying24 fF Z1 Za Z6 Z1 h5) ?_;obtain ⟨l8,h7,hm⟩:=bnd hm;have qh7:=cY h7;refine aI.heap0 (id:=77) rfl (eR (CFi .u64) fF Z1 Z1 Za rfl h7) ?_;obtain ⟨x10,h9,hm⟩:=bnd hm;refine pu rfl (aN underlying24 fF Z1 Za Z6 Z1 h9) ?_;obtain ⟨l12,h11,hm⟩:=bnd hm;have qh11:=cY h11;refine aI.heap0 (id:=79) rfl (eR (CFi .u64) fF Z1 Z1 Za rfl h11) ?_;refine fs (sN 192 ?_)
 iterate 6 refine pA ?_
 refine fs (AWp.seq' (AWp.block (AWp.loopM (fun m s=> ∃(aB:List Int) (a_1:Int) (i_9:Int) (fT:Int),s=(⟨84,(aG (aG (aG (aG (fun _=>AV.any) 0 (.own i0 0 aB.length)) 1 (.v (.int .i64 a_1))) 9 (.v (.int .i64 i_9))) 10 (.v (.int .i64 fT))),⟨(upd h0 i0 (.cells 1 (aB.flatMap (ci .u64)) 0)),64⟩⟩:St)∧bY m aB a_1 i_9 fT=some r) aZ ?_ ?_ ?_)))
 · rintro s ⟨_,_,_,_,_,h⟩;cases h
 · refine ⟨_,?_,l12,a_1,(IntKind.i64.wrap (a_1+1)),(IntKind.i64.wrap (b_2-1)),rfl,hm⟩;exact bN (aD 10 _ Z1 (aD 9 _ Z1 (aD 1 _ Z1 (aD 0 _ (bO Z1 Z6) bF)))) Zc
 ·
  rintro n1 s ⟨aB,a_1,i_9,fT,rfl,hm⟩;replace hm:hZ (bY n1) aB a_1 i_9 fT=some r:=hm;unfold hZ at hm;refine AWp.block (AWp.seq' (AWp.block (AWp.loopM (fun m s=> ∃(aB:List Int) (a_1:Int) (i_9:Int) (fT:Int),s=(⟨84,(aG (aG (aG (aG (fun _=>AV.any) 0 (.own i0 0 aB.length)) 1 (.v (.int .i64 a_1))) 9 (.v (.int .i64 i_9))) 10 (.v (.int .i64 fT))),⟨(upd h0 i0 (.cells 1 (aB.flatMap (ci .u64)) 0)),64⟩⟩:St)∧fW (bY n1) m aB a_1 i_9 fT=some r) aZ ?_ ?_ ?_)))
  · rintro s ⟨_,_,_,_,_,h⟩;cases h
  · refine ⟨_,?_,aB,a_1,i_9,fT,rfl,hm⟩;exact bN (aD 10 _ Z1 (aD 9 _ Z1 (aD 1 _ Z1 (aD 0 _ (bO Z1 Z6) bF)))) Zc
  ·
   rintro n2 s ⟨aB,a_1,i_9,fT,rfl,hm⟩;replace hm:iA (bY n1) (fW (bY n1) n2) aB a_1 i_9 fT=some r:=hm;unfold iA at hm;refine AWp.seq' (sd mix (by kernel_rfl) (N':=128) rfl ?_)
   iterate 6 first|refine pA ?_|refine pB ?_
   obtain ⟨x14,h13,hm⟩:=bnd hm;refine pg rfl rfl Z2 (fun hb=>(aN underlying24 fF (Zh hb) Za Z6 (Zh hb) (bI h13 hb))) ?_;refine pg rfl rfl Z2 (fun hb=>(bM (CFi .u64) (Zh hb) Za (bI h13 hb) Zb)) ?_
   iterate 2 refine pB ?_
   obtain ⟨x16,h15,hm⟩:=bnd hm;refine pg rfl rfl Z2 (fun hb=>(aN underlying24 fF (Zh hb) Za Z6 (Zh hb) (bI h15 hb))) ?_;refine pg rfl rfl Z2 (fun hb=>(bM (CFi .u64) (Zh hb) Za (bI h15 hb) Zb)) ?_;obtain ⟨r18,h17,hm⟩:=bnd hm;refine aI.callQG (r:= .v (.bool r18)) Zd rfl Z2 Z1 aG3 (fun hb H=>(.cons (td (Zh hb) (.v _)) (.cons (td (Zh hb) (.v _)) .nil))) (fun hb=>gX (bI h17 hb)) ?_
   iterate 2 first|refine pA ?_|refine pB ?_
   refine fs (AWp.condM hm Z1 (fun _ hm=>?_) (fun _ hm=>?_))
   ·
    refine AWp.skip (aV (AWp.block (AWp.reg 64 (N':=192) rfl ?_)))
    iterate 3 refine pA ?_
    refine aI.fin (eT (cO ?_));refine ⟨_,?_,aB,a_1,(IntKind.i64.wrap (i_9+1)),fT,rfl,hm⟩;exact bN (aD 10 _ Z1 (aD 9 _ Z1 (aD 1 _ Z1 (aD 0 _ (bO Z1 Z6) bF)))) Zc
   ·
    refine AWp.exit (dJ (dA (cW (aV (AWp.seq' (AWp.block (AWp.loopM (fun m s=> ∃(aB:List Int) (a_1:Int) (i_9:Int) (fT:Int),s=(⟨84,(aG (aG (aG (aG (fun _=>AV.any) 0 (.own i0 0 aB.length)) 1 (.v (.int .i64 a_1))) 9 (.v (.int .i64 i_9))) 10 (.v (.int .i64 fT))),⟨(upd h0 i0 (.cells 1 (aB.flatMap (ci .u64)) 0)),64⟩⟩:St)∧fX (bY n1) m aB a_1 i_9 fT=some r) aZ ?_ ?_ ?_)))))))
    · rintro s ⟨_,_,_,_,_,h⟩;cases h
    · refine ⟨_,?_,aB,a_1,i_9,fT,rfl,hm⟩;exact bN (aD 10 _ Z1 (aD 9 _ Z1 (aD 1 _ Z1 (aD 0 _ (bO Z1 Z6) bF)))) Zc
    ·
     rintro n3 s ⟨aB,a_1,i_9,fT,rfl,hm⟩;replace hm:iB (bY n1) (fX (bY n1) n3) aB a_1 i_9 fT=some r:=hm;unfold iB at hm;refine AWp.seq' (sd mix (by kernel_rfl) (N':=128) rfl ?_)
     iterate 6 first|refine pA ?_|refine pB ?_
     obtain ⟨x20,h19,hm⟩:=bnd hm;refine pg rfl rfl Z2 (fun hb=>(aN underlying24 fF (Zh hb) Za Z6 (Zh hb) (bI h19 hb))) ?_;refine pg rfl rfl Z2 (fun hb=>(bM (CFi .u64) (Zh hb) Za (bI h19 hb) Zb)) ?_
     iterate 2 refine pB ?_
     obtain ⟨x22,h21,hm⟩:=bnd hm;refine pg rfl rfl Z2 (fun hb=>(aN underlying24 fF (Zh hb) Za Z6 (Zh hb) (bI h21 hb))) ?_;refine pg rfl rfl Z2 (fun hb=>(bM (CFi .u64) (Zh hb) Za (bI h21 hb) Zb)) ?_;obtain ⟨r24,h23,hm⟩:=bnd hm;refine aI.callQG (r:= .v (.bool r24)) Zd rfl Z2 Z1 aG3 (fun hb H=>(.cons (td (Zh hb) (.v _)) (.cons (td (Zh hb) (.v _)) .nil))) (fun hb=>gX (bI h23 hb)) ?_;refine pA ?_;refine fs (AWp.condM hm Z1 (fun _ hm=>?_) (fun _ hm=>?_))
     ·
      refine AWp.skip (aV (AWp.block (AWp.reg 64 (N':=192) rfl ?_)))
      iterate 3 refine pA ?_
      refine aI.fin (eT (cO ?_));refine ⟨_,?_,aB,a_1,i_9,(IntKind.i64.wrap (fT-1)),rfl,hm⟩;exact bN (aD 10 _ Z1 (aD 9 _ Z1 (aD 1 _ Z1 (aD 0 _ (bO Z1 Z6) bF)))) Zc
     ·
      refine AWp.exit (dJ (dA (cW (aV (AWp.seq' (sN 192 ?_))))))
      iterate 3 refine pA ?_
      refine fs (AWp.condM hm Z1 (fun _ hm=>?_) (fun _ hm=>?_))
      ·
       refine AWp.exit (dJ (rQ Zd ?_));refine dA (cW (aV (sN 256 ?_)))
       iterate 2 refine pA ?_
       refine fs (AWp.ret ?_);cases hm;exact aGc (.inr rfl) Tryz.results152 Z1 Zc
      ·
       refine AWp.skip (aV (sd mix (by kernel_rfl) (N':=256) rfl ?_))
       iterate 6 refine pA ?_
       obtain ⟨x26,h25,hm⟩:=bnd hm;refine pu rfl (aN underlying24 fF Z1 Za Z6 Z1 h25) ?_;refine pu rfl (bM (CFi .u64) Z1 Za h25 Zb) ?_
       iterate 2 refine pA ?_
       obtain ⟨x28,h27,hm⟩:=bnd hm;refine pu rfl (aN underlying24 fF Z1 Za Z6 Z1 h27) ?_;refine pu rfl (bM (CFi .u64) Z1 Za h27 Zb) ?_;obtain ⟨x30,h29,hm⟩:=bnd hm;refine pu rfl (aN underlying24 fF Z1 Za Z6 Z1 h29) ?_;obtain ⟨l32,h31,hm⟩:=bnd hm;have qh31:=cY h31;refine aI.heap0 (id:=205) rfl (eR (CFi .u64) fF Z1 Z1 Za rfl h31) ?_;obtain ⟨x34,h33,hm⟩:=bnd hm;refine pu rfl (aN underlying24 fF Z1 Za Z6 Z1 h33) ?_;obtain ⟨l36,h35,hm⟩:=bnd hm;have qh35:=cY h35;refine aI.heap0 (id:=207) rfl (eR (CFi .u64) fF Z1 Z1 Za rfl h35) ?_;refine fs (sN 320 ?_)
       iterate 3 refine pA ?_
       refine fs (AWp.reg 64 (N':=384) rfl ?_)
       iterate 3 refine pA ?_
       refine aI.fin (eT (cO ?_));refine ⟨_,?_,l36,a_1,(IntKind.i64.wrap (i_9+1)),(IntKind.i64.wrap (fT-1)),rfl,hm⟩;exact bN (aD 10 _ Z1 (aD 9 _ Z1 (aD 1 _ Z1 (aD 0 _ (bO Z1 Z6) bF)))) Zc
def lC(rec3:List Int→Int→Int→Int→Option (Int×Bool×List Int))(rec5:List Int→Int→Int→Int→Option (Int×Bool×List Int))(aB:List Int)(a_1:Int)(kD:Int)(gQ:Int):Option (Int×Bool×List Int):=
 ((dX ((decide (kD≤gQ))==true) 0 (idx aB gQ)).bind fun x56=>
 ((dX ((decide (kD≤gQ))==true) 0 (idx aB a_1)).bind fun x58=>
 ((dX ((decide (kD≤gQ))==true) false (fG x56 x58)).bind fun r60=>
 (bif ((decide (kD≤gQ))&&(!r60)) then
  rec5 aB a_1 kD (IntKind.i64.wrap (gQ-1))
 else
  (bif (decide (gQ<kD)) then
   ((idx aB a_1).bind fun x62=>
   ((idx aB gQ).bind fun x64=>
   ((idx aB gQ).bind fun x66=>
   ((stt aB gQ x62).bind fun l68=>
   ((idx l68 a_1).bind fun x70=>
   ((stt l68 a_1 x64).bind fun l72=>
   some (gQ,false,l72)))))))
  else
   ((idx aB gQ).bind fun x74=>
   ((idx aB kD).bind fun x76=>
   ((idx aB kD).bind fun x78=>
   ((stt aB kD x74).bind fun l80=>
   ((idx l80 gQ).bind fun x82=>
   ((stt l80 gQ x76).bind fun l84=>
   rec3 l84 a_1 (IntKind.i64.wrap (kD+1)) (IntKind.i64.wrap (gQ-1)))))))))))))
def iK(rec3:List Int→Int→Int→Int→Option (Int×Bool×List Int)):Nat→List Int→Int→Int→Int→Option (Int×Bool×List Int)
 |0=>fun _ _ _ _=>none
 |n+1=>lC rec3 (iK rec3 n)
def lA(rec3:List Int→Int→Int→Int→Option (Int×Bool×List Int))(rec4:List Int→Int→Int→Int→Option (Int×Bool×List Int))(aB:List Int)(a_1:Int)(kD:Int)(gQ:Int):Option (Int×Bool×List Int):=
 ((dX ((decide (kD≤gQ))==true) 0 (idx aB kD)).bind fun x50=>
 ((dX ((decide (kD≤gQ))==true) 0 (idx aB a_1)).bind fun x52=>
 ((dX ((decide (kD≤gQ))==true) false (fG x50 x52)).bind fun r54=>
 (bif ((decide (kD≤gQ))&&r54) then
  rec4 aB a_1 (IntKind.i64.wrap (kD+1)) gQ
 else
  iK rec3 aZ aB a_1 kD gQ))))
def iJ(rec3:List Int→Int→Int→Int→Option (Int×Bool×List Int)):Nat→List Int→Int→Int→Int→Option (Int×Bool×List Int)
 |0=>fun _ _ _ _=>none
 |n+1=>lA rec3 (iJ rec3 n)
def kZ(rec3:List Int→Int→Int→Int→Option (Int×Bool×List Int))(aB:List Int)(a_1:Int)(kD:Int)(gQ:Int):Option (Int×Bool×List Int):=
 iJ rec3 aZ aB a_1 kD gQ
def cU:Nat→List Int→Int→Int→Int→Option (Int×Bool×List Int)
 |0=>fun _ _ _ _=>none
 |n+1=>kZ (cU n)
def kY(rec2:List Int→Int→Int→Int→Option (Int×Bool×List Int))(aB:List Int)(a_1:Int)(kD:Int)(gQ:Int):Option (Int×Bool×List Int):=
 ((dX ((decide (kD≤gQ))==true) 0 (idx aB gQ)).bind fun x20=>
 ((dX ((decide (kD≤gQ))==true) 0 (idx aB a_1)).bind fun x22=>
 ((dX ((decide (kD≤gQ))==true) false (fG x20 x22)).bind fun r24=>
 (bif ((decide (kD≤gQ))&&(!r24)) then
  rec2 aB a_1 kD (IntKind.i64.wrap (gQ-1))
 else
  (bif (decide (gQ<kD)) then
   ((idx aB a_1).bind fun x26=>
   ((idx aB gQ).bind fun x28=>
   ((idx aB gQ).bind fun x30=>
   ((stt aB gQ x26).bind fun l32=>
   ((idx l32 a_1).bind fun x34=>
   ((stt l32 a_1 x28).bind fun l36=>
   some (gQ,true,l36)))))))
  else
   ((idx aB gQ).bind fun x38=>
   ((idx aB kD).bind fun x40=>
   ((idx aB kD).bind fun x42=>
   ((stt aB kD x38).bind fun l44=>
   ((idx l44 gQ).bind fun x46=>
   ((stt l44 gQ x40).bind fun l48=>
   cU aZ l48 a_1 (IntKind.i64.wrap (kD+1)) (IntKind.i64.wrap (gQ-1)))))))))))))
def iI:Nat→List Int→Int→Int→Int→Option (Int×Bool×List Int)
 |0=>fun _ _ _ _=>none
 |n+1=>kY (iI n)
def kX(rec1:List Int→Int→Int→Int→Option (Int×Bool×List Int))(aB:List Int)(a_1:Int)(kD:Int)(gQ:Int):Option (Int×Bool×List Int):=
 ((dX ((decide (kD≤gQ))==true) 0 (idx aB kD)).bind fun x14=>
 ((dX ((decide (kD≤gQ))==true) 0 (idx aB a_1)).bind fun x16=>
 ((dX ((decide (kD≤gQ))==true) false (fG x14 x16)).bind fun r18=>
 (bif ((decide (kD≤gQ))&&r18) then
  rec1 aB a_1 (IntKind.i64.wrap (kD+1)) gQ
 else
  iI aZ aB a_1 kD gQ))))
def iH:Nat→List Int→Int→Int→Int→Option (Int×Bool×List Int)
 |0=>fun _ _ _ _=>none
 |n+1=>kX (iH n)
def lR(aB:List Int)(a_1:Int)(b_2:Int)(nA:Int):Option (Int×Bool×List Int):=
 ((idx aB nA).bind fun x2=>
 ((idx aB a_1).bind fun x4=>
 ((idx aB a_1).bind fun x6=>
 ((stt aB a_1 x2).bind fun l8=>
 ((idx l8 nA).bind fun x10=>
 ((stt l8 nA x4).bind fun l12=>
 iH aZ l12 a_1 (IntKind.i64.wrap (a_1+1)) (IntKind.i64.wrap (b_2-1))))))))
theorem aCk{aB:List Int}{a_1:Int}{b_2:Int}{nA:Int}{r:Int×Bool×List Int}(hm:lR aB a_1 b_2 nA=some r){H:aM}{i0:Nat}(he:H.ent i0= .cells 1 (aB.flatMap (ci .u64)) 0):dR prog 153 [.own i0 0 aB.length,.v (.int .i64 a_1),.v (.int .i64 b_2),.v (.int .i64 nA)] H (.tup [.v (.int .i64 r.1),.v (.bool r.2.1)]) (H.put i0 (.cells 1 (r.2.2.flatMap (ci .u64)) 0)):=by
 refine dR.of_bodyM func153 rfl he ?_;generalize H.ent=h0;simp only [ntmps153,List.length_cons,List.length_nil,Nat.reduceAdd,Nat.reduceSub];unfold lR at hm;refine sN 64 ?_
 iterate 2 refine pA ?_
 refine fs (sd mix (by kernel_rfl) (N':=128) rfl ?_)
 iterate 6 refine pA ?_
 obtain ⟨x2,h1,hm⟩:=bnd hm;refine pu rfl (aN underlying24 fF Z1 Za Z6 Z1 h1) ?_;refine pu rfl (bM (CFi .u64) Z1 Za h1 Zb) ?_
 iterate 2 refine pA ?_
 obtain ⟨x4,h3,hm⟩:=bnd hm;refine pu rfl (aN underlying24 fF Z1 Za Z6 Z1 h3) ?_;refine pu rfl (bM (CFi .u64) Z1 Za h3 Zb) ?_;obtain ⟨x6,h5,hm⟩:=bnd hm;refine pu rfl (aN underlying24 fF Z1 Za Z6 Z1 h5) ?_;obtain ⟨l8,h7,hm⟩:=bnd hm;have qh7:=cY h7;refine aI.heap0 (id:=77) rfl (eR (CFi .u64) fF Z1 Z1 Za rfl h7) ?_;obtain ⟨x10,h9,hm⟩:=bnd hm;refine pu rfl (aN underlying24 fF Z1 Za Z6 Z1 h9) ?_;obtain ⟨l12,h11,hm⟩:=bnd hm;have qh11:=cY h11;refine aI.heap0 (id:=79) rfl (eR (CFi .u64) fF Z1 Z1 Za rfl h11) ?_;refine fs (sN 192 ?_)
 iterate 6 refine pA ?_
 refine fs (AWp.seq' (AWp.block (AWp.loopM (fun m s=> ∃(aB:List Int) (a_1:Int) (kD:Int) (gQ:Int),s=(⟨168,(aG (aG (aG (aG (fun _=>AV.any) 0 (.own i0 0 aB.length)) 1 (.v (.int .i64 a_1))) 10 (.v (.int .i64 kD))) 11 (.v (.int .i64 gQ))),⟨(upd h0 i0 (.cells 1 (aB.flatMap (ci .u64)) 0)),64⟩⟩:St)∧iH m aB a_1 kD gQ=some r) aZ ?_ ?_ ?_)))
 · rintro s ⟨_,_,_,_,_,h⟩;cases h
 · refine ⟨_,?_,l12,a_1,(IntKind.i64.wrap (a_1+1)),(IntKind.i64.wrap (b_2-1)),rfl,hm⟩;exact bN (aD 11 _ Z1 (aD 10 _ Z1 (aD 1 _ Z1 (aD 0 _ (bO Z1 Z6) bF)))) Zc
 ·
  rintro n1 s ⟨aB,a_1,kD,gQ,rfl,hm⟩;replace hm:kX (iH n1) aB a_1 kD gQ=some r:=hm;unfold kX at hm;refine AWp.seq' (sd mix (by kernel_rfl) (N':=128) rfl ?_)
  iterate 6 first|refine pA ?_|refine pB ?_
  obtain ⟨x14,h13,hm⟩:=bnd hm;refine pg rfl rfl Z2 (fun hb=>(aN underlying24 fF (Zh hb) Za Z6 (Zh hb) (bI h13 hb))) ?_;refine pg rfl rfl Z2 (fun hb=>(bM (CFi .u64) (Zh hb) Za (bI h13 hb) Zb)) ?_
  iterate 2 refine pB ?_
  obtain ⟨x16,h15,hm⟩:=bnd hm;refine pg rfl rfl Z2 (fun hb=>(aN underlying24 fF (Zh hb) Za Z6 (Zh hb) (bI h15 hb))) ?_;refine pg rfl rfl Z2 (fun hb=>(bM (CFi .u64) (Zh hb) Za (bI h15 hb) Zb)) ?_;obtain ⟨r18,h17,hm⟩:=bnd hm;refine aI.callQG (r:= .v (.bool r18)) Zd rfl Z2 Z1 aG3 (fun hb H=>(.cons (td (Zh hb) (.v _)) (.cons (td (Zh hb) (.v _)) .nil))) (fun hb=>gX (bI h17 hb)) ?_;refine pA ?_;refine fs (AWp.condM hm Z1 (fun _ hm=>?_) (fun _ hm=>?_))
  ·
   refine AWp.skip (aV (AWp.block (AWp.reg 64 (N':=192) rfl ?_)))
   iterate 3 refine pA ?_
   refine aI.fin (eT (cO ?_));refine ⟨_,?_,aB,a_1,(IntKind.i64.wrap (kD+1)),gQ,rfl,hm⟩;exact bN (aD 11 _ Z1 (aD 10 _ Z1 (aD 1 _ Z1 (aD 0 _ (bO Z1 Z6) bF)))) Zc
  ·
   refine AWp.exit (dJ (dA (cW (aV (AWp.seq' (AWp.block (AWp.loopM (fun m s=> ∃(aB:List Int) (a_1:Int) (kD:Int) (gQ:Int),s=(⟨168,(aG (aG (aG (aG (fun _=>AV.any) 0 (.own i0 0 aB.length)) 1 (.v (.int .i64 a_1))) 10 (.v (.int .i64 kD))) 11 (.v (.int .i64 gQ))),⟨(upd h0 i0 (.cells 1 (aB.flatMap (ci .u64)) 0)),64⟩⟩:St)∧iI m aB a_1 kD gQ=some r) aZ ?_ ?_ ?_)))))))
   · rintro s ⟨_,_,_,_,_,h⟩;cases h
   · refine ⟨_,?_,aB,a_1,kD,gQ,rfl,hm⟩;exact bN (aD 11 _ Z1 (aD 10 _ Z1 (aD 1 _ Z1 (aD 0 _ (bO Z1 Z6) bF)))) Zc
   ·
    rintro n2 s ⟨aB,a_1,kD,gQ,rfl,hm⟩;replace hm:kY (iI n2) aB a_1 kD gQ=some r:=hm;unfold kY at hm;refine AWp.seq' (sd mix (by kernel_rfl) (N':=128) rfl ?_)
    iterate 6 first|refine pA ?_|refine pB ?_
    obtain ⟨x20,h19,hm⟩:=bnd hm;refine pg rfl rfl Z2 (fun hb=>(aN underlying24 fF (Zh hb) Za Z6 (Zh hb) (bI h19 hb))) ?_;refine pg rfl rfl Z2 (fun hb=>(bM (CFi .u64) (Zh hb) Za (bI h19 hb) Zb)) ?_
    iterate 2 refine pB ?_
    obtain ⟨x22,h21,hm⟩:=bnd hm;refine pg rfl rfl Z2 (fun hb=>(aN underlying24 fF (Zh hb) Za Z6 (Zh hb) (bI h21 hb))) ?_;refine pg rfl rfl Z2 (fun hb=>(bM (CFi .u64) (Zh hb) Za (bI h21 hb) Zb)) ?_;obtain ⟨r24,h23,hm⟩:=bnd hm;refine aI.callQG (r:= .v (.bool r24)) Zd rfl Z2 Z1 aG3 (fun hb H=>(.cons (td (Zh hb) (.v _)) (.cons (td (Zh hb) (.v _)) .nil))) (fun hb=>gX (bI h23 hb)) ?_
    iterate 2 first|refine pA ?_|refine pB ?_
    refine fs (AWp.condM hm Z1 (fun _ hm=>?_) (fun _ hm=>?_))
    ·
     refine AWp.skip (aV (AWp.block (AWp.reg 64 (N':=192) rfl ?_)))
     iterate 3 refine pA ?_
     refine aI.fin (eT (cO ?_));refine ⟨_,?_,aB,a_1,kD,(IntKind.i64.wrap (gQ-1)),rfl,hm⟩;exact bN (aD 11 _ Z1 (aD 10 _ Z1 (aD 1 _ Z1 (aD 0 _ (bO Z1 Z6) bF)))) Zc
    ·
     refine AWp.exit (dJ (dA (cW (aV (AWp.seq' (sN 192 ?_))))))
     iterate 3 refine pA ?_
     refine fs (AWp.condM hm Z1 (fun _ hm=>?_) (fun _ hm=>?_))
     ·
      refine sd mix (by kernel_rfl) (N':=256) rfl ?_
      iterate 6 refine pA ?_
      obtain ⟨x26,h25,hm⟩:=bnd hm;refine pu rfl (aN underlying24 fF Z1 Za Z6 Z1 h25) ?_;refine pu rfl (bM (CFi .u64) Z1 Za h25 Zb) ?_
      iterate 2 refine pA ?_
      obtain ⟨x28,h27,hm⟩:=bnd hm;refine pu rfl (aN underlying24 fF Z1 Za Z6 Z1 h27) ?_;refine pu rfl (bM (CFi .u64) Z1 Za h27 Zb) ?_;obtain ⟨x30,h29,hm⟩:=bnd hm;refine pu rfl (aN underlying24 fF Z1 Za Z6 Z1 h29) ?_;obtain ⟨l32,h31,hm⟩:=bnd hm;have qh31:=cY h31;refine aI.heap0 (id:=205) rfl (eR (CFi .u64) fF Z1 Z1 Za rfl h31) ?_;obtain ⟨x34,h33,hm⟩:=bnd hm;refine pu rfl (aN underlying24 fF Z1 Za Z6 Z1 h33) ?_;obtain ⟨l36,h35,hm⟩:=bnd hm;have qh35:=cY h35;refine aI.heap0 (id:=207) rfl (eR (CFi .u64) fF Z1 Z1 Za rfl h35) ?_;refine fs (sN 320 ?_)
      iterate 3 refine pA ?_
      refine fs (AWp.ret (lD ?_));cases hm;exact aR2 (.inr rfl) Tryz.results153 Z1 Z1 Zc
     ·
      refine AWp.skip (aV (sd mix (by kernel_rfl) (N':=256) rfl ?_))
      iterate 6 refine pA ?_
      obtain ⟨x38,h37,hm⟩:=bnd hm;refine pu rfl (aN underlying24 fF Z1 Za Z6 Z1 h37) ?_;refine pu rfl (bM (CFi .u64) Z1 Za h37 Zb) ?_
      iterate 2 refine pA ?_
      obtain ⟨x40,h39,hm⟩:=bnd hm;refine pu rfl (aN underlying24 fF Z1 Za Z6 Z1 h39) ?_;refine pu rfl (bM (CFi .u64) Z1 Za h39 Zb) ?_;obtain ⟨x42,h41,hm⟩:=bnd hm;refine pu rfl (aN underlying24 fF Z1 Za Z6 Z1 h41) ?_;obtain ⟨l44,h43,hm⟩:=bnd hm;have qh43:=cY h43;refine aI.heap0 (id:=205) rfl (eR (CFi .u64) fF Z1 Z1 Za rfl h43) ?_;obtain ⟨x46,h45,hm⟩:=bnd hm;refine pu rfl (aN underlying24 fF Z1 Za Z6 Z1 h45) ?_;obtain ⟨l48,h47,hm⟩:=bnd hm;have qh47:=cY h47;refine aI.heap0 (id:=207) rfl (eR (CFi .u64) fF Z1 Z1 Za rfl h47) ?_;refine fs (sN 320 ?_)
      iterate 3 refine pA ?_
      refine fs (sN 384 ?_)
      iterate 3 refine pA ?_
      refine fs (AWp.seq' (AWp.block (AWp.loopM (fun m s=> ∃(aB:List Int) (a_1:Int) (kD:Int) (gQ:Int),s=(⟨168,(aG (aG (aG (aG (fun _=>AV.any) 0 (.own i0 0 aB.length)) 1 (.v (.int .i64 a_1))) 10 (.v (.int .i64 kD))) 11 (.v (.int .i64 gQ))),⟨(upd h0 i0 (.cells 1 (aB.flatMap (ci .u64)) 0)),64⟩⟩:St)∧cU m aB a_1 kD gQ=some r) aZ ?_ ?_ ?_)))
      · rintro s ⟨_,_,_,_,_,h⟩;cases h
      · refine ⟨_,?_,l48,a_1,(IntKind.i64.wrap (kD+1)),(IntKind.i64.wrap (gQ-1)),rfl,hm⟩;exact bN (aD 11 _ Z1 (aD 10 _ Z1 (aD 1 _ Z1 (aD 0 _ (bO Z1 Z6) bF)))) Zc
      ·
       rintro n3 s ⟨aB,a_1,kD,gQ,rfl,hm⟩;replace hm:kZ (cU n3) aB a_1 kD gQ=some r:=hm;unfold kZ at hm;refine AWp.block (AWp.seq' (AWp.block (AWp.loopM (fun m s=> ∃(aB:List Int) (a_1:Int) (kD:Int) (gQ:Int),s=(⟨168,(aG (aG (aG (aG (fun _=>AV.any) 0 (.own i0 0 aB.length)) 1 (.v (.int .i64 a_1))) 10 (.v (.int .i64 kD))) 11 (.v (.int .i64 gQ))),⟨(upd h0 i0 (.cells 1 (aB.flatMap (ci .u64)) 0)),64⟩⟩:St)∧iJ (cU n3) m aB a_1 kD gQ=some r) aZ ?_ ?_ ?_)))
       · rintro s ⟨_,_,_,_,_,h⟩;cases h
       · refine ⟨_,?_,aB,a_1,kD,gQ,rfl,hm⟩;exact bN (aD 11 _ Z1 (aD 10 _ Z1 (aD 1 _ Z1 (aD 0 _ (bO Z1 Z6) bF)))) Zc
       ·
        rintro n4 s ⟨aB,a_1,kD,gQ,rfl,hm⟩;replace hm:lA (cU n3) (iJ (cU n3) n4) aB a_1 kD gQ=some r:=hm;unfold lA at hm;refine AWp.seq' (sd mix (by kernel_rfl) (N':=128) rfl ?_)
        iterate 6 first|refine pA ?_|refine pB ?_
        obtain ⟨x50,h49,hm⟩:=bnd hm;refine pg rfl rfl Z2 (fun hb=>(aN underlying24 fF (Zh hb) Za Z6 (Zh hb) (bI h49 hb))) ?_;refine pg rfl rfl Z2 (fun hb=>(bM (CFi .u64) (Zh hb) Za (bI h49 hb) Zb)) ?_
        iterate 2 refine pB ?_
        obtain ⟨x52,h51,hm⟩:=bnd hm;refine pg rfl rfl Z2 (fun hb=>(aN underlying24 fF (Zh hb) Za Z6 (Zh hb) (bI h51 hb))) ?_;refine pg rfl rfl Z2 (fun hb=>(bM (CFi .u64) (Zh hb) Za (bI h51 hb) Zb)) ?_;obtain ⟨r54,h53,hm⟩:=bnd hm;refine aI.callQG (r:= .v (.bool r54)) Zd rfl Z2 Z1 aG3 (fun hb H=>(.cons (td (Zh hb) (.v _)) (.cons (td (Zh hb) (.v _)) .nil))) (fun hb=>gX (bI h53 hb)) ?_;refine pA ?_;refine fs (AWp.condM hm Z1 (fun _ hm=>?_) (fun _ hm=>?_))
        ·
         refine AWp.skip (aV (AWp.block (AWp.reg 64 (N':=192) rfl ?_)))
         iterate 3 refine pA ?_
         refine aI.fin (eT (cO ?_));refine ⟨_,?_,aB,a_1,(IntKind.i64.wrap (kD+1)),gQ,rfl,hm⟩;exact bN (aD 11 _ Z1 (aD 10 _ Z1 (aD 1 _ Z1 (aD 0 _ (bO Z1 Z6) bF)))) Zc
        ·
         refine AWp.exit (dJ (dA (cW (aV (AWp.seq' (AWp.block (AWp.loopM (fun m s=> ∃(aB:List Int) (a_1:Int) (kD:Int) (gQ:Int),s=(⟨168,(aG (aG (aG (aG (fun _=>AV.any) 0 (.own i0 0 aB.length)) 1 (.v (.int .i64 a_1))) 10 (.v (.int .i64 kD))) 11 (.v (.int .i64 gQ))),⟨(upd h0 i0 (.cells 1 (aB.flatMap (ci .u64)) 0)),64⟩⟩:St)∧iK (cU n3) m aB a_1 kD gQ=some r) aZ ?_ ?_ ?_)))))))
         · rintro s ⟨_,_,_,_,_,h⟩;cases h
         · refine ⟨_,?_,aB,a_1,kD,gQ,rfl,hm⟩;exact bN (aD 11 _ Z1 (aD 10 _ Z1 (aD 1 _ Z1 (aD 0 _ (bO Z1 Z6) bF)))) Zc
         ·
          rintro n5 s ⟨aB,a_1,kD,gQ,rfl,hm⟩;replace hm:lC (cU n3) (iK (cU n3) n5) aB a_1 kD gQ=some r:=hm;unfold lC at hm;refine AWp.seq' (sd mix (by kernel_rfl) (N':=128) rfl ?_)
          iterate 6 first|refine pA ?_|refine pB ?_
          obtain ⟨x56,h55,hm⟩:=bnd hm;refine pg rfl rfl Z2 (fun hb=>(aN underlying24 fF (Zh hb) Za Z6 (Zh hb) (bI h55 hb))) ?_;refine pg rfl rfl Z2 (fun hb=>(bM (CFi .u64) (Zh hb) Za (bI h55 hb) Zb)) ?_
          iterate 2 refine pB ?_
          obtain ⟨x58,h57,hm⟩:=bnd hm;refine pg rfl rfl Z2 (fun hb=>(aN underlying24 fF (Zh hb) Za Z6 (Zh hb) (bI h57 hb))) ?_;refine pg rfl rfl Z2 (fun hb=>(bM (CFi .u64) (Zh hb) Za (bI h57 hb) Zb)) ?_;obtain ⟨r60,h59,hm⟩:=bnd hm;refine aI.callQG (r:= .v (.bool r60)) Zd rfl Z2 Z1 aG3 (fun hb H=>(.cons (td (Zh hb) (.v _)) (.cons (td (Zh hb) (.v _)) .nil))) (fun hb=>gX (bI h59 hb)) ?_
          iterate 2 first|refine pA ?_|refine pB ?_
          refine fs (AWp.condM hm Z1 (fun _ hm=>?_) (fun _ hm=>?_))
          ·
           refine AWp.skip (aV (AWp.block (AWp.reg 64 (N':=192) rfl ?_)))
           iterate 3 refine pA ?_
           refine aI.fin (eT (cO ?_));refine ⟨_,?_,aB,a_1,kD,(IntKind.i64.wrap (gQ-1)),rfl,hm⟩;exact bN (aD 11 _ Z1 (aD 10 _ Z1 (aD 1 _ Z1 (aD 0 _ (bO Z1 Z6) bF)))) Zc
          ·
           refine AWp.exit (dJ (dA (cW (aV (AWp.seq' (sN 192 ?_))))))
           iterate 3 refine pA ?_
           refine fs (AWp.condM hm Z1 (fun _ hm=>?_) (fun _ hm=>?_))
           ·
            refine AWp.exit (dJ (rQ Zd ?_));refine dA (cW (aV (sd mix (by kernel_rfl) (N':=256) rfl ?_)))
            iterate 6 refine pA ?_
            obtain ⟨x62,h61,hm⟩:=bnd hm;refine pu rfl (aN underlying24 fF Z1 Za Z6 Z1 h61) ?_;refine pu rfl (bM (CFi .u64) Z1 Za h61 Zb) ?_
            iterate 2 refine pA ?_
            obtain ⟨x64,h63,hm⟩:=bnd hm;refine pu rfl (aN underlying24 fF Z1 Za Z6 Z1 h63) ?_;refine pu rfl (bM (CFi .u64) Z1 Za h63 Zb) ?_;obtain ⟨x66,h65,hm⟩:=bnd hm;refine pu rfl (aN underlying24 fF Z1 Za Z6 Z1 h65) ?_;obtain ⟨l68,h67,hm⟩:=bnd hm;have qh67:=cY h67;refine aI.heap0 (id:=205) rfl (eR (CFi .u64) fF Z1 Z1 Za rfl h67) ?_;obtain ⟨x70,h69,hm⟩:=bnd hm;refine pu rfl (aN underlying24 fF Z1 Za Z6 Z1 h69) ?_;obtain ⟨l72,h71,hm⟩:=bnd hm;have qh71:=cY h71;refine aI.heap0 (id:=207) rfl (eR (CFi .u64) fF Z1 Z1 Za rfl h71) ?_;refine fs (sN 320 ?_)
            iterate 3 refine pA ?_
            refine fs (AWp.ret ?_);cases hm;exact aR2 (.inr rfl) Tryz.results153 Z1 Z1 Zc
           ·
            refine AWp.skip (aV (sd mix (by kernel_rfl) (N':=256) rfl ?_))
            iterate 6 refine pA ?_
            obtain ⟨x74,h73,hm⟩:=bnd hm;refine pu rfl (aN underlying24 fF Z1 Za Z6 Z1 h73) ?_;refine pu rfl (bM (CFi .u64) Z1 Za h73 Zb) ?_
            iterate 2 refine pA ?_
            obtain ⟨x76,h75,hm⟩:=bnd hm;refine pu rfl (aN underlying24 fF Z1 Za Z6 Z1 h75) ?_;refine pu rfl (bM (CFi .u64) Z1 Za h75 Zb) ?_;obtain ⟨x78,h77,hm⟩:=bnd hm;refine pu rfl (aN underlying24 fF Z1 Za Z6 Z1 h77) ?_;obtain ⟨l80,h79,hm⟩:=bnd hm;have qh79:=cY h79;refine aI.heap0 (id:=205) rfl (eR (CFi .u64) fF Z1 Z1 Za rfl h79) ?_;obtain ⟨x82,h81,hm⟩:=bnd hm;refine pu rfl (aN underlying24 fF Z1 Za Z6 Z1 h81) ?_;obtain ⟨l84,h83,hm⟩:=bnd hm;have qh83:=cY h83;refine aI.heap0 (id:=207) rfl (eR (CFi .u64) fF Z1 Z1 Za rfl h83) ?_;refine fs (sN 320 ?_)
            iterate 3 refine pA ?_
            refine fs (AWp.reg 64 (N':=384) rfl ?_)
            iterate 3 refine pA ?_
            refine aI.fin (eT (cO ?_));refine ⟨_,?_,l84,a_1,(IntKind.i64.wrap (kD+1)),(IntKind.i64.wrap (gQ-1)),rfl,hm⟩;exact bN (aD 11 _ Z1 (aD 10 _ Z1 (aD 1 _ Z1 (aD 0 _ (bO Z1 Z6) bF)))) Zc
abbrev kA(recf:(List Int)→Int→Int→Int→Option (List Int))(rec1:List Int→Int→Int→Int→Bool→Bool→Option (List Int))(aB:List Int)(a_1:Int)(b_2:Int)(bG:Int)(cG:Bool)(bL:Bool)(jT:Int)(qO:Int):Option (List Int):=
 ((dX ((decide (0<a_1))==true) 0 (idx aB (IntKind.i64.wrap (a_1-1)))).bind fun x9=>
 ((dX ((decide (0<a_1))==true) 0 (idx aB qO)).bind fun x11=>
 ((dX ((decide (0<a_1))==true) false (fG x9 x11)).bind fun r13=>
 (bif ((decide (0<a_1))&&(!r13)) then
  ((tM (fun x=>x.2.length) aB.length (iY aB a_1 b_2 qO)).bind fun ⟨r16,l15⟩=>
  rec1 l15 r16 b_2 bG cG bL)
 else
  ((tM (fun x=>x.2.2.length) aB.length (lR aB a_1 b_2 qO)).bind fun ⟨r19,r20,l18⟩=>
  (bif (decide ((IntKind.i64.wrap (r19-a_1))<(IntKind.i64.wrap (b_2-r19)))) then
   ((tM (fun x=>x.length) l18.length (recf l18 a_1 r19 bG)).bind fun l22=>
   rec1 l22 (IntKind.i64.wrap (r19+1)) b_2 bG (decide ((IntKind.i64.wrap (Int.tdiv jT 8))≤(IntKind.i64.wrap (r19-a_1)))) r20)
  else
   ((tM (fun x=>x.length) l18.length (recf l18 (IntKind.i64.wrap (r19+1)) b_2 bG)).bind fun l24=>
   rec1 l24 a_1 r19 bG (decide ((IntKind.i64.wrap (Int.tdiv jT 8))≤(IntKind.i64.wrap (b_2-r19)))) r20)))))))
abbrev jZ(recf:(List Int)→Int→Int→Int→Option (List Int))(rec1:List Int→Int→Int→Int→Bool→Bool→Option (List Int))(aB:List Int)(a_1:Int)(b_2:Int)(bG:Int)(cG:Bool)(bL:Bool)(jT:Int)(qO:Int)(aNs:Int):Option (List Int):=
 (bif ((cG&&bL)&&(aNs==1)) then
  ((tM (fun x=>x.2.length) aB.length (gF aB a_1 b_2)).bind fun ⟨r27,l26⟩=>
  (bif r27 then
   some l26
  else
   kA recf rec1 l26 a_1 b_2 bG cG bL jT qO))
 else
  kA recf rec1 aB a_1 b_2 bG cG bL jT qO)
abbrev jY(recf:(List Int)→Int→Int→Int→Option (List Int))(rec1:List Int→Int→Int→Int→Bool→Bool→Option (List Int))(aB:List Int)(a_1:Int)(b_2:Int)(bG:Int)(cG:Bool)(bL:Bool)(jT:Int):Option (List Int):=
 ((kN aB a_1 b_2).bind fun ⟨r6,r7⟩=>
 (bif (r7==2) then
  ((tM (fun x=>x.length) aB.length (kK aB a_1 b_2)).bind fun l29=>
  jZ recf rec1 l29 a_1 b_2 bG cG bL jT (IntKind.i64.wrap ((IntKind.i64.wrap (b_2-1))-(IntKind.i64.wrap (r6-a_1)))) 1)
 else
  jZ recf rec1 aB a_1 b_2 bG cG bL jT r6 r7))
def mD(recf:(List Int)→Int→Int→Int→Option (List Int))(rec1:List Int→Int→Int→Int→Bool→Bool→Option (List Int))(aB:List Int)(a_1:Int)(b_2:Int)(bG:Int)(cG:Bool)(bL:Bool):Option (List Int):=
 (bif (decide ((IntKind.i64.wrap (b_2-a_1))≤12)) then
  ((tM (fun x=>x.length) aB.length (jP aB a_1 b_2)).bind fun l2=>
  some l2)
 else
  (bif (bG==0) then
   ((tM (fun x=>x.length) aB.length (mB aB a_1 b_2)).bind fun l4=>
   some l4)
  else
   (bif (!cG) then
    ((tM (fun x=>x.length) aB.length (jN aB a_1 b_2)).bind fun l31=>
    jY recf rec1 l31 a_1 b_2 (IntKind.i64.wrap (bG-1)) cG bL (IntKind.i64.wrap (b_2-a_1)))
   else
    jY recf rec1 aB a_1 b_2 bG cG bL (IntKind.i64.wrap (b_2-a_1)))))
def cQ(recf:(List Int)→Int→Int→Int→Option (List Int)):Nat→List Int→Int→Int→Int→Bool→Bool→Option (List Int)
 |0=>fun _ _ _ _ _ _=>none
 |n+1=>mD recf (cQ recf n)
def qM(recf:(List Int)→Int→Int→Int→Option (List Int))(aB:List Int)(a_1:Int)(b_2:Int)(bG:Int):Option (List Int):=
 cQ recf aZ aB a_1 b_2 bG true true
def cE:Nat→(List Int)→Int→Int→Int→Option (List Int)
 |0=>fun _ _ _ _=>none
 |n+1=>qM (cE n)
def uX(aB:List Int)(a_1:Int)(b_2:Int)(bG:Int):Option (List Int):=cE aZ aB a_1 b_2 bG
theorem aDh: ∀(nn:Nat) {aB:List Int} {a_1:Int} {b_2:Int} {bG:Int} {r:List Int} (hm:cE nn aB a_1 b_2 bG=some r) {H:aM} {i0:Nat} (he:H.ent i0= .cells 1 (aB.flatMap (ci .u64)) 0) (hk: ∀id,3000000≤id→H.ent id= .fresh) (hD: ∀id,aDl (H.ent id)) (hi:i0<3000000),dR prog 133 [.own i0 0 aB.length,.v (.int .i64 a_1),.v (.int .i64 b_2),.v (.int .i64 bG)] H (.tup []) (H.put i0 (.cells 1 (r.flatMap (ci .u64)) 0)):=by
 intro nn
 induction nn with
 |zero=>
  intro aB a_1 b_2 bG r hm;replace hm:none=some r:=hm;cases hm
 |succ nn ih=>
  intro aB a_1 b_2 bG r hm H i0 he hk hD hi;replace hm:qM (cE nn) aB a_1 b_2 bG=some r:=hm;refine dR.of_bodyK func133 rfl he hk ?_;clear he;generalize H.ent=h0 at hk hD⊢;have hne1: ∀ {k:Nat},3000000≤k→(k==i0)=false:=fun hh=>by simp;omega
  have hne2: ∀ {k:Nat},3000000≤k→(i0==k)=false:=fun hh=>by simp;omega
  simp only [ntmps133,List.length_cons,List.length_nil,Nat.reduceAdd,Nat.reduceSub];unfold qM at hm;refine AWp.behind ?_;refine sN 3000064 (pA ?_);refine fs (sN 3000128 (pA ?_));refine fs (AWp.block (AWp.loopM (fun m s=> ∃(aB:List Int) (a_1:Int) (b_2:Int) (bG:Int) (cG:Bool) (bL:Bool),s=(⟨134,(aG (aG (aG (aG (aG (aG (fun _=>AV.any) 0 (.own i0 0 aB.length)) 1 (.v (.int .i64 a_1))) 2 (.v (.int .i64 b_2))) 3 (.v (.int .i64 bG))) 8 (.v (.bool cG))) 9 (.v (.bool bL))),⟨(upd h0 i0 (.cells 1 (aB.flatMap (ci .u64)) 0)),64⟩⟩:St)∧cQ (cE nn) m aB a_1 b_2 bG cG bL=some r) aZ ?_ ?_ ?_))
  · rintro s ⟨_,_,_,_,_,_,_,h⟩;cases h
  · refine ⟨_,?_,aB,a_1,b_2,bG,true,true,rfl,hm⟩;exact bN (aD 9 _ Z1 (aD 8 _ Z1 (aD 3 _ Z1 (aD 2 _ Z1 (aD 1 _ Z1 (aD 0 _ (bO Z1 Z6) bF)))))) Zi
  ·
   rintro n1 s ⟨aB,a_1,b_2,bG,cG,bL,rfl,hm⟩;replace hm:mD (cE nn) (cQ (cE nn) n1) aB a_1 b_2 bG cG bL=some r:=hm;unfold mD at hm;refine AWp.block (sN 128 ?_)
   iterate 4 refine pA ?_
   refine fs (AWp.seq' (sN 192 ?_))
   iterate 2 refine pA ?_
   refine fs (AWp.condM hm Z1 (fun _ hm=>?_) (fun _ hm=>?_))
   ·
    refine sN 256 ?_
    iterate 3 refine pA ?_
    obtain ⟨l2,h1,hm⟩:=bnd hm;have qh1:=pP h1;refine aI.callM Zd Z1 bXo ?_ (aA9 (oU h1) (i0:=i0) Ze) ?_
    ·
     try simp only [go_sem,Nat.reduceBEq]
     first|done|rfl|(congr 2<;>omega)
    refine fs (AWp.ret (lD (qD (qX (qD ?_)))));cases hm;exact aJe (.inr rfl) Tryz.results133 (by intro q hq;simp only [upd];all_goals ((repeat' split)<;>first|rfl|omega)) (fun q hq=>by rw [upd_ne _ _ _ _ om];exact hk q hq) (nM (wB (CFi .u64)) hD)
   ·
    refine AWp.skip (aV (AWp.seq' (sN 256 ?_)))
    iterate 2 refine pA ?_
    refine fs (AWp.condM hm Z1 (fun _ hm=>?_) (fun _ hm=>?_))
    ·
     refine sN 320 ?_
     iterate 3 refine pA ?_
     obtain ⟨l4,h3,hm⟩:=bnd hm;have qh3:=pP h3;refine aI.callM Zd Z1 bXp ?_ (aDf (oU h3) (i0:=i0) Ze) ?_
     ·
      try simp only [go_sem,Nat.reduceBEq]
      first|done|rfl|(congr 2<;>omega)
     refine fs (AWp.ret (lD (qD (qX (qD ?_)))));cases hm;exact aJe (.inr rfl) Tryz.results133 (by intro q hq;simp only [upd];all_goals ((repeat' split)<;>first|rfl|omega)) (fun q hq=>by rw [upd_ne _ _ _ _ om];exact hk q hq) (nM (wB (CFi .u64)) hD)
    ·
     refine AWp.skip (aV (AWp.seqJ (fun s=> ∃(aB:List Int) (a_1:Int) (b_2:Int) (bG:Int) (cG:Bool) (bL:Bool) (jT:Int),s=(⟨134,(aG (aG (aG (aG (aG (aG (aG (fun _=>AV.any) 0 (.own i0 0 aB.length)) 1 (.v (.int .i64 a_1))) 2 (.v (.int .i64 b_2))) 3 (.v (.int .i64 bG))) 8 (.v (.bool cG))) 9 (.v (.bool bL))) 10 (.v (.int .i64 jT))),⟨(upd h0 i0 (.cells 1 (aB.flatMap (ci .u64)) 0)),64⟩⟩:St)∧jY (cE nn) (cQ (cE nn) n1) aB a_1 b_2 bG cG bL jT=some r) ?_ ?_))
     ·
      refine sN 320 ?_
      iterate 2 refine pA ?_
      refine fs (AWp.condM hm Z1 (fun _ hm=>?_) (fun _ hm=>?_))
      ·
       refine sN 384 ?_
       iterate 3 refine pA ?_
       obtain ⟨l31,h30,hm⟩:=bnd hm;have qh30:=pP h30;refine aI.callM Zd Z1 bXq ?_ (aA6 (oU h30) (i0:=i0) Ze (fun q hq=>by simp only [upd_ne _ _ _ _ (show q≠i0 by omega)];exact hk q hq) (by (repeat (first|exact hD|refine nM (wB (CFi .u64)) ?_))) hi) ?_
       ·
        try simp only [go_sem,Nat.reduceBEq]
        first|done|rfl|(congr 2<;>omega)
       refine fs (AWp.reg 64 (N':=448) rfl ?_)
       iterate 3 refine pA ?_
       refine aI.fin (nH ?_);refine ⟨_,?_,l31,a_1,b_2,(IntKind.i64.wrap (bG-1)),cG,bL,(IntKind.i64.wrap (b_2-a_1)),rfl,hm⟩;exact bN (aD 10 _ Z1 (aD 9 _ Z1 (aD 8 _ Z1 (aD 3 _ Z1 (aD 2 _ Z1 (aD 1 _ Z1 (aD 0 _ (bO Z1 Z6) bF))))))) Zi
      · refine AWp.skip (nH ?_);refine ⟨_,?_,aB,a_1,b_2,bG,cG,bL,(IntKind.i64.wrap (b_2-a_1)),rfl,hm⟩;exact bN (aD 10 _ Z1 (aD 9 _ Z1 (aD 8 _ Z1 (aD 3 _ Z1 (aD 2 _ Z1 (aD 1 _ Z1 (aD 0 _ (bO Z1 Z6) bF))))))) Zi
     ·
      rintro s ⟨aB,a_1,b_2,bG,cG,bL,jT,rfl,hm⟩;unfold jY at hm;refine sN 128 ?_
      iterate 3 refine pA ?_
      obtain ⟨⟨r6,r7⟩,h5,hm⟩:=bnd hm;refine aI.callB (r:= .tup [.v (.int .i64 r6),.v (.int .i64 r7)]) Zd Z1 bXr (.cons (lto (CFi .u64) Z1 Ze Z6) (.cons (ltd fun H=>(td Z1 (.v _))) (.cons (ltd fun H=>(td Z1 (.v _))) aSh.nil))) bUj (sE h5) ?_
      iterate 5 refine pA ?_
      refine fs (AWp.seqJ (fun s=> ∃(aB:List Int) (a_1:Int) (b_2:Int) (bG:Int) (cG:Bool) (bL:Bool) (jT:Int) (qO:Int) (aNs:Int),s=(⟨134,(aG (aG (aG (aG (aG (aG (aG (aG (aG (fun _=>AV.any) 0 (.own i0 0 aB.length)) 1 (.v (.int .i64 a_1))) 2 (.v (.int .i64 b_2))) 3 (.v (.int .i64 bG))) 8 (.v (.bool cG))) 9 (.v (.bool bL))) 10 (.v (.int .i64 jT))) 11 (.v (.int .i64 qO))) 12 (.v (.int .i64 aNs))),⟨(upd h0 i0 (.cells 1 (aB.flatMap (ci .u64)) 0)),64⟩⟩:St)∧jZ (cE nn) (cQ (cE nn) n1) aB a_1 b_2 bG cG bL jT qO aNs=some r) ?_ ?_)
      ·
       refine sN 192 ?_
       iterate 2 refine pA ?_
       refine fs (AWp.condM hm Z1 (fun _ hm=>?_) (fun _ hm=>?_))
       ·
        refine sN 256 ?_
        iterate 3 refine pA ?_
        obtain ⟨l29,h28,hm⟩:=bnd hm;have qh28:=pP h28;refine aI.callM Zd Z1 bXs ?_ (aAq (oU h28) (i0:=i0) Ze) ?_
        ·
         try simp only [go_sem,Nat.reduceBEq]
         first|done|rfl|(congr 2<;>omega)
        refine fs (sN 320 ?_)
        iterate 7 refine pA ?_
        refine fs (AWp.reg 64 (N':=384) rfl ?_);refine pA ?_;refine aI.fin (nH ?_);refine ⟨_,?_,l29,a_1,b_2,bG,cG,bL,jT,(IntKind.i64.wrap ((IntKind.i64.wrap (b_2-1))-(IntKind.i64.wrap (r6-a_1)))),1,rfl,hm⟩;exact bN (aD 12 _ Z1 (aD 11 _ Z1 (aD 10 _ Z1 (aD 9 _ Z1 (aD 8 _ Z1 (aD 3 _ Z1 (aD 2 _ Z1 (aD 1 _ Z1 (aD 0 _ (bO Z1 Z6) bF))))))))) Zi
       · refine AWp.skip (nH ?_);refine ⟨_,?_,aB,a_1,b_2,bG,cG,bL,jT,r6,r7,rfl,hm⟩;exact bN (aD 12 _ Z1 (aD 11 _ Z1 (aD 10 _ Z1 (aD 9 _ Z1 (aD 8 _ Z1 (aD 3 _ Z1 (aD 2 _ Z1 (aD 1 _ Z1 (aD 0 _ (bO Z1 Z6) bF))))))))) Zi
      ·
       rintro s ⟨aB,a_1,b_2,bG,cG,bL,jT,qO,aNs,rfl,hm⟩;unfold jZ at hm;refine AWp.seqJ (fun s=> ∃(aB:List Int) (a_1:Int) (b_2:Int) (bG:Int) (cG:Bool) (bL:Bool) (jT:Int) (qO:Int),s=(⟨134,(aG (aG (aG (aG (aG (aG (aG (aG (fun _=>AV.any) 0 (.own i0 0 aB.length)) 1 (.v (.int .i64 a_1))) 2 (.v (.int .i64 b_2))) 3 (.v (.int .i64 bG))) 8 (.v (.bool cG))) 9 (.v (.bool bL))) 10 (.v (.int .i64 jT))) 11 (.v (.int .i64 qO))),⟨(upd h0 i0 (.cells 1 (aB.flatMap (ci .u64)) 0)),64⟩⟩:St)∧kA (cE nn) (cQ (cE nn) n1) aB a_1 b_2 bG cG bL jT qO=some r) ?_ ?_
       ·
        refine sN 128 ?_
        iterate 8 first|refine pA ?_|refine pB ?_
        refine fs (AWp.condM hm Z1 (fun _ hm=>?_) (fun _ hm=>?_))
        ·
         refine sN 192 ?_
         iterate 3 refine pA ?_
         obtain ⟨⟨r27,l26⟩,h25,hm⟩:=bnd hm;have qh25:=pP h25;dsimp only at qh25;refine aI.callM Zd Z1 bXt ?_ (uT (oU h25) (i0:=i0) Ze) ?_
         ·
          try simp only [go_sem,Nat.reduceBEq]
          first|done|rfl|(congr 2<;>omega)
         refine fs (AWp.condM hm Z1 (fun _ hm=>?_) (fun _ hm=>?_))
         · refine AWp.ret (aRr (qD (qX (qD ?_))));cases hm;exact aJe (.inr rfl) Tryz.results133 (by intro q hq;simp only [upd];all_goals ((repeat' split)<;>first|rfl|omega)) (fun q hq=>by rw [upd_ne _ _ _ _ om];exact hk q hq) (nM (wB (CFi .u64)) hD)
         · refine AWp.skip (nH ?_);refine ⟨_,?_,l26,a_1,b_2,bG,cG,bL,jT,qO,rfl,hm⟩;exact bN (aD 11 _ Z1 (aD 10 _ Z1 (aD 9 _ Z1 (aD 8 _ Z1 (aD 3 _ Z1 (aD 2 _ Z1 (aD 1 _ Z1 (aD 0 _ (bO Z1 Z6) bF)))))))) Zi
        · refine AWp.skip (nH ?_);refine ⟨_,?_,aB,a_1,b_2,bG,cG,bL,jT,qO,rfl,hm⟩;exact bN (aD 11 _ Z1 (aD 10 _ Z1 (aD 9 _ Z1 (aD 8 _ Z1 (aD 3 _ Z1 (aD 2 _ Z1 (aD 1 _ Z1 (aD 0 _ (bO Z1 Z6) bF)))))))) Zi
       ·
        rintro s ⟨aB,a_1,b_2,bG,cG,bL,jT,qO,rfl,hm⟩;unfold kA at hm;refine AWp.seq' (sd mix (by kernel_rfl) (N':=128) rfl ?_)
        iterate 6 first|refine pA ?_|refine pB ?_
        obtain ⟨x9,h8,hm⟩:=bnd hm;refine pg rfl rfl Z2 (fun hb=>(aN underlying24 fF (Zh hb) Ze Z6 (Zh hb) (bI h8 hb))) ?_;refine pg rfl rfl Z2 (fun hb=>(bM (CFi .u64) (Zh hb) Ze (bI h8 hb) Zb)) ?_
        iterate 2 refine pB ?_
        obtain ⟨x11,h10,hm⟩:=bnd hm;refine pg rfl rfl Z2 (fun hb=>(aN underlying24 fF (Zh hb) Ze Z6 (Zh hb) (bI h10 hb))) ?_;refine pg rfl rfl Z2 (fun hb=>(bM (CFi .u64) (Zh hb) Ze (bI h10 hb) Zb)) ?_;obtain ⟨r13,h12,hm⟩:=bnd hm;refine aI.callQG (r:= .v (.bool r13)) Zd rfl Z2 Z1 aG3 (fun hb H=>(.cons (td (Zh hb) (.v _)) (.cons (td (Zh hb) (.v _)) .nil))) (fun hb=>gX (bI h12 hb)) ?_
        iterate 2 first|refine pA ?_|refine pB ?_
        refine fs (AWp.condM hm Z1 (fun _ hm=>?_) (fun _ hm=>?_))
        ·
         refine sN 192 ?_
         iterate 4 refine pA ?_
         obtain ⟨⟨r16,l15⟩,h14,hm⟩:=bnd hm;have qh14:=pP h14;dsimp only at qh14;refine aI.callM Zd Z1 bXu ?_ (zK (oU h14) (i0:=i0) Ze) ?_
         ·
          try simp only [go_sem,Nat.reduceBEq]
          first|done|rfl|(congr 2<;>omega)
         refine pA ?_;refine fs (sN 256 ?_)
         iterate 2 refine pA ?_
         refine fs (AWp.exit (dJ (cW (cO ?_))));refine ⟨_,?_,l15,r16,b_2,bG,cG,bL,rfl,hm⟩;exact bN (aD 9 _ Z1 (aD 8 _ Z1 (aD 3 _ Z1 (aD 2 _ Z1 (aD 1 _ Z1 (aD 0 _ (bO Z1 Z6) bF)))))) Zi
        ·
         refine AWp.skip (aV (sN 192 ?_))
         iterate 4 refine pA ?_
         obtain ⟨⟨r19,r20,l18⟩,h17,hm⟩:=bnd hm;have qh17:=pP h17;dsimp only at qh17;refine aI.callM Zd Z1 bXv ?_ (aCk (oU h17) (i0:=i0) Ze) ?_
         ·
          try simp only [go_sem,Nat.reduceBEq]
          first|done|rfl|(congr 2<;>omega)
         iterate 5 refine pA ?_
         refine fs (sN 256 ?_)
         iterate 2 refine pA ?_
         refine fs (sN 320 ?_)
         iterate 8 refine pA ?_
         refine fs (sN 384 ?_)
         iterate 3 refine pu rfl Zj ?_
         refine fs (sN 448 ?_)
         iterate 3 refine pA ?_
         refine fs (AWp.condM hm Z1 (fun _ hm=>?_) (fun _ hm=>?_))
         ·
          refine sN 512 ?_
          iterate 4 refine pA ?_
          refine fs (sN 576 ?_)
          iterate 4 refine pA ?_
          obtain ⟨l22,h21,hm⟩:=bnd hm;have qh21:=pP h21;refine aI.callM Zd Z1 bNr ?_ (ih (oU h21) (i0:=i0) Ze (fun q hq=>by simp only [upd_ne _ _ _ _ (show q≠i0 by omega)];exact hk q hq) (by (repeat (first|exact hD|refine nM (wB (CFi .u64)) ?_))) hi) ?_
          ·
           try simp only [go_sem,Nat.reduceBEq]
           first|done|rfl|(congr 2<;>omega)
          refine fs (AWp.reg 64 (N':=640) rfl ?_)
          iterate 3 refine pA ?_
          refine aI.fin (eT (cO ?_));refine ⟨_,?_,l22,(IntKind.i64.wrap (r19+1)),b_2,bG,(decide ((IntKind.i64.wrap (Int.tdiv jT 8))≤(IntKind.i64.wrap (r19-a_1)))),r20,rfl,hm⟩;exact bN (aD 9 _ Z1 (aD 8 _ Z1 (aD 3 _ Z1 (aD 2 _ Z1 (aD 1 _ Z1 (aD 0 _ (bO Z1 Z6) bF)))))) Zi
         ·
          refine sN 512 ?_
          iterate 4 refine pA ?_
          refine fs (sN 576 ?_)
          iterate 5 refine pA ?_
          obtain ⟨l24,h23,hm⟩:=bnd hm;have qh23:=pP h23;refine aI.callM Zd Z1 bNr ?_ (ih (oU h23) (i0:=i0) Ze (fun q hq=>by simp only [upd_ne _ _ _ _ (show q≠i0 by omega)];exact hk q hq) (by (repeat (first|exact hD|refine nM (wB (CFi .u64)) ?_))) hi) ?_
          ·
           try simp only [go_sem,Nat.reduceBEq]
           first|done|rfl|(congr 2<;>omega)
          refine fs (AWp.reg 64 (N':=640) rfl ?_)
          iterate 2 refine pA ?_
          refine aI.fin (eT (cO ?_));refine ⟨_,?_,l24,a_1,r19,bG,(decide ((IntKind.i64.wrap (Int.tdiv jT 8))≤(IntKind.i64.wrap (b_2-r19)))),r20,rfl,hm⟩;exact bN (aD 9 _ Z1 (aD 8 _ Z1 (aD 3 _ Z1 (aD 2 _ Z1 (aD 1 _ Z1 (aD 0 _ (bO Z1 Z6) bF)))))) Zi
theorem aE2{aB:List Int}{a_1:Int}{b_2:Int}{bG:Int}{r:List Int}(hm:uX aB a_1 b_2 bG=some r){H:aM}{i0:Nat}(he:H.ent i0= .cells 1 (aB.flatMap (ci .u64)) 0)(hk: ∀id,3000000≤id→H.ent id= .fresh)(hD: ∀id,aDl (H.ent id))(hi:i0<3000000):dR prog 133 [.own i0 0 aB.length,.v (.int .i64 a_1),.v (.int .i64 b_2),.v (.int .i64 bG)] H (.tup []) (H.put i0 (.cells 1 (r.flatMap (ci .u64)) 0)):=aDh aZ hm he hk hD hi
def oX(x_0:List Int):Option (List Int):=
 ((xS (IntKind.u64.wrap (x_0.length:Int))).bind fun r2=>
 ((tM (fun x=>x.length) x_0.length (uX x_0 0 (x_0.length:Int) r2)).bind fun l4=>
 some l4))
theorem aN0{x_0:List Int}{r:List Int}(hm:oX x_0=some r){H:aM}{i0:Nat}(he:H.ent i0= .cells 1 (x_0.flatMap (ci .u64)) 0)(hk: ∀id,3000000≤id→H.ent id= .fresh)(hD: ∀id,aDl (H.ent id))(hi:i0<3000000):dR prog 100 [.own i0 0 x_0.length] H (.tup []) (H.put i0 (.cells 1 (r.flatMap (ci .u64)) 0)):=by
 refine dR.of_bodyK func100 rfl he hk ?_;clear he;generalize H.ent=h0 at hk hD⊢;have hne1: ∀ {k:Nat},3000000≤k→(k==i0)=false:=fun hh=>by simp;omega
 have hne2: ∀ {k:Nat},3000000≤k→(i0==k)=false:=fun hh=>by simp;omega
 simp only [ntmps100,List.length_cons,List.length_nil,Nat.reduceAdd,Nat.reduceSub];unfold oX at hm;refine AWp.behind ?_;refine sN 3000064 ?_
 iterate 3 refine pA ?_
 refine fs (AWp.reg 64 (N':=3000128) rfl ?_)
 iterate 4 refine pA ?_
 obtain ⟨r2,h1,hm⟩:=bnd hm;refine aI.callQ (r:= .v (.int .i64 r2)) Zd Z1 bU1 (fun H=>(cV .nil)) (aL3 h1) ?_;obtain ⟨l4,h3,hm⟩:=bnd hm;have qh3:=pP h3;refine aI.callM Zd Z1 bNr ?_ (aE2 (oU h3) (i0:=i0) Ze (fun q hq=>by simp only [upd_ne _ _ _ _ (show q≠i0 by omega)];exact hk q hq) (by (repeat (first|exact hD|refine nM (wB (CFi .u64)) ?_))) hi) ?_
 ·
  try simp only [go_sem,Nat.reduceBEq]
  first|done|rfl|(congr 2<;>omega)
 refine aI.fin ?_;cases hm;exact aJe (.inl rfl) Tryz.results100 (by intro q hq;simp only [upd];all_goals ((repeat' split)<;>first|rfl|omega)) (fun q hq=>by rw [upd_ne _ _ _ _ om];exact hk q hq) (nM (wB (CFi .u64)) hD)
abbrev aE8(rec1:aF→List Int→List Int→Int→Int→Option ((List Int)))(s_2:aF)(nY:List Int)(t8:List Int)(t9:Int)(t10:Int):Option ((List Int)):=
 rec1 s_2 nY t8 t9 (IntKind.i64.wrap (t10+1))
def aI7(rec1:aF→List Int→List Int→Int→Int→Option ((List Int)))(s_2:aF)(nY:List Int)(t8:List Int)(t9:Int)(t10:Int):Option ((List Int)):=
 (bif (decide (t10<t9)) then
  ((idx t8 t10).bind fun x2=>
  ((idx s_2.Slots x2).bind fun x4=>
  (bif x4.Used then
   ((idx s_2.Slots x2).bind fun x6=>
   ((app nY [x6.Key]).bind fun l8=>
   aE8 rec1 s_2 l8 t8 t9 t10))
  else
   aE8 rec1 s_2 nY t8 t9 t10)))
 else
  ((tM (fun x=>x.length) nY.length (oX nY)).bind fun l10=>
  some l10))
def xY:Nat→aF→List Int→List Int→Int→Int→Option ((List Int))
 |0=>fun _ _ _ _ _=>none
 |n+1=>aI7 (xY n)
def tO(s_0:aF)(l_1:List Int):Option ((List Int)):=
 xY aZ s_0 [] l_1 (l_1.length:Int) 0
theorem bB0{s_0:aF}{l_1:List Int}{r:(List Int)}(hm:tO s_0 l_1=some r):dT prog 76 [.agg [vi s_0.Graph.Config.N,vi s_0.Graph.Config.L,vi s_0.Graph.Config.R,vl dW s_0.Graph.Hashes,vl bE s_0.Graph.Edges,vl bH s_0.Slots],vl (ci .i64) l_1] (vl (ci .u64) r):=by
 refine bd 33 func76 ?_;refine W ?_;refine lp (fun m s=> ∃s_2 nY t8 t9 t10,s=⟨33,(aG (aG (aG (aG (aG fa 2 (.adr 1 0)) 5 (.own 2 0 nY.length)) 8 (vl (ci .i64) t8)) 9 (vi t9)) 10 (vi t10)),⟨(upd (upd bR 1 (.cells 1 [vi s_2.Graph.Config.N,vi s_2.Graph.Config.L,vi s_2.Graph.Config.R,vl dW s_2.Graph.Hashes,vl bE s_2.Graph.Edges,vl bH s_2.Slots] 0)) 2 (.cells 1 (nY.flatMap (ci .u64)) 0)),64⟩⟩∧xY m s_2 nY t8 t9 t10=some r) ?_ ?_
 · refine ⟨_,?_,s_0,[],l_1,(l_1.length:Int),0,rfl,hm⟩;refine St.Le.trans (aIb 5 900005 1 Z1 Z5) ?_;exact cn (fun j=>bif j==1 then 0 else bif j==2 then 900005 else 0)
 rintro n1 s ⟨s_2,nY,t8,t9,t10,rfl,hm⟩;refine W ?_;refine cm hm (fun hm=>?_) fun hm=>?_
 ·
  refine V ?_;refine AWp.seqJ (fun s=> ∃s_2 nY t8 t9 t10,s=⟨33,(aG (aG (aG (aG (aG fa 2 (.adr 1 0)) 5 (.own 2 0 nY.length)) 8 (vl (ci .i64) t8)) 9 (vi t9)) 10 (vi t10)),⟨(upd (upd bR 1 (.cells 1 [vi s_2.Graph.Config.N,vi s_2.Graph.Config.L,vi s_2.Graph.Config.R,vl dW s_2.Graph.Hashes,vl bE s_2.Graph.Edges,vl bH s_2.Slots] 0)) 2 (.cells 1 (nY.flatMap (ci .u64)) 0)),64⟩⟩∧aE8 (xY n1) s_2 nY t8 t9 t10=some r) ?_ ?_
  ·
   obtain ⟨x2,h1,hm⟩:=bnd hm;obtain ⟨x4,h3,hm⟩:=bnd hm;refine W ?_;refine cm hm (fun hm=>?_) fun hm=>?_
   · have hm:=sb hm h3;refine W ?_;refine aL (CFi .u64) [x4.Key] ?_;obtain ⟨l8,h7,hm⟩:=bnd hm;refine W ?_;exact Lr (fun j=>bif j==1 then 1 else bif j==2 then 264 else 0)
   refine W ?_;exact Lr (fun j=>bif j==1 then 1 else bif j==2 then 2 else 0)
  rintro s ⟨s_2,nY,t8,t9,t10,rfl,hm⟩;refine W ?_;exact Lr (fun j=>bif j==1 then 1 else bif j==2 then 2 else 0)
 obtain ⟨l10,h9,hm⟩:=bnd hm;refine W ?_;have qh9:=pP h9;refine aI.callM Zd Z1 bXf Z1 (aN0 (oU h9) Z3 (by (repeat (first|exact bOb|refine bFv ?_ Zd))) (by (repeat (first|exact bNi|refine nM trivial ?_|refine nM (wB (CFi .u64)) ?_|refine nM ⟨Nat.zero_le _,(aHm.dat s_2)⟩ ?_|refine nM ⟨Nat.zero_le _,DS⟩ ?_))) Zd) ?_;exact E
instance:Ct prog 76 (K2 prog eN (vl (ci .i64)) (vl (ci .u64)) 76 tO):=⟨fun hm=>bB0 hm⟩
abbrev aDs(rec1:aF→Int→List Int→Int→Int→Option (Int))(s_2:aF)(aK5:Int)(t8:List Int)(t9:Int)(t10:Int):Option (Int):=
 rec1 s_2 aK5 t8 t9 (IntKind.i64.wrap (t10+1))
def aDr(rec1:aF→Int→List Int→Int→Int→Option (Int))(s_2:aF)(aK5:Int)(t8:List Int)(t9:Int)(t10:Int):Option (Int):=
 (bif (decide (t10<t9)) then
  ((idx t8 t10).bind fun x2=>
  ((dX ((t10==x2)==true) (aR.mk false 0) (idx s_2.Slots t10)).bind fun x4=>
  (bif ((t10==x2)&&x4.Used) then
   aDs rec1 s_2 (IntKind.i64.wrap (aK5+1)) t8 t9 t10
  else
   aDs rec1 s_2 aK5 t8 t9 t10)))
 else
  some aK5)
def rS:Nat→aF→Int→List Int→Int→Int→Option (Int)
 |0=>fun _ _ _ _ _=>none
 |n+1=>aDr (rS n)
def aB9(s_0:aF)(bFt:List Int):Option (Int):=
 rS aZ s_0 0 bFt (bFt.length:Int) 0
theorem aT9:K2 prog eN (vl (ci .i64)) vi 79 aB9:=by
 intro s_0 bFt r hm
 let I1:=((fun m s=> ∃s_2 aK5 t8 t9 t10,s=⟨30,(aG (aG (aG (aG (aG fa 2 (.adr 1 0)) 5 (vi aK5)) 8 (vl (ci .i64) t8)) 9 (vi t9)) 10 (vi t10)),⟨(upd bR 1 (.cells 1 [vi s_2.Graph.Config.N,vi s_2.Graph.Config.L,vi s_2.Graph.Config.R,vl dW s_2.Graph.Hashes,vl bE s_2.Graph.Edges,vl bH s_2.Slots] 0)),64⟩⟩∧rS m s_2 aK5 t8 t9 t10=some r):Nat→St→Prop)
 exact be 30 func79 (h:=G)
instance:Ct prog 79 (K2 prog eN (vl (ci .i64)) vi 79 aB9):=⟨aT9⟩
def iS(bP:(aC→aC→Option (Int)))(rec1:List aC→Int→Int→Int→Option (List aC))(rec2:List aC→Int→Int→Int→Int→Option (List aC))(aB:List aC)(a_1:Int)(b_2:Int)(i_8:Int)(j_9:Int):Option (List aC):=
 ((dX ((decide (a_1<j_9))==true) (aC.mk 0 0) (idx aB j_9)).bind fun x2=>
 ((dX ((decide (a_1<j_9))==true) (aC.mk 0 0) (idx aB (IntKind.i64.wrap (j_9-1)))).bind fun x4=>
 ((dX ((decide (a_1<j_9))==true) 0 (bP x2 x4)).bind fun r6=>
 (bif ((decide (a_1<j_9))&&(decide (r6<0))) then
  ((idx aB (IntKind.i64.wrap (j_9-1))).bind fun x8=>
  ((idx aB j_9).bind fun x10=>
  ((idx aB j_9).bind fun x12=>
  ((stt aB j_9 x8).bind fun l14=>
  ((idx l14 (IntKind.i64.wrap (j_9-1))).bind fun x16=>
  ((stt l14 (IntKind.i64.wrap (j_9-1)) x10).bind fun l18=>
  rec2 l18 a_1 b_2 i_8 (IntKind.i64.wrap (j_9-1))))))))
 else
  rec1 aB a_1 b_2 (IntKind.i64.wrap (i_8+1))))))
def gN(bP:(aC→aC→Option (Int)))(rec1:List aC→Int→Int→Int→Option (List aC)):Nat→List aC→Int→Int→Int→Int→Option (List aC)
 |0=>fun _ _ _ _ _=>none
 |n+1=>iS bP rec1 (gN bP rec1 n)
def iR(bP:(aC→aC→Option (Int)))(rec1:List aC→Int→Int→Int→Option (List aC))(aB:List aC)(a_1:Int)(b_2:Int)(i_8:Int):Option (List aC):=
 (bif (decide (i_8<b_2)) then
  gN bP rec1 aZ aB a_1 b_2 i_8 i_8
 else
  some aB)
def dN(bP:(aC→aC→Option (Int))):Nat→List aC→Int→Int→Int→Option (List aC)
 |0=>fun _ _ _ _=>none
 |n+1=>iR bP (dN bP n)
def jO(aB:List aC)(a_1:Int)(b_2:Int)(bP:(aC→aC→Option (Int))):Option (List aC):=
 dN bP aZ aB a_1 b_2 (IntKind.i64.wrap (a_1+1))
theorem aA8{aB:List aC}{a_1:Int}{b_2:Int}{bP:(aC→aC→Option (Int))}{r:List aC}(hm:jO aB a_1 b_2 bP=some r){jI:FuncId}{eP:List AV}(mU: ∀a,a∈eP→AM.Data a)(pH:(Program.funcs prog)[jI]?.any (fun fn=>fn.body.isSome&&fn.name != "runtime.NumGoroutine")=true)(pO: ∀ {x0 x1 r},bP x0 x1=some r→dT prog jI ([.agg [.v (.int .u64 x0.x0),.v (.int .u64 x0.x1)],.agg [.v (.int .u64 x1.x0),.v (.int .u64 x1.x1)]]++eP) (.v (.int .i64 r))){H:aM}{i0:Nat}(he:H.ent i0= .cells 2 (aB.flatMap bT) 0):dR prog 156 [.own i0 0 aB.length,.v (.int .i64 a_1),.v (.int .i64 b_2),.clo (.func jI) [] eP] H (.tup []) (H.put i0 (.cells 2 (r.flatMap bT) 0)):=by
 refine dR.of_bodyM func156 rfl he ?_;generalize H.ent=h0;simp only [ntmps156,List.length_cons,List.length_nil,Nat.reduceAdd,Nat.reduceSub];unfold jO at hm;refine sN 64 ?_
 iterate 3 refine pA ?_
 refine fs (AWp.block (AWp.loopM (fun m s=> ∃(aB:List aC) (a_1:Int) (b_2:Int) (i_8:Int),s=(⟨53,(aG (aG (aG (aG (aG (fun _=>AV.any) 0 (.own i0 0 aB.length)) 1 (.v (.int .i64 a_1))) 2 (.v (.int .i64 b_2))) 3 (.clo (.func jI) [] eP)) 8 (.v (.int .i64 i_8))),⟨(upd h0 i0 (.cells 2 (aB.flatMap bT) 0)),64⟩⟩:St)∧dN bP m aB a_1 b_2 i_8=some r) aZ ?_ ?_ ?_))
 · rintro s ⟨_,_,_,_,_,h⟩;cases h
 · refine ⟨_,?_,aB,a_1,b_2,(IntKind.i64.wrap (a_1+1)),rfl,hm⟩;exact bN (aD 8 _ Z1 (aD 3 _ Z1 (aD 2 _ Z1 (aD 1 _ Z1 (aD 0 _ (bO Z1 Z6) bF))))) Zc
 ·
  rintro n1 s ⟨aB,a_1,b_2,i_8,rfl,hm⟩;replace hm:iR bP (dN bP n1) aB a_1 b_2 i_8=some r:=hm;unfold iR at hm;refine AWp.seq' (sN 128 ?_)
  iterate 3 refine pA ?_
  refine fs (AWp.condM hm Z1 (fun _ hm=>?_) (fun _ hm=>?_))
  ·
   refine AWp.skip (aV (AWp.seq' (AWp.block (sN 192 ?_))))
   iterate 2 refine pA ?_
   refine fs (AWp.block (AWp.loopM (fun m s=> ∃(aB:List aC) (a_1:Int) (b_2:Int) (i_8:Int) (j_9:Int),s=(⟨53,(aG (aG (aG (aG (aG (aG (fun _=>AV.any) 0 (.own i0 0 aB.length)) 1 (.v (.int .i64 a_1))) 2 (.v (.int .i64 b_2))) 3 (.clo (.func jI) [] eP)) 8 (.v (.int .i64 i_8))) 9 (.v (.int .i64 j_9))),⟨(upd h0 i0 (.cells 2 (aB.flatMap bT) 0)),64⟩⟩:St)∧gN bP (dN bP n1) m aB a_1 b_2 i_8 j_9=some r) aZ ?_ ?_ ?_))
   · rintro s ⟨_,_,_,_,_,_,h⟩;cases h
   · refine ⟨_,?_,aB,a_1,b_2,i_8,i_8,rfl,hm⟩;exact bN (aD 9 _ Z1 (aD 8 _ Z1 (aD 3 _ Z1 (aD 2 _ Z1 (aD 1 _ Z1 (aD 0 _ (bO Z1 Z6) bF)))))) Zc
   ·
    rintro n2 s ⟨aB,a_1,b_2,i_8,j_9,rfl,hm⟩;replace hm:iS bP (dN bP n1) (gN bP (dN bP n1) n2) aB a_1 b_2 i_8 j_9=some r:=hm;unfold iS at hm;refine AWp.seq' (sd mix (by kernel_rfl) (N':=128) rfl ?_)
    iterate 7 first|refine pA ?_|refine pB ?_
    obtain ⟨x2,h1,hm⟩:=bnd hm;refine pg rfl rfl Z2 (fun hb=>(aN underlying40 fS (Zh hb) Za Z6 (Zh hb) (bI h1 hb))) ?_;refine pg rfl rfl Z2 (fun hb=>(bM aJ (Zh hb) Za (bI h1 hb) Zb)) ?_
    iterate 3 refine pB ?_
    obtain ⟨x4,h3,hm⟩:=bnd hm;refine pg rfl rfl Z2 (fun hb=>(aN underlying40 fS (Zh hb) Za Z6 (Zh hb) (bI h3 hb))) ?_;refine pg rfl rfl Z2 (fun hb=>(bM aJ (Zh hb) Za (bI h3 hb) Zb)) ?_;obtain ⟨r6,h5,hm⟩:=bnd hm;refine aI.callQCG (r:= .v (.int .i64 r6)) Zd rfl Z2 (fun hb=>(Zh hb)) mU pH (fun hb H=>(.cons (td (Zh hb) (.agg _ (aJ.dat _))) (.cons (td (Zh hb) (.agg _ (aJ.dat _))) .nil))) (fun hb=>pO (bI h5 hb)) ?_
    iterate 2 first|refine pA ?_|refine pB ?_
    refine fs (AWp.condM hm Z1 (fun _ hm=>?_) (fun _ hm=>?_))
    ·
     refine AWp.skip (aV (AWp.seq' (AWp.block (AWp.regD 64 mix (by kernel_rfl) (N':=192) rfl ?_))))
     iterate 8 refine pA ?_
     obtain ⟨x8,h7,hm⟩:=bnd hm;refine pu rfl (aN underlying40 fS Z1 Za Z6 Z1 h7) ?_;refine pu rfl (bM aJ Z1 Za h7 Zb) ?_
     iterate 2 refine pA ?_
     obtain ⟨x10,h9,hm⟩:=bnd hm;refine pu rfl (aN underlying40 fS Z1 Za Z6 Z1 h9) ?_;refine pu rfl (bM aJ Z1 Za h9 Zb) ?_;obtain ⟨x12,h11,hm⟩:=bnd hm;refine pu rfl (aN underlying40 fS Z1 Za Z6 Z1 h11) ?_;obtain ⟨l14,h13,hm⟩:=bnd hm;have qh13:=cY h13;refine aI.heap0 (id:=143) rfl (eR aJ fS Z1 Z1 Za rfl h13) ?_;obtain ⟨x16,h15,hm⟩:=bnd hm;refine pu rfl (aN underlying40 fS Z1 Za Z6 Z1 h15) ?_;obtain ⟨l18,h17,hm⟩:=bnd hm;have qh17:=cY h17;refine aI.heap0 (id:=145) rfl (eR aJ fS Z1 Z1 Za rfl h17) ?_;refine aI.fin (eT (aV (AWp.reg 64 (N':=256) rfl ?_)))
     iterate 3 refine pA ?_
     refine aI.fin (cO ?_);refine ⟨_,?_,l18,a_1,b_2,i_8,(IntKind.i64.wrap (j_9-1)),rfl,hm⟩;exact bN (aD 9 _ Z1 (aD 8 _ Z1 (aD 3 _ Z1 (aD 2 _ Z1 (aD 1 _ Z1 (aD 0 _ (bO Z1 Z6) bF)))))) Zc
    ·
     refine AWp.exit (dJ (dA (cW (eT (aV (AWp.reg 64 (N':=192) rfl ?_))))))
     iterate 3 refine pA ?_
     refine aI.fin (cO ?_);refine ⟨_,?_,aB,a_1,b_2,(IntKind.i64.wrap (i_8+1)),rfl,hm⟩;exact bN (aD 8 _ Z1 (aD 3 _ Z1 (aD 2 _ Z1 (aD 1 _ Z1 (aD 0 _ (bO Z1 Z6) bF))))) Zc
  · refine AWp.exit (dJ (dA (cW ?_)));cases hm;exact aLt (.inl rfl) Tryz.results156 Zc
abbrev jG(bQ:(aC→aC→Option (Int)))(rec1:List aC→Int→Int→Int→Option (List aC))(aB:List aC)(oR:Int)(dK:Int)(mN:Int)(yT:Int):Option (List aC):=
 ((idx aB (IntKind.i64.wrap (dK+mN))).bind fun x2=>
 ((idx aB (IntKind.i64.wrap (dK+yT))).bind fun x4=>
 ((bQ x2 x4).bind fun r6=>
 (bif (!(decide (r6<0))) then
  some aB
 else
  ((idx aB (IntKind.i64.wrap (dK+yT))).bind fun x8=>
  ((idx aB (IntKind.i64.wrap (dK+mN))).bind fun x10=>
  ((idx aB (IntKind.i64.wrap (dK+mN))).bind fun x12=>
  ((stt aB (IntKind.i64.wrap (dK+mN)) x8).bind fun l14=>
  ((idx l14 (IntKind.i64.wrap (dK+yT))).bind fun x16=>
  ((stt l14 (IntKind.i64.wrap (dK+yT)) x10).bind fun l18=>
  rec1 l18 oR dK yT))))))))))
def lS(bQ:(aC→aC→Option (Int)))(rec1:List aC→Int→Int→Int→Option (List aC))(aB:List aC)(oR:Int)(dK:Int)(mN:Int):Option (List aC):=
 (bif (decide (oR≤(IntKind.i64.wrap ((IntKind.i64.wrap (2*mN))+1)))) then
  some aB
 else
  ((dX ((decide ((IntKind.i64.wrap ((IntKind.i64.wrap ((IntKind.i64.wrap (2*mN))+1))+1))<oR))==true) (aC.mk 0 0) (idx aB (IntKind.i64.wrap (dK+(IntKind.i64.wrap ((IntKind.i64.wrap (2*mN))+1)))))).bind fun x20=>
  ((dX ((decide ((IntKind.i64.wrap ((IntKind.i64.wrap ((IntKind.i64.wrap (2*mN))+1))+1))<oR))==true) (aC.mk 0 0) (idx aB (IntKind.i64.wrap ((IntKind.i64.wrap (dK+(IntKind.i64.wrap ((IntKind.i64.wrap (2*mN))+1))))+1)))).bind fun x22=>
  ((dX ((decide ((IntKind.i64.wrap ((IntKind.i64.wrap ((IntKind.i64.wrap (2*mN))+1))+1))<oR))==true) 0 (bQ x20 x22)).bind fun r24=>
  (bif ((decide ((IntKind.i64.wrap ((IntKind.i64.wrap ((IntKind.i64.wrap (2*mN))+1))+1))<oR))&&(decide (r24<0))) then
   jG bQ rec1 aB oR dK mN (IntKind.i64.wrap ((IntKind.i64.wrap ((IntKind.i64.wrap (2*mN))+1))+1))
  else
   jG bQ rec1 aB oR dK mN (IntKind.i64.wrap ((IntKind.i64.wrap (2*mN))+1)))))))
def fD(bQ:(aC→aC→Option (Int))):Nat→List aC→Int→Int→Int→Option (List aC)
 |0=>fun _ _ _ _=>none
 |n+1=>lS bQ (fD bQ n)
def kB(aB:List aC)(vS:Int)(oR:Int)(dK:Int)(bQ:(aC→aC→Option (Int))):Option (List aC):=
 fD bQ aZ aB oR dK vS
theorem tQ{aB:List aC}{vS:Int}{oR:Int}{dK:Int}{bQ:(aC→aC→Option (Int))}{r:List aC}(hm:kB aB vS oR dK bQ=some r){jJ:FuncId}{eQ:List AV}(gG: ∀a,a∈eQ→AM.Data a)(lH:(Program.funcs prog)[jJ]?.any (fun fn=>fn.body.isSome&&fn.name != "runtime.NumGoroutine")=true)(lJ: ∀ {x0 x1 r},bQ x0 x1=some r→dT prog jJ ([.agg [.v (.int .u64 x0.x0),.v (.int .u64 x0.x1)],.agg [.v (.int .u64 x1.x0),.v (.int .u64 x1.x1)]]++eQ) (.v (.int .i64 r))){H:aM}{i0:Nat}(he:H.ent i0= .cells 2 (aB.flatMap bT) 0):dR prog 180 [.own i0 0 aB.length,.v (.int .i64 vS),.v (.int .i64 oR),.v (.int .i64 dK),.clo (.func jJ) [] eQ] H (.tup []) (H.put i0 (.cells 2 (r.flatMap bT) 0)):=by
 refine dR.of_bodyM func180 rfl he ?_;generalize H.ent=h0;simp only [ntmps180,List.length_cons,List.length_nil,Nat.reduceAdd,Nat.reduceSub];unfold kB at hm;refine sN 64 ?_
 iterate 2 refine pA ?_
 refine fs (AWp.block (AWp.loopM (fun m s=> ∃(aB:List aC) (oR:Int) (dK:Int) (mN:Int),s=(⟨82,(aG (aG (aG (aG (aG (fun _=>AV.any) 0 (.own i0 0 aB.length)) 2 (.v (.int .i64 oR))) 3 (.v (.int .i64 dK))) 4 (.clo (.func jJ) [] eQ)) 10 (.v (.int .i64 mN))),⟨(upd h0 i0 (.cells 2 (aB.flatMap bT) 0)),64⟩⟩:St)∧fD bQ m aB oR dK mN=some r) aZ ?_ ?_ ?_))
 · rintro s ⟨_,_,_,_,_,h⟩;cases h
 · refine ⟨_,?_,aB,oR,dK,vS,rfl,hm⟩;exact bN (aD 10 _ Z1 (aD 4 _ Z1 (aD 3 _ Z1 (aD 2 _ Z1 (aD 0 _ (bO Z1 Z6) bF))))) Zc
 ·
  rintro n1 s ⟨aB,oR,dK,mN,rfl,hm⟩;replace hm:lS bQ (fD bQ n1) aB oR dK mN=some r:=hm;unfold lS at hm;refine AWp.block (sN 128 ?_)
  iterate 4 refine pA ?_
  refine fs (AWp.seq' (sN 192 ?_))
  iterate 3 refine pA ?_
  refine fs (AWp.condM hm Z1 (fun _ hm=>?_) (fun _ hm=>?_))
  · refine AWp.exit (dJ (rQ Zd ?_));refine dA (cW ?_);cases hm;exact aLt (.inl rfl) Tryz.results180 Zc
  ·
   refine AWp.skip (aV (AWp.seqJ (fun s=> ∃(aB:List aC) (oR:Int) (dK:Int) (mN:Int) (yT:Int),s=(⟨82,(aG (aG (aG (aG (aG (aG (fun _=>AV.any) 0 (.own i0 0 aB.length)) 2 (.v (.int .i64 oR))) 3 (.v (.int .i64 dK))) 4 (.clo (.func jJ) [] eQ)) 10 (.v (.int .i64 mN))) 11 (.v (.int .i64 yT))),⟨(upd h0 i0 (.cells 2 (aB.flatMap bT) 0)),64⟩⟩:St)∧jG bQ (fD bQ n1) aB oR dK mN yT=some r) ?_ ?_))
   ·
    refine sd mix (by kernel_rfl) (N':=256) rfl ?_
    iterate 10 first|refine pA ?_|refine pB ?_
    obtain ⟨x20,h19,hm⟩:=bnd hm;refine pg rfl rfl Z2 (fun hb=>(aN underlying40 fS (Zh hb) Za Z6 (Zh hb) (bI h19 hb))) ?_;refine pg rfl rfl Z2 (fun hb=>(bM aJ (Zh hb) Za (bI h19 hb) Zb)) ?_
    iterate 5 refine pB ?_
    obtain ⟨x22,h21,hm⟩:=bnd hm;refine pg rfl rfl Z2 (fun hb=>(aN underlying40 fS (Zh hb) Za Z6 (Zh hb) (bI h21 hb))) ?_;refine pg rfl rfl Z2 (fun hb=>(bM aJ (Zh hb) Za (bI h21 hb) Zb)) ?_;obtain ⟨r24,h23,hm⟩:=bnd hm;refine aI.callQCG (r:= .v (.int .i64 r24)) Zd rfl Z2 (fun hb=>(Zh hb)) gG lH (fun hb H=>(.cons (td (Zh hb) (.agg _ (aJ.dat _))) (.cons (td (Zh hb) (.agg _ (aJ.dat _))) .nil))) (fun hb=>lJ (bI h23 hb)) ?_
    iterate 2 first|refine pA ?_|refine pB ?_
    refine fs (AWp.condM hm Z1 (fun _ hm=>?_) (fun _ hm=>?_))
    ·
     refine AWp.reg 64 (N':=320) rfl ?_
     iterate 3 refine pA ?_
     refine aI.fin (nH ?_);refine ⟨_,?_,aB,oR,dK,mN,(IntKind.i64.wrap ((IntKind.i64.wrap ((IntKind.i64.wrap (2*mN))+1))+1)),rfl,hm⟩;exact bN (aD 11 _ Z1 (aD 10 _ Z1 (aD 4 _ Z1 (aD 3 _ Z1 (aD 2 _ Z1 (aD 0 _ (bO Z1 Z6) bF)))))) Zc
    · refine AWp.skip (nH ?_);refine ⟨_,?_,aB,oR,dK,mN,(IntKind.i64.wrap ((IntKind.i64.wrap (2*mN))+1)),rfl,hm⟩;exact bN (aD 11 _ Z1 (aD 10 _ Z1 (aD 4 _ Z1 (aD 3 _ Z1 (aD 2 _ Z1 (aD 0 _ (bO Z1 Z6) bF)))))) Zc
   ·
    rintro s ⟨aB,oR,dK,mN,yT,rfl,hm⟩;unfold jG at hm;refine AWp.seq' (sd mix (by kernel_rfl) (N':=128) rfl ?_)
    iterate 5 refine pA ?_
    obtain ⟨x2,h1,hm⟩:=bnd hm;refine pu rfl (aN underlying40 fS Z1 Za Z6 Z1 h1) ?_;refine pu rfl (bM aJ Z1 Za h1 Zb) ?_
    iterate 4 refine pA ?_
    obtain ⟨x4,h3,hm⟩:=bnd hm;refine pu rfl (aN underlying40 fS Z1 Za Z6 Z1 h3) ?_;refine pu rfl (bM aJ Z1 Za h3 Zb) ?_;obtain ⟨r6,h5,hm⟩:=bnd hm;refine aI.callQC (r:= .v (.int .i64 r6)) Zd Z1 gG lH (fun H=>(cD (.agg _ (aJ.dat _)) (cD (.agg _ (aJ.dat _)) .nil))) (lJ h5) ?_
    iterate 2 refine pA ?_
    refine fs (AWp.condM hm Z1 (fun _ hm=>?_) (fun _ hm=>?_))
    · refine AWp.ret (lD (qD (qX (qD ?_))));cases hm;exact aLt (.inr rfl) Tryz.results180 Zc
    ·
     refine AWp.skip (aV (sd mix (by kernel_rfl) (N':=192) rfl ?_))
     iterate 12 refine pA ?_
     obtain ⟨x8,h7,hm⟩:=bnd hm;refine pu rfl (aN underlying40 fS Z1 Za Z6 Z1 h7) ?_;refine pu rfl (bM aJ Z1 Za h7 Zb) ?_
     iterate 4 refine pA ?_
     obtain ⟨x10,h9,hm⟩:=bnd hm;refine pu rfl (aN underlying40 fS Z1 Za Z6 Z1 h9) ?_;refine pu rfl (bM aJ Z1 Za h9 Zb) ?_;obtain ⟨x12,h11,hm⟩:=bnd hm;refine pu rfl (aN underlying40 fS Z1 Za Z6 Z1 h11) ?_;obtain ⟨l14,h13,hm⟩:=bnd hm;have qh13:=cY h13;refine aI.heap0 (id:=149) rfl (eR aJ fS Z1 Z1 Za rfl h13) ?_;obtain ⟨x16,h15,hm⟩:=bnd hm;refine pu rfl (aN underlying40 fS Z1 Za Z6 Z1 h15) ?_;obtain ⟨l18,h17,hm⟩:=bnd hm;have qh17:=cY h17;refine aI.heap0 (id:=151) rfl (eR aJ fS Z1 Z1 Za rfl h17) ?_;refine fs (AWp.reg 64 (N':=256) rfl ?_)
     iterate 2 refine pA ?_
     refine aI.fin (eT (cO ?_));refine ⟨_,?_,l18,oR,dK,yT,rfl,hm⟩;exact bN (aD 10 _ Z1 (aD 4 _ Z1 (aD 3 _ Z1 (aD 2 _ Z1 (aD 0 _ (bO Z1 Z6) bF))))) Zc
def lN(bP:(aC→aC→Option (Int)))(rec2:List aC→Int→Int→Int→Option (List aC))(aB:List aC)(nL:Int)(aJi:Int)(kE:Int):Option (List aC):=
 (bif (decide (0≤kE)) then
  ((idx aB (IntKind.i64.wrap (nL+kE))).bind fun x4=>
  ((idx aB nL).bind fun x6=>
  ((idx aB nL).bind fun x8=>
  ((stt aB nL x4).bind fun l10=>
  ((idx l10 (IntKind.i64.wrap (nL+kE))).bind fun x12=>
  ((stt l10 (IntKind.i64.wrap (nL+kE)) x6).bind fun l14=>
  ((tM (fun x=>x.length) l14.length (kB l14 aJi kE nL bP)).bind fun l16=>
  rec2 l16 nL aJi (IntKind.i64.wrap (kE-1)))))))))
 else
  some aB)
def jD(bP:(aC→aC→Option (Int))):Nat→List aC→Int→Int→Int→Option (List aC)
 |0=>fun _ _ _ _=>none
 |n+1=>lN bP (jD bP n)
def lM(bP:(aC→aC→Option (Int)))(rec1:List aC→Int→Int→Int→Int→Option (List aC))(aB:List aC)(nL:Int)(aJi:Int)(aLo:Int)(qH:Int):Option (List aC):=
 (bif (decide (0≤qH)) then
  ((tM (fun x=>x.length) aB.length (kB aB qH aLo nL bP)).bind fun l2=>
  rec1 l2 nL aJi aLo (IntKind.i64.wrap (qH-1)))
 else
  jD bP aZ aB nL aJi (IntKind.i64.wrap (aLo-1)))
def jC(bP:(aC→aC→Option (Int))):Nat→List aC→Int→Int→Int→Int→Option (List aC)
 |0=>fun _ _ _ _ _=>none
 |n+1=>lM bP (jC bP n)
def mA(aB:List aC)(a_1:Int)(b_2:Int)(bP:(aC→aC→Option (Int))):Option (List aC):=
 jC bP aZ aB a_1 0 (IntKind.i64.wrap (b_2-a_1)) (IntKind.i64.wrap (Int.tdiv (IntKind.i64.wrap ((IntKind.i64.wrap (b_2-a_1))-1)) 2))
theorem aDe{aB:List aC}{a_1:Int}{b_2:Int}{bP:(aC→aC→Option (Int))}{r:List aC}(hm:mA aB a_1 b_2 bP=some r){jI:FuncId}{eP:List AV}(mU: ∀a,a∈eP→AM.Data a)(pH:(Program.funcs prog)[jI]?.any (fun fn=>fn.body.isSome&&fn.name != "runtime.NumGoroutine")=true)(pO: ∀ {x0 x1 r},bP x0 x1=some r→dT prog jI ([.agg [.v (.int .u64 x0.x0),.v (.int .u64 x0.x1)],.agg [.v (.int .u64 x1.x0),.v (.int .u64 x1.x1)]]++eP) (.v (.int .i64 r))){H:aM}{i0:Nat}(he:H.ent i0= .cells 2 (aB.flatMap bT) 0):dR prog 157 [.own i0 0 aB.length,.v (.int .i64 a_1),.v (.int .i64 b_2),.clo (.func jI) [] eP] H (.tup []) (H.put i0 (.cells 2 (r.flatMap bT) 0)):=by
 refine dR.of_bodyM func157 rfl he ?_;generalize H.ent=h0;simp only [ntmps157,List.length_cons,List.length_nil,Nat.reduceAdd,Nat.reduceSub];unfold mA at hm;refine sN 64 ?_
 iterate 2 refine pA ?_
 refine fs (sN 128 (pA ?_));refine fs (sN 192 ?_)
 iterate 4 refine pA ?_
 refine fs (AWp.seq' (sN 256 ?_))
 iterate 4 refine pu rfl Zj ?_
 refine fs (AWp.block (AWp.loopM (fun m s=> ∃(aB:List aC) (nL:Int) (aJi:Int) (aLo:Int) (qH:Int),s=(⟨60,(aG (aG (aG (aG (aG (aG (fun _=>AV.any) 0 (.own i0 0 aB.length)) 3 (.clo (.func jI) [] eP)) 8 (.v (.int .i64 nL))) 9 (.v (.int .i64 aJi))) 10 (.v (.int .i64 aLo))) 11 (.v (.int .i64 qH))),⟨(upd h0 i0 (.cells 2 (aB.flatMap bT) 0)),64⟩⟩:St)∧jC bP m aB nL aJi aLo qH=some r) aZ ?_ ?_ ?_))
 · rintro s ⟨_,_,_,_,_,_,h⟩;cases h
 · refine ⟨_,?_,aB,a_1,0,(IntKind.i64.wrap (b_2-a_1)),(IntKind.i64.wrap (Int.tdiv (IntKind.i64.wrap ((IntKind.i64.wrap (b_2-a_1))-1)) 2)),rfl,hm⟩;exact bN (aD 11 _ Z1 (aD 10 _ Z1 (aD 9 _ Z1 (aD 8 _ Z1 (aD 3 _ Z1 (aD 0 _ (bO Z1 Z6) bF)))))) Zc
 ·
  rintro n1 s ⟨aB,nL,aJi,aLo,qH,rfl,hm⟩;replace hm:lM bP (jC bP n1) aB nL aJi aLo qH=some r:=hm;unfold lM at hm;refine AWp.seq' (sN 128 ?_)
  iterate 2 refine pA ?_
  refine fs (AWp.condM hm Z1 (fun _ hm=>?_) (fun _ hm=>?_))
  ·
   refine AWp.skip (aV (AWp.seq' (AWp.block (AWp.reg 64 (N':=192) rfl ?_))))
   iterate 5 refine pA ?_
   obtain ⟨l2,h1,hm⟩:=bnd hm;have qh1:=pP h1;refine aI.callM Zd Z1 bU8 ?_ (tQ (oU h1) mU pH pO (i0:=i0) Za) ?_
   ·
    try simp only [go_sem,Nat.reduceBEq]
    first|done|rfl|(congr 2<;>omega)
   refine aI.fin (eT (aV (AWp.reg 64 (N':=256) rfl ?_)))
   iterate 3 refine pA ?_
   refine aI.fin (cO ?_);refine ⟨_,?_,l2,nL,aJi,aLo,(IntKind.i64.wrap (qH-1)),rfl,hm⟩;exact bN (aD 11 _ Z1 (aD 10 _ Z1 (aD 9 _ Z1 (aD 8 _ Z1 (aD 3 _ Z1 (aD 0 _ (bO Z1 Z6) bF)))))) Zc
  ·
   refine AWp.exit (dJ (dA (cW (aV (sN 192 ?_)))))
   iterate 3 refine pA ?_
   refine fs (AWp.block (AWp.loopM (fun m s=> ∃(aB:List aC) (nL:Int) (aJi:Int) (kE:Int),s=(⟨60,(aG (aG (aG (aG (aG (fun _=>AV.any) 0 (.own i0 0 aB.length)) 3 (.clo (.func jI) [] eP)) 8 (.v (.int .i64 nL))) 9 (.v (.int .i64 aJi))) 12 (.v (.int .i64 kE))),⟨(upd h0 i0 (.cells 2 (aB.flatMap bT) 0)),64⟩⟩:St)∧jD bP m aB nL aJi kE=some r) aZ ?_ ?_ ?_))
   · rintro s ⟨_,_,_,_,_,h⟩;cases h
   · refine ⟨_,?_,aB,nL,aJi,(IntKind.i64.wrap (aLo-1)),rfl,hm⟩;exact bN (aD 12 _ Z1 (aD 9 _ Z1 (aD 8 _ Z1 (aD 3 _ Z1 (aD 0 _ (bO Z1 Z6) bF))))) Zc
   ·
    rintro n2 s ⟨aB,nL,aJi,kE,rfl,hm⟩;replace hm:lN bP (jD bP n2) aB nL aJi kE=some r:=hm;unfold lN at hm;refine AWp.seq' (sN 128 ?_)
    iterate 2 refine pA ?_
    refine fs (AWp.condM hm Z1 (fun _ hm=>?_) (fun _ hm=>?_))
    ·
     refine AWp.skip (aV (AWp.seq' (AWp.block (sd mix (by kernel_rfl) (N':=192) rfl ?_))))
     iterate 10 refine pA ?_
     obtain ⟨x4,h3,hm⟩:=bnd hm;refine pu rfl (aN underlying40 fS Z1 Za Z6 Z1 h3) ?_;refine pu rfl (bM aJ Z1 Za h3 Zb) ?_
     iterate 2 refine pA ?_
     obtain ⟨x6,h5,hm⟩:=bnd hm;refine pu rfl (aN underlying40 fS Z1 Za Z6 Z1 h5) ?_;refine pu rfl (bM aJ Z1 Za h5 Zb) ?_;obtain ⟨x8,h7,hm⟩:=bnd hm;refine pu rfl (aN underlying40 fS Z1 Za Z6 Z1 h7) ?_;obtain ⟨l10,h9,hm⟩:=bnd hm;have qh9:=cY h9;refine aI.heap0 (id:=145) rfl (eR aJ fS Z1 Z1 Za rfl h9) ?_;obtain ⟨x12,h11,hm⟩:=bnd hm;refine pu rfl (aN underlying40 fS Z1 Za Z6 Z1 h11) ?_;obtain ⟨l14,h13,hm⟩:=bnd hm;have qh13:=cY h13;refine aI.heap0 (id:=147) rfl (eR aJ fS Z1 Z1 Za rfl h13) ?_;refine fs (AWp.reg 64 (N':=256) rfl ?_)
     iterate 5 refine pA ?_
     obtain ⟨l16,h15,hm⟩:=bnd hm;have qh15:=pP h15;refine aI.callM Zd Z1 bU8 ?_ (tQ (oU h15) mU pH pO (i0:=i0) Za) ?_
     ·
      try simp only [go_sem,Nat.reduceBEq]
      first|done|rfl|(congr 2<;>omega)
     refine aI.fin (eT (aV (AWp.reg 64 (N':=320) rfl ?_)))
     iterate 3 refine pA ?_
     refine aI.fin (cO ?_);refine ⟨_,?_,l16,nL,aJi,(IntKind.i64.wrap (kE-1)),rfl,hm⟩;exact bN (aD 12 _ Z1 (aD 9 _ Z1 (aD 8 _ Z1 (aD 3 _ Z1 (aD 0 _ (bO Z1 Z6) bF))))) Zc
    · refine AWp.exit (dJ (dA (cW ?_)));cases hm;exact aLt (.inl rfl) Tryz.results157 Zc
abbrev lY(bP:(aC→aC→Option (Int)))(rec1:List aC→Int→Int→Int→Int→Int→Option (List aC))(aB:List aC)(a_1:Int)(lL:Int)(nQ:Int)(gH:Int)(oS:Int):Option (List aC):=
 rec1 aB a_1 lL nQ gH (IntKind.i64.wrap (oS+1))
abbrev gK(bP:(aC→aC→Option (Int)))(rec1:List aC→Int→Int→Int→Int→Int→Option (List aC))(aB:List aC)(a_1:Int)(lL:Int)(nQ:Int)(gH:Int)(oS:Int)(aFa:Int):Option (List aC):=
 ((idx aB (IntKind.i64.wrap (a_1+aFa))).bind fun x7=>
 ((idx aB oS).bind fun x9=>
 ((idx aB oS).bind fun x11=>
 ((stt aB oS x7).bind fun l13=>
 ((idx l13 (IntKind.i64.wrap (a_1+aFa))).bind fun x15=>
 ((stt l13 (IntKind.i64.wrap (a_1+aFa)) x9).bind fun l17=>
 lY bP rec1 l17 a_1 lL nQ gH oS))))))
def iP(bP:(aC→aC→Option (Int)))(rec1:List aC→Int→Int→Int→Int→Int→Option (List aC))(aB:List aC)(a_1:Int)(lL:Int)(nQ:Int)(gH:Int)(oS:Int):Option (List aC):=
 (bif (decide (oS≤(IntKind.i64.wrap ((IntKind.i64.wrap (a_1+(IntKind.i64.wrap ((IntKind.i64.wrap (Int.tdiv lL 4))*2))))+1)))) then
  ((yJ nQ).bind fun ⟨r5,x4⟩=>
  (bif (decide (lL≤(IntKind.i64.wrap (yS .u64 r5 (IntKind.u64.wrap (gH-1)))))) then
   gK bP rec1 aB a_1 lL x4 gH oS (IntKind.i64.wrap ((IntKind.i64.wrap (yS .u64 r5 (IntKind.u64.wrap (gH-1))))-lL))
  else
   gK bP rec1 aB a_1 lL x4 gH oS (IntKind.i64.wrap (yS .u64 r5 (IntKind.u64.wrap (gH-1))))))
 else
  some aB)
def dL(bP:(aC→aC→Option (Int))):Nat→List aC→Int→Int→Int→Int→Int→Option (List aC)
 |0=>fun _ _ _ _ _ _=>none
 |n+1=>iP bP (dL bP n)
def jM(aB:List aC)(a_1:Int)(b_2:Int)(bP:(aC→aC→Option (Int))):Option (List aC):=
 (bif (decide (8≤(IntKind.i64.wrap (b_2-a_1)))) then
  ((nB (IntKind.i64.wrap (b_2-a_1))).bind fun r2=>
  dL bP aZ aB a_1 (IntKind.i64.wrap (b_2-a_1)) (IntKind.u64.wrap (IntKind.i64.wrap (b_2-a_1))) r2 (IntKind.i64.wrap ((IntKind.i64.wrap (a_1+(IntKind.i64.wrap ((IntKind.i64.wrap (Int.tdiv (IntKind.i64.wrap (b_2-a_1)) 4))*2))))-1)))
 else
  some aB)
theorem aA5{aB:List aC}{a_1:Int}{b_2:Int}{bP:(aC→aC→Option (Int))}{r:List aC}(hm:jM aB a_1 b_2 bP=some r){jI:FuncId}{eP:List AV}(mU: ∀a,a∈eP→AM.Data a)(pH:(Program.funcs prog)[jI]?.any (fun fn=>fn.body.isSome&&fn.name != "runtime.NumGoroutine")=true)(pO: ∀ {x0 x1 r},bP x0 x1=some r→dT prog jI ([.agg [.v (.int .u64 x0.x0),.v (.int .u64 x0.x1)],.agg [.v (.int .u64 x1.x0),.v (.int .u64 x1.x1)]]++eP) (.v (.int .i64 r))){H:aM}{i0:Nat}(he:H.ent i0= .cells 2 (aB.flatMap bT) 0)(hk: ∀id,3000000≤id→H.ent id= .fresh)(hD: ∀id,aDl (H.ent id))(hi:i0<3000000):dR prog 158 [.own i0 0 aB.length,.v (.int .i64 a_1),.v (.int .i64 b_2),.clo (.func jI) [] eP] H (.tup []) (H.put i0 (.cells 2 (r.flatMap bT) 0)):=by
 refine dR.of_bodyK func158 rfl he hk ?_;clear he;generalize H.ent=h0 at hk hD⊢;have hne1: ∀ {k:Nat},3000000≤k→(k==i0)=false:=fun hh=>by simp;omega
 have hne2: ∀ {k:Nat},3000000≤k→(i0==k)=false:=fun hh=>by simp;omega
 simp only [ntmps158,List.length_cons,List.length_nil,Nat.reduceAdd,Nat.reduceSub];unfold jM at hm;refine AWp.behind ?_;refine sN 3000064 ?_
 iterate 4 refine pA ?_
 refine fs (sN 3000128 ?_)
 iterate 2 refine pA ?_
 refine fs (AWp.condM hm Z1 (fun _ hm=>?_) (fun _ hm=>?_))
 ·
  refine sN 3000192 ?_
  iterate 2 refine pA ?_
  refine hp (id:=3000130) rfl rfl (qV bUr (by simp only [fZ,hne1,Nat.reduceLeDiff,Nat.reduceBEq,cond_true,cond_false];exact frK hk Zd)) ?_;refine aI.heap0 (id:=3000131) rfl (rK (ys:=[.v (.int .u64 (IntKind.u64.wrap (IntKind.i64.wrap (b_2-a_1))))]) aWs Z1 Z1 Ze rfl (lB rfl) Z9 rfl) ?_;refine fs (sN 3000256 (pA ?_));obtain ⟨r2,h1,hm⟩:=bnd hm;refine aI.callQ (r:= .v (.int .u64 r2)) Zd Z1 bU5 (fun H=>(cV .nil)) (uI h1) ?_;refine pA ?_;refine fs (sN 3000320 ?_)
  iterate 7 refine pu rfl Zj ?_
  refine fs (AWp.block (AWp.loopM (fun m s=> ∃(aB:List aC) (a_1:Int) (lL:Int) (nQ:Int) (gH:Int) (oS:Int),s=(⟨67,(aG (aG (aG (aG (aG (aG (fun _=>AV.any) 0 (.own i0 0 aB.length)) 1 (.v (.int .i64 a_1))) 8 (.v (.int .i64 lL))) 9 (.adr 3000130 0)) 10 (.v (.int .u64 gH))) 11 (.v (.int .i64 oS))),⟨(upd (upd h0 i0 (.cells 2 (aB.flatMap bT) 0)) 3000130 (.cells 1 [.v (.int .u64 nQ)] 0)),64⟩⟩:St)∧dL bP m aB a_1 lL nQ gH oS=some r) aZ ?_ ?_ ?_))
  · rintro s ⟨_,_,_,_,_,_,_,h⟩;cases h
  · refine ⟨_,?_,aB,a_1,(IntKind.i64.wrap (b_2-a_1)),(IntKind.u64.wrap (IntKind.i64.wrap (b_2-a_1))),r2,(IntKind.i64.wrap ((IntKind.i64.wrap (a_1+(IntKind.i64.wrap ((IntKind.i64.wrap (Int.tdiv (IntKind.i64.wrap (b_2-a_1)) 4))*2))))-1)),rfl,hm⟩;exact bN (aD 11 _ Z1 (aD 10 _ Z1 (aD 9 _ Z1 (aD 8 _ Z1 (aD 1 _ Z1 (aD 0 _ (bO Z1 Z6) bF)))))) Zi
  ·
   rintro n1 s ⟨aB,a_1,lL,nQ,gH,oS,rfl,hm⟩;replace hm:iP bP (dL bP n1) aB a_1 lL nQ gH oS=some r:=hm;unfold iP at hm;refine AWp.seq' (sN 128 ?_)
   iterate 8 refine pu rfl Zj ?_
   refine fs (AWp.condM hm Z1 (fun _ hm=>?_) (fun _ hm=>?_))
   ·
    refine AWp.skip (aV (AWp.seqJ (fun s=> ∃(aB:List aC) (a_1:Int) (lL:Int) (nQ:Int) (gH:Int) (oS:Int),s=(⟨67,(aG (aG (aG (aG (aG (aG (fun _=>AV.any) 0 (.own i0 0 aB.length)) 1 (.v (.int .i64 a_1))) 8 (.v (.int .i64 lL))) 9 (.adr 3000130 0)) 10 (.v (.int .u64 gH))) 11 (.v (.int .i64 oS))),⟨(upd (upd h0 i0 (.cells 2 (aB.flatMap bT) 0)) 3000130 (.cells 1 [.v (.int .u64 nQ)] 0)),64⟩⟩:St)∧lY bP (dL bP n1) aB a_1 lL nQ gH oS=some r) ?_ ?_))
    ·
     refine AWp.block (sN 192 ?_);obtain ⟨⟨r5,x4⟩,h3,hm⟩:=bnd hm;refine aI.callM Zd Z1 bU6 Z1 (aHj h3 Ze) ?_
     iterate 5 refine pA ?_
     refine fs (AWp.seqJ (fun s=> ∃(aB:List aC) (a_1:Int) (lL:Int) (nQ:Int) (gH:Int) (oS:Int) (aFa:Int),s=(⟨67,(aG (aG (aG (aG (aG (aG (aG (fun _=>AV.any) 0 (.own i0 0 aB.length)) 1 (.v (.int .i64 a_1))) 8 (.v (.int .i64 lL))) 9 (.adr 3000130 0)) 10 (.v (.int .u64 gH))) 11 (.v (.int .i64 oS))) 12 (.v (.int .i64 aFa))),⟨(upd (upd h0 i0 (.cells 2 (aB.flatMap bT) 0)) 3000130 (.cells 1 [.v (.int .u64 nQ)] 0)),64⟩⟩:St)∧gK bP (dL bP n1) aB a_1 lL nQ gH oS aFa=some r) ?_ ?_)
     ·
      refine sN 256 ?_
      iterate 3 refine pA ?_
      refine fs (AWp.condM hm Z1 (fun _ hm=>?_) (fun _ hm=>?_))
      ·
       refine AWp.reg 64 (N':=320) rfl ?_
       iterate 4 refine pA ?_
       refine aI.fin (nH ?_);refine ⟨_,?_,aB,a_1,lL,x4,gH,oS,(IntKind.i64.wrap ((IntKind.i64.wrap (yS .u64 r5 (IntKind.u64.wrap (gH-1))))-lL)),rfl,hm⟩;exact bN (aD 12 _ Z1 (aD 11 _ Z1 (aD 10 _ Z1 (aD 9 _ Z1 (aD 8 _ Z1 (aD 1 _ Z1 (aD 0 _ (bO Z1 Z6) bF))))))) Zi
      · refine AWp.skip (nH ?_);refine ⟨_,?_,aB,a_1,lL,x4,gH,oS,(IntKind.i64.wrap (yS .u64 r5 (IntKind.u64.wrap (gH-1)))),rfl,hm⟩;exact bN (aD 12 _ Z1 (aD 11 _ Z1 (aD 10 _ Z1 (aD 9 _ Z1 (aD 8 _ Z1 (aD 1 _ Z1 (aD 0 _ (bO Z1 Z6) bF))))))) Zi
     ·
      rintro s ⟨aB,a_1,lL,nQ,gH,oS,aFa,rfl,hm⟩;unfold gK at hm;refine AWp.regD 64 mix (by kernel_rfl) (N':=128) rfl ?_
      iterate 10 refine pA ?_
      obtain ⟨x7,h6,hm⟩:=bnd hm;refine pu rfl (aN underlying40 fS Z1 Ze Z6 Z1 h6) ?_;refine pu rfl (bM aJ Z1 Ze h6 Zb) ?_
      iterate 2 refine pA ?_
      obtain ⟨x9,h8,hm⟩:=bnd hm;refine pu rfl (aN underlying40 fS Z1 Ze Z6 Z1 h8) ?_;refine pu rfl (bM aJ Z1 Ze h8 Zb) ?_;obtain ⟨x11,h10,hm⟩:=bnd hm;refine pu rfl (aN underlying40 fS Z1 Ze Z6 Z1 h10) ?_;obtain ⟨l13,h12,hm⟩:=bnd hm;have qh12:=cY h12;refine aI.heap0 (id:=81) rfl (eR aJ fS Z1 Z1 Ze rfl h12) ?_;obtain ⟨x15,h14,hm⟩:=bnd hm;refine pu rfl (aN underlying40 fS Z1 Ze Z6 Z1 h14) ?_;obtain ⟨l17,h16,hm⟩:=bnd hm;have qh16:=cY h16;refine aI.heap0 (id:=83) rfl (eR aJ fS Z1 Z1 Ze rfl h16) ?_;refine aI.fin (eT (nH ?_));refine ⟨_,?_,l17,a_1,lL,nQ,gH,oS,rfl,hm⟩;exact bN (aD 11 _ Z1 (aD 10 _ Z1 (aD 9 _ Z1 (aD 8 _ Z1 (aD 1 _ Z1 (aD 0 _ (bO Z1 Z6) bF)))))) Zi
    ·
     rintro s ⟨aB,a_1,lL,nQ,gH,oS,rfl,hm⟩;unfold lY at hm;refine AWp.reg 64 (N':=128) rfl ?_
     iterate 3 refine pA ?_
     refine aI.fin (cO ?_);refine ⟨_,?_,aB,a_1,lL,nQ,gH,(IntKind.i64.wrap (oS+1)),rfl,hm⟩;exact bN (aD 11 _ Z1 (aD 10 _ Z1 (aD 9 _ Z1 (aD 8 _ Z1 (aD 1 _ Z1 (aD 0 _ (bO Z1 Z6) bF)))))) Zi
   · refine AWp.exit (dJ (dA (cW ?_)));cases hm;exact aJe (.inl rfl) Tryz.results158 (by intro q hq;simp only [upd];all_goals ((repeat' split)<;>first|rfl|omega)) (fun q hq=>by rw [upd_ne _ _ _ _ om];exact hk q hq) (nM (wB aJ) hD)
 · refine AWp.skip ?_;cases hm;exact aJe (.inl rfl) Tryz.results158 (by intro q hq;simp only [upd];all_goals ((repeat' split)<;>first|rfl|omega)) (fun q hq=>by rw [upd_ne _ _ _ _ om];exact hk q hq) (nM (wB aJ) hD)
def iM(aB:List aC)(a_1:Int)(b_2:Int)(yL:Int)(bQ:(aC→aC→Option (Int))):Option (Int×Int×Int):=
 ((idx aB b_2).bind fun x2=>
 ((idx aB a_1).bind fun x4=>
 ((bQ x2 x4).bind fun r6=>
 (bif (decide (r6<0)) then
  some (b_2,a_1,(IntKind.i64.wrap (yL+1)))
 else
  some (a_1,b_2,yL)))))
theorem qY{aB:List aC}{a_1:Int}{b_2:Int}{yL:Int}{bQ:(aC→aC→Option (Int))}{r:Int×Int×Int}(hm:iM aB a_1 b_2 yL bQ=some r){jJ:FuncId}{eQ:List AV}(gG: ∀a,a∈eQ→AM.Data a)(lH:(Program.funcs prog)[jJ]?.any (fun fn=>fn.body.isSome&&fn.name != "runtime.NumGoroutine")=true)(lJ: ∀ {x0 x1 r},bQ x0 x1=some r→dT prog jJ ([.agg [.v (.int .u64 x0.x0),.v (.int .u64 x0.x1)],.agg [.v (.int .u64 x1.x0),.v (.int .u64 x1.x1)]]++eQ) (.v (.int .i64 r))){H:aM}{i0:Nat}(he:H.ent i0= .cells 1 [.v (.int .i64 yL)] 0):dR prog 195 [.sl (aB.flatMap bT) aB.length false,.v (.int .i64 a_1),.v (.int .i64 b_2),.adr i0 0,.clo (.func jJ) [] eQ] H (.tup [.v (.int .i64 r.1),.v (.int .i64 r.2.1)]) (H.put i0 (.cells 1 [.v (.int .i64 r.2.2)] 0)):=by
 refine dR.of_bodyM func195 rfl he ?_;generalize H.ent=h0;simp only [ntmps195,List.length_cons,List.length_nil,Nat.reduceAdd,Nat.reduceSub];unfold iM at hm;refine sN 64 ?_
 iterate 2 refine pA ?_
 refine fs (AWp.seq' (sd mix (by kernel_rfl) (N':=128) rfl ?_))
 iterate 3 refine pA ?_
 obtain ⟨x2,h1,hm⟩:=bnd hm;refine pu rfl (aEv aJ Zd underlying40 fS Z1 rfl Z1 h1) ?_
 iterate 3 refine pA ?_
 obtain ⟨x4,h3,hm⟩:=bnd hm;refine pu rfl (aEv aJ Zd underlying40 fS Z1 rfl Z1 h3) ?_;refine pA ?_;obtain ⟨r6,h5,hm⟩:=bnd hm;refine aI.callQC (r:= .v (.int .i64 r6)) Zd Z1 gG lH (fun H=>(cD (.agg _ (aJ.dat _)) (cD (.agg _ (aJ.dat _)) .nil))) (lJ h5) ?_;refine pA ?_;refine fs (AWp.condM hm Z1 (fun _ hm=>?_) (fun _ hm=>?_))
 ·
  refine sN 192 ?_
  iterate 2 refine pA ?_
  refine pu rfl (lG Z1 Za Z2) ?_
  iterate 2 refine pA ?_
  refine aI.heap0 (id:=133) rfl (rK (ys:=[.v (.int .i64 (IntKind.i64.wrap (yL+1)))]) sz3 Z1 Z1 Za rfl (lB rfl) Z9 rfl) ?_;refine fs (sN 256 ?_)
  iterate 4 refine pA ?_
  refine fs (AWp.ret (lD ?_));cases hm;exact aR2 (.inr rfl) Tryz.results195 Z1 Z1 Zc
 ·
  refine AWp.skip (aV (sN 192 ?_))
  iterate 4 refine pA ?_
  refine fs (AWp.ret ?_);cases hm;exact aR2 (.inr rfl) Tryz.results195 Z1 Z1 Zc
def kP(aB:List aC)(a_1:Int)(b_2:Int)(c_3:Int)(aEh:Int)(aVw:(aC→aC→Option (Int))):Option (Int×Int):=
 ((iM aB a_1 b_2 aEh aVw).bind fun ⟨r3,r4,x2⟩=>
 ((iM aB r4 c_3 x2 aVw).bind fun ⟨r7,r8,x6⟩=>
 ((iM aB r3 r7 x6 aVw).bind fun ⟨r11,r12,x10⟩=>
 some (r12,x10))))
theorem vW{aB:List aC}{a_1:Int}{b_2:Int}{c_3:Int}{aEh:Int}{aVw:(aC→aC→Option (Int))}{r:Int×Int}(hm:kP aB a_1 b_2 c_3 aEh aVw=some r){aXp:FuncId}{aPa:List AV}(aMh: ∀a,a∈aPa→AM.Data a)(aT4:(Program.funcs prog)[aXp]?.any (fun fn=>fn.body.isSome&&fn.name != "runtime.NumGoroutine")=true)(aT6: ∀ {x0 x1 r},aVw x0 x1=some r→dT prog aXp ([.agg [.v (.int .u64 x0.x0),.v (.int .u64 x0.x1)],.agg [.v (.int .u64 x1.x0),.v (.int .u64 x1.x1)]]++aPa) (.v (.int .i64 r))){H:aM}{i0:Nat}(he:H.ent i0= .cells 1 [.v (.int .i64 aEh)] 0):dR prog 182 [.sl (aB.flatMap bT) aB.length false,.v (.int .i64 a_1),.v (.int .i64 b_2),.v (.int .i64 c_3),.adr i0 0,.clo (.func aXp) [] aPa] H (.v (.int .i64 r.1)) (H.put i0 (.cells 1 [.v (.int .i64 r.2)] 0)):=by
 refine dR.of_bodyM func182 rfl he ?_;generalize H.ent=h0;simp only [ntmps182,List.length_cons,List.length_nil,Nat.reduceAdd,Nat.reduceSub];unfold kP at hm;refine sN 64 (pA ?_);refine fs (sN 128 ?_)
 iterate 5 refine pA ?_
 obtain ⟨⟨r3,r4,x2⟩,h1,hm⟩:=bnd hm;refine aI.callM Zd Z1 bNw Z1 (qY h1 aMh aT4 aT6 Za) ?_
 iterate 5 refine pA ?_
 refine fs (sN 192 ?_)
 iterate 5 refine pA ?_
 obtain ⟨⟨r7,r8,x6⟩,h5,hm⟩:=bnd hm;refine aI.callM Zd Z1 bNw Z1 (qY h5 aMh aT4 aT6 Za) ?_
 iterate 5 refine pA ?_
 refine fs (sN 256 ?_)
 iterate 5 refine pA ?_
 obtain ⟨⟨r11,r12,x10⟩,h9,hm⟩:=bnd hm;refine aI.callM Zd Z1 bNw Z1 (qY h9 aMh aT4 aT6 Za) ?_
 iterate 5 refine pA ?_
 refine fs (sN 320 ?_)
 iterate 2 refine pA ?_
 refine fs (AWp.ret ?_);cases hm;exact aGc (.inr rfl) Tryz.results182 Z1 Zc
def eW(aB:List aC)(a_1:Int)(aEg:Int)(bP:(aC→aC→Option (Int))):Option (Int×Int):=
 ((kP aB (IntKind.i64.wrap (a_1-1)) a_1 (IntKind.i64.wrap (a_1+1)) aEg bP).bind fun ⟨r3,x2⟩=>
 some (r3,x2))
theorem nI{aB:List aC}{a_1:Int}{aEg:Int}{bP:(aC→aC→Option (Int))}{r:Int×Int}(hm:eW aB a_1 aEg bP=some r){jI:FuncId}{eP:List AV}(mU: ∀a,a∈eP→AM.Data a)(pH:(Program.funcs prog)[jI]?.any (fun fn=>fn.body.isSome&&fn.name != "runtime.NumGoroutine")=true)(pO: ∀ {x0 x1 r},bP x0 x1=some r→dT prog jI ([.agg [.v (.int .u64 x0.x0),.v (.int .u64 x0.x1)],.agg [.v (.int .u64 x1.x0),.v (.int .u64 x1.x1)]]++eP) (.v (.int .i64 r))){H:aM}{i0:Nat}(he:H.ent i0= .cells 1 [.v (.int .i64 aEg)] 0):dR prog 181 [.sl (aB.flatMap bT) aB.length false,.v (.int .i64 a_1),.adr i0 0,.clo (.func jI) [] eP] H (.v (.int .i64 r.1)) (H.put i0 (.cells 1 [.v (.int .i64 r.2)] 0)):=by
 refine dR.of_bodyM func181 rfl he ?_;generalize H.ent=h0;simp only [ntmps181,List.length_cons,List.length_nil,Nat.reduceAdd,Nat.reduceSub];unfold eW at hm;refine sN 64 (pA ?_);refine fs (sN 128 ?_)
 iterate 8 refine pA ?_
 obtain ⟨⟨r3,x2⟩,h1,hm⟩:=bnd hm;refine aI.callM Zd Z1 bU9 Z1 (vW h1 mU pH pO Za) ?_;refine pA ?_;refine fs (AWp.ret ?_);cases hm;exact aGc (.inr rfl) Tryz.results181 Z1 Zc
abbrev kF(bP:(aC→aC→Option (Int)))(uY:Int)(jK:Int):Option (Int×Int):=
 (bif (uY==0) then
  some (jK,1)
 else
  (bif (uY==12) then
   some (jK,2)
  else
   some (jK,0)))
abbrev kG(bP:(aC→aC→Option (Int)))(aB:List aC)(uY:Int)(kE:Int)(jK:Int)(bO7:Int):Option (Int×Int):=
 ((kP aB kE jK bO7 uY bP).bind fun ⟨r3,x2⟩=>
 kF bP x2 r3)
def mO(aB:List aC)(a_1:Int)(b_2:Int)(bP:(aC→aC→Option (Int))):Option (Int×Int):=
 (bif (decide (8≤(IntKind.i64.wrap (b_2-a_1)))) then
  (bif (decide (50≤(IntKind.i64.wrap (b_2-a_1)))) then
   ((eW aB (IntKind.i64.wrap (a_1+(IntKind.i64.wrap ((IntKind.i64.wrap (Int.tdiv (IntKind.i64.wrap (b_2-a_1)) 4))*1)))) 0 bP).bind fun ⟨r6,x5⟩=>
   ((eW aB (IntKind.i64.wrap (a_1+(IntKind.i64.wrap ((IntKind.i64.wrap (Int.tdiv (IntKind.i64.wrap (b_2-a_1)) 4))*2)))) x5 bP).bind fun ⟨r9,x8⟩=>
   ((eW aB (IntKind.i64.wrap (a_1+(IntKind.i64.wrap ((IntKind.i64.wrap (Int.tdiv (IntKind.i64.wrap (b_2-a_1)) 4))*3)))) x8 bP).bind fun ⟨r12,x11⟩=>
   kG bP aB x11 r6 r9 r12)))
  else
   kG bP aB 0 (IntKind.i64.wrap (a_1+(IntKind.i64.wrap ((IntKind.i64.wrap (Int.tdiv (IntKind.i64.wrap (b_2-a_1)) 4))*1)))) (IntKind.i64.wrap (a_1+(IntKind.i64.wrap ((IntKind.i64.wrap (Int.tdiv (IntKind.i64.wrap (b_2-a_1)) 4))*2)))) (IntKind.i64.wrap (a_1+(IntKind.i64.wrap ((IntKind.i64.wrap (Int.tdiv (IntKind.i64.wrap (b_2-a_1)) 4))*3)))))
 else
  kF bP 0 (IntKind.i64.wrap (a_1+(IntKind.i64.wrap ((IntKind.i64.wrap (Int.tdiv (IntKind.i64.wrap (b_2-a_1)) 4))*2)))))
theorem aBs{aB:List aC}{a_1:Int}{b_2:Int}{bP:(aC→aC→Option (Int))}{r:Int×Int}(hm:mO aB a_1 b_2 bP=some r){jI:FuncId}{eP:List AV}(mU: ∀a,a∈eP→AM.Data a)(pH:(Program.funcs prog)[jI]?.any (fun fn=>fn.body.isSome&&fn.name != "runtime.NumGoroutine")=true)(pO: ∀ {x0 x1 r},bP x0 x1=some r→dT prog jI ([.agg [vu x0.x0,vu x0.x1],.agg [vu x1.x0,vu x1.x1]]++eP) (vi r)):dT prog 159 [vl bT aB,vi a_1,vi b_2,.clo (.func jI) [] eP] (.tup [vi r.1,vi r.2]):=by
 refine bd 63 func159 ?_;refine V ?_;refine AWp.seqJ (fun s=> ∃uY jK,s=⟨63,(aG (aG fa 11 (.adr 1 0)) 13 (vi jK)),⟨(upd bR 1 (.cells 1 [vi uY] 0)),64⟩⟩∧kF bP uY jK=some r) ?_ ?_
 ·
  refine W ?_;refine cm hm (fun hm=>?_) fun hm=>?_
  ·
   refine AWp.seqJ (fun s=> ∃aB uY kE jK bO7,s=⟨63,(aG (aG (aG (aG (aG (aG fa 0 (vl bT aB)) 3 (.clo (.func jI) [] eP)) 11 (.adr 1 0)) 12 (vi kE)) 13 (vi jK)) 14 (vi bO7)),⟨(upd bR 1 (.cells 1 [vi uY] 0)),64⟩⟩∧kG bP aB uY kE jK bO7=some r) ?_ ?_
   ·
    refine W ?_;refine cm hm (fun hm=>?_) fun hm=>?_
    · refine W ?_;obtain ⟨⟨r6,x5⟩,h4,hm⟩:=bnd hm;refine aI.callM Zd Z1 bNu Z1 (nI h4 mU pH pO Z3) ?_;refine W ?_;obtain ⟨⟨r9,x8⟩,h7,hm⟩:=bnd hm;refine aI.callM Zd Z1 bNu Z1 (nI h7 mU pH pO Z3) ?_;refine W ?_;obtain ⟨⟨r12,x11⟩,h10,hm⟩:=bnd hm;refine aI.callM Zd Z1 bNu Z1 (nI h10 mU pH pO Z3) ?_;refine W ?_;exact Lr (fun j=>bif j==1 then 128 else 0)
    refine W ?_;exact Lr (fun j=>bif j==1 then 128 else 0)
   rintro s ⟨aB,uY,kE,jK,bO7,rfl,hm⟩;refine W ?_;obtain ⟨⟨r3,x2⟩,h1,hm⟩:=bnd hm;refine aI.callM Zd Z1 bU9 Z1 (vW h1 mU pH pO Z3) ?_;refine W ?_;exact Lr (fun j=>bif j==1 then 1 else 0)
  refine W ?_;exact Lr (fun j=>bif j==1 then 128 else 0)
 rintro s ⟨uY,jK,rfl,hm⟩;refine W ?_;refine cm hm (fun hm=>?_) fun hm=>?_
 · exact E
 refine W ?_;refine cm hm (fun hm=>?_) fun hm=>?_
 · exact E
 exact E
attribute [local semireducible] aZ
end Go.Proofs.YtkdohhmacfoolaaGreat
