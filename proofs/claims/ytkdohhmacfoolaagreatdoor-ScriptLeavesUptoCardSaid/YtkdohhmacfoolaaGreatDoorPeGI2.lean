/- Facts. No condition. -/
import Derived.Test.YtkdohhmacfoolaaGreatDoorPeGI1
set_option linter.unusedVariables false
set_option linter.unusedSimpArgs false
set_option maxRecDepth 20000
set_option maxHeartbeats 4000000
namespace Go.Proofs.YtkdohhmacfoolaaGreatDoor
open Go.Proofs.Tryz Go Go.AM
attribute [local irreducible] aW
@[go_sem] theorem bIx(xs:List AV):aH prog 96 (.ptr (xs)) 0=some (.ptr xs):=by kernel_rfl
@[go_sem] theorem bIy(x0:AV)(xs:List AV):aH prog 96 (.ptr (x0::xs)) 1=some (.ptr xs):=by kernel_rfl
@[go_sem] theorem bJ5(i o:Nat):aH prog 23 (.adr i o) 0=some (.adr i (o+0)):=by kernel_rfl
@[go_sem] theorem bJb(i o:Nat):aH prog 23 (.adr i o) 1=some (.adr i (o+1)):=by kernel_rfl
@[go_sem] theorem bJh(i o:Nat):aH prog 23 (.adr i o) 2=some (.adr i (o+2)):=by kernel_rfl
@[go_sem] theorem bJo(i o:Nat):aH prog 30 (.adr i o) 0=some (.adr i (o+0)):=by kernel_rfl
@[go_sem] theorem bJs(i o:Nat):aH prog 30 (.adr i o) 1=some (.adr i (o+3)):=by kernel_rfl
@[go_sem] theorem bJy(i o:Nat):aH prog 30 (.adr i o) 2=some (.adr i (o+4)):=by kernel_rfl
@[go_sem] theorem bK1(i o:Nat):aH prog 33 (.adr i o) 0=some (.adr i (o+0)):=by kernel_rfl
@[go_sem] theorem bK5(i o:Nat):aH prog 33 (.adr i o) 1=some (.adr i (o+5)):=by kernel_rfl
@[go_sem] theorem bKl(i o:Nat):aH prog 61 (.adr i o) 0=some (.adr i (o+0)):=by kernel_rfl
@[go_sem] theorem bKr(i o:Nat):aH prog 61 (.adr i o) 1=some (.adr i (o+1)):=by kernel_rfl
@[go_sem] theorem bKw(i o:Nat):aH prog 61 (.adr i o) 2=some (.adr i (o+2)):=by kernel_rfl
@[go_sem] theorem bL5(i o:Nat):aH prog 94 (.adr i o) 0=some (.adr i (o+0)):=by kernel_rfl
@[go_sem] theorem bL8(i o:Nat):aH prog 94 (.adr i o) 1=some (.adr i (o+1)):=by kernel_rfl
@[go_sem] theorem bLa(i o:Nat):aH prog 96 (.adr i o) 0=some (.adr i (o+0)):=by kernel_rfl
@[go_sem] theorem bLd(i o:Nat):aH prog 96 (.adr i o) 1=some (.adr i (o+1)):=by kernel_rfl
theorem bF2(i o:Nat)(k:IntKind):lS prog 180 (.adr i o) (.v (.int k 0))=some (.adr i o):=by kernel_rfl
theorem bF4(i o:Nat)(k:IntKind):lS prog 180 (.adr i o) (.v (.int k 1))=some (.adr i (o+1)):=by kernel_rfl
attribute [go_sem] bF2 bF4
@[go_sem] theorem bT6(H:aG)(x0 x1 x2:AV)(xs:List AV):bT prog H 23 (.ptr (x0::x1::x2::xs))=some (.agg [x0,x1,x2]):=by kernel_rfl
@[go_sem] theorem bTd(H:aG)(x:AV)(xs:List AV):bT prog H 27 (.ptr (x::xs))=some x:=by kernel_rfl
@[go_sem] theorem bTj(H:aG)(x:AV)(xs:List AV):bT prog H 28 (.ptr (x::xs))=some x:=by kernel_rfl
@[go_sem] theorem bXt(H:aG)(x:AV)(xs:List AV):bT prog H 3 (.ptr (x::xs))=some x:=by kernel_rfl
@[go_sem] theorem bTp(H:aG)(x0 x1 x2 x3 x4:AV)(xs:List AV):bT prog H 30 (.ptr (x0::x1::x2::x3::x4::xs))=some (.agg [x0,x1,x2,x3,x4]):=by kernel_rfl
@[go_sem] theorem bTu(H:aG)(x:AV)(xs:List AV):bT prog H 31 (.ptr (x::xs))=some x:=by kernel_rfl
@[go_sem] theorem bTy(H:aG)(x0 x1 x2 x3 x4 x5:AV)(xs:List AV):bT prog H 33 (.ptr (x0::x1::x2::x3::x4::x5::xs))=some (.agg [x0,x1,x2,x3,x4,x5]):=by kernel_rfl
@[go_sem] theorem bY0(H:aG)(x:AV)(xs:List AV):bT prog H 4 (.ptr (x::xs))=some x:=by kernel_rfl
@[go_sem] theorem bU7(H:aG)(x:AV)(xs:List AV):bT prog H 40 (.ptr (x::xs))=some x:=by kernel_rfl
@[go_sem] theorem bUg(H:aG)(x0 x1 x2:AV)(xs:List AV):bT prog H 61 (.ptr (x0::x1::x2::xs))=some (.agg [x0,x1,x2]):=by kernel_rfl
@[go_sem] theorem bUo(H:aG)(x0 x1:AV)(xs:List AV):bT prog H 94 (.ptr (x0::x1::xs))=some (.agg [x0,x1]):=by kernel_rfl
@[go_sem] theorem bUq(H:aG)(x0 x1:AV)(xs:List AV):bT prog H 96 (.ptr (x0::x1::xs))=some (.agg [x0,x1]):=by kernel_rfl
@[go_sem] theorem bIi(H:aG)(k:IntKind)(n:Int):mS prog H 3 40 (.v (.int k n))=some (.v (.int .u64 (IntKind.u64.wrap n))):=gJ underlying3 underlying40
@[go_sem] theorem bE1(H:aG)(k:IntKind)(n:Int):mS prog H 3 162 (.v (.int k n))=some (.v (.int .u64 (IntKind.u64.wrap n))):=gJ underlying3 underlying162
@[go_sem] theorem bIo(H:aG)(k:IntKind)(n:Int):mS prog H 5 40 (.v (.int k n))=some (.v (.int .u64 (IntKind.u64.wrap n))):=gJ underlying5 underlying40
abbrev fO(wW:Int)(iJ:Int):Option (Int×Int):=
 (bif (wW==0) then
  some (iJ,1)
 else
  (bif (wW==12) then
   some (iJ,2)
  else
   some (iJ,0)))
abbrev fP(aC:List Int)(wW:Int)(iI:Int)(iJ:Int)(bOs:Int):Option (Int×Int):=
 ((fW aC iI iJ bOs wW).bind fun ⟨r3,x2⟩=>
 fO x2 r3)
def fU(aC:List Int)(a_1:Int)(b_2:Int):Option (Int×Int):=
 (bif (decide (8≤(IntKind.i64.wrap (b_2-a_1)))) then
  (bif (decide (50≤(IntKind.i64.wrap (b_2-a_1)))) then
   ((dB aC (IntKind.i64.wrap (a_1+(IntKind.i64.wrap ((IntKind.i64.wrap (Int.tdiv (IntKind.i64.wrap (b_2-a_1)) 4))*1)))) 0).bind fun ⟨r6,x5⟩=>
   ((dB aC (IntKind.i64.wrap (a_1+(IntKind.i64.wrap ((IntKind.i64.wrap (Int.tdiv (IntKind.i64.wrap (b_2-a_1)) 4))*2)))) x5).bind fun ⟨r9,x8⟩=>
   ((dB aC (IntKind.i64.wrap (a_1+(IntKind.i64.wrap ((IntKind.i64.wrap (Int.tdiv (IntKind.i64.wrap (b_2-a_1)) 4))*3)))) x8).bind fun ⟨r12,x11⟩=>
   fP aC x11 r6 r9 r12)))
  else
   fP aC 0 (IntKind.i64.wrap (a_1+(IntKind.i64.wrap ((IntKind.i64.wrap (Int.tdiv (IntKind.i64.wrap (b_2-a_1)) 4))*1)))) (IntKind.i64.wrap (a_1+(IntKind.i64.wrap ((IntKind.i64.wrap (Int.tdiv (IntKind.i64.wrap (b_2-a_1)) 4))*2)))) (IntKind.i64.wrap (a_1+(IntKind.i64.wrap ((IntKind.i64.wrap (Int.tdiv (IntKind.i64.wrap (b_2-a_1)) 4))*3)))))
 else
  fO 0 (IntKind.i64.wrap (a_1+(IntKind.i64.wrap ((IntKind.i64.wrap (Int.tdiv (IntKind.i64.wrap (b_2-a_1)) 4))*2)))))
theorem nW{aC:List Int}{a_1:Int}{b_2:Int}{r:Int×Int}(hm:fU aC a_1 b_2=some r):cE prog 196 [vl (ci .u64) aC,vi a_1,vi b_2] (.tup [vi r.1,vi r.2]):=by
 refine bd 57 func196 ?_;refine V ?_;refine AWp.seqJ (fun s=> ∃wW iJ,s=⟨57,(aF (aF fa 9 (.adr 1 0)) 11 (vi iJ)),⟨(upd aY 1 (.cells 1 [vi wW] 0)),64⟩⟩∧fO wW iJ=some r) ?_ ?_
 ·
  refine W ?_;refine cm hm (fun hm=>?_) fun hm=>?_
  ·
   refine AWp.seqJ (fun s=> ∃aC wW iI iJ bOs,s=⟨57,(aF (aF (aF (aF (aF fa 0 (vl (ci .u64) aC)) 9 (.adr 1 0)) 10 (vi iI)) 11 (vi iJ)) 12 (vi bOs)),⟨(upd aY 1 (.cells 1 [vi wW] 0)),64⟩⟩∧fP aC wW iI iJ bOs=some r) ?_ ?_
   ·
    refine W ?_;refine cm hm (fun hm=>?_) fun hm=>?_
    · refine W ?_;obtain ⟨⟨r6,x5⟩,h4,hm⟩:=bnd hm;refine aR.callM Zd Z1 bO5 Z1 (jO h4 Z3) ?_;refine W ?_;obtain ⟨⟨r9,x8⟩,h7,hm⟩:=bnd hm;refine aR.callM Zd Z1 bO5 Z1 (jO h7 Z3) ?_;refine W ?_;obtain ⟨⟨r12,x11⟩,h10,hm⟩:=bnd hm;refine aR.callM Zd Z1 bO5 Z1 (jO h10 Z3) ?_;refine W ?_;exact Lr (fun j=>bif j==1 then 128 else 0)
    refine W ?_;exact Lr (fun j=>bif j==1 then 128 else 0)
   rintro s ⟨aC,wW,iI,iJ,bOs,rfl,hm⟩;refine W ?_;obtain ⟨⟨r3,x2⟩,h1,hm⟩:=bnd hm;refine aR.callM Zd Z1 bW8 Z1 (sL h1 Z3) ?_;refine W ?_;exact Lr (fun j=>bif j==1 then 1 else 0)
  refine W ?_;exact Lr (fun j=>bif j==1 then 128 else 0)
 rintro s ⟨wW,iJ,rfl,hm⟩;refine W ?_;refine cm hm (fun hm=>?_) fun hm=>?_
 · exact E
 refine W ?_;refine cm hm (fun hm=>?_) fun hm=>?_
 · exact E
 exact E
instance:Ct prog 196 (K3 prog (vl (ci .u64)) vi vi (t2 vi vi) 196 fU):=⟨fun hm=>nW hm⟩
def jT(rec1:List Int→Int→Int→Option (List Int))(aC:List Int)(i_6:Int)(j_7:Int):Option (List Int):=
 (bif (decide (i_6<j_7)) then
  ((idx aC j_7).bind fun x2=>
  ((idx aC i_6).bind fun x4=>
  ((idx aC i_6).bind fun x6=>
  ((stt aC i_6 x2).bind fun l8=>
  ((idx l8 j_7).bind fun x10=>
  ((stt l8 j_7 x4).bind fun l12=>
  rec1 l12 (IntKind.i64.wrap (i_6+1)) (IntKind.i64.wrap (j_7-1))))))))
 else
  some aC)
def fF:Nat→List Int→Int→Int→Option (List Int)
 |0=>fun _ _ _=>none
 |n+1=>jT (fF n)
def fQ(aC:List Int)(a_1:Int)(b_2:Int):Option (List Int):=
 fF aW aC a_1 (IntKind.i64.wrap (b_2-1))
instance:FB prog 197:=⟨by kernel_rfl⟩
theorem nH: ∀ {aC:List Int} {a_1:Int} {b_2:Int},KM prog 197 [.v (.int .i64 a_1),vi b_2] aC (fQ aC a_1 b_2) (fun r=>r) (fun r=> .tup []):=by
 intro aC a_1 b_2 r hm H i0 he;refine bM 32 func197 he fun h0=>?_
 let I1:=((fun m s=> ∃aC i_6 j_7,jM 32 (aF (aF (aF fa 0 (.own i0 0 aC.length)) 6 (vi i_6)) 7 (vi j_7)) h0 i0 aC (fF m aC i_6 j_7) r s):Nat→St→Prop)
 exact GM
instance:Ct prog 197 (∀ {aC:List Int} {a_1:Int} {b_2:Int},KM prog 197 [.v (.int .i64 a_1),vi b_2] aC (fQ aC a_1 b_2) (fun r=>r) (fun r=> .tup [])):=⟨nH⟩
abbrev bZ(rec1:List Int→Int→Int→Int→Int→Option (Bool×List Int))(aC:List Int)(a_1:Int)(b_2:Int)(i_7:Int)(j_8:Int):Option (Bool×List Int):=
 rec1 aC a_1 b_2 i_7 (IntKind.i64.wrap (j_8+1))
def iF(rec1:List Int→Int→Int→Int→Int→Option (Bool×List Int))(rec3:List Int→Int→Int→Int→Int→Int→Option (Bool×List Int))(aC:List Int)(a_1:Int)(b_2:Int)(i_7:Int)(j_8:Int)(oI:Int):Option (Bool×List Int):=
 (bif (decide (oI<b_2)) then
  ((idx aC oI).bind fun x20=>
  ((idx aC (IntKind.i64.wrap (oI-1))).bind fun x22=>
  ((dF x20 x22).bind fun r24=>
  (bif (!r24) then
   bZ rec1 aC a_1 b_2 i_7 j_8
  else
   ((idx aC (IntKind.i64.wrap (oI-1))).bind fun x26=>
   ((idx aC oI).bind fun x28=>
   ((idx aC oI).bind fun x30=>
   ((stt aC oI x26).bind fun l32=>
   ((idx l32 (IntKind.i64.wrap (oI-1))).bind fun x34=>
   ((stt l32 (IntKind.i64.wrap (oI-1)) x28).bind fun l36=>
   rec3 l36 a_1 b_2 i_7 j_8 (IntKind.i64.wrap (oI+1))))))))))))
 else
  bZ rec1 aC a_1 b_2 i_7 j_8)
def dM(rec1:List Int→Int→Int→Int→Int→Option (Bool×List Int)):Nat→List Int→Int→Int→Int→Int→Int→Option (Bool×List Int)
 |0=>fun _ _ _ _ _ _=>none
 |n+1=>iF rec1 (dM rec1 n)
abbrev cU(rec1:List Int→Int→Int→Int→Int→Option (Bool×List Int))(aC:List Int)(a_1:Int)(b_2:Int)(i_7:Int)(j_8:Int):Option (Bool×List Int):=
 (bif (decide (2≤(IntKind.i64.wrap (b_2-i_7)))) then
  dM rec1 aW aC a_1 b_2 i_7 j_8 (IntKind.i64.wrap (i_7+1))
 else
  bZ rec1 aC a_1 b_2 i_7 j_8)
def iG(rec1:List Int→Int→Int→Int→Int→Option (Bool×List Int))(rec4:List Int→Int→Int→Int→Int→Int→Option (Bool×List Int))(aC:List Int)(a_1:Int)(b_2:Int)(i_7:Int)(j_8:Int)(j_9:Int):Option (Bool×List Int):=
 (bif (decide (1≤j_9)) then
  ((idx aC j_9).bind fun x38=>
  ((idx aC (IntKind.i64.wrap (j_9-1))).bind fun x40=>
  ((dF x38 x40).bind fun r42=>
  (bif (!r42) then
   cU rec1 aC a_1 b_2 i_7 j_8
  else
   ((idx aC (IntKind.i64.wrap (j_9-1))).bind fun x44=>
   ((idx aC j_9).bind fun x46=>
   ((idx aC j_9).bind fun x48=>
   ((stt aC j_9 x44).bind fun l50=>
   ((idx l50 (IntKind.i64.wrap (j_9-1))).bind fun x52=>
   ((stt l50 (IntKind.i64.wrap (j_9-1)) x46).bind fun l54=>
   rec4 l54 a_1 b_2 i_7 j_8 (IntKind.i64.wrap (j_9-1))))))))))))
 else
  cU rec1 aC a_1 b_2 i_7 j_8)
def dN(rec1:List Int→Int→Int→Int→Int→Option (Bool×List Int)):Nat→List Int→Int→Int→Int→Int→Int→Option (Bool×List Int)
 |0=>fun _ _ _ _ _ _=>none
 |n+1=>iG rec1 (dN rec1 n)
def iE(rec1:List Int→Int→Int→Int→Int→Option (Bool×List Int))(rec2:List Int→Int→Int→Int→Int→Option (Bool×List Int))(aC:List Int)(a_1:Int)(b_2:Int)(i_7:Int)(j_8:Int):Option (Bool×List Int):=
 ((eK ((decide (i_7<b_2))==true) 0 (idx aC i_7)).bind fun x2=>
 ((eK ((decide (i_7<b_2))==true) 0 (idx aC (IntKind.i64.wrap (i_7-1)))).bind fun x4=>
 ((eK ((decide (i_7<b_2))==true) false (dF x2 x4)).bind fun r6=>
 (bif ((decide (i_7<b_2))&&(!r6)) then
  rec2 aC a_1 b_2 (IntKind.i64.wrap (i_7+1)) j_8
 else
  (bif (i_7==b_2) then
   some (true,aC)
  else
   (bif (decide ((IntKind.i64.wrap (b_2-a_1))<50)) then
    some (false,aC)
   else
    ((idx aC (IntKind.i64.wrap (i_7-1))).bind fun x8=>
    ((idx aC i_7).bind fun x10=>
    ((idx aC i_7).bind fun x12=>
    ((stt aC i_7 x8).bind fun l14=>
    ((idx l14 (IntKind.i64.wrap (i_7-1))).bind fun x16=>
    ((stt l14 (IntKind.i64.wrap (i_7-1)) x10).bind fun l18=>
    (bif (decide (2≤(IntKind.i64.wrap (i_7-a_1)))) then
     dN rec1 aW l18 a_1 b_2 i_7 j_8 (IntKind.i64.wrap (i_7-1))
    else
     cU rec1 l18 a_1 b_2 i_7 j_8)))))))))))))
def dL(rec1:List Int→Int→Int→Int→Int→Option (Bool×List Int)):Nat→List Int→Int→Int→Int→Int→Option (Bool×List Int)
 |0=>fun _ _ _ _ _=>none
 |n+1=>iE rec1 (dL rec1 n)
def iD(rec1:List Int→Int→Int→Int→Int→Option (Bool×List Int))(aC:List Int)(a_1:Int)(b_2:Int)(i_7:Int)(j_8:Int):Option (Bool×List Int):=
 (bif (decide (j_8<5)) then
  dL rec1 aW aC a_1 b_2 i_7 j_8
 else
  some (false,aC))
def bR:Nat→List Int→Int→Int→Int→Int→Option (Bool×List Int)
 |0=>fun _ _ _ _ _=>none
 |n+1=>iD (bR n)
def dT(aC:List Int)(a_1:Int)(b_2:Int):Option (Bool×List Int):=
 bR aW aC a_1 b_2 (IntKind.i64.wrap (a_1+1)) 0
instance:FB prog 198:=⟨by kernel_rfl⟩
theorem kP: ∀ {aC:List Int} {a_1:Int} {b_2:Int},KM prog 198 [.v (.int .i64 a_1),vi b_2] aC (dT aC a_1 b_2) (fun r=>r.2) (fun r=> .v (.bool r.1)):=by
 intro aC a_1 b_2 r hm H i0 he;refine bM 133 func198 he fun h0=>?_
 let I1:=((fun m s=> ∃aC a_1 b_2 i_7 j_8,jM 133 (aF (aF (aF (aF (aF fa 0 (.own i0 0 aC.length)) 1 (vi a_1)) 2 (vi b_2)) 7 (vi i_7)) 8 (vi j_8)) h0 i0 aC (bR m aC a_1 b_2 i_7 j_8) r s):Nat→St→Prop)
 let I2:=fun (n1:Nat)=>((fun m s=> ∃aC a_1 b_2 i_7 j_8,jM 133 (aF (aF (aF (aF (aF fa 0 (.own i0 0 aC.length)) 1 (vi a_1)) 2 (vi b_2)) 7 (vi i_7)) 8 (vi j_8)) h0 i0 aC (dL (bR n1) m aC a_1 b_2 i_7 j_8) r s):Nat→St→Prop)
 let I3:=fun (n1:Nat)=>((fun m s=> ∃aC a_1 b_2 i_7 j_8 j_9,jM 133 (aF (aF (aF (aF (aF (aF fa 0 (.own i0 0 aC.length)) 1 (vi a_1)) 2 (vi b_2)) 7 (vi i_7)) 8 (vi j_8)) 9 (vi j_9)) h0 i0 aC (dN (bR n1) m aC a_1 b_2 i_7 j_8 j_9) r s):Nat→St→Prop)
 let I4:=fun (n1:Nat)=>((fun m s=> ∃aC a_1 b_2 i_7 j_8 oI,jM 133 (aF (aF (aF (aF (aF (aF fa 0 (.own i0 0 aC.length)) 1 (vi a_1)) 2 (vi b_2)) 7 (vi i_7)) 8 (vi j_8)) 10 (vi oI)) h0 i0 aC (dM (bR n1) m aC a_1 b_2 i_7 j_8 oI) r s):Nat→St→Prop)
 exact GM
instance:Ct prog 198 (∀ {aC:List Int} {a_1:Int} {b_2:Int},KM prog 198 [.v (.int .i64 a_1),vi b_2] aC (dT aC a_1 b_2) (fun r=>r.2) (fun r=> .v (.bool r.1))):=⟨kP⟩
def jH(rec1:List Int→Int→Int→Int→Option (Int×List Int))(rec3:List Int→Int→Int→Int→Option (Int×List Int))(aC:List Int)(a_1:Int)(i_9:Int)(oI:Int):Option (Int×List Int):=
 ((eK ((decide (i_9≤oI))==true) 0 (idx aC a_1)).bind fun x20=>
 ((eK ((decide (i_9≤oI))==true) 0 (idx aC oI)).bind fun x22=>
 ((eK ((decide (i_9≤oI))==true) false (dF x20 x22)).bind fun r24=>
 (bif ((decide (i_9≤oI))&&r24) then
  rec3 aC a_1 i_9 (IntKind.i64.wrap (oI-1))
 else
  (bif (decide (oI<i_9)) then
   some (i_9,aC)
  else
   ((idx aC oI).bind fun x26=>
   ((idx aC i_9).bind fun x28=>
   ((idx aC i_9).bind fun x30=>
   ((stt aC i_9 x26).bind fun l32=>
   ((idx l32 oI).bind fun x34=>
   ((stt l32 oI x28).bind fun l36=>
   rec1 l36 a_1 (IntKind.i64.wrap (i_9+1)) (IntKind.i64.wrap (oI-1)))))))))))))
def eI(rec1:List Int→Int→Int→Int→Option (Int×List Int)):Nat→List Int→Int→Int→Int→Option (Int×List Int)
 |0=>fun _ _ _ _=>none
 |n+1=>jH rec1 (eI rec1 n)
def jG(rec1:List Int→Int→Int→Int→Option (Int×List Int))(rec2:List Int→Int→Int→Int→Option (Int×List Int))(aC:List Int)(a_1:Int)(i_9:Int)(oI:Int):Option (Int×List Int):=
 ((eK ((decide (i_9≤oI))==true) 0 (idx aC a_1)).bind fun x14=>
 ((eK ((decide (i_9≤oI))==true) 0 (idx aC i_9)).bind fun x16=>
 ((eK ((decide (i_9≤oI))==true) false (dF x14 x16)).bind fun r18=>
 (bif ((decide (i_9≤oI))&&(!r18)) then
  rec2 aC a_1 (IntKind.i64.wrap (i_9+1)) oI
 else
  eI rec1 aW aC a_1 i_9 oI))))
def eG(rec1:List Int→Int→Int→Int→Option (Int×List Int)):Nat→List Int→Int→Int→Int→Option (Int×List Int)
 |0=>fun _ _ _ _=>none
 |n+1=>jG rec1 (eG rec1 n)
def jF(rec1:List Int→Int→Int→Int→Option (Int×List Int))(aC:List Int)(a_1:Int)(i_9:Int)(oI:Int):Option (Int×List Int):=
 eG rec1 aW aC a_1 i_9 oI
def cW:Nat→List Int→Int→Int→Int→Option (Int×List Int)
 |0=>fun _ _ _ _=>none
 |n+1=>jF (cW n)
def eX(aC:List Int)(a_1:Int)(b_2:Int)(lK:Int):Option (Int×List Int):=
 ((idx aC lK).bind fun x2=>
 ((idx aC a_1).bind fun x4=>
 ((idx aC a_1).bind fun x6=>
 ((stt aC a_1 x2).bind fun l8=>
 ((idx l8 lK).bind fun x10=>
 ((stt l8 lK x4).bind fun l12=>
 cW aW l12 a_1 (IntKind.i64.wrap (a_1+1)) (IntKind.i64.wrap (b_2-1))))))))
instance:FB prog 200:=⟨by kernel_rfl⟩
theorem mL: ∀ {aC:List Int} {a_1:Int} {b_2:Int} {lK:Int},KM prog 200 [.v (.int .i64 a_1),vi b_2,vi lK] aC (eX aC a_1 b_2 lK) (fun r=>r.2) (fun r=> .v (.int .i64 r.1)):=by
 intro aC a_1 b_2 lK r hm H i0 he;refine bM 84 func200 he fun h0=>?_
 let I1:=((fun m s=> ∃aC a_1 i_9 oI,jM 84 (aF (aF (aF (aF fa 0 (.own i0 0 aC.length)) 1 (vi a_1)) 9 (vi i_9)) 10 (vi oI)) h0 i0 aC (cW m aC a_1 i_9 oI) r s):Nat→St→Prop)
 let I2:=fun (n1:Nat)=>((fun m s=> ∃aC a_1 i_9 oI,jM 84 (aF (aF (aF (aF fa 0 (.own i0 0 aC.length)) 1 (vi a_1)) 9 (vi i_9)) 10 (vi oI)) h0 i0 aC (eG (cW n1) m aC a_1 i_9 oI) r s):Nat→St→Prop)
 let I3:=fun (n1:Nat)=>((fun m s=> ∃aC a_1 i_9 oI,jM 84 (aF (aF (aF (aF fa 0 (.own i0 0 aC.length)) 1 (vi a_1)) 9 (vi i_9)) 10 (vi oI)) h0 i0 aC (eI (cW n1) m aC a_1 i_9 oI) r s):Nat→St→Prop)
 exact GM
instance:Ct prog 200 (∀ {aC:List Int} {a_1:Int} {b_2:Int} {lK:Int},KM prog 200 [.v (.int .i64 a_1),vi b_2,vi lK] aC (eX aC a_1 b_2 lK) (fun r=>r.2) (fun r=> .v (.int .i64 r.1))):=⟨mL⟩
def kV(rec3:List Int→Int→Int→Int→Option (Int×Bool×List Int))(rec5:List Int→Int→Int→Int→Option (Int×Bool×List Int))(aC:List Int)(a_1:Int)(iI:Int)(iJ:Int):Option (Int×Bool×List Int):=
 ((eK ((decide (iI≤iJ))==true) 0 (idx aC iJ)).bind fun x56=>
 ((eK ((decide (iI≤iJ))==true) 0 (idx aC a_1)).bind fun x58=>
 ((eK ((decide (iI≤iJ))==true) false (dF x56 x58)).bind fun r60=>
 (bif ((decide (iI≤iJ))&&(!r60)) then
  rec5 aC a_1 iI (IntKind.i64.wrap (iJ-1))
 else
  (bif (decide (iJ<iI)) then
   ((idx aC a_1).bind fun x62=>
   ((idx aC iJ).bind fun x64=>
   ((idx aC iJ).bind fun x66=>
   ((stt aC iJ x62).bind fun l68=>
   ((idx l68 a_1).bind fun x70=>
   ((stt l68 a_1 x64).bind fun l72=>
   some (iJ,false,l72)))))))
  else
   ((idx aC iJ).bind fun x74=>
   ((idx aC iI).bind fun x76=>
   ((idx aC iI).bind fun x78=>
   ((stt aC iI x74).bind fun l80=>
   ((idx l80 iJ).bind fun x82=>
   ((stt l80 iJ x76).bind fun l84=>
   rec3 l84 a_1 (IntKind.i64.wrap (iI+1)) (IntKind.i64.wrap (iJ-1)))))))))))))
def gF(rec3:List Int→Int→Int→Int→Option (Int×Bool×List Int)):Nat→List Int→Int→Int→Int→Option (Int×Bool×List Int)
 |0=>fun _ _ _ _=>none
 |n+1=>kV rec3 (gF rec3 n)
def kU(rec3:List Int→Int→Int→Int→Option (Int×Bool×List Int))(rec4:List Int→Int→Int→Int→Option (Int×Bool×List Int))(aC:List Int)(a_1:Int)(iI:Int)(iJ:Int):Option (Int×Bool×List Int):=
 ((eK ((decide (iI≤iJ))==true) 0 (idx aC iI)).bind fun x50=>
 ((eK ((decide (iI≤iJ))==true) 0 (idx aC a_1)).bind fun x52=>
 ((eK ((decide (iI≤iJ))==true) false (dF x50 x52)).bind fun r54=>
 (bif ((decide (iI≤iJ))&&r54) then
  rec4 aC a_1 (IntKind.i64.wrap (iI+1)) iJ
 else
  gF rec3 aW aC a_1 iI iJ))))
def gD(rec3:List Int→Int→Int→Int→Option (Int×Bool×List Int)):Nat→List Int→Int→Int→Int→Option (Int×Bool×List Int)
 |0=>fun _ _ _ _=>none
 |n+1=>kU rec3 (gD rec3 n)
def kT(rec3:List Int→Int→Int→Int→Option (Int×Bool×List Int))(aC:List Int)(a_1:Int)(iI:Int)(iJ:Int):Option (Int×Bool×List Int):=
 gD rec3 aW aC a_1 iI iJ
def dU:Nat→List Int→Int→Int→Int→Option (Int×Bool×List Int)
 |0=>fun _ _ _ _=>none
 |n+1=>kT (dU n)
def kS(rec2:List Int→Int→Int→Int→Option (Int×Bool×List Int))(aC:List Int)(a_1:Int)(iI:Int)(iJ:Int):Option (Int×Bool×List Int):=
 ((eK ((decide (iI≤iJ))==true) 0 (idx aC iJ)).bind fun x20=>
 ((eK ((decide (iI≤iJ))==true) 0 (idx aC a_1)).bind fun x22=>
 ((eK ((decide (iI≤iJ))==true) false (dF x20 x22)).bind fun r24=>
 (bif ((decide (iI≤iJ))&&(!r24)) then
  rec2 aC a_1 iI (IntKind.i64.wrap (iJ-1))
 else
  (bif (decide (iJ<iI)) then
   ((idx aC a_1).bind fun x26=>
   ((idx aC iJ).bind fun x28=>
   ((idx aC iJ).bind fun x30=>
   ((stt aC iJ x26).bind fun l32=>
   ((idx l32 a_1).bind fun x34=>
   ((stt l32 a_1 x28).bind fun l36=>
   some (iJ,true,l36)))))))
  else
   ((idx aC iJ).bind fun x38=>
   ((idx aC iI).bind fun x40=>
   ((idx aC iI).bind fun x42=>
   ((stt aC iI x38).bind fun l44=>
   ((idx l44 iJ).bind fun x46=>
   ((stt l44 iJ x40).bind fun l48=>
   dU aW l48 a_1 (IntKind.i64.wrap (iI+1)) (IntKind.i64.wrap (iJ-1)))))))))))))
def fZ:Nat→List Int→Int→Int→Int→Option (Int×Bool×List Int)
 |0=>fun _ _ _ _=>none
 |n+1=>kS (fZ n)
def kR(rec1:List Int→Int→Int→Int→Option (Int×Bool×List Int))(aC:List Int)(a_1:Int)(iI:Int)(iJ:Int):Option (Int×Bool×List Int):=
 ((eK ((decide (iI≤iJ))==true) 0 (idx aC iI)).bind fun x14=>
 ((eK ((decide (iI≤iJ))==true) 0 (idx aC a_1)).bind fun x16=>
 ((eK ((decide (iI≤iJ))==true) false (dF x14 x16)).bind fun r18=>
 (bif ((decide (iI≤iJ))&&r18) then
  rec1 aC a_1 (IntKind.i64.wrap (iI+1)) iJ
 else
  fZ aW aC a_1 iI iJ))))
def fY:Nat→List Int→Int→Int→Int→Option (Int×Bool×List Int)
 |0=>fun _ _ _ _=>none
 |n+1=>kR (fY n)
def gQ(aC:List Int)(a_1:Int)(b_2:Int)(lK:Int):Option (Int×Bool×List Int):=
 ((idx aC lK).bind fun x2=>
 ((idx aC a_1).bind fun x4=>
 ((idx aC a_1).bind fun x6=>
 ((stt aC a_1 x2).bind fun l8=>
 ((idx l8 lK).bind fun x10=>
 ((stt l8 lK x4).bind fun l12=>
 fY aW l12 a_1 (IntKind.i64.wrap (a_1+1)) (IntKind.i64.wrap (b_2-1))))))))
instance:FB prog 201:=⟨by kernel_rfl⟩
theorem pZ: ∀ {aC:List Int} {a_1:Int} {b_2:Int} {lK:Int},KM prog 201 [.v (.int .i64 a_1),vi b_2,vi lK] aC (gQ aC a_1 b_2 lK) (fun r=>r.2.2) (fun r=> .tup [vi r.1,vb r.2.1]):=by
 intro aC a_1 b_2 lK r hm H i0 he;refine bM 168 func201 he fun h0=>?_
 let I1:=((fun m s=> ∃aC a_1 iI iJ,jM 168 (aF (aF (aF (aF fa 0 (.own i0 0 aC.length)) 1 (vi a_1)) 10 (vi iI)) 11 (vi iJ)) h0 i0 aC (fY m aC a_1 iI iJ) r s):Nat→St→Prop)
 let I2:=((fun m s=> ∃aC a_1 iI iJ,jM 168 (aF (aF (aF (aF fa 0 (.own i0 0 aC.length)) 1 (vi a_1)) 10 (vi iI)) 11 (vi iJ)) h0 i0 aC (fZ m aC a_1 iI iJ) r s):Nat→St→Prop)
 let I3:=((fun m s=> ∃aC a_1 iI iJ,jM 168 (aF (aF (aF (aF fa 0 (.own i0 0 aC.length)) 1 (vi a_1)) 10 (vi iI)) 11 (vi iJ)) h0 i0 aC (dU m aC a_1 iI iJ) r s):Nat→St→Prop)
 let I4:=fun (n3:Nat)=>((fun m s=> ∃aC a_1 iI iJ,jM 168 (aF (aF (aF (aF fa 0 (.own i0 0 aC.length)) 1 (vi a_1)) 10 (vi iI)) 11 (vi iJ)) h0 i0 aC (gD (dU n3) m aC a_1 iI iJ) r s):Nat→St→Prop)
 let I5:=fun (n3:Nat)=>((fun m s=> ∃aC a_1 iI iJ,jM 168 (aF (aF (aF (aF fa 0 (.own i0 0 aC.length)) 1 (vi a_1)) 10 (vi iI)) 11 (vi iJ)) h0 i0 aC (gF (dU n3) m aC a_1 iI iJ) r s):Nat→St→Prop)
 exact GM
instance:Ct prog 201 (∀ {aC:List Int} {a_1:Int} {b_2:Int} {lK:Int},KM prog 201 [.v (.int .i64 a_1),vi b_2,vi lK] aC (gQ aC a_1 b_2 lK) (fun r=>r.2.2) (fun r=> .tup [vi r.1,vb r.2.1])):=⟨pZ⟩
abbrev fL(recf:(List Int)→Int→Int→Int→Option (List Int))(rec1:List Int→Int→Int→Int→Bool→Bool→Option (List Int))(aC:List Int)(a_1:Int)(b_2:Int)(cQ:Int)(bL:Bool)(bD:Bool)(fI:Int)(lZ:Int):Option (List Int):=
 ((eK ((decide (0<a_1))==true) 0 (idx aC (IntKind.i64.wrap (a_1-1)))).bind fun x9=>
 ((eK ((decide (0<a_1))==true) 0 (idx aC lZ)).bind fun x11=>
 ((eK ((decide (0<a_1))==true) false (dF x9 x11)).bind fun r13=>
 (bif ((decide (0<a_1))&&(!r13)) then
  ((aA8 (fun x=>x.2.length) aC.length (eX aC a_1 b_2 lZ)).bind fun ⟨r16,l15⟩=>
  rec1 l15 r16 b_2 cQ bL bD)
 else
  ((aA8 (fun x=>x.2.2.length) aC.length (gQ aC a_1 b_2 lZ)).bind fun ⟨r19,r20,l18⟩=>
  (bif (decide ((IntKind.i64.wrap (r19-a_1))<(IntKind.i64.wrap (b_2-r19)))) then
   ((aA8 (fun x=>x.length) l18.length (recf l18 a_1 r19 cQ)).bind fun l22=>
   rec1 l22 (IntKind.i64.wrap (r19+1)) b_2 cQ (decide ((IntKind.i64.wrap (Int.tdiv fI 8))≤(IntKind.i64.wrap (r19-a_1)))) r20)
  else
   ((aA8 (fun x=>x.length) l18.length (recf l18 (IntKind.i64.wrap (r19+1)) b_2 cQ)).bind fun l24=>
   rec1 l24 a_1 r19 cQ (decide ((IntKind.i64.wrap (Int.tdiv fI 8))≤(IntKind.i64.wrap (b_2-r19)))) r20)))))))
abbrev fK(recf:(List Int)→Int→Int→Int→Option (List Int))(rec1:List Int→Int→Int→Int→Bool→Bool→Option (List Int))(aC:List Int)(a_1:Int)(b_2:Int)(cQ:Int)(bL:Bool)(bD:Bool)(fI:Int)(lZ:Int)(aN5:Int):Option (List Int):=
 (bif ((bL&&bD)&&(aN5==1)) then
  ((aA8 (fun x=>x.2.length) aC.length (dT aC a_1 b_2)).bind fun ⟨r27,l26⟩=>
  (bif r27 then
   some l26
  else
   fL recf rec1 l26 a_1 b_2 cQ bL bD fI lZ))
 else
  fL recf rec1 aC a_1 b_2 cQ bL bD fI lZ)
abbrev fJ(recf:(List Int)→Int→Int→Int→Option (List Int))(rec1:List Int→Int→Int→Int→Bool→Bool→Option (List Int))(aC:List Int)(a_1:Int)(b_2:Int)(cQ:Int)(bL:Bool)(bD:Bool)(fI:Int):Option (List Int):=
 ((fU aC a_1 b_2).bind fun ⟨r6,r7⟩=>
 (bif (r7==2) then
  ((aA8 (fun x=>x.length) aC.length (fQ aC a_1 b_2)).bind fun l29=>
  fK recf rec1 l29 a_1 b_2 cQ bL bD fI (IntKind.i64.wrap ((IntKind.i64.wrap (b_2-1))-(IntKind.i64.wrap (r6-a_1)))) 1)
 else
  fK recf rec1 aC a_1 b_2 cQ bL bD fI r6 r7))
def iB(recf:(List Int)→Int→Int→Int→Option (List Int))(rec1:List Int→Int→Int→Int→Bool→Bool→Option (List Int))(aC:List Int)(a_1:Int)(b_2:Int)(cQ:Int)(bL:Bool)(bD:Bool):Option (List Int):=
 (bif (decide ((IntKind.i64.wrap (b_2-a_1))≤12)) then
  ((aA8 (fun x=>x.length) aC.length (fE aC a_1 b_2)).bind fun l2=>
  some l2)
 else
  (bif (cQ==0) then
   ((aA8 (fun x=>x.length) aC.length (iA aC a_1 b_2)).bind fun l4=>
   some l4)
  else
   (bif (!bL) then
    ((aA8 (fun x=>x.length) aC.length (fD aC a_1 b_2)).bind fun l31=>
    fJ recf rec1 l31 a_1 b_2 (IntKind.i64.wrap (cQ-1)) bL bD (IntKind.i64.wrap (b_2-a_1)))
   else
    fJ recf rec1 aC a_1 b_2 cQ bL bD (IntKind.i64.wrap (b_2-a_1)))))
def bO(recf:(List Int)→Int→Int→Int→Option (List Int)):Nat→List Int→Int→Int→Int→Bool→Bool→Option (List Int)
 |0=>fun _ _ _ _ _ _=>none
 |n+1=>iB recf (bO recf n)
def lW(recf:(List Int)→Int→Int→Int→Option (List Int))(aC:List Int)(a_1:Int)(b_2:Int)(cQ:Int):Option (List Int):=
 bO recf aW aC a_1 b_2 cQ true true
def bJ:Nat→(List Int)→Int→Int→Int→Option (List Int)
 |0=>fun _ _ _ _=>none
 |n+1=>lW (bJ n)
def rK(aC:List Int)(a_1:Int)(b_2:Int)(cQ:Int):Option (List Int):=bJ aW aC a_1 b_2 cQ
theorem aBv: ∀(nn:Nat) {aC:List Int} {a_1:Int} {b_2:Int} {cQ:Int} {r:List Int} (hm:bJ nn aC a_1 b_2 cQ=some r) {H:aG} {i0:Nat} (he:H.ent i0= .cells 1 (aC.flatMap (ci .u64)) 0) (hk: ∀id,3000000≤id→H.ent id= .fresh) (hD: ∀id,aFe (H.ent id)) (hi:i0<3000000),eN prog 159 [.own i0 0 aC.length,.v (.int .i64 a_1),.v (.int .i64 b_2),.v (.int .i64 cQ)] H (.tup []) (H.put i0 (.cells 1 (r.flatMap (ci .u64)) 0)):=by
 intro nn
 induction nn with
 |zero=>
  intro aC a_1 b_2 cQ r hm;replace hm:none=some r:=hm;cases hm
 |succ nn ih=>
  intro aC a_1 b_2 cQ r hm H i0 he hk hD hi;replace hm:lW (bJ nn) aC a_1 b_2 cQ=some r:=hm;refine eN.of_bodyK func159 rfl he hk ?_;clear he;generalize H.ent=h0 at hk hD⊢;have hne1: ∀ {k:Nat},3000000≤k→(k==i0)=false:=fun hh=>by simp;omega
  have hne2: ∀ {k:Nat},3000000≤k→(i0==k)=false:=fun hh=>by simp;omega
  simp only [ntmps159,List.length_cons,List.length_nil,Nat.reduceAdd,Nat.reduceSub];unfold lW at hm;refine AWp.behind ?_;refine sN 3000064 (pA ?_);refine fs (sN 3000128 (pA ?_));refine fs (AWp.block (AWp.loopM (fun m s=> ∃(aC:List Int) (a_1:Int) (b_2:Int) (cQ:Int) (bL:Bool) (bD:Bool),s=(⟨134,(aF (aF (aF (aF (aF (aF (fun _=>AV.any) 0 (.own i0 0 aC.length)) 1 (.v (.int .i64 a_1))) 2 (.v (.int .i64 b_2))) 3 (.v (.int .i64 cQ))) 8 (.v (.bool bL))) 9 (.v (.bool bD))),⟨(upd h0 i0 (.cells 1 (aC.flatMap (ci .u64)) 0)),64⟩⟩:St)∧bO (bJ nn) m aC a_1 b_2 cQ bL bD=some r) aW ?_ ?_ ?_))
  · rintro s ⟨_,_,_,_,_,_,_,h⟩;cases h
  · refine ⟨_,?_,aC,a_1,b_2,cQ,true,true,rfl,hm⟩;exact sD (aZ 9 _ Z1 (aZ 8 _ Z1 (aZ 3 _ Z1 (aZ 2 _ Z1 (aZ 1 _ Z1 (aZ 0 _ (sE Z1 Z6) nE)))))) Zi
  ·
   rintro n1 s ⟨aC,a_1,b_2,cQ,bL,bD,rfl,hm⟩;replace hm:iB (bJ nn) (bO (bJ nn) n1) aC a_1 b_2 cQ bL bD=some r:=hm;unfold iB at hm;refine AWp.block (sN 128 ?_)
   iterate 4 refine pA ?_
   refine fs (AWp.seq' (sN 192 ?_))
   iterate 2 refine pA ?_
   refine fs (AWp.condM hm Z1 (fun _ hm=>?_) (fun _ hm=>?_))
   ·
    refine sN 256 ?_
    iterate 3 refine pA ?_
    obtain ⟨l2,h1,hm⟩:=bnd hm;have qh1:=aAo h1;refine aR.callM Zd Z1 cA3 ?_ (mZ (zH h1) (i0:=i0) Ze) ?_
    ·
     try simp only [go_sem,Nat.reduceBEq]
     first|done|rfl|(congr 2<;>omega)
    refine fs (AWp.ret (jE (sI (sJ (sI ?_)))));cases hm;exact aWc (.inr rfl) Tryz.results159 (by intro q hq;simp only [upd];all_goals ((repeat' split)<;>first|rfl|omega)) (fun q hq=>by rw [upd_ne _ _ _ _ om];exact hk q hq) (sR (aIc (CFi .u64)) hD)
   ·
    refine AWp.skip (bQ (AWp.seq' (sN 256 ?_)))
    iterate 2 refine pA ?_
    refine fs (AWp.condM hm Z1 (fun _ hm=>?_) (fun _ hm=>?_))
    ·
     refine sN 320 ?_
     iterate 3 refine pA ?_
     obtain ⟨l4,h3,hm⟩:=bnd hm;have qh3:=aAo h3;refine aR.callM Zd Z1 cA4 ?_ (qI (zH h3) (i0:=i0) Ze) ?_
     ·
      try simp only [go_sem,Nat.reduceBEq]
      first|done|rfl|(congr 2<;>omega)
     refine fs (AWp.ret (jE (sI (sJ (sI ?_)))));cases hm;exact aWc (.inr rfl) Tryz.results159 (by intro q hq;simp only [upd];all_goals ((repeat' split)<;>first|rfl|omega)) (fun q hq=>by rw [upd_ne _ _ _ _ om];exact hk q hq) (sR (aIc (CFi .u64)) hD)
    ·
     refine AWp.skip (bQ (AWp.seqJ (fun s=> ∃(aC:List Int) (a_1:Int) (b_2:Int) (cQ:Int) (bL:Bool) (bD:Bool) (fI:Int),s=(⟨134,(aF (aF (aF (aF (aF (aF (aF (fun _=>AV.any) 0 (.own i0 0 aC.length)) 1 (.v (.int .i64 a_1))) 2 (.v (.int .i64 b_2))) 3 (.v (.int .i64 cQ))) 8 (.v (.bool bL))) 9 (.v (.bool bD))) 10 (.v (.int .i64 fI))),⟨(upd h0 i0 (.cells 1 (aC.flatMap (ci .u64)) 0)),64⟩⟩:St)∧fJ (bJ nn) (bO (bJ nn) n1) aC a_1 b_2 cQ bL bD fI=some r) ?_ ?_))
     ·
      refine sN 320 ?_
      iterate 2 refine pA ?_
      refine fs (AWp.condM hm Z1 (fun _ hm=>?_) (fun _ hm=>?_))
      ·
       refine sN 384 ?_
       iterate 3 refine pA ?_
       obtain ⟨l31,h30,hm⟩:=bnd hm;have qh30:=aAo h30;refine aR.callM Zd Z1 cA5 ?_ (xH (zH h30) (i0:=i0) Ze (fun q hq=>by simp only [upd_ne _ _ _ _ (show q≠i0 by omega)];exact hk q hq) (by (repeat (first|exact hD|refine sR (aIc (CFi .u64)) ?_))) hi) ?_
       ·
        try simp only [go_sem,Nat.reduceBEq]
        first|done|rfl|(congr 2<;>omega)
       refine fs (AWp.reg 64 (N':=448) rfl ?_)
       iterate 3 refine pA ?_
       refine aR.fin (oZ ?_);refine ⟨_,?_,l31,a_1,b_2,(IntKind.i64.wrap (cQ-1)),bL,bD,(IntKind.i64.wrap (b_2-a_1)),rfl,hm⟩;exact sD (aZ 10 _ Z1 (aZ 9 _ Z1 (aZ 8 _ Z1 (aZ 3 _ Z1 (aZ 2 _ Z1 (aZ 1 _ Z1 (aZ 0 _ (sE Z1 Z6) nE))))))) Zi
      · refine AWp.skip (oZ ?_);refine ⟨_,?_,aC,a_1,b_2,cQ,bL,bD,(IntKind.i64.wrap (b_2-a_1)),rfl,hm⟩;exact sD (aZ 10 _ Z1 (aZ 9 _ Z1 (aZ 8 _ Z1 (aZ 3 _ Z1 (aZ 2 _ Z1 (aZ 1 _ Z1 (aZ 0 _ (sE Z1 Z6) nE))))))) Zi
     ·
      rintro s ⟨aC,a_1,b_2,cQ,bL,bD,fI,rfl,hm⟩;unfold fJ at hm;refine sN 128 ?_
      iterate 3 refine pA ?_
      obtain ⟨⟨r6,r7⟩,h5,hm⟩:=bnd hm;refine aR.callB (r:= .tup [.v (.int .i64 r6),.v (.int .i64 r7)]) Zd Z1 cA6 (.cons (lto (CFi .u64) Z1 Ze Z6) (.cons (ltd fun H=>(td Z1 (.v _))) (.cons (ltd fun H=>(td Z1 (.v _))) aU4.nil))) cBn (nW h5) ?_
      iterate 5 refine pA ?_
      refine fs (AWp.seqJ (fun s=> ∃(aC:List Int) (a_1:Int) (b_2:Int) (cQ:Int) (bL:Bool) (bD:Bool) (fI:Int) (lZ:Int) (aN5:Int),s=(⟨134,(aF (aF (aF (aF (aF (aF (aF (aF (aF (fun _=>AV.any) 0 (.own i0 0 aC.length)) 1 (.v (.int .i64 a_1))) 2 (.v (.int .i64 b_2))) 3 (.v (.int .i64 cQ))) 8 (.v (.bool bL))) 9 (.v (.bool bD))) 10 (.v (.int .i64 fI))) 11 (.v (.int .i64 lZ))) 12 (.v (.int .i64 aN5))),⟨(upd h0 i0 (.cells 1 (aC.flatMap (ci .u64)) 0)),64⟩⟩:St)∧fK (bJ nn) (bO (bJ nn) n1) aC a_1 b_2 cQ bL bD fI lZ aN5=some r) ?_ ?_)
      ·
       refine sN 192 ?_
       iterate 2 refine pA ?_
       refine fs (AWp.condM hm Z1 (fun _ hm=>?_) (fun _ hm=>?_))
       ·
        refine sN 256 ?_
        iterate 3 refine pA ?_
        obtain ⟨l29,h28,hm⟩:=bnd hm;have qh28:=aAo h28;refine aR.callM Zd Z1 cA7 ?_ (nH (zH h28) (i0:=i0) Ze) ?_
        ·
         try simp only [go_sem,Nat.reduceBEq]
         first|done|rfl|(congr 2<;>omega)
        refine fs (sN 320 ?_)
        iterate 7 refine pA ?_
        refine fs (AWp.reg 64 (N':=384) rfl ?_);refine pA ?_;refine aR.fin (oZ ?_);refine ⟨_,?_,l29,a_1,b_2,cQ,bL,bD,fI,(IntKind.i64.wrap ((IntKind.i64.wrap (b_2-1))-(IntKind.i64.wrap (r6-a_1)))),1,rfl,hm⟩;exact sD (aZ 12 _ Z1 (aZ 11 _ Z1 (aZ 10 _ Z1 (aZ 9 _ Z1 (aZ 8 _ Z1 (aZ 3 _ Z1 (aZ 2 _ Z1 (aZ 1 _ Z1 (aZ 0 _ (sE Z1 Z6) nE))))))))) Zi
       · refine AWp.skip (oZ ?_);refine ⟨_,?_,aC,a_1,b_2,cQ,bL,bD,fI,r6,r7,rfl,hm⟩;exact sD (aZ 12 _ Z1 (aZ 11 _ Z1 (aZ 10 _ Z1 (aZ 9 _ Z1 (aZ 8 _ Z1 (aZ 3 _ Z1 (aZ 2 _ Z1 (aZ 1 _ Z1 (aZ 0 _ (sE Z1 Z6) nE))))))))) Zi
      ·
       rintro s ⟨aC,a_1,b_2,cQ,bL,bD,fI,lZ,aN5,rfl,hm⟩;unfold fK at hm;refine AWp.seqJ (fun s=> ∃(aC:List Int) (a_1:Int) (b_2:Int) (cQ:Int) (bL:Bool) (bD:Bool) (fI:Int) (lZ:Int),s=(⟨134,(aF (aF (aF (aF (aF (aF (aF (aF (fun _=>AV.any) 0 (.own i0 0 aC.length)) 1 (.v (.int .i64 a_1))) 2 (.v (.int .i64 b_2))) 3 (.v (.int .i64 cQ))) 8 (.v (.bool bL))) 9 (.v (.bool bD))) 10 (.v (.int .i64 fI))) 11 (.v (.int .i64 lZ))),⟨(upd h0 i0 (.cells 1 (aC.flatMap (ci .u64)) 0)),64⟩⟩:St)∧fL (bJ nn) (bO (bJ nn) n1) aC a_1 b_2 cQ bL bD fI lZ=some r) ?_ ?_
       ·
        refine sN 128 ?_
        iterate 8 first|refine pA ?_|refine pB ?_
        refine fs (AWp.condM hm Z1 (fun _ hm=>?_) (fun _ hm=>?_))
        ·
         refine sN 192 ?_
         iterate 3 refine pA ?_
         obtain ⟨⟨r27,l26⟩,h25,hm⟩:=bnd hm;have qh25:=aAo h25;dsimp only at qh25;refine aR.callM Zd Z1 cA8 ?_ (kP (zH h25) (i0:=i0) Ze) ?_
         ·
          try simp only [go_sem,Nat.reduceBEq]
          first|done|rfl|(congr 2<;>omega)
         refine fs (AWp.condM hm Z1 (fun _ hm=>?_) (fun _ hm=>?_))
         · refine AWp.ret (bC6 (sI (sJ (sI ?_))));cases hm;exact aWc (.inr rfl) Tryz.results159 (by intro q hq;simp only [upd];all_goals ((repeat' split)<;>first|rfl|omega)) (fun q hq=>by rw [upd_ne _ _ _ _ om];exact hk q hq) (sR (aIc (CFi .u64)) hD)
         · refine AWp.skip (oZ ?_);refine ⟨_,?_,l26,a_1,b_2,cQ,bL,bD,fI,lZ,rfl,hm⟩;exact sD (aZ 11 _ Z1 (aZ 10 _ Z1 (aZ 9 _ Z1 (aZ 8 _ Z1 (aZ 3 _ Z1 (aZ 2 _ Z1 (aZ 1 _ Z1 (aZ 0 _ (sE Z1 Z6) nE)))))))) Zi
        · refine AWp.skip (oZ ?_);refine ⟨_,?_,aC,a_1,b_2,cQ,bL,bD,fI,lZ,rfl,hm⟩;exact sD (aZ 11 _ Z1 (aZ 10 _ Z1 (aZ 9 _ Z1 (aZ 8 _ Z1 (aZ 3 _ Z1 (aZ 2 _ Z1 (aZ 1 _ Z1 (aZ 0 _ (sE Z1 Z6) nE)))))))) Zi
       ·
        rintro s ⟨aC,a_1,b_2,cQ,bL,bD,fI,lZ,rfl,hm⟩;unfold fL at hm;refine AWp.seq' (sd mix (by kernel_rfl) (N':=128) rfl ?_)
        iterate 6 first|refine pA ?_|refine pB ?_
        obtain ⟨x9,h8,hm⟩:=bnd hm;refine pg rfl rfl Z2 (fun hb=>(iX underlying24 aNy (Zh hb) Ze Z6 (Zh hb) (kQ h8 hb))) ?_;refine pg rfl rfl Z2 (fun hb=>(aAc (CFi .u64) (Zh hb) Ze (kQ h8 hb) Zb)) ?_
        iterate 2 refine pB ?_
        obtain ⟨x11,h10,hm⟩:=bnd hm;refine pg rfl rfl Z2 (fun hb=>(iX underlying24 aNy (Zh hb) Ze Z6 (Zh hb) (kQ h10 hb))) ?_;refine pg rfl rfl Z2 (fun hb=>(aAc (CFi .u64) (Zh hb) Ze (kQ h10 hb) Zb)) ?_;obtain ⟨r13,h12,hm⟩:=bnd hm;refine aR.callQG (r:= .v (.bool r13)) Zd rfl Z2 Z1 bW6 (fun hb H=>(.cons (td (Zh hb) (.v _)) (.cons (td (Zh hb) (.v _)) .nil))) (fun hb=>aC5 (kQ h12 hb)) ?_
        iterate 2 first|refine pA ?_|refine pB ?_
        refine fs (AWp.condM hm Z1 (fun _ hm=>?_) (fun _ hm=>?_))
        ·
         refine sN 192 ?_
         iterate 4 refine pA ?_
         obtain ⟨⟨r16,l15⟩,h14,hm⟩:=bnd hm;have qh14:=aAo h14;dsimp only at qh14;refine aR.callM Zd Z1 cA9 ?_ (mL (zH h14) (i0:=i0) Ze) ?_
         ·
          try simp only [go_sem,Nat.reduceBEq]
          first|done|rfl|(congr 2<;>omega)
         refine pA ?_;refine fs (sN 256 ?_)
         iterate 2 refine pA ?_
         refine fs (AWp.exit (kG (iS (hZ ?_))));refine ⟨_,?_,l15,r16,b_2,cQ,bL,bD,rfl,hm⟩;exact sD (aZ 9 _ Z1 (aZ 8 _ Z1 (aZ 3 _ Z1 (aZ 2 _ Z1 (aZ 1 _ Z1 (aZ 0 _ (sE Z1 Z6) nE)))))) Zi
        ·
         refine AWp.skip (bQ (sN 192 ?_))
         iterate 4 refine pA ?_
         obtain ⟨⟨r19,r20,l18⟩,h17,hm⟩:=bnd hm;have qh17:=aAo h17;dsimp only at qh17;refine aR.callM Zd Z1 cAa ?_ (pZ (zH h17) (i0:=i0) Ze) ?_
         ·
          try simp only [go_sem,Nat.reduceBEq]
          first|done|rfl|(congr 2<;>omega)
         iterate 5 refine pA ?_
         refine fs (sN 256 ?_)
         iterate 2 refine pA ?_
         refine fs (sN 320 ?_)
         iterate 8 refine pA ?_
         refine fs (sN 384 ?_)
         iterate 3 refine pu rfl Zj ?_
         refine fs (sN 448 ?_)
         iterate 3 refine pA ?_
         refine fs (AWp.condM hm Z1 (fun _ hm=>?_) (fun _ hm=>?_))
         ·
          refine sN 512 ?_
          iterate 4 refine pA ?_
          refine fs (sN 576 ?_)
          iterate 4 refine pA ?_
          obtain ⟨l22,h21,hm⟩:=bnd hm;have qh21:=aAo h21;refine aR.callM Zd Z1 bO4 ?_ (ih (zH h21) (i0:=i0) Ze (fun q hq=>by simp only [upd_ne _ _ _ _ (show q≠i0 by omega)];exact hk q hq) (by (repeat (first|exact hD|refine sR (aIc (CFi .u64)) ?_))) hi) ?_
          ·
           try simp only [go_sem,Nat.reduceBEq]
           first|done|rfl|(congr 2<;>omega)
          refine fs (AWp.reg 64 (N':=640) rfl ?_)
          iterate 3 refine pA ?_
          refine aR.fin (jS (hZ ?_));refine ⟨_,?_,l22,(IntKind.i64.wrap (r19+1)),b_2,cQ,(decide ((IntKind.i64.wrap (Int.tdiv fI 8))≤(IntKind.i64.wrap (r19-a_1)))),r20,rfl,hm⟩;exact sD (aZ 9 _ Z1 (aZ 8 _ Z1 (aZ 3 _ Z1 (aZ 2 _ Z1 (aZ 1 _ Z1 (aZ 0 _ (sE Z1 Z6) nE)))))) Zi
         ·
          refine sN 512 ?_
          iterate 4 refine pA ?_
          refine fs (sN 576 ?_)
          iterate 5 refine pA ?_
          obtain ⟨l24,h23,hm⟩:=bnd hm;have qh23:=aAo h23;refine aR.callM Zd Z1 bO4 ?_ (ih (zH h23) (i0:=i0) Ze (fun q hq=>by simp only [upd_ne _ _ _ _ (show q≠i0 by omega)];exact hk q hq) (by (repeat (first|exact hD|refine sR (aIc (CFi .u64)) ?_))) hi) ?_
          ·
           try simp only [go_sem,Nat.reduceBEq]
           first|done|rfl|(congr 2<;>omega)
          refine fs (AWp.reg 64 (N':=640) rfl ?_)
          iterate 2 refine pA ?_
          refine aR.fin (jS (hZ ?_));refine ⟨_,?_,l24,a_1,r19,cQ,(decide ((IntKind.i64.wrap (Int.tdiv fI 8))≤(IntKind.i64.wrap (b_2-r19)))),r20,rfl,hm⟩;exact sD (aZ 9 _ Z1 (aZ 8 _ Z1 (aZ 3 _ Z1 (aZ 2 _ Z1 (aZ 1 _ Z1 (aZ 0 _ (sE Z1 Z6) nE)))))) Zi
theorem aCh{aC:List Int}{a_1:Int}{b_2:Int}{cQ:Int}{r:List Int}(hm:rK aC a_1 b_2 cQ=some r){H:aG}{i0:Nat}(he:H.ent i0= .cells 1 (aC.flatMap (ci .u64)) 0)(hk: ∀id,3000000≤id→H.ent id= .fresh)(hD: ∀id,aFe (H.ent id))(hi:i0<3000000):eN prog 159 [.own i0 0 aC.length,.v (.int .i64 a_1),.v (.int .i64 b_2),.v (.int .i64 cQ)] H (.tup []) (H.put i0 (.cells 1 (r.flatMap (ci .u64)) 0)):=aBv aW hm he hk hD hi
def lI(x_0:List Int):Option (List Int):=
 ((xL (IntKind.u64.wrap (x_0.length:Int))).bind fun r2=>
 ((aA8 (fun x=>x.length) x_0.length (rK x_0 0 (x_0.length:Int) r2)).bind fun l4=>
 some l4))
theorem aMe{x_0:List Int}{r:List Int}(hm:lI x_0=some r){H:aG}{i0:Nat}(he:H.ent i0= .cells 1 (x_0.flatMap (ci .u64)) 0)(hk: ∀id,3000000≤id→H.ent id= .fresh)(hD: ∀id,aFe (H.ent id))(hi:i0<3000000):eN prog 121 [.own i0 0 x_0.length] H (.tup []) (H.put i0 (.cells 1 (r.flatMap (ci .u64)) 0)):=by
 refine eN.of_bodyK func121 rfl he hk ?_;clear he;generalize H.ent=h0 at hk hD⊢;have hne1: ∀ {k:Nat},3000000≤k→(k==i0)=false:=fun hh=>by simp;omega
 have hne2: ∀ {k:Nat},3000000≤k→(i0==k)=false:=fun hh=>by simp;omega
 simp only [ntmps121,List.length_cons,List.length_nil,Nat.reduceAdd,Nat.reduceSub];unfold lI at hm;refine AWp.behind ?_;refine sN 3000064 ?_
 iterate 3 refine pA ?_
 refine fs (AWp.reg 64 (N':=3000128) rfl ?_)
 iterate 4 refine pA ?_
 obtain ⟨r2,h1,hm⟩:=bnd hm;refine aR.callQ (r:= .v (.int .i64 r2)) Zd Z1 cA1 (fun H=>(cV .nil)) (aVi h1) ?_;obtain ⟨l4,h3,hm⟩:=bnd hm;have qh3:=aAo h3;refine aR.callM Zd Z1 bO4 ?_ (aCh (zH h3) (i0:=i0) Ze (fun q hq=>by simp only [upd_ne _ _ _ _ (show q≠i0 by omega)];exact hk q hq) (by (repeat (first|exact hD|refine sR (aIc (CFi .u64)) ?_))) hi) ?_
 ·
  try simp only [go_sem,Nat.reduceBEq]
  first|done|rfl|(congr 2<;>omega)
 refine aR.fin ?_;cases hm;exact aWc (.inl rfl) Tryz.results121 (by intro q hq;simp only [upd];all_goals ((repeat' split)<;>first|rfl|omega)) (fun q hq=>by rw [upd_ne _ _ _ _ om];exact hk q hq) (sR (aIc (CFi .u64)) hD)
abbrev aCp(rec1:aD→List Int→List Int→Int→Int→Option ((List Int)))(s_2:aD)(kC:List Int)(t8:List Int)(t9:Int)(t10:Int):Option ((List Int)):=
 rec1 s_2 kC t8 t9 (IntKind.i64.wrap (t10+1))
def aH9(rec1:aD→List Int→List Int→Int→Int→Option ((List Int)))(s_2:aD)(kC:List Int)(t8:List Int)(t9:Int)(t10:Int):Option ((List Int)):=
 (bif (decide (t10<t9)) then
  ((idx t8 t10).bind fun x2=>
  ((idx s_2.Slots x2).bind fun x4=>
  (bif x4.Used then
   ((idx s_2.Slots x2).bind fun x6=>
   ((app kC [x6.Key]).bind fun l8=>
   aCp rec1 s_2 l8 t8 t9 t10))
  else
   aCp rec1 s_2 kC t8 t9 t10)))
 else
  ((aA8 (fun x=>x.length) kC.length (lI kC)).bind fun l10=>
  some l10))
def uH:Nat→aD→List Int→List Int→Int→Int→Option ((List Int))
 |0=>fun _ _ _ _ _=>none
 |n+1=>aH9 (uH n)
def qF(s_0:aD)(l_1:List Int):Option ((List Int)):=
 uH aW s_0 [] l_1 (l_1.length:Int) 0
theorem bAs{s_0:aD}{l_1:List Int}{r:(List Int)}(hm:qF s_0 l_1=some r):cE prog 82 [.agg [vi s_0.Graph.Config.N,vi s_0.Graph.Config.L,vi s_0.Graph.Config.R,vl cL s_0.Graph.Hashes,vl aV s_0.Graph.Edges,vl aX s_0.Slots],vl (ci .i64) l_1] (vl (ci .u64) r):=by
 refine bd 33 func82 ?_;refine W ?_;refine lp (fun m s=> ∃s_2 kC t8 t9 t10,s=⟨33,(aF (aF (aF (aF (aF fa 2 (.adr 1 0)) 5 (.own 2 0 kC.length)) 8 (vl (ci .i64) t8)) 9 (vi t9)) 10 (vi t10)),⟨(upd (upd aY 1 (.cells 1 [vi s_2.Graph.Config.N,vi s_2.Graph.Config.L,vi s_2.Graph.Config.R,vl cL s_2.Graph.Hashes,vl aV s_2.Graph.Edges,vl aX s_2.Slots] 0)) 2 (.cells 1 (kC.flatMap (ci .u64)) 0)),64⟩⟩∧uH m s_2 kC t8 t9 t10=some r) ?_ ?_
 · refine ⟨_,?_,s_0,[],l_1,(l_1.length:Int),0,rfl,hm⟩;refine St.Le.trans (aAn 5 900005 1 Z1 Z5) ?_;exact cn (fun j=>bif j==1 then 0 else bif j==2 then 900005 else 0)
 rintro n1 s ⟨s_2,kC,t8,t9,t10,rfl,hm⟩;refine W ?_;refine cm hm (fun hm=>?_) fun hm=>?_
 ·
  refine V ?_;refine AWp.seqJ (fun s=> ∃s_2 kC t8 t9 t10,s=⟨33,(aF (aF (aF (aF (aF fa 2 (.adr 1 0)) 5 (.own 2 0 kC.length)) 8 (vl (ci .i64) t8)) 9 (vi t9)) 10 (vi t10)),⟨(upd (upd aY 1 (.cells 1 [vi s_2.Graph.Config.N,vi s_2.Graph.Config.L,vi s_2.Graph.Config.R,vl cL s_2.Graph.Hashes,vl aV s_2.Graph.Edges,vl aX s_2.Slots] 0)) 2 (.cells 1 (kC.flatMap (ci .u64)) 0)),64⟩⟩∧aCp (uH n1) s_2 kC t8 t9 t10=some r) ?_ ?_
  ·
   obtain ⟨x2,h1,hm⟩:=bnd hm;obtain ⟨x4,h3,hm⟩:=bnd hm;refine W ?_;refine cm hm (fun hm=>?_) fun hm=>?_
   · have hm:=sb hm h3;refine W ?_;refine aL (CFi .u64) [x4.Key] ?_;obtain ⟨l8,h7,hm⟩:=bnd hm;refine W ?_;exact Lr (fun j=>bif j==1 then 1 else bif j==2 then 264 else 0)
   refine W ?_;exact Lr (fun j=>bif j==1 then 1 else bif j==2 then 2 else 0)
  rintro s ⟨s_2,kC,t8,t9,t10,rfl,hm⟩;refine W ?_;exact Lr (fun j=>bif j==1 then 1 else bif j==2 then 2 else 0)
 obtain ⟨l10,h9,hm⟩:=bnd hm;refine W ?_;have qh9:=aAo h9;refine aR.callM Zd Z1 bZv Z1 (aMe (zH h9) Z3 (by (repeat (first|exact bWc|refine bOw ?_ Zd))) (by (repeat (first|exact bVy|refine sR trivial ?_|refine sR (aIc (CFi .u64)) ?_|refine sR ⟨Nat.zero_le _,(aMi.dat s_2)⟩ ?_|refine sR ⟨Nat.zero_le _,DS⟩ ?_))) Zd) ?_;exact E
instance:Ct prog 82 (K2 prog dC (vl (ci .i64)) (vl (ci .u64)) 82 qF):=⟨fun hm=>bAs hm⟩
abbrev aC8(rec1:aD→Int→List Int→Int→Int→Option (Int))(s_2:aD)(aJc:Int)(t8:List Int)(t9:Int)(t10:Int):Option (Int):=
 rec1 s_2 aJc t8 t9 (IntKind.i64.wrap (t10+1))
def aC7(rec1:aD→Int→List Int→Int→Int→Option (Int))(s_2:aD)(aJc:Int)(t8:List Int)(t9:Int)(t10:Int):Option (Int):=
 (bif (decide (t10<t9)) then
  ((idx t8 t10).bind fun x2=>
  ((eK ((t10==x2)==true) (aI.mk false 0) (idx s_2.Slots t10)).bind fun x4=>
  (bif ((t10==x2)&&x4.Used) then
   aC8 rec1 s_2 (IntKind.i64.wrap (aJc+1)) t8 t9 t10
  else
   aC8 rec1 s_2 aJc t8 t9 t10)))
 else
  some aJc)
def nJ:Nat→aD→Int→List Int→Int→Int→Option (Int)
 |0=>fun _ _ _ _ _=>none
 |n+1=>aC7 (nJ n)
def zD(s_0:aD)(bF6:List Int):Option (Int):=
 nJ aW s_0 0 bF6 (bF6.length:Int) 0
theorem aSo:K2 prog dC (vl (ci .i64)) vi 85 zD:=by
 intro s_0 bF6 r hm
 let I1:=((fun m s=> ∃s_2 aJc t8 t9 t10,s=⟨30,(aF (aF (aF (aF (aF fa 2 (.adr 1 0)) 5 (vi aJc)) 8 (vl (ci .i64) t8)) 9 (vi t9)) 10 (vi t10)),⟨(upd aY 1 (.cells 1 [vi s_2.Graph.Config.N,vi s_2.Graph.Config.L,vi s_2.Graph.Config.R,vl cL s_2.Graph.Hashes,vl aV s_2.Graph.Edges,vl aX s_2.Slots] 0)),64⟩⟩∧nJ m s_2 aJc t8 t9 t10=some r):Nat→St→Prop)
 exact be 30 func85 (h:=G)
instance:Ct prog 85 (K2 prog dC (vl (ci .i64)) vi 85 zD):=⟨aSo⟩
def aDn(rec1:aD→List bG→List aE→Int→Int→Option ((List bG)))(s_1:aD)(aF0:List bG)(t19:List aE)(t20:Int)(t21:Int):Option ((List bG)):=
 (bif (decide (t21<t20)) then
  ((idx t19 t21).bind fun x4=>
  ((idx s_1.Slots x4.U).bind fun x6=>
  ((idx s_1.Slots x4.V).bind fun x8=>
  ((app aF0 [(bG.mk (if x8.Key<x6.Key then x8.Key else x6.Key) (if x6.Key<x8.Key then x8.Key else x6.Key))]).bind fun l10=>
  rec1 s_1 l10 t19 t20 (IntKind.i64.wrap (t21+1))))))
 else
  ((aA8 (fun x=>x.length) aF0.length (aBz aF0)).bind fun l12=>
  some l12))
def sU:Nat→aD→List bG→List aE→Int→Int→Option ((List bG))
 |0=>fun _ _ _ _ _=>none
 |n+1=>aDn (sU n)
def vN(s_0:aD):Option ((List bG)):=
 ((kF s_0.Graph.Config.N s_0.Graph.Edges s_0.Graph.Config.L).bind fun r2=>
 sU aW s_0 [] r2 (r2.length:Int) 0)
theorem aUm{s_0:aD}{r:(List bG)}(hm:vN s_0=some r):cE prog 86 [.agg [vi s_0.Graph.Config.N,vi s_0.Graph.Config.L,vi s_0.Graph.Config.R,vl cL s_0.Graph.Hashes,vl aV s_0.Graph.Edges,vl aX s_0.Slots]] (vl iY r):=by
 refine bd 53 func86 ?_;obtain ⟨r2,h1,hm⟩:=bnd hm;refine W ?_;refine cq (aLc h1) ?_;refine W ?_;refine lp (fun m s=> ∃s_1 aF0 t19 t20 t21,s=⟨53,(aF (aF (aF (aF (aF fa 1 (.adr 1 0)) 4 (.own 2 0 aF0.length)) 19 (vl aV t19)) 20 (vi t20)) 21 (vi t21)),⟨(upd (upd aY 1 (.cells 1 [vi s_1.Graph.Config.N,vi s_1.Graph.Config.L,vi s_1.Graph.Config.R,vl cL s_1.Graph.Hashes,vl aV s_1.Graph.Edges,vl aX s_1.Slots] 0)) 2 (.cells 2 (aF0.flatMap iY) 0)),64⟩⟩∧sU m s_1 aF0 t19 t20 t21=some r) ?_ ?_
 · refine ⟨_,?_,s_0,[],r2,(r2.length:Int),0,rfl,hm⟩;refine St.Le.trans (aAn 4 900004 2 Z1 Z5) ?_;exact cn (fun j=>bif j==1 then 0 else bif j==2 then 900004 else 0)
 rintro n1 s ⟨s_1,aF0,t19,t20,t21,rfl,hm⟩;refine W ?_;refine cm hm (fun hm=>?_) fun hm=>?_
 · obtain ⟨x4,h3,hm⟩:=bnd hm;obtain ⟨x6,h5,hm⟩:=bnd hm;obtain ⟨x8,h7,hm⟩:=bnd hm;refine W ?_;refine bU (.agg [.v (.int .u64 (if x8.Key<x6.Key then x8.Key else x6.Key)),.v (.int .u64 (if x6.Key<x8.Key then x8.Key else x6.Key))]) ?_;refine aL aGn [(bG.mk (if x8.Key<x6.Key then x8.Key else x6.Key) (if x6.Key<x8.Key then x8.Key else x6.Key))] ?_;obtain ⟨l10,h9,hm⟩:=bnd hm;refine W ?_;exact Lr (fun j=>bif j==1 then 1 else bif j==2 then 265 else 0)
 obtain ⟨l12,h11,hm⟩:=bnd hm;refine W ?_;have qh11:=aAo h11;refine aR.callM Zd Z1 bZw Z1 (bCe (zH h11) Z3) ?_;exact E
instance:Ct prog 86 (K1 prog dC (vl iY) 86 vN):=⟨fun hm=>aUm hm⟩
def aMf(rec1:ByteArray→Int→Int→Option (Int))(b_0:ByteArray)(bCg:Int)(i_4:Int):Option (Int):=
 (bif (decide (i_4<(b_0.size:Int))) then
  ((aGd bCg 257).bind fun r2=>
  ((aD0 b_0 i_4).bind fun b4=>
  ((aGc r2 (IntKind.u64.wrap ((IntKind.u64.wrap b4)+1))).bind fun r6=>
  rec1 b_0 r6 (IntKind.i64.wrap (i_4+1)))))
 else
  some bCg)
def aE8:Nat→ByteArray→Int→Int→Option (Int)
 |0=>fun _ _ _=>none
 |n+1=>aMf (aE8 n)
def aKq(b_0:ByteArray):Option (Int):=
 aE8 aW b_0 1 0
theorem aWg:K1 prog vs vu 43 aKq:=by
 intro b_0 r hm
 let I1:=((fun m s=> ∃b_0 bCg i_4,s=⟨20,(aF (aF (aF fa 0 (.v (.string b_0))) 3 (vu bCg)) 4 (vi i_4)),⟨aY,64⟩⟩∧aE8 m b_0 bCg i_4=some r):Nat→St→Prop)
 exact be 20 func43 (h:=G)
instance:Ct prog 43 (K1 prog vs vu 43 aKq):=⟨aWg⟩
abbrev aK6(rec3:aD→List Int→List aI→Int→Int→Option (ByteArray×Int))(s_1:aD)(b_5:List Int)(t58:List aI)(t59:Int)(t60:Int):Option (ByteArray×Int):=
 rec3 s_1 b_5 t58 t59 (IntKind.i64.wrap (t60+1))
abbrev aBy(rec3:aD→List Int→List aI→Int→Int→Option (ByteArray×Int))(s_1:aD)(b_5:List Int)(aKp:aI)(aO3:Int)(t58:List aI)(t59:Int)(t60:Int):Option (ByteArray×Int):=
 ((lQ b_5 aO3 1).bind fun l16=>
 ((lQ l16 aKp.Key 8).bind fun l18=>
 aK6 rec3 s_1 l18 t58 t59 t60))
def aK5(rec4:List Int→List aE→Int→Int→Option (ByteArray×Int))(b_5:List Int)(t83:List aE)(t84:Int)(t85:Int):Option (ByteArray×Int):=
 (bif (decide (t85<t84)) then
  ((idx t83 t85).bind fun x22=>
  ((lQ b_5 (IntKind.u64.wrap x22.U) 2).bind fun l24=>
  ((lQ l24 (IntKind.u64.wrap x22.V) 2).bind fun l26=>
  ((lQ l26 (IntKind.u64.wrap x22.Tier) 1).bind fun l28=>
  rec4 l28 t83 t84 (IntKind.i64.wrap (t85+1))))))
 else
  ((aKq (jR b_5)).bind fun r30=>
  ((lQ b_5 r30 8).bind fun l32=>
  some ((jR l32),0))))
def yH:Nat→List Int→List aE→Int→Int→Option (ByteArray×Int)
 |0=>fun _ _ _ _=>none
 |n+1=>aK5 (yH n)
def aK4(rec3:aD→List Int→List aI→Int→Int→Option (ByteArray×Int))(s_1:aD)(b_5:List Int)(t58:List aI)(t59:Int)(t60:Int):Option (ByteArray×Int):=
 (bif (decide (t60<t59)) then
  ((idx t58 t60).bind fun x14=>
  (bif x14.Used then
   aBy rec3 s_1 b_5 x14 1 t58 t59 t60
  else
   aBy rec3 s_1 b_5 x14 0 t58 t59 t60))
 else
  ((lQ b_5 (IntKind.u64.wrap (s_1.Graph.Edges.length:Int)) 4).bind fun l20=>
  yH aW l20 s_1.Graph.Edges (s_1.Graph.Edges.length:Int) 0))
def mO:Nat→aD→List Int→List aI→Int→Int→Option (ByteArray×Int)
 |0=>fun _ _ _ _ _=>none
 |n+1=>aK4 (mO n)
def aK3(rec2:aD→List Int→List bW→Int→Int→Option (ByteArray×Int))(s_1:aD)(b_5:List Int)(t42:List bW)(t43:Int)(t44:Int):Option (ByteArray×Int):=
 (bif (decide (t44<t43)) then
  ((idx t42 t44).bind fun x8=>
  ((lQ b_5 x8.A 8).bind fun l10=>
  ((lQ l10 x8.B 8).bind fun l12=>
  rec2 s_1 l12 t42 t43 (IntKind.i64.wrap (t44+1)))))
 else
  mO aW s_1 b_5 s_1.Slots (s_1.Slots.length:Int) 0)
def tP:Nat→aD→List Int→List bW→Int→Int→Option (ByteArray×Int)
 |0=>fun _ _ _ _ _=>none
 |n+1=>aK3 (tP n)
def aBx(rec1:aD→List Int→List Int→Int→Int→Option (ByteArray×Int))(s_1:aD)(b_5:List Int)(t29:List Int)(t30:Int)(t31:Int):Option (ByteArray×Int):=
 (bif (decide (t31<t30)) then
  ((idx t29 t31).bind fun x4=>
  ((lQ b_5 (IntKind.u64.wrap x4) 2).bind fun l6=>
  rec1 s_1 l6 t29 t30 (IntKind.i64.wrap (t31+1))))
 else
  tP aW s_1 b_5 s_1.Graph.Hashes (s_1.Graph.Hashes.length:Int) 0)
def oB:Nat→aD→List Int→List Int→Int→Int→Option (ByteArray×Int)
 |0=>fun _ _ _ _ _=>none
 |n+1=>aBx (oB n)
def oM(s_0:aD):Option (ByteArray×Int):=
 ((mN s_0).bind fun r2=>
 (bif (!r2) then
  some (⟨#[]⟩,1)
 else
  oB aW s_0 [82,65,70,84] [s_0.Graph.Config.N,s_0.Graph.Config.L,s_0.Graph.Config.R] (([s_0.Graph.Config.N,s_0.Graph.Config.L,s_0.Graph.Config.R]).length:Int) 0))
theorem bFu{s_0:aD}{r:ByteArray×Int}(hm:oM s_0=some r):cE prog 13 [.agg [vi s_0.Graph.Config.N,vi s_0.Graph.Config.L,vi s_0.Graph.Config.R,vl cL s_0.Graph.Hashes,vl aV s_0.Graph.Edges,vl aX s_0.Slots]] (.tup [.v (.string r.1),vi r.2]):=by
 refine bd 111 func13 ?_;obtain ⟨r2,h1,hm⟩:=bnd hm;refine W ?_;refine cq (aQp h1) ?_;refine W ?_;refine cm hm (fun hm=>?_) fun hm=>?_
 · exact E
 iterate 9 refine S1 ?_
 refine AWp.seq' ?_;refine AWp.regL (N':=256) [82,65,70,84] rfl rfl underlying91 underlying5 sz5 zc5 Z5 Zd Zd rfl (by simp only [go_sem,Nat.reduceBEq];try rfl) (by kernel_rfl) rfl rfl ?_;refine W ?_;refine aL (CFi .i64) [s_0.Graph.Config.N,s_0.Graph.Config.L,s_0.Graph.Config.R] ?_;refine W ?_;refine lp (fun m s=> ∃s_1 b_5 t29 t30 t31,s=⟨111,(aF (aF (aF (aF (aF fa 1 (.adr 1 0)) 5 (.own 2 0 b_5.length)) 29 (.own 3 0 t29.length)) 30 (vi t30)) 31 (vi t31)),⟨(upd (upd (upd aY 1 (.cells 1 [vi s_1.Graph.Config.N,vi s_1.Graph.Config.L,vi s_1.Graph.Config.R,vl cL s_1.Graph.Hashes,vl aV s_1.Graph.Edges,vl aX s_1.Slots] 0)) 2 (.cells 1 (b_5.flatMap (ci .u8)) 0)) 3 (.cells 1 (t29.flatMap (ci .i64)) 0)),64⟩⟩∧oB m s_1 b_5 t29 t30 t31=some r) (Lr (fun j=>bif j==1 then 0 else bif j==2 then 192 else bif j==3 then 262 else 0)) ?_;rintro n1 s ⟨s_1,b_5,t29,t30,t31,rfl,hm⟩;refine W ?_;refine cm hm (fun hm=>?_) fun hm=>?_
 · obtain ⟨x4,h3,hm⟩:=bnd hm;obtain ⟨l6,h5,hm⟩:=bnd hm;refine W ?_;refine aR.callA Zd Z1 aUg Z1 (sA h5 (J:=195) Z3 (aL1 Z5) Zd Zd KF DF) ?_;refine W ?_;exact Lr (fun j=>bif j==1 then 1 else bif j==2 then 195 else bif j==3 then 3 else 0)
 refine W ?_;refine lp (fun m s=> ∃s_1 b_5 t42 t43 t44,s=⟨111,(aF (aF (aF (aF (aF fa 1 (.adr 1 0)) 5 (.own 2 0 b_5.length)) 42 (vl cL t42)) 43 (vi t43)) 44 (vi t44)),⟨(upd (upd aY 1 (.cells 1 [vi s_1.Graph.Config.N,vi s_1.Graph.Config.L,vi s_1.Graph.Config.R,vl cL s_1.Graph.Hashes,vl aV s_1.Graph.Edges,vl aX s_1.Slots] 0)) 2 (.cells 1 (b_5.flatMap (ci .u8)) 0)),64⟩⟩∧tP m s_1 b_5 t42 t43 t44=some r) (Lr (fun j=>bif j==1 then 1 else bif j==2 then 2 else 0)) ?_;rintro n2 s ⟨s_1,b_5,t42,t43,t44,rfl,hm⟩;refine W ?_;refine cm hm (fun hm=>?_) fun hm=>?_
 · obtain ⟨x8,h7,hm⟩:=bnd hm;obtain ⟨l10,h9,hm⟩:=bnd hm;refine W ?_;refine aR.callA Zd Z1 aUg Z1 (sA h9 (J:=195) Z3 (aL1 Z5) Zd Zd KF DF) ?_;obtain ⟨l12,h11,hm⟩:=bnd hm;refine W ?_;refine aR.callA Zd Z1 aUg Z1 (sA h11 (J:=259) Z3 (aL1 Z5) Zd Zd KF DF) ?_;refine W ?_;exact Lr (fun j=>bif j==1 then 1 else bif j==2 then 259 else 0)
 refine W ?_;refine lp (fun m s=> ∃s_1 b_5 t58 t59 t60,s=⟨111,(aF (aF (aF (aF (aF fa 1 (.adr 1 0)) 5 (.own 2 0 b_5.length)) 58 (vl aX t58)) 59 (vi t59)) 60 (vi t60)),⟨(upd (upd aY 1 (.cells 1 [vi s_1.Graph.Config.N,vi s_1.Graph.Config.L,vi s_1.Graph.Config.R,vl cL s_1.Graph.Hashes,vl aV s_1.Graph.Edges,vl aX s_1.Slots] 0)) 2 (.cells 1 (b_5.flatMap (ci .u8)) 0)),64⟩⟩∧mO m s_1 b_5 t58 t59 t60=some r) (Lr (fun j=>bif j==1 then 1 else bif j==2 then 2 else 0)) ?_;rintro n3 s ⟨s_1,b_5,t58,t59,t60,rfl,hm⟩;refine W ?_;refine cm hm (fun hm=>?_) fun hm=>?_
 ·
  refine V ?_;refine AWp.seqJ (fun s=> ∃s_1 b_5 t58 t59 t60,s=⟨111,(aF (aF (aF (aF (aF fa 1 (.adr 1 0)) 5 (.own 2 0 b_5.length)) 58 (vl aX t58)) 59 (vi t59)) 60 (vi t60)),⟨(upd (upd aY 1 (.cells 1 [vi s_1.Graph.Config.N,vi s_1.Graph.Config.L,vi s_1.Graph.Config.R,vl cL s_1.Graph.Hashes,vl aV s_1.Graph.Edges,vl aX s_1.Slots] 0)) 2 (.cells 1 (b_5.flatMap (ci .u8)) 0)),64⟩⟩∧aK6 (mO n3) s_1 b_5 t58 t59 t60=some r) ?_ ?_
  ·
   obtain ⟨x14,h13,hm⟩:=bnd hm;refine V ?_;refine AWp.seqJ (fun s=> ∃s_1 b_5 aKp aO3 t58 t59 t60,s=⟨111,(aF (aF (aF (aF (aF (aF (aF fa 1 (.adr 1 0)) 5 (.own 2 0 b_5.length)) 11 (.adr 3 0)) 12 (vu aO3)) 58 (vl aX t58)) 59 (vi t59)) 60 (vi t60)),⟨(upd (upd (upd aY 1 (.cells 1 [vi s_1.Graph.Config.N,vi s_1.Graph.Config.L,vi s_1.Graph.Config.R,vl cL s_1.Graph.Hashes,vl aV s_1.Graph.Edges,vl aX s_1.Slots] 0)) 2 (.cells 1 (b_5.flatMap (ci .u8)) 0)) 3 (.cells 1 [vb aKp.Used,vu aKp.Key] 0)),64⟩⟩∧aBy (mO n3) s_1 b_5 aKp aO3 t58 t59 t60=some r) ?_ ?_
   ·
    refine W ?_;refine cm hm (fun hm=>?_) fun hm=>?_
    · refine W ?_;exact Lr (fun j=>bif j==1 then 1 else bif j==2 then 2 else bif j==3 then 130 else 0)
    refine W ?_;exact Lr (fun j=>bif j==1 then 1 else bif j==2 then 2 else bif j==3 then 130 else 0)
   rintro s ⟨s_1,b_5,aKp,aO3,t58,t59,t60,rfl,hm⟩;obtain ⟨l16,h15,hm⟩:=bnd hm;refine W ?_;refine aR.callA Zd Z1 aUg Z1 (sA h15 (J:=66) Z3 (aL1 Z5) Zd Zd KF DF) ?_;obtain ⟨l18,h17,hm⟩:=bnd hm;refine W ?_;refine aR.callA Zd Z1 aUg Z1 (sA h17 (J:=131) Z3 (aL1 Z5) Zd Zd KF DF) ?_;refine W ?_;exact Lr (fun j=>bif j==1 then 1 else bif j==2 then 131 else 0)
  rintro s ⟨s_1,b_5,t58,t59,t60,rfl,hm⟩;refine W ?_;exact Lr (fun j=>bif j==1 then 1 else bif j==2 then 2 else 0)
 obtain ⟨l20,h19,hm⟩:=bnd hm;refine W ?_;refine aR.callA Zd Z1 aUg Z1 (sA h19 (J:=134) Z3 (aL1 Z5) Zd Zd KF DF) ?_;refine W ?_;refine lp (fun m s=> ∃b_5 t83 t84 t85,s=⟨111,(aF (aF (aF (aF fa 5 (.own 1 0 b_5.length)) 83 (vl aV t83)) 84 (vi t84)) 85 (vi t85)),⟨(upd aY 1 (.cells 1 (b_5.flatMap (ci .u8)) 0)),64⟩⟩∧yH m b_5 t83 t84 t85=some r) (Lr (fun j=>bif j==1 then 134 else 0)) ?_;rintro n4 s ⟨b_5,t83,t84,t85,rfl,hm⟩;refine W ?_;refine cm hm (fun hm=>?_) fun hm=>?_
 · obtain ⟨x22,h21,hm⟩:=bnd hm;obtain ⟨l24,h23,hm⟩:=bnd hm;refine W ?_;refine aR.callA Zd Z1 aUg Z1 (sA h23 (J:=196) Z3 (aL1 Z5) Zd Zd KF DF) ?_;obtain ⟨l26,h25,hm⟩:=bnd hm;refine W ?_;refine aR.callA Zd Z1 aUg Z1 (sA h25 (J:=260) Z3 (aL1 Z5) Zd Zd KF DF) ?_;obtain ⟨l28,h27,hm⟩:=bnd hm;refine W ?_;refine aR.callA Zd Z1 aUg Z1 (sA h27 (J:=324) Z3 (aL1 Z5) Zd Zd KF DF) ?_;refine W ?_;exact Lr (fun j=>bif j==1 then 324 else 0)
 refine W ?_;refine pu rfl (aMm underlying91 underlying9 underlying5 Z1 Z3 Z6) ?_;obtain ⟨r30,h29,hm⟩:=bnd hm;refine cq (aWg h29) ?_;obtain ⟨l32,h31,hm⟩:=bnd hm;refine aR.callA Zd Z1 aUg Z1 (sA h31 (J:=132) Z3 (aL1 Z5) Zd Zd KF DF) ?_;refine pu rfl (aMm underlying91 underlying9 underlying5 Z1 Z3 Z6) ?_;exact E
instance:Ct prog 13 (K1 prog dC (t2 vs vi) 13 oM):=⟨fun hm=>bFu hm⟩
def oH(s_0:aD)(aCo:Int)(u_2:Int)(v_3:Int):Option (GA):=
 ((tU s_0.Graph).bind fun r2=>
 (bif (aCo==5) then
  ((qS s_0.Graph.Edges u_2 v_3).bind fun ⟨r4,r5⟩=>
  some (GA.b 4 r5))
 else
  (bif (aCo==6) then
   ((rN s_0 u_2).bind fun r7=>
   some (GA.i 3 .i64 r7))
  else
   (bif (aCo==7) then
    ((xU s_0 u_2).bind fun r9=>
    ((qF s_0 r9).bind fun r11=>
    some (GA.lu 24 r11)))
   else
    (bif (aCo==8) then
     ((idx r2 u_2).bind fun x13=>
     ((idx r2 v_3).bind fun x15=>
     some (GA.b 4 (x13==x15))))
    else
     (bif (aCo==9) then
      ((sY r2 u_2).bind fun r17=>
      ((qF s_0 r17).bind fun r19=>
      some (GA.i 3 .i64 (r19.length:Int))))
     else
      (bif (aCo==10) then
       ((zD s_0 r2).bind fun r21=>
       some (GA.i 3 .i64 r21))
      else
       (bif (aCo==11) then
        ((sY r2 u_2).bind fun r23=>
        ((qF s_0 r23).bind fun r25=>
        some (GA.lu 24 r25)))
       else
        (bif (aCo==12) then
         ((vN s_0).bind fun r27=>
         some (GA.lp 157 r27))
        else
         (bif (aCo==13) then
          ((yN s_0.Graph).bind fun r29=>
          some (GA.b 4 r29))
         else
          ((oM s_0).bind fun ⟨r31,r32⟩=>
          some (GA.s 9 r31))))))))))))
theorem aUj:K4 prog dC vi vi vi GA.av 40 oH:=fun hm=>be 98 func40 (h:=G)
instance:Ct prog 40 (K4 prog dC vi vi vi GA.av 40 oH):=⟨aUj⟩
def qX(f_1:(aI→Option (Bool)))(rec1:List aI→Int→Int→Option (Int))(s_0:List aI)(t7:Int)(t8:Int):Option (Int):=
 (bif (decide (t8<t7)) then
  ((idx s_0 t8).bind fun x2=>
  ((f_1 x2).bind fun r4=>
  (bif r4 then
   some t8
  else
   rec1 s_0 t7 (IntKind.i64.wrap (t8+1)))))
 else
  some (-1))
def iC(f_1:(aI→Option (Bool))):Nat→List aI→Int→Int→Option (Int)
 |0=>fun _ _ _=>none
 |n+1=>qX f_1 (iC f_1 n)
def sF(s_0:List aI)(f_1:(aI→Option (Bool))):Option (Int):=
 iC f_1 aW s_0 (s_0.length:Int) 0
theorem aIh{s_0:List aI}{f_1:(aI→Option (Bool))}{r:Int}(hm:sF s_0 f_1=some r){aN3:FuncId}{aCl:List AV}(aSl: ∀a,a∈aCl→AM.Data a)(bEu:(Program.funcs prog)[aN3]?.any (fun fn=>fn.body.isSome&&fn.name != "runtime.NumGoroutine")=true)(bEv: ∀ {x0 r},f_1 x0=some r→cE prog aN3 ([.agg [vb x0.Used,vu x0.Key]]++aCl) (vb r)):cE prog 127 [vl aX s_0,.clo (.func aN3) [] aCl] (vi r):=by
 refine bd 19 func127 ?_;refine W ?_;refine lp (fun m s=> ∃s_0 t7 t8,s=⟨19,(aF (aF (aF (aF fa 0 (vl aX s_0)) 1 (.clo (.func aN3) [] aCl)) 7 (vi t7)) 8 (vi t8)),⟨aY,64⟩⟩∧iC f_1 m s_0 t7 t8=some r) L ?_;rintro n1 s ⟨s_0,t7,t8,rfl,hm⟩;refine W ?_;refine cm hm (fun hm=>?_) fun hm=>?_
 ·
  obtain ⟨x2,h1,hm⟩:=bnd hm;obtain ⟨r4,h3,hm⟩:=bnd hm;refine W ?_;refine aR.callQC (r:= .v (.bool r4)) Zd Z1 aSl bEu (fun H=>(cD (.agg _ (cX.dat _)) .nil)) (bEv h3) ?_;refine W ?_;refine cm hm (fun hm=>?_) fun hm=>?_
  · exact E
  exact L
 exact E
attribute [local semireducible] aW
end Go.Proofs.YtkdohhmacfoolaaGreatDoor
