/- Facts. No condition. -/
import Derived.Test.YtkdohhmacfoolaaGreatDoorPfGI1
set_option linter.unusedVariables false
set_option linter.unusedSimpArgs false
set_option maxRecDepth 20000
set_option maxHeartbeats 4000000
namespace Go.Proofs.YtkdohhmacfoolaaGreatDoor
open Go.Proofs.Tryz Go Go.AM
attribute [local irreducible] aW
@[go_sem] theorem bJ0(xs:List AV):aH prog 96 (.ptr (xs)) 0=some (.ptr xs):=by kernel_rfl
@[go_sem] theorem bJ1(x0:AV)(xs:List AV):aH prog 96 (.ptr (x0::xs)) 1=some (.ptr xs):=by kernel_rfl
@[go_sem] theorem bJ8(i o:Nat):aH prog 23 (.adr i o) 0=some (.adr i (o+0)):=by kernel_rfl
@[go_sem] theorem bJe(i o:Nat):aH prog 23 (.adr i o) 1=some (.adr i (o+1)):=by kernel_rfl
@[go_sem] theorem bJk(i o:Nat):aH prog 23 (.adr i o) 2=some (.adr i (o+2)):=by kernel_rfl
@[go_sem] theorem bJr(i o:Nat):aH prog 30 (.adr i o) 0=some (.adr i (o+0)):=by kernel_rfl
@[go_sem] theorem bJv(i o:Nat):aH prog 30 (.adr i o) 1=some (.adr i (o+3)):=by kernel_rfl
@[go_sem] theorem bK1(i o:Nat):aH prog 30 (.adr i o) 2=some (.adr i (o+4)):=by kernel_rfl
@[go_sem] theorem bK4(i o:Nat):aH prog 33 (.adr i o) 0=some (.adr i (o+0)):=by kernel_rfl
@[go_sem] theorem bK8(i o:Nat):aH prog 33 (.adr i o) 1=some (.adr i (o+5)):=by kernel_rfl
@[go_sem] theorem bKo(i o:Nat):aH prog 61 (.adr i o) 0=some (.adr i (o+0)):=by kernel_rfl
@[go_sem] theorem bKu(i o:Nat):aH prog 61 (.adr i o) 1=some (.adr i (o+1)):=by kernel_rfl
@[go_sem] theorem bKz(i o:Nat):aH prog 61 (.adr i o) 2=some (.adr i (o+2)):=by kernel_rfl
@[go_sem] theorem bL8(i o:Nat):aH prog 94 (.adr i o) 0=some (.adr i (o+0)):=by kernel_rfl
@[go_sem] theorem bLb(i o:Nat):aH prog 94 (.adr i o) 1=some (.adr i (o+1)):=by kernel_rfl
@[go_sem] theorem bLd(i o:Nat):aH prog 96 (.adr i o) 0=some (.adr i (o+0)):=by kernel_rfl
@[go_sem] theorem bLg(i o:Nat):aH prog 96 (.adr i o) 1=some (.adr i (o+1)):=by kernel_rfl
theorem bF5(i o:Nat)(k:IntKind):lU prog 180 (.adr i o) (.v (.int k 0))=some (.adr i o):=by kernel_rfl
theorem bF7(i o:Nat)(k:IntKind):lU prog 180 (.adr i o) (.v (.int k 1))=some (.adr i (o+1)):=by kernel_rfl
attribute [go_sem] bF5 bF7
@[go_sem] theorem bTb(H:aG)(x0 x1 x2:AV)(xs:List AV):bT prog H 23 (.ptr (x0::x1::x2::xs))=some (.agg [x0,x1,x2]):=by kernel_rfl
@[go_sem] theorem bTi(H:aG)(x:AV)(xs:List AV):bT prog H 27 (.ptr (x::xs))=some x:=by kernel_rfl
@[go_sem] theorem bTo(H:aG)(x:AV)(xs:List AV):bT prog H 28 (.ptr (x::xs))=some x:=by kernel_rfl
@[go_sem] theorem bXy(H:aG)(x:AV)(xs:List AV):bT prog H 3 (.ptr (x::xs))=some x:=by kernel_rfl
@[go_sem] theorem bTu(H:aG)(x0 x1 x2 x3 x4:AV)(xs:List AV):bT prog H 30 (.ptr (x0::x1::x2::x3::x4::xs))=some (.agg [x0,x1,x2,x3,x4]):=by kernel_rfl
@[go_sem] theorem bTz(H:aG)(x:AV)(xs:List AV):bT prog H 31 (.ptr (x::xs))=some x:=by kernel_rfl
@[go_sem] theorem bU3(H:aG)(x0 x1 x2 x3 x4 x5:AV)(xs:List AV):bT prog H 33 (.ptr (x0::x1::x2::x3::x4::x5::xs))=some (.agg [x0,x1,x2,x3,x4,x5]):=by kernel_rfl
@[go_sem] theorem bY5(H:aG)(x:AV)(xs:List AV):bT prog H 4 (.ptr (x::xs))=some x:=by kernel_rfl
@[go_sem] theorem bUc(H:aG)(x:AV)(xs:List AV):bT prog H 40 (.ptr (x::xs))=some x:=by kernel_rfl
@[go_sem] theorem bUl(H:aG)(x0 x1 x2:AV)(xs:List AV):bT prog H 61 (.ptr (x0::x1::x2::xs))=some (.agg [x0,x1,x2]):=by kernel_rfl
@[go_sem] theorem bUt(H:aG)(x0 x1:AV)(xs:List AV):bT prog H 94 (.ptr (x0::x1::xs))=some (.agg [x0,x1]):=by kernel_rfl
@[go_sem] theorem bUv(H:aG)(x0 x1:AV)(xs:List AV):bT prog H 96 (.ptr (x0::x1::xs))=some (.agg [x0,x1]):=by kernel_rfl
@[go_sem] theorem bIl(H:aG)(k:IntKind)(n:Int):mU prog H 3 40 (.v (.int k n))=some (.v (.int .u64 (IntKind.u64.wrap n))):=gK underlying3 underlying40
@[go_sem] theorem bE4(H:aG)(k:IntKind)(n:Int):mU prog H 3 162 (.v (.int k n))=some (.v (.int .u64 (IntKind.u64.wrap n))):=gK underlying3 underlying162
@[go_sem] theorem bIr(H:aG)(k:IntKind)(n:Int):mU prog H 5 40 (.v (.int k n))=some (.v (.int .u64 (IntKind.u64.wrap n))):=gK underlying5 underlying40
abbrev fP(wW:Int)(iK:Int):Option (Int×Int):=
 (bif (wW==0) then
  some (iK,1)
 else
  (bif (wW==12) then
   some (iK,2)
  else
   some (iK,0)))
abbrev fQ(aC:List Int)(wW:Int)(iJ:Int)(iK:Int)(bOv:Int):Option (Int×Int):=
 ((fX aC iJ iK bOv wW).bind fun ⟨r3,x2⟩=>
 fP x2 r3)
def fV(aC:List Int)(a_1:Int)(b_2:Int):Option (Int×Int):=
 (bif (decide (8≤(IntKind.i64.wrap (b_2-a_1)))) then
  (bif (decide (50≤(IntKind.i64.wrap (b_2-a_1)))) then
   ((dD aC (IntKind.i64.wrap (a_1+(IntKind.i64.wrap ((IntKind.i64.wrap (Int.tdiv (IntKind.i64.wrap (b_2-a_1)) 4))*1)))) 0).bind fun ⟨r6,x5⟩=>
   ((dD aC (IntKind.i64.wrap (a_1+(IntKind.i64.wrap ((IntKind.i64.wrap (Int.tdiv (IntKind.i64.wrap (b_2-a_1)) 4))*2)))) x5).bind fun ⟨r9,x8⟩=>
   ((dD aC (IntKind.i64.wrap (a_1+(IntKind.i64.wrap ((IntKind.i64.wrap (Int.tdiv (IntKind.i64.wrap (b_2-a_1)) 4))*3)))) x8).bind fun ⟨r12,x11⟩=>
   fQ aC x11 r6 r9 r12)))
  else
   fQ aC 0 (IntKind.i64.wrap (a_1+(IntKind.i64.wrap ((IntKind.i64.wrap (Int.tdiv (IntKind.i64.wrap (b_2-a_1)) 4))*1)))) (IntKind.i64.wrap (a_1+(IntKind.i64.wrap ((IntKind.i64.wrap (Int.tdiv (IntKind.i64.wrap (b_2-a_1)) 4))*2)))) (IntKind.i64.wrap (a_1+(IntKind.i64.wrap ((IntKind.i64.wrap (Int.tdiv (IntKind.i64.wrap (b_2-a_1)) 4))*3)))))
 else
  fP 0 (IntKind.i64.wrap (a_1+(IntKind.i64.wrap ((IntKind.i64.wrap (Int.tdiv (IntKind.i64.wrap (b_2-a_1)) 4))*2)))))
theorem nY{aC:List Int}{a_1:Int}{b_2:Int}{r:Int×Int}(hm:fV aC a_1 b_2=some r):bY prog 196 [vl (ci .u64) aC,vi a_1,vi b_2] (.tup [vi r.1,vi r.2]):=by
 refine bd 57 func196 ?_;refine V ?_;refine AWp.seqJ (fun s=> ∃wW iK,s=⟨57,(aF (aF fa 9 (.adr 1 0)) 11 (vi iK)),⟨(upd aY 1 (.cells 1 [vi wW] 0)),64⟩⟩∧fP wW iK=some r) ?_ ?_
 ·
  refine W ?_;refine cm hm (fun hm=>?_) fun hm=>?_
  ·
   refine AWp.seqJ (fun s=> ∃aC wW iJ iK bOv,s=⟨57,(aF (aF (aF (aF (aF fa 0 (vl (ci .u64) aC)) 9 (.adr 1 0)) 10 (vi iJ)) 11 (vi iK)) 12 (vi bOv)),⟨(upd aY 1 (.cells 1 [vi wW] 0)),64⟩⟩∧fQ aC wW iJ iK bOv=some r) ?_ ?_
   ·
    refine W ?_;refine cm hm (fun hm=>?_) fun hm=>?_
    · refine W ?_;obtain ⟨⟨r6,x5⟩,h4,hm⟩:=bnd hm;refine aR.callM Zd Z1 bO8 Z1 (jP h4 Z3) ?_;refine W ?_;obtain ⟨⟨r9,x8⟩,h7,hm⟩:=bnd hm;refine aR.callM Zd Z1 bO8 Z1 (jP h7 Z3) ?_;refine W ?_;obtain ⟨⟨r12,x11⟩,h10,hm⟩:=bnd hm;refine aR.callM Zd Z1 bO8 Z1 (jP h10 Z3) ?_;refine W ?_;exact Lr (fun j=>bif j==1 then 128 else 0)
    refine W ?_;exact Lr (fun j=>bif j==1 then 128 else 0)
   rintro s ⟨aC,wW,iJ,iK,bOv,rfl,hm⟩;refine W ?_;obtain ⟨⟨r3,x2⟩,h1,hm⟩:=bnd hm;refine aR.callM Zd Z1 bWd Z1 (sO h1 Z3) ?_;refine W ?_;exact Lr (fun j=>bif j==1 then 1 else 0)
  refine W ?_;exact Lr (fun j=>bif j==1 then 128 else 0)
 rintro s ⟨wW,iK,rfl,hm⟩;refine W ?_;refine cm hm (fun hm=>?_) fun hm=>?_
 · exact E
 refine W ?_;refine cm hm (fun hm=>?_) fun hm=>?_
 · exact E
 exact E
instance:Ct prog 196 (K3 prog (vl (ci .u64)) vi vi (t2 vi vi) 196 fV):=⟨fun hm=>nY hm⟩
def jU(rec1:List Int→Int→Int→Option (List Int))(aC:List Int)(i_6:Int)(j_7:Int):Option (List Int):=
 (bif (decide (i_6<j_7)) then
  ((idx aC j_7).bind fun x2=>
  ((idx aC i_6).bind fun x4=>
  ((idx aC i_6).bind fun x6=>
  ((stt aC i_6 x2).bind fun l8=>
  ((idx l8 j_7).bind fun x10=>
  ((stt l8 j_7 x4).bind fun l12=>
  rec1 l12 (IntKind.i64.wrap (i_6+1)) (IntKind.i64.wrap (j_7-1))))))))
 else
  some aC)
def fH:Nat→List Int→Int→Int→Option (List Int)
 |0=>fun _ _ _=>none
 |n+1=>jU (fH n)
def fR(aC:List Int)(a_1:Int)(b_2:Int):Option (List Int):=
 fH aW aC a_1 (IntKind.i64.wrap (b_2-1))
instance:FB prog 197:=⟨by kernel_rfl⟩
theorem nJ: ∀ {aC:List Int} {a_1:Int} {b_2:Int},KM prog 197 [.v (.int .i64 a_1),vi b_2] aC (fR aC a_1 b_2) (fun r=>r) (fun r=> .tup []):=by
 intro aC a_1 b_2 r hm H i0 he;refine bM 32 func197 he fun h0=>?_
 let I1:=((fun m s=> ∃aC i_6 j_7,jM 32 (aF (aF (aF fa 0 (.own i0 0 aC.length)) 6 (vi i_6)) 7 (vi j_7)) h0 i0 aC (fH m aC i_6 j_7) r s):Nat→St→Prop)
 exact GM
instance:Ct prog 197 (∀ {aC:List Int} {a_1:Int} {b_2:Int},KM prog 197 [.v (.int .i64 a_1),vi b_2] aC (fR aC a_1 b_2) (fun r=>r) (fun r=> .tup [])):=⟨nJ⟩
abbrev cE(rec1:List Int→Int→Int→Int→Int→Option (Bool×List Int))(aC:List Int)(a_1:Int)(b_2:Int)(i_7:Int)(j_8:Int):Option (Bool×List Int):=
 rec1 aC a_1 b_2 i_7 (IntKind.i64.wrap (j_8+1))
def iG(rec1:List Int→Int→Int→Int→Int→Option (Bool×List Int))(rec3:List Int→Int→Int→Int→Int→Int→Option (Bool×List Int))(aC:List Int)(a_1:Int)(b_2:Int)(i_7:Int)(j_8:Int)(oK:Int):Option (Bool×List Int):=
 (bif (decide (oK<b_2)) then
  ((idx aC oK).bind fun x20=>
  ((idx aC (IntKind.i64.wrap (oK-1))).bind fun x22=>
  ((dI x20 x22).bind fun r24=>
  (bif (!r24) then
   cE rec1 aC a_1 b_2 i_7 j_8
  else
   ((idx aC (IntKind.i64.wrap (oK-1))).bind fun x26=>
   ((idx aC oK).bind fun x28=>
   ((idx aC oK).bind fun x30=>
   ((stt aC oK x26).bind fun l32=>
   ((idx l32 (IntKind.i64.wrap (oK-1))).bind fun x34=>
   ((stt l32 (IntKind.i64.wrap (oK-1)) x28).bind fun l36=>
   rec3 l36 a_1 b_2 i_7 j_8 (IntKind.i64.wrap (oK+1))))))))))))
 else
  cE rec1 aC a_1 b_2 i_7 j_8)
def dN(rec1:List Int→Int→Int→Int→Int→Option (Bool×List Int)):Nat→List Int→Int→Int→Int→Int→Int→Option (Bool×List Int)
 |0=>fun _ _ _ _ _ _=>none
 |n+1=>iG rec1 (dN rec1 n)
abbrev cW(rec1:List Int→Int→Int→Int→Int→Option (Bool×List Int))(aC:List Int)(a_1:Int)(b_2:Int)(i_7:Int)(j_8:Int):Option (Bool×List Int):=
 (bif (decide (2≤(IntKind.i64.wrap (b_2-i_7)))) then
  dN rec1 aW aC a_1 b_2 i_7 j_8 (IntKind.i64.wrap (i_7+1))
 else
  cE rec1 aC a_1 b_2 i_7 j_8)
def iH(rec1:List Int→Int→Int→Int→Int→Option (Bool×List Int))(rec4:List Int→Int→Int→Int→Int→Int→Option (Bool×List Int))(aC:List Int)(a_1:Int)(b_2:Int)(i_7:Int)(j_8:Int)(j_9:Int):Option (Bool×List Int):=
 (bif (decide (1≤j_9)) then
  ((idx aC j_9).bind fun x38=>
  ((idx aC (IntKind.i64.wrap (j_9-1))).bind fun x40=>
  ((dI x38 x40).bind fun r42=>
  (bif (!r42) then
   cW rec1 aC a_1 b_2 i_7 j_8
  else
   ((idx aC (IntKind.i64.wrap (j_9-1))).bind fun x44=>
   ((idx aC j_9).bind fun x46=>
   ((idx aC j_9).bind fun x48=>
   ((stt aC j_9 x44).bind fun l50=>
   ((idx l50 (IntKind.i64.wrap (j_9-1))).bind fun x52=>
   ((stt l50 (IntKind.i64.wrap (j_9-1)) x46).bind fun l54=>
   rec4 l54 a_1 b_2 i_7 j_8 (IntKind.i64.wrap (j_9-1))))))))))))
 else
  cW rec1 aC a_1 b_2 i_7 j_8)
def dO(rec1:List Int→Int→Int→Int→Int→Option (Bool×List Int)):Nat→List Int→Int→Int→Int→Int→Int→Option (Bool×List Int)
 |0=>fun _ _ _ _ _ _=>none
 |n+1=>iH rec1 (dO rec1 n)
def iF(rec1:List Int→Int→Int→Int→Int→Option (Bool×List Int))(rec2:List Int→Int→Int→Int→Int→Option (Bool×List Int))(aC:List Int)(a_1:Int)(b_2:Int)(i_7:Int)(j_8:Int):Option (Bool×List Int):=
 ((eG ((decide (i_7<b_2))==true) 0 (idx aC i_7)).bind fun x2=>
 ((eG ((decide (i_7<b_2))==true) 0 (idx aC (IntKind.i64.wrap (i_7-1)))).bind fun x4=>
 ((eG ((decide (i_7<b_2))==true) false (dI x2 x4)).bind fun r6=>
 (bif ((decide (i_7<b_2))&&(!r6)) then
  rec2 aC a_1 b_2 (IntKind.i64.wrap (i_7+1)) j_8
 else
  (bif (i_7==b_2) then
   some (true,aC)
  else
   (bif (decide ((IntKind.i64.wrap (b_2-a_1))<50)) then
    some (false,aC)
   else
    ((idx aC (IntKind.i64.wrap (i_7-1))).bind fun x8=>
    ((idx aC i_7).bind fun x10=>
    ((idx aC i_7).bind fun x12=>
    ((stt aC i_7 x8).bind fun l14=>
    ((idx l14 (IntKind.i64.wrap (i_7-1))).bind fun x16=>
    ((stt l14 (IntKind.i64.wrap (i_7-1)) x10).bind fun l18=>
    (bif (decide (2≤(IntKind.i64.wrap (i_7-a_1)))) then
     dO rec1 aW l18 a_1 b_2 i_7 j_8 (IntKind.i64.wrap (i_7-1))
    else
     cW rec1 l18 a_1 b_2 i_7 j_8)))))))))))))
def dM(rec1:List Int→Int→Int→Int→Int→Option (Bool×List Int)):Nat→List Int→Int→Int→Int→Int→Option (Bool×List Int)
 |0=>fun _ _ _ _ _=>none
 |n+1=>iF rec1 (dM rec1 n)
def iE(rec1:List Int→Int→Int→Int→Int→Option (Bool×List Int))(aC:List Int)(a_1:Int)(b_2:Int)(i_7:Int)(j_8:Int):Option (Bool×List Int):=
 (bif (decide (j_8<5)) then
  dM rec1 aW aC a_1 b_2 i_7 j_8
 else
  some (false,aC))
def bR:Nat→List Int→Int→Int→Int→Int→Option (Bool×List Int)
 |0=>fun _ _ _ _ _=>none
 |n+1=>iE (bR n)
def dU(aC:List Int)(a_1:Int)(b_2:Int):Option (Bool×List Int):=
 bR aW aC a_1 b_2 (IntKind.i64.wrap (a_1+1)) 0
instance:FB prog 198:=⟨by kernel_rfl⟩
theorem kQ: ∀ {aC:List Int} {a_1:Int} {b_2:Int},KM prog 198 [.v (.int .i64 a_1),vi b_2] aC (dU aC a_1 b_2) (fun r=>r.2) (fun r=> .v (.bool r.1)):=by
 intro aC a_1 b_2 r hm H i0 he;refine bM 133 func198 he fun h0=>?_
 let I1:=((fun m s=> ∃aC a_1 b_2 i_7 j_8,jM 133 (aF (aF (aF (aF (aF fa 0 (.own i0 0 aC.length)) 1 (vi a_1)) 2 (vi b_2)) 7 (vi i_7)) 8 (vi j_8)) h0 i0 aC (bR m aC a_1 b_2 i_7 j_8) r s):Nat→St→Prop)
 let I2:=fun (n1:Nat)=>((fun m s=> ∃aC a_1 b_2 i_7 j_8,jM 133 (aF (aF (aF (aF (aF fa 0 (.own i0 0 aC.length)) 1 (vi a_1)) 2 (vi b_2)) 7 (vi i_7)) 8 (vi j_8)) h0 i0 aC (dM (bR n1) m aC a_1 b_2 i_7 j_8) r s):Nat→St→Prop)
 let I3:=fun (n1:Nat)=>((fun m s=> ∃aC a_1 b_2 i_7 j_8 j_9,jM 133 (aF (aF (aF (aF (aF (aF fa 0 (.own i0 0 aC.length)) 1 (vi a_1)) 2 (vi b_2)) 7 (vi i_7)) 8 (vi j_8)) 9 (vi j_9)) h0 i0 aC (dO (bR n1) m aC a_1 b_2 i_7 j_8 j_9) r s):Nat→St→Prop)
 let I4:=fun (n1:Nat)=>((fun m s=> ∃aC a_1 b_2 i_7 j_8 oK,jM 133 (aF (aF (aF (aF (aF (aF fa 0 (.own i0 0 aC.length)) 1 (vi a_1)) 2 (vi b_2)) 7 (vi i_7)) 8 (vi j_8)) 10 (vi oK)) h0 i0 aC (dN (bR n1) m aC a_1 b_2 i_7 j_8 oK) r s):Nat→St→Prop)
 exact GM
instance:Ct prog 198 (∀ {aC:List Int} {a_1:Int} {b_2:Int},KM prog 198 [.v (.int .i64 a_1),vi b_2] aC (dU aC a_1 b_2) (fun r=>r.2) (fun r=> .v (.bool r.1))):=⟨kQ⟩
def jI(rec1:List Int→Int→Int→Int→Option (Int×List Int))(rec3:List Int→Int→Int→Int→Option (Int×List Int))(aC:List Int)(a_1:Int)(i_9:Int)(oK:Int):Option (Int×List Int):=
 ((eG ((decide (i_9≤oK))==true) 0 (idx aC a_1)).bind fun x20=>
 ((eG ((decide (i_9≤oK))==true) 0 (idx aC oK)).bind fun x22=>
 ((eG ((decide (i_9≤oK))==true) false (dI x20 x22)).bind fun r24=>
 (bif ((decide (i_9≤oK))&&r24) then
  rec3 aC a_1 i_9 (IntKind.i64.wrap (oK-1))
 else
  (bif (decide (oK<i_9)) then
   some (i_9,aC)
  else
   ((idx aC oK).bind fun x26=>
   ((idx aC i_9).bind fun x28=>
   ((idx aC i_9).bind fun x30=>
   ((stt aC i_9 x26).bind fun l32=>
   ((idx l32 oK).bind fun x34=>
   ((stt l32 oK x28).bind fun l36=>
   rec1 l36 a_1 (IntKind.i64.wrap (i_9+1)) (IntKind.i64.wrap (oK-1)))))))))))))
def eN(rec1:List Int→Int→Int→Int→Option (Int×List Int)):Nat→List Int→Int→Int→Int→Option (Int×List Int)
 |0=>fun _ _ _ _=>none
 |n+1=>jI rec1 (eN rec1 n)
def jH(rec1:List Int→Int→Int→Int→Option (Int×List Int))(rec2:List Int→Int→Int→Int→Option (Int×List Int))(aC:List Int)(a_1:Int)(i_9:Int)(oK:Int):Option (Int×List Int):=
 ((eG ((decide (i_9≤oK))==true) 0 (idx aC a_1)).bind fun x14=>
 ((eG ((decide (i_9≤oK))==true) 0 (idx aC i_9)).bind fun x16=>
 ((eG ((decide (i_9≤oK))==true) false (dI x14 x16)).bind fun r18=>
 (bif ((decide (i_9≤oK))&&(!r18)) then
  rec2 aC a_1 (IntKind.i64.wrap (i_9+1)) oK
 else
  eN rec1 aW aC a_1 i_9 oK))))
def eK(rec1:List Int→Int→Int→Int→Option (Int×List Int)):Nat→List Int→Int→Int→Int→Option (Int×List Int)
 |0=>fun _ _ _ _=>none
 |n+1=>jH rec1 (eK rec1 n)
def jG(rec1:List Int→Int→Int→Int→Option (Int×List Int))(aC:List Int)(a_1:Int)(i_9:Int)(oK:Int):Option (Int×List Int):=
 eK rec1 aW aC a_1 i_9 oK
def cX:Nat→List Int→Int→Int→Int→Option (Int×List Int)
 |0=>fun _ _ _ _=>none
 |n+1=>jG (cX n)
def fC(aC:List Int)(a_1:Int)(b_2:Int)(lM:Int):Option (Int×List Int):=
 ((idx aC lM).bind fun x2=>
 ((idx aC a_1).bind fun x4=>
 ((idx aC a_1).bind fun x6=>
 ((stt aC a_1 x2).bind fun l8=>
 ((idx l8 lM).bind fun x10=>
 ((stt l8 lM x4).bind fun l12=>
 cX aW l12 a_1 (IntKind.i64.wrap (a_1+1)) (IntKind.i64.wrap (b_2-1))))))))
instance:FB prog 200:=⟨by kernel_rfl⟩
theorem mN: ∀ {aC:List Int} {a_1:Int} {b_2:Int} {lM:Int},KM prog 200 [.v (.int .i64 a_1),vi b_2,vi lM] aC (fC aC a_1 b_2 lM) (fun r=>r.2) (fun r=> .v (.int .i64 r.1)):=by
 intro aC a_1 b_2 lM r hm H i0 he;refine bM 84 func200 he fun h0=>?_
 let I1:=((fun m s=> ∃aC a_1 i_9 oK,jM 84 (aF (aF (aF (aF fa 0 (.own i0 0 aC.length)) 1 (vi a_1)) 9 (vi i_9)) 10 (vi oK)) h0 i0 aC (cX m aC a_1 i_9 oK) r s):Nat→St→Prop)
 let I2:=fun (n1:Nat)=>((fun m s=> ∃aC a_1 i_9 oK,jM 84 (aF (aF (aF (aF fa 0 (.own i0 0 aC.length)) 1 (vi a_1)) 9 (vi i_9)) 10 (vi oK)) h0 i0 aC (eK (cX n1) m aC a_1 i_9 oK) r s):Nat→St→Prop)
 let I3:=fun (n1:Nat)=>((fun m s=> ∃aC a_1 i_9 oK,jM 84 (aF (aF (aF (aF fa 0 (.own i0 0 aC.length)) 1 (vi a_1)) 9 (vi i_9)) 10 (vi oK)) h0 i0 aC (eN (cX n1) m aC a_1 i_9 oK) r s):Nat→St→Prop)
 exact GM
instance:Ct prog 200 (∀ {aC:List Int} {a_1:Int} {b_2:Int} {lM:Int},KM prog 200 [.v (.int .i64 a_1),vi b_2,vi lM] aC (fC aC a_1 b_2 lM) (fun r=>r.2) (fun r=> .v (.int .i64 r.1))):=⟨mN⟩
def kW(rec3:List Int→Int→Int→Int→Option (Int×Bool×List Int))(rec5:List Int→Int→Int→Int→Option (Int×Bool×List Int))(aC:List Int)(a_1:Int)(iJ:Int)(iK:Int):Option (Int×Bool×List Int):=
 ((eG ((decide (iJ≤iK))==true) 0 (idx aC iK)).bind fun x56=>
 ((eG ((decide (iJ≤iK))==true) 0 (idx aC a_1)).bind fun x58=>
 ((eG ((decide (iJ≤iK))==true) false (dI x56 x58)).bind fun r60=>
 (bif ((decide (iJ≤iK))&&(!r60)) then
  rec5 aC a_1 iJ (IntKind.i64.wrap (iK-1))
 else
  (bif (decide (iK<iJ)) then
   ((idx aC a_1).bind fun x62=>
   ((idx aC iK).bind fun x64=>
   ((idx aC iK).bind fun x66=>
   ((stt aC iK x62).bind fun l68=>
   ((idx l68 a_1).bind fun x70=>
   ((stt l68 a_1 x64).bind fun l72=>
   some (iK,false,l72)))))))
  else
   ((idx aC iK).bind fun x74=>
   ((idx aC iJ).bind fun x76=>
   ((idx aC iJ).bind fun x78=>
   ((stt aC iJ x74).bind fun l80=>
   ((idx l80 iK).bind fun x82=>
   ((stt l80 iK x76).bind fun l84=>
   rec3 l84 a_1 (IntKind.i64.wrap (iJ+1)) (IntKind.i64.wrap (iK-1)))))))))))))
def gG(rec3:List Int→Int→Int→Int→Option (Int×Bool×List Int)):Nat→List Int→Int→Int→Int→Option (Int×Bool×List Int)
 |0=>fun _ _ _ _=>none
 |n+1=>kW rec3 (gG rec3 n)
def kV(rec3:List Int→Int→Int→Int→Option (Int×Bool×List Int))(rec4:List Int→Int→Int→Int→Option (Int×Bool×List Int))(aC:List Int)(a_1:Int)(iJ:Int)(iK:Int):Option (Int×Bool×List Int):=
 ((eG ((decide (iJ≤iK))==true) 0 (idx aC iJ)).bind fun x50=>
 ((eG ((decide (iJ≤iK))==true) 0 (idx aC a_1)).bind fun x52=>
 ((eG ((decide (iJ≤iK))==true) false (dI x50 x52)).bind fun r54=>
 (bif ((decide (iJ≤iK))&&r54) then
  rec4 aC a_1 (IntKind.i64.wrap (iJ+1)) iK
 else
  gG rec3 aW aC a_1 iJ iK))))
def gF(rec3:List Int→Int→Int→Int→Option (Int×Bool×List Int)):Nat→List Int→Int→Int→Int→Option (Int×Bool×List Int)
 |0=>fun _ _ _ _=>none
 |n+1=>kV rec3 (gF rec3 n)
def kU(rec3:List Int→Int→Int→Int→Option (Int×Bool×List Int))(aC:List Int)(a_1:Int)(iJ:Int)(iK:Int):Option (Int×Bool×List Int):=
 gF rec3 aW aC a_1 iJ iK
def dV:Nat→List Int→Int→Int→Int→Option (Int×Bool×List Int)
 |0=>fun _ _ _ _=>none
 |n+1=>kU (dV n)
def kT(rec2:List Int→Int→Int→Int→Option (Int×Bool×List Int))(aC:List Int)(a_1:Int)(iJ:Int)(iK:Int):Option (Int×Bool×List Int):=
 ((eG ((decide (iJ≤iK))==true) 0 (idx aC iK)).bind fun x20=>
 ((eG ((decide (iJ≤iK))==true) 0 (idx aC a_1)).bind fun x22=>
 ((eG ((decide (iJ≤iK))==true) false (dI x20 x22)).bind fun r24=>
 (bif ((decide (iJ≤iK))&&(!r24)) then
  rec2 aC a_1 iJ (IntKind.i64.wrap (iK-1))
 else
  (bif (decide (iK<iJ)) then
   ((idx aC a_1).bind fun x26=>
   ((idx aC iK).bind fun x28=>
   ((idx aC iK).bind fun x30=>
   ((stt aC iK x26).bind fun l32=>
   ((idx l32 a_1).bind fun x34=>
   ((stt l32 a_1 x28).bind fun l36=>
   some (iK,true,l36)))))))
  else
   ((idx aC iK).bind fun x38=>
   ((idx aC iJ).bind fun x40=>
   ((idx aC iJ).bind fun x42=>
   ((stt aC iJ x38).bind fun l44=>
   ((idx l44 iK).bind fun x46=>
   ((stt l44 iK x40).bind fun l48=>
   dV aW l48 a_1 (IntKind.i64.wrap (iJ+1)) (IntKind.i64.wrap (iK-1)))))))))))))
def gD:Nat→List Int→Int→Int→Int→Option (Int×Bool×List Int)
 |0=>fun _ _ _ _=>none
 |n+1=>kT (gD n)
def kS(rec1:List Int→Int→Int→Int→Option (Int×Bool×List Int))(aC:List Int)(a_1:Int)(iJ:Int)(iK:Int):Option (Int×Bool×List Int):=
 ((eG ((decide (iJ≤iK))==true) 0 (idx aC iJ)).bind fun x14=>
 ((eG ((decide (iJ≤iK))==true) 0 (idx aC a_1)).bind fun x16=>
 ((eG ((decide (iJ≤iK))==true) false (dI x14 x16)).bind fun r18=>
 (bif ((decide (iJ≤iK))&&r18) then
  rec1 aC a_1 (IntKind.i64.wrap (iJ+1)) iK
 else
  gD aW aC a_1 iJ iK))))
def fZ:Nat→List Int→Int→Int→Int→Option (Int×Bool×List Int)
 |0=>fun _ _ _ _=>none
 |n+1=>kS (fZ n)
def gS(aC:List Int)(a_1:Int)(b_2:Int)(lM:Int):Option (Int×Bool×List Int):=
 ((idx aC lM).bind fun x2=>
 ((idx aC a_1).bind fun x4=>
 ((idx aC a_1).bind fun x6=>
 ((stt aC a_1 x2).bind fun l8=>
 ((idx l8 lM).bind fun x10=>
 ((stt l8 lM x4).bind fun l12=>
 fZ aW l12 a_1 (IntKind.i64.wrap (a_1+1)) (IntKind.i64.wrap (b_2-1))))))))
instance:FB prog 201:=⟨by kernel_rfl⟩
theorem qD: ∀ {aC:List Int} {a_1:Int} {b_2:Int} {lM:Int},KM prog 201 [.v (.int .i64 a_1),vi b_2,vi lM] aC (gS aC a_1 b_2 lM) (fun r=>r.2.2) (fun r=> .tup [vi r.1,vb r.2.1]):=by
 intro aC a_1 b_2 lM r hm H i0 he;refine bM 168 func201 he fun h0=>?_
 let I1:=((fun m s=> ∃aC a_1 iJ iK,jM 168 (aF (aF (aF (aF fa 0 (.own i0 0 aC.length)) 1 (vi a_1)) 10 (vi iJ)) 11 (vi iK)) h0 i0 aC (fZ m aC a_1 iJ iK) r s):Nat→St→Prop)
 let I2:=((fun m s=> ∃aC a_1 iJ iK,jM 168 (aF (aF (aF (aF fa 0 (.own i0 0 aC.length)) 1 (vi a_1)) 10 (vi iJ)) 11 (vi iK)) h0 i0 aC (gD m aC a_1 iJ iK) r s):Nat→St→Prop)
 let I3:=((fun m s=> ∃aC a_1 iJ iK,jM 168 (aF (aF (aF (aF fa 0 (.own i0 0 aC.length)) 1 (vi a_1)) 10 (vi iJ)) 11 (vi iK)) h0 i0 aC (dV m aC a_1 iJ iK) r s):Nat→St→Prop)
 let I4:=fun (n3:Nat)=>((fun m s=> ∃aC a_1 iJ iK,jM 168 (aF (aF (aF (aF fa 0 (.own i0 0 aC.length)) 1 (vi a_1)) 10 (vi iJ)) 11 (vi iK)) h0 i0 aC (gF (dV n3) m aC a_1 iJ iK) r s):Nat→St→Prop)
 let I5:=fun (n3:Nat)=>((fun m s=> ∃aC a_1 iJ iK,jM 168 (aF (aF (aF (aF fa 0 (.own i0 0 aC.length)) 1 (vi a_1)) 10 (vi iJ)) 11 (vi iK)) h0 i0 aC (gG (dV n3) m aC a_1 iJ iK) r s):Nat→St→Prop)
 exact GM
instance:Ct prog 201 (∀ {aC:List Int} {a_1:Int} {b_2:Int} {lM:Int},KM prog 201 [.v (.int .i64 a_1),vi b_2,vi lM] aC (gS aC a_1 b_2 lM) (fun r=>r.2.2) (fun r=> .tup [vi r.1,vb r.2.1])):=⟨qD⟩
abbrev fN(recf:(List Int)→Int→Int→Int→Option (List Int))(rec1:List Int→Int→Int→Int→Bool→Bool→Option (List Int))(aC:List Int)(a_1:Int)(b_2:Int)(cQ:Int)(bL:Bool)(bD:Bool)(fJ:Int)(mA:Int):Option (List Int):=
 ((eG ((decide (0<a_1))==true) 0 (idx aC (IntKind.i64.wrap (a_1-1)))).bind fun x9=>
 ((eG ((decide (0<a_1))==true) 0 (idx aC mA)).bind fun x11=>
 ((eG ((decide (0<a_1))==true) false (dI x9 x11)).bind fun r13=>
 (bif ((decide (0<a_1))&&(!r13)) then
  ((aAb (fun x=>x.2.length) aC.length (fC aC a_1 b_2 mA)).bind fun ⟨r16,l15⟩=>
  rec1 l15 r16 b_2 cQ bL bD)
 else
  ((aAb (fun x=>x.2.2.length) aC.length (gS aC a_1 b_2 mA)).bind fun ⟨r19,r20,l18⟩=>
  (bif (decide ((IntKind.i64.wrap (r19-a_1))<(IntKind.i64.wrap (b_2-r19)))) then
   ((aAb (fun x=>x.length) l18.length (recf l18 a_1 r19 cQ)).bind fun l22=>
   rec1 l22 (IntKind.i64.wrap (r19+1)) b_2 cQ (decide ((IntKind.i64.wrap (Int.tdiv fJ 8))≤(IntKind.i64.wrap (r19-a_1)))) r20)
  else
   ((aAb (fun x=>x.length) l18.length (recf l18 (IntKind.i64.wrap (r19+1)) b_2 cQ)).bind fun l24=>
   rec1 l24 a_1 r19 cQ (decide ((IntKind.i64.wrap (Int.tdiv fJ 8))≤(IntKind.i64.wrap (b_2-r19)))) r20)))))))
abbrev fL(recf:(List Int)→Int→Int→Int→Option (List Int))(rec1:List Int→Int→Int→Int→Bool→Bool→Option (List Int))(aC:List Int)(a_1:Int)(b_2:Int)(cQ:Int)(bL:Bool)(bD:Bool)(fJ:Int)(mA:Int)(aN8:Int):Option (List Int):=
 (bif ((bL&&bD)&&(aN8==1)) then
  ((aAb (fun x=>x.2.length) aC.length (dU aC a_1 b_2)).bind fun ⟨r27,l26⟩=>
  (bif r27 then
   some l26
  else
   fN recf rec1 l26 a_1 b_2 cQ bL bD fJ mA))
 else
  fN recf rec1 aC a_1 b_2 cQ bL bD fJ mA)
abbrev fK(recf:(List Int)→Int→Int→Int→Option (List Int))(rec1:List Int→Int→Int→Int→Bool→Bool→Option (List Int))(aC:List Int)(a_1:Int)(b_2:Int)(cQ:Int)(bL:Bool)(bD:Bool)(fJ:Int):Option (List Int):=
 ((fV aC a_1 b_2).bind fun ⟨r6,r7⟩=>
 (bif (r7==2) then
  ((aAb (fun x=>x.length) aC.length (fR aC a_1 b_2)).bind fun l29=>
  fL recf rec1 l29 a_1 b_2 cQ bL bD fJ (IntKind.i64.wrap ((IntKind.i64.wrap (b_2-1))-(IntKind.i64.wrap (r6-a_1)))) 1)
 else
  fL recf rec1 aC a_1 b_2 cQ bL bD fJ r6 r7))
def iC(recf:(List Int)→Int→Int→Int→Option (List Int))(rec1:List Int→Int→Int→Int→Bool→Bool→Option (List Int))(aC:List Int)(a_1:Int)(b_2:Int)(cQ:Int)(bL:Bool)(bD:Bool):Option (List Int):=
 (bif (decide ((IntKind.i64.wrap (b_2-a_1))≤12)) then
  ((aAb (fun x=>x.length) aC.length (fG aC a_1 b_2)).bind fun l2=>
  some l2)
 else
  (bif (cQ==0) then
   ((aAb (fun x=>x.length) aC.length (iB aC a_1 b_2)).bind fun l4=>
   some l4)
  else
   (bif (!bL) then
    ((aAb (fun x=>x.length) aC.length (fF aC a_1 b_2)).bind fun l31=>
    fK recf rec1 l31 a_1 b_2 (IntKind.i64.wrap (cQ-1)) bL bD (IntKind.i64.wrap (b_2-a_1)))
   else
    fK recf rec1 aC a_1 b_2 cQ bL bD (IntKind.i64.wrap (b_2-a_1)))))
def bO(recf:(List Int)→Int→Int→Int→Option (List Int)):Nat→List Int→Int→Int→Int→Bool→Bool→Option (List Int)
 |0=>fun _ _ _ _ _ _=>none
 |n+1=>iC recf (bO recf n)
def lX(recf:(List Int)→Int→Int→Int→Option (List Int))(aC:List Int)(a_1:Int)(b_2:Int)(cQ:Int):Option (List Int):=
 bO recf aW aC a_1 b_2 cQ true true
def bJ:Nat→(List Int)→Int→Int→Int→Option (List Int)
 |0=>fun _ _ _ _=>none
 |n+1=>lX (bJ n)
def rL(aC:List Int)(a_1:Int)(b_2:Int)(cQ:Int):Option (List Int):=bJ aW aC a_1 b_2 cQ
theorem aBy: ∀(nn:Nat) {aC:List Int} {a_1:Int} {b_2:Int} {cQ:Int} {r:List Int} (hm:bJ nn aC a_1 b_2 cQ=some r) {H:aG} {i0:Nat} (he:H.ent i0= .cells 1 (aC.flatMap (ci .u64)) 0) (hk: ∀id,3000000≤id→H.ent id= .fresh) (hD: ∀id,aFg (H.ent id)) (hi:i0<3000000),eQ prog 159 [.own i0 0 aC.length,.v (.int .i64 a_1),.v (.int .i64 b_2),.v (.int .i64 cQ)] H (.tup []) (H.put i0 (.cells 1 (r.flatMap (ci .u64)) 0)):=by
 intro nn
 induction nn with
 |zero=>
  intro aC a_1 b_2 cQ r hm;replace hm:none=some r:=hm;cases hm
 |succ nn ih=>
  intro aC a_1 b_2 cQ r hm H i0 he hk hD hi;replace hm:lX (bJ nn) aC a_1 b_2 cQ=some r:=hm;refine eQ.of_bodyK func159 rfl he hk ?_;clear he;generalize H.ent=h0 at hk hD⊢;have hne1: ∀ {k:Nat},3000000≤k→(k==i0)=false:=fun hh=>by simp;omega
  have hne2: ∀ {k:Nat},3000000≤k→(i0==k)=false:=fun hh=>by simp;omega
  simp only [ntmps159,List.length_cons,List.length_nil,Nat.reduceAdd,Nat.reduceSub];unfold lX at hm;refine AWp.behind ?_;refine sN 3000064 (pA ?_);refine fs (sN 3000128 (pA ?_));refine fs (AWp.block (AWp.loopM (fun m s=> ∃(aC:List Int) (a_1:Int) (b_2:Int) (cQ:Int) (bL:Bool) (bD:Bool),s=(⟨134,(aF (aF (aF (aF (aF (aF (fun _=>AV.any) 0 (.own i0 0 aC.length)) 1 (.v (.int .i64 a_1))) 2 (.v (.int .i64 b_2))) 3 (.v (.int .i64 cQ))) 8 (.v (.bool bL))) 9 (.v (.bool bD))),⟨(upd h0 i0 (.cells 1 (aC.flatMap (ci .u64)) 0)),64⟩⟩:St)∧bO (bJ nn) m aC a_1 b_2 cQ bL bD=some r) aW ?_ ?_ ?_))
  · rintro s ⟨_,_,_,_,_,_,_,h⟩;cases h
  · refine ⟨_,?_,aC,a_1,b_2,cQ,true,true,rfl,hm⟩;exact sF (aZ 9 _ Z1 (aZ 8 _ Z1 (aZ 3 _ Z1 (aZ 2 _ Z1 (aZ 1 _ Z1 (aZ 0 _ (sG Z1 Z6) nG)))))) Zi
  ·
   rintro n1 s ⟨aC,a_1,b_2,cQ,bL,bD,rfl,hm⟩;replace hm:iC (bJ nn) (bO (bJ nn) n1) aC a_1 b_2 cQ bL bD=some r:=hm;unfold iC at hm;refine AWp.block (sN 128 ?_)
   iterate 4 refine pA ?_
   refine fs (AWp.seq' (sN 192 ?_))
   iterate 2 refine pA ?_
   refine fs (AWp.condM hm Z1 (fun _ hm=>?_) (fun _ hm=>?_))
   ·
    refine sN 256 ?_
    iterate 3 refine pA ?_
    obtain ⟨l2,h1,hm⟩:=bnd hm;have qh1:=aAr h1;refine aR.callM Zd Z1 cA7 ?_ (nB (zJ h1) (i0:=i0) Ze) ?_
    ·
     try simp only [go_sem,Nat.reduceBEq]
     first|done|rfl|(congr 2<;>omega)
    refine fs (AWp.ret (jF (sK (sL (sK ?_)))));cases hm;exact aWe (.inr rfl) Tryz.results159 (by intro q hq;simp only [upd];all_goals ((repeat' split)<;>first|rfl|omega)) (fun q hq=>by rw [upd_ne _ _ _ _ om];exact hk q hq) (sS (aIf (CFi .u64)) hD)
   ·
    refine AWp.skip (bQ (AWp.seq' (sN 256 ?_)))
    iterate 2 refine pA ?_
    refine fs (AWp.condM hm Z1 (fun _ hm=>?_) (fun _ hm=>?_))
    ·
     refine sN 320 ?_
     iterate 3 refine pA ?_
     obtain ⟨l4,h3,hm⟩:=bnd hm;have qh3:=aAr h3;refine aR.callM Zd Z1 cA8 ?_ (qK (zJ h3) (i0:=i0) Ze) ?_
     ·
      try simp only [go_sem,Nat.reduceBEq]
      first|done|rfl|(congr 2<;>omega)
     refine fs (AWp.ret (jF (sK (sL (sK ?_)))));cases hm;exact aWe (.inr rfl) Tryz.results159 (by intro q hq;simp only [upd];all_goals ((repeat' split)<;>first|rfl|omega)) (fun q hq=>by rw [upd_ne _ _ _ _ om];exact hk q hq) (sS (aIf (CFi .u64)) hD)
    ·
     refine AWp.skip (bQ (AWp.seqJ (fun s=> ∃(aC:List Int) (a_1:Int) (b_2:Int) (cQ:Int) (bL:Bool) (bD:Bool) (fJ:Int),s=(⟨134,(aF (aF (aF (aF (aF (aF (aF (fun _=>AV.any) 0 (.own i0 0 aC.length)) 1 (.v (.int .i64 a_1))) 2 (.v (.int .i64 b_2))) 3 (.v (.int .i64 cQ))) 8 (.v (.bool bL))) 9 (.v (.bool bD))) 10 (.v (.int .i64 fJ))),⟨(upd h0 i0 (.cells 1 (aC.flatMap (ci .u64)) 0)),64⟩⟩:St)∧fK (bJ nn) (bO (bJ nn) n1) aC a_1 b_2 cQ bL bD fJ=some r) ?_ ?_))
     ·
      refine sN 320 ?_
      iterate 2 refine pA ?_
      refine fs (AWp.condM hm Z1 (fun _ hm=>?_) (fun _ hm=>?_))
      ·
       refine sN 384 ?_
       iterate 3 refine pA ?_
       obtain ⟨l31,h30,hm⟩:=bnd hm;have qh30:=aAr h30;refine aR.callM Zd Z1 cA9 ?_ (xH (zJ h30) (i0:=i0) Ze (fun q hq=>by simp only [upd_ne _ _ _ _ (show q≠i0 by omega)];exact hk q hq) (by (repeat (first|exact hD|refine sS (aIf (CFi .u64)) ?_))) hi) ?_
       ·
        try simp only [go_sem,Nat.reduceBEq]
        first|done|rfl|(congr 2<;>omega)
       refine fs (AWp.reg 64 (N':=448) rfl ?_)
       iterate 3 refine pA ?_
       refine aR.fin (pH ?_);refine ⟨_,?_,l31,a_1,b_2,(IntKind.i64.wrap (cQ-1)),bL,bD,(IntKind.i64.wrap (b_2-a_1)),rfl,hm⟩;exact sF (aZ 10 _ Z1 (aZ 9 _ Z1 (aZ 8 _ Z1 (aZ 3 _ Z1 (aZ 2 _ Z1 (aZ 1 _ Z1 (aZ 0 _ (sG Z1 Z6) nG))))))) Zi
      · refine AWp.skip (pH ?_);refine ⟨_,?_,aC,a_1,b_2,cQ,bL,bD,(IntKind.i64.wrap (b_2-a_1)),rfl,hm⟩;exact sF (aZ 10 _ Z1 (aZ 9 _ Z1 (aZ 8 _ Z1 (aZ 3 _ Z1 (aZ 2 _ Z1 (aZ 1 _ Z1 (aZ 0 _ (sG Z1 Z6) nG))))))) Zi
     ·
      rintro s ⟨aC,a_1,b_2,cQ,bL,bD,fJ,rfl,hm⟩;unfold fK at hm;refine sN 128 ?_
      iterate 3 refine pA ?_
      obtain ⟨⟨r6,r7⟩,h5,hm⟩:=bnd hm;refine aR.callB (r:= .tup [.v (.int .i64 r6),.v (.int .i64 r7)]) Zd Z1 cAa (.cons (lto (CFi .u64) Z1 Ze Z6) (.cons (ltd fun H=>(td Z1 (.v _))) (.cons (ltd fun H=>(td Z1 (.v _))) aU6.nil))) cBr (nY h5) ?_
      iterate 5 refine pA ?_
      refine fs (AWp.seqJ (fun s=> ∃(aC:List Int) (a_1:Int) (b_2:Int) (cQ:Int) (bL:Bool) (bD:Bool) (fJ:Int) (mA:Int) (aN8:Int),s=(⟨134,(aF (aF (aF (aF (aF (aF (aF (aF (aF (fun _=>AV.any) 0 (.own i0 0 aC.length)) 1 (.v (.int .i64 a_1))) 2 (.v (.int .i64 b_2))) 3 (.v (.int .i64 cQ))) 8 (.v (.bool bL))) 9 (.v (.bool bD))) 10 (.v (.int .i64 fJ))) 11 (.v (.int .i64 mA))) 12 (.v (.int .i64 aN8))),⟨(upd h0 i0 (.cells 1 (aC.flatMap (ci .u64)) 0)),64⟩⟩:St)∧fL (bJ nn) (bO (bJ nn) n1) aC a_1 b_2 cQ bL bD fJ mA aN8=some r) ?_ ?_)
      ·
       refine sN 192 ?_
       iterate 2 refine pA ?_
       refine fs (AWp.condM hm Z1 (fun _ hm=>?_) (fun _ hm=>?_))
       ·
        refine sN 256 ?_
        iterate 3 refine pA ?_
        obtain ⟨l29,h28,hm⟩:=bnd hm;have qh28:=aAr h28;refine aR.callM Zd Z1 cAb ?_ (nJ (zJ h28) (i0:=i0) Ze) ?_
        ·
         try simp only [go_sem,Nat.reduceBEq]
         first|done|rfl|(congr 2<;>omega)
        refine fs (sN 320 ?_)
        iterate 7 refine pA ?_
        refine fs (AWp.reg 64 (N':=384) rfl ?_);refine pA ?_;refine aR.fin (pH ?_);refine ⟨_,?_,l29,a_1,b_2,cQ,bL,bD,fJ,(IntKind.i64.wrap ((IntKind.i64.wrap (b_2-1))-(IntKind.i64.wrap (r6-a_1)))),1,rfl,hm⟩;exact sF (aZ 12 _ Z1 (aZ 11 _ Z1 (aZ 10 _ Z1 (aZ 9 _ Z1 (aZ 8 _ Z1 (aZ 3 _ Z1 (aZ 2 _ Z1 (aZ 1 _ Z1 (aZ 0 _ (sG Z1 Z6) nG))))))))) Zi
       · refine AWp.skip (pH ?_);refine ⟨_,?_,aC,a_1,b_2,cQ,bL,bD,fJ,r6,r7,rfl,hm⟩;exact sF (aZ 12 _ Z1 (aZ 11 _ Z1 (aZ 10 _ Z1 (aZ 9 _ Z1 (aZ 8 _ Z1 (aZ 3 _ Z1 (aZ 2 _ Z1 (aZ 1 _ Z1 (aZ 0 _ (sG Z1 Z6) nG))))))))) Zi
      ·
       rintro s ⟨aC,a_1,b_2,cQ,bL,bD,fJ,mA,aN8,rfl,hm⟩;unfold fL at hm;refine AWp.seqJ (fun s=> ∃(aC:List Int) (a_1:Int) (b_2:Int) (cQ:Int) (bL:Bool) (bD:Bool) (fJ:Int) (mA:Int),s=(⟨134,(aF (aF (aF (aF (aF (aF (aF (aF (fun _=>AV.any) 0 (.own i0 0 aC.length)) 1 (.v (.int .i64 a_1))) 2 (.v (.int .i64 b_2))) 3 (.v (.int .i64 cQ))) 8 (.v (.bool bL))) 9 (.v (.bool bD))) 10 (.v (.int .i64 fJ))) 11 (.v (.int .i64 mA))),⟨(upd h0 i0 (.cells 1 (aC.flatMap (ci .u64)) 0)),64⟩⟩:St)∧fN (bJ nn) (bO (bJ nn) n1) aC a_1 b_2 cQ bL bD fJ mA=some r) ?_ ?_
       ·
        refine sN 128 ?_
        iterate 8 first|refine pA ?_|refine pB ?_
        refine fs (AWp.condM hm Z1 (fun _ hm=>?_) (fun _ hm=>?_))
        ·
         refine sN 192 ?_
         iterate 3 refine pA ?_
         obtain ⟨⟨r27,l26⟩,h25,hm⟩:=bnd hm;have qh25:=aAr h25;dsimp only at qh25;refine aR.callM Zd Z1 cAc ?_ (kQ (zJ h25) (i0:=i0) Ze) ?_
         ·
          try simp only [go_sem,Nat.reduceBEq]
          first|done|rfl|(congr 2<;>omega)
         refine fs (AWp.condM hm Z1 (fun _ hm=>?_) (fun _ hm=>?_))
         · refine AWp.ret (bC9 (sK (sL (sK ?_))));cases hm;exact aWe (.inr rfl) Tryz.results159 (by intro q hq;simp only [upd];all_goals ((repeat' split)<;>first|rfl|omega)) (fun q hq=>by rw [upd_ne _ _ _ _ om];exact hk q hq) (sS (aIf (CFi .u64)) hD)
         · refine AWp.skip (pH ?_);refine ⟨_,?_,l26,a_1,b_2,cQ,bL,bD,fJ,mA,rfl,hm⟩;exact sF (aZ 11 _ Z1 (aZ 10 _ Z1 (aZ 9 _ Z1 (aZ 8 _ Z1 (aZ 3 _ Z1 (aZ 2 _ Z1 (aZ 1 _ Z1 (aZ 0 _ (sG Z1 Z6) nG)))))))) Zi
        · refine AWp.skip (pH ?_);refine ⟨_,?_,aC,a_1,b_2,cQ,bL,bD,fJ,mA,rfl,hm⟩;exact sF (aZ 11 _ Z1 (aZ 10 _ Z1 (aZ 9 _ Z1 (aZ 8 _ Z1 (aZ 3 _ Z1 (aZ 2 _ Z1 (aZ 1 _ Z1 (aZ 0 _ (sG Z1 Z6) nG)))))))) Zi
       ·
        rintro s ⟨aC,a_1,b_2,cQ,bL,bD,fJ,mA,rfl,hm⟩;unfold fN at hm;refine AWp.seq' (sd mix (by kernel_rfl) (N':=128) rfl ?_)
        iterate 6 first|refine pA ?_|refine pB ?_
        obtain ⟨x9,h8,hm⟩:=bnd hm;refine pg rfl rfl Z2 (fun hb=>(iY underlying24 aO1 (Zh hb) Ze Z6 (Zh hb) (kR h8 hb))) ?_;refine pg rfl rfl Z2 (fun hb=>(aAf (CFi .u64) (Zh hb) Ze (kR h8 hb) Zb)) ?_
        iterate 2 refine pB ?_
        obtain ⟨x11,h10,hm⟩:=bnd hm;refine pg rfl rfl Z2 (fun hb=>(iY underlying24 aO1 (Zh hb) Ze Z6 (Zh hb) (kR h10 hb))) ?_;refine pg rfl rfl Z2 (fun hb=>(aAf (CFi .u64) (Zh hb) Ze (kR h10 hb) Zb)) ?_;obtain ⟨r13,h12,hm⟩:=bnd hm;refine aR.callQG (r:= .v (.bool r13)) Zd rfl Z2 Z1 bWb (fun hb H=>(.cons (td (Zh hb) (.v _)) (.cons (td (Zh hb) (.v _)) .nil))) (fun hb=>aC7 (kR h12 hb)) ?_
        iterate 2 first|refine pA ?_|refine pB ?_
        refine fs (AWp.condM hm Z1 (fun _ hm=>?_) (fun _ hm=>?_))
        ·
         refine sN 192 ?_
         iterate 4 refine pA ?_
         obtain ⟨⟨r16,l15⟩,h14,hm⟩:=bnd hm;have qh14:=aAr h14;dsimp only at qh14;refine aR.callM Zd Z1 cAd ?_ (mN (zJ h14) (i0:=i0) Ze) ?_
         ·
          try simp only [go_sem,Nat.reduceBEq]
          first|done|rfl|(congr 2<;>omega)
         refine pA ?_;refine fs (sN 256 ?_)
         iterate 2 refine pA ?_
         refine fs (AWp.exit (kH (iT (iA ?_))));refine ⟨_,?_,l15,r16,b_2,cQ,bL,bD,rfl,hm⟩;exact sF (aZ 9 _ Z1 (aZ 8 _ Z1 (aZ 3 _ Z1 (aZ 2 _ Z1 (aZ 1 _ Z1 (aZ 0 _ (sG Z1 Z6) nG)))))) Zi
        ·
         refine AWp.skip (bQ (sN 192 ?_))
         iterate 4 refine pA ?_
         obtain ⟨⟨r19,r20,l18⟩,h17,hm⟩:=bnd hm;have qh17:=aAr h17;dsimp only at qh17;refine aR.callM Zd Z1 cAe ?_ (qD (zJ h17) (i0:=i0) Ze) ?_
         ·
          try simp only [go_sem,Nat.reduceBEq]
          first|done|rfl|(congr 2<;>omega)
         iterate 5 refine pA ?_
         refine fs (sN 256 ?_)
         iterate 2 refine pA ?_
         refine fs (sN 320 ?_)
         iterate 8 refine pA ?_
         refine fs (sN 384 ?_)
         iterate 3 refine pu rfl Zj ?_
         refine fs (sN 448 ?_)
         iterate 3 refine pA ?_
         refine fs (AWp.condM hm Z1 (fun _ hm=>?_) (fun _ hm=>?_))
         ·
          refine sN 512 ?_
          iterate 4 refine pA ?_
          refine fs (sN 576 ?_)
          iterate 4 refine pA ?_
          obtain ⟨l22,h21,hm⟩:=bnd hm;have qh21:=aAr h21;refine aR.callM Zd Z1 bO7 ?_ (ih (zJ h21) (i0:=i0) Ze (fun q hq=>by simp only [upd_ne _ _ _ _ (show q≠i0 by omega)];exact hk q hq) (by (repeat (first|exact hD|refine sS (aIf (CFi .u64)) ?_))) hi) ?_
          ·
           try simp only [go_sem,Nat.reduceBEq]
           first|done|rfl|(congr 2<;>omega)
          refine fs (AWp.reg 64 (N':=640) rfl ?_)
          iterate 3 refine pA ?_
          refine aR.fin (jT (iA ?_));refine ⟨_,?_,l22,(IntKind.i64.wrap (r19+1)),b_2,cQ,(decide ((IntKind.i64.wrap (Int.tdiv fJ 8))≤(IntKind.i64.wrap (r19-a_1)))),r20,rfl,hm⟩;exact sF (aZ 9 _ Z1 (aZ 8 _ Z1 (aZ 3 _ Z1 (aZ 2 _ Z1 (aZ 1 _ Z1 (aZ 0 _ (sG Z1 Z6) nG)))))) Zi
         ·
          refine sN 512 ?_
          iterate 4 refine pA ?_
          refine fs (sN 576 ?_)
          iterate 5 refine pA ?_
          obtain ⟨l24,h23,hm⟩:=bnd hm;have qh23:=aAr h23;refine aR.callM Zd Z1 bO7 ?_ (ih (zJ h23) (i0:=i0) Ze (fun q hq=>by simp only [upd_ne _ _ _ _ (show q≠i0 by omega)];exact hk q hq) (by (repeat (first|exact hD|refine sS (aIf (CFi .u64)) ?_))) hi) ?_
          ·
           try simp only [go_sem,Nat.reduceBEq]
           first|done|rfl|(congr 2<;>omega)
          refine fs (AWp.reg 64 (N':=640) rfl ?_)
          iterate 2 refine pA ?_
          refine aR.fin (jT (iA ?_));refine ⟨_,?_,l24,a_1,r19,cQ,(decide ((IntKind.i64.wrap (Int.tdiv fJ 8))≤(IntKind.i64.wrap (b_2-r19)))),r20,rfl,hm⟩;exact sF (aZ 9 _ Z1 (aZ 8 _ Z1 (aZ 3 _ Z1 (aZ 2 _ Z1 (aZ 1 _ Z1 (aZ 0 _ (sG Z1 Z6) nG)))))) Zi
theorem aCj{aC:List Int}{a_1:Int}{b_2:Int}{cQ:Int}{r:List Int}(hm:rL aC a_1 b_2 cQ=some r){H:aG}{i0:Nat}(he:H.ent i0= .cells 1 (aC.flatMap (ci .u64)) 0)(hk: ∀id,3000000≤id→H.ent id= .fresh)(hD: ∀id,aFg (H.ent id))(hi:i0<3000000):eQ prog 159 [.own i0 0 aC.length,.v (.int .i64 a_1),.v (.int .i64 b_2),.v (.int .i64 cQ)] H (.tup []) (H.put i0 (.cells 1 (r.flatMap (ci .u64)) 0)):=aBy aW hm he hk hD hi
def lJ(x_0:List Int):Option (List Int):=
 ((xL (IntKind.u64.wrap (x_0.length:Int))).bind fun r2=>
 ((aAb (fun x=>x.length) x_0.length (rL x_0 0 (x_0.length:Int) r2)).bind fun l4=>
 some l4))
theorem aMg{x_0:List Int}{r:List Int}(hm:lJ x_0=some r){H:aG}{i0:Nat}(he:H.ent i0= .cells 1 (x_0.flatMap (ci .u64)) 0)(hk: ∀id,3000000≤id→H.ent id= .fresh)(hD: ∀id,aFg (H.ent id))(hi:i0<3000000):eQ prog 121 [.own i0 0 x_0.length] H (.tup []) (H.put i0 (.cells 1 (r.flatMap (ci .u64)) 0)):=by
 refine eQ.of_bodyK func121 rfl he hk ?_;clear he;generalize H.ent=h0 at hk hD⊢;have hne1: ∀ {k:Nat},3000000≤k→(k==i0)=false:=fun hh=>by simp;omega
 have hne2: ∀ {k:Nat},3000000≤k→(i0==k)=false:=fun hh=>by simp;omega
 simp only [ntmps121,List.length_cons,List.length_nil,Nat.reduceAdd,Nat.reduceSub];unfold lJ at hm;refine AWp.behind ?_;refine sN 3000064 ?_
 iterate 3 refine pA ?_
 refine fs (AWp.reg 64 (N':=3000128) rfl ?_)
 iterate 4 refine pA ?_
 obtain ⟨r2,h1,hm⟩:=bnd hm;refine aR.callQ (r:= .v (.int .i64 r2)) Zd Z1 cA5 (fun H=>(cV .nil)) (aVk h1) ?_;obtain ⟨l4,h3,hm⟩:=bnd hm;have qh3:=aAr h3;refine aR.callM Zd Z1 bO7 ?_ (aCj (zJ h3) (i0:=i0) Ze (fun q hq=>by simp only [upd_ne _ _ _ _ (show q≠i0 by omega)];exact hk q hq) (by (repeat (first|exact hD|refine sS (aIf (CFi .u64)) ?_))) hi) ?_
 ·
  try simp only [go_sem,Nat.reduceBEq]
  first|done|rfl|(congr 2<;>omega)
 refine aR.fin ?_;cases hm;exact aWe (.inl rfl) Tryz.results121 (by intro q hq;simp only [upd];all_goals ((repeat' split)<;>first|rfl|omega)) (fun q hq=>by rw [upd_ne _ _ _ _ om];exact hk q hq) (sS (aIf (CFi .u64)) hD)
abbrev aCr(rec1:aD→List Int→List Int→Int→Int→Option ((List Int)))(s_2:aD)(kD:List Int)(t8:List Int)(t9:Int)(t10:Int):Option ((List Int)):=
 rec1 s_2 kD t8 t9 (IntKind.i64.wrap (t10+1))
def aHc(rec1:aD→List Int→List Int→Int→Int→Option ((List Int)))(s_2:aD)(kD:List Int)(t8:List Int)(t9:Int)(t10:Int):Option ((List Int)):=
 (bif (decide (t10<t9)) then
  ((idx t8 t10).bind fun x2=>
  ((idx s_2.Slots x2).bind fun x4=>
  (bif x4.Used then
   ((idx s_2.Slots x2).bind fun x6=>
   ((app kD [x6.Key]).bind fun l8=>
   aCr rec1 s_2 l8 t8 t9 t10))
  else
   aCr rec1 s_2 kD t8 t9 t10)))
 else
  ((aAb (fun x=>x.length) kD.length (lJ kD)).bind fun l10=>
  some l10))
def uH:Nat→aD→List Int→List Int→Int→Int→Option ((List Int))
 |0=>fun _ _ _ _ _=>none
 |n+1=>aHc (uH n)
def qH(s_0:aD)(l_1:List Int):Option ((List Int)):=
 uH aW s_0 [] l_1 (l_1.length:Int) 0
theorem bAv{s_0:aD}{l_1:List Int}{r:(List Int)}(hm:qH s_0 l_1=some r):bY prog 82 [.agg [vi s_0.Graph.Config.N,vi s_0.Graph.Config.L,vi s_0.Graph.Config.R,vl cL s_0.Graph.Hashes,vl aV s_0.Graph.Edges,vl aX s_0.Slots],vl (ci .i64) l_1] (vl (ci .u64) r):=by
 refine bd 33 func82 ?_;refine W ?_;refine lp (fun m s=> ∃s_2 kD t8 t9 t10,s=⟨33,(aF (aF (aF (aF (aF fa 2 (.adr 1 0)) 5 (.own 2 0 kD.length)) 8 (vl (ci .i64) t8)) 9 (vi t9)) 10 (vi t10)),⟨(upd (upd aY 1 (.cells 1 [vi s_2.Graph.Config.N,vi s_2.Graph.Config.L,vi s_2.Graph.Config.R,vl cL s_2.Graph.Hashes,vl aV s_2.Graph.Edges,vl aX s_2.Slots] 0)) 2 (.cells 1 (kD.flatMap (ci .u64)) 0)),64⟩⟩∧uH m s_2 kD t8 t9 t10=some r) ?_ ?_
 · refine ⟨_,?_,s_0,[],l_1,(l_1.length:Int),0,rfl,hm⟩;refine St.Le.trans (aAq 5 900005 1 Z1 Z5) ?_;exact cn (fun j=>bif j==1 then 0 else bif j==2 then 900005 else 0)
 rintro n1 s ⟨s_2,kD,t8,t9,t10,rfl,hm⟩;refine W ?_;refine cm hm (fun hm=>?_) fun hm=>?_
 ·
  refine V ?_;refine AWp.seqJ (fun s=> ∃s_2 kD t8 t9 t10,s=⟨33,(aF (aF (aF (aF (aF fa 2 (.adr 1 0)) 5 (.own 2 0 kD.length)) 8 (vl (ci .i64) t8)) 9 (vi t9)) 10 (vi t10)),⟨(upd (upd aY 1 (.cells 1 [vi s_2.Graph.Config.N,vi s_2.Graph.Config.L,vi s_2.Graph.Config.R,vl cL s_2.Graph.Hashes,vl aV s_2.Graph.Edges,vl aX s_2.Slots] 0)) 2 (.cells 1 (kD.flatMap (ci .u64)) 0)),64⟩⟩∧aCr (uH n1) s_2 kD t8 t9 t10=some r) ?_ ?_
  ·
   obtain ⟨x2,h1,hm⟩:=bnd hm;obtain ⟨x4,h3,hm⟩:=bnd hm;refine W ?_;refine cm hm (fun hm=>?_) fun hm=>?_
   · have hm:=sb hm h3;refine W ?_;refine aL (CFi .u64) [x4.Key] ?_;obtain ⟨l8,h7,hm⟩:=bnd hm;refine W ?_;exact Lr (fun j=>bif j==1 then 1 else bif j==2 then 264 else 0)
   refine W ?_;exact Lr (fun j=>bif j==1 then 1 else bif j==2 then 2 else 0)
  rintro s ⟨s_2,kD,t8,t9,t10,rfl,hm⟩;refine W ?_;exact Lr (fun j=>bif j==1 then 1 else bif j==2 then 2 else 0)
 obtain ⟨l10,h9,hm⟩:=bnd hm;refine W ?_;have qh9:=aAr h9;refine aR.callM Zd Z1 bZz Z1 (aMg (zJ h9) Z3 (by (repeat (first|exact bWh|refine bOz ?_ Zd))) (by (repeat (first|exact bW3|refine sS trivial ?_|refine sS (aIf (CFi .u64)) ?_|refine sS ⟨Nat.zero_le _,(aMk.dat s_2)⟩ ?_|refine sS ⟨Nat.zero_le _,DS⟩ ?_))) Zd) ?_;exact E
instance:Ct prog 82 (K2 prog dF (vl (ci .i64)) (vl (ci .u64)) 82 qH):=⟨fun hm=>bAv hm⟩
abbrev aCa(rec1:aD→Int→List Int→Int→Int→Option (Int))(s_2:aD)(aJe:Int)(t8:List Int)(t9:Int)(t10:Int):Option (Int):=
 rec1 s_2 aJe t8 t9 (IntKind.i64.wrap (t10+1))
def aC9(rec1:aD→Int→List Int→Int→Int→Option (Int))(s_2:aD)(aJe:Int)(t8:List Int)(t9:Int)(t10:Int):Option (Int):=
 (bif (decide (t10<t9)) then
  ((idx t8 t10).bind fun x2=>
  ((eG ((t10==x2)==true) (aI.mk false 0) (idx s_2.Slots t10)).bind fun x4=>
  (bif ((t10==x2)&&x4.Used) then
   aCa rec1 s_2 (IntKind.i64.wrap (aJe+1)) t8 t9 t10
  else
   aCa rec1 s_2 aJe t8 t9 t10)))
 else
  some aJe)
def nL:Nat→aD→Int→List Int→Int→Int→Option (Int)
 |0=>fun _ _ _ _ _=>none
 |n+1=>aC9 (nL n)
def zF(s_0:aD)(bF9:List Int):Option (Int):=
 nL aW s_0 0 bF9 (bF9.length:Int) 0
theorem aSq:K2 prog dF (vl (ci .i64)) vi 85 zF:=by
 intro s_0 bF9 r hm
 let I1:=((fun m s=> ∃s_2 aJe t8 t9 t10,s=⟨30,(aF (aF (aF (aF (aF fa 2 (.adr 1 0)) 5 (vi aJe)) 8 (vl (ci .i64) t8)) 9 (vi t9)) 10 (vi t10)),⟨(upd aY 1 (.cells 1 [vi s_2.Graph.Config.N,vi s_2.Graph.Config.L,vi s_2.Graph.Config.R,vl cL s_2.Graph.Hashes,vl aV s_2.Graph.Edges,vl aX s_2.Slots] 0)),64⟩⟩∧nL m s_2 aJe t8 t9 t10=some r):Nat→St→Prop)
 exact be 30 func85 (h:=G)
instance:Ct prog 85 (K2 prog dF (vl (ci .i64)) vi 85 zF):=⟨aSq⟩
def aDp(rec1:aD→List bG→List aE→Int→Int→Option ((List bG)))(s_1:aD)(aF2:List bG)(t19:List aE)(t20:Int)(t21:Int):Option ((List bG)):=
 (bif (decide (t21<t20)) then
  ((idx t19 t21).bind fun x4=>
  ((idx s_1.Slots x4.U).bind fun x6=>
  ((idx s_1.Slots x4.V).bind fun x8=>
  ((app aF2 [(bG.mk (if x8.Key<x6.Key then x8.Key else x6.Key) (if x6.Key<x8.Key then x8.Key else x6.Key))]).bind fun l10=>
  rec1 s_1 l10 t19 t20 (IntKind.i64.wrap (t21+1))))))
 else
  ((aAb (fun x=>x.length) aF2.length (aC2 aF2)).bind fun l12=>
  some l12))
def sV:Nat→aD→List bG→List aE→Int→Int→Option ((List bG))
 |0=>fun _ _ _ _ _=>none
 |n+1=>aDp (sV n)
def vN(s_0:aD):Option ((List bG)):=
 ((kG s_0.Graph.Config.N s_0.Graph.Edges s_0.Graph.Config.L).bind fun r2=>
 sV aW s_0 [] r2 (r2.length:Int) 0)
theorem aUo{s_0:aD}{r:(List bG)}(hm:vN s_0=some r):bY prog 86 [.agg [vi s_0.Graph.Config.N,vi s_0.Graph.Config.L,vi s_0.Graph.Config.R,vl cL s_0.Graph.Hashes,vl aV s_0.Graph.Edges,vl aX s_0.Slots]] (vl iZ r):=by
 refine bd 53 func86 ?_;obtain ⟨r2,h1,hm⟩:=bnd hm;refine W ?_;refine cq (aLe h1) ?_;refine W ?_;refine lp (fun m s=> ∃s_1 aF2 t19 t20 t21,s=⟨53,(aF (aF (aF (aF (aF fa 1 (.adr 1 0)) 4 (.own 2 0 aF2.length)) 19 (vl aV t19)) 20 (vi t20)) 21 (vi t21)),⟨(upd (upd aY 1 (.cells 1 [vi s_1.Graph.Config.N,vi s_1.Graph.Config.L,vi s_1.Graph.Config.R,vl cL s_1.Graph.Hashes,vl aV s_1.Graph.Edges,vl aX s_1.Slots] 0)) 2 (.cells 2 (aF2.flatMap iZ) 0)),64⟩⟩∧sV m s_1 aF2 t19 t20 t21=some r) ?_ ?_
 · refine ⟨_,?_,s_0,[],r2,(r2.length:Int),0,rfl,hm⟩;refine St.Le.trans (aAq 4 900004 2 Z1 Z5) ?_;exact cn (fun j=>bif j==1 then 0 else bif j==2 then 900004 else 0)
 rintro n1 s ⟨s_1,aF2,t19,t20,t21,rfl,hm⟩;refine W ?_;refine cm hm (fun hm=>?_) fun hm=>?_
 · obtain ⟨x4,h3,hm⟩:=bnd hm;obtain ⟨x6,h5,hm⟩:=bnd hm;obtain ⟨x8,h7,hm⟩:=bnd hm;refine W ?_;refine bU (.agg [.v (.int .u64 (if x8.Key<x6.Key then x8.Key else x6.Key)),.v (.int .u64 (if x6.Key<x8.Key then x8.Key else x6.Key))]) ?_;refine aL aGq [(bG.mk (if x8.Key<x6.Key then x8.Key else x6.Key) (if x6.Key<x8.Key then x8.Key else x6.Key))] ?_;obtain ⟨l10,h9,hm⟩:=bnd hm;refine W ?_;exact Lr (fun j=>bif j==1 then 1 else bif j==2 then 265 else 0)
 obtain ⟨l12,h11,hm⟩:=bnd hm;refine W ?_;have qh11:=aAr h11;refine aR.callM Zd Z1 cA0 Z1 (bCh (zJ h11) Z3) ?_;exact E
instance:Ct prog 86 (K1 prog dF (vl iZ) 86 vN):=⟨fun hm=>aUo hm⟩
def aMh(rec1:ByteArray→Int→Int→Option (Int))(b_0:ByteArray)(bCj:Int)(i_4:Int):Option (Int):=
 (bif (decide (i_4<(b_0.size:Int))) then
  ((aGg bCj 257).bind fun r2=>
  ((aD2 b_0 i_4).bind fun b4=>
  ((aGf r2 (IntKind.u64.wrap ((IntKind.u64.wrap b4)+1))).bind fun r6=>
  rec1 b_0 r6 (IntKind.i64.wrap (i_4+1)))))
 else
  some bCj)
def aEa:Nat→ByteArray→Int→Int→Option (Int)
 |0=>fun _ _ _=>none
 |n+1=>aMh (aEa n)
def aKs(b_0:ByteArray):Option (Int):=
 aEa aW b_0 1 0
theorem aWi:K1 prog vs vu 43 aKs:=by
 intro b_0 r hm
 let I1:=((fun m s=> ∃b_0 bCj i_4,s=⟨20,(aF (aF (aF fa 0 (.v (.string b_0))) 3 (vu bCj)) 4 (vi i_4)),⟨aY,64⟩⟩∧aEa m b_0 bCj i_4=some r):Nat→St→Prop)
 exact be 20 func43 (h:=G)
instance:Ct prog 43 (K1 prog vs vu 43 aKs):=⟨aWi⟩
abbrev aK8(rec3:aD→List Int→List aI→Int→Int→Option (ByteArray×Int))(s_1:aD)(b_5:List Int)(t58:List aI)(t59:Int)(t60:Int):Option (ByteArray×Int):=
 rec3 s_1 b_5 t58 t59 (IntKind.i64.wrap (t60+1))
abbrev aC1(rec3:aD→List Int→List aI→Int→Int→Option (ByteArray×Int))(s_1:aD)(b_5:List Int)(aKr:aI)(aO6:Int)(t58:List aI)(t59:Int)(t60:Int):Option (ByteArray×Int):=
 ((lS b_5 aO6 1).bind fun l16=>
 ((lS l16 aKr.Key 8).bind fun l18=>
 aK8 rec3 s_1 l18 t58 t59 t60))
def aK7(rec4:List Int→List aE→Int→Int→Option (ByteArray×Int))(b_5:List Int)(t83:List aE)(t84:Int)(t85:Int):Option (ByteArray×Int):=
 (bif (decide (t85<t84)) then
  ((idx t83 t85).bind fun x22=>
  ((lS b_5 (IntKind.u64.wrap x22.U) 2).bind fun l24=>
  ((lS l24 (IntKind.u64.wrap x22.V) 2).bind fun l26=>
  ((lS l26 (IntKind.u64.wrap x22.Tier) 1).bind fun l28=>
  rec4 l28 t83 t84 (IntKind.i64.wrap (t85+1))))))
 else
  ((aKs (jS b_5)).bind fun r30=>
  ((lS b_5 r30 8).bind fun l32=>
  some ((jS l32),0))))
def yI:Nat→List Int→List aE→Int→Int→Option (ByteArray×Int)
 |0=>fun _ _ _ _=>none
 |n+1=>aK7 (yI n)
def aK6(rec3:aD→List Int→List aI→Int→Int→Option (ByteArray×Int))(s_1:aD)(b_5:List Int)(t58:List aI)(t59:Int)(t60:Int):Option (ByteArray×Int):=
 (bif (decide (t60<t59)) then
  ((idx t58 t60).bind fun x14=>
  (bif x14.Used then
   aC1 rec3 s_1 b_5 x14 1 t58 t59 t60
  else
   aC1 rec3 s_1 b_5 x14 0 t58 t59 t60))
 else
  ((lS b_5 (IntKind.u64.wrap (s_1.Graph.Edges.length:Int)) 4).bind fun l20=>
  yI aW l20 s_1.Graph.Edges (s_1.Graph.Edges.length:Int) 0))
def mQ:Nat→aD→List Int→List aI→Int→Int→Option (ByteArray×Int)
 |0=>fun _ _ _ _ _=>none
 |n+1=>aK6 (mQ n)
def aK5(rec2:aD→List Int→List bW→Int→Int→Option (ByteArray×Int))(s_1:aD)(b_5:List Int)(t42:List bW)(t43:Int)(t44:Int):Option (ByteArray×Int):=
 (bif (decide (t44<t43)) then
  ((idx t42 t44).bind fun x8=>
  ((lS b_5 x8.A 8).bind fun l10=>
  ((lS l10 x8.B 8).bind fun l12=>
  rec2 s_1 l12 t42 t43 (IntKind.i64.wrap (t44+1)))))
 else
  mQ aW s_1 b_5 s_1.Slots (s_1.Slots.length:Int) 0)
def tP:Nat→aD→List Int→List bW→Int→Int→Option (ByteArray×Int)
 |0=>fun _ _ _ _ _=>none
 |n+1=>aK5 (tP n)
def aC0(rec1:aD→List Int→List Int→Int→Int→Option (ByteArray×Int))(s_1:aD)(b_5:List Int)(t29:List Int)(t30:Int)(t31:Int):Option (ByteArray×Int):=
 (bif (decide (t31<t30)) then
  ((idx t29 t31).bind fun x4=>
  ((lS b_5 (IntKind.u64.wrap x4) 2).bind fun l6=>
  rec1 s_1 l6 t29 t30 (IntKind.i64.wrap (t31+1))))
 else
  tP aW s_1 b_5 s_1.Graph.Hashes (s_1.Graph.Hashes.length:Int) 0)
def oD:Nat→aD→List Int→List Int→Int→Int→Option (ByteArray×Int)
 |0=>fun _ _ _ _ _=>none
 |n+1=>aC0 (oD n)
def oO(s_0:aD):Option (ByteArray×Int):=
 ((mP s_0).bind fun r2=>
 (bif (!r2) then
  some (⟨#[]⟩,1)
 else
  oD aW s_0 [82,65,70,84] [s_0.Graph.Config.N,s_0.Graph.Config.L,s_0.Graph.Config.R] (([s_0.Graph.Config.N,s_0.Graph.Config.L,s_0.Graph.Config.R]).length:Int) 0))
theorem bFx{s_0:aD}{r:ByteArray×Int}(hm:oO s_0=some r):bY prog 13 [.agg [vi s_0.Graph.Config.N,vi s_0.Graph.Config.L,vi s_0.Graph.Config.R,vl cL s_0.Graph.Hashes,vl aV s_0.Graph.Edges,vl aX s_0.Slots]] (.tup [.v (.string r.1),vi r.2]):=by
 refine bd 111 func13 ?_;obtain ⟨r2,h1,hm⟩:=bnd hm;refine W ?_;refine cq (aQs h1) ?_;refine W ?_;refine cm hm (fun hm=>?_) fun hm=>?_
 · exact E
 iterate 9 refine S1 ?_
 refine AWp.seq' ?_;refine AWp.regL (N':=256) [82,65,70,84] rfl rfl underlying91 underlying5 sz5 zc5 Z5 Zd Zd rfl (by simp only [go_sem,Nat.reduceBEq];try rfl) (by kernel_rfl) rfl rfl ?_;refine W ?_;refine aL (CFi .i64) [s_0.Graph.Config.N,s_0.Graph.Config.L,s_0.Graph.Config.R] ?_;refine W ?_;refine lp (fun m s=> ∃s_1 b_5 t29 t30 t31,s=⟨111,(aF (aF (aF (aF (aF fa 1 (.adr 1 0)) 5 (.own 2 0 b_5.length)) 29 (.own 3 0 t29.length)) 30 (vi t30)) 31 (vi t31)),⟨(upd (upd (upd aY 1 (.cells 1 [vi s_1.Graph.Config.N,vi s_1.Graph.Config.L,vi s_1.Graph.Config.R,vl cL s_1.Graph.Hashes,vl aV s_1.Graph.Edges,vl aX s_1.Slots] 0)) 2 (.cells 1 (b_5.flatMap (ci .u8)) 0)) 3 (.cells 1 (t29.flatMap (ci .i64)) 0)),64⟩⟩∧oD m s_1 b_5 t29 t30 t31=some r) (Lr (fun j=>bif j==1 then 0 else bif j==2 then 192 else bif j==3 then 262 else 0)) ?_;rintro n1 s ⟨s_1,b_5,t29,t30,t31,rfl,hm⟩;refine W ?_;refine cm hm (fun hm=>?_) fun hm=>?_
 · obtain ⟨x4,h3,hm⟩:=bnd hm;obtain ⟨l6,h5,hm⟩:=bnd hm;refine W ?_;refine aR.callA Zd Z1 aUi Z1 (sC h5 (J:=195) Z3 (aL3 Z5) Zd Zd KF DF) ?_;refine W ?_;exact Lr (fun j=>bif j==1 then 1 else bif j==2 then 195 else bif j==3 then 3 else 0)
 refine W ?_;refine lp (fun m s=> ∃s_1 b_5 t42 t43 t44,s=⟨111,(aF (aF (aF (aF (aF fa 1 (.adr 1 0)) 5 (.own 2 0 b_5.length)) 42 (vl cL t42)) 43 (vi t43)) 44 (vi t44)),⟨(upd (upd aY 1 (.cells 1 [vi s_1.Graph.Config.N,vi s_1.Graph.Config.L,vi s_1.Graph.Config.R,vl cL s_1.Graph.Hashes,vl aV s_1.Graph.Edges,vl aX s_1.Slots] 0)) 2 (.cells 1 (b_5.flatMap (ci .u8)) 0)),64⟩⟩∧tP m s_1 b_5 t42 t43 t44=some r) (Lr (fun j=>bif j==1 then 1 else bif j==2 then 2 else 0)) ?_;rintro n2 s ⟨s_1,b_5,t42,t43,t44,rfl,hm⟩;refine W ?_;refine cm hm (fun hm=>?_) fun hm=>?_
 · obtain ⟨x8,h7,hm⟩:=bnd hm;obtain ⟨l10,h9,hm⟩:=bnd hm;refine W ?_;refine aR.callA Zd Z1 aUi Z1 (sC h9 (J:=195) Z3 (aL3 Z5) Zd Zd KF DF) ?_;obtain ⟨l12,h11,hm⟩:=bnd hm;refine W ?_;refine aR.callA Zd Z1 aUi Z1 (sC h11 (J:=259) Z3 (aL3 Z5) Zd Zd KF DF) ?_;refine W ?_;exact Lr (fun j=>bif j==1 then 1 else bif j==2 then 259 else 0)
 refine W ?_;refine lp (fun m s=> ∃s_1 b_5 t58 t59 t60,s=⟨111,(aF (aF (aF (aF (aF fa 1 (.adr 1 0)) 5 (.own 2 0 b_5.length)) 58 (vl aX t58)) 59 (vi t59)) 60 (vi t60)),⟨(upd (upd aY 1 (.cells 1 [vi s_1.Graph.Config.N,vi s_1.Graph.Config.L,vi s_1.Graph.Config.R,vl cL s_1.Graph.Hashes,vl aV s_1.Graph.Edges,vl aX s_1.Slots] 0)) 2 (.cells 1 (b_5.flatMap (ci .u8)) 0)),64⟩⟩∧mQ m s_1 b_5 t58 t59 t60=some r) (Lr (fun j=>bif j==1 then 1 else bif j==2 then 2 else 0)) ?_;rintro n3 s ⟨s_1,b_5,t58,t59,t60,rfl,hm⟩;refine W ?_;refine cm hm (fun hm=>?_) fun hm=>?_
 ·
  refine V ?_;refine AWp.seqJ (fun s=> ∃s_1 b_5 t58 t59 t60,s=⟨111,(aF (aF (aF (aF (aF fa 1 (.adr 1 0)) 5 (.own 2 0 b_5.length)) 58 (vl aX t58)) 59 (vi t59)) 60 (vi t60)),⟨(upd (upd aY 1 (.cells 1 [vi s_1.Graph.Config.N,vi s_1.Graph.Config.L,vi s_1.Graph.Config.R,vl cL s_1.Graph.Hashes,vl aV s_1.Graph.Edges,vl aX s_1.Slots] 0)) 2 (.cells 1 (b_5.flatMap (ci .u8)) 0)),64⟩⟩∧aK8 (mQ n3) s_1 b_5 t58 t59 t60=some r) ?_ ?_
  ·
   obtain ⟨x14,h13,hm⟩:=bnd hm;refine V ?_;refine AWp.seqJ (fun s=> ∃s_1 b_5 aKr aO6 t58 t59 t60,s=⟨111,(aF (aF (aF (aF (aF (aF (aF fa 1 (.adr 1 0)) 5 (.own 2 0 b_5.length)) 11 (.adr 3 0)) 12 (vu aO6)) 58 (vl aX t58)) 59 (vi t59)) 60 (vi t60)),⟨(upd (upd (upd aY 1 (.cells 1 [vi s_1.Graph.Config.N,vi s_1.Graph.Config.L,vi s_1.Graph.Config.R,vl cL s_1.Graph.Hashes,vl aV s_1.Graph.Edges,vl aX s_1.Slots] 0)) 2 (.cells 1 (b_5.flatMap (ci .u8)) 0)) 3 (.cells 1 [vb aKr.Used,vu aKr.Key] 0)),64⟩⟩∧aC1 (mQ n3) s_1 b_5 aKr aO6 t58 t59 t60=some r) ?_ ?_
   ·
    refine W ?_;refine cm hm (fun hm=>?_) fun hm=>?_
    · refine W ?_;exact Lr (fun j=>bif j==1 then 1 else bif j==2 then 2 else bif j==3 then 130 else 0)
    refine W ?_;exact Lr (fun j=>bif j==1 then 1 else bif j==2 then 2 else bif j==3 then 130 else 0)
   rintro s ⟨s_1,b_5,aKr,aO6,t58,t59,t60,rfl,hm⟩;obtain ⟨l16,h15,hm⟩:=bnd hm;refine W ?_;refine aR.callA Zd Z1 aUi Z1 (sC h15 (J:=66) Z3 (aL3 Z5) Zd Zd KF DF) ?_;obtain ⟨l18,h17,hm⟩:=bnd hm;refine W ?_;refine aR.callA Zd Z1 aUi Z1 (sC h17 (J:=131) Z3 (aL3 Z5) Zd Zd KF DF) ?_;refine W ?_;exact Lr (fun j=>bif j==1 then 1 else bif j==2 then 131 else 0)
  rintro s ⟨s_1,b_5,t58,t59,t60,rfl,hm⟩;refine W ?_;exact Lr (fun j=>bif j==1 then 1 else bif j==2 then 2 else 0)
 obtain ⟨l20,h19,hm⟩:=bnd hm;refine W ?_;refine aR.callA Zd Z1 aUi Z1 (sC h19 (J:=134) Z3 (aL3 Z5) Zd Zd KF DF) ?_;refine W ?_;refine lp (fun m s=> ∃b_5 t83 t84 t85,s=⟨111,(aF (aF (aF (aF fa 5 (.own 1 0 b_5.length)) 83 (vl aV t83)) 84 (vi t84)) 85 (vi t85)),⟨(upd aY 1 (.cells 1 (b_5.flatMap (ci .u8)) 0)),64⟩⟩∧yI m b_5 t83 t84 t85=some r) (Lr (fun j=>bif j==1 then 134 else 0)) ?_;rintro n4 s ⟨b_5,t83,t84,t85,rfl,hm⟩;refine W ?_;refine cm hm (fun hm=>?_) fun hm=>?_
 · obtain ⟨x22,h21,hm⟩:=bnd hm;obtain ⟨l24,h23,hm⟩:=bnd hm;refine W ?_;refine aR.callA Zd Z1 aUi Z1 (sC h23 (J:=196) Z3 (aL3 Z5) Zd Zd KF DF) ?_;obtain ⟨l26,h25,hm⟩:=bnd hm;refine W ?_;refine aR.callA Zd Z1 aUi Z1 (sC h25 (J:=260) Z3 (aL3 Z5) Zd Zd KF DF) ?_;obtain ⟨l28,h27,hm⟩:=bnd hm;refine W ?_;refine aR.callA Zd Z1 aUi Z1 (sC h27 (J:=324) Z3 (aL3 Z5) Zd Zd KF DF) ?_;refine W ?_;exact Lr (fun j=>bif j==1 then 324 else 0)
 refine W ?_;refine pu rfl (aMp underlying91 underlying9 underlying5 Z1 Z3 Z6) ?_;obtain ⟨r30,h29,hm⟩:=bnd hm;refine cq (aWi h29) ?_;obtain ⟨l32,h31,hm⟩:=bnd hm;refine aR.callA Zd Z1 aUi Z1 (sC h31 (J:=132) Z3 (aL3 Z5) Zd Zd KF DF) ?_;refine pu rfl (aMp underlying91 underlying9 underlying5 Z1 Z3 Z6) ?_;exact E
instance:Ct prog 13 (K1 prog dF (t2 vs vi) 13 oO):=⟨fun hm=>bFx hm⟩
def oJ(s_0:aD)(aCq:Int)(u_2:Int)(v_3:Int):Option (GA):=
 ((tU s_0.Graph).bind fun r2=>
 (bif (aCq==5) then
  ((qU s_0.Graph.Edges u_2 v_3).bind fun ⟨r4,r5⟩=>
  some (GA.b 4 r5))
 else
  (bif (aCq==6) then
   ((rP s_0 u_2).bind fun r7=>
   some (GA.i 3 .i64 r7))
  else
   (bif (aCq==7) then
    ((xU s_0 u_2).bind fun r9=>
    ((qH s_0 r9).bind fun r11=>
    some (GA.lu 24 r11)))
   else
    (bif (aCq==8) then
     ((idx r2 u_2).bind fun x13=>
     ((idx r2 v_3).bind fun x15=>
     some (GA.b 4 (x13==x15))))
    else
     (bif (aCq==9) then
      ((sZ r2 u_2).bind fun r17=>
      ((qH s_0 r17).bind fun r19=>
      some (GA.i 3 .i64 (r19.length:Int))))
     else
      (bif (aCq==10) then
       ((zF s_0 r2).bind fun r21=>
       some (GA.i 3 .i64 r21))
      else
       (bif (aCq==11) then
        ((sZ r2 u_2).bind fun r23=>
        ((qH s_0 r23).bind fun r25=>
        some (GA.lu 24 r25)))
       else
        (bif (aCq==12) then
         ((vN s_0).bind fun r27=>
         some (GA.lp 157 r27))
        else
         (bif (aCq==13) then
          ((yP s_0.Graph).bind fun r29=>
          some (GA.b 4 r29))
         else
          ((oO s_0).bind fun ⟨r31,r32⟩=>
          some (GA.s 9 r31))))))))))))
theorem aUl:K4 prog dF vi vi vi GA.av 40 oJ:=fun hm=>be 98 func40 (h:=G)
instance:Ct prog 40 (K4 prog dF vi vi vi GA.av 40 oJ):=⟨aUl⟩
def qZ(f_1:(aI→Option (Bool)))(rec1:List aI→Int→Int→Option (Int))(s_0:List aI)(t7:Int)(t8:Int):Option (Int):=
 (bif (decide (t8<t7)) then
  ((idx s_0 t8).bind fun x2=>
  ((f_1 x2).bind fun r4=>
  (bif r4 then
   some t8
  else
   rec1 s_0 t7 (IntKind.i64.wrap (t8+1)))))
 else
  some (-1))
def iD(f_1:(aI→Option (Bool))):Nat→List aI→Int→Int→Option (Int)
 |0=>fun _ _ _=>none
 |n+1=>qZ f_1 (iD f_1 n)
def sH(s_0:List aI)(f_1:(aI→Option (Bool))):Option (Int):=
 iD f_1 aW s_0 (s_0.length:Int) 0
theorem aIk{s_0:List aI}{f_1:(aI→Option (Bool))}{r:Int}(hm:sH s_0 f_1=some r){aN6:FuncId}{aCn:List AV}(aSn: ∀a,a∈aCn→AM.Data a)(bEx:(Program.funcs prog)[aN6]?.any (fun fn=>fn.body.isSome&&fn.name != "runtime.NumGoroutine")=true)(bEy: ∀ {x0 r},f_1 x0=some r→bY prog aN6 ([.agg [vb x0.Used,vu x0.Key]]++aCn) (vb r)):bY prog 127 [vl aX s_0,.clo (.func aN6) [] aCn] (vi r):=by
 refine bd 19 func127 ?_;refine W ?_;refine lp (fun m s=> ∃s_0 t7 t8,s=⟨19,(aF (aF (aF (aF fa 0 (vl aX s_0)) 1 (.clo (.func aN6) [] aCn)) 7 (vi t7)) 8 (vi t8)),⟨aY,64⟩⟩∧iD f_1 m s_0 t7 t8=some r) L ?_;rintro n1 s ⟨s_0,t7,t8,rfl,hm⟩;refine W ?_;refine cm hm (fun hm=>?_) fun hm=>?_
 ·
  obtain ⟨x2,h1,hm⟩:=bnd hm;obtain ⟨r4,h3,hm⟩:=bnd hm;refine W ?_;refine aR.callQC (r:= .v (.bool r4)) Zd Z1 aSn bEx (fun H=>(cD (.agg _ (cZ.dat _)) .nil)) (bEy h3) ?_;refine W ?_;refine cm hm (fun hm=>?_) fun hm=>?_
  · exact E
  exact L
 exact E
attribute [local semireducible] aW
end Go.Proofs.YtkdohhmacfoolaaGreatDoor
