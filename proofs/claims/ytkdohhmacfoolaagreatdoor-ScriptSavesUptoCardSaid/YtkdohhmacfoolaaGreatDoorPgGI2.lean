/- Facts. No condition. -/
import Derived.Test.YtkdohhmacfoolaaGreatDoorPgGI1
set_option linter.unusedVariables false
set_option linter.unusedSimpArgs false
set_option maxRecDepth 20000
set_option maxHeartbeats 4000000
namespace Go.Proofs.YtkdohhmacfoolaaGreatDoor
open Go.Proofs.Tryz Go Go.AM
attribute [local irreducible] aY
@[go_sem] theorem bIc(xs:List AV):aI prog 96 (.ptr (xs)) 0=some (.ptr xs):=by kernel_rfl
@[go_sem] theorem bId(x0:AV)(xs:List AV):aI prog 96 (.ptr (x0::xs)) 1=some (.ptr xs):=by kernel_rfl
@[go_sem] theorem bIk(i o:Nat):aI prog 23 (.adr i o) 0=some (.adr i (o+0)):=by kernel_rfl
@[go_sem] theorem bIq(i o:Nat):aI prog 23 (.adr i o) 1=some (.adr i (o+1)):=by kernel_rfl
@[go_sem] theorem bIw(i o:Nat):aI prog 23 (.adr i o) 2=some (.adr i (o+2)):=by kernel_rfl
@[go_sem] theorem bJ3(i o:Nat):aI prog 30 (.adr i o) 0=some (.adr i (o+0)):=by kernel_rfl
@[go_sem] theorem bJ7(i o:Nat):aI prog 30 (.adr i o) 1=some (.adr i (o+3)):=by kernel_rfl
@[go_sem] theorem bJd(i o:Nat):aI prog 30 (.adr i o) 2=some (.adr i (o+4)):=by kernel_rfl
@[go_sem] theorem bJg(i o:Nat):aI prog 33 (.adr i o) 0=some (.adr i (o+0)):=by kernel_rfl
@[go_sem] theorem bJk(i o:Nat):aI prog 33 (.adr i o) 1=some (.adr i (o+5)):=by kernel_rfl
@[go_sem] theorem bK0(i o:Nat):aI prog 61 (.adr i o) 0=some (.adr i (o+0)):=by kernel_rfl
@[go_sem] theorem bK6(i o:Nat):aI prog 61 (.adr i o) 1=some (.adr i (o+1)):=by kernel_rfl
@[go_sem] theorem bKb(i o:Nat):aI prog 61 (.adr i o) 2=some (.adr i (o+2)):=by kernel_rfl
@[go_sem] theorem bKk(i o:Nat):aI prog 94 (.adr i o) 0=some (.adr i (o+0)):=by kernel_rfl
@[go_sem] theorem bKn(i o:Nat):aI prog 94 (.adr i o) 1=some (.adr i (o+1)):=by kernel_rfl
@[go_sem] theorem bKp(i o:Nat):aI prog 96 (.adr i o) 0=some (.adr i (o+0)):=by kernel_rfl
@[go_sem] theorem bKs(i o:Nat):aI prog 96 (.adr i o) 1=some (.adr i (o+1)):=by kernel_rfl
theorem bEi(i o:Nat)(k:IntKind):lS prog 180 (.adr i o) (.v (.int k 0))=some (.adr i o):=by kernel_rfl
theorem bEk(i o:Nat)(k:IntKind):lS prog 180 (.adr i o) (.v (.int k 1))=some (.adr i (o+1)):=by kernel_rfl
attribute [go_sem] bEi bEk
@[go_sem] theorem bSi(H:aH)(x0 x1 x2:AV)(xs:List AV):bT prog H 23 (.ptr (x0::x1::x2::xs))=some (.agg [x0,x1,x2]):=by kernel_rfl
@[go_sem] theorem bSp(H:aH)(x:AV)(xs:List AV):bT prog H 27 (.ptr (x::xs))=some x:=by kernel_rfl
@[go_sem] theorem bSv(H:aH)(x:AV)(xs:List AV):bT prog H 28 (.ptr (x::xs))=some x:=by kernel_rfl
@[go_sem] theorem bX6(H:aH)(x:AV)(xs:List AV):bT prog H 3 (.ptr (x::xs))=some x:=by kernel_rfl
@[go_sem] theorem bT1(H:aH)(x0 x1 x2 x3 x4:AV)(xs:List AV):bT prog H 30 (.ptr (x0::x1::x2::x3::x4::xs))=some (.agg [x0,x1,x2,x3,x4]):=by kernel_rfl
@[go_sem] theorem bT6(H:aH)(x:AV)(xs:List AV):bT prog H 31 (.ptr (x::xs))=some x:=by kernel_rfl
@[go_sem] theorem bTa(H:aH)(x0 x1 x2 x3 x4 x5:AV)(xs:List AV):bT prog H 33 (.ptr (x0::x1::x2::x3::x4::x5::xs))=some (.agg [x0,x1,x2,x3,x4,x5]):=by kernel_rfl
@[go_sem] theorem bXd(H:aH)(x:AV)(xs:List AV):bT prog H 4 (.ptr (x::xs))=some x:=by kernel_rfl
@[go_sem] theorem bTj(H:aH)(x:AV)(xs:List AV):bT prog H 40 (.ptr (x::xs))=some x:=by kernel_rfl
@[go_sem] theorem bTs(H:aH)(x0 x1 x2:AV)(xs:List AV):bT prog H 61 (.ptr (x0::x1::x2::xs))=some (.agg [x0,x1,x2]):=by kernel_rfl
@[go_sem] theorem bU0(H:aH)(x0 x1:AV)(xs:List AV):bT prog H 94 (.ptr (x0::x1::xs))=some (.agg [x0,x1]):=by kernel_rfl
@[go_sem] theorem bU2(H:aH)(x0 x1:AV)(xs:List AV):bT prog H 96 (.ptr (x0::x1::xs))=some (.agg [x0,x1]):=by kernel_rfl
@[go_sem] theorem bHx(H:aH)(k:IntKind)(n:Int):mU prog H 3 40 (.v (.int k n))=some (.v (.int .u64 (IntKind.u64.wrap n))):=gK underlying3 underlying40
@[go_sem] theorem bDg(H:aH)(k:IntKind)(n:Int):mU prog H 3 162 (.v (.int k n))=some (.v (.int .u64 (IntKind.u64.wrap n))):=gK underlying3 underlying162
@[go_sem] theorem bI3(H:aH)(k:IntKind)(n:Int):mU prog H 5 40 (.v (.int k n))=some (.v (.int .u64 (IntKind.u64.wrap n))):=gK underlying5 underlying40
abbrev fL(xG:Int)(iK:Int):Option (Int×Int):=
 (bif (xG==0) then
  some (iK,1)
 else
  (bif (xG==12) then
   some (iK,2)
  else
   some (iK,0)))
abbrev fN(aD:List Int)(xG:Int)(iJ:Int)(iK:Int)(bO3:Int):Option (Int×Int):=
 ((fW aD iJ iK bO3 xG).bind fun ⟨r3,x2⟩=>
 fL x2 r3)
def fT(aD:List Int)(a_1:Int)(b_2:Int):Option (Int×Int):=
 (bif (decide (8≤(IntKind.i64.wrap (b_2-a_1)))) then
  (bif (decide (50≤(IntKind.i64.wrap (b_2-a_1)))) then
   ((dA aD (IntKind.i64.wrap (a_1+(IntKind.i64.wrap ((IntKind.i64.wrap (Int.tdiv (IntKind.i64.wrap (b_2-a_1)) 4))*1)))) 0).bind fun ⟨r6,x5⟩=>
   ((dA aD (IntKind.i64.wrap (a_1+(IntKind.i64.wrap ((IntKind.i64.wrap (Int.tdiv (IntKind.i64.wrap (b_2-a_1)) 4))*2)))) x5).bind fun ⟨r9,x8⟩=>
   ((dA aD (IntKind.i64.wrap (a_1+(IntKind.i64.wrap ((IntKind.i64.wrap (Int.tdiv (IntKind.i64.wrap (b_2-a_1)) 4))*3)))) x8).bind fun ⟨r12,x11⟩=>
   fN aD x11 r6 r9 r12)))
  else
   fN aD 0 (IntKind.i64.wrap (a_1+(IntKind.i64.wrap ((IntKind.i64.wrap (Int.tdiv (IntKind.i64.wrap (b_2-a_1)) 4))*1)))) (IntKind.i64.wrap (a_1+(IntKind.i64.wrap ((IntKind.i64.wrap (Int.tdiv (IntKind.i64.wrap (b_2-a_1)) 4))*2)))) (IntKind.i64.wrap (a_1+(IntKind.i64.wrap ((IntKind.i64.wrap (Int.tdiv (IntKind.i64.wrap (b_2-a_1)) 4))*3)))))
 else
  fL 0 (IntKind.i64.wrap (a_1+(IntKind.i64.wrap ((IntKind.i64.wrap (Int.tdiv (IntKind.i64.wrap (b_2-a_1)) 4))*2)))))
theorem nW{aD:List Int}{a_1:Int}{b_2:Int}{r:Int×Int}(hm:fT aD a_1 b_2=some r):cE prog 196 [vl (ci .u64) aD,vi a_1,vi b_2] (.tup [vi r.1,vi r.2]):=by
 refine bd 57 func196 ?_;refine V ?_;refine AWp.seqJ (fun s=> ∃xG iK,s=⟨57,(aF (aF fa 9 (.adr 1 0)) 11 (vi iK)),⟨(upd aZ 1 (.cells 1 [vi xG] 0)),64⟩⟩∧fL xG iK=some r) ?_ ?_
 ·
  refine W ?_;refine cm hm (fun hm=>?_) fun hm=>?_
  ·
   refine AWp.seqJ (fun s=> ∃aD xG iJ iK bO3,s=⟨57,(aF (aF (aF (aF (aF fa 0 (vl (ci .u64) aD)) 9 (.adr 1 0)) 10 (vi iJ)) 11 (vi iK)) 12 (vi bO3)),⟨(upd aZ 1 (.cells 1 [vi xG] 0)),64⟩⟩∧fN aD xG iJ iK bO3=some r) ?_ ?_
   ·
    refine W ?_;refine cm hm (fun hm=>?_) fun hm=>?_
    · refine W ?_;obtain ⟨⟨r6,x5⟩,h4,hm⟩:=bnd hm;refine aR.callM Zd Z1 bNh Z1 (jL h4 Z3) ?_;refine W ?_;obtain ⟨⟨r9,x8⟩,h7,hm⟩:=bnd hm;refine aR.callM Zd Z1 bNh Z1 (jL h7 Z3) ?_;refine W ?_;obtain ⟨⟨r12,x11⟩,h10,hm⟩:=bnd hm;refine aR.callM Zd Z1 bNh Z1 (jL h10 Z3) ?_;refine W ?_;exact Lr (fun j=>bif j==1 then 128 else 0)
    refine W ?_;exact Lr (fun j=>bif j==1 then 128 else 0)
   rintro s ⟨aD,xG,iJ,iK,bO3,rfl,hm⟩;refine W ?_;obtain ⟨⟨r3,x2⟩,h1,hm⟩:=bnd hm;refine aR.callM Zd Z1 bVj Z1 (sL h1 Z3) ?_;refine W ?_;exact Lr (fun j=>bif j==1 then 1 else 0)
  refine W ?_;exact Lr (fun j=>bif j==1 then 128 else 0)
 rintro s ⟨xG,iK,rfl,hm⟩;refine W ?_;refine cm hm (fun hm=>?_) fun hm=>?_
 · exact E
 refine W ?_;refine cm hm (fun hm=>?_) fun hm=>?_
 · exact E
 exact E
instance:Ct prog 196 (K3 prog (vl (ci .u64)) vi vi (t2 vi vi) 196 fT):=⟨fun hm=>nW hm⟩
def jQ(rec1:List Int→Int→Int→Option (List Int))(aD:List Int)(i_6:Int)(j_7:Int):Option (List Int):=
 (bif (decide (i_6<j_7)) then
  ((idx aD j_7).bind fun x2=>
  ((idx aD i_6).bind fun x4=>
  ((idx aD i_6).bind fun x6=>
  ((stt aD i_6 x2).bind fun l8=>
  ((idx l8 j_7).bind fun x10=>
  ((stt l8 j_7 x4).bind fun l12=>
  rec1 l12 (IntKind.i64.wrap (i_6+1)) (IntKind.i64.wrap (j_7-1))))))))
 else
  some aD)
def fE:Nat→List Int→Int→Int→Option (List Int)
 |0=>fun _ _ _=>none
 |n+1=>jQ (fE n)
def fO(aD:List Int)(a_1:Int)(b_2:Int):Option (List Int):=
 fE aY aD a_1 (IntKind.i64.wrap (b_2-1))
instance:FB prog 197:=⟨by kernel_rfl⟩
theorem nI: ∀ {aD:List Int} {a_1:Int} {b_2:Int},KM prog 197 [.v (.int .i64 a_1),vi b_2] aD (fO aD a_1 b_2) (fun r=>r) (fun r=> .tup []):=by
 intro aD a_1 b_2 r hm H i0 he;refine bM 32 func197 he fun h0=>?_
 let I1:=((fun m s=> ∃aD i_6 j_7,jM 32 (aF (aF (aF fa 0 (.own i0 0 aD.length)) 6 (vi i_6)) 7 (vi j_7)) h0 i0 aD (fE m aD i_6 j_7) r s):Nat→St→Prop)
 exact GM
instance:Ct prog 197 (∀ {aD:List Int} {a_1:Int} {b_2:Int},KM prog 197 [.v (.int .i64 a_1),vi b_2] aD (fO aD a_1 b_2) (fun r=>r) (fun r=> .tup [])):=⟨nI⟩
abbrev bZ(rec1:List Int→Int→Int→Int→Int→Option (Bool×List Int))(aD:List Int)(a_1:Int)(b_2:Int)(i_7:Int)(j_8:Int):Option (Bool×List Int):=
 rec1 aD a_1 b_2 i_7 (IntKind.i64.wrap (j_8+1))
def iG(rec1:List Int→Int→Int→Int→Int→Option (Bool×List Int))(rec3:List Int→Int→Int→Int→Int→Int→Option (Bool×List Int))(aD:List Int)(a_1:Int)(b_2:Int)(i_7:Int)(j_8:Int)(oH:Int):Option (Bool×List Int):=
 (bif (decide (oH<b_2)) then
  ((idx aD oH).bind fun x20=>
  ((idx aD (IntKind.i64.wrap (oH-1))).bind fun x22=>
  ((dC x20 x22).bind fun r24=>
  (bif (!r24) then
   bZ rec1 aD a_1 b_2 i_7 j_8
  else
   ((idx aD (IntKind.i64.wrap (oH-1))).bind fun x26=>
   ((idx aD oH).bind fun x28=>
   ((idx aD oH).bind fun x30=>
   ((stt aD oH x26).bind fun l32=>
   ((idx l32 (IntKind.i64.wrap (oH-1))).bind fun x34=>
   ((stt l32 (IntKind.i64.wrap (oH-1)) x28).bind fun l36=>
   rec3 l36 a_1 b_2 i_7 j_8 (IntKind.i64.wrap (oH+1))))))))))))
 else
  bZ rec1 aD a_1 b_2 i_7 j_8)
def dJ(rec1:List Int→Int→Int→Int→Int→Option (Bool×List Int)):Nat→List Int→Int→Int→Int→Int→Int→Option (Bool×List Int)
 |0=>fun _ _ _ _ _ _=>none
 |n+1=>iG rec1 (dJ rec1 n)
abbrev cR(rec1:List Int→Int→Int→Int→Int→Option (Bool×List Int))(aD:List Int)(a_1:Int)(b_2:Int)(i_7:Int)(j_8:Int):Option (Bool×List Int):=
 (bif (decide (2≤(IntKind.i64.wrap (b_2-i_7)))) then
  dJ rec1 aY aD a_1 b_2 i_7 j_8 (IntKind.i64.wrap (i_7+1))
 else
  bZ rec1 aD a_1 b_2 i_7 j_8)
def iH(rec1:List Int→Int→Int→Int→Int→Option (Bool×List Int))(rec4:List Int→Int→Int→Int→Int→Int→Option (Bool×List Int))(aD:List Int)(a_1:Int)(b_2:Int)(i_7:Int)(j_8:Int)(j_9:Int):Option (Bool×List Int):=
 (bif (decide (1≤j_9)) then
  ((idx aD j_9).bind fun x38=>
  ((idx aD (IntKind.i64.wrap (j_9-1))).bind fun x40=>
  ((dC x38 x40).bind fun r42=>
  (bif (!r42) then
   cR rec1 aD a_1 b_2 i_7 j_8
  else
   ((idx aD (IntKind.i64.wrap (j_9-1))).bind fun x44=>
   ((idx aD j_9).bind fun x46=>
   ((idx aD j_9).bind fun x48=>
   ((stt aD j_9 x44).bind fun l50=>
   ((idx l50 (IntKind.i64.wrap (j_9-1))).bind fun x52=>
   ((stt l50 (IntKind.i64.wrap (j_9-1)) x46).bind fun l54=>
   rec4 l54 a_1 b_2 i_7 j_8 (IntKind.i64.wrap (j_9-1))))))))))))
 else
  cR rec1 aD a_1 b_2 i_7 j_8)
def dK(rec1:List Int→Int→Int→Int→Int→Option (Bool×List Int)):Nat→List Int→Int→Int→Int→Int→Int→Option (Bool×List Int)
 |0=>fun _ _ _ _ _ _=>none
 |n+1=>iH rec1 (dK rec1 n)
def iF(rec1:List Int→Int→Int→Int→Int→Option (Bool×List Int))(rec2:List Int→Int→Int→Int→Int→Option (Bool×List Int))(aD:List Int)(a_1:Int)(b_2:Int)(i_7:Int)(j_8:Int):Option (Bool×List Int):=
 ((eJ ((decide (i_7<b_2))==true) 0 (idx aD i_7)).bind fun x2=>
 ((eJ ((decide (i_7<b_2))==true) 0 (idx aD (IntKind.i64.wrap (i_7-1)))).bind fun x4=>
 ((eJ ((decide (i_7<b_2))==true) false (dC x2 x4)).bind fun r6=>
 (bif ((decide (i_7<b_2))&&(!r6)) then
  rec2 aD a_1 b_2 (IntKind.i64.wrap (i_7+1)) j_8
 else
  (bif (i_7==b_2) then
   some (true,aD)
  else
   (bif (decide ((IntKind.i64.wrap (b_2-a_1))<50)) then
    some (false,aD)
   else
    ((idx aD (IntKind.i64.wrap (i_7-1))).bind fun x8=>
    ((idx aD i_7).bind fun x10=>
    ((idx aD i_7).bind fun x12=>
    ((stt aD i_7 x8).bind fun l14=>
    ((idx l14 (IntKind.i64.wrap (i_7-1))).bind fun x16=>
    ((stt l14 (IntKind.i64.wrap (i_7-1)) x10).bind fun l18=>
    (bif (decide (2≤(IntKind.i64.wrap (i_7-a_1)))) then
     dK rec1 aY l18 a_1 b_2 i_7 j_8 (IntKind.i64.wrap (i_7-1))
    else
     cR rec1 l18 a_1 b_2 i_7 j_8)))))))))))))
def dI(rec1:List Int→Int→Int→Int→Int→Option (Bool×List Int)):Nat→List Int→Int→Int→Int→Int→Option (Bool×List Int)
 |0=>fun _ _ _ _ _=>none
 |n+1=>iF rec1 (dI rec1 n)
def iE(rec1:List Int→Int→Int→Int→Int→Option (Bool×List Int))(aD:List Int)(a_1:Int)(b_2:Int)(i_7:Int)(j_8:Int):Option (Bool×List Int):=
 (bif (decide (j_8<5)) then
  dI rec1 aY aD a_1 b_2 i_7 j_8
 else
  some (false,aD))
def bR:Nat→List Int→Int→Int→Int→Int→Option (Bool×List Int)
 |0=>fun _ _ _ _ _=>none
 |n+1=>iE (bR n)
def dO(aD:List Int)(a_1:Int)(b_2:Int):Option (Bool×List Int):=
 bR aY aD a_1 b_2 (IntKind.i64.wrap (a_1+1)) 0
instance:FB prog 198:=⟨by kernel_rfl⟩
theorem kO: ∀ {aD:List Int} {a_1:Int} {b_2:Int},KM prog 198 [.v (.int .i64 a_1),vi b_2] aD (dO aD a_1 b_2) (fun r=>r.2) (fun r=> .v (.bool r.1)):=by
 intro aD a_1 b_2 r hm H i0 he;refine bM 133 func198 he fun h0=>?_
 let I1:=((fun m s=> ∃aD a_1 b_2 i_7 j_8,jM 133 (aF (aF (aF (aF (aF fa 0 (.own i0 0 aD.length)) 1 (vi a_1)) 2 (vi b_2)) 7 (vi i_7)) 8 (vi j_8)) h0 i0 aD (bR m aD a_1 b_2 i_7 j_8) r s):Nat→St→Prop)
 let I2:=fun (n1:Nat)=>((fun m s=> ∃aD a_1 b_2 i_7 j_8,jM 133 (aF (aF (aF (aF (aF fa 0 (.own i0 0 aD.length)) 1 (vi a_1)) 2 (vi b_2)) 7 (vi i_7)) 8 (vi j_8)) h0 i0 aD (dI (bR n1) m aD a_1 b_2 i_7 j_8) r s):Nat→St→Prop)
 let I3:=fun (n1:Nat)=>((fun m s=> ∃aD a_1 b_2 i_7 j_8 j_9,jM 133 (aF (aF (aF (aF (aF (aF fa 0 (.own i0 0 aD.length)) 1 (vi a_1)) 2 (vi b_2)) 7 (vi i_7)) 8 (vi j_8)) 9 (vi j_9)) h0 i0 aD (dK (bR n1) m aD a_1 b_2 i_7 j_8 j_9) r s):Nat→St→Prop)
 let I4:=fun (n1:Nat)=>((fun m s=> ∃aD a_1 b_2 i_7 j_8 oH,jM 133 (aF (aF (aF (aF (aF (aF fa 0 (.own i0 0 aD.length)) 1 (vi a_1)) 2 (vi b_2)) 7 (vi i_7)) 8 (vi j_8)) 10 (vi oH)) h0 i0 aD (dJ (bR n1) m aD a_1 b_2 i_7 j_8 oH) r s):Nat→St→Prop)
 exact GM
instance:Ct prog 198 (∀ {aD:List Int} {a_1:Int} {b_2:Int},KM prog 198 [.v (.int .i64 a_1),vi b_2] aD (dO aD a_1 b_2) (fun r=>r.2) (fun r=> .v (.bool r.1))):=⟨kO⟩
def jF(rec1:List Int→Int→Int→Int→Option (Int×List Int))(rec3:List Int→Int→Int→Int→Option (Int×List Int))(aD:List Int)(a_1:Int)(i_9:Int)(oH:Int):Option (Int×List Int):=
 ((eJ ((decide (i_9≤oH))==true) 0 (idx aD a_1)).bind fun x20=>
 ((eJ ((decide (i_9≤oH))==true) 0 (idx aD oH)).bind fun x22=>
 ((eJ ((decide (i_9≤oH))==true) false (dC x20 x22)).bind fun r24=>
 (bif ((decide (i_9≤oH))&&r24) then
  rec3 aD a_1 i_9 (IntKind.i64.wrap (oH-1))
 else
  (bif (decide (oH<i_9)) then
   some (i_9,aD)
  else
   ((idx aD oH).bind fun x26=>
   ((idx aD i_9).bind fun x28=>
   ((idx aD i_9).bind fun x30=>
   ((stt aD i_9 x26).bind fun l32=>
   ((idx l32 oH).bind fun x34=>
   ((stt l32 oH x28).bind fun l36=>
   rec1 l36 a_1 (IntKind.i64.wrap (i_9+1)) (IntKind.i64.wrap (oH-1)))))))))))))
def eG(rec1:List Int→Int→Int→Int→Option (Int×List Int)):Nat→List Int→Int→Int→Int→Option (Int×List Int)
 |0=>fun _ _ _ _=>none
 |n+1=>jF rec1 (eG rec1 n)
def jE(rec1:List Int→Int→Int→Int→Option (Int×List Int))(rec2:List Int→Int→Int→Int→Option (Int×List Int))(aD:List Int)(a_1:Int)(i_9:Int)(oH:Int):Option (Int×List Int):=
 ((eJ ((decide (i_9≤oH))==true) 0 (idx aD a_1)).bind fun x14=>
 ((eJ ((decide (i_9≤oH))==true) 0 (idx aD i_9)).bind fun x16=>
 ((eJ ((decide (i_9≤oH))==true) false (dC x14 x16)).bind fun r18=>
 (bif ((decide (i_9≤oH))&&(!r18)) then
  rec2 aD a_1 (IntKind.i64.wrap (i_9+1)) oH
 else
  eG rec1 aY aD a_1 i_9 oH))))
def eE(rec1:List Int→Int→Int→Int→Option (Int×List Int)):Nat→List Int→Int→Int→Int→Option (Int×List Int)
 |0=>fun _ _ _ _=>none
 |n+1=>jE rec1 (eE rec1 n)
def jD(rec1:List Int→Int→Int→Int→Option (Int×List Int))(aD:List Int)(a_1:Int)(i_9:Int)(oH:Int):Option (Int×List Int):=
 eE rec1 aY aD a_1 i_9 oH
def cU:Nat→List Int→Int→Int→Int→Option (Int×List Int)
 |0=>fun _ _ _ _=>none
 |n+1=>jD (cU n)
def eW(aD:List Int)(a_1:Int)(b_2:Int)(lJ:Int):Option (Int×List Int):=
 ((idx aD lJ).bind fun x2=>
 ((idx aD a_1).bind fun x4=>
 ((idx aD a_1).bind fun x6=>
 ((stt aD a_1 x2).bind fun l8=>
 ((idx l8 lJ).bind fun x10=>
 ((stt l8 lJ x4).bind fun l12=>
 cU aY l12 a_1 (IntKind.i64.wrap (a_1+1)) (IntKind.i64.wrap (b_2-1))))))))
instance:FB prog 200:=⟨by kernel_rfl⟩
theorem mN: ∀ {aD:List Int} {a_1:Int} {b_2:Int} {lJ:Int},KM prog 200 [.v (.int .i64 a_1),vi b_2,vi lJ] aD (eW aD a_1 b_2 lJ) (fun r=>r.2) (fun r=> .v (.int .i64 r.1)):=by
 intro aD a_1 b_2 lJ r hm H i0 he;refine bM 84 func200 he fun h0=>?_
 let I1:=((fun m s=> ∃aD a_1 i_9 oH,jM 84 (aF (aF (aF (aF fa 0 (.own i0 0 aD.length)) 1 (vi a_1)) 9 (vi i_9)) 10 (vi oH)) h0 i0 aD (cU m aD a_1 i_9 oH) r s):Nat→St→Prop)
 let I2:=fun (n1:Nat)=>((fun m s=> ∃aD a_1 i_9 oH,jM 84 (aF (aF (aF (aF fa 0 (.own i0 0 aD.length)) 1 (vi a_1)) 9 (vi i_9)) 10 (vi oH)) h0 i0 aD (eE (cU n1) m aD a_1 i_9 oH) r s):Nat→St→Prop)
 let I3:=fun (n1:Nat)=>((fun m s=> ∃aD a_1 i_9 oH,jM 84 (aF (aF (aF (aF fa 0 (.own i0 0 aD.length)) 1 (vi a_1)) 9 (vi i_9)) 10 (vi oH)) h0 i0 aD (eG (cU n1) m aD a_1 i_9 oH) r s):Nat→St→Prop)
 exact GM
instance:Ct prog 200 (∀ {aD:List Int} {a_1:Int} {b_2:Int} {lJ:Int},KM prog 200 [.v (.int .i64 a_1),vi b_2,vi lJ] aD (eW aD a_1 b_2 lJ) (fun r=>r.2) (fun r=> .v (.int .i64 r.1))):=⟨mN⟩
def kT(rec3:List Int→Int→Int→Int→Option (Int×Bool×List Int))(rec5:List Int→Int→Int→Int→Option (Int×Bool×List Int))(aD:List Int)(a_1:Int)(iJ:Int)(iK:Int):Option (Int×Bool×List Int):=
 ((eJ ((decide (iJ≤iK))==true) 0 (idx aD iK)).bind fun x56=>
 ((eJ ((decide (iJ≤iK))==true) 0 (idx aD a_1)).bind fun x58=>
 ((eJ ((decide (iJ≤iK))==true) false (dC x56 x58)).bind fun r60=>
 (bif ((decide (iJ≤iK))&&(!r60)) then
  rec5 aD a_1 iJ (IntKind.i64.wrap (iK-1))
 else
  (bif (decide (iK<iJ)) then
   ((idx aD a_1).bind fun x62=>
   ((idx aD iK).bind fun x64=>
   ((idx aD iK).bind fun x66=>
   ((stt aD iK x62).bind fun l68=>
   ((idx l68 a_1).bind fun x70=>
   ((stt l68 a_1 x64).bind fun l72=>
   some (iK,false,l72)))))))
  else
   ((idx aD iK).bind fun x74=>
   ((idx aD iJ).bind fun x76=>
   ((idx aD iJ).bind fun x78=>
   ((stt aD iJ x74).bind fun l80=>
   ((idx l80 iK).bind fun x82=>
   ((stt l80 iK x76).bind fun l84=>
   rec3 l84 a_1 (IntKind.i64.wrap (iJ+1)) (IntKind.i64.wrap (iK-1)))))))))))))
def gF(rec3:List Int→Int→Int→Int→Option (Int×Bool×List Int)):Nat→List Int→Int→Int→Int→Option (Int×Bool×List Int)
 |0=>fun _ _ _ _=>none
 |n+1=>kT rec3 (gF rec3 n)
def kS(rec3:List Int→Int→Int→Int→Option (Int×Bool×List Int))(rec4:List Int→Int→Int→Int→Option (Int×Bool×List Int))(aD:List Int)(a_1:Int)(iJ:Int)(iK:Int):Option (Int×Bool×List Int):=
 ((eJ ((decide (iJ≤iK))==true) 0 (idx aD iJ)).bind fun x50=>
 ((eJ ((decide (iJ≤iK))==true) 0 (idx aD a_1)).bind fun x52=>
 ((eJ ((decide (iJ≤iK))==true) false (dC x50 x52)).bind fun r54=>
 (bif ((decide (iJ≤iK))&&r54) then
  rec4 aD a_1 (IntKind.i64.wrap (iJ+1)) iK
 else
  gF rec3 aY aD a_1 iJ iK))))
def gD(rec3:List Int→Int→Int→Int→Option (Int×Bool×List Int)):Nat→List Int→Int→Int→Int→Option (Int×Bool×List Int)
 |0=>fun _ _ _ _=>none
 |n+1=>kS rec3 (gD rec3 n)
def kR(rec3:List Int→Int→Int→Int→Option (Int×Bool×List Int))(aD:List Int)(a_1:Int)(iJ:Int)(iK:Int):Option (Int×Bool×List Int):=
 gD rec3 aY aD a_1 iJ iK
def dQ:Nat→List Int→Int→Int→Int→Option (Int×Bool×List Int)
 |0=>fun _ _ _ _=>none
 |n+1=>kR (dQ n)
def kQ(rec2:List Int→Int→Int→Int→Option (Int×Bool×List Int))(aD:List Int)(a_1:Int)(iJ:Int)(iK:Int):Option (Int×Bool×List Int):=
 ((eJ ((decide (iJ≤iK))==true) 0 (idx aD iK)).bind fun x20=>
 ((eJ ((decide (iJ≤iK))==true) 0 (idx aD a_1)).bind fun x22=>
 ((eJ ((decide (iJ≤iK))==true) false (dC x20 x22)).bind fun r24=>
 (bif ((decide (iJ≤iK))&&(!r24)) then
  rec2 aD a_1 iJ (IntKind.i64.wrap (iK-1))
 else
  (bif (decide (iK<iJ)) then
   ((idx aD a_1).bind fun x26=>
   ((idx aD iK).bind fun x28=>
   ((idx aD iK).bind fun x30=>
   ((stt aD iK x26).bind fun l32=>
   ((idx l32 a_1).bind fun x34=>
   ((stt l32 a_1 x28).bind fun l36=>
   some (iK,true,l36)))))))
  else
   ((idx aD iK).bind fun x38=>
   ((idx aD iJ).bind fun x40=>
   ((idx aD iJ).bind fun x42=>
   ((stt aD iJ x38).bind fun l44=>
   ((idx l44 iK).bind fun x46=>
   ((stt l44 iK x40).bind fun l48=>
   dQ aY l48 a_1 (IntKind.i64.wrap (iJ+1)) (IntKind.i64.wrap (iK-1)))))))))))))
def fZ:Nat→List Int→Int→Int→Int→Option (Int×Bool×List Int)
 |0=>fun _ _ _ _=>none
 |n+1=>kQ (fZ n)
def kP(rec1:List Int→Int→Int→Int→Option (Int×Bool×List Int))(aD:List Int)(a_1:Int)(iJ:Int)(iK:Int):Option (Int×Bool×List Int):=
 ((eJ ((decide (iJ≤iK))==true) 0 (idx aD iJ)).bind fun x14=>
 ((eJ ((decide (iJ≤iK))==true) 0 (idx aD a_1)).bind fun x16=>
 ((eJ ((decide (iJ≤iK))==true) false (dC x14 x16)).bind fun r18=>
 (bif ((decide (iJ≤iK))&&r18) then
  rec1 aD a_1 (IntKind.i64.wrap (iJ+1)) iK
 else
  fZ aY aD a_1 iJ iK))))
def fY:Nat→List Int→Int→Int→Int→Option (Int×Bool×List Int)
 |0=>fun _ _ _ _=>none
 |n+1=>kP (fY n)
def gS(aD:List Int)(a_1:Int)(b_2:Int)(lJ:Int):Option (Int×Bool×List Int):=
 ((idx aD lJ).bind fun x2=>
 ((idx aD a_1).bind fun x4=>
 ((idx aD a_1).bind fun x6=>
 ((stt aD a_1 x2).bind fun l8=>
 ((idx l8 lJ).bind fun x10=>
 ((stt l8 lJ x4).bind fun l12=>
 fY aY l12 a_1 (IntKind.i64.wrap (a_1+1)) (IntKind.i64.wrap (b_2-1))))))))
instance:FB prog 201:=⟨by kernel_rfl⟩
theorem pY: ∀ {aD:List Int} {a_1:Int} {b_2:Int} {lJ:Int},KM prog 201 [.v (.int .i64 a_1),vi b_2,vi lJ] aD (gS aD a_1 b_2 lJ) (fun r=>r.2.2) (fun r=> .tup [vi r.1,vb r.2.1]):=by
 intro aD a_1 b_2 lJ r hm H i0 he;refine bM 168 func201 he fun h0=>?_
 let I1:=((fun m s=> ∃aD a_1 iJ iK,jM 168 (aF (aF (aF (aF fa 0 (.own i0 0 aD.length)) 1 (vi a_1)) 10 (vi iJ)) 11 (vi iK)) h0 i0 aD (fY m aD a_1 iJ iK) r s):Nat→St→Prop)
 let I2:=((fun m s=> ∃aD a_1 iJ iK,jM 168 (aF (aF (aF (aF fa 0 (.own i0 0 aD.length)) 1 (vi a_1)) 10 (vi iJ)) 11 (vi iK)) h0 i0 aD (fZ m aD a_1 iJ iK) r s):Nat→St→Prop)
 let I3:=((fun m s=> ∃aD a_1 iJ iK,jM 168 (aF (aF (aF (aF fa 0 (.own i0 0 aD.length)) 1 (vi a_1)) 10 (vi iJ)) 11 (vi iK)) h0 i0 aD (dQ m aD a_1 iJ iK) r s):Nat→St→Prop)
 let I4:=fun (n3:Nat)=>((fun m s=> ∃aD a_1 iJ iK,jM 168 (aF (aF (aF (aF fa 0 (.own i0 0 aD.length)) 1 (vi a_1)) 10 (vi iJ)) 11 (vi iK)) h0 i0 aD (gD (dQ n3) m aD a_1 iJ iK) r s):Nat→St→Prop)
 let I5:=fun (n3:Nat)=>((fun m s=> ∃aD a_1 iJ iK,jM 168 (aF (aF (aF (aF fa 0 (.own i0 0 aD.length)) 1 (vi a_1)) 10 (vi iJ)) 11 (vi iK)) h0 i0 aD (gF (dQ n3) m aD a_1 iJ iK) r s):Nat→St→Prop)
 exact GM
instance:Ct prog 201 (∀ {aD:List Int} {a_1:Int} {b_2:Int} {lJ:Int},KM prog 201 [.v (.int .i64 a_1),vi b_2,vi lJ] aD (gS aD a_1 b_2 lJ) (fun r=>r.2.2) (fun r=> .tup [vi r.1,vb r.2.1])):=⟨pY⟩
abbrev fJ(recf:(List Int)→Int→Int→Int→Option (List Int))(rec1:List Int→Int→Int→Int→Bool→Bool→Option (List Int))(aD:List Int)(a_1:Int)(b_2:Int)(cQ:Int)(bK:Bool)(bE:Bool)(fG:Int)(lZ:Int):Option (List Int):=
 ((eJ ((decide (0<a_1))==true) 0 (idx aD (IntKind.i64.wrap (a_1-1)))).bind fun x9=>
 ((eJ ((decide (0<a_1))==true) 0 (idx aD lZ)).bind fun x11=>
 ((eJ ((decide (0<a_1))==true) false (dC x9 x11)).bind fun r13=>
 (bif ((decide (0<a_1))&&(!r13)) then
  ((aA9 (fun x=>x.2.length) aD.length (eW aD a_1 b_2 lZ)).bind fun ⟨r16,l15⟩=>
  rec1 l15 r16 b_2 cQ bK bE)
 else
  ((aA9 (fun x=>x.2.2.length) aD.length (gS aD a_1 b_2 lZ)).bind fun ⟨r19,r20,l18⟩=>
  (bif (decide ((IntKind.i64.wrap (r19-a_1))<(IntKind.i64.wrap (b_2-r19)))) then
   ((aA9 (fun x=>x.length) l18.length (recf l18 a_1 r19 cQ)).bind fun l22=>
   rec1 l22 (IntKind.i64.wrap (r19+1)) b_2 cQ (decide ((IntKind.i64.wrap (Int.tdiv fG 8))≤(IntKind.i64.wrap (r19-a_1)))) r20)
  else
   ((aA9 (fun x=>x.length) l18.length (recf l18 (IntKind.i64.wrap (r19+1)) b_2 cQ)).bind fun l24=>
   rec1 l24 a_1 r19 cQ (decide ((IntKind.i64.wrap (Int.tdiv fG 8))≤(IntKind.i64.wrap (b_2-r19)))) r20)))))))
abbrev fI(recf:(List Int)→Int→Int→Int→Option (List Int))(rec1:List Int→Int→Int→Int→Bool→Bool→Option (List Int))(aD:List Int)(a_1:Int)(b_2:Int)(cQ:Int)(bK:Bool)(bE:Bool)(fG:Int)(lZ:Int)(aMz:Int):Option (List Int):=
 (bif ((bK&&bE)&&(aMz==1)) then
  ((aA9 (fun x=>x.2.length) aD.length (dO aD a_1 b_2)).bind fun ⟨r27,l26⟩=>
  (bif r27 then
   some l26
  else
   fJ recf rec1 l26 a_1 b_2 cQ bK bE fG lZ))
 else
  fJ recf rec1 aD a_1 b_2 cQ bK bE fG lZ)
abbrev fH(recf:(List Int)→Int→Int→Int→Option (List Int))(rec1:List Int→Int→Int→Int→Bool→Bool→Option (List Int))(aD:List Int)(a_1:Int)(b_2:Int)(cQ:Int)(bK:Bool)(bE:Bool)(fG:Int):Option (List Int):=
 ((fT aD a_1 b_2).bind fun ⟨r6,r7⟩=>
 (bif (r7==2) then
  ((aA9 (fun x=>x.length) aD.length (fO aD a_1 b_2)).bind fun l29=>
  fI recf rec1 l29 a_1 b_2 cQ bK bE fG (IntKind.i64.wrap ((IntKind.i64.wrap (b_2-1))-(IntKind.i64.wrap (r6-a_1)))) 1)
 else
  fI recf rec1 aD a_1 b_2 cQ bK bE fG r6 r7))
def iC(recf:(List Int)→Int→Int→Int→Option (List Int))(rec1:List Int→Int→Int→Int→Bool→Bool→Option (List Int))(aD:List Int)(a_1:Int)(b_2:Int)(cQ:Int)(bK:Bool)(bE:Bool):Option (List Int):=
 (bif (decide ((IntKind.i64.wrap (b_2-a_1))≤12)) then
  ((aA9 (fun x=>x.length) aD.length (fD aD a_1 b_2)).bind fun l2=>
  some l2)
 else
  (bif (cQ==0) then
   ((aA9 (fun x=>x.length) aD.length (iB aD a_1 b_2)).bind fun l4=>
   some l4)
  else
   (bif (!bK) then
    ((aA9 (fun x=>x.length) aD.length (fC aD a_1 b_2)).bind fun l31=>
    fH recf rec1 l31 a_1 b_2 (IntKind.i64.wrap (cQ-1)) bK bE (IntKind.i64.wrap (b_2-a_1)))
   else
    fH recf rec1 aD a_1 b_2 cQ bK bE (IntKind.i64.wrap (b_2-a_1)))))
def bN(recf:(List Int)→Int→Int→Int→Option (List Int)):Nat→List Int→Int→Int→Int→Bool→Bool→Option (List Int)
 |0=>fun _ _ _ _ _ _=>none
 |n+1=>iC recf (bN recf n)
def lW(recf:(List Int)→Int→Int→Int→Option (List Int))(aD:List Int)(a_1:Int)(b_2:Int)(cQ:Int):Option (List Int):=
 bN recf aY aD a_1 b_2 cQ true true
def bI:Nat→(List Int)→Int→Int→Int→Option (List Int)
 |0=>fun _ _ _ _=>none
 |n+1=>lW (bI n)
def rK(aD:List Int)(a_1:Int)(b_2:Int)(cQ:Int):Option (List Int):=bI aY aD a_1 b_2 cQ
theorem aBp: ∀(nn:Nat) {aD:List Int} {a_1:Int} {b_2:Int} {cQ:Int} {r:List Int} (hm:bI nn aD a_1 b_2 cQ=some r) {H:aH} {i0:Nat} (he:H.ent i0= .cells 1 (aD.flatMap (ci .u64)) 0) (hk: ∀id,3000000≤id→H.ent id= .fresh) (hD: ∀id,aF9 (H.ent id)) (hi:i0<3000000),eK prog 159 [.own i0 0 aD.length,.v (.int .i64 a_1),.v (.int .i64 b_2),.v (.int .i64 cQ)] H (.tup []) (H.put i0 (.cells 1 (r.flatMap (ci .u64)) 0)):=by
 intro nn
 induction nn with
 |zero=>
  intro aD a_1 b_2 cQ r hm;replace hm:none=some r:=hm;cases hm
 |succ nn ih=>
  intro aD a_1 b_2 cQ r hm H i0 he hk hD hi;replace hm:lW (bI nn) aD a_1 b_2 cQ=some r:=hm;refine eK.of_bodyK func159 rfl he hk ?_;clear he;generalize H.ent=h0 at hk hD⊢;have hne1: ∀ {k:Nat},3000000≤k→(k==i0)=false:=fun hh=>by simp;omega
  have hne2: ∀ {k:Nat},3000000≤k→(i0==k)=false:=fun hh=>by simp;omega
  simp only [ntmps159,List.length_cons,List.length_nil,Nat.reduceAdd,Nat.reduceSub];unfold lW at hm;refine AWp.behind ?_;refine sN 3000064 (pA ?_);refine fs (sN 3000128 (pA ?_));refine fs (AWp.block (AWp.loopM (fun m s=> ∃(aD:List Int) (a_1:Int) (b_2:Int) (cQ:Int) (bK:Bool) (bE:Bool),s=(⟨134,(aF (aF (aF (aF (aF (aF (fun _=>AV.any) 0 (.own i0 0 aD.length)) 1 (.v (.int .i64 a_1))) 2 (.v (.int .i64 b_2))) 3 (.v (.int .i64 cQ))) 8 (.v (.bool bK))) 9 (.v (.bool bE))),⟨(upd h0 i0 (.cells 1 (aD.flatMap (ci .u64)) 0)),64⟩⟩:St)∧bN (bI nn) m aD a_1 b_2 cQ bK bE=some r) aY ?_ ?_ ?_))
  · rintro s ⟨_,_,_,_,_,_,_,h⟩;cases h
  · refine ⟨_,?_,aD,a_1,b_2,cQ,true,true,rfl,hm⟩;exact sD (bD 9 _ Z1 (bD 8 _ Z1 (bD 3 _ Z1 (bD 2 _ Z1 (bD 1 _ Z1 (bD 0 _ (sE Z1 Z6) nF)))))) Zi
  ·
   rintro n1 s ⟨aD,a_1,b_2,cQ,bK,bE,rfl,hm⟩;replace hm:iC (bI nn) (bN (bI nn) n1) aD a_1 b_2 cQ bK bE=some r:=hm;unfold iC at hm;refine AWp.block (sN 128 ?_)
   iterate 4 refine pA ?_
   refine fs (AWp.seq' (sN 192 ?_))
   iterate 2 refine pA ?_
   refine fs (AWp.condM hm Z1 (fun _ hm=>?_) (fun _ hm=>?_))
   ·
    refine sN 256 ?_
    iterate 3 refine pA ?_
    obtain ⟨l2,h1,hm⟩:=bnd hm;have qh1:=aAo h1;refine aR.callM Zd Z1 bZh ?_ (nA (zL h1) (i0:=i0) Ze) ?_
    ·
     try simp only [go_sem,Nat.reduceBEq]
     first|done|rfl|(congr 2<;>omega)
    refine fs (AWp.ret (jC (sI (sJ (sI ?_)))));cases hm;exact aW4 (.inr rfl) Tryz.results159 (by intro q hq;simp only [upd];all_goals ((repeat' split)<;>first|rfl|omega)) (fun q hq=>by rw [upd_ne _ _ _ _ om];exact hk q hq) (sR (aI3 (CFi .u64)) hD)
   ·
    refine AWp.skip (bQ (AWp.seq' (sN 256 ?_)))
    iterate 2 refine pA ?_
    refine fs (AWp.condM hm Z1 (fun _ hm=>?_) (fun _ hm=>?_))
    ·
     refine sN 320 ?_
     iterate 3 refine pA ?_
     obtain ⟨l4,h3,hm⟩:=bnd hm;have qh3:=aAo h3;refine aR.callM Zd Z1 bZi ?_ (qI (zL h3) (i0:=i0) Ze) ?_
     ·
      try simp only [go_sem,Nat.reduceBEq]
      first|done|rfl|(congr 2<;>omega)
     refine fs (AWp.ret (jC (sI (sJ (sI ?_)))));cases hm;exact aW4 (.inr rfl) Tryz.results159 (by intro q hq;simp only [upd];all_goals ((repeat' split)<;>first|rfl|omega)) (fun q hq=>by rw [upd_ne _ _ _ _ om];exact hk q hq) (sR (aI3 (CFi .u64)) hD)
    ·
     refine AWp.skip (bQ (AWp.seqJ (fun s=> ∃(aD:List Int) (a_1:Int) (b_2:Int) (cQ:Int) (bK:Bool) (bE:Bool) (fG:Int),s=(⟨134,(aF (aF (aF (aF (aF (aF (aF (fun _=>AV.any) 0 (.own i0 0 aD.length)) 1 (.v (.int .i64 a_1))) 2 (.v (.int .i64 b_2))) 3 (.v (.int .i64 cQ))) 8 (.v (.bool bK))) 9 (.v (.bool bE))) 10 (.v (.int .i64 fG))),⟨(upd h0 i0 (.cells 1 (aD.flatMap (ci .u64)) 0)),64⟩⟩:St)∧fH (bI nn) (bN (bI nn) n1) aD a_1 b_2 cQ bK bE fG=some r) ?_ ?_))
     ·
      refine sN 320 ?_
      iterate 2 refine pA ?_
      refine fs (AWp.condM hm Z1 (fun _ hm=>?_) (fun _ hm=>?_))
      ·
       refine sN 384 ?_
       iterate 3 refine pA ?_
       obtain ⟨l31,h30,hm⟩:=bnd hm;have qh30:=aAo h30;refine aR.callM Zd Z1 bZj ?_ (xQ (zL h30) (i0:=i0) Ze (fun q hq=>by simp only [upd_ne _ _ _ _ (show q≠i0 by omega)];exact hk q hq) (by (repeat (first|exact hD|refine sR (aI3 (CFi .u64)) ?_))) hi) ?_
       ·
        try simp only [go_sem,Nat.reduceBEq]
        first|done|rfl|(congr 2<;>omega)
       refine fs (AWp.reg 64 (N':=448) rfl ?_)
       iterate 3 refine pA ?_
       refine aR.fin (oY ?_);refine ⟨_,?_,l31,a_1,b_2,(IntKind.i64.wrap (cQ-1)),bK,bE,(IntKind.i64.wrap (b_2-a_1)),rfl,hm⟩;exact sD (bD 10 _ Z1 (bD 9 _ Z1 (bD 8 _ Z1 (bD 3 _ Z1 (bD 2 _ Z1 (bD 1 _ Z1 (bD 0 _ (sE Z1 Z6) nF))))))) Zi
      · refine AWp.skip (oY ?_);refine ⟨_,?_,aD,a_1,b_2,cQ,bK,bE,(IntKind.i64.wrap (b_2-a_1)),rfl,hm⟩;exact sD (bD 10 _ Z1 (bD 9 _ Z1 (bD 8 _ Z1 (bD 3 _ Z1 (bD 2 _ Z1 (bD 1 _ Z1 (bD 0 _ (sE Z1 Z6) nF))))))) Zi
     ·
      rintro s ⟨aD,a_1,b_2,cQ,bK,bE,fG,rfl,hm⟩;unfold fH at hm;refine sN 128 ?_
      iterate 3 refine pA ?_
      obtain ⟨⟨r6,r7⟩,h5,hm⟩:=bnd hm;refine aR.callB (r:= .tup [.v (.int .i64 r6),.v (.int .i64 r7)]) Zd Z1 bZk (.cons (lto (CFi .u64) Z1 Ze Z6) (.cons (ltd fun H=>(td Z1 (.v _))) (.cons (ltd fun H=>(td Z1 (.v _))) aTu.nil))) cB0 (nW h5) ?_
      iterate 5 refine pA ?_
      refine fs (AWp.seqJ (fun s=> ∃(aD:List Int) (a_1:Int) (b_2:Int) (cQ:Int) (bK:Bool) (bE:Bool) (fG:Int) (lZ:Int) (aMz:Int),s=(⟨134,(aF (aF (aF (aF (aF (aF (aF (aF (aF (fun _=>AV.any) 0 (.own i0 0 aD.length)) 1 (.v (.int .i64 a_1))) 2 (.v (.int .i64 b_2))) 3 (.v (.int .i64 cQ))) 8 (.v (.bool bK))) 9 (.v (.bool bE))) 10 (.v (.int .i64 fG))) 11 (.v (.int .i64 lZ))) 12 (.v (.int .i64 aMz))),⟨(upd h0 i0 (.cells 1 (aD.flatMap (ci .u64)) 0)),64⟩⟩:St)∧fI (bI nn) (bN (bI nn) n1) aD a_1 b_2 cQ bK bE fG lZ aMz=some r) ?_ ?_)
      ·
       refine sN 192 ?_
       iterate 2 refine pA ?_
       refine fs (AWp.condM hm Z1 (fun _ hm=>?_) (fun _ hm=>?_))
       ·
        refine sN 256 ?_
        iterate 3 refine pA ?_
        obtain ⟨l29,h28,hm⟩:=bnd hm;have qh28:=aAo h28;refine aR.callM Zd Z1 bZl ?_ (nI (zL h28) (i0:=i0) Ze) ?_
        ·
         try simp only [go_sem,Nat.reduceBEq]
         first|done|rfl|(congr 2<;>omega)
        refine fs (sN 320 ?_)
        iterate 7 refine pA ?_
        refine fs (AWp.reg 64 (N':=384) rfl ?_);refine pA ?_;refine aR.fin (oY ?_);refine ⟨_,?_,l29,a_1,b_2,cQ,bK,bE,fG,(IntKind.i64.wrap ((IntKind.i64.wrap (b_2-1))-(IntKind.i64.wrap (r6-a_1)))),1,rfl,hm⟩;exact sD (bD 12 _ Z1 (bD 11 _ Z1 (bD 10 _ Z1 (bD 9 _ Z1 (bD 8 _ Z1 (bD 3 _ Z1 (bD 2 _ Z1 (bD 1 _ Z1 (bD 0 _ (sE Z1 Z6) nF))))))))) Zi
       · refine AWp.skip (oY ?_);refine ⟨_,?_,aD,a_1,b_2,cQ,bK,bE,fG,r6,r7,rfl,hm⟩;exact sD (bD 12 _ Z1 (bD 11 _ Z1 (bD 10 _ Z1 (bD 9 _ Z1 (bD 8 _ Z1 (bD 3 _ Z1 (bD 2 _ Z1 (bD 1 _ Z1 (bD 0 _ (sE Z1 Z6) nF))))))))) Zi
      ·
       rintro s ⟨aD,a_1,b_2,cQ,bK,bE,fG,lZ,aMz,rfl,hm⟩;unfold fI at hm;refine AWp.seqJ (fun s=> ∃(aD:List Int) (a_1:Int) (b_2:Int) (cQ:Int) (bK:Bool) (bE:Bool) (fG:Int) (lZ:Int),s=(⟨134,(aF (aF (aF (aF (aF (aF (aF (aF (fun _=>AV.any) 0 (.own i0 0 aD.length)) 1 (.v (.int .i64 a_1))) 2 (.v (.int .i64 b_2))) 3 (.v (.int .i64 cQ))) 8 (.v (.bool bK))) 9 (.v (.bool bE))) 10 (.v (.int .i64 fG))) 11 (.v (.int .i64 lZ))),⟨(upd h0 i0 (.cells 1 (aD.flatMap (ci .u64)) 0)),64⟩⟩:St)∧fJ (bI nn) (bN (bI nn) n1) aD a_1 b_2 cQ bK bE fG lZ=some r) ?_ ?_
       ·
        refine sN 128 ?_
        iterate 8 first|refine pA ?_|refine pB ?_
        refine fs (AWp.condM hm Z1 (fun _ hm=>?_) (fun _ hm=>?_))
        ·
         refine sN 192 ?_
         iterate 3 refine pA ?_
         obtain ⟨⟨r27,l26⟩,h25,hm⟩:=bnd hm;have qh25:=aAo h25;dsimp only at qh25;refine aR.callM Zd Z1 bZm ?_ (kO (zL h25) (i0:=i0) Ze) ?_
         ·
          try simp only [go_sem,Nat.reduceBEq]
          first|done|rfl|(congr 2<;>omega)
         refine fs (AWp.condM hm Z1 (fun _ hm=>?_) (fun _ hm=>?_))
         · refine AWp.ret (bBk (sI (sJ (sI ?_))));cases hm;exact aW4 (.inr rfl) Tryz.results159 (by intro q hq;simp only [upd];all_goals ((repeat' split)<;>first|rfl|omega)) (fun q hq=>by rw [upd_ne _ _ _ _ om];exact hk q hq) (sR (aI3 (CFi .u64)) hD)
         · refine AWp.skip (oY ?_);refine ⟨_,?_,l26,a_1,b_2,cQ,bK,bE,fG,lZ,rfl,hm⟩;exact sD (bD 11 _ Z1 (bD 10 _ Z1 (bD 9 _ Z1 (bD 8 _ Z1 (bD 3 _ Z1 (bD 2 _ Z1 (bD 1 _ Z1 (bD 0 _ (sE Z1 Z6) nF)))))))) Zi
        · refine AWp.skip (oY ?_);refine ⟨_,?_,aD,a_1,b_2,cQ,bK,bE,fG,lZ,rfl,hm⟩;exact sD (bD 11 _ Z1 (bD 10 _ Z1 (bD 9 _ Z1 (bD 8 _ Z1 (bD 3 _ Z1 (bD 2 _ Z1 (bD 1 _ Z1 (bD 0 _ (sE Z1 Z6) nF)))))))) Zi
       ·
        rintro s ⟨aD,a_1,b_2,cQ,bK,bE,fG,lZ,rfl,hm⟩;unfold fJ at hm;refine AWp.seq' (sd mix (by kernel_rfl) (N':=128) rfl ?_)
        iterate 6 first|refine pA ?_|refine pB ?_
        obtain ⟨x9,h8,hm⟩:=bnd hm;refine pg rfl rfl Z2 (fun hb=>(iX underlying24 aM8 (Zh hb) Ze Z6 (Zh hb) (kF h8 hb))) ?_;refine pg rfl rfl Z2 (fun hb=>(aAf (CFi .u64) (Zh hb) Ze (kF h8 hb) Zb)) ?_
        iterate 2 refine pB ?_
        obtain ⟨x11,h10,hm⟩:=bnd hm;refine pg rfl rfl Z2 (fun hb=>(iX underlying24 aM8 (Zh hb) Ze Z6 (Zh hb) (kF h10 hb))) ?_;refine pg rfl rfl Z2 (fun hb=>(aAf (CFi .u64) (Zh hb) Ze (kF h10 hb) Zb)) ?_;obtain ⟨r13,h12,hm⟩:=bnd hm;refine aR.callQG (r:= .v (.bool r13)) Zd rfl Z2 Z1 bVh (fun hb H=>(.cons (td (Zh hb) (.v _)) (.cons (td (Zh hb) (.v _)) .nil))) (fun hb=>aBy (kF h12 hb)) ?_
        iterate 2 first|refine pA ?_|refine pB ?_
        refine fs (AWp.condM hm Z1 (fun _ hm=>?_) (fun _ hm=>?_))
        ·
         refine sN 192 ?_
         iterate 4 refine pA ?_
         obtain ⟨⟨r16,l15⟩,h14,hm⟩:=bnd hm;have qh14:=aAo h14;dsimp only at qh14;refine aR.callM Zd Z1 bZn ?_ (mN (zL h14) (i0:=i0) Ze) ?_
         ·
          try simp only [go_sem,Nat.reduceBEq]
          first|done|rfl|(congr 2<;>omega)
         refine pA ?_;refine fs (sN 256 ?_)
         iterate 2 refine pA ?_
         refine fs (AWp.exit (kE (iS (iA ?_))));refine ⟨_,?_,l15,r16,b_2,cQ,bK,bE,rfl,hm⟩;exact sD (bD 9 _ Z1 (bD 8 _ Z1 (bD 3 _ Z1 (bD 2 _ Z1 (bD 1 _ Z1 (bD 0 _ (sE Z1 Z6) nF)))))) Zi
        ·
         refine AWp.skip (bQ (sN 192 ?_))
         iterate 4 refine pA ?_
         obtain ⟨⟨r19,r20,l18⟩,h17,hm⟩:=bnd hm;have qh17:=aAo h17;dsimp only at qh17;refine aR.callM Zd Z1 bZo ?_ (pY (zL h17) (i0:=i0) Ze) ?_
         ·
          try simp only [go_sem,Nat.reduceBEq]
          first|done|rfl|(congr 2<;>omega)
         iterate 5 refine pA ?_
         refine fs (sN 256 ?_)
         iterate 2 refine pA ?_
         refine fs (sN 320 ?_)
         iterate 8 refine pA ?_
         refine fs (sN 384 ?_)
         iterate 3 refine pu rfl Zj ?_
         refine fs (sN 448 ?_)
         iterate 3 refine pA ?_
         refine fs (AWp.condM hm Z1 (fun _ hm=>?_) (fun _ hm=>?_))
         ·
          refine sN 512 ?_
          iterate 4 refine pA ?_
          refine fs (sN 576 ?_)
          iterate 4 refine pA ?_
          obtain ⟨l22,h21,hm⟩:=bnd hm;have qh21:=aAo h21;refine aR.callM Zd Z1 bNg ?_ (ih (zL h21) (i0:=i0) Ze (fun q hq=>by simp only [upd_ne _ _ _ _ (show q≠i0 by omega)];exact hk q hq) (by (repeat (first|exact hD|refine sR (aI3 (CFi .u64)) ?_))) hi) ?_
          ·
           try simp only [go_sem,Nat.reduceBEq]
           first|done|rfl|(congr 2<;>omega)
          refine fs (AWp.reg 64 (N':=640) rfl ?_)
          iterate 3 refine pA ?_
          refine aR.fin (jP (iA ?_));refine ⟨_,?_,l22,(IntKind.i64.wrap (r19+1)),b_2,cQ,(decide ((IntKind.i64.wrap (Int.tdiv fG 8))≤(IntKind.i64.wrap (r19-a_1)))),r20,rfl,hm⟩;exact sD (bD 9 _ Z1 (bD 8 _ Z1 (bD 3 _ Z1 (bD 2 _ Z1 (bD 1 _ Z1 (bD 0 _ (sE Z1 Z6) nF)))))) Zi
         ·
          refine sN 512 ?_
          iterate 4 refine pA ?_
          refine fs (sN 576 ?_)
          iterate 5 refine pA ?_
          obtain ⟨l24,h23,hm⟩:=bnd hm;have qh23:=aAo h23;refine aR.callM Zd Z1 bNg ?_ (ih (zL h23) (i0:=i0) Ze (fun q hq=>by simp only [upd_ne _ _ _ _ (show q≠i0 by omega)];exact hk q hq) (by (repeat (first|exact hD|refine sR (aI3 (CFi .u64)) ?_))) hi) ?_
          ·
           try simp only [go_sem,Nat.reduceBEq]
           first|done|rfl|(congr 2<;>omega)
          refine fs (AWp.reg 64 (N':=640) rfl ?_)
          iterate 2 refine pA ?_
          refine aR.fin (jP (iA ?_));refine ⟨_,?_,l24,a_1,r19,cQ,(decide ((IntKind.i64.wrap (Int.tdiv fG 8))≤(IntKind.i64.wrap (b_2-r19)))),r20,rfl,hm⟩;exact sD (bD 9 _ Z1 (bD 8 _ Z1 (bD 3 _ Z1 (bD 2 _ Z1 (bD 1 _ Z1 (bD 0 _ (sE Z1 Z6) nF)))))) Zi
theorem aCc{aD:List Int}{a_1:Int}{b_2:Int}{cQ:Int}{r:List Int}(hm:rK aD a_1 b_2 cQ=some r){H:aH}{i0:Nat}(he:H.ent i0= .cells 1 (aD.flatMap (ci .u64)) 0)(hk: ∀id,3000000≤id→H.ent id= .fresh)(hD: ∀id,aF9 (H.ent id))(hi:i0<3000000):eK prog 159 [.own i0 0 aD.length,.v (.int .i64 a_1),.v (.int .i64 b_2),.v (.int .i64 cQ)] H (.tup []) (H.put i0 (.cells 1 (r.flatMap (ci .u64)) 0)):=aBp aY hm he hk hD hi
def lH(x_0:List Int):Option (List Int):=
 ((xU (IntKind.u64.wrap (x_0.length:Int))).bind fun r2=>
 ((aA9 (fun x=>x.length) x_0.length (rK x_0 0 (x_0.length:Int) r2)).bind fun l4=>
 some l4))
theorem aM6{x_0:List Int}{r:List Int}(hm:lH x_0=some r){H:aH}{i0:Nat}(he:H.ent i0= .cells 1 (x_0.flatMap (ci .u64)) 0)(hk: ∀id,3000000≤id→H.ent id= .fresh)(hD: ∀id,aF9 (H.ent id))(hi:i0<3000000):eK prog 121 [.own i0 0 x_0.length] H (.tup []) (H.put i0 (.cells 1 (r.flatMap (ci .u64)) 0)):=by
 refine eK.of_bodyK func121 rfl he hk ?_;clear he;generalize H.ent=h0 at hk hD⊢;have hne1: ∀ {k:Nat},3000000≤k→(k==i0)=false:=fun hh=>by simp;omega
 have hne2: ∀ {k:Nat},3000000≤k→(i0==k)=false:=fun hh=>by simp;omega
 simp only [ntmps121,List.length_cons,List.length_nil,Nat.reduceAdd,Nat.reduceSub];unfold lH at hm;refine AWp.behind ?_;refine sN 3000064 ?_
 iterate 3 refine pA ?_
 refine fs (AWp.reg 64 (N':=3000128) rfl ?_)
 iterate 4 refine pA ?_
 obtain ⟨r2,h1,hm⟩:=bnd hm;refine aR.callQ (r:= .v (.int .i64 r2)) Zd Z1 bZf (fun H=>(cV .nil)) (aV9 h1) ?_;obtain ⟨l4,h3,hm⟩:=bnd hm;have qh3:=aAo h3;refine aR.callM Zd Z1 bNg ?_ (aCc (zL h3) (i0:=i0) Ze (fun q hq=>by simp only [upd_ne _ _ _ _ (show q≠i0 by omega)];exact hk q hq) (by (repeat (first|exact hD|refine sR (aI3 (CFi .u64)) ?_))) hi) ?_
 ·
  try simp only [go_sem,Nat.reduceBEq]
  first|done|rfl|(congr 2<;>omega)
 refine aR.fin ?_;cases hm;exact aW4 (.inl rfl) Tryz.results121 (by intro q hq;simp only [upd];all_goals ((repeat' split)<;>first|rfl|omega)) (fun q hq=>by rw [upd_ne _ _ _ _ om];exact hk q hq) (sR (aI3 (CFi .u64)) hD)
abbrev aCl(rec1:aC→List Int→List Int→Int→Int→Option ((List Int)))(s_2:aC)(jZ:List Int)(t8:List Int)(t9:Int)(t10:Int):Option ((List Int)):=
 rec1 s_2 jZ t8 t9 (IntKind.i64.wrap (t10+1))
def aH4(rec1:aC→List Int→List Int→Int→Int→Option ((List Int)))(s_2:aC)(jZ:List Int)(t8:List Int)(t9:Int)(t10:Int):Option ((List Int)):=
 (bif (decide (t10<t9)) then
  ((idx t8 t10).bind fun x2=>
  ((idx s_2.Slots x2).bind fun x4=>
  (bif x4.Used then
   ((idx s_2.Slots x2).bind fun x6=>
   ((app jZ [x6.Key]).bind fun l8=>
   aCl rec1 s_2 l8 t8 t9 t10))
  else
   aCl rec1 s_2 jZ t8 t9 t10)))
 else
  ((aA9 (fun x=>x.length) jZ.length (lH jZ)).bind fun l10=>
  some l10))
def uK:Nat→aC→List Int→List Int→Int→Int→Option ((List Int))
 |0=>fun _ _ _ _ _=>none
 |n+1=>aH4 (uK n)
def qF(s_0:aC)(l_1:List Int):Option ((List Int)):=
 uK aY s_0 [] l_1 (l_1.length:Int) 0
theorem bAf{s_0:aC}{l_1:List Int}{r:(List Int)}(hm:qF s_0 l_1=some r):cE prog 82 [.agg [vi s_0.Graph.Config.N,vi s_0.Graph.Config.L,vi s_0.Graph.Config.R,vl cH s_0.Graph.Hashes,vl aV s_0.Graph.Edges,vl aW s_0.Slots],vl (ci .i64) l_1] (vl (ci .u64) r):=by
 refine bd 33 func82 ?_;refine W ?_;refine lp (fun m s=> ∃s_2 jZ t8 t9 t10,s=⟨33,(aF (aF (aF (aF (aF fa 2 (.adr 1 0)) 5 (.own 2 0 jZ.length)) 8 (vl (ci .i64) t8)) 9 (vi t9)) 10 (vi t10)),⟨(upd (upd aZ 1 (.cells 1 [vi s_2.Graph.Config.N,vi s_2.Graph.Config.L,vi s_2.Graph.Config.R,vl cH s_2.Graph.Hashes,vl aV s_2.Graph.Edges,vl aW s_2.Slots] 0)) 2 (.cells 1 (jZ.flatMap (ci .u64)) 0)),64⟩⟩∧uK m s_2 jZ t8 t9 t10=some r) ?_ ?_
 · refine ⟨_,?_,s_0,[],l_1,(l_1.length:Int),0,rfl,hm⟩;refine St.Le.trans (aC2 5 900005 1 Z1 Z5) ?_;exact cn (fun j=>bif j==1 then 0 else bif j==2 then 900005 else 0)
 rintro n1 s ⟨s_2,jZ,t8,t9,t10,rfl,hm⟩;refine W ?_;refine cm hm (fun hm=>?_) fun hm=>?_
 ·
  refine V ?_;refine AWp.seqJ (fun s=> ∃s_2 jZ t8 t9 t10,s=⟨33,(aF (aF (aF (aF (aF fa 2 (.adr 1 0)) 5 (.own 2 0 jZ.length)) 8 (vl (ci .i64) t8)) 9 (vi t9)) 10 (vi t10)),⟨(upd (upd aZ 1 (.cells 1 [vi s_2.Graph.Config.N,vi s_2.Graph.Config.L,vi s_2.Graph.Config.R,vl cH s_2.Graph.Hashes,vl aV s_2.Graph.Edges,vl aW s_2.Slots] 0)) 2 (.cells 1 (jZ.flatMap (ci .u64)) 0)),64⟩⟩∧aCl (uK n1) s_2 jZ t8 t9 t10=some r) ?_ ?_
  ·
   obtain ⟨x2,h1,hm⟩:=bnd hm;obtain ⟨x4,h3,hm⟩:=bnd hm;refine W ?_;refine cm hm (fun hm=>?_) fun hm=>?_
   · have hm:=sb hm h3;refine W ?_;refine aL (CFi .u64) [x4.Key] ?_;obtain ⟨l8,h7,hm⟩:=bnd hm;refine W ?_;exact Lr (fun j=>bif j==1 then 1 else bif j==2 then 264 else 0)
   refine W ?_;exact Lr (fun j=>bif j==1 then 1 else bif j==2 then 2 else 0)
  rintro s ⟨s_2,jZ,t8,t9,t10,rfl,hm⟩;refine W ?_;exact Lr (fun j=>bif j==1 then 1 else bif j==2 then 2 else 0)
 obtain ⟨l10,h9,hm⟩:=bnd hm;refine W ?_;have qh9:=aAo h9;refine aR.callM Zd Z1 bZ9 Z1 (aM6 (zL h9) Z3 (by (repeat (first|exact bVn|refine bO7 ?_ Zd))) (by (repeat (first|exact bV9|refine sR trivial ?_|refine sR (aI3 (CFi .u64)) ?_|refine sR ⟨Nat.zero_le _,(aMb.dat s_2)⟩ ?_|refine sR ⟨Nat.zero_le _,DS⟩ ?_))) Zd) ?_;exact E
instance:Ct prog 82 (K2 prog dP (vl (ci .i64)) (vl (ci .u64)) 82 qF):=⟨fun hm=>bAf hm⟩
abbrev aC1(rec1:aC→Int→List Int→Int→Int→Option (Int))(s_2:aC)(aJ1:Int)(t8:List Int)(t9:Int)(t10:Int):Option (Int):=
 rec1 s_2 aJ1 t8 t9 (IntKind.i64.wrap (t10+1))
def aC0(rec1:aC→Int→List Int→Int→Int→Option (Int))(s_2:aC)(aJ1:Int)(t8:List Int)(t9:Int)(t10:Int):Option (Int):=
 (bif (decide (t10<t9)) then
  ((idx t8 t10).bind fun x2=>
  ((eJ ((t10==x2)==true) (aN.mk false 0) (idx s_2.Slots t10)).bind fun x4=>
  (bif ((t10==x2)&&x4.Used) then
   aC1 rec1 s_2 (IntKind.i64.wrap (aJ1+1)) t8 t9 t10
  else
   aC1 rec1 s_2 aJ1 t8 t9 t10)))
 else
  some aJ1)
def nK:Nat→aC→Int→List Int→Int→Int→Option (Int)
 |0=>fun _ _ _ _ _=>none
 |n+1=>aC0 (nK n)
def zJ(s_0:aC)(bEm:List Int):Option (Int):=
 nK aY s_0 0 bEm (bEm.length:Int) 0
theorem aSb:K2 prog dP (vl (ci .i64)) vi 85 zJ:=by
 intro s_0 bEm r hm
 let I1:=((fun m s=> ∃s_2 aJ1 t8 t9 t10,s=⟨30,(aF (aF (aF (aF (aF fa 2 (.adr 1 0)) 5 (vi aJ1)) 8 (vl (ci .i64) t8)) 9 (vi t9)) 10 (vi t10)),⟨(upd aZ 1 (.cells 1 [vi s_2.Graph.Config.N,vi s_2.Graph.Config.L,vi s_2.Graph.Config.R,vl cH s_2.Graph.Hashes,vl aV s_2.Graph.Edges,vl aW s_2.Slots] 0)),64⟩⟩∧nK m s_2 aJ1 t8 t9 t10=some r):Nat→St→Prop)
 exact be 30 func85 (h:=G)
instance:Ct prog 85 (K2 prog dP (vl (ci .i64)) vi 85 zJ):=⟨aSb⟩
def aDn(rec1:aC→List bG→List aE→Int→Int→Option ((List bG)))(s_1:aC)(aEw:List bG)(t19:List aE)(t20:Int)(t21:Int):Option ((List bG)):=
 (bif (decide (t21<t20)) then
  ((idx t19 t21).bind fun x4=>
  ((idx s_1.Slots x4.U).bind fun x6=>
  ((idx s_1.Slots x4.V).bind fun x8=>
  ((app aEw [(bG.mk (if x8.Key<x6.Key then x8.Key else x6.Key) (if x6.Key<x8.Key then x8.Key else x6.Key))]).bind fun l10=>
  rec1 s_1 l10 t19 t20 (IntKind.i64.wrap (t21+1))))))
 else
  ((aA9 (fun x=>x.length) aEw.length (aBt aEw)).bind fun l12=>
  some l12))
def sU:Nat→aC→List bG→List aE→Int→Int→Option ((List bG))
 |0=>fun _ _ _ _ _=>none
 |n+1=>aDn (sU n)
def vU(s_0:aC):Option ((List bG)):=
 ((kC s_0.Graph.Config.N s_0.Graph.Edges s_0.Graph.Config.L).bind fun r2=>
 sU aY s_0 [] r2 (r2.length:Int) 0)
theorem aUd{s_0:aC}{r:(List bG)}(hm:vU s_0=some r):cE prog 86 [.agg [vi s_0.Graph.Config.N,vi s_0.Graph.Config.L,vi s_0.Graph.Config.R,vl cH s_0.Graph.Hashes,vl aV s_0.Graph.Edges,vl aW s_0.Slots]] (vl iY r):=by
 refine bd 53 func86 ?_;obtain ⟨r2,h1,hm⟩:=bnd hm;refine W ?_;refine cq (aL4 h1) ?_;refine W ?_;refine lp (fun m s=> ∃s_1 aEw t19 t20 t21,s=⟨53,(aF (aF (aF (aF (aF fa 1 (.adr 1 0)) 4 (.own 2 0 aEw.length)) 19 (vl aV t19)) 20 (vi t20)) 21 (vi t21)),⟨(upd (upd aZ 1 (.cells 1 [vi s_1.Graph.Config.N,vi s_1.Graph.Config.L,vi s_1.Graph.Config.R,vl cH s_1.Graph.Hashes,vl aV s_1.Graph.Edges,vl aW s_1.Slots] 0)) 2 (.cells 2 (aEw.flatMap iY) 0)),64⟩⟩∧sU m s_1 aEw t19 t20 t21=some r) ?_ ?_
 · refine ⟨_,?_,s_0,[],r2,(r2.length:Int),0,rfl,hm⟩;refine St.Le.trans (aC2 4 900004 2 Z1 Z5) ?_;exact cn (fun j=>bif j==1 then 0 else bif j==2 then 900004 else 0)
 rintro n1 s ⟨s_1,aEw,t19,t20,t21,rfl,hm⟩;refine W ?_;refine cm hm (fun hm=>?_) fun hm=>?_
 · obtain ⟨x4,h3,hm⟩:=bnd hm;obtain ⟨x6,h5,hm⟩:=bnd hm;obtain ⟨x8,h7,hm⟩:=bnd hm;refine W ?_;refine bU (.agg [.v (.int .u64 (if x8.Key<x6.Key then x8.Key else x6.Key)),.v (.int .u64 (if x6.Key<x8.Key then x8.Key else x6.Key))]) ?_;refine aL aGi [(bG.mk (if x8.Key<x6.Key then x8.Key else x6.Key) (if x6.Key<x8.Key then x8.Key else x6.Key))] ?_;obtain ⟨l10,h9,hm⟩:=bnd hm;refine W ?_;exact Lr (fun j=>bif j==1 then 1 else bif j==2 then 265 else 0)
 obtain ⟨l12,h11,hm⟩:=bnd hm;refine W ?_;have qh11:=aAo h11;refine aR.callM Zd Z1 bZa Z1 (bBt (zL h11) Z3) ?_;exact E
instance:Ct prog 86 (K1 prog dP (vl iY) 86 vU):=⟨fun hm=>aUd hm⟩
def aM7(rec1:ByteArray→Int→Int→Option (Int))(b_0:ByteArray)(bBv:Int)(i_4:Int):Option (Int):=
 (bif (decide (i_4<(b_0.size:Int))) then
  ((aG7 bBv 257).bind fun r2=>
  ((aBo b_0 i_4).bind fun b4=>
  ((aG6 r2 (IntKind.u64.wrap ((IntKind.u64.wrap b4)+1))).bind fun r6=>
  rec1 b_0 r6 (IntKind.i64.wrap (i_4+1)))))
 else
  some bBv)
def aE5:Nat→ByteArray→Int→Int→Option (Int)
 |0=>fun _ _ _=>none
 |n+1=>aM7 (aE5 n)
def aKh(b_0:ByteArray):Option (Int):=
 aE5 aY b_0 1 0
theorem aW8:K1 prog vs vu 43 aKh:=by
 intro b_0 r hm
 let I1:=((fun m s=> ∃b_0 bBv i_4,s=⟨20,(aF (aF (aF fa 0 (.v (.string b_0))) 3 (vu bBv)) 4 (vi i_4)),⟨aZ,64⟩⟩∧aE5 m b_0 bBv i_4=some r):Nat→St→Prop)
 exact be 20 func43 (h:=G)
instance:Ct prog 43 (K1 prog vs vu 43 aKh):=⟨aW8⟩
abbrev aJu(rec3:aC→List Int→List aN→Int→Int→Option (ByteArray×Int))(s_1:aC)(b_5:List Int)(t58:List aN)(t59:Int)(t60:Int):Option (ByteArray×Int):=
 rec3 s_1 b_5 t58 t59 (IntKind.i64.wrap (t60+1))
abbrev aBs(rec3:aC→List Int→List aN→Int→Int→Option (ByteArray×Int))(s_1:aC)(b_5:List Int)(aKg:aN)(aNy:Int)(t58:List aN)(t59:Int)(t60:Int):Option (ByteArray×Int):=
 ((lQ b_5 aNy 1).bind fun l16=>
 ((lQ l16 aKg.Key 8).bind fun l18=>
 aJu rec3 s_1 l18 t58 t59 t60))
def aJt(rec4:List Int→List aE→Int→Int→Option (ByteArray×Int))(b_5:List Int)(t83:List aE)(t84:Int)(t85:Int):Option (ByteArray×Int):=
 (bif (decide (t85<t84)) then
  ((idx t83 t85).bind fun x22=>
  ((lQ b_5 (IntKind.u64.wrap x22.U) 2).bind fun l24=>
  ((lQ l24 (IntKind.u64.wrap x22.V) 2).bind fun l26=>
  ((lQ l26 (IntKind.u64.wrap x22.Tier) 1).bind fun l28=>
  rec4 l28 t83 t84 (IntKind.i64.wrap (t85+1))))))
 else
  ((aKh (fU b_5)).bind fun r30=>
  ((lQ b_5 r30 8).bind fun l32=>
  some ((fU l32),0))))
def yN:Nat→List Int→List aE→Int→Int→Option (ByteArray×Int)
 |0=>fun _ _ _ _=>none
 |n+1=>aJt (yN n)
def aJs(rec3:aC→List Int→List aN→Int→Int→Option (ByteArray×Int))(s_1:aC)(b_5:List Int)(t58:List aN)(t59:Int)(t60:Int):Option (ByteArray×Int):=
 (bif (decide (t60<t59)) then
  ((idx t58 t60).bind fun x14=>
  (bif x14.Used then
   aBs rec3 s_1 b_5 x14 1 t58 t59 t60
  else
   aBs rec3 s_1 b_5 x14 0 t58 t59 t60))
 else
  ((lQ b_5 (IntKind.u64.wrap (s_1.Graph.Edges.length:Int)) 4).bind fun l20=>
  yN aY l20 s_1.Graph.Edges (s_1.Graph.Edges.length:Int) 0))
def mQ:Nat→aC→List Int→List aN→Int→Int→Option (ByteArray×Int)
 |0=>fun _ _ _ _ _=>none
 |n+1=>aJs (mQ n)
def aJr(rec2:aC→List Int→List cI→Int→Int→Option (ByteArray×Int))(s_1:aC)(b_5:List Int)(t42:List cI)(t43:Int)(t44:Int):Option (ByteArray×Int):=
 (bif (decide (t44<t43)) then
  ((idx t42 t44).bind fun x8=>
  ((lQ b_5 x8.A 8).bind fun l10=>
  ((lQ l10 x8.B 8).bind fun l12=>
  rec2 s_1 l12 t42 t43 (IntKind.i64.wrap (t44+1)))))
 else
  mQ aY s_1 b_5 s_1.Slots (s_1.Slots.length:Int) 0)
def tU:Nat→aC→List Int→List cI→Int→Int→Option (ByteArray×Int)
 |0=>fun _ _ _ _ _=>none
 |n+1=>aJr (tU n)
def aBr(rec1:aC→List Int→List Int→Int→Int→Option (ByteArray×Int))(s_1:aC)(b_5:List Int)(t29:List Int)(t30:Int)(t31:Int):Option (ByteArray×Int):=
 (bif (decide (t31<t30)) then
  ((idx t29 t31).bind fun x4=>
  ((lQ b_5 (IntKind.u64.wrap x4) 2).bind fun l6=>
  rec1 s_1 l6 t29 t30 (IntKind.i64.wrap (t31+1))))
 else
  tU aY s_1 b_5 s_1.Graph.Hashes (s_1.Graph.Hashes.length:Int) 0)
def oB:Nat→aC→List Int→List Int→Int→Int→Option (ByteArray×Int)
 |0=>fun _ _ _ _ _=>none
 |n+1=>aBr (oB n)
def oL(s_0:aC):Option (ByteArray×Int):=
 ((mP s_0).bind fun r2=>
 (bif (!r2) then
  some (⟨#[]⟩,1)
 else
  oB aY s_0 [82,65,70,84] [s_0.Graph.Config.N,s_0.Graph.Config.L,s_0.Graph.Config.R] (([s_0.Graph.Config.N,s_0.Graph.Config.L,s_0.Graph.Config.R]).length:Int) 0))
theorem bFa{s_0:aC}{r:ByteArray×Int}(hm:oL s_0=some r):cE prog 13 [.agg [vi s_0.Graph.Config.N,vi s_0.Graph.Config.L,vi s_0.Graph.Config.R,vl cH s_0.Graph.Hashes,vl aV s_0.Graph.Edges,vl aW s_0.Slots]] (.tup [.v (.string r.1),vi r.2]):=by
 refine bd 111 func13 ?_;obtain ⟨r2,h1,hm⟩:=bnd hm;refine W ?_;refine cq (aQb h1) ?_;refine W ?_;refine cm hm (fun hm=>?_) fun hm=>?_
 · exact E
 iterate 9 refine S1 ?_
 refine AWp.seq' ?_;refine AWp.regL (N':=256) [82,65,70,84] rfl rfl underlying91 underlying5 sz5 zc5 Z5 Zd Zd rfl (by simp only [go_sem,Nat.reduceBEq];try rfl) (by kernel_rfl) rfl rfl ?_;refine W ?_;refine aL (CFi .i64) [s_0.Graph.Config.N,s_0.Graph.Config.L,s_0.Graph.Config.R] ?_;refine W ?_;refine lp (fun m s=> ∃s_1 b_5 t29 t30 t31,s=⟨111,(aF (aF (aF (aF (aF fa 1 (.adr 1 0)) 5 (.own 2 0 b_5.length)) 29 (.own 3 0 t29.length)) 30 (vi t30)) 31 (vi t31)),⟨(upd (upd (upd aZ 1 (.cells 1 [vi s_1.Graph.Config.N,vi s_1.Graph.Config.L,vi s_1.Graph.Config.R,vl cH s_1.Graph.Hashes,vl aV s_1.Graph.Edges,vl aW s_1.Slots] 0)) 2 (.cells 1 (b_5.flatMap (ci .u8)) 0)) 3 (.cells 1 (t29.flatMap (ci .i64)) 0)),64⟩⟩∧oB m s_1 b_5 t29 t30 t31=some r) (Lr (fun j=>bif j==1 then 0 else bif j==2 then 192 else bif j==3 then 262 else 0)) ?_;rintro n1 s ⟨s_1,b_5,t29,t30,t31,rfl,hm⟩;refine W ?_;refine cm hm (fun hm=>?_) fun hm=>?_
 · obtain ⟨x4,h3,hm⟩:=bnd hm;obtain ⟨l6,h5,hm⟩:=bnd hm;refine W ?_;refine aR.callA Zd Z1 aU7 Z1 (sA h5 (J:=195) Z3 (aKu Z5) Zd Zd KF DF) ?_;refine W ?_;exact Lr (fun j=>bif j==1 then 1 else bif j==2 then 195 else bif j==3 then 3 else 0)
 refine W ?_;refine lp (fun m s=> ∃s_1 b_5 t42 t43 t44,s=⟨111,(aF (aF (aF (aF (aF fa 1 (.adr 1 0)) 5 (.own 2 0 b_5.length)) 42 (vl cH t42)) 43 (vi t43)) 44 (vi t44)),⟨(upd (upd aZ 1 (.cells 1 [vi s_1.Graph.Config.N,vi s_1.Graph.Config.L,vi s_1.Graph.Config.R,vl cH s_1.Graph.Hashes,vl aV s_1.Graph.Edges,vl aW s_1.Slots] 0)) 2 (.cells 1 (b_5.flatMap (ci .u8)) 0)),64⟩⟩∧tU m s_1 b_5 t42 t43 t44=some r) (Lr (fun j=>bif j==1 then 1 else bif j==2 then 2 else 0)) ?_;rintro n2 s ⟨s_1,b_5,t42,t43,t44,rfl,hm⟩;refine W ?_;refine cm hm (fun hm=>?_) fun hm=>?_
 · obtain ⟨x8,h7,hm⟩:=bnd hm;obtain ⟨l10,h9,hm⟩:=bnd hm;refine W ?_;refine aR.callA Zd Z1 aU7 Z1 (sA h9 (J:=195) Z3 (aKu Z5) Zd Zd KF DF) ?_;obtain ⟨l12,h11,hm⟩:=bnd hm;refine W ?_;refine aR.callA Zd Z1 aU7 Z1 (sA h11 (J:=259) Z3 (aKu Z5) Zd Zd KF DF) ?_;refine W ?_;exact Lr (fun j=>bif j==1 then 1 else bif j==2 then 259 else 0)
 refine W ?_;refine lp (fun m s=> ∃s_1 b_5 t58 t59 t60,s=⟨111,(aF (aF (aF (aF (aF fa 1 (.adr 1 0)) 5 (.own 2 0 b_5.length)) 58 (vl aW t58)) 59 (vi t59)) 60 (vi t60)),⟨(upd (upd aZ 1 (.cells 1 [vi s_1.Graph.Config.N,vi s_1.Graph.Config.L,vi s_1.Graph.Config.R,vl cH s_1.Graph.Hashes,vl aV s_1.Graph.Edges,vl aW s_1.Slots] 0)) 2 (.cells 1 (b_5.flatMap (ci .u8)) 0)),64⟩⟩∧mQ m s_1 b_5 t58 t59 t60=some r) (Lr (fun j=>bif j==1 then 1 else bif j==2 then 2 else 0)) ?_;rintro n3 s ⟨s_1,b_5,t58,t59,t60,rfl,hm⟩;refine W ?_;refine cm hm (fun hm=>?_) fun hm=>?_
 ·
  refine V ?_;refine AWp.seqJ (fun s=> ∃s_1 b_5 t58 t59 t60,s=⟨111,(aF (aF (aF (aF (aF fa 1 (.adr 1 0)) 5 (.own 2 0 b_5.length)) 58 (vl aW t58)) 59 (vi t59)) 60 (vi t60)),⟨(upd (upd aZ 1 (.cells 1 [vi s_1.Graph.Config.N,vi s_1.Graph.Config.L,vi s_1.Graph.Config.R,vl cH s_1.Graph.Hashes,vl aV s_1.Graph.Edges,vl aW s_1.Slots] 0)) 2 (.cells 1 (b_5.flatMap (ci .u8)) 0)),64⟩⟩∧aJu (mQ n3) s_1 b_5 t58 t59 t60=some r) ?_ ?_
  ·
   obtain ⟨x14,h13,hm⟩:=bnd hm;refine V ?_;refine AWp.seqJ (fun s=> ∃s_1 b_5 aKg aNy t58 t59 t60,s=⟨111,(aF (aF (aF (aF (aF (aF (aF fa 1 (.adr 1 0)) 5 (.own 2 0 b_5.length)) 11 (.adr 3 0)) 12 (vu aNy)) 58 (vl aW t58)) 59 (vi t59)) 60 (vi t60)),⟨(upd (upd (upd aZ 1 (.cells 1 [vi s_1.Graph.Config.N,vi s_1.Graph.Config.L,vi s_1.Graph.Config.R,vl cH s_1.Graph.Hashes,vl aV s_1.Graph.Edges,vl aW s_1.Slots] 0)) 2 (.cells 1 (b_5.flatMap (ci .u8)) 0)) 3 (.cells 1 [vb aKg.Used,vu aKg.Key] 0)),64⟩⟩∧aBs (mQ n3) s_1 b_5 aKg aNy t58 t59 t60=some r) ?_ ?_
   ·
    refine W ?_;refine cm hm (fun hm=>?_) fun hm=>?_
    · refine W ?_;exact Lr (fun j=>bif j==1 then 1 else bif j==2 then 2 else bif j==3 then 130 else 0)
    refine W ?_;exact Lr (fun j=>bif j==1 then 1 else bif j==2 then 2 else bif j==3 then 130 else 0)
   rintro s ⟨s_1,b_5,aKg,aNy,t58,t59,t60,rfl,hm⟩;obtain ⟨l16,h15,hm⟩:=bnd hm;refine W ?_;refine aR.callA Zd Z1 aU7 Z1 (sA h15 (J:=66) Z3 (aKu Z5) Zd Zd KF DF) ?_;obtain ⟨l18,h17,hm⟩:=bnd hm;refine W ?_;refine aR.callA Zd Z1 aU7 Z1 (sA h17 (J:=131) Z3 (aKu Z5) Zd Zd KF DF) ?_;refine W ?_;exact Lr (fun j=>bif j==1 then 1 else bif j==2 then 131 else 0)
  rintro s ⟨s_1,b_5,t58,t59,t60,rfl,hm⟩;refine W ?_;exact Lr (fun j=>bif j==1 then 1 else bif j==2 then 2 else 0)
 obtain ⟨l20,h19,hm⟩:=bnd hm;refine W ?_;refine aR.callA Zd Z1 aU7 Z1 (sA h19 (J:=134) Z3 (aKu Z5) Zd Zd KF DF) ?_;refine W ?_;refine lp (fun m s=> ∃b_5 t83 t84 t85,s=⟨111,(aF (aF (aF (aF fa 5 (.own 1 0 b_5.length)) 83 (vl aV t83)) 84 (vi t84)) 85 (vi t85)),⟨(upd aZ 1 (.cells 1 (b_5.flatMap (ci .u8)) 0)),64⟩⟩∧yN m b_5 t83 t84 t85=some r) (Lr (fun j=>bif j==1 then 134 else 0)) ?_;rintro n4 s ⟨b_5,t83,t84,t85,rfl,hm⟩;refine W ?_;refine cm hm (fun hm=>?_) fun hm=>?_
 · obtain ⟨x22,h21,hm⟩:=bnd hm;obtain ⟨l24,h23,hm⟩:=bnd hm;refine W ?_;refine aR.callA Zd Z1 aU7 Z1 (sA h23 (J:=196) Z3 (aKu Z5) Zd Zd KF DF) ?_;obtain ⟨l26,h25,hm⟩:=bnd hm;refine W ?_;refine aR.callA Zd Z1 aU7 Z1 (sA h25 (J:=260) Z3 (aKu Z5) Zd Zd KF DF) ?_;obtain ⟨l28,h27,hm⟩:=bnd hm;refine W ?_;refine aR.callA Zd Z1 aU7 Z1 (sA h27 (J:=324) Z3 (aKu Z5) Zd Zd KF DF) ?_;refine W ?_;exact Lr (fun j=>bif j==1 then 324 else 0)
 refine W ?_;refine pu rfl (aMf underlying91 underlying9 underlying5 Z1 Z3 Z6) ?_;obtain ⟨r30,h29,hm⟩:=bnd hm;refine cq (aW8 h29) ?_;obtain ⟨l32,h31,hm⟩:=bnd hm;refine aR.callA Zd Z1 aU7 Z1 (sA h31 (J:=132) Z3 (aKu Z5) Zd Zd KF DF) ?_;refine pu rfl (aMf underlying91 underlying9 underlying5 Z1 Z3 Z6) ?_;exact E
instance:Ct prog 13 (K1 prog dP (t2 vs vi) 13 oL):=⟨fun hm=>bFa hm⟩
def mH(s_0:aC)(aCk:Int)(u_2:Int)(v_3:Int):Option (GA):=
 ((tY s_0.Graph).bind fun r2=>
 (bif (aCk==5) then
  ((qT s_0.Graph.Edges u_2 v_3).bind fun ⟨r4,r5⟩=>
  some (GA.b 4 r5))
 else
  (bif (aCk==6) then
   ((rO s_0 u_2).bind fun r7=>
   some (GA.i 3 .i64 r7))
  else
   (bif (aCk==7) then
    ((yC s_0 u_2).bind fun r9=>
    ((qF s_0 r9).bind fun r11=>
    some (GA.lu 24 r11)))
   else
    (bif (aCk==8) then
     ((idx r2 u_2).bind fun x13=>
     ((idx r2 v_3).bind fun x15=>
     some (GA.b 4 (x13==x15))))
    else
     (bif (aCk==9) then
      ((tE r2 u_2).bind fun r17=>
      ((qF s_0 r17).bind fun r19=>
      some (GA.i 3 .i64 (r19.length:Int))))
     else
      (bif (aCk==10) then
       ((zJ s_0 r2).bind fun r21=>
       some (GA.i 3 .i64 r21))
      else
       (bif (aCk==11) then
        ((tE r2 u_2).bind fun r23=>
        ((qF s_0 r23).bind fun r25=>
        some (GA.lu 24 r25)))
       else
        (bif (aCk==12) then
         ((vU s_0).bind fun r27=>
         some (GA.lp 157 r27))
        else
         (bif (aCk==13) then
          ((yT s_0.Graph).bind fun r29=>
          some (GA.b 4 r29))
         else
          ((oL s_0).bind fun ⟨r31,r32⟩=>
          some (GA.s 9 r31))))))))))))
theorem aUa:K4 prog dP vi vi vi GA.av 40 mH:=fun hm=>be 98 func40 (h:=G)
instance:Ct prog 40 (K4 prog dP vi vi vi GA.av 40 mH):=⟨aUa⟩
def qY(f_1:(aN→Option (Bool)))(rec1:List aN→Int→Int→Option (Int))(s_0:List aN)(t7:Int)(t8:Int):Option (Int):=
 (bif (decide (t8<t7)) then
  ((idx s_0 t8).bind fun x2=>
  ((f_1 x2).bind fun r4=>
  (bif r4 then
   some t8
  else
   rec1 s_0 t7 (IntKind.i64.wrap (t8+1)))))
 else
  some (-1))
def iD(f_1:(aN→Option (Bool))):Nat→List aN→Int→Int→Option (Int)
 |0=>fun _ _ _=>none
 |n+1=>qY f_1 (iD f_1 n)
def sF(s_0:List aN)(f_1:(aN→Option (Bool))):Option (Int):=
 iD f_1 aY s_0 (s_0.length:Int) 0
theorem aI7{s_0:List aN}{f_1:(aN→Option (Bool))}{r:Int}(hm:sF s_0 f_1=some r){aMx:FuncId}{aCh:List AV}(aS8: ∀a,a∈aCh→AM.Data a)(bEa:(Program.funcs prog)[aMx]?.any (fun fn=>fn.body.isSome&&fn.name != "runtime.NumGoroutine")=true)(bEb: ∀ {x0 r},f_1 x0=some r→cE prog aMx ([.agg [vb x0.Used,vu x0.Key]]++aCh) (vb r)):cE prog 127 [vl aW s_0,.clo (.func aMx) [] aCh] (vi r):=by
 refine bd 19 func127 ?_;refine W ?_;refine lp (fun m s=> ∃s_0 t7 t8,s=⟨19,(aF (aF (aF (aF fa 0 (vl aW s_0)) 1 (.clo (.func aMx) [] aCh)) 7 (vi t7)) 8 (vi t8)),⟨aZ,64⟩⟩∧iD f_1 m s_0 t7 t8=some r) L ?_;rintro n1 s ⟨s_0,t7,t8,rfl,hm⟩;refine W ?_;refine cm hm (fun hm=>?_) fun hm=>?_
 ·
  obtain ⟨x2,h1,hm⟩:=bnd hm;obtain ⟨r4,h3,hm⟩:=bnd hm;refine W ?_;refine aR.callQC (r:= .v (.bool r4)) Zd Z1 aS8 bEa (fun H=>(cD (.agg _ (cW.dat _)) .nil)) (bEb h3) ?_;refine W ?_;refine cm hm (fun hm=>?_) fun hm=>?_
  · exact E
  exact L
 exact E
attribute [local semireducible] aY
end Go.Proofs.YtkdohhmacfoolaaGreatDoor
