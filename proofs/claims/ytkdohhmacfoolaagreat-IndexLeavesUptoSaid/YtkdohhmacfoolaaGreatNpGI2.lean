/- Facts. No condition. -/
import Derived.Test.YtkdohhmacfoolaaGreatNpGI1
set_option linter.unusedVariables false
set_option linter.unusedSimpArgs false
set_option maxRecDepth 20000
set_option maxHeartbeats 4000000
namespace Go.Proofs.YtkdohhmacfoolaaGreat
open Go.Proofs.Tryz Go Go.AM
attribute [local irreducible] bC
@[go_sem] theorem bD7(xs:List AV):aO prog 104 (.ptr (xs)) 0=some (.ptr xs):=by kernel_rfl
@[go_sem] theorem bD8(x0:AV)(xs:List AV):aO prog 104 (.ptr (x0::xs)) 1=some (.ptr xs):=by kernel_rfl
@[go_sem] theorem bJh(i o:Nat):aO prog 33 (.adr i o) 1=some (.adr i (o+5)):=by kernel_rfl
@[go_sem] theorem bU4(H:aM)(x:AV)(xs:List AV):dD prog H 3 (.ptr (x::xs))=some x:=by kernel_rfl
@[go_sem] theorem bQp(H:aM)(x:AV)(xs:List AV):dD prog H 31 (.ptr (x::xs))=some x:=by kernel_rfl
@[go_sem] theorem bUb(H:aM)(x:AV)(xs:List AV):dD prog H 4 (.ptr (x::xs))=some x:=by kernel_rfl
@[go_sem] theorem bR5(H:aM)(x:AV)(xs:List AV):dD prog H 43 (.ptr (x::xs))=some x:=by kernel_rfl
@[go_sem] theorem bRe(H:aM)(x0 x1:AV)(xs:List AV):dD prog H 69 (.ptr (x0::x1::xs))=some (.agg [x0,x1]):=by kernel_rfl
@[go_sem] theorem bCs(H:aM)(k:IntKind)(n:Int):rO prog H 3 198 (.v (.int k n))=some (.v (.int .u64 (IntKind.u64.wrap n))):=mG underlying3 underlying198
@[go_sem] theorem bCv(H:aM)(k:IntKind)(n:Int):rO prog H 3 231 (.v (.int k n))=some (.v (.int .u64 (IntKind.u64.wrap n))):=mG underlying3 underlying231
@[go_sem] theorem bCn(H:aM)(k:IntKind)(n:Int):rO prog H 198 3 (.v (.int k n))=some (.v (.int .i64 (IntKind.i64.wrap n))):=mG underlying198 underlying3
abbrev kF(zP:Int)(gP:Int):Option (Int×Int):=
 (bif (zP==0) then
  some (gP,1)
 else
  (bif (zP==12) then
   some (gP,2)
  else
   some (gP,0)))
abbrev kG(aB:List Int)(zP:Int)(kB:Int)(gP:Int)(bMs:Int):Option (Int×Int):=
 ((kO aB kB gP bMs zP).bind fun ⟨r3,x2⟩=>
 kF x2 r3)
def kL(aB:List Int)(a_1:Int)(b_2:Int):Option (Int×Int):=
 (bif (decide (8≤(IntKind.i64.wrap (b_2-a_1)))) then
  (bif (decide (50≤(IntKind.i64.wrap (b_2-a_1)))) then
   ((eW aB (IntKind.i64.wrap (a_1+(IntKind.i64.wrap ((IntKind.i64.wrap (Int.tdiv (IntKind.i64.wrap (b_2-a_1)) 4))*1)))) 0).bind fun ⟨r6,x5⟩=>
   ((eW aB (IntKind.i64.wrap (a_1+(IntKind.i64.wrap ((IntKind.i64.wrap (Int.tdiv (IntKind.i64.wrap (b_2-a_1)) 4))*2)))) x5).bind fun ⟨r9,x8⟩=>
   ((eW aB (IntKind.i64.wrap (a_1+(IntKind.i64.wrap ((IntKind.i64.wrap (Int.tdiv (IntKind.i64.wrap (b_2-a_1)) 4))*3)))) x8).bind fun ⟨r12,x11⟩=>
   kG aB x11 r6 r9 r12)))
  else
   kG aB 0 (IntKind.i64.wrap (a_1+(IntKind.i64.wrap ((IntKind.i64.wrap (Int.tdiv (IntKind.i64.wrap (b_2-a_1)) 4))*1)))) (IntKind.i64.wrap (a_1+(IntKind.i64.wrap ((IntKind.i64.wrap (Int.tdiv (IntKind.i64.wrap (b_2-a_1)) 4))*2)))) (IntKind.i64.wrap (a_1+(IntKind.i64.wrap ((IntKind.i64.wrap (Int.tdiv (IntKind.i64.wrap (b_2-a_1)) 4))*3)))))
 else
  kF 0 (IntKind.i64.wrap (a_1+(IntKind.i64.wrap ((IntKind.i64.wrap (Int.tdiv (IntKind.i64.wrap (b_2-a_1)) 4))*2)))))
theorem rU{aB:List Int}{a_1:Int}{b_2:Int}{r:Int×Int}(hm:kL aB a_1 b_2=some r):dU prog 148 [vl (ci .u64) aB,vi a_1,vi b_2] (.tup [vi r.1,vi r.2]):=by
 refine bd 57 func148 ?_;refine V ?_;refine AWp.seqJ (fun s=> ∃zP gP,s=⟨57,(aF (aF fa 9 (.adr 1 0)) 11 (vi gP)),⟨(upd bQ 1 (.cells 1 [vi zP] 0)),64⟩⟩∧kF zP gP=some r) ?_ ?_
 ·
  refine W ?_;refine cm hm (fun hm=>?_) fun hm=>?_
  ·
   refine AWp.seqJ (fun s=> ∃aB zP kB gP bMs,s=⟨57,(aF (aF (aF (aF (aF fa 0 (vl (ci .u64) aB)) 9 (.adr 1 0)) 10 (vi kB)) 11 (vi gP)) 12 (vi bMs)),⟨(upd bQ 1 (.cells 1 [vi zP] 0)),64⟩⟩∧kG aB zP kB gP bMs=some r) ?_ ?_
   ·
    refine W ?_;refine cm hm (fun hm=>?_) fun hm=>?_
    · refine W ?_;obtain ⟨⟨r6,x5⟩,h4,hm⟩:=bnd hm;refine aI.callM Zd Z1 bMc Z1 (nI h4 Z3) ?_;refine W ?_;obtain ⟨⟨r9,x8⟩,h7,hm⟩:=bnd hm;refine aI.callM Zd Z1 bMc Z1 (nI h7 Z3) ?_;refine W ?_;obtain ⟨⟨r12,x11⟩,h10,hm⟩:=bnd hm;refine aI.callM Zd Z1 bMc Z1 (nI h10 Z3) ?_;refine W ?_;exact Lr (fun j=>bif j==1 then 128 else 0)
    refine W ?_;exact Lr (fun j=>bif j==1 then 128 else 0)
   rintro s ⟨aB,zP,kB,gP,bMs,rfl,hm⟩;refine W ?_;obtain ⟨⟨r3,x2⟩,h1,hm⟩:=bnd hm;refine aI.callM Zd Z1 bSo Z1 (vM h1 Z3) ?_;refine W ?_;exact Lr (fun j=>bif j==1 then 1 else 0)
  refine W ?_;exact Lr (fun j=>bif j==1 then 128 else 0)
 rintro s ⟨zP,gP,rfl,hm⟩;refine W ?_;refine cm hm (fun hm=>?_) fun hm=>?_
 · exact E
 refine W ?_;refine cm hm (fun hm=>?_) fun hm=>?_
 · exact E
 exact E
instance:Ct prog 148 (K3 prog (vl (ci .u64)) vi vi (t2 vi vi) 148 kL):=⟨fun hm=>rU hm⟩
def jP(rec1:List Int→Int→Int→Option (List Int))(aB:List Int)(i_6:Int)(j_7:Int):Option (List Int):=
 (bif (decide (i_6<j_7)) then
  ((idx aB j_7).bind fun x2=>
  ((idx aB i_6).bind fun x4=>
  ((idx aB i_6).bind fun x6=>
  ((stt aB i_6 x2).bind fun l8=>
  ((idx l8 j_7).bind fun x10=>
  ((stt l8 j_7 x4).bind fun l12=>
  rec1 l12 (IntKind.i64.wrap (i_6+1)) (IntKind.i64.wrap (j_7-1))))))))
 else
  some aB)
def gT:Nat→List Int→Int→Int→Option (List Int)
 |0=>fun _ _ _=>none
 |n+1=>jP (gT n)
def kI(aB:List Int)(a_1:Int)(b_2:Int):Option (List Int):=
 gT bC aB a_1 (IntKind.i64.wrap (b_2-1))
theorem aAk{aB:List Int}{a_1:Int}{b_2:Int}{r:List Int}(hm:kI aB a_1 b_2=some r){H:aM}{i0:Nat}(he:H.ent i0= .cells 1 (aB.flatMap (ci .u64)) 0):dR prog 149 [.own i0 0 aB.length,.v (.int .i64 a_1),.v (.int .i64 b_2)] H (.tup []) (H.put i0 (.cells 1 (r.flatMap (ci .u64)) 0)):=by
 refine dR.of_bodyM func149 rfl he ?_;generalize H.ent=h0;simp only [ntmps149,List.length_cons,List.length_nil,Nat.reduceAdd,Nat.reduceSub];unfold kI at hm;refine sN 64 ?_
 iterate 2 refine pA ?_
 refine fs (sN 128 ?_)
 iterate 3 refine pA ?_
 refine fs (AWp.block (AWp.loopM (fun m s=> ∃(aB:List Int) (i_6:Int) (j_7:Int),s=(⟨32,(aF (aF (aF (fun _=>AV.any) 0 (.own i0 0 aB.length)) 6 (.v (.int .i64 i_6))) 7 (.v (.int .i64 j_7))),⟨(upd h0 i0 (.cells 1 (aB.flatMap (ci .u64)) 0)),64⟩⟩:St)∧gT m aB i_6 j_7=some r) bC ?_ ?_ ?_))
 · rintro s ⟨_,_,_,_,h⟩;cases h
 · refine ⟨_,?_,aB,a_1,(IntKind.i64.wrap (b_2-1)),rfl,hm⟩;exact bM (aD 7 _ Z1 (aD 6 _ Z1 (aD 0 _ (bN Z1 Z6) bF))) Zc
 ·
  rintro n1 s ⟨aB,i_6,j_7,rfl,hm⟩;replace hm:jP (gT n1) aB i_6 j_7=some r:=hm;unfold jP at hm;refine AWp.seq' (sN 128 ?_)
  iterate 3 refine pA ?_
  refine fs (AWp.condM hm Z1 (fun _ hm=>?_) (fun _ hm=>?_))
  ·
   refine AWp.skip (aV (AWp.block (sd mix (by kernel_rfl) (N':=192) rfl ?_)))
   iterate 6 refine pA ?_
   obtain ⟨x2,h1,hm⟩:=bnd hm;refine pu rfl (aN underlying24 fD Z1 Za Z6 Z1 h1) ?_;refine pu rfl (bL (CFi .u64) Z1 Za h1 Zb) ?_
   iterate 2 refine pA ?_
   obtain ⟨x4,h3,hm⟩:=bnd hm;refine pu rfl (aN underlying24 fD Z1 Za Z6 Z1 h3) ?_;refine pu rfl (bL (CFi .u64) Z1 Za h3 Zb) ?_;obtain ⟨x6,h5,hm⟩:=bnd hm;refine pu rfl (aN underlying24 fD Z1 Za Z6 Z1 h5) ?_;obtain ⟨l8,h7,hm⟩:=bnd hm;have qh7:=cX h7;refine aI.heap0 (id:=141) rfl (eP (CFi .u64) fD Z1 Z1 Za rfl h7) ?_;obtain ⟨x10,h9,hm⟩:=bnd hm;refine pu rfl (aN underlying24 fD Z1 Za Z6 Z1 h9) ?_;obtain ⟨l12,h11,hm⟩:=bnd hm;have qh11:=cX h11;refine aI.heap0 (id:=143) rfl (eP (CFi .u64) fD Z1 Z1 Za rfl h11) ?_;refine fs (sN 256 ?_)
   iterate 3 refine pA ?_
   refine fs (AWp.reg 64 (N':=320) rfl ?_)
   iterate 3 refine pA ?_
   refine aI.fin (eR (cN ?_));refine ⟨_,?_,l12,(IntKind.i64.wrap (i_6+1)),(IntKind.i64.wrap (j_7-1)),rfl,hm⟩;exact bM (aD 7 _ Z1 (aD 6 _ Z1 (aD 0 _ (bN Z1 Z6) bF))) Zc
  · refine AWp.exit (dJ (cY (cU ?_)));cases hm;exact aL8 (.inl rfl) Tryz.results149 Zc
abbrev cH(rec1:List Int→Int→Int→Int→Int→Option (Bool×List Int))(aB:List Int)(a_1:Int)(b_2:Int)(i_7:Int)(j_8:Int):Option (Bool×List Int):=
 rec1 aB a_1 b_2 i_7 (IntKind.i64.wrap (j_8+1))
def fP(rec1:List Int→Int→Int→Int→Int→Option (Bool×List Int))(rec3:List Int→Int→Int→Int→Int→Int→Option (Bool×List Int))(aB:List Int)(a_1:Int)(b_2:Int)(i_7:Int)(j_8:Int)(fS:Int):Option (Bool×List Int):=
 (bif (decide (fS<b_2)) then
  ((idx aB fS).bind fun x20=>
  ((idx aB (IntKind.i64.wrap (fS-1))).bind fun x22=>
  ((fE x20 x22).bind fun r24=>
  (bif (!r24) then
   cH rec1 aB a_1 b_2 i_7 j_8
  else
   ((idx aB (IntKind.i64.wrap (fS-1))).bind fun x26=>
   ((idx aB fS).bind fun x28=>
   ((idx aB fS).bind fun x30=>
   ((stt aB fS x26).bind fun l32=>
   ((idx l32 (IntKind.i64.wrap (fS-1))).bind fun x34=>
   ((stt l32 (IntKind.i64.wrap (fS-1)) x28).bind fun l36=>
   rec3 l36 a_1 b_2 i_7 j_8 (IntKind.i64.wrap (fS+1))))))))))))
 else
  cH rec1 aB a_1 b_2 i_7 j_8)
def eG(rec1:List Int→Int→Int→Int→Int→Option (Bool×List Int)):Nat→List Int→Int→Int→Int→Int→Int→Option (Bool×List Int)
 |0=>fun _ _ _ _ _ _=>none
 |n+1=>fP rec1 (eG rec1 n)
abbrev dA(rec1:List Int→Int→Int→Int→Int→Option (Bool×List Int))(aB:List Int)(a_1:Int)(b_2:Int)(i_7:Int)(j_8:Int):Option (Bool×List Int):=
 (bif (decide (2≤(IntKind.i64.wrap (b_2-i_7)))) then
  eG rec1 bC aB a_1 b_2 i_7 j_8 (IntKind.i64.wrap (i_7+1))
 else
  cH rec1 aB a_1 b_2 i_7 j_8)
def fQ(rec1:List Int→Int→Int→Int→Int→Option (Bool×List Int))(rec4:List Int→Int→Int→Int→Int→Int→Option (Bool×List Int))(aB:List Int)(a_1:Int)(b_2:Int)(i_7:Int)(j_8:Int)(j_9:Int):Option (Bool×List Int):=
 (bif (decide (1≤j_9)) then
  ((idx aB j_9).bind fun x38=>
  ((idx aB (IntKind.i64.wrap (j_9-1))).bind fun x40=>
  ((fE x38 x40).bind fun r42=>
  (bif (!r42) then
   dA rec1 aB a_1 b_2 i_7 j_8
  else
   ((idx aB (IntKind.i64.wrap (j_9-1))).bind fun x44=>
   ((idx aB j_9).bind fun x46=>
   ((idx aB j_9).bind fun x48=>
   ((stt aB j_9 x44).bind fun l50=>
   ((idx l50 (IntKind.i64.wrap (j_9-1))).bind fun x52=>
   ((stt l50 (IntKind.i64.wrap (j_9-1)) x46).bind fun l54=>
   rec4 l54 a_1 b_2 i_7 j_8 (IntKind.i64.wrap (j_9-1))))))))))))
 else
  dA rec1 aB a_1 b_2 i_7 j_8)
def eI(rec1:List Int→Int→Int→Int→Int→Option (Bool×List Int)):Nat→List Int→Int→Int→Int→Int→Int→Option (Bool×List Int)
 |0=>fun _ _ _ _ _ _=>none
 |n+1=>fQ rec1 (eI rec1 n)
def fO(rec1:List Int→Int→Int→Int→Int→Option (Bool×List Int))(rec2:List Int→Int→Int→Int→Int→Option (Bool×List Int))(aB:List Int)(a_1:Int)(b_2:Int)(i_7:Int)(j_8:Int):Option (Bool×List Int):=
 ((fG ((decide (i_7<b_2))==true) 0 (idx aB i_7)).bind fun x2=>
 ((fG ((decide (i_7<b_2))==true) 0 (idx aB (IntKind.i64.wrap (i_7-1)))).bind fun x4=>
 ((fG ((decide (i_7<b_2))==true) false (fE x2 x4)).bind fun r6=>
 (bif ((decide (i_7<b_2))&&(!r6)) then
  rec2 aB a_1 b_2 (IntKind.i64.wrap (i_7+1)) j_8
 else
  (bif (i_7==b_2) then
   some (true,aB)
  else
   (bif (decide ((IntKind.i64.wrap (b_2-a_1))<50)) then
    some (false,aB)
   else
    ((idx aB (IntKind.i64.wrap (i_7-1))).bind fun x8=>
    ((idx aB i_7).bind fun x10=>
    ((idx aB i_7).bind fun x12=>
    ((stt aB i_7 x8).bind fun l14=>
    ((idx l14 (IntKind.i64.wrap (i_7-1))).bind fun x16=>
    ((stt l14 (IntKind.i64.wrap (i_7-1)) x10).bind fun l18=>
    (bif (decide (2≤(IntKind.i64.wrap (i_7-a_1)))) then
     eI rec1 bC l18 a_1 b_2 i_7 j_8 (IntKind.i64.wrap (i_7-1))
    else
     dA rec1 l18 a_1 b_2 i_7 j_8)))))))))))))
def eF(rec1:List Int→Int→Int→Int→Int→Option (Bool×List Int)):Nat→List Int→Int→Int→Int→Int→Option (Bool×List Int)
 |0=>fun _ _ _ _ _=>none
 |n+1=>fO rec1 (eF rec1 n)
def fN(rec1:List Int→Int→Int→Int→Int→Option (Bool×List Int))(aB:List Int)(a_1:Int)(b_2:Int)(i_7:Int)(j_8:Int):Option (Bool×List Int):=
 (bif (decide (j_8<5)) then
  eF rec1 bC aB a_1 b_2 i_7 j_8
 else
  some (false,aB))
def aX:Nat→List Int→Int→Int→Int→Int→Option (Bool×List Int)
 |0=>fun _ _ _ _ _=>none
 |n+1=>fN (aX n)
def gD(aB:List Int)(a_1:Int)(b_2:Int):Option (Bool×List Int):=
 aX bC aB a_1 b_2 (IntKind.i64.wrap (a_1+1)) 0
theorem uJ{aB:List Int}{a_1:Int}{b_2:Int}{r:Bool×List Int}(hm:gD aB a_1 b_2=some r){H:aM}{i0:Nat}(he:H.ent i0= .cells 1 (aB.flatMap (ci .u64)) 0):dR prog 150 [.own i0 0 aB.length,.v (.int .i64 a_1),.v (.int .i64 b_2)] H (.v (.bool r.1)) (H.put i0 (.cells 1 (r.2.flatMap (ci .u64)) 0)):=by
 refine dR.of_bodyM func150 rfl he ?_;generalize H.ent=h0;simp only [ntmps150,List.length_cons,List.length_nil,Nat.reduceAdd,Nat.reduceSub];unfold gD at hm;refine sN 64 (pA ?_);refine fs (sN 128 ?_)
 iterate 3 refine pA ?_
 refine fs (AWp.seq' (sN 192 (pA ?_)));refine fs (AWp.block (AWp.loopM (fun m s=> ∃(aB:List Int) (a_1:Int) (b_2:Int) (i_7:Int) (j_8:Int),s=(⟨133,(aF (aF (aF (aF (aF (fun _=>AV.any) 0 (.own i0 0 aB.length)) 1 (.v (.int .i64 a_1))) 2 (.v (.int .i64 b_2))) 7 (.v (.int .i64 i_7))) 8 (.v (.int .i64 j_8))),⟨(upd h0 i0 (.cells 1 (aB.flatMap (ci .u64)) 0)),64⟩⟩:St)∧aX m aB a_1 b_2 i_7 j_8=some r) bC ?_ ?_ ?_))
 · rintro s ⟨_,_,_,_,_,_,h⟩;cases h
 · refine ⟨_,?_,aB,a_1,b_2,(IntKind.i64.wrap (a_1+1)),0,rfl,hm⟩;exact bM (aD 8 _ Z1 (aD 7 _ Z1 (aD 2 _ Z1 (aD 1 _ Z1 (aD 0 _ (bN Z1 Z6) bF))))) Zc
 ·
  rintro n1 s ⟨aB,a_1,b_2,i_7,j_8,rfl,hm⟩;replace hm:fN (aX n1) aB a_1 b_2 i_7 j_8=some r:=hm;unfold fN at hm;refine AWp.seq' (sN 128 ?_)
  iterate 2 refine pA ?_
  refine fs (AWp.condM hm Z1 (fun _ hm=>?_) (fun _ hm=>?_))
  ·
   refine AWp.skip (aV (AWp.seqJ (fun s=> ∃(aB:List Int) (a_1:Int) (b_2:Int) (i_7:Int) (j_8:Int),s=(⟨133,(aF (aF (aF (aF (aF (fun _=>AV.any) 0 (.own i0 0 aB.length)) 1 (.v (.int .i64 a_1))) 2 (.v (.int .i64 b_2))) 7 (.v (.int .i64 i_7))) 8 (.v (.int .i64 j_8))),⟨(upd h0 i0 (.cells 1 (aB.flatMap (ci .u64)) 0)),64⟩⟩:St)∧cH (aX n1) aB a_1 b_2 i_7 j_8=some r) ?_ ?_))
   ·
    refine AWp.block (AWp.seq' (AWp.block (AWp.loopM (fun m s=> ∃(aB:List Int) (a_1:Int) (b_2:Int) (i_7:Int) (j_8:Int),s=(⟨133,(aF (aF (aF (aF (aF (fun _=>AV.any) 0 (.own i0 0 aB.length)) 1 (.v (.int .i64 a_1))) 2 (.v (.int .i64 b_2))) 7 (.v (.int .i64 i_7))) 8 (.v (.int .i64 j_8))),⟨(upd h0 i0 (.cells 1 (aB.flatMap (ci .u64)) 0)),64⟩⟩:St)∧eF (aX n1) m aB a_1 b_2 i_7 j_8=some r) bC ?_ ?_ ?_)))
    · rintro s ⟨_,_,_,_,_,_,h⟩;cases h
    · refine ⟨_,?_,aB,a_1,b_2,i_7,j_8,rfl,hm⟩;exact bM (aD 8 _ Z1 (aD 7 _ Z1 (aD 2 _ Z1 (aD 1 _ Z1 (aD 0 _ (bN Z1 Z6) bF))))) Zc
    ·
     rintro n2 s ⟨aB,a_1,b_2,i_7,j_8,rfl,hm⟩;replace hm:fO (aX n1) (eF (aX n1) n2) aB a_1 b_2 i_7 j_8=some r:=hm;unfold fO at hm;refine AWp.seq' (sd mix (by kernel_rfl) (N':=128) rfl ?_)
     iterate 6 first|refine pA ?_|refine pB ?_
     obtain ⟨x2,h1,hm⟩:=bnd hm;refine pg rfl rfl Z2 (fun hb=>(aN underlying24 fD (Zh hb) Za Z6 (Zh hb) (bK h1 hb))) ?_;refine pg rfl rfl Z2 (fun hb=>(bL (CFi .u64) (Zh hb) Za (bK h1 hb) Zb)) ?_
     iterate 3 refine pB ?_
     obtain ⟨x4,h3,hm⟩:=bnd hm;refine pg rfl rfl Z2 (fun hb=>(aN underlying24 fD (Zh hb) Za Z6 (Zh hb) (bK h3 hb))) ?_;refine pg rfl rfl Z2 (fun hb=>(bL (CFi .u64) (Zh hb) Za (bK h3 hb) Zb)) ?_;obtain ⟨r6,h5,hm⟩:=bnd hm;refine aI.callQG (r:= .v (.bool r6)) Zd rfl Z2 Z1 aFp (fun hb H=>(.cons (td (Zh hb) (.v _)) (.cons (td (Zh hb) (.v _)) .nil))) (fun hb=>gV (bK h5 hb)) ?_
     iterate 2 first|refine pA ?_|refine pB ?_
     refine fs (AWp.condM hm Z1 (fun _ hm=>?_) (fun _ hm=>?_))
     ·
      refine AWp.skip (aV (AWp.block (AWp.reg 64 (N':=192) rfl ?_)))
      iterate 3 refine pA ?_
      refine aI.fin (eR (cN ?_));refine ⟨_,?_,aB,a_1,b_2,(IntKind.i64.wrap (i_7+1)),j_8,rfl,hm⟩;exact bM (aD 8 _ Z1 (aD 7 _ Z1 (aD 2 _ Z1 (aD 1 _ Z1 (aD 0 _ (bN Z1 Z6) bF))))) Zc
     ·
      refine AWp.exit (dJ (cY (cU (aV (AWp.seq' (sN 192 ?_))))))
      iterate 3 refine pA ?_
      refine fs (AWp.condM hm Z1 (fun _ hm=>?_) (fun _ hm=>?_))
      · refine sN 256 (pA ?_);refine fs (AWp.ret (lA (pO (aQv (qQ (pO (lA ?_)))))));cases hm;exact aFx (.inr rfl) Tryz.results150 Z1 Zc
      ·
       refine AWp.skip (aV (AWp.seq' (sN 256 ?_)))
       iterate 4 refine pA ?_
       refine fs (AWp.condM hm Z1 (fun _ hm=>?_) (fun _ hm=>?_))
       · refine sN 320 (pA ?_);refine fs (AWp.ret (lA (pO (aQv (qQ (pO (lA ?_)))))));cases hm;exact aFx (.inr rfl) Tryz.results150 Z1 Zc
       ·
        refine AWp.skip (aV (sd mix (by kernel_rfl) (N':=320) rfl ?_))
        iterate 8 refine pA ?_
        obtain ⟨x8,h7,hm⟩:=bnd hm;refine pu rfl (aN underlying24 fD Z1 Za Z6 Z1 h7) ?_;refine pu rfl (bL (CFi .u64) Z1 Za h7 Zb) ?_
        iterate 2 refine pA ?_
        obtain ⟨x10,h9,hm⟩:=bnd hm;refine pu rfl (aN underlying24 fD Z1 Za Z6 Z1 h9) ?_;refine pu rfl (bL (CFi .u64) Z1 Za h9 Zb) ?_;obtain ⟨x12,h11,hm⟩:=bnd hm;refine pu rfl (aN underlying24 fD Z1 Za Z6 Z1 h11) ?_;obtain ⟨l14,h13,hm⟩:=bnd hm;have qh13:=cX h13;refine aI.heap0 (id:=271) rfl (eP (CFi .u64) fD Z1 Z1 Za rfl h13) ?_;obtain ⟨x16,h15,hm⟩:=bnd hm;refine pu rfl (aN underlying24 fD Z1 Za Z6 Z1 h15) ?_;obtain ⟨l18,h17,hm⟩:=bnd hm;have qh17:=cX h17;refine aI.heap0 (id:=273) rfl (eP (CFi .u64) fD Z1 Z1 Za rfl h17) ?_;refine fs (AWp.seqJ (fun s=> ∃(aB:List Int) (a_1:Int) (b_2:Int) (i_7:Int) (j_8:Int),s=(⟨133,(aF (aF (aF (aF (aF (fun _=>AV.any) 0 (.own i0 0 aB.length)) 1 (.v (.int .i64 a_1))) 2 (.v (.int .i64 b_2))) 7 (.v (.int .i64 i_7))) 8 (.v (.int .i64 j_8))),⟨(upd h0 i0 (.cells 1 (aB.flatMap (ci .u64)) 0)),64⟩⟩:St)∧dA (aX n1) aB a_1 b_2 i_7 j_8=some r) ?_ ?_)
        ·
         refine sN 384 ?_
         iterate 4 refine pA ?_
         refine fs (AWp.condM hm Z1 (fun _ hm=>?_) (fun _ hm=>?_))
         ·
          refine sN 448 ?_
          iterate 3 refine pA ?_
          refine fs (AWp.block (AWp.loopM (fun m s=> ∃(aB:List Int) (a_1:Int) (b_2:Int) (i_7:Int) (j_8:Int) (j_9:Int),s=(⟨133,(aF (aF (aF (aF (aF (aF (fun _=>AV.any) 0 (.own i0 0 aB.length)) 1 (.v (.int .i64 a_1))) 2 (.v (.int .i64 b_2))) 7 (.v (.int .i64 i_7))) 8 (.v (.int .i64 j_8))) 9 (.v (.int .i64 j_9))),⟨(upd h0 i0 (.cells 1 (aB.flatMap (ci .u64)) 0)),64⟩⟩:St)∧eI (aX n1) m aB a_1 b_2 i_7 j_8 j_9=some r) bC ?_ ?_ ?_))
          · rintro s ⟨_,_,_,_,_,_,_,h⟩;cases h
          · refine ⟨_,?_,l18,a_1,b_2,i_7,j_8,(IntKind.i64.wrap (i_7-1)),rfl,hm⟩;exact bM (aD 9 _ Z1 (aD 8 _ Z1 (aD 7 _ Z1 (aD 2 _ Z1 (aD 1 _ Z1 (aD 0 _ (bN Z1 Z6) bF)))))) Zc
          ·
           rintro n4 s ⟨aB,a_1,b_2,i_7,j_8,j_9,rfl,hm⟩;replace hm:fQ (aX n1) (eI (aX n1) n4) aB a_1 b_2 i_7 j_8 j_9=some r:=hm;unfold fQ at hm;refine AWp.seq' (sN 128 ?_)
           iterate 2 refine pA ?_
           refine fs (AWp.condM hm Z1 (fun _ hm=>?_) (fun _ hm=>?_))
           ·
            refine AWp.skip (aV (AWp.seq' (AWp.block (AWp.seq' (sd mix (by kernel_rfl) (N':=192) rfl ?_)))))
            iterate 2 refine pA ?_
            obtain ⟨x38,h37,hm⟩:=bnd hm;refine pu rfl (aN underlying24 fD Z1 Za Z6 Z1 h37) ?_;refine pu rfl (bL (CFi .u64) Z1 Za h37 Zb) ?_
            iterate 3 refine pA ?_
            obtain ⟨x40,h39,hm⟩:=bnd hm;refine pu rfl (aN underlying24 fD Z1 Za Z6 Z1 h39) ?_;refine pu rfl (bL (CFi .u64) Z1 Za h39 Zb) ?_;obtain ⟨r42,h41,hm⟩:=bnd hm;refine aI.callQ (r:= .v (.bool r42)) Zd Z1 aFp (fun H=>(cV (cV .nil))) (gV h41) ?_;refine pA ?_;refine fs (AWp.condM hm Z1 (fun _ hm=>?_) (fun _ hm=>?_))
            · refine AWp.exit (dJ (rG Zd ?_));refine dJ (cY (cU (nG ?_)));refine ⟨_,?_,aB,a_1,b_2,i_7,j_8,rfl,hm⟩;exact bM (aD 8 _ Z1 (aD 7 _ Z1 (aD 2 _ Z1 (aD 1 _ Z1 (aD 0 _ (bN Z1 Z6) bF))))) Zc
            ·
             refine AWp.skip (aV (AWp.regD 64 mix (by kernel_rfl) (N':=256) rfl ?_))
             iterate 8 refine pA ?_
             obtain ⟨x44,h43,hm⟩:=bnd hm;refine pu rfl (aN underlying24 fD Z1 Za Z6 Z1 h43) ?_;refine pu rfl (bL (CFi .u64) Z1 Za h43 Zb) ?_
             iterate 2 refine pA ?_
             obtain ⟨x46,h45,hm⟩:=bnd hm;refine pu rfl (aN underlying24 fD Z1 Za Z6 Z1 h45) ?_;refine pu rfl (bL (CFi .u64) Z1 Za h45 Zb) ?_;obtain ⟨x48,h47,hm⟩:=bnd hm;refine pu rfl (aN underlying24 fD Z1 Za Z6 Z1 h47) ?_;obtain ⟨l50,h49,hm⟩:=bnd hm;have qh49:=cX h49;refine aI.heap0 (id:=207) rfl (eP (CFi .u64) fD Z1 Z1 Za rfl h49) ?_;obtain ⟨x52,h51,hm⟩:=bnd hm;refine pu rfl (aN underlying24 fD Z1 Za Z6 Z1 h51) ?_;obtain ⟨l54,h53,hm⟩:=bnd hm;have qh53:=cX h53;refine aI.heap0 (id:=209) rfl (eP (CFi .u64) fD Z1 Z1 Za rfl h53) ?_;refine aI.fin (eR (aV (AWp.reg 64 (N':=320) rfl ?_)))
             iterate 3 refine pA ?_
             refine aI.fin (cN ?_);refine ⟨_,?_,l54,a_1,b_2,i_7,j_8,(IntKind.i64.wrap (j_9-1)),rfl,hm⟩;exact bM (aD 9 _ Z1 (aD 8 _ Z1 (aD 7 _ Z1 (aD 2 _ Z1 (aD 1 _ Z1 (aD 0 _ (bN Z1 Z6) bF)))))) Zc
           · refine AWp.exit (dJ (cY (cU (nG ?_))));refine ⟨_,?_,aB,a_1,b_2,i_7,j_8,rfl,hm⟩;exact bM (aD 8 _ Z1 (aD 7 _ Z1 (aD 2 _ Z1 (aD 1 _ Z1 (aD 0 _ (bN Z1 Z6) bF))))) Zc
         · refine AWp.skip (nG ?_);refine ⟨_,?_,l18,a_1,b_2,i_7,j_8,rfl,hm⟩;exact bM (aD 8 _ Z1 (aD 7 _ Z1 (aD 2 _ Z1 (aD 1 _ Z1 (aD 0 _ (bN Z1 Z6) bF))))) Zc
        ·
         rintro s ⟨aB,a_1,b_2,i_7,j_8,rfl,hm⟩;unfold dA at hm;refine sN 128 ?_
         iterate 4 refine pA ?_
         refine fs (AWp.condM hm Z1 (fun _ hm=>?_) (fun _ hm=>?_))
         ·
          refine sN 192 ?_
          iterate 3 refine pA ?_
          refine fs (AWp.block (AWp.loopM (fun m s=> ∃(aB:List Int) (a_1:Int) (b_2:Int) (i_7:Int) (j_8:Int) (fS:Int),s=(⟨133,(aF (aF (aF (aF (aF (aF (fun _=>AV.any) 0 (.own i0 0 aB.length)) 1 (.v (.int .i64 a_1))) 2 (.v (.int .i64 b_2))) 7 (.v (.int .i64 i_7))) 8 (.v (.int .i64 j_8))) 10 (.v (.int .i64 fS))),⟨(upd h0 i0 (.cells 1 (aB.flatMap (ci .u64)) 0)),64⟩⟩:St)∧eG (aX n1) m aB a_1 b_2 i_7 j_8 fS=some r) bC ?_ ?_ ?_))
          · rintro s ⟨_,_,_,_,_,_,_,h⟩;cases h
          · refine ⟨_,?_,aB,a_1,b_2,i_7,j_8,(IntKind.i64.wrap (i_7+1)),rfl,hm⟩;exact bM (aD 10 _ Z1 (aD 8 _ Z1 (aD 7 _ Z1 (aD 2 _ Z1 (aD 1 _ Z1 (aD 0 _ (bN Z1 Z6) bF)))))) Zc
          ·
           rintro n3 s ⟨aB,a_1,b_2,i_7,j_8,fS,rfl,hm⟩;replace hm:fP (aX n1) (eG (aX n1) n3) aB a_1 b_2 i_7 j_8 fS=some r:=hm;unfold fP at hm;refine AWp.seq' (sN 128 ?_)
           iterate 3 refine pA ?_
           refine fs (AWp.condM hm Z1 (fun _ hm=>?_) (fun _ hm=>?_))
           ·
            refine AWp.skip (aV (AWp.seq' (AWp.block (AWp.seq' (sd mix (by kernel_rfl) (N':=192) rfl ?_)))))
            iterate 2 refine pA ?_
            obtain ⟨x20,h19,hm⟩:=bnd hm;refine pu rfl (aN underlying24 fD Z1 Za Z6 Z1 h19) ?_;refine pu rfl (bL (CFi .u64) Z1 Za h19 Zb) ?_
            iterate 3 refine pA ?_
            obtain ⟨x22,h21,hm⟩:=bnd hm;refine pu rfl (aN underlying24 fD Z1 Za Z6 Z1 h21) ?_;refine pu rfl (bL (CFi .u64) Z1 Za h21 Zb) ?_;obtain ⟨r24,h23,hm⟩:=bnd hm;refine aI.callQ (r:= .v (.bool r24)) Zd Z1 aFp (fun H=>(cV (cV .nil))) (gV h23) ?_;refine pA ?_;refine fs (AWp.condM hm Z1 (fun _ hm=>?_) (fun _ hm=>?_))
            · refine AWp.exit (dJ (rG Zd ?_));refine dJ (cY (cU (eR (nG ?_))));refine ⟨_,?_,aB,a_1,b_2,i_7,j_8,rfl,hm⟩;exact bM (aD 8 _ Z1 (aD 7 _ Z1 (aD 2 _ Z1 (aD 1 _ Z1 (aD 0 _ (bN Z1 Z6) bF))))) Zc
            ·
             refine AWp.skip (aV (AWp.regD 64 mix (by kernel_rfl) (N':=256) rfl ?_))
             iterate 8 refine pA ?_
             obtain ⟨x26,h25,hm⟩:=bnd hm;refine pu rfl (aN underlying24 fD Z1 Za Z6 Z1 h25) ?_;refine pu rfl (bL (CFi .u64) Z1 Za h25 Zb) ?_
             iterate 2 refine pA ?_
             obtain ⟨x28,h27,hm⟩:=bnd hm;refine pu rfl (aN underlying24 fD Z1 Za Z6 Z1 h27) ?_;refine pu rfl (bL (CFi .u64) Z1 Za h27 Zb) ?_;obtain ⟨x30,h29,hm⟩:=bnd hm;refine pu rfl (aN underlying24 fD Z1 Za Z6 Z1 h29) ?_;obtain ⟨l32,h31,hm⟩:=bnd hm;have qh31:=cX h31;refine aI.heap0 (id:=207) rfl (eP (CFi .u64) fD Z1 Z1 Za rfl h31) ?_;obtain ⟨x34,h33,hm⟩:=bnd hm;refine pu rfl (aN underlying24 fD Z1 Za Z6 Z1 h33) ?_;obtain ⟨l36,h35,hm⟩:=bnd hm;have qh35:=cX h35;refine aI.heap0 (id:=209) rfl (eP (CFi .u64) fD Z1 Z1 Za rfl h35) ?_;refine aI.fin (eR (aV (AWp.reg 64 (N':=320) rfl ?_)))
             iterate 3 refine pA ?_
             refine aI.fin (cN ?_);refine ⟨_,?_,l36,a_1,b_2,i_7,j_8,(IntKind.i64.wrap (fS+1)),rfl,hm⟩;exact bM (aD 10 _ Z1 (aD 8 _ Z1 (aD 7 _ Z1 (aD 2 _ Z1 (aD 1 _ Z1 (aD 0 _ (bN Z1 Z6) bF)))))) Zc
           · refine AWp.exit (dJ (cY (cU (eR (nG ?_)))));refine ⟨_,?_,aB,a_1,b_2,i_7,j_8,rfl,hm⟩;exact bM (aD 8 _ Z1 (aD 7 _ Z1 (aD 2 _ Z1 (aD 1 _ Z1 (aD 0 _ (bN Z1 Z6) bF))))) Zc
         · refine AWp.skip (eR (nG ?_));refine ⟨_,?_,aB,a_1,b_2,i_7,j_8,rfl,hm⟩;exact bM (aD 8 _ Z1 (aD 7 _ Z1 (aD 2 _ Z1 (aD 1 _ Z1 (aD 0 _ (bN Z1 Z6) bF))))) Zc
   ·
    rintro s ⟨aB,a_1,b_2,i_7,j_8,rfl,hm⟩;unfold cH at hm;refine AWp.reg 64 (N':=128) rfl ?_
    iterate 3 refine pA ?_
    refine aI.fin (cN ?_);refine ⟨_,?_,aB,a_1,b_2,i_7,(IntKind.i64.wrap (j_8+1)),rfl,hm⟩;exact bM (aD 8 _ Z1 (aD 7 _ Z1 (aD 2 _ Z1 (aD 1 _ Z1 (aD 0 _ (bN Z1 Z6) bF))))) Zc
  · refine AWp.exit (dJ (cY (cU (aV (sN 192 (pA ?_))))));refine fs (AWp.ret ?_);cases hm;exact aFx (.inr rfl) Tryz.results150 Z1 Zc
def iA(rec1:List Int→Int→Int→Int→Option (Int×List Int))(rec3:List Int→Int→Int→Int→Option (Int×List Int))(aB:List Int)(a_1:Int)(i_9:Int)(fS:Int):Option (Int×List Int):=
 ((fG ((decide (i_9≤fS))==true) 0 (idx aB a_1)).bind fun x20=>
 ((fG ((decide (i_9≤fS))==true) 0 (idx aB fS)).bind fun x22=>
 ((fG ((decide (i_9≤fS))==true) false (fE x20 x22)).bind fun r24=>
 (bif ((decide (i_9≤fS))&&r24) then
  rec3 aB a_1 i_9 (IntKind.i64.wrap (fS-1))
 else
  (bif (decide (fS<i_9)) then
   some (i_9,aB)
  else
   ((idx aB fS).bind fun x26=>
   ((idx aB i_9).bind fun x28=>
   ((idx aB i_9).bind fun x30=>
   ((stt aB i_9 x26).bind fun l32=>
   ((idx l32 fS).bind fun x34=>
   ((stt l32 fS x28).bind fun l36=>
   rec1 l36 a_1 (IntKind.i64.wrap (i_9+1)) (IntKind.i64.wrap (fS-1)))))))))))))
def fW(rec1:List Int→Int→Int→Int→Option (Int×List Int)):Nat→List Int→Int→Int→Int→Option (Int×List Int)
 |0=>fun _ _ _ _=>none
 |n+1=>iA rec1 (fW rec1 n)
def hZ(rec1:List Int→Int→Int→Int→Option (Int×List Int))(rec2:List Int→Int→Int→Int→Option (Int×List Int))(aB:List Int)(a_1:Int)(i_9:Int)(fS:Int):Option (Int×List Int):=
 ((fG ((decide (i_9≤fS))==true) 0 (idx aB a_1)).bind fun x14=>
 ((fG ((decide (i_9≤fS))==true) 0 (idx aB i_9)).bind fun x16=>
 ((fG ((decide (i_9≤fS))==true) false (fE x14 x16)).bind fun r18=>
 (bif ((decide (i_9≤fS))&&(!r18)) then
  rec2 aB a_1 (IntKind.i64.wrap (i_9+1)) fS
 else
  fW rec1 bC aB a_1 i_9 fS))))
def fV(rec1:List Int→Int→Int→Int→Option (Int×List Int)):Nat→List Int→Int→Int→Int→Option (Int×List Int)
 |0=>fun _ _ _ _=>none
 |n+1=>hZ rec1 (fV rec1 n)
def hY(rec1:List Int→Int→Int→Int→Option (Int×List Int))(aB:List Int)(a_1:Int)(i_9:Int)(fS:Int):Option (Int×List Int):=
 fV rec1 bC aB a_1 i_9 fS
def bX:Nat→List Int→Int→Int→Int→Option (Int×List Int)
 |0=>fun _ _ _ _=>none
 |n+1=>hY (bX n)
def iX(aB:List Int)(a_1:Int)(b_2:Int)(mY:Int):Option (Int×List Int):=
 ((idx aB mY).bind fun x2=>
 ((idx aB a_1).bind fun x4=>
 ((idx aB a_1).bind fun x6=>
 ((stt aB a_1 x2).bind fun l8=>
 ((idx l8 mY).bind fun x10=>
 ((stt l8 mY x4).bind fun l12=>
 bX bC l12 a_1 (IntKind.i64.wrap (a_1+1)) (IntKind.i64.wrap (b_2-1))))))))
theorem zC{aB:List Int}{a_1:Int}{b_2:Int}{mY:Int}{r:Int×List Int}(hm:iX aB a_1 b_2 mY=some r){H:aM}{i0:Nat}(he:H.ent i0= .cells 1 (aB.flatMap (ci .u64)) 0):dR prog 152 [.own i0 0 aB.length,.v (.int .i64 a_1),.v (.int .i64 b_2),.v (.int .i64 mY)] H (.v (.int .i64 r.1)) (H.put i0 (.cells 1 (r.2.flatMap (ci .u64)) 0)):=by
 refine dR.of_bodyM func152 rfl he ?_;generalize H.ent=h0;simp only [ntmps152,List.length_cons,List.length_nil,Nat.reduceAdd,Nat.reduceSub];unfold iX at hm;refine sN 64 (pA ?_);refine fs (sd mix (by kernel_rfl) (N':=128) rfl ?_)
 iterate 6 refine pA ?_
 obtain ⟨x2,h1,hm⟩:=bnd hm;refine pu rfl (aN underlying24 fD Z1 Za Z6 Z1 h1) ?_;refine pu rfl (bL (CFi .u64) Z1 Za h1 Zb) ?_
 iterate 2 refine pA ?_
 obtain ⟨x4,h3,hm⟩:=bnd hm;refine pu rfl (aN underlying24 fD Z1 Za Z6 Z1 h3) ?_;refine pu rfl (bL (CFi .u64) Z1 Za h3 Zb) ?_;obtain ⟨x6,h5,hm⟩:=bnd hm;refine pu rfl (aN underlying24 fD Z1 Za Z6 Z1 h5) ?_;obtain ⟨l8,h7,hm⟩:=bnd hm;have qh7:=cX h7;refine aI.heap0 (id:=77) rfl (eP (CFi .u64) fD Z1 Z1 Za rfl h7) ?_;obtain ⟨x10,h9,hm⟩:=bnd hm;refine pu rfl (aN underlying24 fD Z1 Za Z6 Z1 h9) ?_;obtain ⟨l12,h11,hm⟩:=bnd hm;have qh11:=cX h11;refine aI.heap0 (id:=79) rfl (eP (CFi .u64) fD Z1 Z1 Za rfl h11) ?_;refine fs (sN 192 ?_)
 iterate 6 refine pA ?_
 refine fs (AWp.seq' (AWp.block (AWp.loopM (fun m s=> ∃(aB:List Int) (a_1:Int) (i_9:Int) (fS:Int),s=(⟨84,(aF (aF (aF (aF (fun _=>AV.any) 0 (.own i0 0 aB.length)) 1 (.v (.int .i64 a_1))) 9 (.v (.int .i64 i_9))) 10 (.v (.int .i64 fS))),⟨(upd h0 i0 (.cells 1 (aB.flatMap (ci .u64)) 0)),64⟩⟩:St)∧bX m aB a_1 i_9 fS=some r) bC ?_ ?_ ?_)))
 · rintro s ⟨_,_,_,_,_,h⟩;cases h
 · refine ⟨_,?_,l12,a_1,(IntKind.i64.wrap (a_1+1)),(IntKind.i64.wrap (b_2-1)),rfl,hm⟩;exact bM (aD 10 _ Z1 (aD 9 _ Z1 (aD 1 _ Z1 (aD 0 _ (bN Z1 Z6) bF)))) Zc
 ·
  rintro n1 s ⟨aB,a_1,i_9,fS,rfl,hm⟩;replace hm:hY (bX n1) aB a_1 i_9 fS=some r:=hm;unfold hY at hm;refine AWp.block (AWp.seq' (AWp.block (AWp.loopM (fun m s=> ∃(aB:List Int) (a_1:Int) (i_9:Int) (fS:Int),s=(⟨84,(aF (aF (aF (aF (fun _=>AV.any) 0 (.own i0 0 aB.length)) 1 (.v (.int .i64 a_1))) 9 (.v (.int .i64 i_9))) 10 (.v (.int .i64 fS))),⟨(upd h0 i0 (.cells 1 (aB.flatMap (ci .u64)) 0)),64⟩⟩:St)∧fV (bX n1) m aB a_1 i_9 fS=some r) bC ?_ ?_ ?_)))
  · rintro s ⟨_,_,_,_,_,h⟩;cases h
  · refine ⟨_,?_,aB,a_1,i_9,fS,rfl,hm⟩;exact bM (aD 10 _ Z1 (aD 9 _ Z1 (aD 1 _ Z1 (aD 0 _ (bN Z1 Z6) bF)))) Zc
  ·
   rintro n2 s ⟨aB,a_1,i_9,fS,rfl,hm⟩;replace hm:hZ (bX n1) (fV (bX n1) n2) aB a_1 i_9 fS=some r:=hm;unfold hZ at hm;refine AWp.seq' (sd mix (by kernel_rfl) (N':=128) rfl ?_)
   iterate 6 first|refine pA ?_|refine pB ?_
   obtain ⟨x14,h13,hm⟩:=bnd hm;refine pg rfl rfl Z2 (fun hb=>(aN underlying24 fD (Zh hb) Za Z6 (Zh hb) (bK h13 hb))) ?_;refine pg rfl rfl Z2 (fun hb=>(bL (CFi .u64) (Zh hb) Za (bK h13 hb) Zb)) ?_
   iterate 2 refine pB ?_
   obtain ⟨x16,h15,hm⟩:=bnd hm;refine pg rfl rfl Z2 (fun hb=>(aN underlying24 fD (Zh hb) Za Z6 (Zh hb) (bK h15 hb))) ?_;refine pg rfl rfl Z2 (fun hb=>(bL (CFi .u64) (Zh hb) Za (bK h15 hb) Zb)) ?_;obtain ⟨r18,h17,hm⟩:=bnd hm;refine aI.callQG (r:= .v (.bool r18)) Zd rfl Z2 Z1 aFp (fun hb H=>(.cons (td (Zh hb) (.v _)) (.cons (td (Zh hb) (.v _)) .nil))) (fun hb=>gV (bK h17 hb)) ?_
   iterate 2 first|refine pA ?_|refine pB ?_
   refine fs (AWp.condM hm Z1 (fun _ hm=>?_) (fun _ hm=>?_))
   ·
    refine AWp.skip (aV (AWp.block (AWp.reg 64 (N':=192) rfl ?_)))
    iterate 3 refine pA ?_
    refine aI.fin (eR (cN ?_));refine ⟨_,?_,aB,a_1,(IntKind.i64.wrap (i_9+1)),fS,rfl,hm⟩;exact bM (aD 10 _ Z1 (aD 9 _ Z1 (aD 1 _ Z1 (aD 0 _ (bN Z1 Z6) bF)))) Zc
   ·
    refine AWp.exit (dJ (cY (cU (aV (AWp.seq' (AWp.block (AWp.loopM (fun m s=> ∃(aB:List Int) (a_1:Int) (i_9:Int) (fS:Int),s=(⟨84,(aF (aF (aF (aF (fun _=>AV.any) 0 (.own i0 0 aB.length)) 1 (.v (.int .i64 a_1))) 9 (.v (.int .i64 i_9))) 10 (.v (.int .i64 fS))),⟨(upd h0 i0 (.cells 1 (aB.flatMap (ci .u64)) 0)),64⟩⟩:St)∧fW (bX n1) m aB a_1 i_9 fS=some r) bC ?_ ?_ ?_)))))))
    · rintro s ⟨_,_,_,_,_,h⟩;cases h
    · refine ⟨_,?_,aB,a_1,i_9,fS,rfl,hm⟩;exact bM (aD 10 _ Z1 (aD 9 _ Z1 (aD 1 _ Z1 (aD 0 _ (bN Z1 Z6) bF)))) Zc
    ·
     rintro n3 s ⟨aB,a_1,i_9,fS,rfl,hm⟩;replace hm:iA (bX n1) (fW (bX n1) n3) aB a_1 i_9 fS=some r:=hm;unfold iA at hm;refine AWp.seq' (sd mix (by kernel_rfl) (N':=128) rfl ?_)
     iterate 6 first|refine pA ?_|refine pB ?_
     obtain ⟨x20,h19,hm⟩:=bnd hm;refine pg rfl rfl Z2 (fun hb=>(aN underlying24 fD (Zh hb) Za Z6 (Zh hb) (bK h19 hb))) ?_;refine pg rfl rfl Z2 (fun hb=>(bL (CFi .u64) (Zh hb) Za (bK h19 hb) Zb)) ?_
     iterate 2 refine pB ?_
     obtain ⟨x22,h21,hm⟩:=bnd hm;refine pg rfl rfl Z2 (fun hb=>(aN underlying24 fD (Zh hb) Za Z6 (Zh hb) (bK h21 hb))) ?_;refine pg rfl rfl Z2 (fun hb=>(bL (CFi .u64) (Zh hb) Za (bK h21 hb) Zb)) ?_;obtain ⟨r24,h23,hm⟩:=bnd hm;refine aI.callQG (r:= .v (.bool r24)) Zd rfl Z2 Z1 aFp (fun hb H=>(.cons (td (Zh hb) (.v _)) (.cons (td (Zh hb) (.v _)) .nil))) (fun hb=>gV (bK h23 hb)) ?_;refine pA ?_;refine fs (AWp.condM hm Z1 (fun _ hm=>?_) (fun _ hm=>?_))
     ·
      refine AWp.skip (aV (AWp.block (AWp.reg 64 (N':=192) rfl ?_)))
      iterate 3 refine pA ?_
      refine aI.fin (eR (cN ?_));refine ⟨_,?_,aB,a_1,i_9,(IntKind.i64.wrap (fS-1)),rfl,hm⟩;exact bM (aD 10 _ Z1 (aD 9 _ Z1 (aD 1 _ Z1 (aD 0 _ (bN Z1 Z6) bF)))) Zc
     ·
      refine AWp.exit (dJ (cY (cU (aV (AWp.seq' (sN 192 ?_))))))
      iterate 3 refine pA ?_
      refine fs (AWp.condM hm Z1 (fun _ hm=>?_) (fun _ hm=>?_))
      ·
       refine AWp.exit (dJ (rG Zd ?_));refine cY (cU (aV (sN 256 ?_)))
       iterate 2 refine pA ?_
       refine fs (AWp.ret ?_);cases hm;exact aFx (.inr rfl) Tryz.results152 Z1 Zc
      ·
       refine AWp.skip (aV (sd mix (by kernel_rfl) (N':=256) rfl ?_))
       iterate 6 refine pA ?_
       obtain ⟨x26,h25,hm⟩:=bnd hm;refine pu rfl (aN underlying24 fD Z1 Za Z6 Z1 h25) ?_;refine pu rfl (bL (CFi .u64) Z1 Za h25 Zb) ?_
       iterate 2 refine pA ?_
       obtain ⟨x28,h27,hm⟩:=bnd hm;refine pu rfl (aN underlying24 fD Z1 Za Z6 Z1 h27) ?_;refine pu rfl (bL (CFi .u64) Z1 Za h27 Zb) ?_;obtain ⟨x30,h29,hm⟩:=bnd hm;refine pu rfl (aN underlying24 fD Z1 Za Z6 Z1 h29) ?_;obtain ⟨l32,h31,hm⟩:=bnd hm;have qh31:=cX h31;refine aI.heap0 (id:=205) rfl (eP (CFi .u64) fD Z1 Z1 Za rfl h31) ?_;obtain ⟨x34,h33,hm⟩:=bnd hm;refine pu rfl (aN underlying24 fD Z1 Za Z6 Z1 h33) ?_;obtain ⟨l36,h35,hm⟩:=bnd hm;have qh35:=cX h35;refine aI.heap0 (id:=207) rfl (eP (CFi .u64) fD Z1 Z1 Za rfl h35) ?_;refine fs (sN 320 ?_)
       iterate 3 refine pA ?_
       refine fs (AWp.reg 64 (N':=384) rfl ?_)
       iterate 3 refine pA ?_
       refine aI.fin (eR (cN ?_));refine ⟨_,?_,l36,a_1,(IntKind.i64.wrap (i_9+1)),(IntKind.i64.wrap (fS-1)),rfl,hm⟩;exact bM (aD 10 _ Z1 (aD 9 _ Z1 (aD 1 _ Z1 (aD 0 _ (bN Z1 Z6) bF)))) Zc
def kZ(rec3:List Int→Int→Int→Int→Option (Int×Bool×List Int))(rec5:List Int→Int→Int→Int→Option (Int×Bool×List Int))(aB:List Int)(a_1:Int)(kB:Int)(gP:Int):Option (Int×Bool×List Int):=
 ((fG ((decide (kB≤gP))==true) 0 (idx aB gP)).bind fun x56=>
 ((fG ((decide (kB≤gP))==true) 0 (idx aB a_1)).bind fun x58=>
 ((fG ((decide (kB≤gP))==true) false (fE x56 x58)).bind fun r60=>
 (bif ((decide (kB≤gP))&&(!r60)) then
  rec5 aB a_1 kB (IntKind.i64.wrap (gP-1))
 else
  (bif (decide (gP<kB)) then
   ((idx aB a_1).bind fun x62=>
   ((idx aB gP).bind fun x64=>
   ((idx aB gP).bind fun x66=>
   ((stt aB gP x62).bind fun l68=>
   ((idx l68 a_1).bind fun x70=>
   ((stt l68 a_1 x64).bind fun l72=>
   some (gP,false,l72)))))))
  else
   ((idx aB gP).bind fun x74=>
   ((idx aB kB).bind fun x76=>
   ((idx aB kB).bind fun x78=>
   ((stt aB kB x74).bind fun l80=>
   ((idx l80 gP).bind fun x82=>
   ((stt l80 gP x76).bind fun l84=>
   rec3 l84 a_1 (IntKind.i64.wrap (kB+1)) (IntKind.i64.wrap (gP-1)))))))))))))
def iJ(rec3:List Int→Int→Int→Int→Option (Int×Bool×List Int)):Nat→List Int→Int→Int→Int→Option (Int×Bool×List Int)
 |0=>fun _ _ _ _=>none
 |n+1=>kZ rec3 (iJ rec3 n)
def kY(rec3:List Int→Int→Int→Int→Option (Int×Bool×List Int))(rec4:List Int→Int→Int→Int→Option (Int×Bool×List Int))(aB:List Int)(a_1:Int)(kB:Int)(gP:Int):Option (Int×Bool×List Int):=
 ((fG ((decide (kB≤gP))==true) 0 (idx aB kB)).bind fun x50=>
 ((fG ((decide (kB≤gP))==true) 0 (idx aB a_1)).bind fun x52=>
 ((fG ((decide (kB≤gP))==true) false (fE x50 x52)).bind fun r54=>
 (bif ((decide (kB≤gP))&&r54) then
  rec4 aB a_1 (IntKind.i64.wrap (kB+1)) gP
 else
  iJ rec3 bC aB a_1 kB gP))))
def iI(rec3:List Int→Int→Int→Int→Option (Int×Bool×List Int)):Nat→List Int→Int→Int→Int→Option (Int×Bool×List Int)
 |0=>fun _ _ _ _=>none
 |n+1=>kY rec3 (iI rec3 n)
def kX(rec3:List Int→Int→Int→Int→Option (Int×Bool×List Int))(aB:List Int)(a_1:Int)(kB:Int)(gP:Int):Option (Int×Bool×List Int):=
 iI rec3 bC aB a_1 kB gP
def cR:Nat→List Int→Int→Int→Int→Option (Int×Bool×List Int)
 |0=>fun _ _ _ _=>none
 |n+1=>kX (cR n)
def kW(rec2:List Int→Int→Int→Int→Option (Int×Bool×List Int))(aB:List Int)(a_1:Int)(kB:Int)(gP:Int):Option (Int×Bool×List Int):=
 ((fG ((decide (kB≤gP))==true) 0 (idx aB gP)).bind fun x20=>
 ((fG ((decide (kB≤gP))==true) 0 (idx aB a_1)).bind fun x22=>
 ((fG ((decide (kB≤gP))==true) false (fE x20 x22)).bind fun r24=>
 (bif ((decide (kB≤gP))&&(!r24)) then
  rec2 aB a_1 kB (IntKind.i64.wrap (gP-1))
 else
  (bif (decide (gP<kB)) then
   ((idx aB a_1).bind fun x26=>
   ((idx aB gP).bind fun x28=>
   ((idx aB gP).bind fun x30=>
   ((stt aB gP x26).bind fun l32=>
   ((idx l32 a_1).bind fun x34=>
   ((stt l32 a_1 x28).bind fun l36=>
   some (gP,true,l36)))))))
  else
   ((idx aB gP).bind fun x38=>
   ((idx aB kB).bind fun x40=>
   ((idx aB kB).bind fun x42=>
   ((stt aB kB x38).bind fun l44=>
   ((idx l44 gP).bind fun x46=>
   ((stt l44 gP x40).bind fun l48=>
   cR bC l48 a_1 (IntKind.i64.wrap (kB+1)) (IntKind.i64.wrap (gP-1)))))))))))))
def iH:Nat→List Int→Int→Int→Int→Option (Int×Bool×List Int)
 |0=>fun _ _ _ _=>none
 |n+1=>kW (iH n)
def kV(rec1:List Int→Int→Int→Int→Option (Int×Bool×List Int))(aB:List Int)(a_1:Int)(kB:Int)(gP:Int):Option (Int×Bool×List Int):=
 ((fG ((decide (kB≤gP))==true) 0 (idx aB kB)).bind fun x14=>
 ((fG ((decide (kB≤gP))==true) 0 (idx aB a_1)).bind fun x16=>
 ((fG ((decide (kB≤gP))==true) false (fE x14 x16)).bind fun r18=>
 (bif ((decide (kB≤gP))&&r18) then
  rec1 aB a_1 (IntKind.i64.wrap (kB+1)) gP
 else
  iH bC aB a_1 kB gP))))
def iG:Nat→List Int→Int→Int→Int→Option (Int×Bool×List Int)
 |0=>fun _ _ _ _=>none
 |n+1=>kV (iG n)
def lP(aB:List Int)(a_1:Int)(b_2:Int)(mY:Int):Option (Int×Bool×List Int):=
 ((idx aB mY).bind fun x2=>
 ((idx aB a_1).bind fun x4=>
 ((idx aB a_1).bind fun x6=>
 ((stt aB a_1 x2).bind fun l8=>
 ((idx l8 mY).bind fun x10=>
 ((stt l8 mY x4).bind fun l12=>
 iG bC l12 a_1 (IntKind.i64.wrap (a_1+1)) (IntKind.i64.wrap (b_2-1))))))))
theorem aCa{aB:List Int}{a_1:Int}{b_2:Int}{mY:Int}{r:Int×Bool×List Int}(hm:lP aB a_1 b_2 mY=some r){H:aM}{i0:Nat}(he:H.ent i0= .cells 1 (aB.flatMap (ci .u64)) 0):dR prog 153 [.own i0 0 aB.length,.v (.int .i64 a_1),.v (.int .i64 b_2),.v (.int .i64 mY)] H (.tup [.v (.int .i64 r.1),.v (.bool r.2.1)]) (H.put i0 (.cells 1 (r.2.2.flatMap (ci .u64)) 0)):=by
 refine dR.of_bodyM func153 rfl he ?_;generalize H.ent=h0;simp only [ntmps153,List.length_cons,List.length_nil,Nat.reduceAdd,Nat.reduceSub];unfold lP at hm;refine sN 64 ?_
 iterate 2 refine pA ?_
 refine fs (sd mix (by kernel_rfl) (N':=128) rfl ?_)
 iterate 6 refine pA ?_
 obtain ⟨x2,h1,hm⟩:=bnd hm;refine pu rfl (aN underlying24 fD Z1 Za Z6 Z1 h1) ?_;refine pu rfl (bL (CFi .u64) Z1 Za h1 Zb) ?_
 iterate 2 refine pA ?_
 obtain ⟨x4,h3,hm⟩:=bnd hm;refine pu rfl (aN underlying24 fD Z1 Za Z6 Z1 h3) ?_;refine pu rfl (bL (CFi .u64) Z1 Za h3 Zb) ?_;obtain ⟨x6,h5,hm⟩:=bnd hm;refine pu rfl (aN underlying24 fD Z1 Za Z6 Z1 h5) ?_;obtain ⟨l8,h7,hm⟩:=bnd hm;have qh7:=cX h7;refine aI.heap0 (id:=77) rfl (eP (CFi .u64) fD Z1 Z1 Za rfl h7) ?_;obtain ⟨x10,h9,hm⟩:=bnd hm;refine pu rfl (aN underlying24 fD Z1 Za Z6 Z1 h9) ?_;obtain ⟨l12,h11,hm⟩:=bnd hm;have qh11:=cX h11;refine aI.heap0 (id:=79) rfl (eP (CFi .u64) fD Z1 Z1 Za rfl h11) ?_;refine fs (sN 192 ?_)
 iterate 6 refine pA ?_
 refine fs (AWp.seq' (AWp.block (AWp.loopM (fun m s=> ∃(aB:List Int) (a_1:Int) (kB:Int) (gP:Int),s=(⟨168,(aF (aF (aF (aF (fun _=>AV.any) 0 (.own i0 0 aB.length)) 1 (.v (.int .i64 a_1))) 10 (.v (.int .i64 kB))) 11 (.v (.int .i64 gP))),⟨(upd h0 i0 (.cells 1 (aB.flatMap (ci .u64)) 0)),64⟩⟩:St)∧iG m aB a_1 kB gP=some r) bC ?_ ?_ ?_)))
 · rintro s ⟨_,_,_,_,_,h⟩;cases h
 · refine ⟨_,?_,l12,a_1,(IntKind.i64.wrap (a_1+1)),(IntKind.i64.wrap (b_2-1)),rfl,hm⟩;exact bM (aD 11 _ Z1 (aD 10 _ Z1 (aD 1 _ Z1 (aD 0 _ (bN Z1 Z6) bF)))) Zc
 ·
  rintro n1 s ⟨aB,a_1,kB,gP,rfl,hm⟩;replace hm:kV (iG n1) aB a_1 kB gP=some r:=hm;unfold kV at hm;refine AWp.seq' (sd mix (by kernel_rfl) (N':=128) rfl ?_)
  iterate 6 first|refine pA ?_|refine pB ?_
  obtain ⟨x14,h13,hm⟩:=bnd hm;refine pg rfl rfl Z2 (fun hb=>(aN underlying24 fD (Zh hb) Za Z6 (Zh hb) (bK h13 hb))) ?_;refine pg rfl rfl Z2 (fun hb=>(bL (CFi .u64) (Zh hb) Za (bK h13 hb) Zb)) ?_
  iterate 2 refine pB ?_
  obtain ⟨x16,h15,hm⟩:=bnd hm;refine pg rfl rfl Z2 (fun hb=>(aN underlying24 fD (Zh hb) Za Z6 (Zh hb) (bK h15 hb))) ?_;refine pg rfl rfl Z2 (fun hb=>(bL (CFi .u64) (Zh hb) Za (bK h15 hb) Zb)) ?_;obtain ⟨r18,h17,hm⟩:=bnd hm;refine aI.callQG (r:= .v (.bool r18)) Zd rfl Z2 Z1 aFp (fun hb H=>(.cons (td (Zh hb) (.v _)) (.cons (td (Zh hb) (.v _)) .nil))) (fun hb=>gV (bK h17 hb)) ?_;refine pA ?_;refine fs (AWp.condM hm Z1 (fun _ hm=>?_) (fun _ hm=>?_))
  ·
   refine AWp.skip (aV (AWp.block (AWp.reg 64 (N':=192) rfl ?_)))
   iterate 3 refine pA ?_
   refine aI.fin (eR (cN ?_));refine ⟨_,?_,aB,a_1,(IntKind.i64.wrap (kB+1)),gP,rfl,hm⟩;exact bM (aD 11 _ Z1 (aD 10 _ Z1 (aD 1 _ Z1 (aD 0 _ (bN Z1 Z6) bF)))) Zc
  ·
   refine AWp.exit (dJ (cY (cU (aV (AWp.seq' (AWp.block (AWp.loopM (fun m s=> ∃(aB:List Int) (a_1:Int) (kB:Int) (gP:Int),s=(⟨168,(aF (aF (aF (aF (fun _=>AV.any) 0 (.own i0 0 aB.length)) 1 (.v (.int .i64 a_1))) 10 (.v (.int .i64 kB))) 11 (.v (.int .i64 gP))),⟨(upd h0 i0 (.cells 1 (aB.flatMap (ci .u64)) 0)),64⟩⟩:St)∧iH m aB a_1 kB gP=some r) bC ?_ ?_ ?_)))))))
   · rintro s ⟨_,_,_,_,_,h⟩;cases h
   · refine ⟨_,?_,aB,a_1,kB,gP,rfl,hm⟩;exact bM (aD 11 _ Z1 (aD 10 _ Z1 (aD 1 _ Z1 (aD 0 _ (bN Z1 Z6) bF)))) Zc
   ·
    rintro n2 s ⟨aB,a_1,kB,gP,rfl,hm⟩;replace hm:kW (iH n2) aB a_1 kB gP=some r:=hm;unfold kW at hm;refine AWp.seq' (sd mix (by kernel_rfl) (N':=128) rfl ?_)
    iterate 6 first|refine pA ?_|refine pB ?_
    obtain ⟨x20,h19,hm⟩:=bnd hm;refine pg rfl rfl Z2 (fun hb=>(aN underlying24 fD (Zh hb) Za Z6 (Zh hb) (bK h19 hb))) ?_;refine pg rfl rfl Z2 (fun hb=>(bL (CFi .u64) (Zh hb) Za (bK h19 hb) Zb)) ?_
    iterate 2 refine pB ?_
    obtain ⟨x22,h21,hm⟩:=bnd hm;refine pg rfl rfl Z2 (fun hb=>(aN underlying24 fD (Zh hb) Za Z6 (Zh hb) (bK h21 hb))) ?_;refine pg rfl rfl Z2 (fun hb=>(bL (CFi .u64) (Zh hb) Za (bK h21 hb) Zb)) ?_;obtain ⟨r24,h23,hm⟩:=bnd hm;refine aI.callQG (r:= .v (.bool r24)) Zd rfl Z2 Z1 aFp (fun hb H=>(.cons (td (Zh hb) (.v _)) (.cons (td (Zh hb) (.v _)) .nil))) (fun hb=>gV (bK h23 hb)) ?_
    iterate 2 first|refine pA ?_|refine pB ?_
    refine fs (AWp.condM hm Z1 (fun _ hm=>?_) (fun _ hm=>?_))
    ·
     refine AWp.skip (aV (AWp.block (AWp.reg 64 (N':=192) rfl ?_)))
     iterate 3 refine pA ?_
     refine aI.fin (eR (cN ?_));refine ⟨_,?_,aB,a_1,kB,(IntKind.i64.wrap (gP-1)),rfl,hm⟩;exact bM (aD 11 _ Z1 (aD 10 _ Z1 (aD 1 _ Z1 (aD 0 _ (bN Z1 Z6) bF)))) Zc
    ·
     refine AWp.exit (dJ (cY (cU (aV (AWp.seq' (sN 192 ?_))))))
     iterate 3 refine pA ?_
     refine fs (AWp.condM hm Z1 (fun _ hm=>?_) (fun _ hm=>?_))
     ·
      refine sd mix (by kernel_rfl) (N':=256) rfl ?_
      iterate 6 refine pA ?_
      obtain ⟨x26,h25,hm⟩:=bnd hm;refine pu rfl (aN underlying24 fD Z1 Za Z6 Z1 h25) ?_;refine pu rfl (bL (CFi .u64) Z1 Za h25 Zb) ?_
      iterate 2 refine pA ?_
      obtain ⟨x28,h27,hm⟩:=bnd hm;refine pu rfl (aN underlying24 fD Z1 Za Z6 Z1 h27) ?_;refine pu rfl (bL (CFi .u64) Z1 Za h27 Zb) ?_;obtain ⟨x30,h29,hm⟩:=bnd hm;refine pu rfl (aN underlying24 fD Z1 Za Z6 Z1 h29) ?_;obtain ⟨l32,h31,hm⟩:=bnd hm;have qh31:=cX h31;refine aI.heap0 (id:=205) rfl (eP (CFi .u64) fD Z1 Z1 Za rfl h31) ?_;obtain ⟨x34,h33,hm⟩:=bnd hm;refine pu rfl (aN underlying24 fD Z1 Za Z6 Z1 h33) ?_;obtain ⟨l36,h35,hm⟩:=bnd hm;have qh35:=cX h35;refine aI.heap0 (id:=207) rfl (eP (CFi .u64) fD Z1 Z1 Za rfl h35) ?_;refine fs (sN 320 ?_)
      iterate 3 refine pA ?_
      refine fs (AWp.ret (lA ?_));cases hm;exact aQ6 (.inr rfl) Tryz.results153 Z1 Z1 Zc
     ·
      refine AWp.skip (aV (sd mix (by kernel_rfl) (N':=256) rfl ?_))
      iterate 6 refine pA ?_
      obtain ⟨x38,h37,hm⟩:=bnd hm;refine pu rfl (aN underlying24 fD Z1 Za Z6 Z1 h37) ?_;refine pu rfl (bL (CFi .u64) Z1 Za h37 Zb) ?_
      iterate 2 refine pA ?_
      obtain ⟨x40,h39,hm⟩:=bnd hm;refine pu rfl (aN underlying24 fD Z1 Za Z6 Z1 h39) ?_;refine pu rfl (bL (CFi .u64) Z1 Za h39 Zb) ?_;obtain ⟨x42,h41,hm⟩:=bnd hm;refine pu rfl (aN underlying24 fD Z1 Za Z6 Z1 h41) ?_;obtain ⟨l44,h43,hm⟩:=bnd hm;have qh43:=cX h43;refine aI.heap0 (id:=205) rfl (eP (CFi .u64) fD Z1 Z1 Za rfl h43) ?_;obtain ⟨x46,h45,hm⟩:=bnd hm;refine pu rfl (aN underlying24 fD Z1 Za Z6 Z1 h45) ?_;obtain ⟨l48,h47,hm⟩:=bnd hm;have qh47:=cX h47;refine aI.heap0 (id:=207) rfl (eP (CFi .u64) fD Z1 Z1 Za rfl h47) ?_;refine fs (sN 320 ?_)
      iterate 3 refine pA ?_
      refine fs (sN 384 ?_)
      iterate 3 refine pA ?_
      refine fs (AWp.seq' (AWp.block (AWp.loopM (fun m s=> ∃(aB:List Int) (a_1:Int) (kB:Int) (gP:Int),s=(⟨168,(aF (aF (aF (aF (fun _=>AV.any) 0 (.own i0 0 aB.length)) 1 (.v (.int .i64 a_1))) 10 (.v (.int .i64 kB))) 11 (.v (.int .i64 gP))),⟨(upd h0 i0 (.cells 1 (aB.flatMap (ci .u64)) 0)),64⟩⟩:St)∧cR m aB a_1 kB gP=some r) bC ?_ ?_ ?_)))
      · rintro s ⟨_,_,_,_,_,h⟩;cases h
      · refine ⟨_,?_,l48,a_1,(IntKind.i64.wrap (kB+1)),(IntKind.i64.wrap (gP-1)),rfl,hm⟩;exact bM (aD 11 _ Z1 (aD 10 _ Z1 (aD 1 _ Z1 (aD 0 _ (bN Z1 Z6) bF)))) Zc
      ·
       rintro n3 s ⟨aB,a_1,kB,gP,rfl,hm⟩;replace hm:kX (cR n3) aB a_1 kB gP=some r:=hm;unfold kX at hm;refine AWp.block (AWp.seq' (AWp.block (AWp.loopM (fun m s=> ∃(aB:List Int) (a_1:Int) (kB:Int) (gP:Int),s=(⟨168,(aF (aF (aF (aF (fun _=>AV.any) 0 (.own i0 0 aB.length)) 1 (.v (.int .i64 a_1))) 10 (.v (.int .i64 kB))) 11 (.v (.int .i64 gP))),⟨(upd h0 i0 (.cells 1 (aB.flatMap (ci .u64)) 0)),64⟩⟩:St)∧iI (cR n3) m aB a_1 kB gP=some r) bC ?_ ?_ ?_)))
       · rintro s ⟨_,_,_,_,_,h⟩;cases h
       · refine ⟨_,?_,aB,a_1,kB,gP,rfl,hm⟩;exact bM (aD 11 _ Z1 (aD 10 _ Z1 (aD 1 _ Z1 (aD 0 _ (bN Z1 Z6) bF)))) Zc
       ·
        rintro n4 s ⟨aB,a_1,kB,gP,rfl,hm⟩;replace hm:kY (cR n3) (iI (cR n3) n4) aB a_1 kB gP=some r:=hm;unfold kY at hm;refine AWp.seq' (sd mix (by kernel_rfl) (N':=128) rfl ?_)
        iterate 6 first|refine pA ?_|refine pB ?_
        obtain ⟨x50,h49,hm⟩:=bnd hm;refine pg rfl rfl Z2 (fun hb=>(aN underlying24 fD (Zh hb) Za Z6 (Zh hb) (bK h49 hb))) ?_;refine pg rfl rfl Z2 (fun hb=>(bL (CFi .u64) (Zh hb) Za (bK h49 hb) Zb)) ?_
        iterate 2 refine pB ?_
        obtain ⟨x52,h51,hm⟩:=bnd hm;refine pg rfl rfl Z2 (fun hb=>(aN underlying24 fD (Zh hb) Za Z6 (Zh hb) (bK h51 hb))) ?_;refine pg rfl rfl Z2 (fun hb=>(bL (CFi .u64) (Zh hb) Za (bK h51 hb) Zb)) ?_;obtain ⟨r54,h53,hm⟩:=bnd hm;refine aI.callQG (r:= .v (.bool r54)) Zd rfl Z2 Z1 aFp (fun hb H=>(.cons (td (Zh hb) (.v _)) (.cons (td (Zh hb) (.v _)) .nil))) (fun hb=>gV (bK h53 hb)) ?_;refine pA ?_;refine fs (AWp.condM hm Z1 (fun _ hm=>?_) (fun _ hm=>?_))
        ·
         refine AWp.skip (aV (AWp.block (AWp.reg 64 (N':=192) rfl ?_)))
         iterate 3 refine pA ?_
         refine aI.fin (eR (cN ?_));refine ⟨_,?_,aB,a_1,(IntKind.i64.wrap (kB+1)),gP,rfl,hm⟩;exact bM (aD 11 _ Z1 (aD 10 _ Z1 (aD 1 _ Z1 (aD 0 _ (bN Z1 Z6) bF)))) Zc
        ·
         refine AWp.exit (dJ (cY (cU (aV (AWp.seq' (AWp.block (AWp.loopM (fun m s=> ∃(aB:List Int) (a_1:Int) (kB:Int) (gP:Int),s=(⟨168,(aF (aF (aF (aF (fun _=>AV.any) 0 (.own i0 0 aB.length)) 1 (.v (.int .i64 a_1))) 10 (.v (.int .i64 kB))) 11 (.v (.int .i64 gP))),⟨(upd h0 i0 (.cells 1 (aB.flatMap (ci .u64)) 0)),64⟩⟩:St)∧iJ (cR n3) m aB a_1 kB gP=some r) bC ?_ ?_ ?_)))))))
         · rintro s ⟨_,_,_,_,_,h⟩;cases h
         · refine ⟨_,?_,aB,a_1,kB,gP,rfl,hm⟩;exact bM (aD 11 _ Z1 (aD 10 _ Z1 (aD 1 _ Z1 (aD 0 _ (bN Z1 Z6) bF)))) Zc
         ·
          rintro n5 s ⟨aB,a_1,kB,gP,rfl,hm⟩;replace hm:kZ (cR n3) (iJ (cR n3) n5) aB a_1 kB gP=some r:=hm;unfold kZ at hm;refine AWp.seq' (sd mix (by kernel_rfl) (N':=128) rfl ?_)
          iterate 6 first|refine pA ?_|refine pB ?_
          obtain ⟨x56,h55,hm⟩:=bnd hm;refine pg rfl rfl Z2 (fun hb=>(aN underlying24 fD (Zh hb) Za Z6 (Zh hb) (bK h55 hb))) ?_;refine pg rfl rfl Z2 (fun hb=>(bL (CFi .u64) (Zh hb) Za (bK h55 hb) Zb)) ?_
          iterate 2 refine pB ?_
          obtain ⟨x58,h57,hm⟩:=bnd hm;refine pg rfl rfl Z2 (fun hb=>(aN underlying24 fD (Zh hb) Za Z6 (Zh hb) (bK h57 hb))) ?_;refine pg rfl rfl Z2 (fun hb=>(bL (CFi .u64) (Zh hb) Za (bK h57 hb) Zb)) ?_;obtain ⟨r60,h59,hm⟩:=bnd hm;refine aI.callQG (r:= .v (.bool r60)) Zd rfl Z2 Z1 aFp (fun hb H=>(.cons (td (Zh hb) (.v _)) (.cons (td (Zh hb) (.v _)) .nil))) (fun hb=>gV (bK h59 hb)) ?_
          iterate 2 first|refine pA ?_|refine pB ?_
          refine fs (AWp.condM hm Z1 (fun _ hm=>?_) (fun _ hm=>?_))
          ·
           refine AWp.skip (aV (AWp.block (AWp.reg 64 (N':=192) rfl ?_)))
           iterate 3 refine pA ?_
           refine aI.fin (eR (cN ?_));refine ⟨_,?_,aB,a_1,kB,(IntKind.i64.wrap (gP-1)),rfl,hm⟩;exact bM (aD 11 _ Z1 (aD 10 _ Z1 (aD 1 _ Z1 (aD 0 _ (bN Z1 Z6) bF)))) Zc
          ·
           refine AWp.exit (dJ (cY (cU (aV (AWp.seq' (sN 192 ?_))))))
           iterate 3 refine pA ?_
           refine fs (AWp.condM hm Z1 (fun _ hm=>?_) (fun _ hm=>?_))
           ·
            refine AWp.exit (dJ (rG Zd ?_));refine cY (cU (aV (sd mix (by kernel_rfl) (N':=256) rfl ?_)))
            iterate 6 refine pA ?_
            obtain ⟨x62,h61,hm⟩:=bnd hm;refine pu rfl (aN underlying24 fD Z1 Za Z6 Z1 h61) ?_;refine pu rfl (bL (CFi .u64) Z1 Za h61 Zb) ?_
            iterate 2 refine pA ?_
            obtain ⟨x64,h63,hm⟩:=bnd hm;refine pu rfl (aN underlying24 fD Z1 Za Z6 Z1 h63) ?_;refine pu rfl (bL (CFi .u64) Z1 Za h63 Zb) ?_;obtain ⟨x66,h65,hm⟩:=bnd hm;refine pu rfl (aN underlying24 fD Z1 Za Z6 Z1 h65) ?_;obtain ⟨l68,h67,hm⟩:=bnd hm;have qh67:=cX h67;refine aI.heap0 (id:=205) rfl (eP (CFi .u64) fD Z1 Z1 Za rfl h67) ?_;obtain ⟨x70,h69,hm⟩:=bnd hm;refine pu rfl (aN underlying24 fD Z1 Za Z6 Z1 h69) ?_;obtain ⟨l72,h71,hm⟩:=bnd hm;have qh71:=cX h71;refine aI.heap0 (id:=207) rfl (eP (CFi .u64) fD Z1 Z1 Za rfl h71) ?_;refine fs (sN 320 ?_)
            iterate 3 refine pA ?_
            refine fs (AWp.ret ?_);cases hm;exact aQ6 (.inr rfl) Tryz.results153 Z1 Z1 Zc
           ·
            refine AWp.skip (aV (sd mix (by kernel_rfl) (N':=256) rfl ?_))
            iterate 6 refine pA ?_
            obtain ⟨x74,h73,hm⟩:=bnd hm;refine pu rfl (aN underlying24 fD Z1 Za Z6 Z1 h73) ?_;refine pu rfl (bL (CFi .u64) Z1 Za h73 Zb) ?_
            iterate 2 refine pA ?_
            obtain ⟨x76,h75,hm⟩:=bnd hm;refine pu rfl (aN underlying24 fD Z1 Za Z6 Z1 h75) ?_;refine pu rfl (bL (CFi .u64) Z1 Za h75 Zb) ?_;obtain ⟨x78,h77,hm⟩:=bnd hm;refine pu rfl (aN underlying24 fD Z1 Za Z6 Z1 h77) ?_;obtain ⟨l80,h79,hm⟩:=bnd hm;have qh79:=cX h79;refine aI.heap0 (id:=205) rfl (eP (CFi .u64) fD Z1 Z1 Za rfl h79) ?_;obtain ⟨x82,h81,hm⟩:=bnd hm;refine pu rfl (aN underlying24 fD Z1 Za Z6 Z1 h81) ?_;obtain ⟨l84,h83,hm⟩:=bnd hm;have qh83:=cX h83;refine aI.heap0 (id:=207) rfl (eP (CFi .u64) fD Z1 Z1 Za rfl h83) ?_;refine fs (sN 320 ?_)
            iterate 3 refine pA ?_
            refine fs (AWp.reg 64 (N':=384) rfl ?_)
            iterate 3 refine pA ?_
            refine aI.fin (eR (cN ?_));refine ⟨_,?_,l84,a_1,(IntKind.i64.wrap (kB+1)),(IntKind.i64.wrap (gP-1)),rfl,hm⟩;exact bM (aD 11 _ Z1 (aD 10 _ Z1 (aD 1 _ Z1 (aD 0 _ (bN Z1 Z6) bF)))) Zc
abbrev jY(recf:(List Int)→Int→Int→Int→Option (List Int))(rec1:List Int→Int→Int→Int→Bool→Bool→Option (List Int))(aB:List Int)(a_1:Int)(b_2:Int)(bG:Int)(cE:Bool)(bJ:Bool)(jR:Int)(qI:Int):Option (List Int):=
 ((fG ((decide (0<a_1))==true) 0 (idx aB (IntKind.i64.wrap (a_1-1)))).bind fun x9=>
 ((fG ((decide (0<a_1))==true) 0 (idx aB qI)).bind fun x11=>
 ((fG ((decide (0<a_1))==true) false (fE x9 x11)).bind fun r13=>
 (bif ((decide (0<a_1))&&(!r13)) then
  ((sX (fun x=>x.2.length) aB.length (iX aB a_1 b_2 qI)).bind fun ⟨r16,l15⟩=>
  rec1 l15 r16 b_2 bG cE bJ)
 else
  ((sX (fun x=>x.2.2.length) aB.length (lP aB a_1 b_2 qI)).bind fun ⟨r19,r20,l18⟩=>
  (bif (decide ((IntKind.i64.wrap (r19-a_1))<(IntKind.i64.wrap (b_2-r19)))) then
   ((sX (fun x=>x.length) l18.length (recf l18 a_1 r19 bG)).bind fun l22=>
   rec1 l22 (IntKind.i64.wrap (r19+1)) b_2 bG (decide ((IntKind.i64.wrap (Int.tdiv jR 8))≤(IntKind.i64.wrap (r19-a_1)))) r20)
  else
   ((sX (fun x=>x.length) l18.length (recf l18 (IntKind.i64.wrap (r19+1)) b_2 bG)).bind fun l24=>
   rec1 l24 a_1 r19 bG (decide ((IntKind.i64.wrap (Int.tdiv jR 8))≤(IntKind.i64.wrap (b_2-r19)))) r20)))))))
abbrev jX(recf:(List Int)→Int→Int→Int→Option (List Int))(rec1:List Int→Int→Int→Int→Bool→Bool→Option (List Int))(aB:List Int)(a_1:Int)(b_2:Int)(bG:Int)(cE:Bool)(bJ:Bool)(jR:Int)(qI:Int)(aMz:Int):Option (List Int):=
 (bif ((cE&&bJ)&&(aMz==1)) then
  ((sX (fun x=>x.2.length) aB.length (gD aB a_1 b_2)).bind fun ⟨r27,l26⟩=>
  (bif r27 then
   some l26
  else
   jY recf rec1 l26 a_1 b_2 bG cE bJ jR qI))
 else
  jY recf rec1 aB a_1 b_2 bG cE bJ jR qI)
abbrev jW(recf:(List Int)→Int→Int→Int→Option (List Int))(rec1:List Int→Int→Int→Int→Bool→Bool→Option (List Int))(aB:List Int)(a_1:Int)(b_2:Int)(bG:Int)(cE:Bool)(bJ:Bool)(jR:Int):Option (List Int):=
 ((kL aB a_1 b_2).bind fun ⟨r6,r7⟩=>
 (bif (r7==2) then
  ((sX (fun x=>x.length) aB.length (kI aB a_1 b_2)).bind fun l29=>
  jX recf rec1 l29 a_1 b_2 bG cE bJ jR (IntKind.i64.wrap ((IntKind.i64.wrap (b_2-1))-(IntKind.i64.wrap (r6-a_1)))) 1)
 else
  jX recf rec1 aB a_1 b_2 bG cE bJ jR r6 r7))
def mB(recf:(List Int)→Int→Int→Int→Option (List Int))(rec1:List Int→Int→Int→Int→Bool→Bool→Option (List Int))(aB:List Int)(a_1:Int)(b_2:Int)(bG:Int)(cE:Bool)(bJ:Bool):Option (List Int):=
 (bif (decide ((IntKind.i64.wrap (b_2-a_1))≤12)) then
  ((sX (fun x=>x.length) aB.length (jN aB a_1 b_2)).bind fun l2=>
  some l2)
 else
  (bif (bG==0) then
   ((sX (fun x=>x.length) aB.length (lZ aB a_1 b_2)).bind fun l4=>
   some l4)
  else
   (bif (!cE) then
    ((sX (fun x=>x.length) aB.length (jL aB a_1 b_2)).bind fun l31=>
    jW recf rec1 l31 a_1 b_2 (IntKind.i64.wrap (bG-1)) cE bJ (IntKind.i64.wrap (b_2-a_1)))
   else
    jW recf rec1 aB a_1 b_2 bG cE bJ (IntKind.i64.wrap (b_2-a_1)))))
def cP(recf:(List Int)→Int→Int→Int→Option (List Int)):Nat→List Int→Int→Int→Int→Bool→Bool→Option (List Int)
 |0=>fun _ _ _ _ _ _=>none
 |n+1=>mB recf (cP recf n)
def qG(recf:(List Int)→Int→Int→Int→Option (List Int))(aB:List Int)(a_1:Int)(b_2:Int)(bG:Int):Option (List Int):=
 cP recf bC aB a_1 b_2 bG true true
def cC:Nat→(List Int)→Int→Int→Int→Option (List Int)
 |0=>fun _ _ _ _=>none
 |n+1=>qG (cC n)
def uL(aB:List Int)(a_1:Int)(b_2:Int)(bG:Int):Option (List Int):=cC bC aB a_1 b_2 bG
theorem aD5: ∀(nn:Nat) {aB:List Int} {a_1:Int} {b_2:Int} {bG:Int} {r:List Int} (hm:cC nn aB a_1 b_2 bG=some r) {H:aM} {i0:Nat} (he:H.ent i0= .cells 1 (aB.flatMap (ci .u64)) 0) (hk: ∀id,3000000≤id→H.ent id= .fresh) (hD: ∀id,aD9 (H.ent id)) (hi:i0<3000000),dR prog 133 [.own i0 0 aB.length,.v (.int .i64 a_1),.v (.int .i64 b_2),.v (.int .i64 bG)] H (.tup []) (H.put i0 (.cells 1 (r.flatMap (ci .u64)) 0)):=by
 intro nn
 induction nn with
 |zero=>
  intro aB a_1 b_2 bG r hm;replace hm:none=some r:=hm;cases hm
 |succ nn ih=>
  intro aB a_1 b_2 bG r hm H i0 he hk hD hi;replace hm:qG (cC nn) aB a_1 b_2 bG=some r:=hm;refine dR.of_bodyK func133 rfl he hk ?_;clear he;generalize H.ent=h0 at hk hD⊢;have hne1: ∀ {k:Nat},3000000≤k→(k==i0)=false:=fun hh=>by simp;omega
  have hne2: ∀ {k:Nat},3000000≤k→(i0==k)=false:=fun hh=>by simp;omega
  simp only [ntmps133,List.length_cons,List.length_nil,Nat.reduceAdd,Nat.reduceSub];unfold qG at hm;refine AWp.behind ?_;refine sN 3000064 (pA ?_);refine fs (sN 3000128 (pA ?_));refine fs (AWp.block (AWp.loopM (fun m s=> ∃(aB:List Int) (a_1:Int) (b_2:Int) (bG:Int) (cE:Bool) (bJ:Bool),s=(⟨134,(aF (aF (aF (aF (aF (aF (fun _=>AV.any) 0 (.own i0 0 aB.length)) 1 (.v (.int .i64 a_1))) 2 (.v (.int .i64 b_2))) 3 (.v (.int .i64 bG))) 8 (.v (.bool cE))) 9 (.v (.bool bJ))),⟨(upd h0 i0 (.cells 1 (aB.flatMap (ci .u64)) 0)),64⟩⟩:St)∧cP (cC nn) m aB a_1 b_2 bG cE bJ=some r) bC ?_ ?_ ?_))
  · rintro s ⟨_,_,_,_,_,_,_,h⟩;cases h
  · refine ⟨_,?_,aB,a_1,b_2,bG,true,true,rfl,hm⟩;exact bM (aD 9 _ Z1 (aD 8 _ Z1 (aD 3 _ Z1 (aD 2 _ Z1 (aD 1 _ Z1 (aD 0 _ (bN Z1 Z6) bF)))))) Zi
  ·
   rintro n1 s ⟨aB,a_1,b_2,bG,cE,bJ,rfl,hm⟩;replace hm:mB (cC nn) (cP (cC nn) n1) aB a_1 b_2 bG cE bJ=some r:=hm;unfold mB at hm;refine AWp.block (sN 128 ?_)
   iterate 4 refine pA ?_
   refine fs (AWp.seq' (sN 192 ?_))
   iterate 2 refine pA ?_
   refine fs (AWp.condM hm Z1 (fun _ hm=>?_) (fun _ hm=>?_))
   ·
    refine sN 256 ?_
    iterate 3 refine pA ?_
    obtain ⟨l2,h1,hm⟩:=bnd hm;have qh1:=oZ h1;refine aI.callM Zd Z1 bW6 ?_ (aA0 (oO h1) (i0:=i0) Ze) ?_
    ·
     try simp only [go_sem,Nat.reduceBEq]
     first|done|rfl|(congr 2<;>omega)
    refine fs (AWp.ret (lA (pO (qQ (pO ?_)))));cases hm;exact aIw (.inr rfl) Tryz.results133 (by intro q hq;simp only [upd];all_goals ((repeat' split)<;>first|rfl|omega)) (fun q hq=>by rw [upd_ne _ _ _ _ om];exact hk q hq) (nL (vS (CFi .u64)) hD)
   ·
    refine AWp.skip (aV (AWp.seq' (sN 256 ?_)))
    iterate 2 refine pA ?_
    refine fs (AWp.condM hm Z1 (fun _ hm=>?_) (fun _ hm=>?_))
    ·
     refine sN 320 ?_
     iterate 3 refine pA ?_
     obtain ⟨l4,h3,hm⟩:=bnd hm;have qh3:=oZ h3;refine aI.callM Zd Z1 bW7 ?_ (aD3 (oO h3) (i0:=i0) Ze) ?_
     ·
      try simp only [go_sem,Nat.reduceBEq]
      first|done|rfl|(congr 2<;>omega)
     refine fs (AWp.ret (lA (pO (qQ (pO ?_)))));cases hm;exact aIw (.inr rfl) Tryz.results133 (by intro q hq;simp only [upd];all_goals ((repeat' split)<;>first|rfl|omega)) (fun q hq=>by rw [upd_ne _ _ _ _ om];exact hk q hq) (nL (vS (CFi .u64)) hD)
    ·
     refine AWp.skip (aV (AWp.seqJ (fun s=> ∃(aB:List Int) (a_1:Int) (b_2:Int) (bG:Int) (cE:Bool) (bJ:Bool) (jR:Int),s=(⟨134,(aF (aF (aF (aF (aF (aF (aF (fun _=>AV.any) 0 (.own i0 0 aB.length)) 1 (.v (.int .i64 a_1))) 2 (.v (.int .i64 b_2))) 3 (.v (.int .i64 bG))) 8 (.v (.bool cE))) 9 (.v (.bool bJ))) 10 (.v (.int .i64 jR))),⟨(upd h0 i0 (.cells 1 (aB.flatMap (ci .u64)) 0)),64⟩⟩:St)∧jW (cC nn) (cP (cC nn) n1) aB a_1 b_2 bG cE bJ jR=some r) ?_ ?_))
     ·
      refine sN 320 ?_
      iterate 2 refine pA ?_
      refine fs (AWp.condM hm Z1 (fun _ hm=>?_) (fun _ hm=>?_))
      ·
       refine sN 384 ?_
       iterate 3 refine pA ?_
       obtain ⟨l31,h30,hm⟩:=bnd hm;have qh30:=oZ h30;refine aI.callM Zd Z1 bW8 ?_ (zX (oO h30) (i0:=i0) Ze (fun q hq=>by simp only [upd_ne _ _ _ _ (show q≠i0 by omega)];exact hk q hq) (by (repeat (first|exact hD|refine nL (vS (CFi .u64)) ?_))) hi) ?_
       ·
        try simp only [go_sem,Nat.reduceBEq]
        first|done|rfl|(congr 2<;>omega)
       refine fs (AWp.reg 64 (N':=448) rfl ?_)
       iterate 3 refine pA ?_
       refine aI.fin (nG ?_);refine ⟨_,?_,l31,a_1,b_2,(IntKind.i64.wrap (bG-1)),cE,bJ,(IntKind.i64.wrap (b_2-a_1)),rfl,hm⟩;exact bM (aD 10 _ Z1 (aD 9 _ Z1 (aD 8 _ Z1 (aD 3 _ Z1 (aD 2 _ Z1 (aD 1 _ Z1 (aD 0 _ (bN Z1 Z6) bF))))))) Zi
      · refine AWp.skip (nG ?_);refine ⟨_,?_,aB,a_1,b_2,bG,cE,bJ,(IntKind.i64.wrap (b_2-a_1)),rfl,hm⟩;exact bM (aD 10 _ Z1 (aD 9 _ Z1 (aD 8 _ Z1 (aD 3 _ Z1 (aD 2 _ Z1 (aD 1 _ Z1 (aD 0 _ (bN Z1 Z6) bF))))))) Zi
     ·
      rintro s ⟨aB,a_1,b_2,bG,cE,bJ,jR,rfl,hm⟩;unfold jW at hm;refine sN 128 ?_
      iterate 3 refine pA ?_
      obtain ⟨⟨r6,r7⟩,h5,hm⟩:=bnd hm;refine aI.callB (r:= .tup [.v (.int .i64 r6),.v (.int .i64 r7)]) Zd Z1 bW9 (.cons (lto (CFi .u64) Z1 Ze Z6) (.cons (ltd fun H=>(td Z1 (.v _))) (.cons (ltd fun H=>(td Z1 (.v _))) aRj.nil))) bT0 (rU h5) ?_
      iterate 5 refine pA ?_
      refine fs (AWp.seqJ (fun s=> ∃(aB:List Int) (a_1:Int) (b_2:Int) (bG:Int) (cE:Bool) (bJ:Bool) (jR:Int) (qI:Int) (aMz:Int),s=(⟨134,(aF (aF (aF (aF (aF (aF (aF (aF (aF (fun _=>AV.any) 0 (.own i0 0 aB.length)) 1 (.v (.int .i64 a_1))) 2 (.v (.int .i64 b_2))) 3 (.v (.int .i64 bG))) 8 (.v (.bool cE))) 9 (.v (.bool bJ))) 10 (.v (.int .i64 jR))) 11 (.v (.int .i64 qI))) 12 (.v (.int .i64 aMz))),⟨(upd h0 i0 (.cells 1 (aB.flatMap (ci .u64)) 0)),64⟩⟩:St)∧jX (cC nn) (cP (cC nn) n1) aB a_1 b_2 bG cE bJ jR qI aMz=some r) ?_ ?_)
      ·
       refine sN 192 ?_
       iterate 2 refine pA ?_
       refine fs (AWp.condM hm Z1 (fun _ hm=>?_) (fun _ hm=>?_))
       ·
        refine sN 256 ?_
        iterate 3 refine pA ?_
        obtain ⟨l29,h28,hm⟩:=bnd hm;have qh28:=oZ h28;refine aI.callM Zd Z1 bWa ?_ (aAk (oO h28) (i0:=i0) Ze) ?_
        ·
         try simp only [go_sem,Nat.reduceBEq]
         first|done|rfl|(congr 2<;>omega)
        refine fs (sN 320 ?_)
        iterate 7 refine pA ?_
        refine fs (AWp.reg 64 (N':=384) rfl ?_);refine pA ?_;refine aI.fin (nG ?_);refine ⟨_,?_,l29,a_1,b_2,bG,cE,bJ,jR,(IntKind.i64.wrap ((IntKind.i64.wrap (b_2-1))-(IntKind.i64.wrap (r6-a_1)))),1,rfl,hm⟩;exact bM (aD 12 _ Z1 (aD 11 _ Z1 (aD 10 _ Z1 (aD 9 _ Z1 (aD 8 _ Z1 (aD 3 _ Z1 (aD 2 _ Z1 (aD 1 _ Z1 (aD 0 _ (bN Z1 Z6) bF))))))))) Zi
       · refine AWp.skip (nG ?_);refine ⟨_,?_,aB,a_1,b_2,bG,cE,bJ,jR,r6,r7,rfl,hm⟩;exact bM (aD 12 _ Z1 (aD 11 _ Z1 (aD 10 _ Z1 (aD 9 _ Z1 (aD 8 _ Z1 (aD 3 _ Z1 (aD 2 _ Z1 (aD 1 _ Z1 (aD 0 _ (bN Z1 Z6) bF))))))))) Zi
      ·
       rintro s ⟨aB,a_1,b_2,bG,cE,bJ,jR,qI,aMz,rfl,hm⟩;unfold jX at hm;refine AWp.seqJ (fun s=> ∃(aB:List Int) (a_1:Int) (b_2:Int) (bG:Int) (cE:Bool) (bJ:Bool) (jR:Int) (qI:Int),s=(⟨134,(aF (aF (aF (aF (aF (aF (aF (aF (fun _=>AV.any) 0 (.own i0 0 aB.length)) 1 (.v (.int .i64 a_1))) 2 (.v (.int .i64 b_2))) 3 (.v (.int .i64 bG))) 8 (.v (.bool cE))) 9 (.v (.bool bJ))) 10 (.v (.int .i64 jR))) 11 (.v (.int .i64 qI))),⟨(upd h0 i0 (.cells 1 (aB.flatMap (ci .u64)) 0)),64⟩⟩:St)∧jY (cC nn) (cP (cC nn) n1) aB a_1 b_2 bG cE bJ jR qI=some r) ?_ ?_
       ·
        refine sN 128 ?_
        iterate 8 first|refine pA ?_|refine pB ?_
        refine fs (AWp.condM hm Z1 (fun _ hm=>?_) (fun _ hm=>?_))
        ·
         refine sN 192 ?_
         iterate 3 refine pA ?_
         obtain ⟨⟨r27,l26⟩,h25,hm⟩:=bnd hm;have qh25:=oZ h25;dsimp only at qh25;refine aI.callM Zd Z1 bWb ?_ (uJ (oO h25) (i0:=i0) Ze) ?_
         ·
          try simp only [go_sem,Nat.reduceBEq]
          first|done|rfl|(congr 2<;>omega)
         refine fs (AWp.condM hm Z1 (fun _ hm=>?_) (fun _ hm=>?_))
         · refine AWp.ret (aQv (pO (qQ (pO ?_))));cases hm;exact aIw (.inr rfl) Tryz.results133 (by intro q hq;simp only [upd];all_goals ((repeat' split)<;>first|rfl|omega)) (fun q hq=>by rw [upd_ne _ _ _ _ om];exact hk q hq) (nL (vS (CFi .u64)) hD)
         · refine AWp.skip (nG ?_);refine ⟨_,?_,l26,a_1,b_2,bG,cE,bJ,jR,qI,rfl,hm⟩;exact bM (aD 11 _ Z1 (aD 10 _ Z1 (aD 9 _ Z1 (aD 8 _ Z1 (aD 3 _ Z1 (aD 2 _ Z1 (aD 1 _ Z1 (aD 0 _ (bN Z1 Z6) bF)))))))) Zi
        · refine AWp.skip (nG ?_);refine ⟨_,?_,aB,a_1,b_2,bG,cE,bJ,jR,qI,rfl,hm⟩;exact bM (aD 11 _ Z1 (aD 10 _ Z1 (aD 9 _ Z1 (aD 8 _ Z1 (aD 3 _ Z1 (aD 2 _ Z1 (aD 1 _ Z1 (aD 0 _ (bN Z1 Z6) bF)))))))) Zi
       ·
        rintro s ⟨aB,a_1,b_2,bG,cE,bJ,jR,qI,rfl,hm⟩;unfold jY at hm;refine AWp.seq' (sd mix (by kernel_rfl) (N':=128) rfl ?_)
        iterate 6 first|refine pA ?_|refine pB ?_
        obtain ⟨x9,h8,hm⟩:=bnd hm;refine pg rfl rfl Z2 (fun hb=>(aN underlying24 fD (Zh hb) Ze Z6 (Zh hb) (bK h8 hb))) ?_;refine pg rfl rfl Z2 (fun hb=>(bL (CFi .u64) (Zh hb) Ze (bK h8 hb) Zb)) ?_
        iterate 2 refine pB ?_
        obtain ⟨x11,h10,hm⟩:=bnd hm;refine pg rfl rfl Z2 (fun hb=>(aN underlying24 fD (Zh hb) Ze Z6 (Zh hb) (bK h10 hb))) ?_;refine pg rfl rfl Z2 (fun hb=>(bL (CFi .u64) (Zh hb) Ze (bK h10 hb) Zb)) ?_;obtain ⟨r13,h12,hm⟩:=bnd hm;refine aI.callQG (r:= .v (.bool r13)) Zd rfl Z2 Z1 aFp (fun hb H=>(.cons (td (Zh hb) (.v _)) (.cons (td (Zh hb) (.v _)) .nil))) (fun hb=>gV (bK h12 hb)) ?_
        iterate 2 first|refine pA ?_|refine pB ?_
        refine fs (AWp.condM hm Z1 (fun _ hm=>?_) (fun _ hm=>?_))
        ·
         refine sN 192 ?_
         iterate 4 refine pA ?_
         obtain ⟨⟨r16,l15⟩,h14,hm⟩:=bnd hm;have qh14:=oZ h14;dsimp only at qh14;refine aI.callM Zd Z1 bWc ?_ (zC (oO h14) (i0:=i0) Ze) ?_
         ·
          try simp only [go_sem,Nat.reduceBEq]
          first|done|rfl|(congr 2<;>omega)
         refine pA ?_;refine fs (sN 256 ?_)
         iterate 2 refine pA ?_
         refine fs (AWp.exit (dJ (cU (cN ?_))));refine ⟨_,?_,l15,r16,b_2,bG,cE,bJ,rfl,hm⟩;exact bM (aD 9 _ Z1 (aD 8 _ Z1 (aD 3 _ Z1 (aD 2 _ Z1 (aD 1 _ Z1 (aD 0 _ (bN Z1 Z6) bF)))))) Zi
        ·
         refine AWp.skip (aV (sN 192 ?_))
         iterate 4 refine pA ?_
         obtain ⟨⟨r19,r20,l18⟩,h17,hm⟩:=bnd hm;have qh17:=oZ h17;dsimp only at qh17;refine aI.callM Zd Z1 bWd ?_ (aCa (oO h17) (i0:=i0) Ze) ?_
         ·
          try simp only [go_sem,Nat.reduceBEq]
          first|done|rfl|(congr 2<;>omega)
         iterate 5 refine pA ?_
         refine fs (sN 256 ?_)
         iterate 2 refine pA ?_
         refine fs (sN 320 ?_)
         iterate 8 refine pA ?_
         refine fs (sN 384 ?_)
         iterate 3 refine pu rfl Zj ?_
         refine fs (sN 448 ?_)
         iterate 3 refine pA ?_
         refine fs (AWp.condM hm Z1 (fun _ hm=>?_) (fun _ hm=>?_))
         ·
          refine sN 512 ?_
          iterate 4 refine pA ?_
          refine fs (sN 576 ?_)
          iterate 4 refine pA ?_
          obtain ⟨l22,h21,hm⟩:=bnd hm;have qh21:=oZ h21;refine aI.callM Zd Z1 bMa ?_ (ih (oO h21) (i0:=i0) Ze (fun q hq=>by simp only [upd_ne _ _ _ _ (show q≠i0 by omega)];exact hk q hq) (by (repeat (first|exact hD|refine nL (vS (CFi .u64)) ?_))) hi) ?_
          ·
           try simp only [go_sem,Nat.reduceBEq]
           first|done|rfl|(congr 2<;>omega)
          refine fs (AWp.reg 64 (N':=640) rfl ?_)
          iterate 3 refine pA ?_
          refine aI.fin (eR (cN ?_));refine ⟨_,?_,l22,(IntKind.i64.wrap (r19+1)),b_2,bG,(decide ((IntKind.i64.wrap (Int.tdiv jR 8))≤(IntKind.i64.wrap (r19-a_1)))),r20,rfl,hm⟩;exact bM (aD 9 _ Z1 (aD 8 _ Z1 (aD 3 _ Z1 (aD 2 _ Z1 (aD 1 _ Z1 (aD 0 _ (bN Z1 Z6) bF)))))) Zi
         ·
          refine sN 512 ?_
          iterate 4 refine pA ?_
          refine fs (sN 576 ?_)
          iterate 5 refine pA ?_
          obtain ⟨l24,h23,hm⟩:=bnd hm;have qh23:=oZ h23;refine aI.callM Zd Z1 bMa ?_ (ih (oO h23) (i0:=i0) Ze (fun q hq=>by simp only [upd_ne _ _ _ _ (show q≠i0 by omega)];exact hk q hq) (by (repeat (first|exact hD|refine nL (vS (CFi .u64)) ?_))) hi) ?_
          ·
           try simp only [go_sem,Nat.reduceBEq]
           first|done|rfl|(congr 2<;>omega)
          refine fs (AWp.reg 64 (N':=640) rfl ?_)
          iterate 2 refine pA ?_
          refine aI.fin (eR (cN ?_));refine ⟨_,?_,l24,a_1,r19,bG,(decide ((IntKind.i64.wrap (Int.tdiv jR 8))≤(IntKind.i64.wrap (b_2-r19)))),r20,rfl,hm⟩;exact bM (aD 9 _ Z1 (aD 8 _ Z1 (aD 3 _ Z1 (aD 2 _ Z1 (aD 1 _ Z1 (aD 0 _ (bN Z1 Z6) bF)))))) Zi
theorem aDo{aB:List Int}{a_1:Int}{b_2:Int}{bG:Int}{r:List Int}(hm:uL aB a_1 b_2 bG=some r){H:aM}{i0:Nat}(he:H.ent i0= .cells 1 (aB.flatMap (ci .u64)) 0)(hk: ∀id,3000000≤id→H.ent id= .fresh)(hD: ∀id,aD9 (H.ent id))(hi:i0<3000000):dR prog 133 [.own i0 0 aB.length,.v (.int .i64 a_1),.v (.int .i64 b_2),.v (.int .i64 bG)] H (.tup []) (H.put i0 (.cells 1 (r.flatMap (ci .u64)) 0)):=aD5 bC hm he hk hD hi
def oR(x_0:List Int):Option (List Int):=
 ((xH (IntKind.u64.wrap (x_0.length:Int))).bind fun r2=>
 ((sX (fun x=>x.length) x_0.length (uL x_0 0 (x_0.length:Int) r2)).bind fun l4=>
 some l4))
theorem aMb{x_0:List Int}{r:List Int}(hm:oR x_0=some r){H:aM}{i0:Nat}(he:H.ent i0= .cells 1 (x_0.flatMap (ci .u64)) 0)(hk: ∀id,3000000≤id→H.ent id= .fresh)(hD: ∀id,aD9 (H.ent id))(hi:i0<3000000):dR prog 100 [.own i0 0 x_0.length] H (.tup []) (H.put i0 (.cells 1 (r.flatMap (ci .u64)) 0)):=by
 refine dR.of_bodyK func100 rfl he hk ?_;clear he;generalize H.ent=h0 at hk hD⊢;have hne1: ∀ {k:Nat},3000000≤k→(k==i0)=false:=fun hh=>by simp;omega
 have hne2: ∀ {k:Nat},3000000≤k→(i0==k)=false:=fun hh=>by simp;omega
 simp only [ntmps100,List.length_cons,List.length_nil,Nat.reduceAdd,Nat.reduceSub];unfold oR at hm;refine AWp.behind ?_;refine sN 3000064 ?_
 iterate 3 refine pA ?_
 refine fs (AWp.reg 64 (N':=3000128) rfl ?_)
 iterate 4 refine pA ?_
 obtain ⟨r2,h1,hm⟩:=bnd hm;refine aI.callQ (r:= .v (.int .i64 r2)) Zd Z1 bSi (fun H=>(cV .nil)) (aKi h1) ?_;obtain ⟨l4,h3,hm⟩:=bnd hm;have qh3:=oZ h3;refine aI.callM Zd Z1 bMa ?_ (aDo (oO h3) (i0:=i0) Ze (fun q hq=>by simp only [upd_ne _ _ _ _ (show q≠i0 by omega)];exact hk q hq) (by (repeat (first|exact hD|refine nL (vS (CFi .u64)) ?_))) hi) ?_
 ·
  try simp only [go_sem,Nat.reduceBEq]
  first|done|rfl|(congr 2<;>omega)
 refine aI.fin ?_;cases hm;exact aIw (.inl rfl) Tryz.results100 (by intro q hq;simp only [upd];all_goals ((repeat' split)<;>first|rfl|omega)) (fun q hq=>by rw [upd_ne _ _ _ _ om];exact hk q hq) (nL (vS (CFi .u64)) hD)
abbrev aDu(rec1:aG→List Int→List Int→Int→Int→Option ((List Int)))(s_2:aG)(nW:List Int)(t8:List Int)(t9:Int)(t10:Int):Option ((List Int)):=
 rec1 s_2 nW t8 t9 (IntKind.i64.wrap (t10+1))
def aHo(rec1:aG→List Int→List Int→Int→Int→Option ((List Int)))(s_2:aG)(nW:List Int)(t8:List Int)(t9:Int)(t10:Int):Option ((List Int)):=
 (bif (decide (t10<t9)) then
  ((idx t8 t10).bind fun x2=>
  ((idx s_2.Slots x2).bind fun x4=>
  (bif x4.Used then
   ((idx s_2.Slots x2).bind fun x6=>
   ((app nW [x6.Key]).bind fun l8=>
   aDu rec1 s_2 l8 t8 t9 t10))
  else
   aDu rec1 s_2 nW t8 t9 t10)))
 else
  ((sX (fun x=>x.length) nW.length (oR nW)).bind fun l10=>
  some l10))
def xM:Nat→aG→List Int→List Int→Int→Int→Option ((List Int))
 |0=>fun _ _ _ _ _=>none
 |n+1=>aHo (xM n)
def sZ(s_0:aG)(l_1:List Int):Option ((List Int)):=
 xM bC s_0 [] l_1 (l_1.length:Int) 0
theorem aZy{s_0:aG}{l_1:List Int}{r:(List Int)}(hm:sZ s_0 l_1=some r):dU prog 76 [.agg [vi s_0.Graph.Config.N,vi s_0.Graph.Config.L,vi s_0.Graph.Config.R,vl dX s_0.Graph.Hashes,vl bE s_0.Graph.Edges,vl bH s_0.Slots],vl (ci .i64) l_1] (vl (ci .u64) r):=by
 refine bd 33 func76 ?_;refine W ?_;refine lp (fun m s=> ∃s_2 nW t8 t9 t10,s=⟨33,(aF (aF (aF (aF (aF fa 2 (.adr 1 0)) 5 (.own 2 0 nW.length)) 8 (vl (ci .i64) t8)) 9 (vi t9)) 10 (vi t10)),⟨(upd (upd bQ 1 (.cells 1 [vi s_2.Graph.Config.N,vi s_2.Graph.Config.L,vi s_2.Graph.Config.R,vl dX s_2.Graph.Hashes,vl bE s_2.Graph.Edges,vl bH s_2.Slots] 0)) 2 (.cells 1 (nW.flatMap (ci .u64)) 0)),64⟩⟩∧xM m s_2 nW t8 t9 t10=some r) ?_ ?_
 · refine ⟨_,?_,s_0,[],l_1,(l_1.length:Int),0,rfl,hm⟩;refine St.Le.trans (aHr 5 900005 1 Z1 Z5) ?_;exact cn (fun j=>bif j==1 then 0 else bif j==2 then 900005 else 0)
 rintro n1 s ⟨s_2,nW,t8,t9,t10,rfl,hm⟩;refine W ?_;refine cm hm (fun hm=>?_) fun hm=>?_
 ·
  refine V ?_;refine AWp.seqJ (fun s=> ∃s_2 nW t8 t9 t10,s=⟨33,(aF (aF (aF (aF (aF fa 2 (.adr 1 0)) 5 (.own 2 0 nW.length)) 8 (vl (ci .i64) t8)) 9 (vi t9)) 10 (vi t10)),⟨(upd (upd bQ 1 (.cells 1 [vi s_2.Graph.Config.N,vi s_2.Graph.Config.L,vi s_2.Graph.Config.R,vl dX s_2.Graph.Hashes,vl bE s_2.Graph.Edges,vl bH s_2.Slots] 0)) 2 (.cells 1 (nW.flatMap (ci .u64)) 0)),64⟩⟩∧aDu (xM n1) s_2 nW t8 t9 t10=some r) ?_ ?_
  ·
   obtain ⟨x2,h1,hm⟩:=bnd hm;obtain ⟨x4,h3,hm⟩:=bnd hm;refine W ?_;refine cm hm (fun hm=>?_) fun hm=>?_
   · have hm:=sb hm h3;refine W ?_;refine aL (CFi .u64) [x4.Key] ?_;obtain ⟨l8,h7,hm⟩:=bnd hm;refine W ?_;exact Lr (fun j=>bif j==1 then 1 else bif j==2 then 264 else 0)
   refine W ?_;exact Lr (fun j=>bif j==1 then 1 else bif j==2 then 2 else 0)
  rintro s ⟨s_2,nW,t8,t9,t10,rfl,hm⟩;refine W ?_;exact Lr (fun j=>bif j==1 then 1 else bif j==2 then 2 else 0)
 obtain ⟨l10,h9,hm⟩:=bnd hm;refine W ?_;have qh9:=oZ h9;refine aI.callM Zd Z1 bVx Z1 (aMb (oO h9) Z3 (by (repeat (first|exact bMx|refine bEq ?_ Zd))) (by (repeat (first|exact bM1|refine nL trivial ?_|refine nL (vS (CFi .u64)) ?_|refine nL ⟨Nat.zero_le _,(aH3.dat s_2)⟩ ?_|refine nL ⟨Nat.zero_le _,DS⟩ ?_))) Zd) ?_;exact E
instance:Ct prog 76 (K2 prog eJ (vl (ci .i64)) (vl (ci .u64)) 76 sZ):=⟨fun hm=>aZy hm⟩
abbrev aDe(rec1:aG→Int→List Int→Int→Int→Option (Int))(s_2:aG)(aJl:Int)(t8:List Int)(t9:Int)(t10:Int):Option (Int):=
 rec1 s_2 aJl t8 t9 (IntKind.i64.wrap (t10+1))
def aDd(rec1:aG→Int→List Int→Int→Int→Option (Int))(s_2:aG)(aJl:Int)(t8:List Int)(t9:Int)(t10:Int):Option (Int):=
 (bif (decide (t10<t9)) then
  ((idx t8 t10).bind fun x2=>
  ((fG ((t10==x2)==true) (aR.mk false 0) (idx s_2.Slots t10)).bind fun x4=>
  (bif ((t10==x2)&&x4.Used) then
   aDe rec1 s_2 (IntKind.i64.wrap (aJl+1)) t8 t9 t10
  else
   aDe rec1 s_2 aJl t8 t9 t10)))
 else
  some aJl)
def rI:Nat→aG→Int→List Int→Int→Int→Option (Int)
 |0=>fun _ _ _ _ _=>none
 |n+1=>aDd (rI n)
def aB2(s_0:aG)(bEo:List Int):Option (Int):=
 rI bC s_0 0 bEo (bEo.length:Int) 0
theorem aSa:K2 prog eJ (vl (ci .i64)) vi 79 aB2:=by
 intro s_0 bEo r hm
 let I1:=((fun m s=> ∃s_2 aJl t8 t9 t10,s=⟨30,(aF (aF (aF (aF (aF fa 2 (.adr 1 0)) 5 (vi aJl)) 8 (vl (ci .i64) t8)) 9 (vi t9)) 10 (vi t10)),⟨(upd bQ 1 (.cells 1 [vi s_2.Graph.Config.N,vi s_2.Graph.Config.L,vi s_2.Graph.Config.R,vl dX s_2.Graph.Hashes,vl bE s_2.Graph.Edges,vl bH s_2.Slots] 0)),64⟩⟩∧rI m s_2 aJl t8 t9 t10=some r):Nat→St→Prop)
 exact be 30 func79 (h:=G)
instance:Ct prog 79 (K2 prog eJ (vl (ci .i64)) vi 79 aB2):=⟨aSa⟩
def iR(bO:(aC→aC→Option (Int)))(rec1:List aC→Int→Int→Int→Option (List aC))(rec2:List aC→Int→Int→Int→Int→Option (List aC))(aB:List aC)(a_1:Int)(b_2:Int)(i_8:Int)(j_9:Int):Option (List aC):=
 ((fG ((decide (a_1<j_9))==true) (aC.mk 0 0) (idx aB j_9)).bind fun x2=>
 ((fG ((decide (a_1<j_9))==true) (aC.mk 0 0) (idx aB (IntKind.i64.wrap (j_9-1)))).bind fun x4=>
 ((fG ((decide (a_1<j_9))==true) 0 (bO x2 x4)).bind fun r6=>
 (bif ((decide (a_1<j_9))&&(decide (r6<0))) then
  ((idx aB (IntKind.i64.wrap (j_9-1))).bind fun x8=>
  ((idx aB j_9).bind fun x10=>
  ((idx aB j_9).bind fun x12=>
  ((stt aB j_9 x8).bind fun l14=>
  ((idx l14 (IntKind.i64.wrap (j_9-1))).bind fun x16=>
  ((stt l14 (IntKind.i64.wrap (j_9-1)) x10).bind fun l18=>
  rec2 l18 a_1 b_2 i_8 (IntKind.i64.wrap (j_9-1))))))))
 else
  rec1 aB a_1 b_2 (IntKind.i64.wrap (i_8+1))))))
def gM(bO:(aC→aC→Option (Int)))(rec1:List aC→Int→Int→Int→Option (List aC)):Nat→List aC→Int→Int→Int→Int→Option (List aC)
 |0=>fun _ _ _ _ _=>none
 |n+1=>iR bO rec1 (gM bO rec1 n)
def iQ(bO:(aC→aC→Option (Int)))(rec1:List aC→Int→Int→Int→Option (List aC))(aB:List aC)(a_1:Int)(b_2:Int)(i_8:Int):Option (List aC):=
 (bif (decide (i_8<b_2)) then
  gM bO rec1 bC aB a_1 b_2 i_8 i_8
 else
  some aB)
def dN(bO:(aC→aC→Option (Int))):Nat→List aC→Int→Int→Int→Option (List aC)
 |0=>fun _ _ _ _=>none
 |n+1=>iQ bO (dN bO n)
def jM(aB:List aC)(a_1:Int)(b_2:Int)(bO:(aC→aC→Option (Int))):Option (List aC):=
 dN bO bC aB a_1 b_2 (IntKind.i64.wrap (a_1+1))
theorem zZ{aB:List aC}{a_1:Int}{b_2:Int}{bO:(aC→aC→Option (Int))}{r:List aC}(hm:jM aB a_1 b_2 bO=some r){jG:FuncId}{eK:List AV}(mS: ∀a,a∈eK→AM.Data a)(oX:(Program.funcs prog)[jG]?.any (fun fn=>fn.body.isSome&&fn.name != "runtime.NumGoroutine")=true)(oY: ∀ {x0 x1 r},bO x0 x1=some r→dU prog jG ([.agg [.v (.int .u64 x0.x0),.v (.int .u64 x0.x1)],.agg [.v (.int .u64 x1.x0),.v (.int .u64 x1.x1)]]++eK) (.v (.int .i64 r))){H:aM}{i0:Nat}(he:H.ent i0= .cells 2 (aB.flatMap bS) 0):dR prog 156 [.own i0 0 aB.length,.v (.int .i64 a_1),.v (.int .i64 b_2),.clo (.func jG) [] eK] H (.tup []) (H.put i0 (.cells 2 (r.flatMap bS) 0)):=by
 refine dR.of_bodyM func156 rfl he ?_;generalize H.ent=h0;simp only [ntmps156,List.length_cons,List.length_nil,Nat.reduceAdd,Nat.reduceSub];unfold jM at hm;refine sN 64 ?_
 iterate 3 refine pA ?_
 refine fs (AWp.block (AWp.loopM (fun m s=> ∃(aB:List aC) (a_1:Int) (b_2:Int) (i_8:Int),s=(⟨53,(aF (aF (aF (aF (aF (fun _=>AV.any) 0 (.own i0 0 aB.length)) 1 (.v (.int .i64 a_1))) 2 (.v (.int .i64 b_2))) 3 (.clo (.func jG) [] eK)) 8 (.v (.int .i64 i_8))),⟨(upd h0 i0 (.cells 2 (aB.flatMap bS) 0)),64⟩⟩:St)∧dN bO m aB a_1 b_2 i_8=some r) bC ?_ ?_ ?_))
 · rintro s ⟨_,_,_,_,_,h⟩;cases h
 · refine ⟨_,?_,aB,a_1,b_2,(IntKind.i64.wrap (a_1+1)),rfl,hm⟩;exact bM (aD 8 _ Z1 (aD 3 _ Z1 (aD 2 _ Z1 (aD 1 _ Z1 (aD 0 _ (bN Z1 Z6) bF))))) Zc
 ·
  rintro n1 s ⟨aB,a_1,b_2,i_8,rfl,hm⟩;replace hm:iQ bO (dN bO n1) aB a_1 b_2 i_8=some r:=hm;unfold iQ at hm;refine AWp.seq' (sN 128 ?_)
  iterate 3 refine pA ?_
  refine fs (AWp.condM hm Z1 (fun _ hm=>?_) (fun _ hm=>?_))
  ·
   refine AWp.skip (aV (AWp.seq' (AWp.block (sN 192 ?_))))
   iterate 2 refine pA ?_
   refine fs (AWp.block (AWp.loopM (fun m s=> ∃(aB:List aC) (a_1:Int) (b_2:Int) (i_8:Int) (j_9:Int),s=(⟨53,(aF (aF (aF (aF (aF (aF (fun _=>AV.any) 0 (.own i0 0 aB.length)) 1 (.v (.int .i64 a_1))) 2 (.v (.int .i64 b_2))) 3 (.clo (.func jG) [] eK)) 8 (.v (.int .i64 i_8))) 9 (.v (.int .i64 j_9))),⟨(upd h0 i0 (.cells 2 (aB.flatMap bS) 0)),64⟩⟩:St)∧gM bO (dN bO n1) m aB a_1 b_2 i_8 j_9=some r) bC ?_ ?_ ?_))
   · rintro s ⟨_,_,_,_,_,_,h⟩;cases h
   · refine ⟨_,?_,aB,a_1,b_2,i_8,i_8,rfl,hm⟩;exact bM (aD 9 _ Z1 (aD 8 _ Z1 (aD 3 _ Z1 (aD 2 _ Z1 (aD 1 _ Z1 (aD 0 _ (bN Z1 Z6) bF)))))) Zc
   ·
    rintro n2 s ⟨aB,a_1,b_2,i_8,j_9,rfl,hm⟩;replace hm:iR bO (dN bO n1) (gM bO (dN bO n1) n2) aB a_1 b_2 i_8 j_9=some r:=hm;unfold iR at hm;refine AWp.seq' (sd mix (by kernel_rfl) (N':=128) rfl ?_)
    iterate 7 first|refine pA ?_|refine pB ?_
    obtain ⟨x2,h1,hm⟩:=bnd hm;refine pg rfl rfl Z2 (fun hb=>(aN underlying40 fR (Zh hb) Za Z6 (Zh hb) (bK h1 hb))) ?_;refine pg rfl rfl Z2 (fun hb=>(bL aJ (Zh hb) Za (bK h1 hb) Zb)) ?_
    iterate 3 refine pB ?_
    obtain ⟨x4,h3,hm⟩:=bnd hm;refine pg rfl rfl Z2 (fun hb=>(aN underlying40 fR (Zh hb) Za Z6 (Zh hb) (bK h3 hb))) ?_;refine pg rfl rfl Z2 (fun hb=>(bL aJ (Zh hb) Za (bK h3 hb) Zb)) ?_;obtain ⟨r6,h5,hm⟩:=bnd hm;refine aI.callQCG (r:= .v (.int .i64 r6)) Zd rfl Z2 (fun hb=>(Zh hb)) mS oX (fun hb H=>(.cons (td (Zh hb) (.agg _ (aJ.dat _))) (.cons (td (Zh hb) (.agg _ (aJ.dat _))) .nil))) (fun hb=>oY (bK h5 hb)) ?_
    iterate 2 first|refine pA ?_|refine pB ?_
    refine fs (AWp.condM hm Z1 (fun _ hm=>?_) (fun _ hm=>?_))
    ·
     refine AWp.skip (aV (AWp.seq' (AWp.block (AWp.regD 64 mix (by kernel_rfl) (N':=192) rfl ?_))))
     iterate 8 refine pA ?_
     obtain ⟨x8,h7,hm⟩:=bnd hm;refine pu rfl (aN underlying40 fR Z1 Za Z6 Z1 h7) ?_;refine pu rfl (bL aJ Z1 Za h7 Zb) ?_
     iterate 2 refine pA ?_
     obtain ⟨x10,h9,hm⟩:=bnd hm;refine pu rfl (aN underlying40 fR Z1 Za Z6 Z1 h9) ?_;refine pu rfl (bL aJ Z1 Za h9 Zb) ?_;obtain ⟨x12,h11,hm⟩:=bnd hm;refine pu rfl (aN underlying40 fR Z1 Za Z6 Z1 h11) ?_;obtain ⟨l14,h13,hm⟩:=bnd hm;have qh13:=cX h13;refine aI.heap0 (id:=143) rfl (eP aJ fR Z1 Z1 Za rfl h13) ?_;obtain ⟨x16,h15,hm⟩:=bnd hm;refine pu rfl (aN underlying40 fR Z1 Za Z6 Z1 h15) ?_;obtain ⟨l18,h17,hm⟩:=bnd hm;have qh17:=cX h17;refine aI.heap0 (id:=145) rfl (eP aJ fR Z1 Z1 Za rfl h17) ?_;refine aI.fin (eR (aV (AWp.reg 64 (N':=256) rfl ?_)))
     iterate 3 refine pA ?_
     refine aI.fin (cN ?_);refine ⟨_,?_,l18,a_1,b_2,i_8,(IntKind.i64.wrap (j_9-1)),rfl,hm⟩;exact bM (aD 9 _ Z1 (aD 8 _ Z1 (aD 3 _ Z1 (aD 2 _ Z1 (aD 1 _ Z1 (aD 0 _ (bN Z1 Z6) bF)))))) Zc
    ·
     refine AWp.exit (dJ (cY (cU (eR (aV (AWp.reg 64 (N':=192) rfl ?_))))))
     iterate 3 refine pA ?_
     refine aI.fin (cN ?_);refine ⟨_,?_,aB,a_1,b_2,(IntKind.i64.wrap (i_8+1)),rfl,hm⟩;exact bM (aD 8 _ Z1 (aD 3 _ Z1 (aD 2 _ Z1 (aD 1 _ Z1 (aD 0 _ (bN Z1 Z6) bF))))) Zc
  · refine AWp.exit (dJ (cY (cU ?_)));cases hm;exact aL8 (.inl rfl) Tryz.results156 Zc
abbrev jE(bP:(aC→aC→Option (Int)))(rec1:List aC→Int→Int→Int→Option (List aC))(aB:List aC)(oL:Int)(dK:Int)(mM:Int)(yL:Int):Option (List aC):=
 ((idx aB (IntKind.i64.wrap (dK+mM))).bind fun x2=>
 ((idx aB (IntKind.i64.wrap (dK+yL))).bind fun x4=>
 ((bP x2 x4).bind fun r6=>
 (bif (!(decide (r6<0))) then
  some aB
 else
  ((idx aB (IntKind.i64.wrap (dK+yL))).bind fun x8=>
  ((idx aB (IntKind.i64.wrap (dK+mM))).bind fun x10=>
  ((idx aB (IntKind.i64.wrap (dK+mM))).bind fun x12=>
  ((stt aB (IntKind.i64.wrap (dK+mM)) x8).bind fun l14=>
  ((idx l14 (IntKind.i64.wrap (dK+yL))).bind fun x16=>
  ((stt l14 (IntKind.i64.wrap (dK+yL)) x10).bind fun l18=>
  rec1 l18 oL dK yL))))))))))
def lQ(bP:(aC→aC→Option (Int)))(rec1:List aC→Int→Int→Int→Option (List aC))(aB:List aC)(oL:Int)(dK:Int)(mM:Int):Option (List aC):=
 (bif (decide (oL≤(IntKind.i64.wrap ((IntKind.i64.wrap (2*mM))+1)))) then
  some aB
 else
  ((fG ((decide ((IntKind.i64.wrap ((IntKind.i64.wrap ((IntKind.i64.wrap (2*mM))+1))+1))<oL))==true) (aC.mk 0 0) (idx aB (IntKind.i64.wrap (dK+(IntKind.i64.wrap ((IntKind.i64.wrap (2*mM))+1)))))).bind fun x20=>
  ((fG ((decide ((IntKind.i64.wrap ((IntKind.i64.wrap ((IntKind.i64.wrap (2*mM))+1))+1))<oL))==true) (aC.mk 0 0) (idx aB (IntKind.i64.wrap ((IntKind.i64.wrap (dK+(IntKind.i64.wrap ((IntKind.i64.wrap (2*mM))+1))))+1)))).bind fun x22=>
  ((fG ((decide ((IntKind.i64.wrap ((IntKind.i64.wrap ((IntKind.i64.wrap (2*mM))+1))+1))<oL))==true) 0 (bP x20 x22)).bind fun r24=>
  (bif ((decide ((IntKind.i64.wrap ((IntKind.i64.wrap ((IntKind.i64.wrap (2*mM))+1))+1))<oL))&&(decide (r24<0))) then
   jE bP rec1 aB oL dK mM (IntKind.i64.wrap ((IntKind.i64.wrap ((IntKind.i64.wrap (2*mM))+1))+1))
  else
   jE bP rec1 aB oL dK mM (IntKind.i64.wrap ((IntKind.i64.wrap (2*mM))+1)))))))
def eZ(bP:(aC→aC→Option (Int))):Nat→List aC→Int→Int→Int→Option (List aC)
 |0=>fun _ _ _ _=>none
 |n+1=>lQ bP (eZ bP n)
def jZ(aB:List aC)(vH:Int)(oL:Int)(dK:Int)(bP:(aC→aC→Option (Int))):Option (List aC):=
 eZ bP bC aB oL dK vH
theorem tE{aB:List aC}{vH:Int}{oL:Int}{dK:Int}{bP:(aC→aC→Option (Int))}{r:List aC}(hm:jZ aB vH oL dK bP=some r){jH:FuncId}{eN:List AV}(gF: ∀a,a∈eN→AM.Data a)(lF:(Program.funcs prog)[jH]?.any (fun fn=>fn.body.isSome&&fn.name != "runtime.NumGoroutine")=true)(lH: ∀ {x0 x1 r},bP x0 x1=some r→dU prog jH ([.agg [.v (.int .u64 x0.x0),.v (.int .u64 x0.x1)],.agg [.v (.int .u64 x1.x0),.v (.int .u64 x1.x1)]]++eN) (.v (.int .i64 r))){H:aM}{i0:Nat}(he:H.ent i0= .cells 2 (aB.flatMap bS) 0):dR prog 180 [.own i0 0 aB.length,.v (.int .i64 vH),.v (.int .i64 oL),.v (.int .i64 dK),.clo (.func jH) [] eN] H (.tup []) (H.put i0 (.cells 2 (r.flatMap bS) 0)):=by
 refine dR.of_bodyM func180 rfl he ?_;generalize H.ent=h0;simp only [ntmps180,List.length_cons,List.length_nil,Nat.reduceAdd,Nat.reduceSub];unfold jZ at hm;refine sN 64 ?_
 iterate 2 refine pA ?_
 refine fs (AWp.block (AWp.loopM (fun m s=> ∃(aB:List aC) (oL:Int) (dK:Int) (mM:Int),s=(⟨82,(aF (aF (aF (aF (aF (fun _=>AV.any) 0 (.own i0 0 aB.length)) 2 (.v (.int .i64 oL))) 3 (.v (.int .i64 dK))) 4 (.clo (.func jH) [] eN)) 10 (.v (.int .i64 mM))),⟨(upd h0 i0 (.cells 2 (aB.flatMap bS) 0)),64⟩⟩:St)∧eZ bP m aB oL dK mM=some r) bC ?_ ?_ ?_))
 · rintro s ⟨_,_,_,_,_,h⟩;cases h
 · refine ⟨_,?_,aB,oL,dK,vH,rfl,hm⟩;exact bM (aD 10 _ Z1 (aD 4 _ Z1 (aD 3 _ Z1 (aD 2 _ Z1 (aD 0 _ (bN Z1 Z6) bF))))) Zc
 ·
  rintro n1 s ⟨aB,oL,dK,mM,rfl,hm⟩;replace hm:lQ bP (eZ bP n1) aB oL dK mM=some r:=hm;unfold lQ at hm;refine AWp.block (sN 128 ?_)
  iterate 4 refine pA ?_
  refine fs (AWp.seq' (sN 192 ?_))
  iterate 3 refine pA ?_
  refine fs (AWp.condM hm Z1 (fun _ hm=>?_) (fun _ hm=>?_))
  · refine AWp.exit (dJ (rG Zd ?_));refine cY (cU ?_);cases hm;exact aL8 (.inl rfl) Tryz.results180 Zc
  ·
   refine AWp.skip (aV (AWp.seqJ (fun s=> ∃(aB:List aC) (oL:Int) (dK:Int) (mM:Int) (yL:Int),s=(⟨82,(aF (aF (aF (aF (aF (aF (fun _=>AV.any) 0 (.own i0 0 aB.length)) 2 (.v (.int .i64 oL))) 3 (.v (.int .i64 dK))) 4 (.clo (.func jH) [] eN)) 10 (.v (.int .i64 mM))) 11 (.v (.int .i64 yL))),⟨(upd h0 i0 (.cells 2 (aB.flatMap bS) 0)),64⟩⟩:St)∧jE bP (eZ bP n1) aB oL dK mM yL=some r) ?_ ?_))
   ·
    refine sd mix (by kernel_rfl) (N':=256) rfl ?_
    iterate 10 first|refine pA ?_|refine pB ?_
    obtain ⟨x20,h19,hm⟩:=bnd hm;refine pg rfl rfl Z2 (fun hb=>(aN underlying40 fR (Zh hb) Za Z6 (Zh hb) (bK h19 hb))) ?_;refine pg rfl rfl Z2 (fun hb=>(bL aJ (Zh hb) Za (bK h19 hb) Zb)) ?_
    iterate 5 refine pB ?_
    obtain ⟨x22,h21,hm⟩:=bnd hm;refine pg rfl rfl Z2 (fun hb=>(aN underlying40 fR (Zh hb) Za Z6 (Zh hb) (bK h21 hb))) ?_;refine pg rfl rfl Z2 (fun hb=>(bL aJ (Zh hb) Za (bK h21 hb) Zb)) ?_;obtain ⟨r24,h23,hm⟩:=bnd hm;refine aI.callQCG (r:= .v (.int .i64 r24)) Zd rfl Z2 (fun hb=>(Zh hb)) gF lF (fun hb H=>(.cons (td (Zh hb) (.agg _ (aJ.dat _))) (.cons (td (Zh hb) (.agg _ (aJ.dat _))) .nil))) (fun hb=>lH (bK h23 hb)) ?_
    iterate 2 first|refine pA ?_|refine pB ?_
    refine fs (AWp.condM hm Z1 (fun _ hm=>?_) (fun _ hm=>?_))
    ·
     refine AWp.reg 64 (N':=320) rfl ?_
     iterate 3 refine pA ?_
     refine aI.fin (nG ?_);refine ⟨_,?_,aB,oL,dK,mM,(IntKind.i64.wrap ((IntKind.i64.wrap ((IntKind.i64.wrap (2*mM))+1))+1)),rfl,hm⟩;exact bM (aD 11 _ Z1 (aD 10 _ Z1 (aD 4 _ Z1 (aD 3 _ Z1 (aD 2 _ Z1 (aD 0 _ (bN Z1 Z6) bF)))))) Zc
    · refine AWp.skip (nG ?_);refine ⟨_,?_,aB,oL,dK,mM,(IntKind.i64.wrap ((IntKind.i64.wrap (2*mM))+1)),rfl,hm⟩;exact bM (aD 11 _ Z1 (aD 10 _ Z1 (aD 4 _ Z1 (aD 3 _ Z1 (aD 2 _ Z1 (aD 0 _ (bN Z1 Z6) bF)))))) Zc
   ·
    rintro s ⟨aB,oL,dK,mM,yL,rfl,hm⟩;unfold jE at hm;refine AWp.seq' (sd mix (by kernel_rfl) (N':=128) rfl ?_)
    iterate 5 refine pA ?_
    obtain ⟨x2,h1,hm⟩:=bnd hm;refine pu rfl (aN underlying40 fR Z1 Za Z6 Z1 h1) ?_;refine pu rfl (bL aJ Z1 Za h1 Zb) ?_
    iterate 4 refine pA ?_
    obtain ⟨x4,h3,hm⟩:=bnd hm;refine pu rfl (aN underlying40 fR Z1 Za Z6 Z1 h3) ?_;refine pu rfl (bL aJ Z1 Za h3 Zb) ?_;obtain ⟨r6,h5,hm⟩:=bnd hm;refine aI.callQC (r:= .v (.int .i64 r6)) Zd Z1 gF lF (fun H=>(cD (.agg _ (aJ.dat _)) (cD (.agg _ (aJ.dat _)) .nil))) (lH h5) ?_
    iterate 2 refine pA ?_
    refine fs (AWp.condM hm Z1 (fun _ hm=>?_) (fun _ hm=>?_))
    · refine AWp.ret (lA (pO (qQ (pO ?_))));cases hm;exact aL8 (.inr rfl) Tryz.results180 Zc
    ·
     refine AWp.skip (aV (sd mix (by kernel_rfl) (N':=192) rfl ?_))
     iterate 12 refine pA ?_
     obtain ⟨x8,h7,hm⟩:=bnd hm;refine pu rfl (aN underlying40 fR Z1 Za Z6 Z1 h7) ?_;refine pu rfl (bL aJ Z1 Za h7 Zb) ?_
     iterate 4 refine pA ?_
     obtain ⟨x10,h9,hm⟩:=bnd hm;refine pu rfl (aN underlying40 fR Z1 Za Z6 Z1 h9) ?_;refine pu rfl (bL aJ Z1 Za h9 Zb) ?_;obtain ⟨x12,h11,hm⟩:=bnd hm;refine pu rfl (aN underlying40 fR Z1 Za Z6 Z1 h11) ?_;obtain ⟨l14,h13,hm⟩:=bnd hm;have qh13:=cX h13;refine aI.heap0 (id:=149) rfl (eP aJ fR Z1 Z1 Za rfl h13) ?_;obtain ⟨x16,h15,hm⟩:=bnd hm;refine pu rfl (aN underlying40 fR Z1 Za Z6 Z1 h15) ?_;obtain ⟨l18,h17,hm⟩:=bnd hm;have qh17:=cX h17;refine aI.heap0 (id:=151) rfl (eP aJ fR Z1 Z1 Za rfl h17) ?_;refine fs (AWp.reg 64 (N':=256) rfl ?_)
     iterate 2 refine pA ?_
     refine aI.fin (eR (cN ?_));refine ⟨_,?_,l18,oL,dK,yL,rfl,hm⟩;exact bM (aD 10 _ Z1 (aD 4 _ Z1 (aD 3 _ Z1 (aD 2 _ Z1 (aD 0 _ (bN Z1 Z6) bF))))) Zc
def lL(bO:(aC→aC→Option (Int)))(rec2:List aC→Int→Int→Int→Option (List aC))(aB:List aC)(nK:Int)(aJ0:Int)(kC:Int):Option (List aC):=
 (bif (decide (0≤kC)) then
  ((idx aB (IntKind.i64.wrap (nK+kC))).bind fun x4=>
  ((idx aB nK).bind fun x6=>
  ((idx aB nK).bind fun x8=>
  ((stt aB nK x4).bind fun l10=>
  ((idx l10 (IntKind.i64.wrap (nK+kC))).bind fun x12=>
  ((stt l10 (IntKind.i64.wrap (nK+kC)) x6).bind fun l14=>
  ((sX (fun x=>x.length) l14.length (jZ l14 aJ0 kC nK bO)).bind fun l16=>
  rec2 l16 nK aJ0 (IntKind.i64.wrap (kC-1)))))))))
 else
  some aB)
def jB(bO:(aC→aC→Option (Int))):Nat→List aC→Int→Int→Int→Option (List aC)
 |0=>fun _ _ _ _=>none
 |n+1=>lL bO (jB bO n)
def lK(bO:(aC→aC→Option (Int)))(rec1:List aC→Int→Int→Int→Int→Option (List aC))(aB:List aC)(nK:Int)(aJ0:Int)(aL4:Int)(pZ:Int):Option (List aC):=
 (bif (decide (0≤pZ)) then
  ((sX (fun x=>x.length) aB.length (jZ aB pZ aL4 nK bO)).bind fun l2=>
  rec1 l2 nK aJ0 aL4 (IntKind.i64.wrap (pZ-1)))
 else
  jB bO bC aB nK aJ0 (IntKind.i64.wrap (aL4-1)))
def jA(bO:(aC→aC→Option (Int))):Nat→List aC→Int→Int→Int→Int→Option (List aC)
 |0=>fun _ _ _ _ _=>none
 |n+1=>lK bO (jA bO n)
def lY(aB:List aC)(a_1:Int)(b_2:Int)(bO:(aC→aC→Option (Int))):Option (List aC):=
 jA bO bC aB a_1 0 (IntKind.i64.wrap (b_2-a_1)) (IntKind.i64.wrap (Int.tdiv (IntKind.i64.wrap ((IntKind.i64.wrap (b_2-a_1))-1)) 2))
theorem aD2{aB:List aC}{a_1:Int}{b_2:Int}{bO:(aC→aC→Option (Int))}{r:List aC}(hm:lY aB a_1 b_2 bO=some r){jG:FuncId}{eK:List AV}(mS: ∀a,a∈eK→AM.Data a)(oX:(Program.funcs prog)[jG]?.any (fun fn=>fn.body.isSome&&fn.name != "runtime.NumGoroutine")=true)(oY: ∀ {x0 x1 r},bO x0 x1=some r→dU prog jG ([.agg [.v (.int .u64 x0.x0),.v (.int .u64 x0.x1)],.agg [.v (.int .u64 x1.x0),.v (.int .u64 x1.x1)]]++eK) (.v (.int .i64 r))){H:aM}{i0:Nat}(he:H.ent i0= .cells 2 (aB.flatMap bS) 0):dR prog 157 [.own i0 0 aB.length,.v (.int .i64 a_1),.v (.int .i64 b_2),.clo (.func jG) [] eK] H (.tup []) (H.put i0 (.cells 2 (r.flatMap bS) 0)):=by
 refine dR.of_bodyM func157 rfl he ?_;generalize H.ent=h0;simp only [ntmps157,List.length_cons,List.length_nil,Nat.reduceAdd,Nat.reduceSub];unfold lY at hm;refine sN 64 ?_
 iterate 2 refine pA ?_
 refine fs (sN 128 (pA ?_));refine fs (sN 192 ?_)
 iterate 4 refine pA ?_
 refine fs (AWp.seq' (sN 256 ?_))
 iterate 4 refine pu rfl Zj ?_
 refine fs (AWp.block (AWp.loopM (fun m s=> ∃(aB:List aC) (nK:Int) (aJ0:Int) (aL4:Int) (pZ:Int),s=(⟨60,(aF (aF (aF (aF (aF (aF (fun _=>AV.any) 0 (.own i0 0 aB.length)) 3 (.clo (.func jG) [] eK)) 8 (.v (.int .i64 nK))) 9 (.v (.int .i64 aJ0))) 10 (.v (.int .i64 aL4))) 11 (.v (.int .i64 pZ))),⟨(upd h0 i0 (.cells 2 (aB.flatMap bS) 0)),64⟩⟩:St)∧jA bO m aB nK aJ0 aL4 pZ=some r) bC ?_ ?_ ?_))
 · rintro s ⟨_,_,_,_,_,_,h⟩;cases h
 · refine ⟨_,?_,aB,a_1,0,(IntKind.i64.wrap (b_2-a_1)),(IntKind.i64.wrap (Int.tdiv (IntKind.i64.wrap ((IntKind.i64.wrap (b_2-a_1))-1)) 2)),rfl,hm⟩;exact bM (aD 11 _ Z1 (aD 10 _ Z1 (aD 9 _ Z1 (aD 8 _ Z1 (aD 3 _ Z1 (aD 0 _ (bN Z1 Z6) bF)))))) Zc
 ·
  rintro n1 s ⟨aB,nK,aJ0,aL4,pZ,rfl,hm⟩;replace hm:lK bO (jA bO n1) aB nK aJ0 aL4 pZ=some r:=hm;unfold lK at hm;refine AWp.seq' (sN 128 ?_)
  iterate 2 refine pA ?_
  refine fs (AWp.condM hm Z1 (fun _ hm=>?_) (fun _ hm=>?_))
  ·
   refine AWp.skip (aV (AWp.seq' (AWp.block (AWp.reg 64 (N':=192) rfl ?_))))
   iterate 5 refine pA ?_
   obtain ⟨l2,h1,hm⟩:=bnd hm;have qh1:=oZ h1;refine aI.callM Zd Z1 bSp ?_ (tE (oO h1) mS oX oY (i0:=i0) Za) ?_
   ·
    try simp only [go_sem,Nat.reduceBEq]
    first|done|rfl|(congr 2<;>omega)
   refine aI.fin (eR (aV (AWp.reg 64 (N':=256) rfl ?_)))
   iterate 3 refine pA ?_
   refine aI.fin (cN ?_);refine ⟨_,?_,l2,nK,aJ0,aL4,(IntKind.i64.wrap (pZ-1)),rfl,hm⟩;exact bM (aD 11 _ Z1 (aD 10 _ Z1 (aD 9 _ Z1 (aD 8 _ Z1 (aD 3 _ Z1 (aD 0 _ (bN Z1 Z6) bF)))))) Zc
  ·
   refine AWp.exit (dJ (cY (cU (aV (sN 192 ?_)))))
   iterate 3 refine pA ?_
   refine fs (AWp.block (AWp.loopM (fun m s=> ∃(aB:List aC) (nK:Int) (aJ0:Int) (kC:Int),s=(⟨60,(aF (aF (aF (aF (aF (fun _=>AV.any) 0 (.own i0 0 aB.length)) 3 (.clo (.func jG) [] eK)) 8 (.v (.int .i64 nK))) 9 (.v (.int .i64 aJ0))) 12 (.v (.int .i64 kC))),⟨(upd h0 i0 (.cells 2 (aB.flatMap bS) 0)),64⟩⟩:St)∧jB bO m aB nK aJ0 kC=some r) bC ?_ ?_ ?_))
   · rintro s ⟨_,_,_,_,_,h⟩;cases h
   · refine ⟨_,?_,aB,nK,aJ0,(IntKind.i64.wrap (aL4-1)),rfl,hm⟩;exact bM (aD 12 _ Z1 (aD 9 _ Z1 (aD 8 _ Z1 (aD 3 _ Z1 (aD 0 _ (bN Z1 Z6) bF))))) Zc
   ·
    rintro n2 s ⟨aB,nK,aJ0,kC,rfl,hm⟩;replace hm:lL bO (jB bO n2) aB nK aJ0 kC=some r:=hm;unfold lL at hm;refine AWp.seq' (sN 128 ?_)
    iterate 2 refine pA ?_
    refine fs (AWp.condM hm Z1 (fun _ hm=>?_) (fun _ hm=>?_))
    ·
     refine AWp.skip (aV (AWp.seq' (AWp.block (sd mix (by kernel_rfl) (N':=192) rfl ?_))))
     iterate 10 refine pA ?_
     obtain ⟨x4,h3,hm⟩:=bnd hm;refine pu rfl (aN underlying40 fR Z1 Za Z6 Z1 h3) ?_;refine pu rfl (bL aJ Z1 Za h3 Zb) ?_
     iterate 2 refine pA ?_
     obtain ⟨x6,h5,hm⟩:=bnd hm;refine pu rfl (aN underlying40 fR Z1 Za Z6 Z1 h5) ?_;refine pu rfl (bL aJ Z1 Za h5 Zb) ?_;obtain ⟨x8,h7,hm⟩:=bnd hm;refine pu rfl (aN underlying40 fR Z1 Za Z6 Z1 h7) ?_;obtain ⟨l10,h9,hm⟩:=bnd hm;have qh9:=cX h9;refine aI.heap0 (id:=145) rfl (eP aJ fR Z1 Z1 Za rfl h9) ?_;obtain ⟨x12,h11,hm⟩:=bnd hm;refine pu rfl (aN underlying40 fR Z1 Za Z6 Z1 h11) ?_;obtain ⟨l14,h13,hm⟩:=bnd hm;have qh13:=cX h13;refine aI.heap0 (id:=147) rfl (eP aJ fR Z1 Z1 Za rfl h13) ?_;refine fs (AWp.reg 64 (N':=256) rfl ?_)
     iterate 5 refine pA ?_
     obtain ⟨l16,h15,hm⟩:=bnd hm;have qh15:=oZ h15;refine aI.callM Zd Z1 bSp ?_ (tE (oO h15) mS oX oY (i0:=i0) Za) ?_
     ·
      try simp only [go_sem,Nat.reduceBEq]
      first|done|rfl|(congr 2<;>omega)
     refine aI.fin (eR (aV (AWp.reg 64 (N':=320) rfl ?_)))
     iterate 3 refine pA ?_
     refine aI.fin (cN ?_);refine ⟨_,?_,l16,nK,aJ0,(IntKind.i64.wrap (kC-1)),rfl,hm⟩;exact bM (aD 12 _ Z1 (aD 9 _ Z1 (aD 8 _ Z1 (aD 3 _ Z1 (aD 0 _ (bN Z1 Z6) bF))))) Zc
    · refine AWp.exit (dJ (cY (cU ?_)));cases hm;exact aL8 (.inl rfl) Tryz.results157 Zc
abbrev lW(bO:(aC→aC→Option (Int)))(rec1:List aC→Int→Int→Int→Int→Int→Option (List aC))(aB:List aC)(a_1:Int)(lJ:Int)(nP:Int)(gG:Int)(oM:Int):Option (List aC):=
 rec1 aB a_1 lJ nP gG (IntKind.i64.wrap (oM+1))
abbrev gJ(bO:(aC→aC→Option (Int)))(rec1:List aC→Int→Int→Int→Int→Int→Option (List aC))(aB:List aC)(a_1:Int)(lJ:Int)(nP:Int)(gG:Int)(oM:Int)(aEx:Int):Option (List aC):=
 ((idx aB (IntKind.i64.wrap (a_1+aEx))).bind fun x7=>
 ((idx aB oM).bind fun x9=>
 ((idx aB oM).bind fun x11=>
 ((stt aB oM x7).bind fun l13=>
 ((idx l13 (IntKind.i64.wrap (a_1+aEx))).bind fun x15=>
 ((stt l13 (IntKind.i64.wrap (a_1+aEx)) x9).bind fun l17=>
 lW bO rec1 l17 a_1 lJ nP gG oM))))))
def iO(bO:(aC→aC→Option (Int)))(rec1:List aC→Int→Int→Int→Int→Int→Option (List aC))(aB:List aC)(a_1:Int)(lJ:Int)(nP:Int)(gG:Int)(oM:Int):Option (List aC):=
 (bif (decide (oM≤(IntKind.i64.wrap ((IntKind.i64.wrap (a_1+(IntKind.i64.wrap ((IntKind.i64.wrap (Int.tdiv lJ 4))*2))))+1)))) then
  ((xX nP).bind fun ⟨r5,x4⟩=>
  (bif (decide (lJ≤(IntKind.i64.wrap (yK .u64 r5 (IntKind.u64.wrap (gG-1)))))) then
   gJ bO rec1 aB a_1 lJ x4 gG oM (IntKind.i64.wrap ((IntKind.i64.wrap (yK .u64 r5 (IntKind.u64.wrap (gG-1))))-lJ))
  else
   gJ bO rec1 aB a_1 lJ x4 gG oM (IntKind.i64.wrap (yK .u64 r5 (IntKind.u64.wrap (gG-1))))))
 else
  some aB)
def dL(bO:(aC→aC→Option (Int))):Nat→List aC→Int→Int→Int→Int→Int→Option (List aC)
 |0=>fun _ _ _ _ _ _=>none
 |n+1=>iO bO (dL bO n)
def jK(aB:List aC)(a_1:Int)(b_2:Int)(bO:(aC→aC→Option (Int))):Option (List aC):=
 (bif (decide (8≤(IntKind.i64.wrap (b_2-a_1)))) then
  ((mZ (IntKind.i64.wrap (b_2-a_1))).bind fun r2=>
  dL bO bC aB a_1 (IntKind.i64.wrap (b_2-a_1)) (IntKind.u64.wrap (IntKind.i64.wrap (b_2-a_1))) r2 (IntKind.i64.wrap ((IntKind.i64.wrap (a_1+(IntKind.i64.wrap ((IntKind.i64.wrap (Int.tdiv (IntKind.i64.wrap (b_2-a_1)) 4))*2))))-1)))
 else
  some aB)
theorem zW{aB:List aC}{a_1:Int}{b_2:Int}{bO:(aC→aC→Option (Int))}{r:List aC}(hm:jK aB a_1 b_2 bO=some r){jG:FuncId}{eK:List AV}(mS: ∀a,a∈eK→AM.Data a)(oX:(Program.funcs prog)[jG]?.any (fun fn=>fn.body.isSome&&fn.name != "runtime.NumGoroutine")=true)(oY: ∀ {x0 x1 r},bO x0 x1=some r→dU prog jG ([.agg [.v (.int .u64 x0.x0),.v (.int .u64 x0.x1)],.agg [.v (.int .u64 x1.x0),.v (.int .u64 x1.x1)]]++eK) (.v (.int .i64 r))){H:aM}{i0:Nat}(he:H.ent i0= .cells 2 (aB.flatMap bS) 0)(hk: ∀id,3000000≤id→H.ent id= .fresh)(hD: ∀id,aD9 (H.ent id))(hi:i0<3000000):dR prog 158 [.own i0 0 aB.length,.v (.int .i64 a_1),.v (.int .i64 b_2),.clo (.func jG) [] eK] H (.tup []) (H.put i0 (.cells 2 (r.flatMap bS) 0)):=by
 refine dR.of_bodyK func158 rfl he hk ?_;clear he;generalize H.ent=h0 at hk hD⊢;have hne1: ∀ {k:Nat},3000000≤k→(k==i0)=false:=fun hh=>by simp;omega
 have hne2: ∀ {k:Nat},3000000≤k→(i0==k)=false:=fun hh=>by simp;omega
 simp only [ntmps158,List.length_cons,List.length_nil,Nat.reduceAdd,Nat.reduceSub];unfold jK at hm;refine AWp.behind ?_;refine sN 3000064 ?_
 iterate 4 refine pA ?_
 refine fs (sN 3000128 ?_)
 iterate 2 refine pA ?_
 refine fs (AWp.condM hm Z1 (fun _ hm=>?_) (fun _ hm=>?_))
 ·
  refine sN 3000192 ?_
  iterate 2 refine pA ?_
  refine hp (id:=3000130) rfl rfl (qO bT8 (by simp only [fY,hne1,Nat.reduceLeDiff,Nat.reduceBEq,cond_true,cond_false];exact frK hk Zd)) ?_;refine aI.heap0 (id:=3000131) rfl (rC (ys:=[.v (.int .u64 (IntKind.u64.wrap (IntKind.i64.wrap (b_2-a_1))))]) aVu Z1 Z1 Ze rfl (lB rfl) Z9 rfl) ?_;refine fs (sN 3000256 (pA ?_));obtain ⟨r2,h1,hm⟩:=bnd hm;refine aI.callQ (r:= .v (.int .u64 r2)) Zd Z1 bSm (fun H=>(cV .nil)) (tY h1) ?_;refine pA ?_;refine fs (sN 3000320 ?_)
  iterate 7 refine pu rfl Zj ?_
  refine fs (AWp.block (AWp.loopM (fun m s=> ∃(aB:List aC) (a_1:Int) (lJ:Int) (nP:Int) (gG:Int) (oM:Int),s=(⟨67,(aF (aF (aF (aF (aF (aF (fun _=>AV.any) 0 (.own i0 0 aB.length)) 1 (.v (.int .i64 a_1))) 8 (.v (.int .i64 lJ))) 9 (.adr 3000130 0)) 10 (.v (.int .u64 gG))) 11 (.v (.int .i64 oM))),⟨(upd (upd h0 i0 (.cells 2 (aB.flatMap bS) 0)) 3000130 (.cells 1 [.v (.int .u64 nP)] 0)),64⟩⟩:St)∧dL bO m aB a_1 lJ nP gG oM=some r) bC ?_ ?_ ?_))
  · rintro s ⟨_,_,_,_,_,_,_,h⟩;cases h
  · refine ⟨_,?_,aB,a_1,(IntKind.i64.wrap (b_2-a_1)),(IntKind.u64.wrap (IntKind.i64.wrap (b_2-a_1))),r2,(IntKind.i64.wrap ((IntKind.i64.wrap (a_1+(IntKind.i64.wrap ((IntKind.i64.wrap (Int.tdiv (IntKind.i64.wrap (b_2-a_1)) 4))*2))))-1)),rfl,hm⟩;exact bM (aD 11 _ Z1 (aD 10 _ Z1 (aD 9 _ Z1 (aD 8 _ Z1 (aD 1 _ Z1 (aD 0 _ (bN Z1 Z6) bF)))))) Zi
  ·
   rintro n1 s ⟨aB,a_1,lJ,nP,gG,oM,rfl,hm⟩;replace hm:iO bO (dL bO n1) aB a_1 lJ nP gG oM=some r:=hm;unfold iO at hm;refine AWp.seq' (sN 128 ?_)
   iterate 8 refine pu rfl Zj ?_
   refine fs (AWp.condM hm Z1 (fun _ hm=>?_) (fun _ hm=>?_))
   ·
    refine AWp.skip (aV (AWp.seqJ (fun s=> ∃(aB:List aC) (a_1:Int) (lJ:Int) (nP:Int) (gG:Int) (oM:Int),s=(⟨67,(aF (aF (aF (aF (aF (aF (fun _=>AV.any) 0 (.own i0 0 aB.length)) 1 (.v (.int .i64 a_1))) 8 (.v (.int .i64 lJ))) 9 (.adr 3000130 0)) 10 (.v (.int .u64 gG))) 11 (.v (.int .i64 oM))),⟨(upd (upd h0 i0 (.cells 2 (aB.flatMap bS) 0)) 3000130 (.cells 1 [.v (.int .u64 nP)] 0)),64⟩⟩:St)∧lW bO (dL bO n1) aB a_1 lJ nP gG oM=some r) ?_ ?_))
    ·
     refine AWp.block (sN 192 ?_);obtain ⟨⟨r5,x4⟩,h3,hm⟩:=bnd hm;refine aI.callM Zd Z1 bSn Z1 (aH1 h3 Ze) ?_
     iterate 5 refine pA ?_
     refine fs (AWp.seqJ (fun s=> ∃(aB:List aC) (a_1:Int) (lJ:Int) (nP:Int) (gG:Int) (oM:Int) (aEx:Int),s=(⟨67,(aF (aF (aF (aF (aF (aF (aF (fun _=>AV.any) 0 (.own i0 0 aB.length)) 1 (.v (.int .i64 a_1))) 8 (.v (.int .i64 lJ))) 9 (.adr 3000130 0)) 10 (.v (.int .u64 gG))) 11 (.v (.int .i64 oM))) 12 (.v (.int .i64 aEx))),⟨(upd (upd h0 i0 (.cells 2 (aB.flatMap bS) 0)) 3000130 (.cells 1 [.v (.int .u64 nP)] 0)),64⟩⟩:St)∧gJ bO (dL bO n1) aB a_1 lJ nP gG oM aEx=some r) ?_ ?_)
     ·
      refine sN 256 ?_
      iterate 3 refine pA ?_
      refine fs (AWp.condM hm Z1 (fun _ hm=>?_) (fun _ hm=>?_))
      ·
       refine AWp.reg 64 (N':=320) rfl ?_
       iterate 4 refine pA ?_
       refine aI.fin (nG ?_);refine ⟨_,?_,aB,a_1,lJ,x4,gG,oM,(IntKind.i64.wrap ((IntKind.i64.wrap (yK .u64 r5 (IntKind.u64.wrap (gG-1))))-lJ)),rfl,hm⟩;exact bM (aD 12 _ Z1 (aD 11 _ Z1 (aD 10 _ Z1 (aD 9 _ Z1 (aD 8 _ Z1 (aD 1 _ Z1 (aD 0 _ (bN Z1 Z6) bF))))))) Zi
      · refine AWp.skip (nG ?_);refine ⟨_,?_,aB,a_1,lJ,x4,gG,oM,(IntKind.i64.wrap (yK .u64 r5 (IntKind.u64.wrap (gG-1)))),rfl,hm⟩;exact bM (aD 12 _ Z1 (aD 11 _ Z1 (aD 10 _ Z1 (aD 9 _ Z1 (aD 8 _ Z1 (aD 1 _ Z1 (aD 0 _ (bN Z1 Z6) bF))))))) Zi
     ·
      rintro s ⟨aB,a_1,lJ,nP,gG,oM,aEx,rfl,hm⟩;unfold gJ at hm;refine AWp.regD 64 mix (by kernel_rfl) (N':=128) rfl ?_
      iterate 10 refine pA ?_
      obtain ⟨x7,h6,hm⟩:=bnd hm;refine pu rfl (aN underlying40 fR Z1 Ze Z6 Z1 h6) ?_;refine pu rfl (bL aJ Z1 Ze h6 Zb) ?_
      iterate 2 refine pA ?_
      obtain ⟨x9,h8,hm⟩:=bnd hm;refine pu rfl (aN underlying40 fR Z1 Ze Z6 Z1 h8) ?_;refine pu rfl (bL aJ Z1 Ze h8 Zb) ?_;obtain ⟨x11,h10,hm⟩:=bnd hm;refine pu rfl (aN underlying40 fR Z1 Ze Z6 Z1 h10) ?_;obtain ⟨l13,h12,hm⟩:=bnd hm;have qh12:=cX h12;refine aI.heap0 (id:=81) rfl (eP aJ fR Z1 Z1 Ze rfl h12) ?_;obtain ⟨x15,h14,hm⟩:=bnd hm;refine pu rfl (aN underlying40 fR Z1 Ze Z6 Z1 h14) ?_;obtain ⟨l17,h16,hm⟩:=bnd hm;have qh16:=cX h16;refine aI.heap0 (id:=83) rfl (eP aJ fR Z1 Z1 Ze rfl h16) ?_;refine aI.fin (eR (nG ?_));refine ⟨_,?_,l17,a_1,lJ,nP,gG,oM,rfl,hm⟩;exact bM (aD 11 _ Z1 (aD 10 _ Z1 (aD 9 _ Z1 (aD 8 _ Z1 (aD 1 _ Z1 (aD 0 _ (bN Z1 Z6) bF)))))) Zi
    ·
     rintro s ⟨aB,a_1,lJ,nP,gG,oM,rfl,hm⟩;unfold lW at hm;refine AWp.reg 64 (N':=128) rfl ?_
     iterate 3 refine pA ?_
     refine aI.fin (cN ?_);refine ⟨_,?_,aB,a_1,lJ,nP,gG,(IntKind.i64.wrap (oM+1)),rfl,hm⟩;exact bM (aD 11 _ Z1 (aD 10 _ Z1 (aD 9 _ Z1 (aD 8 _ Z1 (aD 1 _ Z1 (aD 0 _ (bN Z1 Z6) bF)))))) Zi
   · refine AWp.exit (dJ (cY (cU ?_)));cases hm;exact aIw (.inl rfl) Tryz.results158 (by intro q hq;simp only [upd];all_goals ((repeat' split)<;>first|rfl|omega)) (fun q hq=>by rw [upd_ne _ _ _ _ om];exact hk q hq) (nL (vS aJ) hD)
 · refine AWp.skip ?_;cases hm;exact aIw (.inl rfl) Tryz.results158 (by intro q hq;simp only [upd];all_goals ((repeat' split)<;>first|rfl|omega)) (fun q hq=>by rw [upd_ne _ _ _ _ om];exact hk q hq) (nL (vS aJ) hD)
def iL(aB:List aC)(a_1:Int)(b_2:Int)(yA:Int)(bP:(aC→aC→Option (Int))):Option (Int×Int×Int):=
 ((idx aB b_2).bind fun x2=>
 ((idx aB a_1).bind fun x4=>
 ((bP x2 x4).bind fun r6=>
 (bif (decide (r6<0)) then
  some (b_2,a_1,(IntKind.i64.wrap (yA+1)))
 else
  some (a_1,b_2,yA)))))
theorem qR{aB:List aC}{a_1:Int}{b_2:Int}{yA:Int}{bP:(aC→aC→Option (Int))}{r:Int×Int×Int}(hm:iL aB a_1 b_2 yA bP=some r){jH:FuncId}{eN:List AV}(gF: ∀a,a∈eN→AM.Data a)(lF:(Program.funcs prog)[jH]?.any (fun fn=>fn.body.isSome&&fn.name != "runtime.NumGoroutine")=true)(lH: ∀ {x0 x1 r},bP x0 x1=some r→dU prog jH ([.agg [.v (.int .u64 x0.x0),.v (.int .u64 x0.x1)],.agg [.v (.int .u64 x1.x0),.v (.int .u64 x1.x1)]]++eN) (.v (.int .i64 r))){H:aM}{i0:Nat}(he:H.ent i0= .cells 1 [.v (.int .i64 yA)] 0):dR prog 195 [.sl (aB.flatMap bS) aB.length false,.v (.int .i64 a_1),.v (.int .i64 b_2),.adr i0 0,.clo (.func jH) [] eN] H (.tup [.v (.int .i64 r.1),.v (.int .i64 r.2.1)]) (H.put i0 (.cells 1 [.v (.int .i64 r.2.2)] 0)):=by
 refine dR.of_bodyM func195 rfl he ?_;generalize H.ent=h0;simp only [ntmps195,List.length_cons,List.length_nil,Nat.reduceAdd,Nat.reduceSub];unfold iL at hm;refine sN 64 ?_
 iterate 2 refine pA ?_
 refine fs (AWp.seq' (sd mix (by kernel_rfl) (N':=128) rfl ?_))
 iterate 3 refine pA ?_
 obtain ⟨x2,h1,hm⟩:=bnd hm;refine pu rfl (aEi aJ Zd underlying40 fR Z1 rfl Z1 h1) ?_
 iterate 3 refine pA ?_
 obtain ⟨x4,h3,hm⟩:=bnd hm;refine pu rfl (aEi aJ Zd underlying40 fR Z1 rfl Z1 h3) ?_;refine pA ?_;obtain ⟨r6,h5,hm⟩:=bnd hm;refine aI.callQC (r:= .v (.int .i64 r6)) Zd Z1 gF lF (fun H=>(cD (.agg _ (aJ.dat _)) (cD (.agg _ (aJ.dat _)) .nil))) (lH h5) ?_;refine pA ?_;refine fs (AWp.condM hm Z1 (fun _ hm=>?_) (fun _ hm=>?_))
 ·
  refine sN 192 ?_
  iterate 2 refine pA ?_
  refine pu rfl (lD Z1 Za Z2) ?_
  iterate 2 refine pA ?_
  refine aI.heap0 (id:=133) rfl (rC (ys:=[.v (.int .i64 (IntKind.i64.wrap (yA+1)))]) sz3 Z1 Z1 Za rfl (lB rfl) Z9 rfl) ?_;refine fs (sN 256 ?_)
  iterate 4 refine pA ?_
  refine fs (AWp.ret (lA ?_));cases hm;exact aQ6 (.inr rfl) Tryz.results195 Z1 Z1 Zc
 ·
  refine AWp.skip (aV (sN 192 ?_))
  iterate 4 refine pA ?_
  refine fs (AWp.ret ?_);cases hm;exact aQ6 (.inr rfl) Tryz.results195 Z1 Z1 Zc
def kN(aB:List aC)(a_1:Int)(b_2:Int)(c_3:Int)(aE3:Int)(aUw:(aC→aC→Option (Int))):Option (Int×Int):=
 ((iL aB a_1 b_2 aE3 aUw).bind fun ⟨r3,r4,x2⟩=>
 ((iL aB r4 c_3 x2 aUw).bind fun ⟨r7,r8,x6⟩=>
 ((iL aB r3 r7 x6 aUw).bind fun ⟨r11,r12,x10⟩=>
 some (r12,x10))))
theorem vL{aB:List aC}{a_1:Int}{b_2:Int}{c_3:Int}{aE3:Int}{aUw:(aC→aC→Option (Int))}{r:Int×Int}(hm:kN aB a_1 b_2 c_3 aE3 aUw=some r){aWq:FuncId}{aOd:List AV}(aLu: ∀a,a∈aOd→AM.Data a)(aS5:(Program.funcs prog)[aWq]?.any (fun fn=>fn.body.isSome&&fn.name != "runtime.NumGoroutine")=true)(aS7: ∀ {x0 x1 r},aUw x0 x1=some r→dU prog aWq ([.agg [.v (.int .u64 x0.x0),.v (.int .u64 x0.x1)],.agg [.v (.int .u64 x1.x0),.v (.int .u64 x1.x1)]]++aOd) (.v (.int .i64 r))){H:aM}{i0:Nat}(he:H.ent i0= .cells 1 [.v (.int .i64 aE3)] 0):dR prog 182 [.sl (aB.flatMap bS) aB.length false,.v (.int .i64 a_1),.v (.int .i64 b_2),.v (.int .i64 c_3),.adr i0 0,.clo (.func aWq) [] aOd] H (.v (.int .i64 r.1)) (H.put i0 (.cells 1 [.v (.int .i64 r.2)] 0)):=by
 refine dR.of_bodyM func182 rfl he ?_;generalize H.ent=h0;simp only [ntmps182,List.length_cons,List.length_nil,Nat.reduceAdd,Nat.reduceSub];unfold kN at hm;refine sN 64 (pA ?_);refine fs (sN 128 ?_)
 iterate 5 refine pA ?_
 obtain ⟨⟨r3,r4,x2⟩,h1,hm⟩:=bnd hm;refine aI.callM Zd Z1 bMf Z1 (qR h1 aLu aS5 aS7 Za) ?_
 iterate 5 refine pA ?_
 refine fs (sN 192 ?_)
 iterate 5 refine pA ?_
 obtain ⟨⟨r7,r8,x6⟩,h5,hm⟩:=bnd hm;refine aI.callM Zd Z1 bMf Z1 (qR h5 aLu aS5 aS7 Za) ?_
 iterate 5 refine pA ?_
 refine fs (sN 256 ?_)
 iterate 5 refine pA ?_
 obtain ⟨⟨r11,r12,x10⟩,h9,hm⟩:=bnd hm;refine aI.callM Zd Z1 bMf Z1 (qR h9 aLu aS5 aS7 Za) ?_
 iterate 5 refine pA ?_
 refine fs (sN 320 ?_)
 iterate 2 refine pA ?_
 refine fs (AWp.ret ?_);cases hm;exact aFx (.inr rfl) Tryz.results182 Z1 Zc
def eT(aB:List aC)(a_1:Int)(aE2:Int)(bO:(aC→aC→Option (Int))):Option (Int×Int):=
 ((kN aB (IntKind.i64.wrap (a_1-1)) a_1 (IntKind.i64.wrap (a_1+1)) aE2 bO).bind fun ⟨r3,x2⟩=>
 some (r3,x2))
theorem nH{aB:List aC}{a_1:Int}{aE2:Int}{bO:(aC→aC→Option (Int))}{r:Int×Int}(hm:eT aB a_1 aE2 bO=some r){jG:FuncId}{eK:List AV}(mS: ∀a,a∈eK→AM.Data a)(oX:(Program.funcs prog)[jG]?.any (fun fn=>fn.body.isSome&&fn.name != "runtime.NumGoroutine")=true)(oY: ∀ {x0 x1 r},bO x0 x1=some r→dU prog jG ([.agg [.v (.int .u64 x0.x0),.v (.int .u64 x0.x1)],.agg [.v (.int .u64 x1.x0),.v (.int .u64 x1.x1)]]++eK) (.v (.int .i64 r))){H:aM}{i0:Nat}(he:H.ent i0= .cells 1 [.v (.int .i64 aE2)] 0):dR prog 181 [.sl (aB.flatMap bS) aB.length false,.v (.int .i64 a_1),.adr i0 0,.clo (.func jG) [] eK] H (.v (.int .i64 r.1)) (H.put i0 (.cells 1 [.v (.int .i64 r.2)] 0)):=by
 refine dR.of_bodyM func181 rfl he ?_;generalize H.ent=h0;simp only [ntmps181,List.length_cons,List.length_nil,Nat.reduceAdd,Nat.reduceSub];unfold eT at hm;refine sN 64 (pA ?_);refine fs (sN 128 ?_)
 iterate 8 refine pA ?_
 obtain ⟨⟨r3,x2⟩,h1,hm⟩:=bnd hm;refine aI.callM Zd Z1 bSq Z1 (vL h1 mS oX oY Za) ?_;refine pA ?_;refine fs (AWp.ret ?_);cases hm;exact aFx (.inr rfl) Tryz.results181 Z1 Zc
abbrev kD(bO:(aC→aC→Option (Int)))(uM:Int)(jI:Int):Option (Int×Int):=
 (bif (uM==0) then
  some (jI,1)
 else
  (bif (uM==12) then
   some (jI,2)
  else
   some (jI,0)))
abbrev kE(bO:(aC→aC→Option (Int)))(aB:List aC)(uM:Int)(kC:Int)(jI:Int)(bMt:Int):Option (Int×Int):=
 ((kN aB kC jI bMt uM bO).bind fun ⟨r3,x2⟩=>
 kD bO x2 r3)
def mN(aB:List aC)(a_1:Int)(b_2:Int)(bO:(aC→aC→Option (Int))):Option (Int×Int):=
 (bif (decide (8≤(IntKind.i64.wrap (b_2-a_1)))) then
  (bif (decide (50≤(IntKind.i64.wrap (b_2-a_1)))) then
   ((eT aB (IntKind.i64.wrap (a_1+(IntKind.i64.wrap ((IntKind.i64.wrap (Int.tdiv (IntKind.i64.wrap (b_2-a_1)) 4))*1)))) 0 bO).bind fun ⟨r6,x5⟩=>
   ((eT aB (IntKind.i64.wrap (a_1+(IntKind.i64.wrap ((IntKind.i64.wrap (Int.tdiv (IntKind.i64.wrap (b_2-a_1)) 4))*2)))) x5 bO).bind fun ⟨r9,x8⟩=>
   ((eT aB (IntKind.i64.wrap (a_1+(IntKind.i64.wrap ((IntKind.i64.wrap (Int.tdiv (IntKind.i64.wrap (b_2-a_1)) 4))*3)))) x8 bO).bind fun ⟨r12,x11⟩=>
   kE bO aB x11 r6 r9 r12)))
  else
   kE bO aB 0 (IntKind.i64.wrap (a_1+(IntKind.i64.wrap ((IntKind.i64.wrap (Int.tdiv (IntKind.i64.wrap (b_2-a_1)) 4))*1)))) (IntKind.i64.wrap (a_1+(IntKind.i64.wrap ((IntKind.i64.wrap (Int.tdiv (IntKind.i64.wrap (b_2-a_1)) 4))*2)))) (IntKind.i64.wrap (a_1+(IntKind.i64.wrap ((IntKind.i64.wrap (Int.tdiv (IntKind.i64.wrap (b_2-a_1)) 4))*3)))))
 else
  kD bO 0 (IntKind.i64.wrap (a_1+(IntKind.i64.wrap ((IntKind.i64.wrap (Int.tdiv (IntKind.i64.wrap (b_2-a_1)) 4))*2)))))
theorem aBk{aB:List aC}{a_1:Int}{b_2:Int}{bO:(aC→aC→Option (Int))}{r:Int×Int}(hm:mN aB a_1 b_2 bO=some r){jG:FuncId}{eK:List AV}(mS: ∀a,a∈eK→AM.Data a)(oX:(Program.funcs prog)[jG]?.any (fun fn=>fn.body.isSome&&fn.name != "runtime.NumGoroutine")=true)(oY: ∀ {x0 x1 r},bO x0 x1=some r→dU prog jG ([.agg [vu x0.x0,vu x0.x1],.agg [vu x1.x0,vu x1.x1]]++eK) (vi r)):dU prog 159 [vl bS aB,vi a_1,vi b_2,.clo (.func jG) [] eK] (.tup [vi r.1,vi r.2]):=by
 refine bd 63 func159 ?_;refine V ?_;refine AWp.seqJ (fun s=> ∃uM jI,s=⟨63,(aF (aF fa 11 (.adr 1 0)) 13 (vi jI)),⟨(upd bQ 1 (.cells 1 [vi uM] 0)),64⟩⟩∧kD bO uM jI=some r) ?_ ?_
 ·
  refine W ?_;refine cm hm (fun hm=>?_) fun hm=>?_
  ·
   refine AWp.seqJ (fun s=> ∃aB uM kC jI bMt,s=⟨63,(aF (aF (aF (aF (aF (aF fa 0 (vl bS aB)) 3 (.clo (.func jG) [] eK)) 11 (.adr 1 0)) 12 (vi kC)) 13 (vi jI)) 14 (vi bMt)),⟨(upd bQ 1 (.cells 1 [vi uM] 0)),64⟩⟩∧kE bO aB uM kC jI bMt=some r) ?_ ?_
   ·
    refine W ?_;refine cm hm (fun hm=>?_) fun hm=>?_
    · refine W ?_;obtain ⟨⟨r6,x5⟩,h4,hm⟩:=bnd hm;refine aI.callM Zd Z1 bMd Z1 (nH h4 mS oX oY Z3) ?_;refine W ?_;obtain ⟨⟨r9,x8⟩,h7,hm⟩:=bnd hm;refine aI.callM Zd Z1 bMd Z1 (nH h7 mS oX oY Z3) ?_;refine W ?_;obtain ⟨⟨r12,x11⟩,h10,hm⟩:=bnd hm;refine aI.callM Zd Z1 bMd Z1 (nH h10 mS oX oY Z3) ?_;refine W ?_;exact Lr (fun j=>bif j==1 then 128 else 0)
    refine W ?_;exact Lr (fun j=>bif j==1 then 128 else 0)
   rintro s ⟨aB,uM,kC,jI,bMt,rfl,hm⟩;refine W ?_;obtain ⟨⟨r3,x2⟩,h1,hm⟩:=bnd hm;refine aI.callM Zd Z1 bSq Z1 (vL h1 mS oX oY Z3) ?_;refine W ?_;exact Lr (fun j=>bif j==1 then 1 else 0)
  refine W ?_;exact Lr (fun j=>bif j==1 then 128 else 0)
 rintro s ⟨uM,jI,rfl,hm⟩;refine W ?_;refine cm hm (fun hm=>?_) fun hm=>?_
 · exact E
 refine W ?_;refine cm hm (fun hm=>?_) fun hm=>?_
 · exact E
 exact E
attribute [local semireducible] bC
end Go.Proofs.YtkdohhmacfoolaaGreat
