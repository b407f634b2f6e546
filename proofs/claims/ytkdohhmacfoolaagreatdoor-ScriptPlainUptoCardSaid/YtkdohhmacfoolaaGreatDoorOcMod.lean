/- Facts. No condition. -/
import Derived.Test.YtkdohhmacfoolaaGreatDoorOcAmE
set_option linter.unusedVariables false
set_option linter.unusedSimpArgs false
set_option maxRecDepth 20000
set_option maxHeartbeats 4000000
namespace Go.Proofs.YtkdohhmacfoolaaGreatDoor
open Go.Proofs.Tryz Go Go.AM
attribute [local irreducible] bF
abbrev bEt:ByteArray:=⟨#[110,101,119,32,51,32,50,32,49,10,118,101,114,116,101,120,32,53,32,35,32,111,110,101,10,10,118,101,114,116,101,120,32,55,10,101,100,103,101,32,53,32,55,10,109,101,109,98,101,114,115,32,55,10,102,111,114,101,115,116,10,115,105,122,101,32,57,10,102,108,121,10,104,97,115,32,53,10,104,97,115,32,53,32,120]⟩
abbrev aDq:ByteArray:=⟨#[111,107,10,111,107,10,111,107,10,111,107,10,53,32,55,10,53,45,55,10,101,114,114,111,114,32,55,10,101,114,114,111,114,32,49,10,101,114,114,111,114,32,49,10,101,114,114,111,114,32,50,10]⟩
@[go_sem] theorem bJt(H:aG)(x:AV)(xs:List AV):cE prog H 40 (.ptr (x::xs))=some x:=by kernel_rfl
@[go_sem] theorem bAq(H:aG)(k:IntKind)(n:Int):mV prog H 3 40 (.v (.int k n))=some (.v (.int .u64 (IntKind.u64.wrap n))):=iA underlying3 underlying40
@[go_sem] theorem bF1(H:aG)(k:IntKind)(n:Int):mV prog H 5 3 (.v (.int k n))=some (.v (.int .i64 (IntKind.i64.wrap n))):=iA underlying5 underlying3
@[go_sem] theorem bAu(H:aG)(k:IntKind)(n:Int):mV prog H 40 5 (.v (.int k n))=some (.v (.int .u8 (IntKind.u8.wrap n))):=iA underlying40 underlying5
def oI:Option (Bool):=
 ((iP bEt [1,2,3,4]).bind fun r2=>
 ((gO ((decide (r2=aDq))==true) ⟨#[]⟩ (iP ⟨#[115,105,122,101,32,53,10,88]⟩ [])).bind fun r4=>
 ((gO (((decide (r2=aDq))&&(decide (r4=⟨#[101,114,114,111,114,32,50,32,97,116,32,55,10]⟩)))==true) ⟨#[]⟩ (iP ⟨#[115,105,122,101,32,53]⟩ [])).bind fun r6=>
 ((gO ((((decide (r2=aDq))&&(decide (r4=⟨#[101,114,114,111,114,32,50,32,97,116,32,55,10]⟩)))&&(decide (r6=⟨#[101,114,114,111,114,32,51,10]⟩)))==true) ⟨#[]⟩ (dF GA.nil)).bind fun r8=>
 ((gO (((((decide (r2=aDq))&&(decide (r4=⟨#[101,114,114,111,114,32,50,32,97,116,32,55,10]⟩)))&&(decide (r6=⟨#[101,114,114,111,114,32,51,10]⟩)))&&(decide (r8=⟨#[]⟩)))==true) ⟨#[]⟩ (dF (GA.b 4 true))).bind fun r10=>
 some (((((decide (r2=aDq))&&(decide (r4=⟨#[101,114,114,111,114,32,50,32,97,116,32,55,10]⟩)))&&(decide (r6=⟨#[101,114,114,111,114,32,51,10]⟩)))&&(decide (r8=⟨#[]⟩)))&&(decide (r10=⟨#[121,101,115]⟩))))))))
theorem wP{r:Bool}(hm:oI=some r):bN prog 27 [] (vb r):=by
 refine bd 23 func27 ?_;refine W ?_;refine aL (CFi .u64) [1,2,3,4] ?_;obtain ⟨r2,h1,hm⟩:=bnd hm;refine aV.callB (r:= .v (.string r2)) Zd Z1 bWf (.cons (ltd fun H=>(td Z1 (.v _))) (.cons (lto (CFi .u64) Z1 Z3 Z6) aOb.nil)) aZr (vH h1) ?_;obtain ⟨r4,h3,hm⟩:=bnd hm;refine W ?_;refine cg (fun hb=>vH (fP h3 hb)) ?_;obtain ⟨r6,h5,hm⟩:=bnd hm;refine W ?_;refine cg (fun hb=>vH (fP h5 hb)) ?_;obtain ⟨r8,h7,hm⟩:=bnd hm;refine W ?_;refine cg (fun hb=>fT (fP h7 hb)) ?_;obtain ⟨r10,h9,hm⟩:=bnd hm;refine W ?_;refine cg (fun hb=>fT (fP h9 hb)) ?_;exact E
instance:Ct prog 27 (K0 prog vb 27 oI):=⟨fun hm=>wP hm⟩
def aNk(rec1:Int→ByteArray→Option (ByteArray))(n_0:Int)(s_3:ByteArray):Option (ByteArray):=
 ((oO (bOo [(IntKind.u8.wrap (IntKind.u64.wrap (48+(Int.tmod n_0 10))))]) s_3).bind fun s2=>
 (bif ((IntKind.u64.wrap (Int.tdiv n_0 10))==0) then
  some s2
 else
  rec1 (IntKind.u64.wrap (Int.tdiv n_0 10)) s2))
def yX:Nat→Int→ByteArray→Option (ByteArray)
 |0=>fun _ _=>none
 |n+1=>aNk (yX n)
def gQ(n_0:Int):Option (ByteArray):=
 yX bF n_0 ⟨#[]⟩
theorem qE{n_0:Int}{r:ByteArray}(hm:gQ n_0=some r):bN prog 31 [vu n_0] (.v (.string r)):=by
 refine bd 17 func31 ?_;refine W ?_;refine lp (fun m s=> ∃n_0 s_3,s=⟨17,(aF (aF fa 0 (vu n_0)) 3 (.v (.string s_3))),⟨bD,64⟩⟩∧yX m n_0 s_3=some r) L ?_;rintro n1 s ⟨n_0,s_3,rfl,hm⟩;refine W ?_;refine aL (CFi .u8) [(IntKind.u8.wrap (IntKind.u64.wrap (48+(Int.tmod n_0 10))))] ?_;refine pu rfl (bE4 underlying91 underlying9 underlying5 Z1 Z3 Z6) ?_;obtain ⟨s2,h1,hm⟩:=bnd hm;refine W ?_;refine cm hm (fun hm=>?_) fun hm=>?_
 · exact E
 exact L
instance:Ct prog 31 (K1 prog vu vs 31 gQ):=⟨fun hm=>qE hm⟩
def xX(rec3:List Int→Int→ByteArray→ByteArray→Int→Int→Option (Bool))(dP:List Int)(k_7:Int)(uI:ByteArray)(uJ:ByteArray)(t47:Int)(t48:Int):Option (Bool):=
 (bif (decide (t48<t47)) then
  ((gQ (IntKind.u64.wrap (IntKind.i64.wrap (2*t48)))).bind fun r18=>
  ((gQ (IntKind.u64.wrap (IntKind.i64.wrap ((IntKind.i64.wrap (2*t48))+1)))).bind fun r20=>
  ((oO ⟨#[101,100,103,101,32]⟩ r20).bind fun s22=>
  ((oO s22 ⟨#[32]⟩).bind fun s24=>
  ((oO s24 r18).bind fun s26=>
  ((oO s26 ⟨#[10,115,105,122,101,32]⟩).bind fun s28=>
  ((oO s28 r18).bind fun s30=>
  ((oO s30 ⟨#[10,109,101,109,98,101,114,115,32]⟩).bind fun s32=>
  ((oO s32 r20).bind fun s34=>
  ((oO s34 ⟨#[10]⟩).bind fun s36=>
  ((oO uI s36).bind fun s38=>
  ((oO ⟨#[111,107,10,50,10]⟩ r18).bind fun s40=>
  ((oO s40 ⟨#[32]⟩).bind fun s42=>
  ((oO s42 r20).bind fun s44=>
  ((oO s44 ⟨#[10]⟩).bind fun s46=>
  ((oO uJ s46).bind fun s48=>
  rec3 dP k_7 s38 s48 t47 (IntKind.i64.wrap (t48+1))))))))))))))))))
 else
  ((oO uI ⟨#[99,111,117,110,116,10,97,117,100,105,116,10,99,111,110,110,101,99,116,101,100,32,48,32,49,10]⟩).bind fun s50=>
  ((gQ (IntKind.u64.wrap k_7)).bind fun r52=>
  ((oO r52 ⟨#[10,121,101,115,10,121,101,115,10]⟩).bind fun s54=>
  ((oO uJ s54).bind fun s56=>
  ((iP s50 dP).bind fun r58=>
  ((gO ((decide (r58=s56))==true) false (oI)).bind fun r60=>
  some ((decide (r58=s56))&&r60))))))))
def mU:Nat→List Int→Int→ByteArray→ByteArray→Int→Int→Option (Bool)
 |0=>fun _ _ _ _ _ _=>none
 |n+1=>xX (mU n)
def xW(rec2:List Int→Int→ByteArray→ByteArray→Int→Int→Option (Bool))(dP:List Int)(k_7:Int)(uI:ByteArray)(uJ:ByteArray)(t33:Int)(t34:Int):Option (Bool):=
 (bif (decide (t34<t33)) then
  ((gQ (IntKind.u64.wrap t34)).bind fun r8=>
  ((oO ⟨#[118,101,114,116,101,120,32]⟩ r8).bind fun s10=>
  ((oO s10 ⟨#[10]⟩).bind fun s12=>
  ((oO uI s12).bind fun s14=>
  ((oO uJ ⟨#[111,107,10]⟩).bind fun s16=>
  rec2 dP k_7 s14 s16 t33 (IntKind.i64.wrap (t34+1)))))))
 else
  mU bF dP k_7 uI uJ k_7 0)
def mT:Nat→List Int→Int→ByteArray→ByteArray→Int→Int→Option (Bool)
 |0=>fun _ _ _ _ _ _=>none
 |n+1=>xW (mT n)
def xU(rec1:Int→List Int→List Int→Int→Int→Option (Bool))(qV:Int)(dP:List Int)(t18:List Int)(t19:Int)(t20:Int):Option (Bool):=
 (bif (decide (t20<t19)) then
  ((idx t18 t20).bind fun x4=>
  (bif (decide (2305843009213693951≤x4)) then
   ((oI).bind fun r6=>
   some r6)
  else
   rec1 qV dP t18 t19 (IntKind.i64.wrap (t20+1))))
 else
  mT bF dP (IntKind.i64.wrap (1+(IntKind.i64.wrap (Int.tmod qV 4)))) ⟨#[110,101,119,32,57,32,51,32,50,10]⟩ ⟨#[111,107,10]⟩ (IntKind.i64.wrap (2*(IntKind.i64.wrap (1+(IntKind.i64.wrap (Int.tmod qV 4)))))) 0)
def mS:Nat→Int→List Int→List Int→Int→Int→Option (Bool)
 |0=>fun _ _ _ _ _=>none
 |n+1=>xU (mS n)
def oW(qV:Int)(dP:List Int):Option (Bool):=
 (bif ((dP.length:Int) !=12) then
  ((oI).bind fun r2=>
  some r2)
 else
  mS bF qV dP dP (dP.length:Int) 0)
theorem aFo{qV:Int}{dP:List Int}{r:Bool}(hm:oW qV dP=some r):bN prog 8 [.v (.int .u8 qV),vl (ci .u64) dP] (vb r):=by
 refine bd 99 func8 ?_;refine W ?_;refine cm hm (fun hm=>?_) fun hm=>?_
 · obtain ⟨r2,h1,hm⟩:=bnd hm;refine W ?_;refine cq (wP h1) ?_;exact E
 refine W ?_;refine lp (fun m s=> ∃qV dP t18 t19 t20,s=⟨99,(aF (aF (aF (aF (aF fa 0 (.v (.int .u8 qV))) 1 (vl (ci .u64) dP)) 18 (vl (ci .u64) t18)) 19 (vi t19)) 20 (vi t20)),⟨bD,64⟩⟩∧mS m qV dP t18 t19 t20=some r) L ?_;rintro n1 s ⟨qV,dP,t18,t19,t20,rfl,hm⟩;refine W ?_;refine cm hm (fun hm=>?_) fun hm=>?_
 ·
  obtain ⟨x4,h3,hm⟩:=bnd hm;refine W ?_;refine cm hm (fun hm=>?_) fun hm=>?_
  · obtain ⟨r6,h5,hm⟩:=bnd hm;refine W ?_;refine cq (wP h5) ?_;exact E
  exact L
 refine W ?_;refine lp (fun m s=> ∃dP k_7 uI uJ t33 t34,s=⟨99,(aF (aF (aF (aF (aF (aF fa 1 (vl (ci .u64) dP)) 7 (vi k_7)) 8 (.v (.string uI))) 9 (.v (.string uJ))) 33 (vi t33)) 34 (vi t34)),⟨bD,64⟩⟩∧mT m dP k_7 uI uJ t33 t34=some r) L ?_;rintro n2 s ⟨dP,k_7,uI,uJ,t33,t34,rfl,hm⟩;refine W ?_;refine cm hm (fun hm=>?_) fun hm=>?_
 · obtain ⟨r8,h7,hm⟩:=bnd hm;refine W ?_;refine cq (qE h7) ?_;obtain ⟨s10,h9,hm⟩:=bnd hm;obtain ⟨s12,h11,hm⟩:=bnd hm;obtain ⟨s14,h13,hm⟩:=bnd hm;obtain ⟨s16,h15,hm⟩:=bnd hm;exact L
 refine W ?_;refine lp (fun m s=> ∃dP k_7 uI uJ t47 t48,s=⟨99,(aF (aF (aF (aF (aF (aF fa 1 (vl (ci .u64) dP)) 7 (vi k_7)) 8 (.v (.string uI))) 9 (.v (.string uJ))) 47 (vi t47)) 48 (vi t48)),⟨bD,64⟩⟩∧mU m dP k_7 uI uJ t47 t48=some r) L ?_;rintro n3 s ⟨dP,k_7,uI,uJ,t47,t48,rfl,hm⟩;refine W ?_;refine cm hm (fun hm=>?_) fun hm=>?_
 · obtain ⟨r18,h17,hm⟩:=bnd hm;refine W ?_;refine cq (qE h17) ?_;obtain ⟨r20,h19,hm⟩:=bnd hm;refine W ?_;refine cq (qE h19) ?_;obtain ⟨s22,h21,hm⟩:=bnd hm;obtain ⟨s24,h23,hm⟩:=bnd hm;obtain ⟨s26,h25,hm⟩:=bnd hm;obtain ⟨s28,h27,hm⟩:=bnd hm;obtain ⟨s30,h29,hm⟩:=bnd hm;obtain ⟨s32,h31,hm⟩:=bnd hm;obtain ⟨s34,h33,hm⟩:=bnd hm;obtain ⟨s36,h35,hm⟩:=bnd hm;obtain ⟨s38,h37,hm⟩:=bnd hm;obtain ⟨s40,h39,hm⟩:=bnd hm;obtain ⟨s42,h41,hm⟩:=bnd hm;obtain ⟨s44,h43,hm⟩:=bnd hm;obtain ⟨s46,h45,hm⟩:=bnd hm;obtain ⟨s48,h47,hm⟩:=bnd hm;exact L
 obtain ⟨s50,h49,hm⟩:=bnd hm;obtain ⟨r52,h51,hm⟩:=bnd hm;refine W ?_;refine cq (qE h51) ?_;obtain ⟨s54,h53,hm⟩:=bnd hm;obtain ⟨s56,h55,hm⟩:=bnd hm;obtain ⟨r58,h57,hm⟩:=bnd hm;refine W ?_;refine cq (vH h57) ?_;obtain ⟨r60,h59,hm⟩:=bnd hm;refine W ?_;refine cg (fun hb=>wP (fP h59 hb)) ?_;exact E
instance:Ct prog 8 (K2 prog (vk .u8) (vl (ci .u64)) vb 8 oW):=⟨fun hm=>aFo hm⟩
attribute [local semireducible] bF
structure aG4 where
 Used:Bool
 Key:Int
deriving DecidableEq
structure aVx where
 Graph:aH
 Slots:List aG4
deriving DecidableEq
structure aW where
 Most:Int
 Keys:List Int
 Pairs:List aI
deriving DecidableEq
def aCr(rec1:List Int→Int→Int→Option (Int))(l_0:List Int)(k_1:Int)(i_5:Int):Option (Int):=
 (bif (decide (i_5<(l_0.length:Int))) then
  ((idx l_0 i_5).bind fun x2=>
  (bif (x2==k_1) then
   some i_5
  else
   rec1 l_0 k_1 (IntKind.i64.wrap (i_5+1))))
 else
  some (-1))
def wU:Nat→List Int→Int→Int→Option (Int)
 |0=>fun _ _ _=>none
 |n+1=>aCr (wU n)
def aEn(l_0:List Int)(k_1:Int):Option (Int):=
 wU bF l_0 k_1 0
def wW(rec1:Int→aW→List Int→Int→Option ((List Int)))(a_1:Int)(m_2:aW)(gN:List Int)(i_6:Int):Option ((List Int)):=
 rec1 a_1 m_2 gN (IntKind.i64.wrap (i_6+1))
def aCt(rec1:Int→aW→List Int→Int→Option ((List Int)))(rec2:Int→aW→List Int→Int→Int→Int→Option ((List Int)))(a_1:Int)(m_2:aW)(gN:List Int)(i_6:Int)(aSf:Int)(k_9:Int):Option ((List Int)):=
 ((gO ((decide (k_9<(gN.length:Int)))==true) 0 (idx gN k_9)).bind fun x4=>
 (bif ((decide (k_9<(gN.length:Int)))&&(decide (x4<aSf))) then
  rec2 a_1 m_2 gN i_6 aSf (IntKind.i64.wrap (k_9+1))
 else
  ((slc gN 0 k_9).bind fun l6=>
  ((app [] l6).bind fun l8=>
  ((app l8 [aSf]).bind fun l10=>
  ((slc gN k_9 (gN.length:Int)).bind fun l12=>
  ((app l10 l12).bind fun l14=>
  wW rec1 a_1 m_2 l14 i_6)))))))
def wX(rec1:Int→aW→List Int→Int→Option ((List Int))):Nat→Int→aW→List Int→Int→Int→Int→Option ((List Int))
 |0=>fun _ _ _ _ _ _=>none
 |n+1=>aCt rec1 (wX rec1 n)
def aCs(rec1:Int→aW→List Int→Int→Option ((List Int)))(a_1:Int)(m_2:aW)(gN:List Int)(i_6:Int):Option ((List Int)):=
 (bif (decide (i_6<(m_2.Pairs.length:Int))) then
  ((idx m_2.Pairs i_6).bind fun x2=>
  (bif ((x2.x0 !=a_1)&&(x2.x1 !=a_1)) then
   wW rec1 a_1 m_2 gN i_6
  else
   wX rec1 bF a_1 m_2 gN i_6 (IntKind.u64.wrap ((IntKind.u64.wrap (x2.x0+x2.x1))-a_1)) 0))
 else
  some gN)
def sS:Nat→Int→aW→List Int→Int→Option ((List Int))
 |0=>fun _ _ _ _=>none
 |n+1=>aCs (sS n)
def aKu(m_0:aW)(a_1:Int):Option ((List Int)):=
 sS bF a_1 m_0 [] 0
def aIe(a_0:Int)(b_1:Int)(t4:aI):Option (aI):=
 some (aI.mk a_0 b_1)
def aEp(a_0:Int)(b_1:Int):Option (aI):=
 (bif (decide (b_1<a_0)) then
  aIe b_1 a_0 (aI.mk 0 0)
 else
  aIe a_0 b_1 (aI.mk 0 0))
def aGp(rec1:List aI→aI→Int→Option (Int))(l_0:List aI)(p_3:aI)(i_5:Int):Option (Int):=
 (bif (decide (i_5<(l_0.length:Int))) then
  ((idx l_0 i_5).bind fun x2=>
  (bif (aX3 x2 p_3) then
   some i_5
  else
   rec1 l_0 p_3 (IntKind.i64.wrap (i_5+1))))
 else
  some (-1))
def aCq:Nat→List aI→aI→Int→Option (Int)
 |0=>fun _ _ _=>none
 |n+1=>aGp (aCq n)
def aJn(l_0:List aI)(p_1:aI):Option (Int):=
 aCq bF l_0 p_1 0
def fQ(m_0:aW)(tJ:Int)(a_2:Int)(b_3:Int):Option (aW×Int):=
 ((aEn m_0.Keys a_2).bind fun r2=>
 (bif (tJ==1) then
  (bif (decide (0≤r2)) then
   some (m_0,4)
  else
   (bif (decide (m_0.Most≤(m_0.Keys.length:Int))) then
    some (m_0,10)
   else
    ((app [] m_0.Keys).bind fun l4=>
    ((app l4 [a_2]).bind fun l6=>
    some ((aW.mk m_0.Most l6 m_0.Pairs),0)))))
 else
  ((gO (((decide (r2<0))==false)&&((decide (2<tJ))==true)) 0 (aEn m_0.Keys b_3)).bind fun r8=>
  (bif ((decide (r2<0))||((decide (2<tJ))&&(decide (r8<0)))) then
   some (m_0,7)
  else
   (bif (tJ==2) then
    ((aKu m_0 a_2).bind fun r10=>
    (bif (decide (0<(r10.length:Int))) then
     some (m_0,11)
    else
     ((slc m_0.Keys 0 r2).bind fun l12=>
     ((app [] l12).bind fun l14=>
     ((slc m_0.Keys (IntKind.i64.wrap (r2+1)) (m_0.Keys.length:Int)).bind fun l16=>
     ((app l14 l16).bind fun l18=>
     some ((aW.mk m_0.Most l18 m_0.Pairs),0)))))))
   else
    ((aEp a_2 b_3).bind fun r20=>
    ((aJn m_0.Pairs r20).bind fun r22=>
    (bif (tJ==4) then
     (bif (decide (r22<0)) then
      some (m_0,9)
     else
      ((slc m_0.Pairs 0 r22).bind fun l24=>
      ((app [] l24).bind fun l26=>
      ((slc m_0.Pairs (IntKind.i64.wrap (r22+1)) (m_0.Pairs.length:Int)).bind fun l28=>
      ((app l26 l28).bind fun l30=>
      some ((aW.mk m_0.Most m_0.Keys l30),0))))))
    else
     (bif (a_2==b_3) then
      some (m_0,8)
     else
      (bif (decide (0≤r22)) then
       some (m_0,4)
      else
       ((app [] m_0.Pairs).bind fun l32=>
       ((app l32 [r20]).bind fun l34=>
       some ((aW.mk m_0.Most m_0.Keys l34),0)))))))))))))
structure aT where
 List:List Int
 At:Int
deriving DecidableEq
def aCp(w_0:aT):Option (Bool):=
 some ((decide (0≤w_0.At))&&(decide (w_0.At≤(w_0.List.length:Int))))
def aOz(rec1:aT→aT→Int→Option (Int×aT×Int))(w_1:aT)(t3:aT)(aHb:Int):Option (Int×aT×Int):=
 (bif (decide (aHb<(w_1.List.length:Int))) then
  ((idx w_1.List aHb).bind fun x4=>
  (bif ((Int.tmod x4 2305843009213693952) !=2305843009213693951) then
   some ((Int.tmod x4 2305843009213693952),(aT.mk w_1.List (IntKind.i64.wrap (aHb+1))),0)
  else
   rec1 w_1 t3 (IntKind.i64.wrap (aHb+1))))
 else
  some (0,w_1,5))
def aFs:Nat→aT→aT→Int→Option (Int×aT×Int)
 |0=>fun _ _ _=>none
 |n+1=>aOz (aFs n)
def aSk(w_0:aT):Option (Int×aT×Int):=
 ((aCp w_0).bind fun r2=>
 (bif (!r2) then
  some (0,w_0,1)
 else
  aFs bF w_0 (aT.mk [] 0) w_0.At))
def aNj(rec2:Int→aT→List Int→aT→List bQ→Int→Option ((List bQ)×aT×Int))(n_1:Int)(t5:aT)(aM8:List Int)(v_8:aT)(bGn:List bQ)(bIx:Int):Option ((List bQ)×aT×Int):=
 (bif (decide (bIx<n_1)) then
  ((idx aM8 (IntKind.i64.wrap (2*bIx))).bind fun x10=>
  ((idx aM8 (IntKind.i64.wrap ((IntKind.i64.wrap (2*bIx))+1))).bind fun x12=>
  ((app bGn [(bQ.mk x10 x12)]).bind fun l14=>
  rec2 n_1 t5 aM8 v_8 l14 (IntKind.i64.wrap (bIx+1)))))
 else
  some (bGn,v_8,0))
def aEm:Nat→Int→aT→List Int→aT→List bQ→Int→Option ((List bQ)×aT×Int)
 |0=>fun _ _ _ _ _ _=>none
 |n+1=>aNj (aEm n)
def aNi(rec1:Int→aT→aT→List Int→aT→Option ((List bQ)×aT×Int))(n_1:Int)(w_2:aT)(t5:aT)(aM8:List Int)(v_8:aT):Option ((List bQ)×aT×Int):=
 (bif (decide ((aM8.length:Int)<(IntKind.i64.wrap (2*n_1)))) then
  ((aSk v_8).bind fun ⟨r4,r5,r6⟩=>
  (bif (r6 !=0) then
   some ([],w_2,r6)
  else
   ((app aM8 [r4]).bind fun l8=>
   rec1 n_1 w_2 t5 l8 r5)))
 else
  aEm bF n_1 t5 aM8 v_8 [] 0)
def aEl:Nat→Int→aT→aT→List Int→aT→Option ((List bQ)×aT×Int)
 |0=>fun _ _ _ _ _=>none
 |n+1=>aNi (aEl n)
def aFt(w_0:aT)(n_1:Int):Option ((List bQ)×aT×Int):=
 ((aCp w_0).bind fun r2=>
 (bif (((!r2)||(decide (n_1<0)))||(decide (128<n_1))) then
  some ([],w_0,1)
 else
  aEl bF n_1 w_0 (aT.mk [] 0) [] w_0))
end Go.Proofs.YtkdohhmacfoolaaGreatDoor
