/- Facts. No condition. -/
import Derived.Test.YtkdohhmacfoolaaGreatNqGI4
set_option linter.unusedVariables false
set_option linter.unusedSimpArgs false
set_option maxRecDepth 20000
set_option maxHeartbeats 4000000
namespace Go.Proofs.YtkdohhmacfoolaaGreat
open Go.Proofs.Tryz Go Go.AM
attribute [local irreducible] aZ
structure bC where
 List:List Int
 At:Int
deriving DecidableEq
def aJn(e:bC):List AV:=[.sl (e.List.flatMap (ci .u64)) e.List.length false,.v (.int .i64 e.At)]
@[go_sem] theorem aGp(e:bC)(r:List AV):aJn e++r= .sl (e.List.flatMap (ci .u64)) e.List.length false:: .v (.int .i64 e.At)::r:=rfl
def aIp(w_0:bC):Option (Bool):=
 some ((decide (0≤w_0.At))&&(decide (w_0.At≤(w_0.List.length:Int))))
attribute [local semireducible] aZ
attribute [local irreducible] aZ
@[go_sem] theorem bJr(i o:Nat):aO prog 23 (.adr i o) 0=some (.adr i (o+0)):=by kernel_rfl
@[go_sem] theorem bJy(i o:Nat):aO prog 23 (.adr i o) 1=some (.adr i (o+1)):=by kernel_rfl
@[go_sem] theorem bK4(i o:Nat):aO prog 23 (.adr i o) 2=some (.adr i (o+2)):=by kernel_rfl
@[go_sem] theorem bKo(i o:Nat):aO prog 33 (.adr i o) 0=some (.adr i (o+0)):=by kernel_rfl
@[go_sem] theorem bKt(i o:Nat):aO prog 33 (.adr i o) 1=some (.adr i (o+5)):=by kernel_rfl
@[go_sem] theorem bKx(i o:Nat):aO prog 35 (.adr i o) 1=some (.adr i (o+1)):=by kernel_rfl
@[go_sem] theorem bL0(i o:Nat):aO prog 42 (.adr i o) 1=some (.adr i (o+1)):=by kernel_rfl
@[go_sem] theorem bL3(i o:Nat):aO prog 45 (.adr i o) 0=some (.adr i (o+0)):=by kernel_rfl
@[go_sem] theorem bL5(i o:Nat):aO prog 45 (.adr i o) 1=some (.adr i (o+1)):=by kernel_rfl
@[go_sem] theorem bL7(i o:Nat):aO prog 45 (.adr i o) 2=some (.adr i (o+2)):=by kernel_rfl
@[go_sem] theorem bLc(i o:Nat):aO prog 60 (.adr i o) 0=some (.adr i (o+0)):=by kernel_rfl
@[go_sem] theorem bLd(i o:Nat):aO prog 60 (.adr i o) 1=some (.adr i (o+1)):=by kernel_rfl
theorem bLh(i o:Nat)(k:IntKind):oC prog 69 (.adr i o) (.v (.int k 0))=some (.adr i o):=by kernel_rfl
theorem bLk(i o:Nat)(k:IntKind):oC prog 69 (.adr i o) (.v (.int k 1))=some (.adr i (o+1)):=by kernel_rfl
attribute [go_sem] bLh bLk
@[go_sem] theorem bRi(H:aM)(x0 x1 x2:AV)(xs:List AV):cZ prog H 23 (.ptr (x0::x1::x2::xs))=some (.agg [x0,x1,x2]):=by kernel_rfl
@[go_sem] theorem bRm(H:aM)(x:AV)(xs:List AV):cZ prog H 24 (.ptr (x::xs))=some x:=by kernel_rfl
@[go_sem] theorem bVp(H:aM)(x:AV)(xs:List AV):cZ prog H 3 (.ptr (x::xs))=some x:=by kernel_rfl
@[go_sem] theorem bS3(H:aM)(x0 x1 x2 x3 x4:AV)(xs:List AV):cZ prog H 30 (.ptr (x0::x1::x2::x3::x4::xs))=some (.agg [x0,x1,x2,x3,x4]):=by kernel_rfl
@[go_sem] theorem bS8(H:aM)(x:AV)(xs:List AV):cZ prog H 31 (.ptr (x::xs))=some x:=by kernel_rfl
@[go_sem] theorem bSc(H:aM)(x0 x1 x2 x3 x4 x5:AV)(xs:List AV):cZ prog H 33 (.ptr (x0::x1::x2::x3::x4::x5::xs))=some (.agg [x0,x1,x2,x3,x4,x5]):=by kernel_rfl
@[go_sem] theorem bSh(H:aM)(x0 x1 x2:AV)(xs:List AV):cZ prog H 42 (.ptr (x0::x1::x2::xs))=some (.agg [x0,x1,x2]):=by kernel_rfl
@[go_sem] theorem bSo(H:aM)(x:AV)(xs:List AV):cZ prog H 43 (.ptr (x::xs))=some x:=by kernel_rfl
@[go_sem] theorem bSr(H:aM)(x0 x1 x2 x3:AV)(xs:List AV):cZ prog H 45 (.ptr (x0::x1::x2::x3::xs))=some (.agg [x0,x1,x2,x3]):=by kernel_rfl
@[go_sem] theorem bSu(H:aM)(x0 x1:AV)(xs:List AV):cZ prog H 60 (.ptr (x0::x1::xs))=some (.agg [x0,x1]):=by kernel_rfl
@[go_sem] theorem bSy(H:aM)(x0 x1:AV)(xs:List AV):cZ prog H 69 (.ptr (x0::x1::xs))=some (.agg [x0,x1]):=by kernel_rfl
def aV3(rec1:bC→bC→Int→Option (Int×bC×Int))(w_1:bC)(t3:bC)(aN8:Int):Option (Int×bC×Int):=
 (bif (decide (aN8<(w_1.List.length:Int))) then
  ((idx w_1.List aN8).bind fun x4=>
  (bif ((Int.tmod x4 2305843009213693952) !=2305843009213693951) then
   some ((Int.tmod x4 2305843009213693952),(bC.mk w_1.List (IntKind.i64.wrap (aN8+1))),0)
  else
   rec1 w_1 t3 (IntKind.i64.wrap (aN8+1))))
 else
  some (0,w_1,5))
def aLr:Nat→bC→bC→Int→Option (Int×bC×Int)
 |0=>fun _ _ _=>none
 |n+1=>aV3 (aLr n)
def aYo(w_0:bC):Option (Int×bC×Int):=
 ((aIp w_0).bind fun r2=>
 (bif (!r2) then
  some (0,w_0,1)
 else
  aLr aZ w_0 (bC.mk [] 0) w_0.At))
def aTr(rec2:Int→bC→List Int→bC→List dI→Int→Option ((List dI)×bC×Int))(n_1:Int)(t5:bC)(aSk:List Int)(v_8:bC)(bPf:List dI)(bR8:Int):Option ((List dI)×bC×Int):=
 (bif (decide (bR8<n_1)) then
  ((idx aSk (IntKind.i64.wrap (2*bR8))).bind fun x10=>
  ((idx aSk (IntKind.i64.wrap ((IntKind.i64.wrap (2*bR8))+1))).bind fun x12=>
  ((app bPf [(dI.mk x10 x12)]).bind fun l14=>
  rec2 n_1 t5 aSk v_8 l14 (IntKind.i64.wrap (bR8+1)))))
 else
  some (bPf,v_8,0))
def aKi:Nat→Int→bC→List Int→bC→List dI→Int→Option ((List dI)×bC×Int)
 |0=>fun _ _ _ _ _ _=>none
 |n+1=>aTr (aKi n)
def aTq(rec1:Int→bC→bC→List Int→bC→Option ((List dI)×bC×Int))(n_1:Int)(w_2:bC)(t5:bC)(aSk:List Int)(v_8:bC):Option ((List dI)×bC×Int):=
 (bif (decide ((aSk.length:Int)<(IntKind.i64.wrap (2*n_1)))) then
  ((aYo v_8).bind fun ⟨r4,r5,r6⟩=>
  (bif (r6 !=0) then
   some ([],w_2,r6)
  else
   ((app aSk [r4]).bind fun l8=>
   rec1 n_1 w_2 t5 l8 r5)))
 else
  aKi aZ n_1 t5 aSk v_8 [] 0)
def aKh:Nat→Int→bC→bC→List Int→bC→Option ((List dI)×bC×Int)
 |0=>fun _ _ _ _ _=>none
 |n+1=>aTq (aKh n)
def aLs(w_0:bC)(n_1:Int):Option ((List dI)×bC×Int):=
 ((aIp w_0).bind fun r2=>
 (bif (((!r2)||(decide (n_1<0)))||(decide (128<n_1))) then
  some ([],w_0,1)
 else
  aKh aZ n_1 w_0 (bC.mk [] 0) [] w_0))
def aGn(rec2:aF→aF→List bK→Int→Int→Option (Bool))(aCg:aF)(aVd:aF)(t145:List bK)(t146:Int)(t147:Int):Option (Bool):=
 (bif (decide (t147<t146)) then
  ((idx t145 t147).bind fun x50=>
  ((jB aCg x50).bind fun ⟨r52,r53⟩=>
  ((jB aVd x50).bind fun ⟨r55,r56⟩=>
  ((sB r52 r55).bind fun r58=>
  ((dX ((!r58)==false) 0 (oF r53)).bind fun r60=>
  ((dX ((!r58)==false) 0 (oF r56)).bind fun r62=>
  (bif ((!r58)||(r60 !=r62)) then
   some false
  else
   ((aNp 24 r53).bind fun ⟨r64,r65⟩=>
   ((dX (r65==true) false (sZ r56 r64)).bind fun r67=>
   (bif (r65&&(!r67)) then
    some false
   else
    ((aHb .i64 3 r53).bind fun ⟨r72,r73⟩=>
    ((dX (r73==true) false (aCr r56 r72)).bind fun r75=>
    (bif (r73&&(!r75)) then
     some false
    else
     ((aDq 4 r53).bind fun ⟨r77,r78⟩=>
     ((dX (r78==true) false (aE9 r56 r77)).bind fun r80=>
     (bif (r78&&(!r80)) then
      some false
     else
      rec2 r52 r55 t145 t146 (IntKind.i64.wrap (t147+1))))))))))))))))))
 else
  ((aBc).bind fun r82=>
  some r82))
def uZ:Nat→aF→aF→List bK→Int→Int→Option (Bool)
 |0=>fun _ _ _ _ _=>none
 |n+1=>aGn (uZ n)
def aGm(rec1:List bK→ByteArray→Int→aF→List bK→Int→Int→Option (Bool))(m_3:List bK)(aBw:ByteArray)(aRm:Int)(aCg:aF)(t68:List bK)(t69:Int)(t70:Int):Option (Bool):=
 (bif (decide (t70<t69)) then
  ((idx t68 t70).bind fun x14=>
  ((jB aCg x14).bind fun ⟨r16,r17⟩=>
  rec1 m_3 aBw aRm r16 t68 t69 (IntKind.i64.wrap (t70+1))))
 else
  ((jB aCg (bK.mk 15 0 0 aBw)).bind fun ⟨r19,r20⟩=>
  ((oF r20).bind fun r22=>
  ((dX ((r22 !=0)==true) 0 (oF r20)).bind fun r24=>
  ((dX (((r22 !=0)==true)&&((r24 !=12)==false)) false (sB r19 aCg)).bind fun r26=>
  ((dX (((r22 !=0)&&((r24 !=12)||(!r26)))==false) 0 (oF r20)).bind fun r28=>
  ((dX ((((r22 !=0)&&((r24 !=12)||(!r26)))==false)&&((r28==0)==true)) false (pY r19)).bind fun r30=>
  (bif (((r22 !=0)&&((r24 !=12)||(!r26)))||((r28==0)&&(!r30))) then
   some false
  else
   ((jB aCg (bK.mk 14 0 0 ⟨#[]⟩)).bind fun ⟨r32,r33⟩=>
   ((bAr 9 r33).bind fun ⟨r38,r39⟩=>
   ((jB r19 (bK.mk 15 0 0 r38)).bind fun ⟨r41,r42⟩=>
   ((dX ((!r39)==false) 0 (oF r42)).bind fun r44=>
   ((dX (((!r39)||(r44 !=0))==false) false (sB r41 aCg)).bind fun r46=>
   (bif (((!r39)||(r44 !=0))||(!r46)) then
    some false
   else
    ((slc m_3 0 aRm).bind fun l48=>
    uZ aZ aCg r41 l48 (l48.length:Int) 0)))))))))))))))
def yR:Nat→List bK→ByteArray→Int→aF→List bK→Int→Int→Option (Bool)
 |0=>fun _ _ _ _ _ _ _=>none
 |n+1=>aGm (yR n)
def aAs(c_0:bZ)(aOx:List Int)(l_2:List bK)(m_3:List bK)(aBw:ByteArray):Option (Bool):=
 ((rL c_0 l_2 20).bind fun r2=>
 ((rL c_0 m_3 20).bind fun r4=>
 ((sP c_0 (cM.mk aOx 0)).bind fun ⟨r6,r7,r8⟩=>
 (bif ((((decide (r2<0))||(decide (r4<0)))||(r8 !=0))||(decide (1000<(aBw.size:Int)))) then
  ((aBc).bind fun r10=>
  some r10)
 else
  ((slc l_2 0 r2).bind fun l12=>
  yR aZ m_3 aBw r4 r6 l12 (l12.length:Int) 0)))))
theorem aN4{c_0:bZ}{aOx:List Int}{l_2:List bK}{m_3:List bK}{aBw:ByteArray}{r:Bool}(hm:aAs c_0 aOx l_2 m_3 aBw=some r):dT prog 6 [.agg [vi c_0.N,vi c_0.L,vi c_0.R],vl (ci .u64) aOx,vl fI l_2,vl fI m_3,.v (.string aBw)] (vb r):=by
 refine bd 214 func6 ?_;obtain ⟨r2,h1,hm⟩:=bnd hm;refine W ?_;refine cq (aMj h1) ?_;obtain ⟨r4,h3,hm⟩:=bnd hm;refine W ?_;refine cq (aMj h3) ?_;refine W ?_;refine bU (.agg [vl (ci .u64) aOx,vi 0]) ?_;obtain ⟨⟨r6,r7,r8⟩,h5,hm⟩:=bnd hm;refine cq (aMi h5) ?_;refine W ?_;refine cm hm (fun hm=>?_) fun hm=>?_
 · obtain ⟨r10,h9,hm⟩:=bnd hm;refine W ?_;refine cq (aIa h9) ?_;exact E
 obtain ⟨l12,h11,hm⟩:=bnd hm;refine W ?_;refine lp (fun m s=> ∃m_3 aBw aRm aCg t68 t69 t70,s=⟨214,(aG (aG (aG (aG (aG (aG (aG fa 3 (vl fI m_3)) 4 (.v (.string aBw))) 12 (vi aRm)) 13 (.adr 1 0)) 68 (vl fI t68)) 69 (vi t69)) 70 (vi t70)),⟨(upd bR 1 (.cells 1 [vi aCg.Graph.Config.N,vi aCg.Graph.Config.L,vi aCg.Graph.Config.R,vl dW aCg.Graph.Hashes,vl bE aCg.Graph.Edges,vl bH aCg.Slots] 0)),64⟩⟩∧yR m m_3 aBw aRm aCg t68 t69 t70=some r) ?_ ?_
 · refine ⟨_,?_,m_3,aBw,r4,r6,l12,(l12.length:Int),0,rfl,hm⟩;refine St.Le.trans (bOz 68 (.sl (l12.flatMap fI) l12.length false) (fun H=>(tdf Z1 (uL.sl _ _ _)))) ?_;exact cn (fun j=>bif j==1 then 136 else 0)
 rintro n1 s ⟨m_3,aBw,aRm,aCg,t68,t69,t70,rfl,hm⟩;refine W ?_;refine cm hm (fun hm=>?_) fun hm=>?_
 · obtain ⟨x14,h13,hm⟩:=bnd hm;refine W ?_;obtain ⟨⟨r16,r17⟩,h15,hm⟩:=bnd hm;refine cq (qC h15) ?_;refine W ?_;exact Lr (fun j=>bif j==1 then 1 else 0)
 refine W ?_;refine bU (.agg [vi 15,vu 0,vu 0,.v (.string aBw)]) ?_;obtain ⟨⟨r19,r20⟩,h18,hm⟩:=bnd hm;refine cq (qC h18) ?_;obtain ⟨r22,h21,hm⟩:=bnd hm;refine W ?_;refine cq (uA h21) ?_;obtain ⟨r24,h23,hm⟩:=bnd hm;refine W ?_;refine cg (fun hb=>uA (bI h23 hb)) ?_;obtain ⟨r26,h25,hm⟩:=bnd hm;refine W ?_;refine cg (fun hb=>aG6 (bI h25 hb)) ?_;obtain ⟨r28,h27,hm⟩:=bnd hm;refine W ?_;refine cg (fun hb=>uA (bI h27 hb)) ?_;obtain ⟨r30,h29,hm⟩:=bnd hm;refine W ?_;refine cg (fun hb=>aKs (bI h29 hb)) ?_;refine W ?_;refine cm hm (fun hm=>?_) fun hm=>?_
 · exact E
 refine W ?_;refine bU (.agg [vi 14,vu 0,vu 0,.v (.string ⟨#[]⟩)]) ?_;obtain ⟨⟨r32,r33⟩,h31,hm⟩:=bnd hm;refine cq (qC h31) ?_;refine W ?_;obtain ⟨⟨r38,r39⟩,h37,hm⟩:=bnd hm;refine pu rfl (bMn underlying9 in9 tz9 Z1 h37) ?_;refine W ?_;refine bU (.agg [vi 15,vu 0,vu 0,.v (.string r38)]) ?_;obtain ⟨⟨r41,r42⟩,h40,hm⟩:=bnd hm;refine cq (qC h40) ?_;obtain ⟨r44,h43,hm⟩:=bnd hm;refine W ?_;refine cg (fun hb=>uA (bI h43 hb)) ?_;obtain ⟨r46,h45,hm⟩:=bnd hm;refine W ?_;refine cg (fun hb=>aG6 (bI h45 hb)) ?_;refine W ?_;refine cm hm (fun hm=>?_) fun hm=>?_
 · exact E
 obtain ⟨l48,h47,hm⟩:=bnd hm;refine W ?_;refine lp (fun m s=> ∃aCg aVd t145 t146 t147,s=⟨214,(aG (aG (aG (aG (aG fa 13 (.adr 1 0)) 22 (.adr 2 0)) 145 (vl fI t145)) 146 (vi t146)) 147 (vi t147)),⟨(upd (upd bR 1 (.cells 1 [vi aCg.Graph.Config.N,vi aCg.Graph.Config.L,vi aCg.Graph.Config.R,vl dW aCg.Graph.Hashes,vl bE aCg.Graph.Edges,vl bH aCg.Slots] 0)) 2 (.cells 1 [vi aVd.Graph.Config.N,vi aVd.Graph.Config.L,vi aVd.Graph.Config.R,vl dW aVd.Graph.Hashes,vl bE aVd.Graph.Edges,vl bH aVd.Slots] 0)),64⟩⟩∧uZ m aCg aVd t145 t146 t147=some r) ?_ ?_
 · refine ⟨_,?_,aCg,r41,l48,(l48.length:Int),0,rfl,hm⟩;refine St.Le.trans (bOz 145 (.sl (l48.flatMap fI) l48.length false) (fun H=>(tdf Z1 (uL.sl _ _ _)))) ?_;exact cn (fun j=>bif j==1 then 1 else bif j==2 then 391 else 0)
 rintro n2 s ⟨aCg,aVd,t145,t146,t147,rfl,hm⟩;refine W ?_;refine cm hm (fun hm=>?_) fun hm=>?_
 ·
  obtain ⟨x50,h49,hm⟩:=bnd hm;refine W ?_;obtain ⟨⟨r52,r53⟩,h51,hm⟩:=bnd hm;refine cq (qC h51) ?_;refine W ?_;obtain ⟨⟨r55,r56⟩,h54,hm⟩:=bnd hm;refine cq (qC h54) ?_;obtain ⟨r58,h57,hm⟩:=bnd hm;refine W ?_;refine cq (aG6 h57) ?_;obtain ⟨r60,h59,hm⟩:=bnd hm;refine W ?_;refine cg (fun hb=>uA (bI h59 hb)) ?_;obtain ⟨r62,h61,hm⟩:=bnd hm;refine W ?_;refine cg (fun hb=>uA (bI h61 hb)) ?_;refine W ?_;refine cm hm (fun hm=>?_) fun hm=>?_
  · exact E
  refine W ?_;obtain ⟨⟨r64,r65⟩,h63,hm⟩:=bnd hm;refine aI.pop Zd (aPm Z1 (GA.data _)) (aTo underlying24 bR9 bTn Z1 h63) rfl ?_;obtain ⟨r67,h66,hm⟩:=bnd hm;refine W ?_;refine cg (fun hb=>aK2 (bI h66 hb)) ?_;refine W ?_;refine cm hm (fun hm=>?_) fun hm=>?_
  · exact E
  refine W ?_;obtain ⟨⟨r72,r73⟩,h71,hm⟩:=bnd hm;refine pu rfl (aSl underlying3 in3 tz3 Z1 h71) ?_;obtain ⟨r75,h74,hm⟩:=bnd hm;refine W ?_;refine cg (fun hb=>aLp (bI h74 hb)) ?_;refine W ?_;refine cm hm (fun hm=>?_) fun hm=>?_
  · exact E
  refine W ?_;obtain ⟨⟨r77,r78⟩,h76,hm⟩:=bnd hm;refine pu rfl (aVp underlying4 in4 tz4 Z1 h76) ?_;obtain ⟨r80,h79,hm⟩:=bnd hm;refine W ?_;refine cg (fun hb=>aNw (bI h79 hb)) ?_;refine W ?_;refine cm hm (fun hm=>?_) fun hm=>?_
  · exact E
  refine W ?_;refine AWp.regV [(13,1),(22,2),(26,198),(28,262)] 64 mix (by kernel_rfl) (by kernel_rfl) (IV.cons (off:=0) Z1 (IV.cons (off:=0) Z1 (IV.cons (off:=0) Z1 (IV.cons (off:=0) Z1 IV.nil)))) (N':=832) rfl ?_;refine W ?_;exact Lr (fun j=>bif j==1 then 1 else bif j==2 then 2 else 0)
 obtain ⟨r82,h81,hm⟩:=bnd hm;refine W ?_;refine cq (aIa h81) ?_;exact E
instance:Ct prog 6 (K5 prog aHl (vl (ci .u64)) (vl fI) (vl fI) vs vb 6 aAs):=⟨fun hm=>aN4 hm⟩
attribute [local semireducible] aZ
open Go.Proofs.Tryz Go Go.AM
attribute [local irreducible] aZ
attribute [local semireducible] aZ
end Go.Proofs.YtkdohhmacfoolaaGreat
