/- Facts. No condition. -/
import Derived.Test.YtkdohhmacfoolaaGreatDoorOaAmE
set_option linter.unusedVariables false
set_option linter.unusedSimpArgs false
set_option maxRecDepth 20000
set_option maxHeartbeats 4000000
namespace Go.Proofs.YtkdohhmacfoolaaGreatDoor
open Go.Proofs.Tryz Go Go.AM
attribute [local irreducible] aZ
def bBd:ByteArray:=⟨#[110,101,119,32,51,32,50,32,49,10,118,101,114,116,101,120,32,52,10,118,101,114,116,101,120,32,54,10,118,101,114,116,101,120,32,56,10,101,100,103,101,32,54,32,52,10,99,111,110,110,101,99,116,101,100,32,52,32,54,10,99,111,110,110,101,99,116,101,100,32,52,32,56,10,97,117,100,105,116,10,115,105,122,101,32,54]⟩
@[go_sem] theorem aUo(i o:Nat):aJ prog 106 (.adr i o) 0=some (.adr i (o+0)):=by kernel_rfl
@[go_sem] theorem aUp(i o:Nat):aJ prog 106 (.adr i o) 1=some (.adr i (o+1)):=by kernel_rfl
@[go_sem] theorem aUq(i o:Nat):aJ prog 106 (.adr i o) 2=some (.adr i (o+2)):=by kernel_rfl
@[go_sem] theorem aY5(i o:Nat):aJ prog 23 (.adr i o) 0=some (.adr i (o+0)):=by kernel_rfl
@[go_sem] theorem aYa(i o:Nat):aJ prog 23 (.adr i o) 1=some (.adr i (o+1)):=by kernel_rfl
@[go_sem] theorem aYp(i o:Nat):aJ prog 30 (.adr i o) 2=some (.adr i (o+4)):=by kernel_rfl
@[go_sem] theorem aZ4(i o:Nat):aJ prog 61 (.adr i o) 0=some (.adr i (o+0)):=by kernel_rfl
@[go_sem] theorem aZa(i o:Nat):aJ prog 61 (.adr i o) 1=some (.adr i (o+1)):=by kernel_rfl
@[go_sem] theorem bCb(H:aG)(x0 x1 x2:AV)(xs:List AV):bP prog H 106 (.ptr (x0::x1::x2::xs))=some (.agg [x0,x1,x2]):=by kernel_rfl
@[go_sem] theorem bF2(H:aG)(x0 x1 x2:AV)(xs:List AV):bP prog H 23 (.ptr (x0::x1::x2::xs))=some (.agg [x0,x1,x2]):=by kernel_rfl
@[go_sem] theorem bFb(H:aG)(x:AV)(xs:List AV):bP prog H 28 (.ptr (x::xs))=some x:=by kernel_rfl
@[go_sem] theorem bIn(H:aG)(x:AV)(xs:List AV):bP prog H 3 (.ptr (x::xs))=some x:=by kernel_rfl
@[go_sem] theorem bFh(H:aG)(x0 x1 x2 x3 x4:AV)(xs:List AV):bP prog H 30 (.ptr (x0::x1::x2::x3::x4::xs))=some (.agg [x0,x1,x2,x3,x4]):=by kernel_rfl
@[go_sem] theorem bIs(H:aG)(x:AV)(xs:List AV):bP prog H 4 (.ptr (x::xs))=some x:=by kernel_rfl
@[go_sem] theorem bFx(H:aG)(x0 x1 x2:AV)(xs:List AV):bP prog H 61 (.ptr (x0::x1::x2::xs))=some (.agg [x0,x1,x2]):=by kernel_rfl
abbrev fZ(rec1:aT→aE→aE→List aC→List bG→Int→Int→Option (aE×(List aC)×Bool))(c_3:aT)(t6:aE)(zF:aE)(rP:List aC)(t33:List bG)(t34:Int)(t35:Int):Option (aE×(List aC)×Bool):=
 rec1 c_3 t6 zF rP t33 t34 (IntKind.i64.wrap (t35+1))
def eF(rec1:aT→aE→aE→List aC→List bG→Int→Int→Option (aE×(List aC)×Bool))(c_3:aT)(t6:aE)(zF:aE)(rP:List aC)(t33:List bG)(t34:Int)(t35:Int):Option (aE×(List aC)×Bool):=
 (bif (decide (t35<t34)) then
  ((idx t33 t35).bind fun x9=>
  (bif x9.Gone then
   ((kX zF x9.U x9.V).bind fun ⟨r11,r12⟩=>
   ((nY c_3.N rP x9.U x9.V).bind fun ⟨r14,r15⟩=>
   fZ rec1 c_3 t6 r11 r14 t33 t34 t35))
  else
   ((kY zF x9.U x9.V).bind fun ⟨r17,r18⟩=>
   ((wE c_3.N rP x9.U x9.V).bind fun ⟨r20,r21⟩=>
   fZ rec1 c_3 t6 r17 r20 t33 t34 t35))))
 else
  some (zF,rP,true))
def dF:Nat→aT→aE→aE→List aC→List bG→Int→Int→Option (aE×(List aC)×Bool)
 |0=>fun _ _ _ _ _ _ _=>none
 |n+1=>eF (dF n)
def jD(c_0:aT)(lR:List bS)(yZ:List bG):Option (aE×(List aC)×Bool):=
 ((vT c_0 yZ).bind fun r2=>
 ((sF c_0 lR).bind fun ⟨r4,r5⟩=>
 (bif ((decide (r2<0))||(r5 !=0)) then
  some ((aE.mk (aT.mk 0 0 0) [] []),[],false)
 else
  ((slc yZ 0 r2).bind fun l7=>
  dF aZ c_0 (aE.mk (aT.mk 0 0 0) [] []) r4 [] l7 (l7.length:Int) 0))))
theorem tX{c_0:aT}{lR:List bS}{yZ:List bG}{r:aE×(List aC)×Bool}(hm:jD c_0 lR yZ=some r):bH prog 19 [.agg [vi c_0.N,vi c_0.L,vi c_0.R],vl bC lR,vl bQ yZ] (.tup [.agg [vi r.1.Config.N,vi r.1.Config.L,vi r.1.Config.R,vl bC r.1.Hashes,vl aH r.1.Edges],vl aH r.2.1,vb r.2.2]):=by
 refine bd 84 func19 ?_;obtain ⟨r2,h1,hm⟩:=bnd hm;refine W ?_;refine cq (aLe h1) ?_;refine W ?_;obtain ⟨⟨r4,r5⟩,h3,hm⟩:=bnd hm;refine cq (aFz h3) ?_;refine W ?_;refine cm hm (fun hm=>?_) fun hm=>?_
 · refine W ?_;refine bU (.agg [vi 0,vi 0,vi 0,.v (.slice none 0 0),.v (.slice none 0 0)]) ?_;exact E
 obtain ⟨l7,h6,hm⟩:=bnd hm;refine W ?_;refine lp (fun m s=> ∃c_3 t6 zF rP t33 t34 t35,s=⟨84,(aD (aD (aD (aD (aD (aD (aD fa 3 (.adr 1 0)) 6 (.adr 2 0)) 10 (.adr 3 0)) 12 (vl aH rP)) 33 (vl bQ t33)) 34 (vi t34)) 35 (vi t35)),⟨(upd (upd (upd aV 1 (.cells 1 [vi c_3.N,vi c_3.L,vi c_3.R] 0)) 2 (.cells 1 [vi t6.Config.N,vi t6.Config.L,vi t6.Config.R,vl bC t6.Hashes,vl aH t6.Edges] 0)) 3 (.cells 1 [vi zF.Config.N,vi zF.Config.L,vi zF.Config.R,vl bC zF.Hashes,vl aH zF.Edges] 0)),64⟩⟩∧dF m c_3 t6 zF rP t33 t34 t35=some r) ?_ ?_
 · refine ⟨_,?_,c_0,(aE.mk (aT.mk 0 0 0) [] []),r4,[],l7,(l7.length:Int),0,rfl,hm⟩;refine St.Le.trans (bCj 12 (.sl [] 0 false) (fun H=>tdn Z1)) ?_;refine St.Le.trans (bCj 33 (.sl (l7.flatMap bQ) l7.length false) (fun H=>(tdf Z1 (nH.sl _ _ _)))) ?_;refine St.Le.trans (aAc 1 (ys:=[.v (.int .i64 (((aE.mk (aT.mk 0 0 0) [] []).Config).N)),.v (.int .i64 (((aE.mk (aT.mk 0 0 0) [] []).Config).L)),.v (.int .i64 (((aE.mk (aT.mk 0 0 0) [] []).Config).R)),.sl (((aE.mk (aT.mk 0 0 0) [] []).Hashes).flatMap bC) ((aE.mk (aT.mk 0 0 0) [] []).Hashes).length false,.sl (((aE.mk (aT.mk 0 0 0) [] []).Edges).flatMap aH) ((aE.mk (aT.mk 0 0 0) [] []).Edges).length false]) Z3 (.cons (.data _ (.v _)) (.cons (.data _ (.v _)) (.cons (.data _ (.v _)) (.cons (.nil false) (.cons (.nil false) .nil)))))) ?_;exact cn (fun j=>bif j==1 then 0 else bif j==2 then 1 else bif j==3 then 134 else 0)
 rintro n1 s ⟨c_3,t6,zF,rP,t33,t34,t35,rfl,hm⟩;refine W ?_;refine cm hm (fun hm=>?_) fun hm=>?_
 ·
  refine V ?_;refine AWp.seqJ (fun s=> ∃c_3 t6 zF rP t33 t34 t35,s=⟨84,(aD (aD (aD (aD (aD (aD (aD fa 3 (.adr 1 0)) 6 (.adr 2 0)) 10 (.adr 3 0)) 12 (vl aH rP)) 33 (vl bQ t33)) 34 (vi t34)) 35 (vi t35)),⟨(upd (upd (upd aV 1 (.cells 1 [vi c_3.N,vi c_3.L,vi c_3.R] 0)) 2 (.cells 1 [vi t6.Config.N,vi t6.Config.L,vi t6.Config.R,vl bC t6.Hashes,vl aH t6.Edges] 0)) 3 (.cells 1 [vi zF.Config.N,vi zF.Config.L,vi zF.Config.R,vl bC zF.Hashes,vl aH zF.Edges] 0)),64⟩⟩∧fZ (dF n1) c_3 t6 zF rP t33 t34 t35=some r) ?_ ?_
  ·
   obtain ⟨x9,h8,hm⟩:=bnd hm;refine W ?_;refine cm hm (fun hm=>?_) fun hm=>?_
   · refine W ?_;obtain ⟨⟨r11,r12⟩,h10,hm⟩:=bnd hm;refine cq (aEv h10) ?_;refine W ?_;obtain ⟨⟨r14,r15⟩,h13,hm⟩:=bnd hm;refine cq (aEi h13) ?_;refine W ?_;exact Lr (fun j=>bif j==1 then 1 else bif j==2 then 2 else bif j==3 then 3 else 0)
   refine W ?_;obtain ⟨⟨r17,r18⟩,h16,hm⟩:=bnd hm;refine cq (aEw h16) ?_;refine W ?_;obtain ⟨⟨r20,r21⟩,h19,hm⟩:=bnd hm;refine cq (aLy h19) ?_;refine W ?_;exact Lr (fun j=>bif j==1 then 1 else bif j==2 then 2 else bif j==3 then 3 else 0)
  rintro s ⟨c_3,t6,zF,rP,t33,t34,t35,rfl,hm⟩;refine W ?_;exact Lr (fun j=>bif j==1 then 1 else bif j==2 then 2 else bif j==3 then 3 else 0)
 exact E
instance:Ct prog 19 (K3 prog aAl (vl bC) (vl bQ) (t3 bW (vl aH) vb) 19 jD):=⟨fun hm=>tX hm⟩
def iF:Option (Bool):=
 ((yO bBd [7,1,9,2]).bind fun r2=>
 some (decide (r2=⟨#[111,107,10,111,107,10,111,107,10,111,107,10,111,107,10,121,101,115,10,110,111,10,121,101,115,10,50,10]⟩)))
theorem oU{r:Bool}(hm:iF=some r):bH prog 11 [] (vb r):=by
 refine bd 6 func11 ?_;refine W ?_;refine aL (CFi .u64) [7,1,9,2] ?_;obtain ⟨r2,h1,hm⟩:=bnd hm;refine aR.callB (r:= .v (.string r2)) Zd Z1 bR4 (.cons (ltd fun H=>(td Z1 (.v _))) (.cons (lto (CFi .u64) Z1 Z3 Z6) aTa.nil)) bLc (aJg h1) ?_;exact E
instance:Ct prog 11 (K0 prog vb 11 iF):=⟨fun hm=>oU hm⟩
abbrev qF(rec2:aT→aE→List aC→List Int→List Int→Int→List aC→Int→Int→Option (Bool))(c_3:aT)(g_7:aE)(lG:List aC)(tI:List Int)(qD:List Int)(fD:Int)(t52:List aC)(t53:Int)(t54:Int):Option (Bool):=
 rec2 c_3 g_7 lG tI qD fD t52 t53 (IntKind.i64.wrap (t54+1))
def uZ(rec2:aT→aE→List aC→List Int→List Int→Int→List aC→Int→Int→Option (Bool))(c_3:aT)(g_7:aE)(lG:List aC)(tI:List Int)(qD:List Int)(fD:Int)(t52:List aC)(t53:Int)(t54:Int):Option (Bool):=
 (bif (decide (t54<t53)) then
  ((idx t52 t54).bind fun x18=>
  ((dT (((tI.length:Int) !=c_3.N)==false) 0 (idx tI x18.U)).bind fun x20=>
  ((dT (((tI.length:Int) !=c_3.N)==false) 0 (idx tI x18.V)).bind fun x22=>
  (bif (((tI.length:Int) !=c_3.N)||(x20 !=x22)) then
   qF rec2 c_3 g_7 lG tI qD (IntKind.i64.wrap (fD+1)) t52 t53 t54
  else
   qF rec2 c_3 g_7 lG tI qD fD t52 t53 t54))))
 else
  ((kR tI qD).bind fun r24=>
  ((dT (r24==true) false (rC g_7)).bind fun r26=>
  ((dT ((r24&&r26)==true) false (mR g_7)).bind fun r28=>
  ((dT ((((r24&&r26)&&(r28==(fD==0)))&&((g_7.Edges.length:Int)==(lG.length:Int)))==true) false (iF)).bind fun r30=>
  some ((((r24&&r26)&&(r28==(fD==0)))&&((g_7.Edges.length:Int)==(lG.length:Int)))&&r30))))))
def jG:Nat→aT→aE→List aC→List Int→List Int→Int→List aC→Int→Int→Option (Bool)
 |0=>fun _ _ _ _ _ _ _ _ _=>none
 |n+1=>uZ (jG n)
def uY(rec1:aT→aE→List aC→List Int→List Int→List aC→Int→Int→Option (Bool))(c_3:aT)(g_7:aE)(lG:List aC)(tI:List Int)(qD:List Int)(t38:List aC)(t39:Int)(t40:Int):Option (Bool):=
 (bif (decide (t40<t39)) then
  ((idx t38 t40).bind fun x14=>
  ((lZ lG x14.U x14.V).bind fun r16=>
  (bif (decide (r16<0)) then
   some false
  else
   rec1 c_3 g_7 lG tI qD t38 t39 (IntKind.i64.wrap (t40+1)))))
 else
  jG aZ c_3 g_7 lG tI qD 0 lG (lG.length:Int) 0)
def lO:Nat→aT→aE→List aC→List Int→List Int→List aC→Int→Int→Option (Bool)
 |0=>fun _ _ _ _ _ _ _ _=>none
 |n+1=>uY (lO n)
def nM(c_0:aT)(lR:List bS)(yZ:List bG):Option (Bool):=
 ((jD c_0 lR yZ).bind fun ⟨r2,r3,r4⟩=>
 (bif (!r4) then
  ((iF).bind fun r6=>
  some r6)
 else
  ((jV r2).bind fun r8=>
  ((aAh c_0.N r3).bind fun r10=>
  ((nX r2.Edges c_0.L).bind fun r12=>
  lO aZ c_0 r2 r3 r8 r10 r12 (r12.length:Int) 0)))))
theorem aEa{c_0:aT}{lR:List bS}{yZ:List bG}{r:Bool}(hm:nM c_0 lR yZ=some r):bH prog 4 [.agg [vi c_0.N,vi c_0.L,vi c_0.R],vl bC lR,vl bQ yZ] (vb r):=by
 refine bd 104 func4 ?_;refine W ?_;obtain ⟨⟨r2,r3,r4⟩,h1,hm⟩:=bnd hm;refine cq (tX h1) ?_;refine W ?_;refine cm hm (fun hm=>?_) fun hm=>?_
 · obtain ⟨r6,h5,hm⟩:=bnd hm;refine W ?_;refine cq (oU h5) ?_;exact E
 obtain ⟨r8,h7,hm⟩:=bnd hm;refine W ?_;refine cq (aJl h7) ?_;obtain ⟨r10,h9,hm⟩:=bnd hm;refine W ?_;refine cq (aOh h9) ?_;obtain ⟨r12,h11,hm⟩:=bnd hm;refine W ?_;refine cq (aEh h11) ?_;refine W ?_;refine lp (fun m s=> ∃c_3 g_7 lG tI qD t38 t39 t40,s=⟨104,(aD (aD (aD (aD (aD (aD (aD (aD fa 3 (.adr 1 0)) 7 (.adr 2 0)) 8 (vl aH lG)) 10 (vl (ci .i64) tI)) 11 (vl (ci .i64) qD)) 38 (vl aH t38)) 39 (vi t39)) 40 (vi t40)),⟨(upd (upd aV 1 (.cells 1 [vi c_3.N,vi c_3.L,vi c_3.R] 0)) 2 (.cells 1 [vi g_7.Config.N,vi g_7.Config.L,vi g_7.Config.R,vl bC g_7.Hashes,vl aH g_7.Edges] 0)),64⟩⟩∧lO m c_3 g_7 lG tI qD t38 t39 t40=some r) (Lr (fun j=>bif j==1 then 0 else bif j==2 then 72 else 0)) ?_;rintro n1 s ⟨c_3,g_7,lG,tI,qD,t38,t39,t40,rfl,hm⟩;refine W ?_;refine cm hm (fun hm=>?_) fun hm=>?_
 ·
  obtain ⟨x14,h13,hm⟩:=bnd hm;obtain ⟨r16,h15,hm⟩:=bnd hm;refine W ?_;refine cq (yL h15) ?_;refine W ?_;refine cm hm (fun hm=>?_) fun hm=>?_
  · exact E
  refine W ?_;exact Lr (fun j=>bif j==1 then 1 else bif j==2 then 2 else 0)
 refine W ?_;refine lp (fun m s=> ∃c_3 g_7 lG tI qD fD t52 t53 t54,s=⟨104,(aD (aD (aD (aD (aD (aD (aD (aD (aD fa 3 (.adr 1 0)) 7 (.adr 2 0)) 8 (vl aH lG)) 10 (vl (ci .i64) tI)) 11 (vl (ci .i64) qD)) 14 (vi fD)) 52 (vl aH t52)) 53 (vi t53)) 54 (vi t54)),⟨(upd (upd aV 1 (.cells 1 [vi c_3.N,vi c_3.L,vi c_3.R] 0)) 2 (.cells 1 [vi g_7.Config.N,vi g_7.Config.L,vi g_7.Config.R,vl bC g_7.Hashes,vl aH g_7.Edges] 0)),64⟩⟩∧jG m c_3 g_7 lG tI qD fD t52 t53 t54=some r) (Lr (fun j=>bif j==1 then 1 else bif j==2 then 2 else 0)) ?_;rintro n2 s ⟨c_3,g_7,lG,tI,qD,fD,t52,t53,t54,rfl,hm⟩;refine W ?_;refine cm hm (fun hm=>?_) fun hm=>?_
 ·
  refine V ?_;refine AWp.seqJ (fun s=> ∃c_3 g_7 lG tI qD fD t52 t53 t54,s=⟨104,(aD (aD (aD (aD (aD (aD (aD (aD (aD fa 3 (.adr 1 0)) 7 (.adr 2 0)) 8 (vl aH lG)) 10 (vl (ci .i64) tI)) 11 (vl (ci .i64) qD)) 14 (vi fD)) 52 (vl aH t52)) 53 (vi t53)) 54 (vi t54)),⟨(upd (upd aV 1 (.cells 1 [vi c_3.N,vi c_3.L,vi c_3.R] 0)) 2 (.cells 1 [vi g_7.Config.N,vi g_7.Config.L,vi g_7.Config.R,vl bC g_7.Hashes,vl aH g_7.Edges] 0)),64⟩⟩∧qF (jG n2) c_3 g_7 lG tI qD fD t52 t53 t54=some r) ?_ ?_
  ·
   obtain ⟨x18,h17,hm⟩:=bnd hm;obtain ⟨x20,h19,hm⟩:=bnd hm;obtain ⟨x22,h21,hm⟩:=bnd hm;refine W ?_;refine cm hm (fun hm=>?_) fun hm=>?_
   · refine W ?_;exact Lr (fun j=>bif j==1 then 1 else bif j==2 then 2 else 0)
   refine W ?_;exact Lr (fun j=>bif j==1 then 1 else bif j==2 then 2 else 0)
  rintro s ⟨c_3,g_7,lG,tI,qD,fD,t52,t53,t54,rfl,hm⟩;refine W ?_;exact Lr (fun j=>bif j==1 then 1 else bif j==2 then 2 else 0)
 obtain ⟨r24,h23,hm⟩:=bnd hm;refine W ?_;refine cq (aEg h23) ?_;obtain ⟨r26,h25,hm⟩:=bnd hm;refine W ?_;refine cg (fun hb=>aH8 (eJ h25 hb)) ?_;obtain ⟨r28,h27,hm⟩:=bnd hm;refine W ?_;refine cg (fun hb=>aG7 (eJ h27 hb)) ?_;obtain ⟨r30,h29,hm⟩:=bnd hm;refine W ?_;refine cg (fun hb=>oU (eJ h29 hb)) ?_;exact E
instance:Ct prog 4 (K3 prog aAl (vl bC) (vl bQ) vb 4 nM):=⟨fun hm=>aEa hm⟩
attribute [local semireducible] aZ
end Go.Proofs.YtkdohhmacfoolaaGreatDoor
