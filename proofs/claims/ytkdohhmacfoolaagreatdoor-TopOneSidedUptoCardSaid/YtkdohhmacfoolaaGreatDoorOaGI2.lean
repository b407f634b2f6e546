/- Facts. No condition. -/
import Derived.Test.YtkdohhmacfoolaaGreatDoorOaGI1
set_option linter.unusedVariables false
set_option linter.unusedSimpArgs false
set_option maxRecDepth 20000
set_option maxHeartbeats 4000000
namespace Go.Proofs.YtkdohhmacfoolaaGreatDoor
open Go.Proofs.Tryz Go Go.AM
attribute [local irreducible] aZ
structure aM where
 List:List Int
 At:Int
deriving DecidableEq
def xR(e:aM):List AV:=[.sl (e.List.flatMap (ci .u64)) e.List.length false,.v (.int .i64 e.At)]
theorem aOw:CF xR 2:=⟨fun _=>rfl,fun a x hx=>by
 simp only [xR,List.mem_cons,List.not_mem_nil,or_false] at hx;rcases hx with rfl|rfl
 · exact ((CFi .u64).sl _ _ _)
 · exact (.v _),fun _=>rfl⟩
instance:CC xR 2:=⟨aOw⟩
abbrev iB(e:aM):AV:= .agg [vl (ci .u64) e.List,vi e.At]
@[go_sem] theorem aJs(e:aM)(r:List AV):xR e++r= .sl (e.List.flatMap (ci .u64)) e.List.length false:: .v (.int .i64 e.At)::r:=rfl
structure aF where
 State:aI
 Words:aM
 On:Bool
deriving DecidableEq
def oJ(e:aF):List AV:=[.v (.int .i64 e.State.Graph.Config.N),.v (.int .i64 e.State.Graph.Config.L),.v (.int .i64 e.State.Graph.Config.R),.sl (e.State.Graph.Hashes.flatMap bC) e.State.Graph.Hashes.length false,.sl (e.State.Graph.Edges.flatMap aH) e.State.Graph.Edges.length false,.sl (e.State.Slots.flatMap aU) e.State.Slots.length false,.sl (e.Words.List.flatMap (ci .u64)) e.Words.List.length false,.v (.int .i64 e.Words.At),.v (.bool e.On)]
theorem aHv:CF oJ 9:=⟨fun _=>rfl,fun a x hx=>by
 simp only [oJ,List.mem_cons,List.not_mem_nil,or_false] at hx;rcases hx with rfl|rfl|rfl|rfl|rfl|rfl|rfl|rfl|rfl
 · exact (.v _)
 · exact (.v _)
 · exact (.v _)
 · exact (jW.sl _ _ _)
 · exact (bJ.sl _ _ _)
 · exact (cY.sl _ _ _)
 · exact ((CFi .u64).sl _ _ _)
 · exact (.v _)
 · exact (.v _),fun _=>rfl⟩
instance:CC oJ 9:=⟨aHv⟩
abbrev iM(e:aF):AV:= .agg [.v (.int .i64 e.State.Graph.Config.N),vi e.State.Graph.Config.L,vi e.State.Graph.Config.R,vl bC e.State.Graph.Hashes,vl aH e.State.Graph.Edges,vl aU e.State.Slots,vl (ci .u64) e.Words.List,vi e.Words.At,vb e.On]
@[go_sem] theorem aE6(e:aF)(r:List AV):oJ e++r= .v (.int .i64 e.State.Graph.Config.N):: .v (.int .i64 e.State.Graph.Config.L):: .v (.int .i64 e.State.Graph.Config.R):: .sl (e.State.Graph.Hashes.flatMap bC) e.State.Graph.Hashes.length false:: .sl (e.State.Graph.Edges.flatMap aH) e.State.Graph.Edges.length false:: .sl (e.State.Slots.flatMap aU) e.State.Slots.length false:: .sl (e.Words.List.flatMap (ci .u64)) e.Words.List.length false:: .v (.int .i64 e.Words.At):: .v (.bool e.On)::r:=rfl
@[go_sem] theorem aY4(i o:Nat):aJ prog 23 (.adr i o) 0=some (.adr i (o+0)):=by kernel_rfl
@[go_sem] theorem aY9(i o:Nat):aJ prog 23 (.adr i o) 1=some (.adr i (o+1)):=by kernel_rfl
@[go_sem] theorem aYe(i o:Nat):aJ prog 23 (.adr i o) 2=some (.adr i (o+2)):=by kernel_rfl
@[go_sem] theorem aYs(i o:Nat):aJ prog 35 (.adr i o) 0=some (.adr i (o+0)):=by kernel_rfl
@[go_sem] theorem aYt(i o:Nat):aJ prog 35 (.adr i o) 1=some (.adr i (o+1)):=by kernel_rfl
@[go_sem] theorem aYw(i o:Nat):aJ prog 42 (.adr i o) 1=some (.adr i (o+1)):=by kernel_rfl
@[go_sem] theorem aYy(i o:Nat):aJ prog 42 (.adr i o) 2=some (.adr i (o+2)):=by kernel_rfl
@[go_sem] theorem aZf(i o:Nat):aJ prog 68 (.adr i o) 0=some (.adr i (o+0)):=by kernel_rfl
@[go_sem] theorem aZg(i o:Nat):aJ prog 68 (.adr i o) 1=some (.adr i (o+6)):=by kernel_rfl
@[go_sem] theorem aZh(i o:Nat):aJ prog 68 (.adr i o) 2=some (.adr i (o+8)):=by kernel_rfl
@[go_sem] theorem bF1(H:aG)(x0 x1 x2:AV)(xs:List AV):bP prog H 23 (.ptr (x0::x1::x2::xs))=some (.agg [x0,x1,x2]):=by kernel_rfl
@[go_sem] theorem bF4(H:aG)(x:AV)(xs:List AV):bP prog H 24 (.ptr (x::xs))=some x:=by kernel_rfl
@[go_sem] theorem bIm(H:aG)(x:AV)(xs:List AV):bP prog H 3 (.ptr (x::xs))=some x:=by kernel_rfl
@[go_sem] theorem bFg(H:aG)(x0 x1 x2 x3 x4:AV)(xs:List AV):bP prog H 30 (.ptr (x0::x1::x2::x3::x4::xs))=some (.agg [x0,x1,x2,x3,x4]):=by kernel_rfl
@[go_sem] theorem bFk(H:aG)(x0 x1 x2 x3 x4 x5:AV)(xs:List AV):bP prog H 33 (.ptr (x0::x1::x2::x3::x4::x5::xs))=some (.agg [x0,x1,x2,x3,x4,x5]):=by kernel_rfl
@[go_sem] theorem bFl(H:aG)(x0 x1:AV)(xs:List AV):bP prog H 35 (.ptr (x0::x1::xs))=some (.agg [x0,x1]):=by kernel_rfl
@[go_sem] theorem bIr(H:aG)(x:AV)(xs:List AV):bP prog H 4 (.ptr (x::xs))=some x:=by kernel_rfl
@[go_sem] theorem bFq(H:aG)(x:AV)(xs:List AV):bP prog H 40 (.ptr (x::xs))=some x:=by kernel_rfl
@[go_sem] theorem bFs(H:aG)(x0 x1 x2 x3:AV)(xs:List AV):bP prog H 42 (.ptr (x0::x1::x2::x3::xs))=some (.agg [x0,x1,x2,x3]):=by kernel_rfl
@[go_sem] theorem bFy(H:aG)(x0 x1 x2 x3 x4 x5 x6 x7 x8:AV)(xs:List AV):bP prog H 68 (.ptr (x0::x1::x2::x3::x4::x5::x6::x7::x8::xs))=some (.agg [x0,x1,x2,x3,x4,x5,x6,x7,x8]):=by kernel_rfl
@[go_sem] theorem bIv(H:aG)(x:AV)(xs:List AV):bP prog H 9 (.ptr (x::xs))=some x:=by kernel_rfl
@[go_sem] theorem aU9(H:aG)(k:IntKind)(n:Int):qI prog H 21 40 (.v (.int k n))=some (.v (.int .u64 (IntKind.u64.wrap n))):=iJ underlying21 underlying40
@[go_sem] theorem aXo(H:aG)(k:IntKind)(n:Int):qI prog H 40 3 (.v (.int k n))=some (.v (.int .i64 (IntKind.i64.wrap n))):=iJ underlying40 underlying3
def aBu(s_0:aF)(c_1:dN):Option (aF×ByteArray):=
 (bif (!s_0.On) then
  ((fW (GA.i 36 .i64 3)).bind fun r2=>
  some (s_0,r2))
 else
  ((aIa s_0.State c_1).bind fun ⟨r4,r5⟩=>
  ((fW r5).bind fun r7=>
  some ((aF.mk r4 s_0.Words s_0.On),r7))))
theorem aHc{s_0:aF}{c_1:dN}{r:aF×ByteArray}(hm:aBu s_0 c_1=some r):bH prog 62 [.agg [vi s_0.State.Graph.Config.N,vi s_0.State.Graph.Config.L,vi s_0.State.Graph.Config.R,vl bC s_0.State.Graph.Hashes,vl aH s_0.State.Graph.Edges,vl aU s_0.State.Slots,vl (ci .u64) s_0.Words.List,vi s_0.Words.At,vb s_0.On],.agg [vi c_1.Do,vu c_1.A,vu c_1.B,.v (.string c_1.Text)]] (.tup [.agg [vi r.1.State.Graph.Config.N,vi r.1.State.Graph.Config.L,vi r.1.State.Graph.Config.R,vl bC r.1.State.Graph.Hashes,vl aH r.1.State.Graph.Edges,vl aU r.1.State.Slots,vl (ci .u64) r.1.Words.List,vi r.1.Words.At,vb r.1.On],.v (.string r.2)]):=by
 refine bd 26 func62 ?_;refine W ?_;refine cm hm (fun hm=>?_) fun hm=>?_
 · obtain ⟨r2,h1,hm⟩:=bnd hm;refine W ?_;refine cq (hY h1) ?_;exact E
 refine W ?_;obtain ⟨⟨r4,r5⟩,h3,hm⟩:=bnd hm;refine cq (aOa h3) ?_;obtain ⟨r7,h6,hm⟩:=bnd hm;refine W ?_;refine cq (hY h6) ?_;exact E
instance:Ct prog 62 (K2 prog iM mP (t2 iM vs) 62 aBu):=⟨fun hm=>aHc hm⟩
def aBe(rec2:Int→ByteArray→Nat→Option (Int×Int))(n_6:Int)(t33s:ByteArray)(t33p:Nat):Option (Int×Int):=
 (bif (decide (t33p<t33s.size)) then
  (bif (decide ((IntKind.u64.wrap (Int.tdiv (IntKind.u64.wrap (18446744073709551615-(IntKind.u64.wrap (IntKind.i32.wrap ((((Utf8.decode t33s t33p).1:Nat):Int)-48))))) 10))<n_6)) then
   some (0,6)
  else
   rec2 (IntKind.u64.wrap ((IntKind.u64.wrap (n_6*10))+(IntKind.u64.wrap (IntKind.i32.wrap ((((Utf8.decode t33s t33p).1:Nat):Int)-48))))) t33s (t33p+(Utf8.decode t33s t33p).2))
 else
  some (n_6,0))
def uF:Nat→Int→ByteArray→Nat→Option (Int×Int)
 |0=>fun _ _ _=>none
 |n+1=>aBe (uF n)
def aBd(rec1:ByteArray→ByteArray→Nat→Option (Int×Int))(dK:ByteArray)(t22s:ByteArray)(t22p:Nat):Option (Int×Int):=
 (bif (decide (t22p<t22s.size)) then
  (bif ((decide ((((Utf8.decode t22s t22p).1:Nat):Int)<48))||(decide (57<(((Utf8.decode t22s t22p).1:Nat):Int)))) then
   some (0,2)
  else
   rec1 dK t22s (t22p+(Utf8.decode t22s t22p).2))
 else
  uF aZ 0 dK 0)
def uE:Nat→ByteArray→ByteArray→Nat→Option (Int×Int)
 |0=>fun _ _ _=>none
 |n+1=>aBd (uE n)
def yC(dK:ByteArray):Option (Int×Int):=
 ((dT ((decide (dK=⟨#[]⟩))==false) 0 (bDi dK 0)).bind fun b2=>
 (bif ((decide (dK=⟨#[]⟩))||((b2==48)&&(!decide (dK=⟨#[48]⟩)))) then
  some (0,2)
 else
  uE aZ dK dK 0))
theorem aJ9{dK:ByteArray}{r:Int×Int}(hm:yC dK=some r):bH prog 110 [.v (.string dK)] (.tup [.v (.int .u64 r.1),.v (.int .i64 r.2)]):=by
 refine bH.of_body func110 rfl ?_;simp only [ntmps110,List.length_cons,List.length_nil,Nat.reduceAdd,Nat.reduceSub,eE];unfold yC at hm;refine sr (N':=64) rfl ?_
 iterate 2 refine pA ?_
 refine fs ?_;refine AWp.seq' ?_;refine sr (N':=128) rfl ?_
 iterate 4 first|refine pA ?_|refine pB ?_
 obtain ⟨b2,h1,hm⟩:=bnd hm;refine pg rfl rfl Z2 (fun hb=>(aW8 underlying9 (Zh hb) (Zh hb) (eJ h1 hb))) ?_
 iterate 6 first|refine pA ?_|refine pB ?_
 refine fs ?_;refine AWp.condM hm Z1 (fun _ hm=>?_) (fun _ hm=>?_)
 ·
  refine sr (N':=192) rfl ?_
  iterate 2 refine pA ?_
  refine fs ?_;refine AWp.ret ?_;refine gD ?_;cases hm;exact aAj (.inr rfl) Tryz.results110 (td Z1 (.v _)) (td Z1 (.v _))
 ·
  refine AWp.skip ?_;refine bI ?_;refine AWp.seq' ?_;refine sr (N':=192) rfl ?_;refine pA ?_;refine hp (id:=129) rfl rfl (aCg underlying9 Z1 Z5) ?_;refine fs ?_;refine AWp.block ?_;refine AWp.loopM (fun m s=> ∃(dK:ByteArray) (t22s:ByteArray) (t22p:Nat),s=(⟨50,(aD (aD (fun _=>AV.any) 0 (.v (.string dK))) 22 (.adr 1 0)),⟨(upd aV 1 (.iter t22s t22p)),64⟩⟩:St)∧uE m dK t22s t22p=some r) aZ ?_ ?_ ?_
  · rintro s ⟨_,_,_,_,h⟩;cases h
  · refine ⟨_,?_,dK,dK,0,rfl,hm⟩;exact cA (fun j=>bif j==1 then 129 else 0) (bD _ _ (rK Z1 rfl Z7) (wV dA)) (hW (cM (fP Z3) cH))
  ·
   rintro n1 s ⟨dK,t22s,t22p,rfl,hm⟩;replace hm:aBd (uE n1) dK t22s t22p=some r:=hm;unfold aBd at hm;refine sr (N':=128) rfl ?_;refine aQp hm (fun h3 hm=>?_) (fun h3 hm=>?_)
   ·
    refine hp (id:=64) rfl rfl (vB Z1 Z3 (of_decide_eq_true h3)) ?_;refine pA ?_;refine fs ?_;refine AWp.seq' ?_;refine AWp.condT Z1 ?_;refine AWp.skip ?_;refine bI ?_;refine AWp.block ?_;refine sr (N':=192) rfl ?_
    iterate 2 refine pA ?_
    refine fs ?_;refine sr (N':=256) rfl ?_
    iterate 6 first|refine pA ?_|refine pB ?_
    refine fs ?_;refine AWp.condM hm Z1 (fun _ hm=>?_) (fun _ hm=>?_)
    ·
     refine sr (N':=320) rfl ?_
     iterate 2 refine pA ?_
     refine fs ?_;refine AWp.ret ?_;refine rA ?_;refine rB ?_;refine rA ?_;refine gD ?_;cases hm;exact aAj (.inr rfl) Tryz.results110 (td Z1 (.v _)) (td Z1 (.v _))
    · refine AWp.skip ?_;refine fY ?_;refine eX ?_;refine ⟨_,?_,dK,t22s,(t22p+(Utf8.decode t22s t22p).2),rfl,hm⟩;exact cA (fun j=>bif j==1 then 1 else 0) (bD _ _ (rK Z1 rfl Z7) (wV dA)) (hW (cM (fP Z3) cH))
   ·
    refine hp (id:=64) rfl rfl (zA Z1 Z3 (of_decide_eq_false h3)) ?_;refine pA ?_;refine fs ?_;refine AWp.seq' ?_;refine AWp.condF Z1 ?_;refine AWp.exit ?_;refine gX ?_;refine fF ?_;refine fE ?_;refine bI ?_;refine sr (N':=192) rfl ?_;refine pA ?_;refine fs ?_;refine AWp.seq' ?_;refine sr (N':=256) rfl ?_;refine pA ?_;refine hp (id:=193) rfl rfl (aCg underlying9 Z1 Z5) ?_;refine fs ?_;refine AWp.block ?_;refine AWp.loopM (fun m s=> ∃(n_6:Int) (t33s:ByteArray) (t33p:Nat),s=(⟨50,(aD (aD (fun _=>AV.any) 6 (.v (.int .u64 n_6))) 33 (.adr 1 0)),⟨(upd aV 1 (.iter t33s t33p)),64⟩⟩:St)∧uF m n_6 t33s t33p=some r) aZ ?_ ?_ ?_
    · rintro s ⟨_,_,_,_,h⟩;cases h
    · refine ⟨_,?_,0,dK,0,rfl,hm⟩;exact cA (fun j=>bif j==1 then 193 else 0) (bD _ _ (rK Z1 rfl Z7) (wV dA)) (hW (cM (fP Z3) cH))
    ·
     rintro n2 s ⟨n_6,t33s,t33p,rfl,hm⟩;replace hm:aBe (uF n2) n_6 t33s t33p=some r:=hm;unfold aBe at hm;refine sr (N':=128) rfl ?_;refine aQp hm (fun h4 hm=>?_) (fun h4 hm=>?_)
     ·
      refine hp (id:=64) rfl rfl (vB Z1 Z3 (of_decide_eq_true h4)) ?_;refine pA ?_;refine fs ?_;refine AWp.seq' ?_;refine AWp.condT Z1 ?_;refine AWp.skip ?_;refine bI ?_;refine AWp.block ?_;refine sr (N':=192) rfl ?_
      iterate 2 refine pA ?_
      refine fs ?_;refine sr (N':=256) rfl ?_
      iterate 4 refine pA ?_
      refine fs ?_;refine AWp.seq' ?_;refine sr (N':=320) rfl ?_
      iterate 5 refine pu rfl Zj ?_
      refine fs ?_;refine AWp.condM hm Z1 (fun _ hm=>?_) (fun _ hm=>?_)
      ·
       refine sr (N':=384) rfl ?_
       iterate 2 refine pA ?_
       refine fs ?_;refine AWp.ret ?_;refine gD ?_;refine rA ?_;refine rB ?_;refine rA ?_;refine gD ?_;cases hm;exact aAj (.inr rfl) Tryz.results110 (td Z1 (.v _)) (td Z1 (.v _))
      ·
       refine AWp.skip ?_;refine bI ?_;refine AWp.reg 64 (N':=384) rfl ?_
       iterate 5 refine pA ?_
       refine aR.fin ?_;refine fY ?_;refine eX ?_;refine ⟨_,?_,(IntKind.u64.wrap ((IntKind.u64.wrap (n_6*10))+(IntKind.u64.wrap (IntKind.i32.wrap ((((Utf8.decode t33s t33p).1:Nat):Int)-48))))),t33s,(t33p+(Utf8.decode t33s t33p).2),rfl,hm⟩;exact cA (fun j=>bif j==1 then 1 else 0) (bD _ _ (rK Z1 rfl Z7) (wV dA)) (hW (cM (fP Z3) cH))
     ·
      refine hp (id:=64) rfl rfl (zA Z1 Z3 (of_decide_eq_false h4)) ?_;refine pA ?_;refine fs ?_;refine AWp.seq' ?_;refine AWp.condF Z1 ?_;refine AWp.exit ?_;refine gX ?_;refine fF ?_;refine fE ?_;refine bI ?_;refine sr (N':=192) rfl ?_
      iterate 3 refine pA ?_
      refine fs ?_;refine AWp.ret ?_;cases hm;exact aAj (.inr rfl) Tryz.results110 (td Z1 (.v _)) (td Z1 (.v _))
instance:Ct prog 110 (K1 prog vs (t2 vu vi) 110 yC):=⟨fun hm=>aJ9 hm⟩
def aIh(rec1:List Int→List ByteArray→Int→Int→Option ((List Int)×Int))(aLs:List Int)(t9:List ByteArray)(t10:Int)(t11:Int):Option ((List Int)×Int):=
 (bif (decide (t11<t10)) then
  ((idx t9 t11).bind fun x2=>
  ((yC x2).bind fun ⟨r4,r5⟩=>
  (bif (r5 !=0) then
   some ([],r5)
  else
   ((app aLs [r4]).bind fun l7=>
   rec1 l7 t9 t10 (IntKind.i64.wrap (t11+1))))))
 else
  some (aLs,0))
def sA:Nat→List Int→List ByteArray→Int→Int→Option ((List Int)×Int)
 |0=>fun _ _ _ _=>none
 |n+1=>aIh (sA n)
def tM(aC5:List ByteArray):Option ((List Int)×Int):=
 sA aZ [] aC5 (aC5.length:Int) 0
theorem aC9{aC5:List ByteArray}{r:(List Int)×Int}(hm:tM aC5=some r):bH prog 63 [vl oO aC5] (.tup [vl (ci .u64) r.1,vi r.2]):=by
 refine bd 29 func63 ?_;refine W ?_;refine lp (fun m s=> ∃aLs t9 t10 t11,s=⟨29,(aD (aD (aD (aD fa 4 (.own 1 0 aLs.length)) 9 (vl oO t9)) 10 (vi t10)) 11 (vi t11)),⟨(upd aV 1 (.cells 1 (aLs.flatMap (ci .u64)) 0)),64⟩⟩∧sA m aLs t9 t10 t11=some r) ?_ ?_
 · refine ⟨_,?_,[],aC5,(aC5.length:Int),0,rfl,hm⟩;refine St.Le.trans (oP 4 900004 1 Z1 Z5) ?_;exact cn (fun j=>bif j==1 then 900004 else 0)
 rintro n1 s ⟨aLs,t9,t10,t11,rfl,hm⟩;refine W ?_;refine cm hm (fun hm=>?_) fun hm=>?_
 ·
  obtain ⟨x2,h1,hm⟩:=bnd hm;refine W ?_;obtain ⟨⟨r4,r5⟩,h3,hm⟩:=bnd hm;refine cq (aJ9 h3) ?_;refine W ?_;refine cm hm (fun hm=>?_) fun hm=>?_
  · exact E
  refine W ?_;refine aL (CFi .u64) [r4] ?_;obtain ⟨l7,h6,hm⟩:=bnd hm;refine W ?_;exact Lr (fun j=>bif j==1 then 323 else 0)
 exact E
instance:Ct prog 63 (K1 prog (vl oO) (t2 (vl (ci .u64)) vi) 63 tM):=⟨fun hm=>aC9 hm⟩
def xW(w_0:aM):Option (Bool):=
 some ((decide (0≤w_0.At))&&(decide (w_0.At≤(w_0.List.length:Int))))
theorem aJ4:K1 prog iB vb 73 xW:=fun hm=>be 14 func73 (h:=G)
instance:Ct prog 73 (K1 prog iB vb 73 xW):=⟨aJ4⟩
def aPi(rec1:aM→aM→Int→Option (Int×aM×Int))(w_1:aM)(t3:aM)(aP9:Int):Option (Int×aM×Int):=
 (bif (decide (aP9<(w_1.List.length:Int))) then
  ((idx w_1.List aP9).bind fun x4=>
  (bif (decide ((aE5 .u64 x4 2305843009213693951)<2305843009213693951)) then
   some ((aE5 .u64 x4 2305843009213693951),(aM.mk w_1.List (IntKind.i64.wrap (aP9+1))),0)
  else
   rec1 w_1 t3 (IntKind.i64.wrap (aP9+1))))
 else
  some (0,w_1,5))
def aB3:Nat→aM→aM→Int→Option (Int×aM×Int)
 |0=>fun _ _ _=>none
 |n+1=>aPi (aB3 n)
def xU(w_0:aM):Option (Int×aM×Int):=
 ((xW w_0).bind fun r2=>
 (bif (!r2) then
  some (0,w_0,1)
 else
  aB3 aZ w_0 (aM.mk [] 0) w_0.At))
theorem aRr{w_0:aM}{r:Int×aM×Int}(hm:xU w_0=some r):bH prog 74 [.agg [vl (ci .u64) w_0.List,vi w_0.At]] (.tup [vu r.1,.agg [vl (ci .u64) r.2.1.List,vi r.2.1.At],vi r.2.2]):=by
 refine bd 35 func74 ?_;obtain ⟨r2,h1,hm⟩:=bnd hm;refine W ?_;refine cq (aJ4 h1) ?_;refine W ?_;refine cm hm (fun hm=>?_) fun hm=>?_
 · exact E
 refine W ?_;refine lp (fun m s=> ∃w_1 t3 aP9,s=⟨35,(aD (aD (aD fa 1 (.adr 1 0)) 3 (.adr 2 0)) 5 (vi aP9)),⟨(upd (upd aV 1 (.cells 1 [vl (ci .u64) w_1.List,vi w_1.At] 0)) 2 (.cells 1 [vl (ci .u64) t3.List,vi t3.At] 0)),64⟩⟩∧aB3 m w_1 t3 aP9=some r) ?_ ?_
 · refine ⟨_,?_,w_0,(aM.mk [] 0),w_0.At,rfl,hm⟩;refine St.Le.trans (aAc 2 (ys:=[.sl (((aM.mk [] 0).List).flatMap (ci .u64)) ((aM.mk [] 0).List).length false,.v (.int .i64 ((aM.mk [] 0).At))]) Z3 (.cons (.nil false) (.cons (.data _ (.v _)) .nil))) ?_;exact cn (fun j=>bif j==1 then 0 else bif j==2 then 2 else 0)
 rintro n1 s ⟨w_1,t3,aP9,rfl,hm⟩;refine W ?_;refine cm hm (fun hm=>?_) fun hm=>?_
 ·
  obtain ⟨x4,h3,hm⟩:=bnd hm;refine W ?_;refine cm hm (fun hm=>?_) fun hm=>?_
  · refine W ?_;refine bU (.agg [vl (ci .u64) w_1.List,.v (.int .i64 (IntKind.i64.wrap (aP9+1)))]) ?_;exact E
  refine W ?_;exact Lr (fun j=>bif j==1 then 1 else bif j==2 then 2 else 0)
 exact E
instance:Ct prog 74 (K1 prog iB (t3 vu iB vi) 74 xU):=⟨fun hm=>aRr hm⟩
def aMz(rec1:aM→aM→List bS→aM→Int→Int→Option ((List bS)×aM×Int))(w_2:aM)(t5:aM)(vN:List bS)(aIf:aM)(t31:Int)(t32:Int):Option ((List bS)×aM×Int):=
 (bif (decide (t32<t31)) then
  ((xU aIf).bind fun ⟨r6,r7,r8⟩=>
  (bif (r8 !=0) then
   some ([],w_2,r8)
  else
   ((xU r7).bind fun ⟨r10,r11,r12⟩=>
   (bif (r12 !=0) then
    some ([],w_2,r12)
   else
    ((idx vN t32).bind fun x14=>
    ((stt vN t32 (bS.mk r6 r10)).bind fun l16=>
    rec1 w_2 t5 l16 r11 t31 (IntKind.i64.wrap (t32+1))))))))
 else
  some (vN,aIf,0))
def zD:Nat→aM→aM→List bS→aM→Int→Int→Option ((List bS)×aM×Int)
 |0=>fun _ _ _ _ _ _=>none
 |n+1=>aMz (zD n)
def aB4(w_0:aM)(n_1:Int):Option ((List bS)×aM×Int):=
 ((xW w_0).bind fun r2=>
 (bif (((!r2)||(decide (n_1<0)))||(decide (128<n_1))) then
  some ([],w_0,1)
 else
  ((mkc n_1 n_1 (bS.mk 0 0)).bind fun l4=>
  zD aZ w_0 (aM.mk [] 0) l4 w_0 (l4.length:Int) 0)))
theorem aGk:K2 prog iB vi (t3 (vl bC) iB vi) 33 aB4:=by
 intro w_0 n_1 r hm
 let I1:=((fun m s=> ∃w_2 t5 vN aIf t31 t32,s=⟨65,(aD (aD (aD (aD (aD (aD fa 2 (.adr 1 0)) 5 (.adr 2 0)) 7 (.own 3 0 vN.length)) 8 (.adr 4 0)) 31 (vi t31)) 32 (vi t32)),⟨(upd (upd (upd (upd aV 1 (.cells 1 [vl (ci .u64) w_2.List,vi w_2.At] 0)) 2 (.cells 1 [vl (ci .u64) t5.List,vi t5.At] 0)) 3 (.cells 2 (vN.flatMap bC) 0)) 4 (.cells 1 [vl (ci .u64) aIf.List,vi aIf.At] 0)),64⟩⟩∧zD m w_2 t5 vN aIf t31 t32=some r):Nat→St→Prop)
 exact be 65 func33 (h:=G)
instance:Ct prog 33 (K2 prog iB vi (t3 (vl bC) iB vi) 33 aB4):=⟨aGk⟩
def aG1(n_0:Int):Option ((List bB)×Int):=
 ((uN n_0).bind fun r2=>
 (bif (!r2) then
  some ([],1)
 else
  ((mkc n_0 n_0 (bB.mk false 0)).bind fun l4=>
  some (l4,0))))
theorem aMl:K1 prog vi (t2 (vl aU) vi) 35 aG1:=fun hm=>be 9 func35 (h:=G)
instance:Ct prog 35 (K1 prog vi (t2 (vl aU) vi) 35 aG1):=⟨aMl⟩
def aFd(c_0:aT)(w_1:aM):Option (aI×aM×Int):=
 (bif ((((((decide (c_0.N<1))||(decide (1024<c_0.N)))||(decide (c_0.L<1)))||(decide (16<c_0.L)))||(decide (c_0.R<1)))||(decide (8<c_0.R))) then
  some ((aI.mk (aE.mk (aT.mk 0 0 0) [] []) []),w_1,1)
 else
  ((aB4 w_1 (IntKind.i64.wrap (c_0.L*c_0.R))).bind fun ⟨r2,r3,r4⟩=>
  (bif (r4 !=0) then
   some ((aI.mk (aE.mk (aT.mk 0 0 0) [] []) []),w_1,r4)
  else
   ((sF c_0 r2).bind fun ⟨r6,r7⟩=>
   (bif (r7 !=0) then
    some ((aI.mk (aE.mk (aT.mk 0 0 0) [] []) []),w_1,r7)
   else
    ((aG1 c_0.N).bind fun ⟨r9,r10⟩=>
    (bif (r10 !=0) then
     some ((aI.mk (aE.mk (aT.mk 0 0 0) [] []) []),w_1,r10)
    else
     some ((aI.mk r6 r9),r3,0))))))))
theorem aLa{c_0:aT}{w_1:aM}{r:aI×aM×Int}(hm:aFd c_0 w_1=some r):bH prog 10 [.agg [vi c_0.N,vi c_0.L,vi c_0.R],.agg [vl (ci .u64) w_1.List,vi w_1.At]] (.tup [.agg [vi r.1.Graph.Config.N,vi r.1.Graph.Config.L,vi r.1.Graph.Config.R,vl bC r.1.Graph.Hashes,vl aH r.1.Graph.Edges,vl aU r.1.Slots],.agg [vl (ci .u64) r.2.1.List,vi r.2.1.At],vi r.2.2]):=by
 refine bd 84 func10 ?_;refine W ?_;refine cm hm (fun hm=>?_) fun hm=>?_
 · refine W ?_;refine AWp.regV [(3,1),(4,2),(5,3)] 64 mix (by kernel_rfl) (by kernel_rfl) (IV.cons (off:=0) Z1 (IV.cons (off:=0) Z1 (IV.cons (off:=0) Z1 IV.nil))) (N':=192) rfl ?_;refine bU (.agg [vi 0,vi 0,vi 0,.v (.slice none 0 0),.v (.slice none 0 0),.v (.slice none 0 0)]) ?_;exact E
 refine W ?_;obtain ⟨⟨r2,r3,r4⟩,h1,hm⟩:=bnd hm;refine cq (aGk h1) ?_;refine W ?_;refine cm hm (fun hm=>?_) fun hm=>?_
 · refine W ?_;refine AWp.regV [(3,1),(4,2),(5,3)] 64 mix (by kernel_rfl) (by kernel_rfl) (IV.cons (off:=0) Z1 (IV.cons (off:=0) Z1 (IV.cons (off:=0) Z1 IV.nil))) (N':=320) rfl ?_;refine bU (.agg [vi 0,vi 0,vi 0,.v (.slice none 0 0),.v (.slice none 0 0),.v (.slice none 0 0)]) ?_;exact E
 refine W ?_;obtain ⟨⟨r6,r7⟩,h5,hm⟩:=bnd hm;refine cq (aFz h5) ?_;refine W ?_;refine cm hm (fun hm=>?_) fun hm=>?_
 · refine W ?_;refine AWp.regV [(3,1),(4,2),(5,3)] 64 mix (by kernel_rfl) (by kernel_rfl) (IV.cons (off:=0) Z1 (IV.cons (off:=0) Z1 (IV.cons (off:=0) Z1 IV.nil))) (N':=448) rfl ?_;refine bU (.agg [vi 0,vi 0,vi 0,.v (.slice none 0 0),.v (.slice none 0 0),.v (.slice none 0 0)]) ?_;exact E
 refine W ?_;obtain ⟨⟨r9,r10⟩,h8,hm⟩:=bnd hm;refine cq (aMl h8) ?_;refine W ?_;refine cm hm (fun hm=>?_) fun hm=>?_
 · refine W ?_;refine AWp.regV [(3,1),(4,2),(5,3)] 64 mix (by kernel_rfl) (by kernel_rfl) (IV.cons (off:=0) Z1 (IV.cons (off:=0) Z1 (IV.cons (off:=0) Z1 IV.nil))) (N':=576) rfl ?_;refine bU (.agg [vi 0,vi 0,vi 0,.v (.slice none 0 0),.v (.slice none 0 0),.v (.slice none 0 0)]) ?_;exact E
 refine W ?_;refine AWp.regV [(4,2),(5,3),(8,139),(10,262)] 64 mix (by kernel_rfl) (by kernel_rfl) (IV.cons (off:=0) Z1 (IV.cons (off:=0) Z1 (IV.cons (off:=0) Z1 (IV.cons (off:=0) Z1 IV.nil)))) (N':=576) rfl ?_;refine W ?_;refine bU (.agg [vi r6.Config.N,vi r6.Config.L,vi r6.Config.R,vl bC r6.Hashes,vl aH r6.Edges,vl aU r9]) ?_;exact E
instance:Ct prog 10 (K2 prog aAl iB (t3 dB iB vi) 10 aFd):=⟨fun hm=>aLa hm⟩
abbrev aDd(s_3:aF)(t6:aF)(aU3:aT):Option (aF×ByteArray):=
 ((aFd aU3 s_3.Words).bind fun ⟨r12,r13,r14⟩=>
 (bif (r14 !=0) then
  ((fW (GA.i 36 .i64 r14)).bind fun r16=>
  some (s_3,r16))
 else
  ((fW (GA.i 36 .i64 0)).bind fun r18=>
  some ((aF.mk r12 r13 true),r18))))
def aM2(rec1:Int→List Int→aF→aF→List Int→Int→Int→Option (aF×ByteArray))(xG:Int)(lA:List Int)(s_3:aF)(t6:aF)(t18:List Int)(t19:Int)(t20:Int):Option (aF×ByteArray):=
 (bif (decide (t20<t19)) then
  ((idx t18 t20).bind fun x2=>
  (bif (decide (2147483647<x2)) then
   ((fW (GA.i 36 .i64 6)).bind fun r4=>
   some (s_3,r4))
  else
   rec1 xG lA s_3 t6 t18 t19 (IntKind.i64.wrap (t20+1))))
 else
  ((idx lA 0).bind fun x6=>
  ((idx lA 1).bind fun x8=>
  ((idx lA 2).bind fun x10=>
  (bif (xG==(-2)) then
   none
  else
   aDd s_3 t6 (aT.mk (IntKind.i64.wrap x6) (IntKind.i64.wrap x8) (IntKind.i64.wrap x10)))))))
def wJ:Nat→Int→List Int→aF→aF→List Int→Int→Int→Option (aF×ByteArray)
 |0=>fun _ _ _ _ _ _ _=>none
 |n+1=>aM2 (wJ n)
def zQ(s_0:aF)(xG:Int)(lA:List Int):Option (aF×ByteArray):=
 wJ aZ xG lA s_0 (aF.mk (aI.mk (aE.mk (aT.mk 0 0 0) [] []) []) (aM.mk [] 0) false) lA (lA.length:Int) 0
theorem aEm{s_0:aF}{xG:Int}{lA:List Int}{r:aF×ByteArray}(hm:zQ s_0 xG lA=some r):bH prog 64 [.agg [vi s_0.State.Graph.Config.N,vi s_0.State.Graph.Config.L,vi s_0.State.Graph.Config.R,vl bC s_0.State.Graph.Hashes,vl aH s_0.State.Graph.Edges,vl aU s_0.State.Slots,vl (ci .u64) s_0.Words.List,vi s_0.Words.At,vb s_0.On],vi xG,vl (ci .u64) lA] (.tup [.agg [vi r.1.State.Graph.Config.N,vi r.1.State.Graph.Config.L,vi r.1.State.Graph.Config.R,vl bC r.1.State.Graph.Hashes,vl aH r.1.State.Graph.Edges,vl aU r.1.State.Slots,vl (ci .u64) r.1.Words.List,vi r.1.Words.At,vb r.1.On],.v (.string r.2)]):=by
 refine bd 80 func64 ?_;refine W ?_;refine lp (fun m s=> ∃xG lA s_3 t6 t18 t19 t20,s=⟨80,(aD (aD (aD (aD (aD (aD (aD fa 1 (vi xG)) 2 (vl (ci .u64) lA)) 3 (.adr 1 0)) 6 (.adr 2 0)) 18 (vl (ci .u64) t18)) 19 (vi t19)) 20 (vi t20)),⟨(upd (upd aV 1 (.cells 1 [vi s_3.State.Graph.Config.N,vi s_3.State.Graph.Config.L,vi s_3.State.Graph.Config.R,vl bC s_3.State.Graph.Hashes,vl aH s_3.State.Graph.Edges,vl aU s_3.State.Slots,vl (ci .u64) s_3.Words.List,vi s_3.Words.At,vb s_3.On] 0)) 2 (.cells 1 [vi t6.State.Graph.Config.N,vi t6.State.Graph.Config.L,vi t6.State.Graph.Config.R,vl bC t6.State.Graph.Hashes,vl aH t6.State.Graph.Edges,vl aU t6.State.Slots,vl (ci .u64) t6.Words.List,vi t6.Words.At,vb t6.On] 0)),64⟩⟩∧wJ m xG lA s_3 t6 t18 t19 t20=some r) ?_ ?_
 · refine ⟨_,?_,xG,lA,s_0,(aF.mk (aI.mk (aE.mk (aT.mk 0 0 0) [] []) []) (aM.mk [] 0) false),lA,(lA.length:Int),0,rfl,hm⟩;refine St.Le.trans (aAc 1 (ys:=[.v (.int .i64 (((((aF.mk (aI.mk (aE.mk (aT.mk 0 0 0) [] []) []) (aM.mk [] 0) false).State).Graph).Config).N)),.v (.int .i64 (((((aF.mk (aI.mk (aE.mk (aT.mk 0 0 0) [] []) []) (aM.mk [] 0) false).State).Graph).Config).L)),.v (.int .i64 (((((aF.mk (aI.mk (aE.mk (aT.mk 0 0 0) [] []) []) (aM.mk [] 0) false).State).Graph).Config).R)),.sl (((((aF.mk (aI.mk (aE.mk (aT.mk 0 0 0) [] []) []) (aM.mk [] 0) false).State).Graph).Hashes).flatMap bC) ((((aF.mk (aI.mk (aE.mk (aT.mk 0 0 0) [] []) []) (aM.mk [] 0) false).State).Graph).Hashes).length false,.sl (((((aF.mk (aI.mk (aE.mk (aT.mk 0 0 0) [] []) []) (aM.mk [] 0) false).State).Graph).Edges).flatMap aH) ((((aF.mk (aI.mk (aE.mk (aT.mk 0 0 0) [] []) []) (aM.mk [] 0) false).State).Graph).Edges).length false,.sl ((((aF.mk (aI.mk (aE.mk (aT.mk 0 0 0) [] []) []) (aM.mk [] 0) false).State).Slots).flatMap aU) (((aF.mk (aI.mk (aE.mk (aT.mk 0 0 0) [] []) []) (aM.mk [] 0) false).State).Slots).length false,.sl ((((aF.mk (aI.mk (aE.mk (aT.mk 0 0 0) [] []) []) (aM.mk [] 0) false).Words).List).flatMap (ci .u64)) (((aF.mk (aI.mk (aE.mk (aT.mk 0 0 0) [] []) []) (aM.mk [] 0) false).Words).List).length false,.v (.int .i64 (((aF.mk (aI.mk (aE.mk (aT.mk 0 0 0) [] []) []) (aM.mk [] 0) false).Words).At)),.v (.bool ((aF.mk (aI.mk (aE.mk (aT.mk 0 0 0) [] []) []) (aM.mk [] 0) false).On))]) Z3 (.cons (.data _ (.v _)) (.cons (.data _ (.v _)) (.cons (.data _ (.v _)) (.cons (.nil false) (.cons (.nil false) (.cons (.nil false) (.cons (.nil false) (.cons (.data _ (.v _)) (.cons (.data _ (.v _)) .nil)))))))))) ?_;exact cn (fun j=>bif j==1 then 0 else bif j==2 then 1 else 0)
 rintro n1 s ⟨xG,lA,s_3,t6,t18,t19,t20,rfl,hm⟩;refine W ?_;refine cm hm (fun hm=>?_) fun hm=>?_
 ·
  obtain ⟨x2,h1,hm⟩:=bnd hm;refine W ?_;refine cm hm (fun hm=>?_) fun hm=>?_
  · obtain ⟨r4,h3,hm⟩:=bnd hm;refine W ?_;refine cq (hY h3) ?_;exact E
  refine W ?_;exact Lr (fun j=>bif j==1 then 1 else bif j==2 then 2 else 0)
 obtain ⟨x6,h5,hm⟩:=bnd hm;obtain ⟨x8,h7,hm⟩:=bnd hm;obtain ⟨x10,h9,hm⟩:=bnd hm;refine W ?_;refine bU (.agg [.v (.int .i64 (IntKind.i64.wrap x6)),.v (.int .i64 (IntKind.i64.wrap x8)),.v (.int .i64 (IntKind.i64.wrap x10))]) ?_;refine V ?_;refine AWp.seqJ (fun s=> ∃s_3 t6 aU3,s=⟨80,(aD (aD (aD fa 3 (.adr 1 0)) 6 (.adr 2 0)) 13 (.adr 3 0)),⟨(upd (upd (upd aV 1 (.cells 1 [vi s_3.State.Graph.Config.N,vi s_3.State.Graph.Config.L,vi s_3.State.Graph.Config.R,vl bC s_3.State.Graph.Hashes,vl aH s_3.State.Graph.Edges,vl aU s_3.State.Slots,vl (ci .u64) s_3.Words.List,vi s_3.Words.At,vb s_3.On] 0)) 2 (.cells 1 [vi t6.State.Graph.Config.N,vi t6.State.Graph.Config.L,vi t6.State.Graph.Config.R,vl bC t6.State.Graph.Hashes,vl aH t6.State.Graph.Edges,vl aU t6.State.Slots,vl (ci .u64) t6.Words.List,vi t6.Words.At,vb t6.On] 0)) 3 (.cells 1 [vi aU3.N,vi aU3.L,vi aU3.R] 0)),64⟩⟩∧aDd s_3 t6 aU3=some r) ?_ ?_
 ·
  refine W ?_;refine cm hm (fun hm=>?_) fun hm=>?_
  · cases hm
  refine W ?_;exact Lr (fun j=>bif j==1 then 1 else bif j==2 then 2 else bif j==3 then 196 else 0)
 rintro s ⟨s_3,t6,aU3,rfl,hm⟩;refine W ?_;obtain ⟨⟨r12,r13,r14⟩,h11,hm⟩:=bnd hm;refine cq (aLa h11) ?_;refine W ?_;refine cm hm (fun hm=>?_) fun hm=>?_
 · obtain ⟨r16,h15,hm⟩:=bnd hm;refine W ?_;refine cq (hY h15) ?_;exact E
 refine W ?_;refine bU (.agg [vi r12.Graph.Config.N,vi r12.Graph.Config.L,vi r12.Graph.Config.R,vl bC r12.Graph.Hashes,vl aH r12.Graph.Edges,vl aU r12.Slots,vl (ci .u64) r13.List,vi r13.At,vb true]) ?_;obtain ⟨r18,h17,hm⟩:=bnd hm;refine W ?_;refine cq (hY h17) ?_;exact E
instance:Ct prog 64 (K3 prog iM vi (vl (ci .u64)) (t2 iM vs) 64 zQ):=⟨fun hm=>aEm hm⟩
abbrev zS(s_2:aF)(t4:aF)(aA8:dN):Option (aF×ByteArray):=
 ((aBu s_2 aA8).bind fun ⟨r21,r22⟩=>
 some (r21,r22))
abbrev zR(s_2:aF)(t4:aF)(aLj:Int)(aG6:List Int)(aA8:dN):Option (aF×ByteArray):=
 (bif (decide (1<aLj)) then
  ((idx aG6 1).bind fun x24=>
  zS s_2 t4 (dN.mk aA8.Do aA8.A x24 aA8.Text))
 else
  zS s_2 t4 aA8)
def gZ(s_0:aF)(yV:List ByteArray):Option (aF×ByteArray):=
 (bif ((yV.length:Int)==0) then
  ((fW (GA.i 36 .i64 1)).bind fun r2=>
  some (s_0,r2))
 else
  ((idx yV 0).bind fun x4=>
  ((tL x4).bind fun ⟨r6,r7⟩=>
  (bif ((r6==0)||((IntKind.i64.wrap ((yV.length:Int)-1)) !=r7)) then
   ((fW (GA.i 36 .i64 1)).bind fun r9=>
   some (s_0,r9))
  else
   (bif (r6==15) then
    none
   else
    ((slc yV 1 (yV.length:Int)).bind fun l11=>
    ((tM l11).bind fun ⟨r13,r14⟩=>
    (bif (r14 !=0) then
     ((fW (GA.i 36 .i64 r14)).bind fun r16=>
     some (s_0,r16))
    else
     (bif ((r6==(-1))||(r6==(-2))) then
      ((zQ s_0 r6 r13).bind fun ⟨r18,r19⟩=>
      some (r18,r19))
     else
      (bif (decide (0<r7)) then
       ((idx r13 0).bind fun x26=>
       zR s_0 (aF.mk (aI.mk (aE.mk (aT.mk 0 0 0) [] []) []) (aM.mk [] 0) false) r7 r13 (dN.mk r6 x26 0 ⟨#[]⟩))
      else
       zR s_0 (aF.mk (aI.mk (aE.mk (aT.mk 0 0 0) [] []) []) (aM.mk [] 0) false) r7 r13 (dN.mk r6 0 0 ⟨#[]⟩)))))))))))
theorem aHd{s_0:aF}{yV:List ByteArray}{r:aF×ByteArray}(hm:gZ s_0 yV=some r):bH prog 28 [.agg [vi s_0.State.Graph.Config.N,vi s_0.State.Graph.Config.L,vi s_0.State.Graph.Config.R,vl bC s_0.State.Graph.Hashes,vl aH s_0.State.Graph.Edges,vl aU s_0.State.Slots,vl (ci .u64) s_0.Words.List,vi s_0.Words.At,vb s_0.On],vl oO yV] (.tup [.agg [vi r.1.State.Graph.Config.N,vi r.1.State.Graph.Config.L,vi r.1.State.Graph.Config.R,vl bC r.1.State.Graph.Hashes,vl aH r.1.State.Graph.Edges,vl aU r.1.State.Slots,vl (ci .u64) r.1.Words.List,vi r.1.Words.At,vb r.1.On],.v (.string r.2)]):=by
 refine bd 103 func28 ?_;refine W ?_;refine cm hm (fun hm=>?_) fun hm=>?_
 · obtain ⟨r2,h1,hm⟩:=bnd hm;refine W ?_;refine cq (hY h1) ?_;exact E
 obtain ⟨x4,h3,hm⟩:=bnd hm;refine W ?_;obtain ⟨⟨r6,r7⟩,h5,hm⟩:=bnd hm;refine cq (aC8 h5) ?_;refine W ?_;refine cm hm (fun hm=>?_) fun hm=>?_
 · obtain ⟨r9,h8,hm⟩:=bnd hm;refine W ?_;refine cq (hY h8) ?_;exact E
 refine W ?_;refine cm hm (fun hm=>?_) fun hm=>?_
 · cases hm
 obtain ⟨l11,h10,hm⟩:=bnd hm;refine W ?_;obtain ⟨⟨r13,r14⟩,h12,hm⟩:=bnd hm;refine cq (aC9 h12) ?_;refine W ?_;refine cm hm (fun hm=>?_) fun hm=>?_
 · obtain ⟨r16,h15,hm⟩:=bnd hm;refine W ?_;refine cq (hY h15) ?_;exact E
 refine W ?_;refine cm hm (fun hm=>?_) fun hm=>?_
 · refine W ?_;obtain ⟨⟨r18,r19⟩,h17,hm⟩:=bnd hm;refine cq (aEm h17) ?_;exact E
 refine W ?_;refine bU (.agg [vi r6,vu 0,vu 0,.v (.string ⟨#[]⟩)]) ?_;refine V ?_;refine AWp.seqJ (fun s=> ∃s_2 t4 aLj aG6 aA8,s=⟨103,(aD (aD (aD (aD (aD fa 2 (.adr 1 0)) 4 (.adr 2 0)) 7 (vi aLj)) 10 (vl (ci .u64) aG6)) 12 (.adr 3 0)),⟨(upd (upd (upd aV 1 (.cells 1 [vi s_2.State.Graph.Config.N,vi s_2.State.Graph.Config.L,vi s_2.State.Graph.Config.R,vl bC s_2.State.Graph.Hashes,vl aH s_2.State.Graph.Edges,vl aU s_2.State.Slots,vl (ci .u64) s_2.Words.List,vi s_2.Words.At,vb s_2.On] 0)) 2 (.cells 1 [vi t4.State.Graph.Config.N,vi t4.State.Graph.Config.L,vi t4.State.Graph.Config.R,vl bC t4.State.Graph.Hashes,vl aH t4.State.Graph.Edges,vl aU t4.State.Slots,vl (ci .u64) t4.Words.List,vi t4.Words.At,vb t4.On] 0)) 3 (.cells 1 [vi aA8.Do,vu aA8.A,vu aA8.B,.v (.string aA8.Text)] 0)),64⟩⟩∧zR s_2 t4 aLj aG6 aA8=some r) ?_ ?_
 ·
  refine W ?_;refine cm hm (fun hm=>?_) fun hm=>?_
  · obtain ⟨x26,h25,hm⟩:=bnd hm;refine W ?_;refine ⟨_,?_,s_0,(aF.mk (aI.mk (aE.mk (aT.mk 0 0 0) [] []) []) (aM.mk [] 0) false),r7,r13,(dN.mk r6 x26 0 ⟨#[]⟩),rfl,hm⟩;refine St.Le.trans (aAc 1 (ys:=[.v (.int .i64 (((((aF.mk (aI.mk (aE.mk (aT.mk 0 0 0) [] []) []) (aM.mk [] 0) false).State).Graph).Config).N)),.v (.int .i64 (((((aF.mk (aI.mk (aE.mk (aT.mk 0 0 0) [] []) []) (aM.mk [] 0) false).State).Graph).Config).L)),.v (.int .i64 (((((aF.mk (aI.mk (aE.mk (aT.mk 0 0 0) [] []) []) (aM.mk [] 0) false).State).Graph).Config).R)),.sl (((((aF.mk (aI.mk (aE.mk (aT.mk 0 0 0) [] []) []) (aM.mk [] 0) false).State).Graph).Hashes).flatMap bC) ((((aF.mk (aI.mk (aE.mk (aT.mk 0 0 0) [] []) []) (aM.mk [] 0) false).State).Graph).Hashes).length false,.sl (((((aF.mk (aI.mk (aE.mk (aT.mk 0 0 0) [] []) []) (aM.mk [] 0) false).State).Graph).Edges).flatMap aH) ((((aF.mk (aI.mk (aE.mk (aT.mk 0 0 0) [] []) []) (aM.mk [] 0) false).State).Graph).Edges).length false,.sl ((((aF.mk (aI.mk (aE.mk (aT.mk 0 0 0) [] []) []) (aM.mk [] 0) false).State).Slots).flatMap aU) (((aF.mk (aI.mk (aE.mk (aT.mk 0 0 0) [] []) []) (aM.mk [] 0) false).State).Slots).length false,.sl ((((aF.mk (aI.mk (aE.mk (aT.mk 0 0 0) [] []) []) (aM.mk [] 0) false).Words).List).flatMap (ci .u64)) (((aF.mk (aI.mk (aE.mk (aT.mk 0 0 0) [] []) []) (aM.mk [] 0) false).Words).List).length false,.v (.int .i64 (((aF.mk (aI.mk (aE.mk (aT.mk 0 0 0) [] []) []) (aM.mk [] 0) false).Words).At)),.v (.bool ((aF.mk (aI.mk (aE.mk (aT.mk 0 0 0) [] []) []) (aM.mk [] 0) false).On))]) Z3 (.cons (.data _ (.v _)) (.cons (.data _ (.v _)) (.cons (.data _ (.v _)) (.cons (.nil false) (.cons (.nil false) (.cons (.nil false) (.cons (.nil false) (.cons (.data _ (.v _)) (.cons (.data _ (.v _)) .nil)))))))))) ?_;exact cn (fun j=>bif j==1 then 0 else bif j==2 then 1 else bif j==3 then 514 else 0)
  refine W ?_;refine ⟨_,?_,s_0,(aF.mk (aI.mk (aE.mk (aT.mk 0 0 0) [] []) []) (aM.mk [] 0) false),r7,r13,(dN.mk r6 0 0 ⟨#[]⟩),rfl,hm⟩;refine St.Le.trans (aAc 1 (ys:=[.v (.int .i64 (((((aF.mk (aI.mk (aE.mk (aT.mk 0 0 0) [] []) []) (aM.mk [] 0) false).State).Graph).Config).N)),.v (.int .i64 (((((aF.mk (aI.mk (aE.mk (aT.mk 0 0 0) [] []) []) (aM.mk [] 0) false).State).Graph).Config).L)),.v (.int .i64 (((((aF.mk (aI.mk (aE.mk (aT.mk 0 0 0) [] []) []) (aM.mk [] 0) false).State).Graph).Config).R)),.sl (((((aF.mk (aI.mk (aE.mk (aT.mk 0 0 0) [] []) []) (aM.mk [] 0) false).State).Graph).Hashes).flatMap bC) ((((aF.mk (aI.mk (aE.mk (aT.mk 0 0 0) [] []) []) (aM.mk [] 0) false).State).Graph).Hashes).length false,.sl (((((aF.mk (aI.mk (aE.mk (aT.mk 0 0 0) [] []) []) (aM.mk [] 0) false).State).Graph).Edges).flatMap aH) ((((aF.mk (aI.mk (aE.mk (aT.mk 0 0 0) [] []) []) (aM.mk [] 0) false).State).Graph).Edges).length false,.sl ((((aF.mk (aI.mk (aE.mk (aT.mk 0 0 0) [] []) []) (aM.mk [] 0) false).State).Slots).flatMap aU) (((aF.mk (aI.mk (aE.mk (aT.mk 0 0 0) [] []) []) (aM.mk [] 0) false).State).Slots).length false,.sl ((((aF.mk (aI.mk (aE.mk (aT.mk 0 0 0) [] []) []) (aM.mk [] 0) false).Words).List).flatMap (ci .u64)) (((aF.mk (aI.mk (aE.mk (aT.mk 0 0 0) [] []) []) (aM.mk [] 0) false).Words).List).length false,.v (.int .i64 (((aF.mk (aI.mk (aE.mk (aT.mk 0 0 0) [] []) []) (aM.mk [] 0) false).Words).At)),.v (.bool ((aF.mk (aI.mk (aE.mk (aT.mk 0 0 0) [] []) []) (aM.mk [] 0) false).On))]) Z3 (.cons (.data _ (.v _)) (.cons (.data _ (.v _)) (.cons (.data _ (.v _)) (.cons (.nil false) (.cons (.nil false) (.cons (.nil false) (.cons (.nil false) (.cons (.data _ (.v _)) (.cons (.data _ (.v _)) .nil)))))))))) ?_;exact cn (fun j=>bif j==1 then 0 else bif j==2 then 1 else bif j==3 then 514 else 0)
 rintro s ⟨s_2,t4,aLj,aG6,aA8,rfl,hm⟩;refine AWp.seqJ (fun s=> ∃s_2 t4 aA8,s=⟨103,(aD (aD (aD fa 2 (.adr 1 0)) 4 (.adr 2 0)) 12 (.adr 3 0)),⟨(upd (upd (upd aV 1 (.cells 1 [vi s_2.State.Graph.Config.N,vi s_2.State.Graph.Config.L,vi s_2.State.Graph.Config.R,vl bC s_2.State.Graph.Hashes,vl aH s_2.State.Graph.Edges,vl aU s_2.State.Slots,vl (ci .u64) s_2.Words.List,vi s_2.Words.At,vb s_2.On] 0)) 2 (.cells 1 [vi t4.State.Graph.Config.N,vi t4.State.Graph.Config.L,vi t4.State.Graph.Config.R,vl bC t4.State.Graph.Hashes,vl aH t4.State.Graph.Edges,vl aU t4.State.Slots,vl (ci .u64) t4.Words.List,vi t4.Words.At,vb t4.On] 0)) 3 (.cells 1 [vi aA8.Do,vu aA8.A,vu aA8.B,.v (.string aA8.Text)] 0)),64⟩⟩∧zS s_2 t4 aA8=some r) ?_ ?_
 ·
  refine W ?_;refine cm hm (fun hm=>?_) fun hm=>?_
  · obtain ⟨x24,h23,hm⟩:=bnd hm;refine W ?_;exact Lr (fun j=>bif j==1 then 1 else bif j==2 then 2 else bif j==3 then 3 else 0)
  refine W ?_;exact Lr (fun j=>bif j==1 then 1 else bif j==2 then 2 else bif j==3 then 3 else 0)
 rintro s ⟨s_2,t4,aA8,rfl,hm⟩;refine W ?_;obtain ⟨⟨r21,r22⟩,h20,hm⟩:=bnd hm;refine cq (aHc h20) ?_;exact E
instance:Ct prog 28 (K2 prog iM (vl oO) (t2 iM vs) 28 gZ):=⟨fun hm=>aHd hm⟩
def zK(r_0:Int):Option (Bool):=
 some ((((decide (97≤r_0))&&(decide (r_0≤122)))||((decide (48≤r_0))&&(decide (r_0≤57))))||((decide (945≤r_0))&&(decide (r_0≤969))))
theorem aEd{r_0:Int}{r:Bool}(hm:zK r_0=some r):bH prog 115 [.v (.int .i32 r_0)] (vb r):=by
 refine bd 25 func115 ?_;exact E
instance:Ct prog 115 (K1 prog (vk .i32) vb 115 zK):=⟨fun hm=>aEd hm⟩
abbrev lU(rec1:ByteArray→List (List ByteArray)→List ByteArray→Int→Bool→Int→ByteArray→Nat→Option ((List (List ByteArray))×Int×Int))(dJ:ByteArray)(cB:List (List ByteArray))(dE:List ByteArray)(dR:Int)(cO:Bool)(dO:Int)(t14s:ByteArray)(t14p:Nat):Option ((List (List ByteArray))×Int×Int):=
 rec1 dJ cB dE dR cO (IntKind.i64.wrap (dO+1)) t14s t14p
abbrev yA(rec1:ByteArray→List (List ByteArray)→List ByteArray→Int→Bool→Int→ByteArray→Nat→Option ((List (List ByteArray))×Int×Int))(dJ:ByteArray)(cB:List (List ByteArray))(dE:List ByteArray)(dR:Int)(cO:Bool)(dO:Int)(aZq:Int)(aSl:Int)(aAd:Bool)(t14s:ByteArray)(t14p:Nat):Option ((List (List ByteArray))×Int×Int):=
 (bif (aSl==10) then
  ((app cB [dE]).bind fun l5=>
  lU rec1 dJ l5 [] dR false dO t14s t14p)
 else
  (bif ((cO||(aSl==32))||(aSl==9)) then
   lU rec1 dJ cB dE dR cO dO t14s t14p
  else
   (bif (aSl==35) then
    lU rec1 dJ cB dE dR true dO t14s t14p
   else
    (bif (!aAd) then
     some ([],dO,2)
    else
     (bif (decide (dR<0)) then
      lU rec1 dJ cB dE aZq cO dO t14s t14p
     else
      lU rec1 dJ cB dE dR cO dO t14s t14p)))))
abbrev yB(cB:List (List ByteArray))(dE:List ByteArray):Option ((List (List ByteArray))×Int×Int):=
 ((app cB [dE]).bind fun l11=>
 some (l11,0,0))
def aCr(rec1:ByteArray→List (List ByteArray)→List ByteArray→Int→Bool→Int→ByteArray→Nat→Option ((List (List ByteArray))×Int×Int))(dJ:ByteArray)(cB:List (List ByteArray))(dE:List ByteArray)(dR:Int)(cO:Bool)(dO:Int)(t14s:ByteArray)(t14p:Nat):Option ((List (List ByteArray))×Int×Int):=
 (bif (decide (t14p<t14s.size)) then
  ((dT ((!cO)==true) false (zK (((Utf8.decode t14s t14p).1:Nat):Int))).bind fun r3=>
  (bif ((decide (0≤dR))&&(!((!cO)&&r3))) then
   ((bA2 dJ dR ((t14p:Nat):Int)).bind fun l7=>
   ((app dE [l7]).bind fun l9=>
   yA rec1 dJ cB l9 (-1) cO dO ((t14p:Nat):Int) (((Utf8.decode t14s t14p).1:Nat):Int) ((!cO)&&r3) t14s (t14p+(Utf8.decode t14s t14p).2)))
  else
   yA rec1 dJ cB dE dR cO dO ((t14p:Nat):Int) (((Utf8.decode t14s t14p).1:Nat):Int) ((!cO)&&r3) t14s (t14p+(Utf8.decode t14s t14p).2)))
 else
  (bif (decide (0≤dR)) then
   ((bA2 dJ dR (dJ.size:Int)).bind fun l13=>
   ((app dE [l13]).bind fun l15=>
   yB cB l15))
  else
   yB cB dE))
def pO:Nat→ByteArray→List (List ByteArray)→List ByteArray→Int→Bool→Int→ByteArray→Nat→Option ((List (List ByteArray))×Int×Int)
 |0=>fun _ _ _ _ _ _ _ _=>none
 |n+1=>aCr (pO n)
def vU(dJ:ByteArray):Option ((List (List ByteArray))×Int×Int):=
 pO aZ dJ [] [] (-1) false 0 dJ 0
theorem aLh{dJ:ByteArray}{r:(List (List ByteArray))×Int×Int}(hm:vU dJ=some r):bH prog 68 [.v (.string dJ)] (.tup [.sl (r.1.flatMap (csl oO)) r.1.length false,.v (.int .i64 r.2.1),.v (.int .i64 r.2.2)]):=by
 refine bH.of_body func68 rfl ?_;simp only [ntmps68,List.length_cons,List.length_nil,Nat.reduceAdd,Nat.reduceSub,eE];unfold vU at hm;refine sr (N':=64) rfl ?_
 iterate 3 refine pA ?_
 refine fs ?_;refine sr (N':=128) rfl ?_;refine pA ?_;refine fs ?_;refine sr (N':=192) rfl ?_;refine pA ?_;refine fs ?_;refine sr (N':=256) rfl ?_;refine pA ?_;refine fs ?_;refine sr (N':=320) rfl ?_;refine pA ?_;refine fs ?_;refine sr (N':=384) rfl ?_;refine pA ?_;refine fs ?_;refine AWp.seq' ?_;refine sr (N':=448) rfl ?_;refine pA ?_;refine hp (id:=385) rfl rfl (aCg underlying9 Z1 Z5) ?_;refine fs ?_;refine AWp.block ?_;refine AWp.loopM (fun m s=> ∃(dJ:ByteArray) (cB:List (List ByteArray)) (dE:List ByteArray) (dR:Int) (cO:Bool) (dO:Int) (t14s:ByteArray) (t14p:Nat),s=(⟨80,(aD (aD (aD (aD (aD (aD (aD (fun _=>AV.any) 0 (.v (.string dJ))) 5 (.own 1 0 cB.length)) 6 (.own 2 0 dE.length)) 7 (.v (.int .i64 dR))) 8 (.v (.bool cO))) 9 (.v (.int .i64 dO))) 14 (.adr 3 0)),⟨(upd (upd (upd aV 1 (.cells 1 (cB.flatMap (csl oO)) 0)) 2 (.cells 1 (dE.flatMap oO) 0)) 3 (.iter t14s t14p)),64⟩⟩:St)∧pO m dJ cB dE dR cO dO t14s t14p=some r) aZ ?_ ?_ ?_
 · rintro s ⟨_,_,_,_,_,_,_,_,_,h⟩;cases h
 · refine ⟨_,?_,dJ,[],[],(-1),false,0,dJ,0,rfl,hm⟩;refine St.Le.trans (oP 5 900005 1 Z1 Z5) ?_;refine St.Le.trans (oP 6 900006 1 Z1 Z5) ?_;exact cA (fun j=>bif j==1 then 900005 else bif j==2 then 900006 else bif j==3 then 385 else 0) (bD _ _ (rK Z1 rfl Z7) (wV (wV (wV (wO (wO (wV dA))))))) (hW (cM (fP Z3) (eU CFs (eU (CFl CFs) cH))))
 ·
  rintro n1 s ⟨dJ,cB,dE,dR,cO,dO,t14s,t14p,rfl,hm⟩;replace hm:aCr (pO n1) dJ cB dE dR cO dO t14s t14p=some r:=hm;unfold aCr at hm;refine sr (N':=128) rfl ?_;refine aQp hm (fun h1 hm=>?_) (fun h1 hm=>?_)
  ·
   refine hp (id:=64) rfl rfl (vB Z1 Z3 (of_decide_eq_true h1)) ?_;refine pA ?_;refine fs ?_;refine AWp.seq' ?_;refine AWp.condT Z1 ?_;refine AWp.skip ?_;refine bI ?_;refine AWp.block ?_;refine sr (N':=192) rfl ?_
   iterate 4 refine pA ?_
   refine fs ?_;refine sr (N':=256) rfl ?_
   iterate 4 first|refine pA ?_|refine pB ?_
   obtain ⟨r3,h2,hm⟩:=bnd hm;refine aR.callQG (r:= .v (.bool r3)) Zd rfl Z2 Z1 bK1 (fun hb H=>(.cons (td (Zh hb) (.v _)) .nil)) (fun hb=>aEd (eJ h2 hb)) ?_
   iterate 2 refine pA ?_
   refine fs ?_;refine AWp.seqJ (fun s=> ∃(dJ:ByteArray) (cB:List (List ByteArray)) (dE:List ByteArray) (dR:Int) (cO:Bool) (dO:Int) (aZq:Int) (aSl:Int) (aAd:Bool) (t14s:ByteArray) (t14p:Nat),s=(⟨80,(aD (aD (aD (aD (aD (aD (aD (aD (aD (aD (fun _=>AV.any) 0 (.v (.string dJ))) 5 (.own 1 0 cB.length)) 6 (.own 2 0 dE.length)) 7 (.v (.int .i64 dR))) 8 (.v (.bool cO))) 9 (.v (.int .i64 dO))) 10 (.v (.int .i64 aZq))) 11 (.v (.int .i32 aSl))) 12 (.v (.bool aAd))) 14 (.adr 3 0)),⟨(upd (upd (upd aV 1 (.cells 1 (cB.flatMap (csl oO)) 0)) 2 (.cells 1 (dE.flatMap oO) 0)) 3 (.iter t14s t14p)),64⟩⟩:St)∧yA (pO n1) dJ cB dE dR cO dO aZq aSl aAd t14s t14p=some r) ?_ ?_
   ·
    refine sr (N':=320) rfl ?_
    iterate 6 first|refine pA ?_|refine pB ?_
    refine fs ?_;refine AWp.condM hm Z1 (fun _ hm=>?_) (fun _ hm=>?_)
    ·
     refine sr (N':=384) rfl ?_
     iterate 4 refine pA ?_
     obtain ⟨l7,h6,hm⟩:=bnd hm;refine pu rfl (aW9 underlying9 Z1 (aAm Z1 (aVr h6).1) (aAm Z1 (aVr h6).2) h6) ?_;refine hp (id:=325) rfl rfl (gV CFs (l:=[l7]) underlying69 sz9 zc9 Z5 Zd Zd Zd (by simp only [go_sem,Nat.reduceBEq];try rfl) (by kernel_rfl)) ?_;obtain ⟨l9,h8,hm⟩:=bnd hm;refine hp (id:=326) rfl rfl (vA CFs underlying69 underlying69 rfl in9 ts9 (by rw [tb9];decide) (by rw [tb9];decide) tz9 Zd Zd Z1 Z3 Z6 (aAt CFs Z1 Z3 Z6) rfl Z5 h8) ?_;refine pA ?_;refine fs ?_;refine AWp.reg 64 (N':=448) rfl ?_;refine pA ?_;refine aR.fin ?_;refine rM ?_;refine ⟨_,?_,dJ,cB,l9,(-1),cO,dO,((t14p:Nat):Int),(((Utf8.decode t14s t14p).1:Nat):Int),((!cO)&&r3),t14s,(t14p+(Utf8.decode t14s t14p).2),rfl,hm⟩;exact cA (fun j=>bif j==1 then 1 else bif j==2 then 326 else bif j==3 then 3 else 0) (bD _ _ (rK Z1 rfl Z7) (wV (wV (wV (wV (wV (wV (wO (wO (wV dA)))))))))) (hW (cM (fP Z3) (eU CFs (eU (CFl CFs) cH))))
    · refine AWp.skip ?_;refine rM ?_;refine ⟨_,?_,dJ,cB,dE,dR,cO,dO,((t14p:Nat):Int),(((Utf8.decode t14s t14p).1:Nat):Int),((!cO)&&r3),t14s,(t14p+(Utf8.decode t14s t14p).2),rfl,hm⟩;exact cA (fun j=>bif j==1 then 1 else bif j==2 then 2 else bif j==3 then 3 else 0) (bD _ _ (rK Z1 rfl Z7) (wV (wV (wV (wV (wV (wV (wO (wO (wV dA)))))))))) (hW (cM (fP Z3) (eU CFs (eU (CFl CFs) cH))))
   ·
    rintro s ⟨dJ,cB,dE,dR,cO,dO,aZq,aSl,aAd,t14s,t14p,rfl,hm⟩;unfold yA at hm;refine AWp.seqJ (fun s=> ∃(dJ:ByteArray) (cB:List (List ByteArray)) (dE:List ByteArray) (dR:Int) (cO:Bool) (dO:Int) (t14s:ByteArray) (t14p:Nat),s=(⟨80,(aD (aD (aD (aD (aD (aD (aD (fun _=>AV.any) 0 (.v (.string dJ))) 5 (.own 1 0 cB.length)) 6 (.own 2 0 dE.length)) 7 (.v (.int .i64 dR))) 8 (.v (.bool cO))) 9 (.v (.int .i64 dO))) 14 (.adr 3 0)),⟨(upd (upd (upd aV 1 (.cells 1 (cB.flatMap (csl oO)) 0)) 2 (.cells 1 (dE.flatMap oO) 0)) 3 (.iter t14s t14p)),64⟩⟩:St)∧lU (pO n1) dJ cB dE dR cO dO t14s t14p=some r) ?_ ?_
    ·
     refine AWp.block ?_;refine sr (N':=128) rfl ?_
     iterate 3 refine pA ?_
     refine fs ?_;refine AWp.condM hm Z1 (fun _ hm=>?_) (fun _ hm=>?_)
     ·
      refine AWp.seq' ?_;refine AWp.weaken (aGr CFs 6 2 Z1 Z3 Z6) ?_;refine AWp.reg 64 (N':=192) rfl ?_
      iterate 2 refine pA ?_
      refine hp (id:=130) rfl rfl (gV (CFl CFs) (l:=[dE]) underlying65 bJ6 bJl Z5 Zd Zd Zd (by simp only [go_sem,Nat.reduceBEq];try rfl) (by kernel_rfl)) ?_;obtain ⟨l5,h4,hm⟩:=bnd hm;refine hp (id:=131) rfl rfl (vA (CFl CFs) underlying65 underlying65 rfl bIf bJb (by rw [bA6];decide) (by rw [bA6];decide) bJf Zd Zd Z1 Z3 Z6 (aAt (CFl CFs) Z1 Z3 Z6) rfl Z5 h4) ?_;refine pA ?_;refine fs ?_;refine sr (N':=256) rfl ?_;refine pA ?_;refine fs ?_;refine AWp.reg 64 (N':=320) rfl ?_;refine pA ?_;refine aR.fin ?_;refine fY ?_;refine rM ?_;refine ⟨_,?_,dJ,l5,[],dR,false,dO,t14s,t14p,rfl,hm⟩;refine St.Le.trans (oP 6 900006 1 Z1 Z5) ?_;exact cA (fun j=>bif j==1 then 131 else bif j==2 then 900006 else bif j==3 then 3 else 0) (bD _ _ (rK Z1 rfl Z7) (wV (wV (wV (wO (wO (wV dA))))))) (hW (cM (fP Z3) (eU CFs (eU (CFl CFs) cH))))
     ·
      refine sr (N':=192) rfl ?_
      iterate 10 first|refine pA ?_|refine pB ?_
      refine fs ?_;refine AWp.condM hm Z1 (fun _ hm=>?_) (fun _ hm=>?_)
      · refine AWp.skip ?_;refine fY ?_;refine rM ?_;refine ⟨_,?_,dJ,cB,dE,dR,cO,dO,t14s,t14p,rfl,hm⟩;exact cA (fun j=>bif j==1 then 1 else bif j==2 then 2 else bif j==3 then 3 else 0) (bD _ _ (rK Z1 rfl Z7) (wV (wV (wV (wO (wO (wV dA))))))) (hW (cM (fP Z3) (eU CFs (eU (CFl CFs) cH))))
      ·
       refine sr (N':=256) rfl ?_
       iterate 3 refine pA ?_
       refine fs ?_;refine AWp.condM hm Z1 (fun _ hm=>?_) (fun _ hm=>?_)
       · refine AWp.reg 64 (N':=320) rfl ?_;refine pA ?_;refine aR.fin ?_;refine fY ?_;refine rM ?_;refine ⟨_,?_,dJ,cB,dE,dR,true,dO,t14s,t14p,rfl,hm⟩;exact cA (fun j=>bif j==1 then 1 else bif j==2 then 2 else bif j==3 then 3 else 0) (bD _ _ (rK Z1 rfl Z7) (wV (wV (wV (wO (wO (wV dA))))))) (hW (cM (fP Z3) (eU CFs (eU (CFl CFs) cH))))
       ·
        refine sr (N':=320) rfl ?_
        iterate 3 refine pA ?_
        refine fs ?_;refine AWp.condM hm Z1 (fun _ hm=>?_) (fun _ hm=>?_)
        ·
         refine sr (N':=384) rfl ?_
         iterate 4 refine pA ?_
         refine fs ?_;refine AWp.ret ?_;refine rA ?_;refine aVo ?_;refine rA ?_;refine rB ?_;refine rA ?_;refine gD ?_;cases hm;exact aWs (.inr rfl) Tryz.results68 (tdn Z1) (td Z1 (.v _)) (td Z1 (.v _))
        ·
         refine sr (N':=384) rfl ?_
         iterate 3 refine pA ?_
         refine fs ?_;refine AWp.condM hm Z1 (fun _ hm=>?_) (fun _ hm=>?_)
         ·
          refine AWp.reg 64 (N':=448) rfl ?_
          iterate 2 refine pA ?_
          refine aR.fin ?_;refine fY ?_;refine rM ?_;refine ⟨_,?_,dJ,cB,dE,aZq,cO,dO,t14s,t14p,rfl,hm⟩;exact cA (fun j=>bif j==1 then 1 else bif j==2 then 2 else bif j==3 then 3 else 0) (bD _ _ (rK Z1 rfl Z7) (wV (wV (wV (wO (wO (wV dA))))))) (hW (cM (fP Z3) (eU CFs (eU (CFl CFs) cH))))
         · refine AWp.skip ?_;refine fY ?_;refine rM ?_;refine ⟨_,?_,dJ,cB,dE,dR,cO,dO,t14s,t14p,rfl,hm⟩;exact cA (fun j=>bif j==1 then 1 else bif j==2 then 2 else bif j==3 then 3 else 0) (bD _ _ (rK Z1 rfl Z7) (wV (wV (wV (wO (wO (wV dA))))))) (hW (cM (fP Z3) (eU CFs (eU (CFl CFs) cH))))
    ·
     rintro s ⟨dJ,cB,dE,dR,cO,dO,t14s,t14p,rfl,hm⟩;unfold lU at hm;refine AWp.reg 64 (N':=128) rfl ?_
     iterate 3 refine pA ?_
     refine aR.fin ?_;refine fY ?_;refine eX ?_;refine ⟨_,?_,dJ,cB,dE,dR,cO,(IntKind.i64.wrap (dO+1)),t14s,t14p,rfl,hm⟩;exact cA (fun j=>bif j==1 then 1 else bif j==2 then 2 else bif j==3 then 3 else 0) (bD _ _ (rK Z1 rfl Z7) (wV (wV (wV (wO (wO (wV dA))))))) (hW (cM (fP Z3) (eU CFs (eU (CFl CFs) cH))))
  ·
   refine hp (id:=64) rfl rfl (zA Z1 Z3 (of_decide_eq_false h1)) ?_;refine pA ?_;refine fs ?_;refine AWp.seq' ?_;refine AWp.condF Z1 ?_;refine AWp.exit ?_;refine gX ?_;refine fF ?_;refine fE ?_;refine bI ?_;refine AWp.seqJ (fun s=> ∃(cB:List (List ByteArray)) (dE:List ByteArray),s=(⟨80,(aD (aD (fun _=>AV.any) 5 (.own 1 0 cB.length)) 6 (.own 2 0 dE.length)),⟨(upd (upd aV 1 (.cells 1 (cB.flatMap (csl oO)) 0)) 2 (.cells 1 (dE.flatMap oO) 0)),64⟩⟩:St)∧yB cB dE=some r) ?_ ?_
   ·
    refine sr (N':=192) rfl ?_
    iterate 2 refine pA ?_
    refine fs ?_;refine AWp.condM hm Z1 (fun _ hm=>?_) (fun _ hm=>?_)
    ·
     refine AWp.reg 64 (N':=256) rfl ?_
     iterate 3 refine pA ?_
     obtain ⟨l13,h12,hm⟩:=bnd hm;refine pu rfl (aW9 underlying9 Z1 (aAm Z1 (aVr h12).1) (aOz _) h12) ?_;refine hp (id:=196) rfl rfl (gV CFs (l:=[l13]) underlying69 sz9 zc9 Z5 Zd Zd Zd (by simp only [go_sem,Nat.reduceBEq];try rfl) (by kernel_rfl)) ?_;obtain ⟨l15,h14,hm⟩:=bnd hm;refine hp (id:=197) rfl rfl (vA CFs underlying69 underlying69 rfl in9 ts9 (by rw [tb9];decide) (by rw [tb9];decide) tz9 Zd Zd Z1 Z3 Z6 (aAt CFs Z1 Z3 Z6) rfl Z5 h14) ?_;refine pA ?_;refine aR.fin ?_;refine rM ?_;refine ⟨_,?_,cB,l15,rfl,hm⟩;exact cA (fun j=>bif j==1 then 1 else bif j==2 then 197 else 0) (wO (wO dA)) (hW (eU CFs (eU (CFl CFs) cH)))
    · refine AWp.skip ?_;refine rM ?_;refine ⟨_,?_,cB,dE,rfl,hm⟩;exact cA (fun j=>bif j==1 then 1 else bif j==2 then 2 else 0) (wO (wO dA)) (hW (eU CFs (eU (CFl CFs) cH)))
   ·
    rintro s ⟨cB,dE,rfl,hm⟩;unfold yB at hm;refine AWp.seq' ?_;refine AWp.weaken (aGr CFs 6 2 Z1 Z3 Z6) ?_;refine AWp.reg 64 (N':=128) rfl ?_
    iterate 2 refine pA ?_
    refine hp (id:=66) rfl rfl (gV (CFl CFs) (l:=[dE]) underlying65 bJ6 bJl Z5 Zd Zd Zd (by simp only [go_sem,Nat.reduceBEq];try rfl) (by kernel_rfl)) ?_;obtain ⟨l11,h10,hm⟩:=bnd hm;refine hp (id:=67) rfl rfl (vA (CFl CFs) underlying65 underlying65 rfl bIf bJb (by rw [bA6];decide) (by rw [bA6];decide) bJf Zd Zd Z1 Z3 Z6 (aAt (CFl CFs) Z1 Z3 Z6) rfl Z5 h10) ?_
    iterate 3 refine pA ?_
    refine fs ?_;refine AWp.ret ?_;cases hm;exact aWs (.inr rfl) Tryz.results68 (tdo (CFl CFs) Z1 Z3 Z6) (td Z1 (.v _)) (td Z1 (.v _))
instance:Ct prog 68 (K1 prog vs (t3 (vl (csl oO)) vi vi) 68 vU):=⟨fun hm=>aLh hm⟩
attribute [local semireducible] aZ
end Go.Proofs.YtkdohhmacfoolaaGreatDoor
