/- Facts. No condition. -/
import Derived.Test.YtkdohhmacfoolaaGreatDoorPeGI2
set_option linter.unusedVariables false
set_option linter.unusedSimpArgs false
set_option maxRecDepth 20000
set_option maxHeartbeats 4000000
namespace Go.Proofs.YtkdohhmacfoolaaGreatDoor
open Go.Proofs.Tryz Go Go.AM
attribute [local irreducible] aW
structure dK where
 Do:Int
 A:Int
 B:Int
 Text:ByteArray
deriving DecidableEq
def yQ(e:dK):List AV:=[.v (.int .i64 e.Do),.v (.int .u64 e.A),.v (.int .u64 e.B),.v (.string e.Text)]
theorem aQu:CF yQ 4:=⟨fun _=>rfl,fun a x hx=>by
 simp only [yQ,List.mem_cons,List.not_mem_nil,or_false] at hx;rcases hx with rfl|rfl|rfl|rfl
 · exact (.v _)
 · exact (.v _)
 · exact (.v _)
 · exact (.v _),fun _=>rfl⟩
instance:CC yQ 4:=⟨aQu⟩
abbrev qD(e:dK):AV:= .agg [.v (.int .i64 e.Do),vu e.A,vu e.B,.v (.string e.Text)]
@[go_sem] theorem aLl(e:dK)(r:List AV):yQ e++r= .v (.int .i64 e.Do):: .v (.int .u64 e.A):: .v (.int .u64 e.B):: .v (.string e.Text)::r:=rfl
structure bI where
 List:List Int
 At:Int
deriving DecidableEq
def aEp(e:bI):List AV:=[.sl (e.List.flatMap (ci .u64)) e.List.length false,.v (.int .i64 e.At)]
theorem aWn:CF aEp 2:=⟨fun _=>rfl,fun a x hx=>by
 simp only [aEp,List.mem_cons,List.not_mem_nil,or_false] at hx;rcases hx with rfl|rfl
 · exact ((CFi .u64).sl _ _ _)
 · exact (.v _),fun _=>rfl⟩
instance:CC aEp 2:=⟨aWn⟩
abbrev mP(e:bI):AV:= .agg [vl (ci .u64) e.List,vi e.At]
@[go_sem] theorem aQz(e:bI)(r:List AV):aEp e++r= .sl (e.List.flatMap (ci .u64)) e.List.length false:: .v (.int .i64 e.At)::r:=rfl
structure aN where
 State:aD
 Words:bI
 On:Bool
deriving DecidableEq
def wQ(e:aN):List AV:=[.v (.int .i64 e.State.Graph.Config.N),.v (.int .i64 e.State.Graph.Config.L),.v (.int .i64 e.State.Graph.Config.R),.sl (e.State.Graph.Hashes.flatMap cL) e.State.Graph.Hashes.length false,.sl (e.State.Graph.Edges.flatMap aV) e.State.Graph.Edges.length false,.sl (e.State.Slots.flatMap aX) e.State.Slots.length false,.sl (e.Words.List.flatMap (ci .u64)) e.Words.List.length false,.v (.int .i64 e.Words.At),.v (.bool e.On)]
theorem aOa:CF wQ 9:=⟨fun _=>rfl,fun a x hx=>by
 simp only [wQ,List.mem_cons,List.not_mem_nil,or_false] at hx;rcases hx with rfl|rfl|rfl|rfl|rfl|rfl|rfl|rfl|rfl
 · exact (.v _)
 · exact (.v _)
 · exact (.v _)
 · exact (jQ.sl _ _ _)
 · exact (cI.sl _ _ _)
 · exact (cX.sl _ _ _)
 · exact ((CFi .u64).sl _ _ _)
 · exact (.v _)
 · exact (.v _),fun _=>rfl⟩
instance:CC wQ 9:=⟨aOa⟩
abbrev eE(e:aN):AV:= .agg [.v (.int .i64 e.State.Graph.Config.N),vi e.State.Graph.Config.L,vi e.State.Graph.Config.R,vl cL e.State.Graph.Hashes,vl aV e.State.Graph.Edges,vl aX e.State.Slots,vl (ci .u64) e.Words.List,vi e.Words.At,vb e.On]
@[go_sem] theorem aKw(e:aN)(r:List AV):wQ e++r= .v (.int .i64 e.State.Graph.Config.N):: .v (.int .i64 e.State.Graph.Config.L):: .v (.int .i64 e.State.Graph.Config.R):: .sl (e.State.Graph.Hashes.flatMap cL) e.State.Graph.Hashes.length false:: .sl (e.State.Graph.Edges.flatMap aV) e.State.Graph.Edges.length false:: .sl (e.State.Slots.flatMap aX) e.State.Slots.length false:: .sl (e.Words.List.flatMap (ci .u64)) e.Words.List.length false:: .v (.int .i64 e.Words.At):: .v (.bool e.On)::r:=rfl
@[go_sem] theorem bJ6(i o:Nat):aH prog 23 (.adr i o) 0=some (.adr i (o+0)):=by kernel_rfl
@[go_sem] theorem bJc(i o:Nat):aH prog 23 (.adr i o) 1=some (.adr i (o+1)):=by kernel_rfl
@[go_sem] theorem bJi(i o:Nat):aH prog 23 (.adr i o) 2=some (.adr i (o+2)):=by kernel_rfl
@[go_sem] theorem bJp(i o:Nat):aH prog 30 (.adr i o) 0=some (.adr i (o+0)):=by kernel_rfl
@[go_sem] theorem bJt(i o:Nat):aH prog 30 (.adr i o) 1=some (.adr i (o+3)):=by kernel_rfl
@[go_sem] theorem bJz(i o:Nat):aH prog 30 (.adr i o) 2=some (.adr i (o+4)):=by kernel_rfl
@[go_sem] theorem bK2(i o:Nat):aH prog 33 (.adr i o) 0=some (.adr i (o+0)):=by kernel_rfl
@[go_sem] theorem bK6(i o:Nat):aH prog 33 (.adr i o) 1=some (.adr i (o+5)):=by kernel_rfl
@[go_sem] theorem bKb(i o:Nat):aH prog 42 (.adr i o) 0=some (.adr i (o+0)):=by kernel_rfl
@[go_sem] theorem bKc(i o:Nat):aH prog 42 (.adr i o) 1=some (.adr i (o+1)):=by kernel_rfl
@[go_sem] theorem bKe(i o:Nat):aH prog 42 (.adr i o) 2=some (.adr i (o+2)):=by kernel_rfl
@[go_sem] theorem bKg(i o:Nat):aH prog 42 (.adr i o) 3=some (.adr i (o+3)):=by kernel_rfl
@[go_sem] theorem bKx(i o:Nat):aH prog 68 (.adr i o) 0=some (.adr i (o+0)):=by kernel_rfl
@[go_sem] theorem bL1(i o:Nat):aH prog 68 (.adr i o) 2=some (.adr i (o+8)):=by kernel_rfl
@[go_sem] theorem bLb(i o:Nat):aH prog 96 (.adr i o) 0=some (.adr i (o+0)):=by kernel_rfl
@[go_sem] theorem bP4(H:aG)(x0:AV)(xs:List AV):bT prog H 147 (.ptr (x0::xs))=some (.agg [x0]):=by kernel_rfl
@[go_sem] theorem bT7(H:aG)(x0 x1 x2:AV)(xs:List AV):bT prog H 23 (.ptr (x0::x1::x2::xs))=some (.agg [x0,x1,x2]):=by kernel_rfl
@[go_sem] theorem bTe(H:aG)(x:AV)(xs:List AV):bT prog H 27 (.ptr (x::xs))=some x:=by kernel_rfl
@[go_sem] theorem bP9(H:aG)(x:AV)(xs:List AV):bT prog H 277 (.ptr (x::xs))=some x:=by kernel_rfl
@[go_sem] theorem bTk(H:aG)(x:AV)(xs:List AV):bT prog H 28 (.ptr (x::xs))=some x:=by kernel_rfl
@[go_sem] theorem bXu(H:aG)(x:AV)(xs:List AV):bT prog H 3 (.ptr (x::xs))=some x:=by kernel_rfl
@[go_sem] theorem bTq(H:aG)(x0 x1 x2 x3 x4:AV)(xs:List AV):bT prog H 30 (.ptr (x0::x1::x2::x3::x4::xs))=some (.agg [x0,x1,x2,x3,x4]):=by kernel_rfl
@[go_sem] theorem bTv(H:aG)(x:AV)(xs:List AV):bT prog H 31 (.ptr (x::xs))=some x:=by kernel_rfl
@[go_sem] theorem bTz(H:aG)(x0 x1 x2 x3 x4 x5:AV)(xs:List AV):bT prog H 33 (.ptr (x0::x1::x2::x3::x4::x5::xs))=some (.agg [x0,x1,x2,x3,x4,x5]):=by kernel_rfl
@[go_sem] theorem bY1(H:aG)(x:AV)(xs:List AV):bT prog H 4 (.ptr (x::xs))=some x:=by kernel_rfl
@[go_sem] theorem bU8(H:aG)(x:AV)(xs:List AV):bT prog H 40 (.ptr (x::xs))=some x:=by kernel_rfl
@[go_sem] theorem bUa(H:aG)(x0 x1 x2 x3:AV)(xs:List AV):bT prog H 42 (.ptr (x0::x1::x2::x3::xs))=some (.agg [x0,x1,x2,x3]):=by kernel_rfl
@[go_sem] theorem bUh(H:aG)(x0 x1 x2:AV)(xs:List AV):bT prog H 61 (.ptr (x0::x1::x2::xs))=some (.agg [x0,x1,x2]):=by kernel_rfl
@[go_sem] theorem bUi(H:aG)(x0 x1 x2 x3 x4 x5 x6 x7 x8:AV)(xs:List AV):bT prog H 68 (.ptr (x0::x1::x2::x3::x4::x5::x6::x7::x8::xs))=some (.agg [x0,x1,x2,x3,x4,x5,x6,x7,x8]):=by kernel_rfl
@[go_sem] theorem bY4(H:aG)(x:AV)(xs:List AV):bT prog H 9 (.ptr (x::xs))=some x:=by kernel_rfl
@[go_sem] theorem bIj(H:aG)(k:IntKind)(n:Int):mS prog H 3 40 (.v (.int k n))=some (.v (.int .u64 (IntKind.u64.wrap n))):=gJ underlying3 underlying40
@[go_sem] theorem bNt(H:aG)(k:IntKind)(n:Int):mS prog H 5 3 (.v (.int k n))=some (.v (.int .i64 (IntKind.i64.wrap n))):=gJ underlying5 underlying3
@[go_sem] theorem bIp(H:aG)(k:IntKind)(n:Int):mS prog H 5 40 (.v (.int k n))=some (.v (.int .u64 (IntKind.u64.wrap n))):=gJ underlying5 underlying40
@[go_sem] theorem bDw(H:aG)(k:IntKind)(n:Int):mS prog H 21 40 (.v (.int k n))=some (.v (.int .u64 (IntKind.u64.wrap n))):=gJ underlying21 underlying40
@[go_sem] theorem bIl(H:aG)(k:IntKind)(n:Int):mS prog H 40 3 (.v (.int k n))=some (.v (.int .i64 (IntKind.i64.wrap n))):=gJ underlying40 underlying3
@[go_sem] theorem bAf(H:aG)(k:IntKind)(n:Int):mS prog H 40 277 (.v (.int k n))=some (.v (.int .u32 (IntKind.u32.wrap n))):=gJ underlying40 underlying277
@[go_sem] theorem bAe(H:aG)(k:IntKind)(n:Int):mS prog H 277 40 (.v (.int k n))=some (.v (.int .u64 (IntKind.u64.wrap n))):=gJ underlying277 underlying40
def mF(bYr:aI):Option (Bool):=
 some (!bYr.Used)
theorem aO5:K1 prog aQt vb 128 mF:=fun hm=>be 6 func128 (h:=G)
instance:Ct prog 128 (K1 prog aQt vb 128 mF):=⟨aO5⟩
def kK(l:List aI):Option (List aI):=app [] l
theorem aMb{r:List aI}(hm:some []=some r):fR prog 129 [.v (.slice none 0 0)] 2 (r.flatMap aX) r.length:=by
 refine fR.of_body func129 rfl (cX.fmdat r) ?_;simp only [ntmps129,List.length_cons,List.length_nil,Nat.reduceAdd,Nat.reduceSub,iN];refine sN 64 (pA ?_);refine fs (AWp.seq' (sN 128 (pA ?_)));refine pu rfl (aC2 Z1 Z1 (aMk underlying31)) ?_;refine fs (AWp.condT Z1 ?_);refine sN 192 (pA ?_);refine fs (AWp.weaken (aAn 2 900002 2 Z1 Z5) ?_);refine AWp.ret (jE ?_);cases hm;exact aNl (.inr rfl) Tryz.results129 Z1 Z3 Z6
theorem aMc{a:Addr}{c:Nat}{r:List aI}(hm:((app [] []).bind fun l2=>
some l2)=some r):fR prog 129 [.v (.slice (some a) 0 c)] 2 (r.flatMap aX) r.length:=by
 refine fR.of_body func129 rfl (cX.fmdat r) ?_;simp only [ntmps129,List.length_cons,List.length_nil,Nat.reduceAdd,Nat.reduceSub,iN];refine sN 64 (pA ?_);refine fs (AWp.seq' (sN 128 (pA ?_)));refine pu rfl (aC2 Z1 Z1 (aKd underlying31)) ?_;refine fs (AWp.condF Z1 ?_);refine AWp.skip (bQ (sN 192 (hp (id:=128) rfl rfl (kY cX (l:=[]) underlying31 bR1 bRg Z5 Zd Zd Zd (by simp only [go_sem,Nat.reduceBEq];try rfl) (by kernel_rfl)) ?_)));refine pA ?_;obtain ⟨l2,h1,hm⟩:=bnd hm;refine hp (id:=130) rfl rfl (wX cX underlying31 underlying31 rfl bSy bVn (by rw [bCn];decide) (by rw [bCn];decide) bVp Zd Zd Z1 Z3 Z6 (aRj Z1) rfl Z5 h1) ?_;refine pA ?_;refine fs (AWp.ret ?_);cases hm;exact aNl (.inr rfl) Tryz.results129 Z1 Z3 Z6
theorem aMd{x0:aI}{l0:List aI}{r:List aI}(hm:((app [] (x0::l0)).bind fun l2=>
some l2)=some r):fR prog 129 [.sl ((x0::l0).flatMap aX) (x0::l0).length false] 2 (r.flatMap aX) r.length:=by
 refine fR.of_body func129 rfl (cX.fmdat r) ?_;simp only [ntmps129,List.length_cons,List.length_nil,Nat.reduceAdd,Nat.reduceSub,iN];refine sN 64 (pA ?_);refine fs (AWp.seq' (sN 128 (pA ?_)));refine pu rfl (aC2 Z1 Z1 (aKc underlying31 (by simp))) ?_;refine fs (AWp.condF Z1 ?_);refine AWp.skip (bQ (sN 192 (hp (id:=128) rfl rfl (kY cX (l:=[]) underlying31 bR1 bRg Z5 Zd Zd Zd (by simp only [go_sem,Nat.reduceBEq];try rfl) (by kernel_rfl)) ?_)));refine pA ?_;obtain ⟨l2,h1,hm⟩:=bnd hm;refine hp (id:=130) rfl rfl (wX cX underlying31 underlying31 rfl bSy bVn (by rw [bCn];decide) (by rw [bCn];decide) bVp Zd Zd Z1 Z3 Z6 (aVh cX Z1 rfl) rfl Z5 h1) ?_;refine pA ?_;refine fs (AWp.ret ?_);cases hm;exact aNl (.inr rfl) Tryz.results129 Z1 Z3 Z6
theorem aF9{l r:List aI}(hm:kK l=some r):fR prog 129 [.sl (l.flatMap aX) l.length false] 2 (r.flatMap aX) r.length:=by
 cases l with
 |nil=>
  have hr:r=[]:=by unfold kK app at hm;simpa using hm.symm
  subst hr;exact fR.nil_arg (aMb (r:=[]) rfl) (fun a c=>aMc (r:=[]) rfl)
 |cons x0 l0=>
  refine aMd ?_;show (app [] (x0::l0)).bind _=_;unfold kK at hm;rw [hm];rfl
def aEh(l_0:List aI)(kB:Int):Option ((List aI)×Int×Int):=
 ((oC l_0).bind fun ⟨r2,r3⟩=>
 (bif (!r3) then
  some (l_0,0,1)
 else
  ((xP r2 kB).bind fun ⟨r5,r6⟩=>
  (bif r6 then
   some (l_0,0,4)
  else
   ((sF l_0 (fun x0=>mF x0)).bind fun r8=>
   (bif (decide (r8<0)) then
    some (l_0,0,10)
   else
    ((kK l_0).bind fun r10=>
    ((idx r10 r8).bind fun x12=>
    ((stt r10 r8 (aI.mk true kB)).bind fun l14=>
    some (l14,r8,0))))))))))
theorem bG2{l_0:List aI}{kB:Int}{r:(List aI)×Int×Int}(hm:aEh l_0 kB=some r):cE prog 87 [vl aX l_0,vu kB] (.tup [vl aX r.1,vi r.2.1,vi r.2.2]):=by
 refine bd 43 func87 ?_;refine W ?_;obtain ⟨⟨r2,r3⟩,h1,hm⟩:=bnd hm;refine cq (aIa h1) ?_;refine W ?_;refine cm hm (fun hm=>?_) fun hm=>?_
 · exact E
 refine W ?_;obtain ⟨⟨r5,r6⟩,h4,hm⟩:=bnd hm;refine cq (aOn h4) ?_;refine W ?_;refine cm hm (fun hm=>?_) fun hm=>?_
 · exact E
 obtain ⟨r8,h7,hm⟩:=bnd hm;refine W ?_;refine aR.callQ (r:= .v (.int .i64 r8)) Zd Z1 bZx (fun H=>(cD (cX.sl _ _ _) (cD (bNu aLt) .nil))) (aIh h7 aLt bZy (fun h=>aO5 h)) ?_;refine W ?_;refine cm hm (fun hm=>?_) fun hm=>?_
 · exact E
 obtain ⟨r10,h9,hm⟩:=bnd hm;refine W ?_;refine aR.callF (id:=449) Zd Z1 bW2 (fun H=>(cD (cX.sl _ _ _) .nil)) cX Z5 (aF9 h9) ?_;refine W ?_;refine bU (.agg [vb true,vu kB]) ?_;obtain ⟨x12,h11,hm⟩:=bnd hm;obtain ⟨l14,h13,hm⟩:=bnd hm;refine W ?_;have qh13:=nF h13;refine aS h13 ?_;exact E
instance:Ct prog 87 (K2 prog (vl aX) vu (t3 (vl aX) vi vi) 87 aEh):=⟨fun hm=>bG2 hm⟩
def wK(l_0:List aI)(kB:Int):Option ((List aI)×Int):=
 ((oC l_0).bind fun ⟨r2,r3⟩=>
 (bif (!r3) then
  some (l_0,1)
 else
  ((xP r2 kB).bind fun ⟨r5,r6⟩=>
  (bif (!r6) then
   some (l_0,7)
  else
   ((kK l_0).bind fun r8=>
   ((idx r8 r5).bind fun x10=>
   ((stt r8 r5 (aI.mk false 0)).bind fun l12=>
   some (l12,0))))))))
theorem aVc{l_0:List aI}{kB:Int}{r:(List aI)×Int}(hm:wK l_0 kB=some r):cE prog 88 [vl aX l_0,vu kB] (.tup [vl aX r.1,vi r.2]):=by
 refine bd 35 func88 ?_;refine W ?_;obtain ⟨⟨r2,r3⟩,h1,hm⟩:=bnd hm;refine cq (aIa h1) ?_;refine W ?_;refine cm hm (fun hm=>?_) fun hm=>?_
 · exact E
 refine W ?_;obtain ⟨⟨r5,r6⟩,h4,hm⟩:=bnd hm;refine cq (aOn h4) ?_;refine W ?_;refine cm hm (fun hm=>?_) fun hm=>?_
 · exact E
 obtain ⟨r8,h7,hm⟩:=bnd hm;refine W ?_;refine aR.callF (id:=321) Zd Z1 bW2 (fun H=>(cD (cX.sl _ _ _) .nil)) cX Z5 (aF9 h7) ?_;refine W ?_;refine bU (.agg [vb false,vu 0]) ?_;obtain ⟨x10,h9,hm⟩:=bnd hm;obtain ⟨l12,h11,hm⟩:=bnd hm;refine W ?_;have qh11:=nF h11;refine aS h11 ?_;exact E
instance:Ct prog 88 (K2 prog (vl aX) vu (t2 (vl aX) vi) 88 wK):=⟨fun hm=>aVc hm⟩
def bFt(rec1:ByteArray→Int→Int→Int→Option (Int))(b_0:ByteArray)(aC4:Int)(n_7:Int)(i_8:Int):Option (Int):=
 (bif (decide (0≤i_8)) then
  ((aD0 b_0 (IntKind.i64.wrap (aC4+i_8))).bind fun b2=>
  rec1 b_0 aC4 (bor .u64 (shl .u64 n_7 8) (IntKind.u64.wrap b2)) (IntKind.i64.wrap (i_8-1)))
 else
  some n_7)
def aE7:Nat→ByteArray→Int→Int→Int→Option (Int)
 |0=>fun _ _ _ _=>none
 |n+1=>bFt (aE7 n)
def gS(b_0:ByteArray)(aC4:Int)(bGl:Int):Option (Int):=
 aE7 aW b_0 aC4 0 (IntKind.i64.wrap (bGl-1))
theorem rW:K3 prog vs vi vi vu 91 gS:=by
 intro b_0 aC4 bGl r hm
 let I1:=((fun m s=> ∃b_0 aC4 n_7 i_8,s=⟨25,(aF (aF (aF (aF fa 0 (.v (.string b_0))) 1 (vi aC4)) 7 (vu n_7)) 8 (vi i_8)),⟨aY,64⟩⟩∧aE7 m b_0 aC4 n_7 i_8=some r):Nat→St→Prop)
 exact be 25 func91 (h:=G)
instance:Ct prog 91 (K3 prog vs vi vi vu 91 gS):=⟨rW⟩
def wB(rec3:ByteArray→aD→aD→Int→Int→Int→Option (aD×Bool))(b_0:ByteArray)(t2:aD)(s_4:aD)(uA:Int)(t127:Int)(t128:Int):Option (aD×Bool):=
 (bif (decide (t128<t127)) then
  ((gS b_0 uA 2).bind fun r22=>
  ((gS b_0 (IntKind.i64.wrap (uA+2)) 2).bind fun r24=>
  ((aD0 b_0 (IntKind.i64.wrap (uA+4))).bind fun b26=>
  ((app s_4.Graph.Edges [(aE.mk (IntKind.i64.wrap r22) (IntKind.i64.wrap r24) (IntKind.i64.wrap b26))]).bind fun l28=>
  rec3 b_0 (aD.mk (aJ.mk t2.Graph.Config [] []) []) (aD.mk (aJ.mk s_4.Graph.Config s_4.Graph.Hashes l28) s_4.Slots) (IntKind.i64.wrap (uA+5)) t127 (IntKind.i64.wrap (t128+1))))))
 else
  some ((aD.mk (aJ.mk s_4.Graph.Config s_4.Graph.Hashes s_4.Graph.Edges) s_4.Slots),true))
def rZ:Nat→ByteArray→aD→aD→Int→Int→Int→Option (aD×Bool)
 |0=>fun _ _ _ _ _ _=>none
 |n+1=>wB (rZ n)
def wA(rec2:ByteArray→aD→aD→Int→Int→Int→Int→Option (aD×Bool))(b_0:ByteArray)(t2:aD)(s_4:aD)(qT:Int)(uA:Int)(t104:Int)(t105:Int):Option (aD×Bool):=
 (bif (decide (t105<t104)) then
  ((aD0 b_0 uA).bind fun b16=>
  ((gS b_0 (IntKind.i64.wrap (uA+1)) 8).bind fun r18=>
  ((app s_4.Slots [(aI.mk (b16==1) r18)]).bind fun l20=>
  rec2 b_0 (aD.mk (aJ.mk t2.Graph.Config [] []) []) (aD.mk (aJ.mk s_4.Graph.Config s_4.Graph.Hashes []) l20) qT (IntKind.i64.wrap (uA+9)) t104 (IntKind.i64.wrap (t105+1)))))
 else
  rZ aW b_0 (aD.mk (aJ.mk t2.Graph.Config [] []) []) (aD.mk (aJ.mk s_4.Graph.Config s_4.Graph.Hashes []) s_4.Slots) (IntKind.i64.wrap (uA+4)) (IntKind.i64.wrap (Int.tdiv qT 5)) 0)
def rY:Nat→ByteArray→aD→aD→Int→Int→Int→Int→Option (aD×Bool)
 |0=>fun _ _ _ _ _ _ _=>none
 |n+1=>wA (rY n)
def vZ(rec1:ByteArray→aD→aD→bC→Int→Int→Int→Int→Option (aD×Bool))(b_0:ByteArray)(t2:aD)(s_4:aD)(c_5:bC)(qT:Int)(uA:Int)(t82:Int)(t83:Int):Option (aD×Bool):=
 (bif (decide (t83<t82)) then
  ((gS b_0 uA 8).bind fun r10=>
  ((gS b_0 (IntKind.i64.wrap (uA+8)) 8).bind fun r12=>
  ((app s_4.Graph.Hashes [(bW.mk r10 r12)]).bind fun l14=>
  rec1 b_0 (aD.mk (aJ.mk t2.Graph.Config [] []) []) (aD.mk (aJ.mk s_4.Graph.Config l14 []) []) c_5 qT (IntKind.i64.wrap (uA+16)) t82 (IntKind.i64.wrap (t83+1)))))
 else
  rY aW b_0 (aD.mk (aJ.mk t2.Graph.Config [] []) []) (aD.mk (aJ.mk s_4.Graph.Config s_4.Graph.Hashes []) []) qT uA c_5.N 0)
def rX:Nat→ByteArray→aD→aD→bC→Int→Int→Int→Int→Option (aD×Bool)
 |0=>fun _ _ _ _ _ _ _ _=>none
 |n+1=>vZ (rX n)
def oA(b_0:ByteArray):Option (aD×Bool):=
 (bif (decide ((b_0.size:Int)<10)) then
  some ((aD.mk (aJ.mk (bC.mk 0 0 0) [] []) []),false)
 else
  ((gS b_0 4 2).bind fun r2=>
  ((gS b_0 6 2).bind fun r4=>
  ((gS b_0 8 2).bind fun r6=>
  (bif (((decide (1024<(IntKind.i64.wrap r2)))||(decide (16<(IntKind.i64.wrap r4))))||(decide (8<(IntKind.i64.wrap r6)))) then
   some ((aD.mk (aJ.mk (bC.mk 0 0 0) [] []) []),false)
  else
   (bif (decide ((b_0.size:Int)<(IntKind.i64.wrap ((IntKind.i64.wrap ((IntKind.i64.wrap ((IntKind.i64.wrap (10+(IntKind.i64.wrap ((IntKind.i64.wrap ((IntKind.i64.wrap r4)*(IntKind.i64.wrap r6)))*16))))+(IntKind.i64.wrap ((IntKind.i64.wrap r2)*9))))+4))+8)))) then
    some ((aD.mk (aJ.mk (bC.mk 0 0 0) [] []) []),false)
   else
    ((eK (((Int.tmod (IntKind.i64.wrap ((IntKind.i64.wrap ((b_0.size:Int)-(IntKind.i64.wrap ((IntKind.i64.wrap ((IntKind.i64.wrap (10+(IntKind.i64.wrap ((IntKind.i64.wrap ((IntKind.i64.wrap r4)*(IntKind.i64.wrap r6)))*16))))+(IntKind.i64.wrap ((IntKind.i64.wrap r2)*9))))+4))))-8)) 5) !=0)==false) 0 (gS b_0 (IntKind.i64.wrap ((IntKind.i64.wrap ((IntKind.i64.wrap ((IntKind.i64.wrap (10+(IntKind.i64.wrap ((IntKind.i64.wrap ((IntKind.i64.wrap r4)*(IntKind.i64.wrap r6)))*16))))+(IntKind.i64.wrap ((IntKind.i64.wrap r2)*9))))+4))-4)) 4)).bind fun r8=>
    (bif (((Int.tmod (IntKind.i64.wrap ((IntKind.i64.wrap ((b_0.size:Int)-(IntKind.i64.wrap ((IntKind.i64.wrap ((IntKind.i64.wrap (10+(IntKind.i64.wrap ((IntKind.i64.wrap ((IntKind.i64.wrap r4)*(IntKind.i64.wrap r6)))*16))))+(IntKind.i64.wrap ((IntKind.i64.wrap r2)*9))))+4))))-8)) 5) !=0)||(r8 !=(IntKind.u64.wrap (IntKind.i64.wrap (Int.tdiv (IntKind.i64.wrap ((IntKind.i64.wrap ((b_0.size:Int)-(IntKind.i64.wrap ((IntKind.i64.wrap ((IntKind.i64.wrap (10+(IntKind.i64.wrap ((IntKind.i64.wrap ((IntKind.i64.wrap r4)*(IntKind.i64.wrap r6)))*16))))+(IntKind.i64.wrap ((IntKind.i64.wrap r2)*9))))+4))))-8)) 5))))) then
     some ((aD.mk (aJ.mk (bC.mk 0 0 0) [] []) []),false)
    else
     rX aW b_0 (aD.mk (aJ.mk (bC.mk 0 0 0) [] []) []) (aD.mk (aJ.mk (bC.mk (IntKind.i64.wrap r2) (IntKind.i64.wrap r4) (IntKind.i64.wrap r6)) [] []) []) (bC.mk (IntKind.i64.wrap r2) (IntKind.i64.wrap r4) (IntKind.i64.wrap r6)) (IntKind.i64.wrap ((IntKind.i64.wrap ((b_0.size:Int)-(IntKind.i64.wrap ((IntKind.i64.wrap ((IntKind.i64.wrap (10+(IntKind.i64.wrap ((IntKind.i64.wrap ((IntKind.i64.wrap r4)*(IntKind.i64.wrap r6)))*16))))+(IntKind.i64.wrap ((IntKind.i64.wrap r2)*9))))+4))))-8)) 10 (IntKind.i64.wrap ((IntKind.i64.wrap r4)*(IntKind.i64.wrap r6))) 0))))))))
theorem aZ5{b_0:ByteArray}{r:aD×Bool}(hm:oA b_0=some r):cE prog 44 [.v (.string b_0)] (.tup [.agg [.v (.int .i64 r.1.Graph.Config.N),.v (.int .i64 r.1.Graph.Config.L),.v (.int .i64 r.1.Graph.Config.R),.sl (r.1.Graph.Hashes.flatMap cL) r.1.Graph.Hashes.length false,.sl (r.1.Graph.Edges.flatMap aV) r.1.Graph.Edges.length false,.sl (r.1.Slots.flatMap aX) r.1.Slots.length false],.v (.bool r.2)]):=by
 refine cE.of_body func44 rfl ?_;simp only [ntmps44,List.length_cons,List.length_nil,Nat.reduceAdd,Nat.reduceSub,iN];unfold oA at hm;refine sr (N':=64) rfl ?_;refine hp (id:=0) rfl rfl (nQ bZa Z5) ?_;refine pA ?_;refine fs ?_;refine sr (N':=128) rfl ?_;refine hp (id:=64) rfl rfl (nQ bZa Z5) ?_;refine fs ?_;refine AWp.seq' ?_;refine sr (N':=192) rfl ?_
 iterate 3 refine pA ?_
 refine fs ?_;refine AWp.condM hm Z1 (fun _ hm=>?_) (fun _ hm=>?_)
 · refine sr (N':=256) rfl ?_;refine pu rfl (hY Z1 Z3 Z2) ?_;refine aR.heap0 (id:=193) rfl (oD (ys:=[.v (.int .i64 0),.v (.int .i64 0),.v (.int .i64 0),.v (.slice none 0 0),.v (.slice none 0 0),.v (.slice none 0 0)]) bM6 Z1 Z1 Z3 rfl (Nat.le_of_ble_eq_true rfl) Z9 rfl) ?_;refine pA ?_;refine fs ?_;refine AWp.ret ?_;refine jE ?_;cases hm;exact bFq (.inr rfl) (by rw [Tryz.results44]) (.cell (aGt Z1 Z3 Z2) (.tmp Z1 .nil)) rfl (tdt (.cons (tda rfl (.cons (.data _ (.v _)) (.cons (.data _ (.v _)) (.cons (.data _ (.v _)) (.cons (.nil false) (.cons (.nil false) (.cons (.nil false) .nil))))))) (.cons (td rfl (.v _)) .nil)))
 ·
  refine AWp.skip ?_;refine bQ ?_;refine sr (N':=256) rfl ?_;refine pA ?_;obtain ⟨r2,h1,hm⟩:=bnd hm;refine aR.callQ (r:= .v (.int .u64 r2)) Zd Z1 aXc (fun H=>(cV (cV (cV .nil)))) (rW h1) ?_
  iterate 2 refine pA ?_
  obtain ⟨r4,h3,hm⟩:=bnd hm;refine aR.callQ (r:= .v (.int .u64 r4)) Zd Z1 aXc (fun H=>(cV (cV (cV .nil)))) (rW h3) ?_
  iterate 2 refine pA ?_
  obtain ⟨r6,h5,hm⟩:=bnd hm;refine aR.callQ (r:= .v (.int .u64 r6)) Zd Z1 aXc (fun H=>(cV (cV (cV .nil)))) (rW h5) ?_;refine pA ?_;refine pu rfl (by simp only [go_sem,Nat.reduceBEq];exact (by kernel_rfl:aAa prog 23 [(0,.v (.int .i64 (IntKind.i64.wrap r2))),(1,.v (.int .i64 (IntKind.i64.wrap r4))),(2,.v (.int .i64 (IntKind.i64.wrap r6)))]=some (.agg [.v (.int .i64 (IntKind.i64.wrap r2)),.v (.int .i64 (IntKind.i64.wrap r4)),.v (.int .i64 (IntKind.i64.wrap r6))]))) ?_;refine hp (id:=202) rfl rfl (nQ cIq Z5) ?_;refine aR.heap0 (id:=203) rfl (oD (ys:=[.v (.int .i64 (IntKind.i64.wrap r2)),.v (.int .i64 (IntKind.i64.wrap r4)),.v (.int .i64 (IntKind.i64.wrap r6))]) bYt Z1 Z1 Z3 rfl (Nat.le_of_ble_eq_true rfl) Z9 rfl) ?_;refine fs ?_;refine AWp.seq' ?_;refine sr (N':=320) rfl ?_;refine pA ?_;refine pu rfl (hY Z1 Z3 Z4) ?_
  iterate 3 first|refine pA ?_|refine pB ?_
  refine pg rfl rfl Z2 (fun hb=>(hY (Zh hb) Z3 Z4)) ?_
  iterate 4 first|refine pA ?_|refine pB ?_
  refine pg rfl rfl Z2 (fun hb=>(hY (Zh hb) Z3 Z4)) ?_
  iterate 2 first|refine pA ?_|refine pB ?_
  refine fs ?_;refine AWp.condM hm Z1 (fun _ hm=>?_) (fun _ hm=>?_)
  · refine sr (N':=384) rfl ?_;refine pu rfl (hY Z1 Z3 Z2) ?_;refine aR.heap0 (id:=321) rfl (oD (ys:=[.v (.int .i64 0),.v (.int .i64 0),.v (.int .i64 0),.v (.slice none 0 0),.v (.slice none 0 0),.v (.slice none 0 0)]) bM6 Z1 Z1 Z3 rfl (Nat.le_of_ble_eq_true rfl) Z9 rfl) ?_;refine pA ?_;refine fs ?_;refine AWp.ret ?_;refine jE ?_;cases hm;exact bFq (.inr rfl) (by rw [Tryz.results44]) (.cell (aGt Z1 Z3 Z2) (.tmp Z1 .nil)) rfl (tdt (.cons (tda rfl (.cons (.data _ (.v _)) (.cons (.data _ (.v _)) (.cons (.data _ (.v _)) (.cons (.nil false) (.cons (.nil false) (.cons (.nil false) .nil))))))) (.cons (td rfl (.v _)) .nil)))
  ·
   refine AWp.skip ?_;refine bQ ?_;refine sr (N':=384) rfl ?_;refine pA ?_;refine pu rfl (hY Z1 Z3 Z4) ?_;refine pA ?_;refine pu rfl (hY Z1 Z3 Z4) ?_
   iterate 4 refine pA ?_
   refine pu rfl (hY Z1 Z3 Z4) ?_
   iterate 4 refine pA ?_
   refine fs ?_;refine AWp.seq' ?_;refine sr (N':=448) rfl ?_
   iterate 5 refine pA ?_
   refine fs ?_;refine AWp.condM hm Z1 (fun _ hm=>?_) (fun _ hm=>?_)
   · refine sr (N':=512) rfl ?_;refine pu rfl (hY Z1 Z3 Z2) ?_;refine aR.heap0 (id:=449) rfl (oD (ys:=[.v (.int .i64 0),.v (.int .i64 0),.v (.int .i64 0),.v (.slice none 0 0),.v (.slice none 0 0),.v (.slice none 0 0)]) bM6 Z1 Z1 Z3 rfl (Nat.le_of_ble_eq_true rfl) Z9 rfl) ?_;refine pA ?_;refine fs ?_;refine AWp.ret ?_;refine jE ?_;cases hm;exact bFq (.inr rfl) (by rw [Tryz.results44]) (.cell (aGt Z1 Z3 Z2) (.tmp Z1 .nil)) rfl (tdt (.cons (tda rfl (.cons (.data _ (.v _)) (.cons (.data _ (.v _)) (.cons (.data _ (.v _)) (.cons (.nil false) (.cons (.nil false) (.cons (.nil false) .nil))))))) (.cons (td rfl (.v _)) .nil)))
   ·
    refine AWp.skip ?_;refine bQ ?_;refine sr (N':=512) rfl ?_
    iterate 6 refine pA ?_
    refine fs ?_;refine AWp.seq' ?_;refine sr (N':=576) rfl ?_
    iterate 7 (first|refine pu rfl Zj ?_|refine pg rfl rfl Zj (by intro hb;simp only [go_sem,Nat.reduceBEq,Int.reduceEq,Int.reduceLE,hb,Bool.true_and];try with_reducible rfl) ?_)
    obtain ⟨r8,h7,hm⟩:=bnd hm;refine aR.callQG (r:= .v (.int .u64 r8)) Zd rfl Z2 Z1 aXc (fun hb H=>(.cons (td (Zh hb) (.v _)) (.cons (td (Zh hb) (.v _)) (.cons (td (Zh hb) (.v _)) .nil)))) (fun hb=>rW (kQ h7 hb)) ?_
    iterate 5 (first|refine pu rfl Zj ?_|refine pg rfl rfl Zj (by intro hb;simp only [go_sem,Nat.reduceBEq,Int.reduceEq,Int.reduceLE,hb,Bool.true_and];try with_reducible rfl) ?_)
    refine fs ?_;refine AWp.condM hm Z1 (fun _ hm=>?_) (fun _ hm=>?_)
    · refine sr (N':=640) rfl ?_;refine pu rfl (hY Z1 Z3 Z2) ?_;refine aR.heap0 (id:=577) rfl (oD (ys:=[.v (.int .i64 0),.v (.int .i64 0),.v (.int .i64 0),.v (.slice none 0 0),.v (.slice none 0 0),.v (.slice none 0 0)]) bM6 Z1 Z1 Z3 rfl (Nat.le_of_ble_eq_true rfl) Z9 rfl) ?_;refine pA ?_;refine fs ?_;refine AWp.ret ?_;refine jE ?_;cases hm;exact bFq (.inr rfl) (by rw [Tryz.results44]) (.cell (aGt Z1 Z3 Z2) (.tmp Z1 .nil)) rfl (tdt (.cons (tda rfl (.cons (.data _ (.v _)) (.cons (.data _ (.v _)) (.cons (.data _ (.v _)) (.cons (.nil false) (.cons (.nil false) (.cons (.nil false) .nil))))))) (.cons (td rfl (.v _)) .nil)))
    ·
     refine AWp.skip ?_;refine bQ ?_;refine sr (N':=640) rfl ?_;refine pu rfl (hY Z1 Z3 Z2) ?_
     iterate 2 refine pA ?_
     refine aR.heap0 (id:=579) rfl (oD (ys:=[.v (.int .i64 (IntKind.i64.wrap r2)),.v (.int .i64 (IntKind.i64.wrap r4)),.v (.int .i64 (IntKind.i64.wrap r6)),.v (.slice none 0 0),.v (.slice none 0 0),.v (.slice none 0 0)]) bYt Z1 Z1 Z3 rfl (Nat.le_of_ble_eq_true rfl) Z9 rfl) ?_;refine fs ?_;refine sr (N':=704) rfl ?_;refine pA ?_;refine fs ?_;refine AWp.seq' ?_;refine sr (N':=768) rfl ?_;refine pA ?_;refine pu rfl (hY Z1 Z3 Z4) ?_;refine pA ?_;refine pu rfl (hY Z1 Z3 Z4) ?_
     iterate 2 refine pA ?_
     refine fs ?_;refine AWp.block ?_;refine AWp.loopM (fun m s=> ∃(b_0:ByteArray) (t2:aD) (s_4:aD) (c_5:bC) (qT:Int) (uA:Int) (t82:Int) (t83:Int),s=(⟨157,(aF (aF (aF (aF (aF (aF (aF (aF (fun _=>AV.any) 0 (.v (.string b_0))) 2 (.adr 1 0)) 4 (.adr 2 0)) 5 (.adr 4 0)) 7 (.v (.int .i64 qT))) 8 (.v (.int .i64 uA))) 82 (.v (.int .i64 t82))) 83 (.v (.int .i64 t83))),⟨(upd (upd (upd (upd aY 1 (.cells 1 [.v (.int .i64 t2.Graph.Config.N),.v (.int .i64 t2.Graph.Config.L),.v (.int .i64 t2.Graph.Config.R),.v (.slice none 0 0),.v (.slice none 0 0),.v (.slice none 0 0)] 0)) 2 (.cells 1 [.v (.int .i64 s_4.Graph.Config.N),.v (.int .i64 s_4.Graph.Config.L),.v (.int .i64 s_4.Graph.Config.R),.own 3 0 s_4.Graph.Hashes.length,.v (.slice none 0 0),.v (.slice none 0 0)] 0)) 3 (.cells 2 (s_4.Graph.Hashes.flatMap cL) 0)) 4 (.cells 1 [.v (.int .i64 c_5.N),.v (.int .i64 c_5.L),.v (.int .i64 c_5.R)] 0)),64⟩⟩:St)∧rX m b_0 t2 s_4 c_5 qT uA t82 t83=some r) aW ?_ ?_ ?_
     · rintro s ⟨_,_,_,_,_,_,_,_,_,h⟩;cases h
     · refine ⟨_,?_,b_0,(aD.mk (aJ.mk (bC.mk 0 0 0) [] []) []),(aD.mk (aJ.mk (bC.mk (IntKind.i64.wrap r2) (IntKind.i64.wrap r4) (IntKind.i64.wrap r6)) [] []) []),(bC.mk (IntKind.i64.wrap r2) (IntKind.i64.wrap r4) (IntKind.i64.wrap r6)),(IntKind.i64.wrap ((IntKind.i64.wrap ((b_0.size:Int)-(IntKind.i64.wrap ((IntKind.i64.wrap ((IntKind.i64.wrap (10+(IntKind.i64.wrap ((IntKind.i64.wrap ((IntKind.i64.wrap r4)*(IntKind.i64.wrap r6)))*16))))+(IntKind.i64.wrap ((IntKind.i64.wrap r2)*9))))+4))))-8)),10,(IntKind.i64.wrap ((IntKind.i64.wrap r4)*(IntKind.i64.wrap r6))),0,rfl,hm⟩;refine St.Le.trans (aXy 64 3 910400 2 (ys:=[.v (.int .i64 (IntKind.i64.wrap r2)),.v (.int .i64 (IntKind.i64.wrap r4)),.v (.int .i64 (IntKind.i64.wrap r6)),.own 910400 0 0,.v (.slice none 0 0),.v (.slice none 0 0)]) Z3 (by rfl) Z5 (by rfl)) ?_;exact cP (fun j=>bif j==1 then 0 else bif j==2 then 64 else bif j==3 then 910400 else bif j==4 then 202 else 0) (wV (wV (wV (wV (bH _ _ (kX Z1 rfl Z7) (bH _ _ (kX Z1 rfl Z7) (bH _ _ (kX Z1 rfl Z7) (wV dR)))))))) (gM _ (cH (oE Z3 (Nat.le_refl _) (Nat.zero_le _) (aO9.dat (bC.mk (IntKind.i64.wrap r2) (IntKind.i64.wrap r4) (IntKind.i64.wrap r6)))) (eU jQ (cH (jV Z3 rfl (.cons (.data _ (.v _)) (.cons (.data _ (.v _)) (.cons (.data _ (.v _)) (.cons (uY (by first|rfl|omega|(dsimp only;omega)) rfl Z7) (.cons (.data _ (.v _)) (.cons (.data _ (.v _)) .nil))))))) (cH (jV Z3 rfl (.cons (.data _ (.v _)) (.cons (.data _ (.v _)) (.cons (.data _ (.v _)) (.cons (.data _ (.v _)) (.cons (.data _ (.v _)) (.cons (.data _ (.v _)) .nil))))))) dA)))) Z8)
     ·
      rintro n1 s ⟨b_0,t2,s_4,c_5,qT,uA,t82,t83,rfl,hm⟩;replace hm:vZ (rX n1) b_0 t2 s_4 c_5 qT uA t82 t83=some r:=hm;unfold vZ at hm;refine sr (N':=128) rfl ?_;refine pA ?_;refine fs ?_;refine AWp.seq' ?_;refine AWp.condM hm Z1 (fun _ hm=>?_) (fun _ hm=>?_)
      ·
       refine AWp.skip ?_;refine bQ ?_;refine AWp.seq' ?_;refine AWp.block ?_;refine sd mix (by kernel_rfl) (N':=192) rfl ?_
       iterate 2 refine pA ?_
       refine pu rfl (hY Z1 Z3 Z4) ?_
       iterate 2 refine pA ?_
       obtain ⟨r10,h9,hm⟩:=bnd hm;refine aR.callQ (r:= .v (.int .u64 r10)) Zd Z1 aXc (fun H=>(cV (cV (cV .nil)))) (rW h9) ?_
       iterate 3 refine pA ?_
       obtain ⟨r12,h11,hm⟩:=bnd hm;refine aR.callQ (r:= .v (.int .u64 r12)) Zd Z1 aXc (fun H=>(cV (cV (cV .nil)))) (rW h11) ?_;refine pu rfl (by simp only [go_sem,Nat.reduceBEq];exact (by kernel_rfl:aAa prog 94 [(0,.v (.int .u64 r10)),(1,.v (.int .u64 r12))]=some (.agg [.v (.int .u64 r10),.v (.int .u64 r12)]))) ?_;refine hp (id:=139) rfl rfl (kY jQ (l:=[(bW.mk r10 r12)]) underlying27 bR0 bRf Z5 Zd Zd Zd (by simp only [go_sem,Nat.reduceBEq];try rfl) (by kernel_rfl)) ?_;obtain ⟨l14,h13,hm⟩:=bnd hm;refine hp (id:=140) rfl rfl (wX jQ underlying27 underlying27 rfl bSx bVm (by rw [bCm];decide) (by rw [bCm];decide) bVo Zd Zd Z1 Z3 Z6 (aAd jQ Z1 Z3 Z6) rfl Z5 h13) ?_
       iterate 2 refine pA ?_
       refine aR.heap0 (id:=143) rfl (oD (ys:=[.v (.int .i64 s_4.Graph.Config.N),.v (.int .i64 s_4.Graph.Config.L),.v (.int .i64 s_4.Graph.Config.R),.own 140 0 l14.length,.v (.slice none 0 0),.v (.slice none 0 0)]) cGh Z1 Z1 Z3 rfl (Nat.le_of_ble_eq_true rfl) Z9 rfl) ?_;refine fs ?_;refine AWp.reg 64 (N':=256) rfl ?_
       iterate 3 refine pA ?_
       refine aR.fin ?_;refine jS ?_;refine bQ ?_;refine AWp.reg 64 (N':=320) rfl ?_
       iterate 2 refine pA ?_
       refine aR.fin ?_;refine hZ ?_;refine ⟨_,?_,b_0,(aD.mk (aJ.mk t2.Graph.Config [] []) []),(aD.mk (aJ.mk s_4.Graph.Config l14 []) []),c_5,qT,(IntKind.i64.wrap (uA+16)),t82,(IntKind.i64.wrap (t83+1)),rfl,hm⟩;exact cP (fun j=>bif j==1 then 1 else bif j==2 then 2 else bif j==3 then 140 else bif j==4 then 4 else 0) (wV (wV (wV (wV (bH _ _ (kX Z1 rfl Z7) (bH _ _ (kX Z1 rfl Z7) (bH _ _ (kX Z1 rfl Z7) (wV dR)))))))) (gM _ (cH (oE Z3 (Nat.le_refl _) (Nat.zero_le _) (aO9.dat c_5)) (eU jQ (cH (jV Z3 rfl (.cons (.data _ (.v _)) (.cons (.data _ (.v _)) (.cons (.data _ (.v _)) (.cons (uY (by first|rfl|omega|(dsimp only;omega)) rfl Z7) (.cons (.data _ (.v _)) (.cons (.data _ (.v _)) .nil))))))) (cH (jV Z3 rfl (.cons (.data _ (.v _)) (.cons (.data _ (.v _)) (.cons (.data _ (.v _)) (.cons (.data _ (.v _)) (.cons (.data _ (.v _)) (.cons (.data _ (.v _)) .nil))))))) dA)))) Z8)
      ·
       refine AWp.exit ?_;refine kG ?_;refine jB ?_;refine iS ?_;refine bQ ?_;refine AWp.seq' ?_;refine sr (N':=192) rfl ?_;refine pA ?_;refine pu rfl (hY Z1 Z3 Z4) ?_;refine pA ?_;refine fs ?_;refine AWp.block ?_;refine AWp.loopM (fun m s=> ∃(b_0:ByteArray) (t2:aD) (s_4:aD) (qT:Int) (uA:Int) (t104:Int) (t105:Int),s=(⟨157,(aF (aF (aF (aF (aF (aF (aF (fun _=>AV.any) 0 (.v (.string b_0))) 2 (.adr 1 0)) 4 (.adr 2 0)) 7 (.v (.int .i64 qT))) 8 (.v (.int .i64 uA))) 104 (.v (.int .i64 t104))) 105 (.v (.int .i64 t105))),⟨(upd (upd (upd (upd aY 1 (.cells 1 [.v (.int .i64 t2.Graph.Config.N),.v (.int .i64 t2.Graph.Config.L),.v (.int .i64 t2.Graph.Config.R),.v (.slice none 0 0),.v (.slice none 0 0),.v (.slice none 0 0)] 0)) 2 (.cells 1 [.v (.int .i64 s_4.Graph.Config.N),.v (.int .i64 s_4.Graph.Config.L),.v (.int .i64 s_4.Graph.Config.R),.own 3 0 s_4.Graph.Hashes.length,.v (.slice none 0 0),.own 4 0 s_4.Slots.length] 0)) 3 (.cells 2 (s_4.Graph.Hashes.flatMap cL) 0)) 4 (.cells 2 (s_4.Slots.flatMap aX) 0)),64⟩⟩:St)∧rY m b_0 t2 s_4 qT uA t104 t105=some r) aW ?_ ?_ ?_
       · rintro s ⟨_,_,_,_,_,_,_,_,h⟩;cases h
       · refine ⟨_,?_,b_0,(aD.mk (aJ.mk t2.Graph.Config [] []) []),(aD.mk (aJ.mk s_4.Graph.Config s_4.Graph.Hashes []) []),qT,uA,c_5.N,0,rfl,hm⟩;refine St.Le.trans (aXy 2 5 910401 2 (ys:=[.v (.int .i64 s_4.Graph.Config.N),.v (.int .i64 s_4.Graph.Config.L),.v (.int .i64 s_4.Graph.Config.R),.own 3 0 s_4.Graph.Hashes.length,.v (.slice none 0 0),.own 910401 0 0]) Z3 (by rfl) Z5 (by rfl)) ?_;exact cP (fun j=>bif j==1 then 1 else bif j==2 then 2 else bif j==3 then 3 else bif j==4 then 910401 else 0) (wV (wV (wV (wV (bH _ _ (kX Z1 rfl Z7) (bH _ _ (kX Z1 rfl Z7) (wV dR))))))) (gM _ (eU cX (eU jQ (cH (jV Z3 rfl (.cons (.data _ (.v _)) (.cons (.data _ (.v _)) (.cons (.data _ (.v _)) (.cons (uY (by first|rfl|omega|(dsimp only;omega)) rfl Z7) (.cons (.data _ (.v _)) (.cons (uY (by first|rfl|omega|(dsimp only;omega)) rfl Z7) .nil))))))) (cH (jV Z3 rfl (.cons (.data _ (.v _)) (.cons (.data _ (.v _)) (.cons (.data _ (.v _)) (.cons (.data _ (.v _)) (.cons (.data _ (.v _)) (.cons (.data _ (.v _)) .nil))))))) dA)))) Z8)
       ·
        rintro n2 s ⟨b_0,t2,s_4,qT,uA,t104,t105,rfl,hm⟩;replace hm:wA (rY n2) b_0 t2 s_4 qT uA t104 t105=some r:=hm;unfold wA at hm;refine sr (N':=128) rfl ?_;refine pA ?_;refine fs ?_;refine AWp.seq' ?_;refine AWp.condM hm Z1 (fun _ hm=>?_) (fun _ hm=>?_)
        ·
         refine AWp.skip ?_;refine bQ ?_;refine AWp.seq' ?_;refine AWp.block ?_;refine sd mix (by kernel_rfl) (N':=192) rfl ?_;refine pA ?_;refine pu rfl (hY Z1 Z3 Z4) ?_
         iterate 2 refine pA ?_
         obtain ⟨b16,h15,hm⟩:=bnd hm;refine pu rfl (aRi underlying9 Z1 Z1 h15) ?_
         iterate 4 refine pA ?_
         obtain ⟨r18,h17,hm⟩:=bnd hm;refine aR.callQ (r:= .v (.int .u64 r18)) Zd Z1 aXc (fun H=>(cV (cV (cV .nil)))) (rW h17) ?_;refine pu rfl (by simp only [go_sem,Nat.reduceBEq];exact (by kernel_rfl:aAa prog 96 [(0,.v (.bool (b16==1))),(1,.v (.int .u64 r18))]=some (.agg [.v (.bool (b16==1)),.v (.int .u64 r18)]))) ?_;refine hp (id:=139) rfl rfl (kY cX (l:=[(aI.mk (b16==1) r18)]) underlying31 bR1 bRg Z5 Zd Zd Zd (by simp only [go_sem,Nat.reduceBEq];try rfl) (by kernel_rfl)) ?_;obtain ⟨l20,h19,hm⟩:=bnd hm;refine hp (id:=140) rfl rfl (wX cX underlying31 underlying31 rfl bSy bVn (by rw [bCn];decide) (by rw [bCn];decide) bVp Zd Zd Z1 Z3 Z6 (aAd cX Z1 Z3 Z6) rfl Z5 h19) ?_;refine pA ?_;refine aR.heap0 (id:=142) rfl (oD (ys:=[.v (.int .i64 s_4.Graph.Config.N),.v (.int .i64 s_4.Graph.Config.L),.v (.int .i64 s_4.Graph.Config.R),.own 3 0 s_4.Graph.Hashes.length,.v (.slice none 0 0),.own 140 0 l20.length]) cHh Z1 Z1 Z3 rfl (Nat.le_of_ble_eq_true rfl) Z9 rfl) ?_;refine fs ?_;refine AWp.reg 64 (N':=256) rfl ?_
         iterate 3 refine pA ?_
         refine aR.fin ?_;refine jS ?_;refine bQ ?_;refine AWp.reg 64 (N':=320) rfl ?_
         iterate 2 refine pA ?_
         refine aR.fin ?_;refine hZ ?_;refine ⟨_,?_,b_0,(aD.mk (aJ.mk t2.Graph.Config [] []) []),(aD.mk (aJ.mk s_4.Graph.Config s_4.Graph.Hashes []) l20),qT,(IntKind.i64.wrap (uA+9)),t104,(IntKind.i64.wrap (t105+1)),rfl,hm⟩;exact cP (fun j=>bif j==1 then 1 else bif j==2 then 2 else bif j==3 then 3 else bif j==4 then 140 else 0) (wV (wV (wV (wV (bH _ _ (kX Z1 rfl Z7) (bH _ _ (kX Z1 rfl Z7) (wV dR))))))) (gM _ (eU cX (eU jQ (cH (jV Z3 rfl (.cons (.data _ (.v _)) (.cons (.data _ (.v _)) (.cons (.data _ (.v _)) (.cons (uY (by first|rfl|omega|(dsimp only;omega)) rfl Z7) (.cons (.data _ (.v _)) (.cons (uY (by first|rfl|omega|(dsimp only;omega)) rfl Z7) .nil))))))) (cH (jV Z3 rfl (.cons (.data _ (.v _)) (.cons (.data _ (.v _)) (.cons (.data _ (.v _)) (.cons (.data _ (.v _)) (.cons (.data _ (.v _)) (.cons (.data _ (.v _)) .nil))))))) dA)))) Z8)
        ·
         refine AWp.exit ?_;refine kG ?_;refine jB ?_;refine iS ?_;refine bQ ?_;refine sr (N':=192) rfl ?_
         iterate 3 refine pA ?_
         refine fs ?_;refine AWp.seq' ?_;refine sr (N':=256) rfl ?_
         iterate 3 refine pu rfl Zj ?_
         refine fs ?_;refine AWp.block ?_;refine AWp.loopM (fun m s=> ∃(b_0:ByteArray) (t2:aD) (s_4:aD) (uA:Int) (t127:Int) (t128:Int),s=(⟨157,(aF (aF (aF (aF (aF (aF (fun _=>AV.any) 0 (.v (.string b_0))) 2 (.adr 1 0)) 4 (.adr 2 0)) 8 (.v (.int .i64 uA))) 127 (.v (.int .i64 t127))) 128 (.v (.int .i64 t128))),⟨(upd (upd (upd (upd (upd aY 1 (.cells 1 [.v (.int .i64 t2.Graph.Config.N),.v (.int .i64 t2.Graph.Config.L),.v (.int .i64 t2.Graph.Config.R),.v (.slice none 0 0),.v (.slice none 0 0),.v (.slice none 0 0)] 0)) 2 (.cells 1 [.v (.int .i64 s_4.Graph.Config.N),.v (.int .i64 s_4.Graph.Config.L),.v (.int .i64 s_4.Graph.Config.R),.own 3 0 s_4.Graph.Hashes.length,.own 4 0 s_4.Graph.Edges.length,.own 5 0 s_4.Slots.length] 0)) 3 (.cells 2 (s_4.Graph.Hashes.flatMap cL) 0)) 4 (.cells 3 (s_4.Graph.Edges.flatMap aV) 0)) 5 (.cells 2 (s_4.Slots.flatMap aX) 0)),64⟩⟩:St)∧rZ m b_0 t2 s_4 uA t127 t128=some r) aW ?_ ?_ ?_
         · rintro s ⟨_,_,_,_,_,_,_,h⟩;cases h
         · refine ⟨_,?_,b_0,(aD.mk (aJ.mk t2.Graph.Config [] []) []),(aD.mk (aJ.mk s_4.Graph.Config s_4.Graph.Hashes []) s_4.Slots),(IntKind.i64.wrap (uA+4)),(IntKind.i64.wrap (Int.tdiv qT 5)),0,rfl,hm⟩;refine St.Le.trans (aXy 2 4 910401 3 (ys:=[.v (.int .i64 s_4.Graph.Config.N),.v (.int .i64 s_4.Graph.Config.L),.v (.int .i64 s_4.Graph.Config.R),.own 3 0 s_4.Graph.Hashes.length,.own 910401 0 0,.own 4 0 s_4.Slots.length]) Z3 (by rfl) Z5 (by rfl)) ?_;exact cP (fun j=>bif j==1 then 1 else bif j==2 then 2 else bif j==3 then 3 else bif j==4 then 910401 else bif j==5 then 4 else 0) (wV (wV (wV (bH _ _ (kX Z1 rfl Z7) (bH _ _ (kX Z1 rfl Z7) (wV dR)))))) (gM _ (eU cX (eU cI (eU jQ (cH (jV Z3 rfl (.cons (.data _ (.v _)) (.cons (.data _ (.v _)) (.cons (.data _ (.v _)) (.cons (uY (by first|rfl|omega|(dsimp only;omega)) rfl Z7) (.cons (uY (by first|rfl|omega|(dsimp only;omega)) rfl Z7) (.cons (uY (by first|rfl|omega|(dsimp only;omega)) rfl Z7) .nil))))))) (cH (jV Z3 rfl (.cons (.data _ (.v _)) (.cons (.data _ (.v _)) (.cons (.data _ (.v _)) (.cons (.data _ (.v _)) (.cons (.data _ (.v _)) (.cons (.data _ (.v _)) .nil))))))) dA))))) Z8)
         ·
          rintro n3 s ⟨b_0,t2,s_4,uA,t127,t128,rfl,hm⟩;replace hm:wB (rZ n3) b_0 t2 s_4 uA t127 t128=some r:=hm;unfold wB at hm;refine sr (N':=128) rfl ?_;refine pA ?_;refine fs ?_;refine AWp.seq' ?_;refine AWp.condM hm Z1 (fun _ hm=>?_) (fun _ hm=>?_)
          ·
           refine AWp.skip ?_;refine bQ ?_;refine AWp.seq' ?_;refine AWp.block ?_;refine sd mix (by kernel_rfl) (N':=192) rfl ?_
           iterate 2 refine pA ?_
           obtain ⟨r22,h21,hm⟩:=bnd hm;refine aR.callQ (r:= .v (.int .u64 r22)) Zd Z1 aXc (fun H=>(cV (cV (cV .nil)))) (rW h21) ?_
           iterate 4 refine pA ?_
           obtain ⟨r24,h23,hm⟩:=bnd hm;refine aR.callQ (r:= .v (.int .u64 r24)) Zd Z1 aXc (fun H=>(cV (cV (cV .nil)))) (rW h23) ?_
           iterate 4 refine pA ?_
           obtain ⟨b26,h25,hm⟩:=bnd hm;refine pu rfl (aRi underlying9 Z1 Z1 h25) ?_;refine pA ?_;refine pu rfl (by simp only [go_sem,Nat.reduceBEq];exact (by kernel_rfl:aAa prog 61 [(0,.v (.int .i64 (IntKind.i64.wrap r22))),(1,.v (.int .i64 (IntKind.i64.wrap r24))),(2,.v (.int .i64 (IntKind.i64.wrap b26)))]=some (.agg [.v (.int .i64 (IntKind.i64.wrap r22)),.v (.int .i64 (IntKind.i64.wrap r24)),.v (.int .i64 (IntKind.i64.wrap b26))]))) ?_;refine hp (id:=143) rfl rfl (nQ aZh Z5) ?_;refine aR.heap0 (id:=144) rfl (oD (ys:=[.v (.int .i64 (IntKind.i64.wrap r22)),.v (.int .i64 (IntKind.i64.wrap r24)),.v (.int .i64 (IntKind.i64.wrap b26))]) aNz Z1 Z1 Z3 rfl (Nat.le_of_ble_eq_true rfl) Z9 rfl) ?_;refine fs ?_;refine sr (N':=256) rfl ?_
           iterate 2 refine pA ?_
           refine pu rfl (hY Z1 Z3 Z4) ?_;refine pu rfl (hY Z1 Z3 Z2) ?_;refine hp (id:=196) rfl rfl (kY cI (l:=[(aE.mk (IntKind.i64.wrap r22) (IntKind.i64.wrap r24) (IntKind.i64.wrap b26))]) underlying28 aNz aZh Z5 Zd Zd Zd (by simp only [go_sem,Nat.reduceBEq];try rfl) (by kernel_rfl)) ?_;obtain ⟨l28,h27,hm⟩:=bnd hm;refine hp (id:=197) rfl rfl (wX cI underlying28 underlying28 rfl bOr bR9 (by rw [aV7];decide) (by rw [aV7];decide) bRa Zd Zd Z1 Z3 Z6 (aAd cI Z1 Z3 Z6) rfl Z5 h27) ?_
           iterate 2 refine pA ?_
           refine aR.heap0 (id:=200) rfl (oD (ys:=[.v (.int .i64 s_4.Graph.Config.N),.v (.int .i64 s_4.Graph.Config.L),.v (.int .i64 s_4.Graph.Config.R),.own 3 0 s_4.Graph.Hashes.length,.own 197 0 l28.length,.own 5 0 s_4.Slots.length]) bVh Z1 Z1 Z3 rfl (Nat.le_of_ble_eq_true rfl) Z9 rfl) ?_;refine fs ?_;refine AWp.reg 64 (N':=320) rfl ?_
           iterate 3 refine pA ?_
           refine aR.fin ?_;refine jS ?_;refine bQ ?_;refine AWp.reg 64 (N':=384) rfl ?_
           iterate 2 refine pA ?_
           refine aR.fin ?_;refine hZ ?_;refine ⟨_,?_,b_0,(aD.mk (aJ.mk t2.Graph.Config [] []) []),(aD.mk (aJ.mk s_4.Graph.Config s_4.Graph.Hashes l28) s_4.Slots),(IntKind.i64.wrap (uA+5)),t127,(IntKind.i64.wrap (t128+1)),rfl,hm⟩;exact cP (fun j=>bif j==1 then 1 else bif j==2 then 2 else bif j==3 then 3 else bif j==4 then 197 else bif j==5 then 5 else 0) (wV (wV (wV (bH _ _ (kX Z1 rfl Z7) (bH _ _ (kX Z1 rfl Z7) (wV dR)))))) (gM _ (eU cX (eU cI (eU jQ (cH (jV Z3 rfl (.cons (.data _ (.v _)) (.cons (.data _ (.v _)) (.cons (.data _ (.v _)) (.cons (uY (by first|rfl|omega|(dsimp only;omega)) rfl Z7) (.cons (uY (by first|rfl|omega|(dsimp only;omega)) rfl Z7) (.cons (uY (by first|rfl|omega|(dsimp only;omega)) rfl Z7) .nil))))))) (cH (jV Z3 rfl (.cons (.data _ (.v _)) (.cons (.data _ (.v _)) (.cons (.data _ (.v _)) (.cons (.data _ (.v _)) (.cons (.data _ (.v _)) (.cons (.data _ (.v _)) .nil))))))) dA))))) Z8)
          · refine AWp.exit ?_;refine kG ?_;refine jB ?_;refine iS ?_;refine bQ ?_;refine sr (N':=192) rfl ?_;refine pu rfl (hY Z1 Z3 Z2) ?_;refine aR.heap0 (id:=129) rfl (oD (ys:=[.v (.int .i64 s_4.Graph.Config.N),.v (.int .i64 s_4.Graph.Config.L),.v (.int .i64 s_4.Graph.Config.R),.own 3 0 s_4.Graph.Hashes.length,.own 4 0 s_4.Graph.Edges.length,.own 5 0 s_4.Slots.length]) bM6 Z1 Z1 Z3 rfl (Nat.le_of_ble_eq_true rfl) Z9 rfl) ?_;refine pA ?_;refine fs ?_;refine AWp.ret ?_;cases hm;exact bFq (.inr rfl) (by rw [Tryz.results44]) (.cell (aGt Z1 Z3 Z2) (.tmp Z1 .nil)) rfl (tdt (.cons (tda rfl (.cons (.data _ (.v _)) (.cons (.data _ (.v _)) (.cons (.data _ (.v _)) (.cons (tdo jQ rfl Z3 Z6) (.cons (tdo cI rfl Z3 Z6) (.cons (tdo cX rfl Z3 Z6) .nil))))))) (.cons (td rfl (.v _)) .nil)))
instance:Ct prog 44 (K1 prog vs (t2 dC vb) 44 oA):=⟨fun hm=>aZ5 hm⟩
def mM(b_0:ByteArray):Option (aD×Int):=
 ((oA b_0).bind fun ⟨r2,r3⟩=>
 (bif (!r3) then
  some ((aD.mk (aJ.mk (bC.mk 0 0 0) [] []) []),12)
 else
  ((oM r2).bind fun ⟨r5,r6⟩=>
  (bif ((r6 !=0)||(!decide (r5=b_0))) then
   some ((aD.mk (aJ.mk (bC.mk 0 0 0) [] []) []),12)
  else
   some (r2,0)))))
theorem aV4:K1 prog vs (t2 dC vi) 14 mM:=fun hm=>be 30 func14 (h:=G)
instance:Ct prog 14 (K1 prog vs (t2 dC vi) 14 mM):=⟨aV4⟩
abbrev kI(s_4:aD)(t8:aD)(bXh:Int):Option (aD×Int):=
 some (s_4,bXh)
def kD(s_0:aD)(c_1:dK)(u_2:Int)(v_3:Int):Option (aD×Int):=
 (bif (c_1.Do==1) then
  ((aEh s_0.Slots c_1.A).bind fun ⟨r2,r3,r4⟩=>
  kI (aD.mk s_0.Graph r2) (aD.mk (aJ.mk (bC.mk 0 0 0) [] []) []) r4)
 else
  (bif (c_1.Do==2) then
   ((rN s_0 u_2).bind fun r6=>
   (bif (decide (0<r6)) then
    some (s_0,11)
   else
    ((wK s_0.Slots c_1.A).bind fun ⟨r8,r9⟩=>
    kI (aD.mk s_0.Graph r8) (aD.mk (aJ.mk (bC.mk 0 0 0) [] []) []) r9)))
  else
   (bif (c_1.Do==3) then
    ((wH s_0.Graph u_2 v_3).bind fun ⟨r11,r12⟩=>
    kI (aD.mk r11 s_0.Slots) (aD.mk (aJ.mk (bC.mk 0 0 0) [] []) []) r12)
   else
    (bif (c_1.Do==4) then
     (bif (u_2==v_3) then
      some (s_0,9)
     else
      ((wG s_0.Graph u_2 v_3).bind fun ⟨r14,r15⟩=>
      kI (aD.mk r14 s_0.Slots) (aD.mk (aJ.mk (bC.mk 0 0 0) [] []) []) r15))
    else
     (bif (c_1.Do==15) then
      ((mM c_1.Text).bind fun ⟨r17,r18⟩=>
      some (r17,r18))
     else
      kI s_0 (aD.mk (aJ.mk (bC.mk 0 0 0) [] []) []) 0)))))
theorem aUk:K4 prog dC qD vi vi (t2 dC vi) 41 kD:=fun hm=>be 76 func41 (h:=G)
instance:Ct prog 41 (K4 prog dC qD vi vi (t2 dC vi) 41 kD):=⟨aUk⟩
def mR(s_0:aD)(c_1:dK):Option (aD×GA):=
 ((eK (((decide (c_1.Do<1))||(decide (15<c_1.Do)))==false) false (mN s_0)).bind fun r2=>
 (bif (((decide (c_1.Do<1))||(decide (15<c_1.Do)))||(!r2)) then
  some (s_0,(GA.i 36 .i64 1))
 else
  ((tY s_0.Slots c_1.A).bind fun ⟨r4,r5⟩=>
  ((tY s_0.Slots c_1.B).bind fun ⟨r7,r8⟩=>
  ((qL c_1.Do).bind fun r10=>
  ((eK ((r10&&(!r5))==false) false (qM c_1.Do)).bind fun r12=>
  (bif ((r10&&(!r5))||(r12&&(!r8))) then
   some (s_0,(GA.i 36 .i64 7))
  else
   (bif ((decide (4<c_1.Do))&&(c_1.Do !=15)) then
    ((oH s_0 c_1.Do r4 r7).bind fun r14=>
    some (s_0,r14))
   else
    ((kD s_0 c_1 r4 r7).bind fun ⟨r16,r17⟩=>
    (bif (r17 !=0) then
     some (s_0,(GA.i 36 .i64 r17))
    else
     some (r16,(GA.i 36 .i64 0))))))))))))
theorem bLi:K2 prog dC qD (t2 dC GA.av) 12 mR:=fun hm=>be 91 func12 (h:=G)
instance:Ct prog 12 (K2 prog dC qD (t2 dC GA.av) 12 mR):=⟨bLi⟩
def iO(s_0:aN)(c_1:dK):Option (aN×ByteArray):=
 (bif (!s_0.On) then
  ((cR (GA.i 36 .i64 3)).bind fun r2=>
  some (s_0,r2))
 else
  ((mR s_0.State c_1).bind fun ⟨r4,r5⟩=>
  ((cR r5).bind fun r7=>
  some ((aN.mk r4 s_0.Words s_0.On),r7))))
theorem aYx:K2 prog eE qD (t2 eE vs) 62 iO:=fun hm=>be 26 func62 (h:=G)
instance:Ct prog 62 (K2 prog eE qD (t2 eE vs) 62 iO):=⟨aYx⟩
def zL(rec2:Int→ByteArray→Nat→Option (Int×Int))(n_6:Int)(t33s:ByteArray)(t33p:Nat):Option (Int×Int):=
 (bif (decide (t33p<t33s.size)) then
  (bif (decide ((IntKind.u64.wrap (Int.tdiv (IntKind.u64.wrap (18446744073709551615-(IntKind.u64.wrap (IntKind.i32.wrap ((((Utf8.decode t33s t33p).1:Nat):Int)-48))))) 10))<n_6)) then
   some (0,6)
  else
   rec2 (IntKind.u64.wrap ((IntKind.u64.wrap (n_6*10))+(IntKind.u64.wrap (IntKind.i32.wrap ((((Utf8.decode t33s t33p).1:Nat):Int)-48))))) t33s (t33p+(Utf8.decode t33s t33p).2))
 else
  some (n_6,0))
def uJ:Nat→Int→ByteArray→Nat→Option (Int×Int)
 |0=>fun _ _ _=>none
 |n+1=>zL (uJ n)
def zK(rec1:ByteArray→ByteArray→Nat→Option (Int×Int))(dJ:ByteArray)(t22s:ByteArray)(t22p:Nat):Option (Int×Int):=
 (bif (decide (t22p<t22s.size)) then
  (bif ((decide ((((Utf8.decode t22s t22p).1:Nat):Int)<48))||(decide (57<(((Utf8.decode t22s t22p).1:Nat):Int)))) then
   some (0,2)
  else
   rec1 dJ t22s (t22p+(Utf8.decode t22s t22p).2))
 else
  uJ aW 0 dJ 0)
def uI:Nat→ByteArray→ByteArray→Nat→Option (Int×Int)
 |0=>fun _ _ _=>none
 |n+1=>zK (uI n)
def xX(dJ:ByteArray):Option (Int×Int):=
 ((eK ((decide (dJ=⟨#[]⟩))==false) 0 (aD0 dJ 0)).bind fun b2=>
 (bif ((decide (dJ=⟨#[]⟩))||((b2==48)&&(!decide (dJ=⟨#[48]⟩)))) then
  some (0,2)
 else
  uI aW dJ dJ 0))
theorem bB8{dJ:ByteArray}{r:Int×Int}(hm:xX dJ=some r):cE prog 110 [.v (.string dJ)] (.tup [.v (.int .u64 r.1),.v (.int .i64 r.2)]):=by
 refine cE.of_body func110 rfl ?_;simp only [ntmps110,List.length_cons,List.length_nil,Nat.reduceAdd,Nat.reduceSub,iN];unfold xX at hm;refine sr (N':=64) rfl ?_
 iterate 2 refine pA ?_
 refine fs ?_;refine AWp.seq' ?_;refine sr (N':=128) rfl ?_
 iterate 4 first|refine pA ?_|refine pB ?_
 obtain ⟨b2,h1,hm⟩:=bnd hm;refine pg rfl rfl Z2 (fun hb=>(aRi underlying9 (Zh hb) (Zh hb) (kQ h1 hb))) ?_
 iterate 6 first|refine pA ?_|refine pB ?_
 refine fs ?_;refine AWp.condM hm Z1 (fun _ hm=>?_) (fun _ hm=>?_)
 ·
  refine sr (N':=192) rfl ?_
  iterate 2 refine pA ?_
  refine fs ?_;refine AWp.ret ?_;refine jE ?_;cases hm;exact aGl (.inr rfl) Tryz.results110 (td Z1 (.v _)) (td Z1 (.v _))
 ·
  refine AWp.skip ?_;refine bQ ?_;refine AWp.seq' ?_;refine sr (N':=192) rfl ?_;refine pA ?_;refine hp (id:=129) rfl rfl (aIm underlying9 Z1 Z5) ?_;refine fs ?_;refine AWp.block ?_;refine AWp.loopM (fun m s=> ∃(dJ:ByteArray) (t22s:ByteArray) (t22p:Nat),s=(⟨50,(aF (aF (fun _=>AV.any) 0 (.v (.string dJ))) 22 (.adr 1 0)),⟨(upd aY 1 (.iter t22s t22p)),64⟩⟩:St)∧uI m dJ t22s t22p=some r) aW ?_ ?_ ?_
  · rintro s ⟨_,_,_,_,h⟩;cases h
  · refine ⟨_,?_,dJ,dJ,0,rfl,hm⟩;exact cP (fun j=>bif j==1 then 129 else 0) (bH _ _ (kX Z1 rfl Z7) (wV dR)) (hW (cH (kZ Z3) dA))
  ·
   rintro n1 s ⟨dJ,t22s,t22p,rfl,hm⟩;replace hm:zK (uI n1) dJ t22s t22p=some r:=hm;unfold zK at hm;refine sr (N':=128) rfl ?_;refine aZ8 hm (fun h3 hm=>?_) (fun h3 hm=>?_)
   ·
    refine hp (id:=64) rfl rfl (aDb Z1 Z3 (of_decide_eq_true h3)) ?_;refine pA ?_;refine fs ?_;refine AWp.seq' ?_;refine AWp.condT Z1 ?_;refine AWp.skip ?_;refine bQ ?_;refine AWp.block ?_;refine sr (N':=192) rfl ?_
    iterate 2 refine pA ?_
    refine fs ?_;refine sr (N':=256) rfl ?_
    iterate 6 first|refine pA ?_|refine pB ?_
    refine fs ?_;refine AWp.condM hm Z1 (fun _ hm=>?_) (fun _ hm=>?_)
    ·
     refine sr (N':=320) rfl ?_
     iterate 2 refine pA ?_
     refine fs ?_;refine AWp.ret ?_;refine sI ?_;refine sJ ?_;refine sI ?_;refine jE ?_;cases hm;exact aGl (.inr rfl) Tryz.results110 (td Z1 (.v _)) (td Z1 (.v _))
    · refine AWp.skip ?_;refine jS ?_;refine hZ ?_;refine ⟨_,?_,dJ,t22s,(t22p+(Utf8.decode t22s t22p).2),rfl,hm⟩;exact cP (fun j=>bif j==1 then 1 else 0) (bH _ _ (kX Z1 rfl Z7) (wV dR)) (hW (cH (kZ Z3) dA))
   ·
    refine hp (id:=64) rfl rfl (aFg Z1 Z3 (of_decide_eq_false h3)) ?_;refine pA ?_;refine fs ?_;refine AWp.seq' ?_;refine AWp.condF Z1 ?_;refine AWp.exit ?_;refine kG ?_;refine jB ?_;refine iS ?_;refine bQ ?_;refine sr (N':=192) rfl ?_;refine pA ?_;refine fs ?_;refine AWp.seq' ?_;refine sr (N':=256) rfl ?_;refine pA ?_;refine hp (id:=193) rfl rfl (aIm underlying9 Z1 Z5) ?_;refine fs ?_;refine AWp.block ?_;refine AWp.loopM (fun m s=> ∃(n_6:Int) (t33s:ByteArray) (t33p:Nat),s=(⟨50,(aF (aF (fun _=>AV.any) 6 (.v (.int .u64 n_6))) 33 (.adr 1 0)),⟨(upd aY 1 (.iter t33s t33p)),64⟩⟩:St)∧uJ m n_6 t33s t33p=some r) aW ?_ ?_ ?_
    · rintro s ⟨_,_,_,_,h⟩;cases h
    · refine ⟨_,?_,0,dJ,0,rfl,hm⟩;exact cP (fun j=>bif j==1 then 193 else 0) (bH _ _ (kX Z1 rfl Z7) (wV dR)) (hW (cH (kZ Z3) dA))
    ·
     rintro n2 s ⟨n_6,t33s,t33p,rfl,hm⟩;replace hm:zL (uJ n2) n_6 t33s t33p=some r:=hm;unfold zL at hm;refine sr (N':=128) rfl ?_;refine aZ8 hm (fun h4 hm=>?_) (fun h4 hm=>?_)
     ·
      refine hp (id:=64) rfl rfl (aDb Z1 Z3 (of_decide_eq_true h4)) ?_;refine pA ?_;refine fs ?_;refine AWp.seq' ?_;refine AWp.condT Z1 ?_;refine AWp.skip ?_;refine bQ ?_;refine AWp.block ?_;refine sr (N':=192) rfl ?_
      iterate 2 refine pA ?_
      refine fs ?_;refine sr (N':=256) rfl ?_
      iterate 4 refine pA ?_
      refine fs ?_;refine AWp.seq' ?_;refine sr (N':=320) rfl ?_
      iterate 5 refine pu rfl Zj ?_
      refine fs ?_;refine AWp.condM hm Z1 (fun _ hm=>?_) (fun _ hm=>?_)
      ·
       refine sr (N':=384) rfl ?_
       iterate 2 refine pA ?_
       refine fs ?_;refine AWp.ret ?_;refine jE ?_;refine sI ?_;refine sJ ?_;refine sI ?_;refine jE ?_;cases hm;exact aGl (.inr rfl) Tryz.results110 (td Z1 (.v _)) (td Z1 (.v _))
      ·
       refine AWp.skip ?_;refine bQ ?_;refine AWp.reg 64 (N':=384) rfl ?_
       iterate 5 refine pA ?_
       refine aR.fin ?_;refine jS ?_;refine hZ ?_;refine ⟨_,?_,(IntKind.u64.wrap ((IntKind.u64.wrap (n_6*10))+(IntKind.u64.wrap (IntKind.i32.wrap ((((Utf8.decode t33s t33p).1:Nat):Int)-48))))),t33s,(t33p+(Utf8.decode t33s t33p).2),rfl,hm⟩;exact cP (fun j=>bif j==1 then 1 else 0) (bH _ _ (kX Z1 rfl Z7) (wV dR)) (hW (cH (kZ Z3) dA))
     ·
      refine hp (id:=64) rfl rfl (aFg Z1 Z3 (of_decide_eq_false h4)) ?_;refine pA ?_;refine fs ?_;refine AWp.seq' ?_;refine AWp.condF Z1 ?_;refine AWp.exit ?_;refine kG ?_;refine jB ?_;refine iS ?_;refine bQ ?_;refine sr (N':=192) rfl ?_
      iterate 3 refine pA ?_
      refine fs ?_;refine AWp.ret ?_;cases hm;exact aGl (.inr rfl) Tryz.results110 (td Z1 (.v _)) (td Z1 (.v _))
instance:Ct prog 110 (K1 prog vs (t2 vu vi) 110 xX):=⟨fun hm=>bB8 hm⟩
def aAv(rec1:List Int→List ByteArray→Int→Int→Option ((List Int)×Int))(aEz:List Int)(t9:List ByteArray)(t10:Int)(t11:Int):Option ((List Int)×Int):=
 (bif (decide (t11<t10)) then
  ((idx t9 t11).bind fun x2=>
  ((xX x2).bind fun ⟨r4,r5⟩=>
  (bif (r5 !=0) then
   some ([],r5)
  else
   ((app aEz [r4]).bind fun l7=>
   rec1 l7 t9 t10 (IntKind.i64.wrap (t11+1))))))
 else
  some (aEz,0))
def pO:Nat→List Int→List ByteArray→Int→Int→Option ((List Int)×Int)
 |0=>fun _ _ _ _=>none
 |n+1=>aAv (pO n)
def rD(aZf:List ByteArray):Option ((List Int)×Int):=
 pO aW [] aZf (aZf.length:Int) 0
theorem aRd:K1 prog (vl lT) (t2 (vl (ci .u64)) vi) 63 rD:=by
 intro aZf r hm
 let I1:=((fun m s=> ∃aEz t9 t10 t11,s=⟨29,(aF (aF (aF (aF fa 4 (.own 1 0 aEz.length)) 9 (vl lT t9)) 10 (vi t10)) 11 (vi t11)),⟨(upd aY 1 (.cells 1 (aEz.flatMap (ci .u64)) 0)),64⟩⟩∧pO m aEz t9 t10 t11=some r):Nat→St→Prop)
 exact be 29 func63 (h:=G)
instance:Ct prog 63 (K1 prog (vl lT) (t2 (vl (ci .u64)) vi) 63 rD):=⟨aRd⟩
def nU(n_0:Int)(m_1:Int):Option (Bool):=
 some ((((decide (1≤n_0))&&(decide (n_0≤1024)))&&(decide (0≤m_1)))&&(decide (m_1≤2147483647)))
theorem aYh:K2 prog vi vi vb 147 nU:=fun hm=>be 19 func147 (h:=G)
instance:Ct prog 147 (K2 prog vi vi vb 147 nU):=⟨aYh⟩
def aAs(k_0:Int):Option (Bool):=
 some ((decide (0≤k_0))&&(decide (k_0≤64)))
theorem bFl:K1 prog vi vb 148 aAs:=fun hm=>be 9 func148 (h:=G)
instance:Ct prog 148 (K1 prog vi vb 148 aAs):=⟨bFl⟩
def qG(l_0:Int)(r_1:Int):Option (Bool):=
 some ((((decide (1≤l_0))&&(decide (l_0≤16)))&&(decide (1≤r_1)))&&(decide (r_1≤8)))
theorem bBs:K2 prog vi vi vb 180 qG:=fun hm=>be 19 func180 (h:=G)
instance:Ct prog 180 (K2 prog vi vi vb 180 qG):=⟨bBs⟩
def aHo(rec1:Int→Int→Int→Int→Option (Int))(a_0:Int)(p_5:Int)(t6:Int)(t7:Int):Option (Int):=
 (bif (decide (t7<t6)) then
  rec1 a_0 (IntKind.u64.wrap (p_5*a_0)) t6 (IntKind.i64.wrap (t7+1))
 else
  some p_5)
def zR:Nat→Int→Int→Int→Int→Option (Int)
 |0=>fun _ _ _ _=>none
 |n+1=>aHo (zR n)
def yB(a_0:Int)(n_1:Int):Option (Int):=
 zR aW a_0 1 n_1 0
theorem bBr:K2 prog vu vi vu 226 yB:=by
 intro a_0 n_1 r hm
 let I1:=((fun m s=> ∃a_0 p_5 t6 t7,s=⟨14,(aF (aF (aF (aF fa 0 (vu a_0)) 5 (vu p_5)) 6 (vi t6)) 7 (vi t7)),⟨aY,64⟩⟩∧zR m a_0 p_5 t6 t7=some r):Nat→St→Prop)
 exact be 14 func226 (h:=G)
instance:Ct prog 226 (K2 prog vu vi vu 226 yB):=⟨bBr⟩
def qW(s_0:List Int):Option ((List Int)):=
 ((bLx s_0 0 (s_0.length:Int) (s_0.length:Int)).bind fun l2=>
 some l2)
theorem aM4{s_0:List Int}{r:(List Int)}(hm:qW s_0=some r):cE prog 250 [vl (ci .u32) s_0] (vl (ci .u32) r):=by
 refine bd 9 func250 ?_;obtain ⟨l2,h1,hm⟩:=bnd hm;refine W ?_;refine pu rfl (bRw (CFi .u32) underlying253 bWm Z1 rfl aS0 (aCk Z1 (bQt h1).2.1) (aCk Z1 (bQt h1).2.2) rfl rfl h1) ?_;exact E
instance:Ct prog 250 (K1 prog (vl (ci .u32)) (vl (ci .u32)) 250 qW):=⟨fun hm=>aM4 hm⟩
def aFm(rec1:List Int→Option ((List Int)))(a_0:List Int):Option ((List Int)):=
 ((eK ((decide (0<(a_0.length:Int)))==true) 0 (idx a_0 (IntKind.i64.wrap ((a_0.length:Int)-1)))).bind fun x2=>
 (bif ((decide (0<(a_0.length:Int)))&&(x2==0)) then
  ((slc a_0 0 (IntKind.i64.wrap ((a_0.length:Int)-1))).bind fun l4=>
  rec1 l4)
 else
  ((qW a_0).bind fun r6=>
  some r6)))
def vQ:Nat→List Int→Option ((List Int))
 |0=>fun _=>none
 |n+1=>aFm (vQ n)
def uM(a_0:List Int):Option ((List Int)):=
 vQ aW a_0
theorem aN9:K1 prog (vl (ci .u32)) (vl (ci .u32)) 228 uM:=by
 intro a_0 r hm
 let I1:=((fun m s=> ∃a_0,s=⟨22,(aF fa 0 (vl (ci .u32) a_0)),⟨aY,64⟩⟩∧vQ m a_0=some r):Nat→St→Prop)
 exact be 22 func228 (h:=G)
instance:Ct prog 228 (K1 prog (vl (ci .u32)) (vl (ci .u32)) 228 uM):=⟨aN9⟩
def aB3(n_0:Int):Option ((List Int)):=
 ((uM [(IntKind.u32.wrap n_0),(IntKind.u32.wrap (shr .u64 n_0 32))]).bind fun r2=>
 some r2)
theorem bV4{n_0:Int}{r:(List Int)}(hm:aB3 n_0=some r):cE prog 184 [vu n_0] (vl (ci .u32) r):=by
 refine bd 10 func184 ?_;refine W ?_;refine aL (CFi .u32) [(IntKind.u32.wrap n_0),(IntKind.u32.wrap (shr .u64 n_0 32))] ?_;obtain ⟨r2,h1,hm⟩:=bnd hm;refine aR.callL1 (r:= .sl (r2.flatMap (ci .u32)) r2.length false) (id:=69) Zd Z1 cAe Z3 (.cons (tdl (CFi .u32) Z1 Z3 (by simp) Z6) .nil) (aN9 h1) ?_;exact E
instance:Ct prog 184 (K1 prog vu (vl (ci .u32)) 184 aB3):=⟨fun hm=>bV4 hm⟩
def mW(a_0:List Int):Option (Bool):=
 ((eK (((decide ((a_0.length:Int)≤64))==true)&&(((a_0.length:Int)==0)==false)) 0 (idx a_0 (IntKind.i64.wrap ((a_0.length:Int)-1)))).bind fun x2=>
 some ((decide ((a_0.length:Int)≤64))&&(((a_0.length:Int)==0)||(x2 !=0))))
theorem aDs:K1 prog (vl (ci .u32)) vb 227 mW:=fun hm=>be 20 func227 (h:=G)
instance:Ct prog 227 (K1 prog (vl (ci .u32)) vb 227 mW):=⟨aDs⟩
def uL(a_0:List Int):Option ((List Int)×Int):=
 ((uM a_0).bind fun r2=>
 (bif (decide (64<(r2.length:Int))) then
  some ([],6)
 else
  some (r2,0)))
theorem aHh:K1 prog (vl (ci .u32)) (t2 (vl (ci .u32)) vi) 229 uL:=fun hm=>be 10 func229 (h:=G)
instance:Ct prog 229 (K1 prog (vl (ci .u32)) (t2 (vl (ci .u32)) vi) 229 uL):=⟨aHh⟩
abbrev aOy(rec1:List Int→List Int→List Int→Int→Int→Int→Option ((List Int)×Int))(a_0:List Int)(b_1:List Int)(nA:List Int)(wT:Int)(t26:Int)(t27:Int):Option ((List Int)×Int):=
 rec1 a_0 b_1 nA wT t26 (IntKind.i64.wrap (t27+1))
abbrev aGf(rec1:List Int→List Int→List Int→Int→Int→Int→Option ((List Int)×Int))(a_0:List Int)(b_1:List Int)(nA:List Int)(i_8:Int)(t_9:Int)(t26:Int)(t27:Int):Option ((List Int)×Int):=
 ((idx nA i_8).bind fun x8=>
 ((stt nA i_8 (IntKind.u32.wrap t_9)).bind fun l10=>
 aOy rec1 a_0 b_1 l10 (shr .u64 t_9 32) t26 t27))
abbrev aGe(rec1:List Int→List Int→List Int→Int→Int→Int→Option ((List Int)×Int))(a_0:List Int)(b_1:List Int)(nA:List Int)(i_8:Int)(t_9:Int)(t26:Int)(t27:Int):Option ((List Int)×Int):=
 (bif (decide (i_8<(b_1.length:Int))) then
  ((idx b_1 i_8).bind fun x12=>
  aGf rec1 a_0 b_1 nA i_8 (IntKind.u64.wrap (t_9+(IntKind.u64.wrap x12))) t26 t27)
 else
  aGf rec1 a_0 b_1 nA i_8 t_9 t26 t27)
def aOx(rec1:List Int→List Int→List Int→Int→Int→Int→Option ((List Int)×Int))(a_0:List Int)(b_1:List Int)(nA:List Int)(wT:Int)(t26:Int)(t27:Int):Option ((List Int)×Int):=
 (bif (decide (t27<t26)) then
  (bif (decide (t27<(a_0.length:Int))) then
   ((idx a_0 t27).bind fun x14=>
   aGe rec1 a_0 b_1 nA t27 (IntKind.u64.wrap (wT+(IntKind.u64.wrap x14))) t26 t27)
  else
   aGe rec1 a_0 b_1 nA t27 wT t26 t27)
 else
  ((uL nA).bind fun ⟨r16,r17⟩=>
  some (r16,r17)))
def rO:Nat→List Int→List Int→List Int→Int→Int→Int→Option ((List Int)×Int)
 |0=>fun _ _ _ _ _ _=>none
 |n+1=>aOx (rO n)
def aJh(a_0:List Int)(b_1:List Int):Option ((List Int)×Int):=
 ((mW a_0).bind fun r2=>
 ((eK ((!r2)==false) false (mW b_1)).bind fun r4=>
 (bif ((!r2)||(!r4)) then
  some ([],1)
 else
  ((mkc (IntKind.i64.wrap ((if (a_0.length:Int)<(b_1.length:Int) then (b_1.length:Int) else (a_0.length:Int))+1)) (IntKind.i64.wrap ((if (a_0.length:Int)<(b_1.length:Int) then (b_1.length:Int) else (a_0.length:Int))+1)) 0).bind fun l6=>
  rO aW a_0 b_1 l6 0 (l6.length:Int) 0))))
theorem bPq{a_0:List Int}{b_1:List Int}{r:(List Int)×Int}(hm:aJh a_0 b_1=some r):cE prog 225 [vl (ci .u32) a_0,vl (ci .u32) b_1] (.tup [vl (ci .u32) r.1,vi r.2]):=by
 refine bd 65 func225 ?_;obtain ⟨r2,h1,hm⟩:=bnd hm;refine W ?_;refine cq (aDs h1) ?_;obtain ⟨r4,h3,hm⟩:=bnd hm;refine W ?_;refine cg (fun hb=>aDs (kQ h3 hb)) ?_;refine W ?_;refine cm hm (fun hm=>?_) fun hm=>?_
 · exact E
 obtain ⟨l6,h5,hm⟩:=bnd hm;refine W ?_;refine aK (CFi .u32) h5 ?_;refine W ?_;refine lp (fun m s=> ∃a_0 b_1 nA wT t26 t27,s=⟨65,(aF (aF (aF (aF (aF (aF fa 0 (vl (ci .u32) a_0)) 1 (vl (ci .u32) b_1)) 6 (.own 1 0 nA.length)) 7 (vu wT)) 26 (vi t26)) 27 (vi t27)),⟨(upd aY 1 (.cells 1 (nA.flatMap (ci .u32)) 0)),64⟩⟩∧rO m a_0 b_1 nA wT t26 t27=some r) (Lr (fun j=>bif j==1 then 134 else 0)) ?_;rintro n1 s ⟨a_0,b_1,nA,wT,t26,t27,rfl,hm⟩;refine W ?_;refine cm hm (fun hm=>?_) fun hm=>?_
 ·
  refine V ?_;refine AWp.seqJ (fun s=> ∃a_0 b_1 nA wT t26 t27,s=⟨65,(aF (aF (aF (aF (aF (aF fa 0 (vl (ci .u32) a_0)) 1 (vl (ci .u32) b_1)) 6 (.own 1 0 nA.length)) 7 (vu wT)) 26 (vi t26)) 27 (vi t27)),⟨(upd aY 1 (.cells 1 (nA.flatMap (ci .u32)) 0)),64⟩⟩∧aOy (rO n1) a_0 b_1 nA wT t26 t27=some r) ?_ ?_
  ·
   refine V ?_;refine AWp.seqJ (fun s=> ∃a_0 b_1 nA i_8 t_9 t26 t27,s=⟨65,(aF (aF (aF (aF (aF (aF (aF fa 0 (vl (ci .u32) a_0)) 1 (vl (ci .u32) b_1)) 6 (.own 1 0 nA.length)) 8 (vi i_8)) 9 (vu t_9)) 26 (vi t26)) 27 (vi t27)),⟨(upd aY 1 (.cells 1 (nA.flatMap (ci .u32)) 0)),64⟩⟩∧aGe (rO n1) a_0 b_1 nA i_8 t_9 t26 t27=some r) ?_ ?_
   ·
    refine W ?_;refine cm hm (fun hm=>?_) fun hm=>?_
    · obtain ⟨x14,h13,hm⟩:=bnd hm;refine W ?_;exact Lr (fun j=>bif j==1 then 1 else 0)
    refine W ?_;exact Lr (fun j=>bif j==1 then 1 else 0)
   rintro s ⟨a_0,b_1,nA,i_8,t_9,t26,t27,rfl,hm⟩;refine AWp.seqJ (fun s=> ∃a_0 b_1 nA i_8 t_9 t26 t27,s=⟨65,(aF (aF (aF (aF (aF (aF (aF fa 0 (vl (ci .u32) a_0)) 1 (vl (ci .u32) b_1)) 6 (.own 1 0 nA.length)) 8 (vi i_8)) 9 (vu t_9)) 26 (vi t26)) 27 (vi t27)),⟨(upd aY 1 (.cells 1 (nA.flatMap (ci .u32)) 0)),64⟩⟩∧aGf (rO n1) a_0 b_1 nA i_8 t_9 t26 t27=some r) ?_ ?_
   ·
    refine W ?_;refine cm hm (fun hm=>?_) fun hm=>?_
    · obtain ⟨x12,h11,hm⟩:=bnd hm;refine W ?_;exact Lr (fun j=>bif j==1 then 1 else 0)
    refine W ?_;exact Lr (fun j=>bif j==1 then 1 else 0)
   rintro s ⟨a_0,b_1,nA,i_8,t_9,t26,t27,rfl,hm⟩;obtain ⟨x8,h7,hm⟩:=bnd hm;obtain ⟨l10,h9,hm⟩:=bnd hm;refine W ?_;have qh9:=nF h9;refine aS h9 ?_;refine W ?_;exact Lr (fun j=>bif j==1 then 1 else 0)
  rintro s ⟨a_0,b_1,nA,wT,t26,t27,rfl,hm⟩;refine W ?_;exact Lr (fun j=>bif j==1 then 1 else 0)
 iterate 5 refine S1 ?_
 refine AWp.seq' ?_;refine AWp.weaken (aKj (CFi .u32) 6 1 Z1 Z3 Z6) ?_;refine W ?_;obtain ⟨⟨r16,r17⟩,h15,hm⟩:=bnd hm;refine cq (aHh h15) ?_;exact E
instance:Ct prog 225 (K2 prog (vl (ci .u32)) (vl (ci .u32)) (t2 (vl (ci .u32)) vi) 225 aJh):=⟨fun hm=>bPq hm⟩
def aP1(rec1:List Int→List Int→List Int→Int→Int→Option ((List Int)×Int))(rec2:List Int→List Int→Int→Int→Int→List Int→Int→Int→List Int→Int→Int→Option ((List Int)×Int))(b_1:List Int)(jK:List Int)(i_7:Int)(x_8:Int)(aH1:Int)(t27:List Int)(t28:Int)(t29:Int)(t34:List Int)(t35:Int)(t36:Int):Option ((List Int)×Int):=
 (bif (decide (t36<t35)) then
  ((idx t34 t36).bind fun x10=>
  ((idx jK (IntKind.i64.wrap (i_7+t36))).bind fun x12=>
  ((idx jK (IntKind.i64.wrap (i_7+t36))).bind fun x14=>
  ((stt jK (IntKind.i64.wrap (i_7+t36)) (IntKind.u32.wrap (IntKind.u64.wrap ((IntKind.u64.wrap ((IntKind.u64.wrap x12)+(IntKind.u64.wrap ((IntKind.u64.wrap x_8)*(IntKind.u64.wrap x10)))))+aH1)))).bind fun l16=>
  rec2 b_1 l16 i_7 x_8 (shr .u64 (IntKind.u64.wrap ((IntKind.u64.wrap ((IntKind.u64.wrap x12)+(IntKind.u64.wrap ((IntKind.u64.wrap x_8)*(IntKind.u64.wrap x10)))))+aH1)) 32) t27 t28 t29 t34 t35 (IntKind.i64.wrap (t36+1))))))
 else
  ((idx jK (IntKind.i64.wrap (i_7+(b_1.length:Int)))).bind fun x18=>
  ((stt jK (IntKind.i64.wrap (i_7+(b_1.length:Int))) (IntKind.u32.wrap aH1)).bind fun l20=>
  rec1 b_1 l20 t27 t28 (IntKind.i64.wrap (t29+1)))))
def aGh(rec1:List Int→List Int→List Int→Int→Int→Option ((List Int)×Int)):Nat→List Int→List Int→Int→Int→Int→List Int→Int→Int→List Int→Int→Int→Option ((List Int)×Int)
 |0=>fun _ _ _ _ _ _ _ _ _ _ _=>none
 |n+1=>aP1 rec1 (aGh rec1 n)
def aP0(rec1:List Int→List Int→List Int→Int→Int→Option ((List Int)×Int))(b_1:List Int)(jK:List Int)(t27:List Int)(t28:Int)(t29:Int):Option ((List Int)×Int):=
 (bif (decide (t29<t28)) then
  ((idx t27 t29).bind fun x8=>
  aGh rec1 aW b_1 jK t29 x8 0 t27 t28 t29 b_1 (b_1.length:Int) 0)
 else
  ((uL jK).bind fun ⟨r22,r23⟩=>
  some (r22,r23)))
def rP:Nat→List Int→List Int→List Int→Int→Int→Option ((List Int)×Int)
 |0=>fun _ _ _ _ _=>none
 |n+1=>aP0 (rP n)
def aDq(a_0:List Int)(b_1:List Int):Option ((List Int)×Int):=
 ((mW a_0).bind fun r2=>
 ((eK ((!r2)==false) false (mW b_1)).bind fun r4=>
 (bif ((!r2)||(!r4)) then
  some ([],1)
 else
  ((mkc (IntKind.i64.wrap ((a_0.length:Int)+(b_1.length:Int))) (IntKind.i64.wrap ((a_0.length:Int)+(b_1.length:Int))) 0).bind fun l6=>
  rP aW b_1 l6 a_0 (a_0.length:Int) 0))))
theorem bPs{a_0:List Int}{b_1:List Int}{r:(List Int)×Int}(hm:aDq a_0 b_1=some r):cE prog 185 [vl (ci .u32) a_0,vl (ci .u32) b_1] (.tup [vl (ci .u32) r.1,vi r.2]):=by
 refine bd 79 func185 ?_;obtain ⟨r2,h1,hm⟩:=bnd hm;refine W ?_;refine cq (aDs h1) ?_;obtain ⟨r4,h3,hm⟩:=bnd hm;refine W ?_;refine cg (fun hb=>aDs (kQ h3 hb)) ?_;refine W ?_;refine cm hm (fun hm=>?_) fun hm=>?_
 · exact E
 obtain ⟨l6,h5,hm⟩:=bnd hm;refine W ?_;refine aK (CFi .u32) h5 ?_;refine W ?_;refine lp (fun m s=> ∃b_1 jK t27 t28 t29,s=⟨79,(aF (aF (aF (aF (aF fa 1 (vl (ci .u32) b_1)) 6 (.own 1 0 jK.length)) 27 (vl (ci .u32) t27)) 28 (vi t28)) 29 (vi t29)),⟨(upd aY 1 (.cells 1 (jK.flatMap (ci .u32)) 0)),64⟩⟩∧rP m b_1 jK t27 t28 t29=some r) (Lr (fun j=>bif j==1 then 133 else 0)) ?_;rintro n1 s ⟨b_1,jK,t27,t28,t29,rfl,hm⟩;refine W ?_;refine cm hm (fun hm=>?_) fun hm=>?_
 ·
  obtain ⟨x8,h7,hm⟩:=bnd hm;refine W ?_;refine lp (fun m s=> ∃b_1 jK i_7 x_8 aH1 t27 t28 t29 t34 t35 t36,s=⟨79,(aF (aF (aF (aF (aF (aF (aF (aF (aF (aF (aF fa 1 (vl (ci .u32) b_1)) 6 (.own 1 0 jK.length)) 7 (vi i_7)) 8 (.v (.int .u32 x_8))) 9 (vu aH1)) 27 (vl (ci .u32) t27)) 28 (vi t28)) 29 (vi t29)) 34 (vl (ci .u32) t34)) 35 (vi t35)) 36 (vi t36)),⟨(upd aY 1 (.cells 1 (jK.flatMap (ci .u32)) 0)),64⟩⟩∧aGh (rP n1) m b_1 jK i_7 x_8 aH1 t27 t28 t29 t34 t35 t36=some r) (Lr (fun j=>bif j==1 then 1 else 0)) ?_;rintro n2 s ⟨b_1,jK,i_7,x_8,aH1,t27,t28,t29,t34,t35,t36,rfl,hm⟩;refine W ?_;refine cm hm (fun hm=>?_) fun hm=>?_
  · obtain ⟨x10,h9,hm⟩:=bnd hm;obtain ⟨x12,h11,hm⟩:=bnd hm;have hm:=sb hm h11;obtain ⟨l16,h15,hm⟩:=bnd hm;refine W ?_;have qh15:=nF h15;refine aS h15 ?_;refine W ?_;exact Lr (fun j=>bif j==1 then 1 else 0)
  obtain ⟨x18,h17,hm⟩:=bnd hm;obtain ⟨l20,h19,hm⟩:=bnd hm;refine W ?_;have qh19:=nF h19;refine aS h19 ?_;refine W ?_;exact Lr (fun j=>bif j==1 then 1 else 0)
 iterate 5 refine S1 ?_
 refine AWp.seq' ?_;refine AWp.weaken (aKj (CFi .u32) 6 1 Z1 Z3 Z6) ?_;refine W ?_;obtain ⟨⟨r22,r23⟩,h21,hm⟩:=bnd hm;refine cq (aHh h21) ?_;exact E
instance:Ct prog 185 (K2 prog (vl (ci .u32)) (vl (ci .u32)) (t2 (vl (ci .u32)) vi) 185 aDq):=⟨fun hm=>bPs hm⟩
def aP2(rec1:List Int→List Int→Int→Int→Option ((List Int)×Int))(a_0:List Int)(aNh:List Int)(t21:Int)(t22:Int):Option ((List Int)×Int):=
 (bif (decide (t22<t21)) then
  ((aDq aNh a_0).bind fun ⟨r6,r7⟩=>
  (bif (r7 !=0) then
   some ([],r7)
  else
   rec1 a_0 r6 t21 (IntKind.i64.wrap (t22+1))))
 else
  some (aNh,0))
def aGi:Nat→List Int→List Int→Int→Int→Option ((List Int)×Int)
 |0=>fun _ _ _ _=>none
 |n+1=>aP2 (aGi n)
def aDr(a_0:List Int)(n_1:Int):Option ((List Int)×Int):=
 ((mW a_0).bind fun r2=>
 (bif (((!r2)||(decide (n_1<0)))||(decide (1024<n_1))) then
  some ([],1)
 else
  ((aB3 1).bind fun r4=>
  aGi aW a_0 r4 n_1 0)))
theorem bPt:K2 prog (vl (ci .u32)) vi (t2 (vl (ci .u32)) vi) 183 aDr:=by
 intro a_0 n_1 r hm
 let I1:=((fun m s=> ∃a_0 aNh t21 t22,s=⟨36,(aF (aF (aF (aF fa 0 (vl (ci .u32) a_0)) 6 (vl (ci .u32) aNh)) 21 (vi t21)) 22 (vi t22)),⟨aY,64⟩⟩∧aGi m a_0 aNh t21 t22=some r):Nat→St→Prop)
 exact be 36 func183 (h:=G)
instance:Ct prog 183 (K2 prog (vl (ci .u32)) vi (t2 (vl (ci .u32)) vi) 183 aDr):=⟨bPt⟩
def zS(n_0:Int)(m_1:Int)(l_2:Int)(r_3:Int):Option ((List Int)×Int):=
 ((nU n_0 m_1).bind fun r2=>
 ((eK ((!r2)==false) false (qG l_2 r_3)).bind fun r4=>
 (bif ((!r2)||(!r4)) then
  some ([],1)
 else
  ((yB 8 r_3).bind fun r6=>
  ((aB3 r6).bind fun r8=>
  ((yB 7 r_3).bind fun r10=>
  ((aB3 r10).bind fun r12=>
  ((aJh r8 r12).bind fun ⟨r14,r15⟩=>
  (bif (r15 !=0) then
   some ([],r15)
  else
   ((aDr r14 l_2).bind fun ⟨r17,r18⟩=>
   (bif (r18 !=0) then
    some ([],r18)
   else
    ((aB3 (IntKind.u64.wrap ((IntKind.u64.wrap m_1)*(IntKind.u64.wrap n_0)))).bind fun r20=>
    ((aDq r20 r17).bind fun ⟨r22,r23⟩=>
    some (r22,r23))))))))))))))
theorem aYj:K4 prog vi vi vi vi (t2 (vl (ci .u32)) vi) 181 zS:=fun hm=>be 55 func181 (h:=G)
instance:Ct prog 181 (K4 prog vi vi vi vi (t2 (vl (ci .u32)) vi) 181 zS):=⟨aYj⟩
def aBp(l_0:Int)(r_1:Int):Option ((List Int)×Int):=
 ((qG l_0 r_1).bind fun r2=>
 (bif (!r2) then
  some ([],1)
 else
  ((yB 8 r_1).bind fun r4=>
  ((aB3 (IntKind.u64.wrap (2*r4))).bind fun r6=>
  ((aDr r6 l_0).bind fun ⟨r8,r9⟩=>
  some (r8,r9))))))
theorem bBt:K2 prog vi vi (t2 (vl (ci .u32)) vi) 182 aBp:=fun hm=>be 18 func182 (h:=G)
instance:Ct prog 182 (K2 prog vi vi (t2 (vl (ci .u32)) vi) 182 aBp):=⟨bBt⟩
attribute [local semireducible] aW
end Go.Proofs.YtkdohhmacfoolaaGreatDoor
