/- Facts. No condition. -/
import Derived.Test.YtkdohhmacfoolaaGreatDoorPgGI2
set_option linter.unusedVariables false
set_option linter.unusedSimpArgs false
set_option maxRecDepth 20000
set_option maxHeartbeats 4000000
namespace Go.Proofs.YtkdohhmacfoolaaGreatDoor
open Go.Proofs.Tryz Go Go.AM
attribute [local irreducible] aY
structure dG where
 Do:Int
 A:Int
 B:Int
 Text:ByteArray
deriving DecidableEq
def yW(e:dG):List AV:=[.v (.int .i64 e.Do),.v (.int .u64 e.A),.v (.int .u64 e.B),.v (.string e.Text)]
theorem aQg:CF yW 4:=⟨fun _=>rfl,fun a x hx=>by
 simp only [yW,List.mem_cons,List.not_mem_nil,or_false] at hx;rcases hx with rfl|rfl|rfl|rfl
 · exact (.v _)
 · exact (.v _)
 · exact (.v _)
 · exact (.v _),fun _=>rfl⟩
instance:CC yW 4:=⟨aQg⟩
abbrev qC(e:dG):AV:= .agg [.v (.int .i64 e.Do),vu e.A,vu e.B,.v (.string e.Text)]
@[go_sem] theorem aLc(e:dG)(r:List AV):yW e++r= .v (.int .i64 e.Do):: .v (.int .u64 e.A):: .v (.int .u64 e.B):: .v (.string e.Text)::r:=rfl
structure bC where
 List:List Int
 At:Int
deriving DecidableEq
def aEm(e:bC):List AV:=[.sl (e.List.flatMap (ci .u64)) e.List.length false,.v (.int .i64 e.At)]
theorem aWf:CF aEm 2:=⟨fun _=>rfl,fun a x hx=>by
 simp only [aEm,List.mem_cons,List.not_mem_nil,or_false] at hx;rcases hx with rfl|rfl
 · exact ((CFi .u64).sl _ _ _)
 · exact (.v _),fun _=>rfl⟩
instance:CC aEm 2:=⟨aWf⟩
abbrev mR(e:bC):AV:= .agg [vl (ci .u64) e.List,vi e.At]
@[go_sem] theorem aQl(e:bC)(r:List AV):aEm e++r= .sl (e.List.flatMap (ci .u64)) e.List.length false:: .v (.int .i64 e.At)::r:=rfl
structure aG where
 State:aC
 Words:bC
 On:Bool
deriving DecidableEq
def wZ(e:aG):List AV:=[.v (.int .i64 e.State.Graph.Config.N),.v (.int .i64 e.State.Graph.Config.L),.v (.int .i64 e.State.Graph.Config.R),.sl (e.State.Graph.Hashes.flatMap cH) e.State.Graph.Hashes.length false,.sl (e.State.Graph.Edges.flatMap aV) e.State.Graph.Edges.length false,.sl (e.State.Slots.flatMap aW) e.State.Slots.length false,.sl (e.Words.List.flatMap (ci .u64)) e.Words.List.length false,.v (.int .i64 e.Words.At),.v (.bool e.On)]
theorem aAb:CF wZ 9:=⟨fun _=>rfl,fun a x hx=>by
 simp only [wZ,List.mem_cons,List.not_mem_nil,or_false] at hx;rcases hx with rfl|rfl|rfl|rfl|rfl|rfl|rfl|rfl|rfl
 · exact (.v _)
 · exact (.v _)
 · exact (.v _)
 · exact (jV.sl _ _ _)
 · exact (cL.sl _ _ _)
 · exact (cW.sl _ _ _)
 · exact ((CFi .u64).sl _ _ _)
 · exact (.v _)
 · exact (.v _),fun _=>rfl⟩
instance:CC wZ 9:=⟨aAb⟩
abbrev gJ(e:aG):AV:= .agg [.v (.int .i64 e.State.Graph.Config.N),vi e.State.Graph.Config.L,vi e.State.Graph.Config.R,vl cH e.State.Graph.Hashes,vl aV e.State.Graph.Edges,vl aW e.State.Slots,vl (ci .u64) e.Words.List,vi e.Words.At,vb e.On]
@[go_sem] theorem aKo(e:aG)(r:List AV):wZ e++r= .v (.int .i64 e.State.Graph.Config.N):: .v (.int .i64 e.State.Graph.Config.L):: .v (.int .i64 e.State.Graph.Config.R):: .sl (e.State.Graph.Hashes.flatMap cH) e.State.Graph.Hashes.length false:: .sl (e.State.Graph.Edges.flatMap aV) e.State.Graph.Edges.length false:: .sl (e.State.Slots.flatMap aW) e.State.Slots.length false:: .sl (e.Words.List.flatMap (ci .u64)) e.Words.List.length false:: .v (.int .i64 e.Words.At):: .v (.bool e.On)::r:=rfl
@[go_sem] theorem bIl(i o:Nat):aI prog 23 (.adr i o) 0=some (.adr i (o+0)):=by kernel_rfl
@[go_sem] theorem bIr(i o:Nat):aI prog 23 (.adr i o) 1=some (.adr i (o+1)):=by kernel_rfl
@[go_sem] theorem bIx(i o:Nat):aI prog 23 (.adr i o) 2=some (.adr i (o+2)):=by kernel_rfl
@[go_sem] theorem bJ4(i o:Nat):aI prog 30 (.adr i o) 0=some (.adr i (o+0)):=by kernel_rfl
@[go_sem] theorem bJ8(i o:Nat):aI prog 30 (.adr i o) 1=some (.adr i (o+3)):=by kernel_rfl
@[go_sem] theorem bJe(i o:Nat):aI prog 30 (.adr i o) 2=some (.adr i (o+4)):=by kernel_rfl
@[go_sem] theorem bJh(i o:Nat):aI prog 33 (.adr i o) 0=some (.adr i (o+0)):=by kernel_rfl
@[go_sem] theorem bJl(i o:Nat):aI prog 33 (.adr i o) 1=some (.adr i (o+5)):=by kernel_rfl
@[go_sem] theorem bJq(i o:Nat):aI prog 42 (.adr i o) 0=some (.adr i (o+0)):=by kernel_rfl
@[go_sem] theorem bJr(i o:Nat):aI prog 42 (.adr i o) 1=some (.adr i (o+1)):=by kernel_rfl
@[go_sem] theorem bJt(i o:Nat):aI prog 42 (.adr i o) 2=some (.adr i (o+2)):=by kernel_rfl
@[go_sem] theorem bJv(i o:Nat):aI prog 42 (.adr i o) 3=some (.adr i (o+3)):=by kernel_rfl
@[go_sem] theorem bKc(i o:Nat):aI prog 68 (.adr i o) 0=some (.adr i (o+0)):=by kernel_rfl
@[go_sem] theorem bKg(i o:Nat):aI prog 68 (.adr i o) 2=some (.adr i (o+8)):=by kernel_rfl
@[go_sem] theorem bKq(i o:Nat):aI prog 96 (.adr i o) 0=some (.adr i (o+0)):=by kernel_rfl
@[go_sem] theorem bOf(H:aH)(x0:AV)(xs:List AV):bT prog H 147 (.ptr (x0::xs))=some (.agg [x0]):=by kernel_rfl
@[go_sem] theorem bSj(H:aH)(x0 x1 x2:AV)(xs:List AV):bT prog H 23 (.ptr (x0::x1::x2::xs))=some (.agg [x0,x1,x2]):=by kernel_rfl
@[go_sem] theorem bSq(H:aH)(x:AV)(xs:List AV):bT prog H 27 (.ptr (x::xs))=some x:=by kernel_rfl
@[go_sem] theorem bOk(H:aH)(x:AV)(xs:List AV):bT prog H 277 (.ptr (x::xs))=some x:=by kernel_rfl
@[go_sem] theorem bSw(H:aH)(x:AV)(xs:List AV):bT prog H 28 (.ptr (x::xs))=some x:=by kernel_rfl
@[go_sem] theorem bX7(H:aH)(x:AV)(xs:List AV):bT prog H 3 (.ptr (x::xs))=some x:=by kernel_rfl
@[go_sem] theorem bT2(H:aH)(x0 x1 x2 x3 x4:AV)(xs:List AV):bT prog H 30 (.ptr (x0::x1::x2::x3::x4::xs))=some (.agg [x0,x1,x2,x3,x4]):=by kernel_rfl
@[go_sem] theorem bT7(H:aH)(x:AV)(xs:List AV):bT prog H 31 (.ptr (x::xs))=some x:=by kernel_rfl
@[go_sem] theorem bTb(H:aH)(x0 x1 x2 x3 x4 x5:AV)(xs:List AV):bT prog H 33 (.ptr (x0::x1::x2::x3::x4::x5::xs))=some (.agg [x0,x1,x2,x3,x4,x5]):=by kernel_rfl
@[go_sem] theorem bXe(H:aH)(x:AV)(xs:List AV):bT prog H 4 (.ptr (x::xs))=some x:=by kernel_rfl
@[go_sem] theorem bTk(H:aH)(x:AV)(xs:List AV):bT prog H 40 (.ptr (x::xs))=some x:=by kernel_rfl
@[go_sem] theorem bTm(H:aH)(x0 x1 x2 x3:AV)(xs:List AV):bT prog H 42 (.ptr (x0::x1::x2::x3::xs))=some (.agg [x0,x1,x2,x3]):=by kernel_rfl
@[go_sem] theorem bTt(H:aH)(x0 x1 x2:AV)(xs:List AV):bT prog H 61 (.ptr (x0::x1::x2::xs))=some (.agg [x0,x1,x2]):=by kernel_rfl
@[go_sem] theorem bTu(H:aH)(x0 x1 x2 x3 x4 x5 x6 x7 x8:AV)(xs:List AV):bT prog H 68 (.ptr (x0::x1::x2::x3::x4::x5::x6::x7::x8::xs))=some (.agg [x0,x1,x2,x3,x4,x5,x6,x7,x8]):=by kernel_rfl
@[go_sem] theorem bXh(H:aH)(x:AV)(xs:List AV):bT prog H 9 (.ptr (x::xs))=some x:=by kernel_rfl
@[go_sem] theorem bHy(H:aH)(k:IntKind)(n:Int):mU prog H 3 40 (.v (.int k n))=some (.v (.int .u64 (IntKind.u64.wrap n))):=gK underlying3 underlying40
@[go_sem] theorem bN6(H:aH)(k:IntKind)(n:Int):mU prog H 5 3 (.v (.int k n))=some (.v (.int .i64 (IntKind.i64.wrap n))):=gK underlying5 underlying3
@[go_sem] theorem bI4(H:aH)(k:IntKind)(n:Int):mU prog H 5 40 (.v (.int k n))=some (.v (.int .u64 (IntKind.u64.wrap n))):=gK underlying5 underlying40
@[go_sem] theorem bDb(H:aH)(k:IntKind)(n:Int):mU prog H 21 40 (.v (.int k n))=some (.v (.int .u64 (IntKind.u64.wrap n))):=gK underlying21 underlying40
@[go_sem] theorem bI0(H:aH)(k:IntKind)(n:Int):mU prog H 40 3 (.v (.int k n))=some (.v (.int .i64 (IntKind.i64.wrap n))):=gK underlying40 underlying3
@[go_sem] theorem bA1(H:aH)(k:IntKind)(n:Int):mU prog H 40 277 (.v (.int k n))=some (.v (.int .u32 (IntKind.u32.wrap n))):=gK underlying40 underlying277
@[go_sem] theorem bA0(H:aH)(k:IntKind)(n:Int):mU prog H 277 40 (.v (.int k n))=some (.v (.int .u64 (IntKind.u64.wrap n))):=gK underlying277 underlying40
def mF(bY4:aN):Option (Bool):=
 some (!bY4.Used)
theorem aO0:K1 prog aQf vb 128 mF:=fun hm=>be 6 func128 (h:=G)
instance:Ct prog 128 (K1 prog aQf vb 128 mF):=⟨aO0⟩
def kJ(l:List aN):Option (List aN):=app [] l
theorem aM3{r:List aN}(hm:some []=some r):fP prog 129 [.v (.slice none 0 0)] 2 (r.flatMap aW) r.length:=by
 refine fP.of_body func129 rfl (cW.fmdat r) ?_;simp only [ntmps129,List.length_cons,List.length_nil,Nat.reduceAdd,Nat.reduceSub,iO];refine sN 64 (pA ?_);refine fs (AWp.seq' (sN 128 (pA ?_)));refine pu rfl (aBv Z1 Z1 (aMd underlying31)) ?_;refine fs (AWp.condT Z1 ?_);refine sN 192 (pA ?_);refine fs (AWp.weaken (aC2 2 900002 2 Z1 Z5) ?_);refine AWp.ret (jC ?_);cases hm;exact aNh (.inr rfl) Tryz.results129 Z1 Z3 Z6
theorem aM4{a:Addr}{c:Nat}{r:List aN}(hm:((app [] []).bind fun l2=>
some l2)=some r):fP prog 129 [.v (.slice (some a) 0 c)] 2 (r.flatMap aW) r.length:=by
 refine fP.of_body func129 rfl (cW.fmdat r) ?_;simp only [ntmps129,List.length_cons,List.length_nil,Nat.reduceAdd,Nat.reduceSub,iO];refine sN 64 (pA ?_);refine fs (AWp.seq' (sN 128 (pA ?_)));refine pu rfl (aBv Z1 Z1 (aK2 underlying31)) ?_;refine fs (AWp.condF Z1 ?_);refine AWp.skip (bQ (sN 192 (hp (id:=128) rfl rfl (kW cW (l:=[]) underlying31 bQd bQu Z5 Zd Zd Zd (by simp only [go_sem,Nat.reduceBEq];try rfl) (by kernel_rfl)) ?_)));refine pA ?_;obtain ⟨l2,h1,hm⟩:=bnd hm;refine hp (id:=130) rfl rfl (xH cW underlying31 underlying31 rfl bSb bUz (by rw [bC2];decide) (by rw [bC2];decide) bV1 Zd Zd Z1 Z3 Z6 (aR5 Z1) rfl Z5 h1) ?_;refine pA ?_;refine fs (AWp.ret ?_);cases hm;exact aNh (.inr rfl) Tryz.results129 Z1 Z3 Z6
theorem aM5{x0:aN}{l0:List aN}{r:List aN}(hm:((app [] (x0::l0)).bind fun l2=>
some l2)=some r):fP prog 129 [.sl ((x0::l0).flatMap aW) (x0::l0).length false] 2 (r.flatMap aW) r.length:=by
 refine fP.of_body func129 rfl (cW.fmdat r) ?_;simp only [ntmps129,List.length_cons,List.length_nil,Nat.reduceAdd,Nat.reduceSub,iO];refine sN 64 (pA ?_);refine fs (AWp.seq' (sN 128 (pA ?_)));refine pu rfl (aBv Z1 Z1 (aK1 underlying31 (by simp))) ?_;refine fs (AWp.condF Z1 ?_);refine AWp.skip (bQ (sN 192 (hp (id:=128) rfl rfl (kW cW (l:=[]) underlying31 bQd bQu Z5 Zd Zd Zd (by simp only [go_sem,Nat.reduceBEq];try rfl) (by kernel_rfl)) ?_)));refine pA ?_;obtain ⟨l2,h1,hm⟩:=bnd hm;refine hp (id:=130) rfl rfl (xH cW underlying31 underlying31 rfl bSb bUz (by rw [bC2];decide) (by rw [bC2];decide) bV1 Zd Zd Z1 Z3 Z6 (aV8 cW Z1 rfl) rfl Z5 h1) ?_;refine pA ?_;refine fs (AWp.ret ?_);cases hm;exact aNh (.inr rfl) Tryz.results129 Z1 Z3 Z6
theorem aF4{l r:List aN}(hm:kJ l=some r):fP prog 129 [.sl (l.flatMap aW) l.length false] 2 (r.flatMap aW) r.length:=by
 cases l with
 |nil=>
  have hr:r=[]:=by unfold kJ app at hm;simpa using hm.symm
  subst hr;exact fP.nil_arg (aM3 (r:=[]) rfl) (fun a c=>aM4 (r:=[]) rfl)
 |cons x0 l0=>
  refine aM5 ?_;show (app [] (x0::l0)).bind _=_;unfold kJ at hm;rw [hm];rfl
def aEe(l_0:List aN)(jY:Int):Option ((List aN)×Int×Int):=
 ((oC l_0).bind fun ⟨r2,r3⟩=>
 (bif (!r3) then
  some (l_0,0,1)
 else
  ((xX r2 jY).bind fun ⟨r5,r6⟩=>
  (bif r6 then
   some (l_0,0,4)
  else
   ((sF l_0 (fun x0=>mF x0)).bind fun r8=>
   (bif (decide (r8<0)) then
    some (l_0,0,10)
   else
    ((kJ l_0).bind fun r10=>
    ((idx r10 r8).bind fun x12=>
    ((stt r10 r8 (aN.mk true jY)).bind fun l14=>
    some (l14,r8,0))))))))))
theorem bFj{l_0:List aN}{jY:Int}{r:(List aN)×Int×Int}(hm:aEe l_0 jY=some r):cE prog 87 [vl aW l_0,vu jY] (.tup [vl aW r.1,vi r.2.1,vi r.2.2]):=by
 refine bd 43 func87 ?_;refine W ?_;obtain ⟨⟨r2,r3⟩,h1,hm⟩:=bnd hm;refine cq (aI1 h1) ?_;refine W ?_;refine cm hm (fun hm=>?_) fun hm=>?_
 · exact E
 refine W ?_;obtain ⟨⟨r5,r6⟩,h4,hm⟩:=bnd hm;refine cq (aOg h4) ?_;refine W ?_;refine cm hm (fun hm=>?_) fun hm=>?_
 · exact E
 obtain ⟨r8,h7,hm⟩:=bnd hm;refine W ?_;refine aR.callQ (r:= .v (.int .i64 r8)) Zd Z1 bZb (fun H=>(cD (cW.sl _ _ _) (cD (bN7 aLk) .nil))) (aI7 h7 aLk bZc (fun h=>aO0 h)) ?_;refine W ?_;refine cm hm (fun hm=>?_) fun hm=>?_
 · exact E
 obtain ⟨r10,h9,hm⟩:=bnd hm;refine W ?_;refine aR.callF (id:=449) Zd Z1 bVd (fun H=>(cD (cW.sl _ _ _) .nil)) cW Z5 (aF4 h9) ?_;refine W ?_;refine bU (.agg [vb true,vu jY]) ?_;obtain ⟨x12,h11,hm⟩:=bnd hm;obtain ⟨l14,h13,hm⟩:=bnd hm;refine W ?_;have qh13:=nG h13;refine aS h13 ?_;exact E
instance:Ct prog 87 (K2 prog (vl aW) vu (t3 (vl aW) vi vi) 87 aEe):=⟨fun hm=>bFj hm⟩
def wX(l_0:List aN)(jY:Int):Option ((List aN)×Int):=
 ((oC l_0).bind fun ⟨r2,r3⟩=>
 (bif (!r3) then
  some (l_0,1)
 else
  ((xX r2 jY).bind fun ⟨r5,r6⟩=>
  (bif (!r6) then
   some (l_0,7)
  else
   ((kJ l_0).bind fun r8=>
   ((idx r8 r5).bind fun x10=>
   ((stt r8 r5 (aN.mk false 0)).bind fun l12=>
   some (l12,0))))))))
theorem aV3{l_0:List aN}{jY:Int}{r:(List aN)×Int}(hm:wX l_0 jY=some r):cE prog 88 [vl aW l_0,vu jY] (.tup [vl aW r.1,vi r.2]):=by
 refine bd 35 func88 ?_;refine W ?_;obtain ⟨⟨r2,r3⟩,h1,hm⟩:=bnd hm;refine cq (aI1 h1) ?_;refine W ?_;refine cm hm (fun hm=>?_) fun hm=>?_
 · exact E
 refine W ?_;obtain ⟨⟨r5,r6⟩,h4,hm⟩:=bnd hm;refine cq (aOg h4) ?_;refine W ?_;refine cm hm (fun hm=>?_) fun hm=>?_
 · exact E
 obtain ⟨r8,h7,hm⟩:=bnd hm;refine W ?_;refine aR.callF (id:=321) Zd Z1 bVd (fun H=>(cD (cW.sl _ _ _) .nil)) cW Z5 (aF4 h7) ?_;refine W ?_;refine bU (.agg [vb false,vu 0]) ?_;obtain ⟨x10,h9,hm⟩:=bnd hm;obtain ⟨l12,h11,hm⟩:=bnd hm;refine W ?_;have qh11:=nG h11;refine aS h11 ?_;exact E
instance:Ct prog 88 (K2 prog (vl aW) vu (t2 (vl aW) vi) 88 wX):=⟨fun hm=>aV3 hm⟩
def bF9(rec1:ByteArray→Int→Int→Int→Option (Int))(b_0:ByteArray)(aBx:Int)(n_7:Int)(i_8:Int):Option (Int):=
 (bif (decide (0≤i_8)) then
  ((aBo b_0 (IntKind.i64.wrap (aBx+i_8))).bind fun b2=>
  rec1 b_0 aBx (bor .u64 (shl .u64 n_7 8) (IntKind.u64.wrap b2)) (IntKind.i64.wrap (i_8-1)))
 else
  some n_7)
def aE4:Nat→ByteArray→Int→Int→Int→Option (Int)
 |0=>fun _ _ _ _=>none
 |n+1=>bF9 (aE4 n)
def gT(b_0:ByteArray)(aBx:Int)(bG0:Int):Option (Int):=
 aE4 aY b_0 aBx 0 (IntKind.i64.wrap (bG0-1))
theorem rW:K3 prog vs vi vi vu 91 gT:=by
 intro b_0 aBx bG0 r hm
 let I1:=((fun m s=> ∃b_0 aBx n_7 i_8,s=⟨25,(aF (aF (aF (aF fa 0 (.v (.string b_0))) 1 (vi aBx)) 7 (vu n_7)) 8 (vi i_8)),⟨aZ,64⟩⟩∧aE4 m b_0 aBx n_7 i_8=some r):Nat→St→Prop)
 exact be 25 func91 (h:=G)
instance:Ct prog 91 (K3 prog vs vi vi vu 91 gT):=⟨rW⟩
def wI(rec3:ByteArray→aC→aC→Int→Int→Int→Option (aC×Bool))(b_0:ByteArray)(t2:aC)(s_4:aC)(uD:Int)(t127:Int)(t128:Int):Option (aC×Bool):=
 (bif (decide (t128<t127)) then
  ((gT b_0 uD 2).bind fun r22=>
  ((gT b_0 (IntKind.i64.wrap (uD+2)) 2).bind fun r24=>
  ((aBo b_0 (IntKind.i64.wrap (uD+4))).bind fun b26=>
  ((app s_4.Graph.Edges [(aE.mk (IntKind.i64.wrap r22) (IntKind.i64.wrap r24) (IntKind.i64.wrap b26))]).bind fun l28=>
  rec3 b_0 (aC.mk (aJ.mk t2.Graph.Config [] []) []) (aC.mk (aJ.mk s_4.Graph.Config s_4.Graph.Hashes l28) s_4.Slots) (IntKind.i64.wrap (uD+5)) t127 (IntKind.i64.wrap (t128+1))))))
 else
  some ((aC.mk (aJ.mk s_4.Graph.Config s_4.Graph.Hashes s_4.Graph.Edges) s_4.Slots),true))
def rZ:Nat→ByteArray→aC→aC→Int→Int→Int→Option (aC×Bool)
 |0=>fun _ _ _ _ _ _=>none
 |n+1=>wI (rZ n)
def wH(rec2:ByteArray→aC→aC→Int→Int→Int→Int→Option (aC×Bool))(b_0:ByteArray)(t2:aC)(s_4:aC)(qU:Int)(uD:Int)(t104:Int)(t105:Int):Option (aC×Bool):=
 (bif (decide (t105<t104)) then
  ((aBo b_0 uD).bind fun b16=>
  ((gT b_0 (IntKind.i64.wrap (uD+1)) 8).bind fun r18=>
  ((app s_4.Slots [(aN.mk (b16==1) r18)]).bind fun l20=>
  rec2 b_0 (aC.mk (aJ.mk t2.Graph.Config [] []) []) (aC.mk (aJ.mk s_4.Graph.Config s_4.Graph.Hashes []) l20) qU (IntKind.i64.wrap (uD+9)) t104 (IntKind.i64.wrap (t105+1)))))
 else
  rZ aY b_0 (aC.mk (aJ.mk t2.Graph.Config [] []) []) (aC.mk (aJ.mk s_4.Graph.Config s_4.Graph.Hashes []) s_4.Slots) (IntKind.i64.wrap (uD+4)) (IntKind.i64.wrap (Int.tdiv qU 5)) 0)
def rY:Nat→ByteArray→aC→aC→Int→Int→Int→Int→Option (aC×Bool)
 |0=>fun _ _ _ _ _ _ _=>none
 |n+1=>wH (rY n)
def wG(rec1:ByteArray→aC→aC→aX→Int→Int→Int→Int→Option (aC×Bool))(b_0:ByteArray)(t2:aC)(s_4:aC)(c_5:aX)(qU:Int)(uD:Int)(t82:Int)(t83:Int):Option (aC×Bool):=
 (bif (decide (t83<t82)) then
  ((gT b_0 uD 8).bind fun r10=>
  ((gT b_0 (IntKind.i64.wrap (uD+8)) 8).bind fun r12=>
  ((app s_4.Graph.Hashes [(cI.mk r10 r12)]).bind fun l14=>
  rec1 b_0 (aC.mk (aJ.mk t2.Graph.Config [] []) []) (aC.mk (aJ.mk s_4.Graph.Config l14 []) []) c_5 qU (IntKind.i64.wrap (uD+16)) t82 (IntKind.i64.wrap (t83+1)))))
 else
  rY aY b_0 (aC.mk (aJ.mk t2.Graph.Config [] []) []) (aC.mk (aJ.mk s_4.Graph.Config s_4.Graph.Hashes []) []) qU uD c_5.N 0)
def rX:Nat→ByteArray→aC→aC→aX→Int→Int→Int→Int→Option (aC×Bool)
 |0=>fun _ _ _ _ _ _ _ _=>none
 |n+1=>wG (rX n)
def oA(b_0:ByteArray):Option (aC×Bool):=
 (bif (decide ((b_0.size:Int)<10)) then
  some ((aC.mk (aJ.mk (aX.mk 0 0 0) [] []) []),false)
 else
  ((gT b_0 4 2).bind fun r2=>
  ((gT b_0 6 2).bind fun r4=>
  ((gT b_0 8 2).bind fun r6=>
  (bif (((decide (1024<(IntKind.i64.wrap r2)))||(decide (16<(IntKind.i64.wrap r4))))||(decide (8<(IntKind.i64.wrap r6)))) then
   some ((aC.mk (aJ.mk (aX.mk 0 0 0) [] []) []),false)
  else
   (bif (decide ((b_0.size:Int)<(IntKind.i64.wrap ((IntKind.i64.wrap ((IntKind.i64.wrap ((IntKind.i64.wrap (10+(IntKind.i64.wrap ((IntKind.i64.wrap ((IntKind.i64.wrap r4)*(IntKind.i64.wrap r6)))*16))))+(IntKind.i64.wrap ((IntKind.i64.wrap r2)*9))))+4))+8)))) then
    some ((aC.mk (aJ.mk (aX.mk 0 0 0) [] []) []),false)
   else
    ((eJ (((Int.tmod (IntKind.i64.wrap ((IntKind.i64.wrap ((b_0.size:Int)-(IntKind.i64.wrap ((IntKind.i64.wrap ((IntKind.i64.wrap (10+(IntKind.i64.wrap ((IntKind.i64.wrap ((IntKind.i64.wrap r4)*(IntKind.i64.wrap r6)))*16))))+(IntKind.i64.wrap ((IntKind.i64.wrap r2)*9))))+4))))-8)) 5) !=0)==false) 0 (gT b_0 (IntKind.i64.wrap ((IntKind.i64.wrap ((IntKind.i64.wrap ((IntKind.i64.wrap (10+(IntKind.i64.wrap ((IntKind.i64.wrap ((IntKind.i64.wrap r4)*(IntKind.i64.wrap r6)))*16))))+(IntKind.i64.wrap ((IntKind.i64.wrap r2)*9))))+4))-4)) 4)).bind fun r8=>
    (bif (((Int.tmod (IntKind.i64.wrap ((IntKind.i64.wrap ((b_0.size:Int)-(IntKind.i64.wrap ((IntKind.i64.wrap ((IntKind.i64.wrap (10+(IntKind.i64.wrap ((IntKind.i64.wrap ((IntKind.i64.wrap r4)*(IntKind.i64.wrap r6)))*16))))+(IntKind.i64.wrap ((IntKind.i64.wrap r2)*9))))+4))))-8)) 5) !=0)||(r8 !=(IntKind.u64.wrap (IntKind.i64.wrap (Int.tdiv (IntKind.i64.wrap ((IntKind.i64.wrap ((b_0.size:Int)-(IntKind.i64.wrap ((IntKind.i64.wrap ((IntKind.i64.wrap (10+(IntKind.i64.wrap ((IntKind.i64.wrap ((IntKind.i64.wrap r4)*(IntKind.i64.wrap r6)))*16))))+(IntKind.i64.wrap ((IntKind.i64.wrap r2)*9))))+4))))-8)) 5))))) then
     some ((aC.mk (aJ.mk (aX.mk 0 0 0) [] []) []),false)
    else
     rX aY b_0 (aC.mk (aJ.mk (aX.mk 0 0 0) [] []) []) (aC.mk (aJ.mk (aX.mk (IntKind.i64.wrap r2) (IntKind.i64.wrap r4) (IntKind.i64.wrap r6)) [] []) []) (aX.mk (IntKind.i64.wrap r2) (IntKind.i64.wrap r4) (IntKind.i64.wrap r6)) (IntKind.i64.wrap ((IntKind.i64.wrap ((b_0.size:Int)-(IntKind.i64.wrap ((IntKind.i64.wrap ((IntKind.i64.wrap (10+(IntKind.i64.wrap ((IntKind.i64.wrap ((IntKind.i64.wrap r4)*(IntKind.i64.wrap r6)))*16))))+(IntKind.i64.wrap ((IntKind.i64.wrap r2)*9))))+4))))-8)) 10 (IntKind.i64.wrap ((IntKind.i64.wrap r4)*(IntKind.i64.wrap r6))) 0))))))))
theorem aYs{b_0:ByteArray}{r:aC×Bool}(hm:oA b_0=some r):cE prog 44 [.v (.string b_0)] (.tup [.agg [.v (.int .i64 r.1.Graph.Config.N),.v (.int .i64 r.1.Graph.Config.L),.v (.int .i64 r.1.Graph.Config.R),.sl (r.1.Graph.Hashes.flatMap cH) r.1.Graph.Hashes.length false,.sl (r.1.Graph.Edges.flatMap aV) r.1.Graph.Edges.length false,.sl (r.1.Slots.flatMap aW) r.1.Slots.length false],.v (.bool r.2)]):=by
 refine cE.of_body func44 rfl ?_;simp only [ntmps44,List.length_cons,List.length_nil,Nat.reduceAdd,Nat.reduceSub,iO];unfold oA at hm;refine sr (N':=64) rfl ?_;refine hp (id:=0) rfl rfl (nQ bYo Z5) ?_;refine pA ?_;refine fs ?_;refine sr (N':=128) rfl ?_;refine hp (id:=64) rfl rfl (nQ bYo Z5) ?_;refine fs ?_;refine AWp.seq' ?_;refine sr (N':=192) rfl ?_
 iterate 3 refine pA ?_
 refine fs ?_;refine AWp.condM hm Z1 (fun _ hm=>?_) (fun _ hm=>?_)
 · refine sr (N':=256) rfl ?_;refine pu rfl (hZ Z1 Z3 Z2) ?_;refine aR.heap0 (id:=193) rfl (oD (ys:=[.v (.int .i64 0),.v (.int .i64 0),.v (.int .i64 0),.v (.slice none 0 0),.v (.slice none 0 0),.v (.slice none 0 0)]) bLj Z1 Z1 Z3 rfl (Nat.le_of_ble_eq_true rfl) Z9 rfl) ?_;refine pA ?_;refine fs ?_;refine AWp.ret ?_;refine jC ?_;cases hm;exact bF6 (.inr rfl) (by rw [Tryz.results44]) (.cell (aGo Z1 Z3 Z2) (.tmp Z1 .nil)) rfl (tdt (.cons (tda rfl (.cons (.data _ (.v _)) (.cons (.data _ (.v _)) (.cons (.data _ (.v _)) (.cons (.nil false) (.cons (.nil false) (.cons (.nil false) .nil))))))) (.cons (td rfl (.v _)) .nil)))
 ·
  refine AWp.skip ?_;refine bQ ?_;refine sr (N':=256) rfl ?_;refine pA ?_;obtain ⟨r2,h1,hm⟩:=bnd hm;refine aR.callQ (r:= .v (.int .u64 r2)) Zd Z1 aX4 (fun H=>(cV (cV (cV .nil)))) (rW h1) ?_
  iterate 2 refine pA ?_
  obtain ⟨r4,h3,hm⟩:=bnd hm;refine aR.callQ (r:= .v (.int .u64 r4)) Zd Z1 aX4 (fun H=>(cV (cV (cV .nil)))) (rW h3) ?_
  iterate 2 refine pA ?_
  obtain ⟨r6,h5,hm⟩:=bnd hm;refine aR.callQ (r:= .v (.int .u64 r6)) Zd Z1 aX4 (fun H=>(cV (cV (cV .nil)))) (rW h5) ?_;refine pA ?_;refine pu rfl (by simp only [go_sem,Nat.reduceBEq];exact (by kernel_rfl:aAd prog 23 [(0,.v (.int .i64 (IntKind.i64.wrap r2))),(1,.v (.int .i64 (IntKind.i64.wrap r4))),(2,.v (.int .i64 (IntKind.i64.wrap r6)))]=some (.agg [.v (.int .i64 (IntKind.i64.wrap r2)),.v (.int .i64 (IntKind.i64.wrap r4)),.v (.int .i64 (IntKind.i64.wrap r6))]))) ?_;refine hp (id:=202) rfl rfl (nQ cHy Z5) ?_;refine aR.heap0 (id:=203) rfl (oD (ys:=[.v (.int .i64 (IntKind.i64.wrap r2)),.v (.int .i64 (IntKind.i64.wrap r4)),.v (.int .i64 (IntKind.i64.wrap r6))]) bY6 Z1 Z1 Z3 rfl (Nat.le_of_ble_eq_true rfl) Z9 rfl) ?_;refine fs ?_;refine AWp.seq' ?_;refine sr (N':=320) rfl ?_;refine pA ?_;refine pu rfl (hZ Z1 Z3 Z4) ?_
  iterate 3 first|refine pA ?_|refine pB ?_
  refine pg rfl rfl Z2 (fun hb=>(hZ (Zh hb) Z3 Z4)) ?_
  iterate 4 first|refine pA ?_|refine pB ?_
  refine pg rfl rfl Z2 (fun hb=>(hZ (Zh hb) Z3 Z4)) ?_
  iterate 2 first|refine pA ?_|refine pB ?_
  refine fs ?_;refine AWp.condM hm Z1 (fun _ hm=>?_) (fun _ hm=>?_)
  · refine sr (N':=384) rfl ?_;refine pu rfl (hZ Z1 Z3 Z2) ?_;refine aR.heap0 (id:=321) rfl (oD (ys:=[.v (.int .i64 0),.v (.int .i64 0),.v (.int .i64 0),.v (.slice none 0 0),.v (.slice none 0 0),.v (.slice none 0 0)]) bLj Z1 Z1 Z3 rfl (Nat.le_of_ble_eq_true rfl) Z9 rfl) ?_;refine pA ?_;refine fs ?_;refine AWp.ret ?_;refine jC ?_;cases hm;exact bF6 (.inr rfl) (by rw [Tryz.results44]) (.cell (aGo Z1 Z3 Z2) (.tmp Z1 .nil)) rfl (tdt (.cons (tda rfl (.cons (.data _ (.v _)) (.cons (.data _ (.v _)) (.cons (.data _ (.v _)) (.cons (.nil false) (.cons (.nil false) (.cons (.nil false) .nil))))))) (.cons (td rfl (.v _)) .nil)))
  ·
   refine AWp.skip ?_;refine bQ ?_;refine sr (N':=384) rfl ?_;refine pA ?_;refine pu rfl (hZ Z1 Z3 Z4) ?_;refine pA ?_;refine pu rfl (hZ Z1 Z3 Z4) ?_
   iterate 4 refine pA ?_
   refine pu rfl (hZ Z1 Z3 Z4) ?_
   iterate 4 refine pA ?_
   refine fs ?_;refine AWp.seq' ?_;refine sr (N':=448) rfl ?_
   iterate 5 refine pA ?_
   refine fs ?_;refine AWp.condM hm Z1 (fun _ hm=>?_) (fun _ hm=>?_)
   · refine sr (N':=512) rfl ?_;refine pu rfl (hZ Z1 Z3 Z2) ?_;refine aR.heap0 (id:=449) rfl (oD (ys:=[.v (.int .i64 0),.v (.int .i64 0),.v (.int .i64 0),.v (.slice none 0 0),.v (.slice none 0 0),.v (.slice none 0 0)]) bLj Z1 Z1 Z3 rfl (Nat.le_of_ble_eq_true rfl) Z9 rfl) ?_;refine pA ?_;refine fs ?_;refine AWp.ret ?_;refine jC ?_;cases hm;exact bF6 (.inr rfl) (by rw [Tryz.results44]) (.cell (aGo Z1 Z3 Z2) (.tmp Z1 .nil)) rfl (tdt (.cons (tda rfl (.cons (.data _ (.v _)) (.cons (.data _ (.v _)) (.cons (.data _ (.v _)) (.cons (.nil false) (.cons (.nil false) (.cons (.nil false) .nil))))))) (.cons (td rfl (.v _)) .nil)))
   ·
    refine AWp.skip ?_;refine bQ ?_;refine sr (N':=512) rfl ?_
    iterate 6 refine pA ?_
    refine fs ?_;refine AWp.seq' ?_;refine sr (N':=576) rfl ?_
    iterate 7 (first|refine pu rfl Zj ?_|refine pg rfl rfl Zj (by intro hb;simp only [go_sem,Nat.reduceBEq,Int.reduceEq,Int.reduceLE,hb,Bool.true_and];try with_reducible rfl) ?_)
    obtain ⟨r8,h7,hm⟩:=bnd hm;refine aR.callQG (r:= .v (.int .u64 r8)) Zd rfl Z2 Z1 aX4 (fun hb H=>(.cons (td (Zh hb) (.v _)) (.cons (td (Zh hb) (.v _)) (.cons (td (Zh hb) (.v _)) .nil)))) (fun hb=>rW (kF h7 hb)) ?_
    iterate 5 (first|refine pu rfl Zj ?_|refine pg rfl rfl Zj (by intro hb;simp only [go_sem,Nat.reduceBEq,Int.reduceEq,Int.reduceLE,hb,Bool.true_and];try with_reducible rfl) ?_)
    refine fs ?_;refine AWp.condM hm Z1 (fun _ hm=>?_) (fun _ hm=>?_)
    · refine sr (N':=640) rfl ?_;refine pu rfl (hZ Z1 Z3 Z2) ?_;refine aR.heap0 (id:=577) rfl (oD (ys:=[.v (.int .i64 0),.v (.int .i64 0),.v (.int .i64 0),.v (.slice none 0 0),.v (.slice none 0 0),.v (.slice none 0 0)]) bLj Z1 Z1 Z3 rfl (Nat.le_of_ble_eq_true rfl) Z9 rfl) ?_;refine pA ?_;refine fs ?_;refine AWp.ret ?_;refine jC ?_;cases hm;exact bF6 (.inr rfl) (by rw [Tryz.results44]) (.cell (aGo Z1 Z3 Z2) (.tmp Z1 .nil)) rfl (tdt (.cons (tda rfl (.cons (.data _ (.v _)) (.cons (.data _ (.v _)) (.cons (.data _ (.v _)) (.cons (.nil false) (.cons (.nil false) (.cons (.nil false) .nil))))))) (.cons (td rfl (.v _)) .nil)))
    ·
     refine AWp.skip ?_;refine bQ ?_;refine sr (N':=640) rfl ?_;refine pu rfl (hZ Z1 Z3 Z2) ?_
     iterate 2 refine pA ?_
     refine aR.heap0 (id:=579) rfl (oD (ys:=[.v (.int .i64 (IntKind.i64.wrap r2)),.v (.int .i64 (IntKind.i64.wrap r4)),.v (.int .i64 (IntKind.i64.wrap r6)),.v (.slice none 0 0),.v (.slice none 0 0),.v (.slice none 0 0)]) bY6 Z1 Z1 Z3 rfl (Nat.le_of_ble_eq_true rfl) Z9 rfl) ?_;refine fs ?_;refine sr (N':=704) rfl ?_;refine pA ?_;refine fs ?_;refine AWp.seq' ?_;refine sr (N':=768) rfl ?_;refine pA ?_;refine pu rfl (hZ Z1 Z3 Z4) ?_;refine pA ?_;refine pu rfl (hZ Z1 Z3 Z4) ?_
     iterate 2 refine pA ?_
     refine fs ?_;refine AWp.block ?_;refine AWp.loopM (fun m s=> ∃(b_0:ByteArray) (t2:aC) (s_4:aC) (c_5:aX) (qU:Int) (uD:Int) (t82:Int) (t83:Int),s=(⟨157,(aF (aF (aF (aF (aF (aF (aF (aF (fun _=>AV.any) 0 (.v (.string b_0))) 2 (.adr 1 0)) 4 (.adr 2 0)) 5 (.adr 4 0)) 7 (.v (.int .i64 qU))) 8 (.v (.int .i64 uD))) 82 (.v (.int .i64 t82))) 83 (.v (.int .i64 t83))),⟨(upd (upd (upd (upd aZ 1 (.cells 1 [.v (.int .i64 t2.Graph.Config.N),.v (.int .i64 t2.Graph.Config.L),.v (.int .i64 t2.Graph.Config.R),.v (.slice none 0 0),.v (.slice none 0 0),.v (.slice none 0 0)] 0)) 2 (.cells 1 [.v (.int .i64 s_4.Graph.Config.N),.v (.int .i64 s_4.Graph.Config.L),.v (.int .i64 s_4.Graph.Config.R),.own 3 0 s_4.Graph.Hashes.length,.v (.slice none 0 0),.v (.slice none 0 0)] 0)) 3 (.cells 2 (s_4.Graph.Hashes.flatMap cH) 0)) 4 (.cells 1 [.v (.int .i64 c_5.N),.v (.int .i64 c_5.L),.v (.int .i64 c_5.R)] 0)),64⟩⟩:St)∧rX m b_0 t2 s_4 c_5 qU uD t82 t83=some r) aY ?_ ?_ ?_
     · rintro s ⟨_,_,_,_,_,_,_,_,_,h⟩;cases h
     · refine ⟨_,?_,b_0,(aC.mk (aJ.mk (aX.mk 0 0 0) [] []) []),(aC.mk (aJ.mk (aX.mk (IntKind.i64.wrap r2) (IntKind.i64.wrap r4) (IntKind.i64.wrap r6)) [] []) []),(aX.mk (IntKind.i64.wrap r2) (IntKind.i64.wrap r4) (IntKind.i64.wrap r6)),(IntKind.i64.wrap ((IntKind.i64.wrap ((b_0.size:Int)-(IntKind.i64.wrap ((IntKind.i64.wrap ((IntKind.i64.wrap (10+(IntKind.i64.wrap ((IntKind.i64.wrap ((IntKind.i64.wrap r4)*(IntKind.i64.wrap r6)))*16))))+(IntKind.i64.wrap ((IntKind.i64.wrap r2)*9))))+4))))-8)),10,(IntKind.i64.wrap ((IntKind.i64.wrap r4)*(IntKind.i64.wrap r6))),0,rfl,hm⟩;refine St.Le.trans (aXo 64 3 910400 2 (ys:=[.v (.int .i64 (IntKind.i64.wrap r2)),.v (.int .i64 (IntKind.i64.wrap r4)),.v (.int .i64 (IntKind.i64.wrap r6)),.own 910400 0 0,.v (.slice none 0 0),.v (.slice none 0 0)]) Z3 (by rfl) Z5 (by rfl)) ?_;exact cP (fun j=>bif j==1 then 0 else bif j==2 then 64 else bif j==3 then 910400 else bif j==4 then 202 else 0) (wV (wV (wV (wV (bH _ _ (kV Z1 rfl Z7) (bH _ _ (kV Z1 rfl Z7) (bH _ _ (kV Z1 rfl Z7) (wV dN)))))))) (gN _ (cG (oE Z3 (Nat.le_refl _) (Nat.zero_le _) (aO4.dat (aX.mk (IntKind.i64.wrap r2) (IntKind.i64.wrap r4) (IntKind.i64.wrap r6)))) (eU jV (cG (jR Z3 rfl (.cons (.data _ (.v _)) (.cons (.data _ (.v _)) (.cons (.data _ (.v _)) (.cons (vE (by first|rfl|omega|(dsimp only;omega)) rfl Z7) (.cons (.data _ (.v _)) (.cons (.data _ (.v _)) .nil))))))) (cG (jR Z3 rfl (.cons (.data _ (.v _)) (.cons (.data _ (.v _)) (.cons (.data _ (.v _)) (.cons (.data _ (.v _)) (.cons (.data _ (.v _)) (.cons (.data _ (.v _)) .nil))))))) cZ)))) Z8)
     ·
      rintro n1 s ⟨b_0,t2,s_4,c_5,qU,uD,t82,t83,rfl,hm⟩;replace hm:wG (rX n1) b_0 t2 s_4 c_5 qU uD t82 t83=some r:=hm;unfold wG at hm;refine sr (N':=128) rfl ?_;refine pA ?_;refine fs ?_;refine AWp.seq' ?_;refine AWp.condM hm Z1 (fun _ hm=>?_) (fun _ hm=>?_)
      ·
       refine AWp.skip ?_;refine bQ ?_;refine AWp.seq' ?_;refine AWp.block ?_;refine sd mix (by kernel_rfl) (N':=192) rfl ?_
       iterate 2 refine pA ?_
       refine pu rfl (hZ Z1 Z3 Z4) ?_
       iterate 2 refine pA ?_
       obtain ⟨r10,h9,hm⟩:=bnd hm;refine aR.callQ (r:= .v (.int .u64 r10)) Zd Z1 aX4 (fun H=>(cV (cV (cV .nil)))) (rW h9) ?_
       iterate 3 refine pA ?_
       obtain ⟨r12,h11,hm⟩:=bnd hm;refine aR.callQ (r:= .v (.int .u64 r12)) Zd Z1 aX4 (fun H=>(cV (cV (cV .nil)))) (rW h11) ?_;refine pu rfl (by simp only [go_sem,Nat.reduceBEq];exact (by kernel_rfl:aAd prog 94 [(0,.v (.int .u64 r10)),(1,.v (.int .u64 r12))]=some (.agg [.v (.int .u64 r10),.v (.int .u64 r12)]))) ?_;refine hp (id:=139) rfl rfl (kW jV (l:=[(cI.mk r10 r12)]) underlying27 bQc bQt Z5 Zd Zd Zd (by simp only [go_sem,Nat.reduceBEq];try rfl) (by kernel_rfl)) ?_;obtain ⟨l14,h13,hm⟩:=bnd hm;refine hp (id:=140) rfl rfl (xH jV underlying27 underlying27 rfl bSa bUy (by rw [bC1];decide) (by rw [bC1];decide) bV0 Zd Zd Z1 Z3 Z6 (aAg jV Z1 Z3 Z6) rfl Z5 h13) ?_
       iterate 2 refine pA ?_
       refine aR.heap0 (id:=143) rfl (oD (ys:=[.v (.int .i64 s_4.Graph.Config.N),.v (.int .i64 s_4.Graph.Config.L),.v (.int .i64 s_4.Graph.Config.R),.own 140 0 l14.length,.v (.slice none 0 0),.v (.slice none 0 0)]) cFu Z1 Z1 Z3 rfl (Nat.le_of_ble_eq_true rfl) Z9 rfl) ?_;refine fs ?_;refine AWp.reg 64 (N':=256) rfl ?_
       iterate 3 refine pA ?_
       refine aR.fin ?_;refine jP ?_;refine bQ ?_;refine AWp.reg 64 (N':=320) rfl ?_
       iterate 2 refine pA ?_
       refine aR.fin ?_;refine iA ?_;refine ⟨_,?_,b_0,(aC.mk (aJ.mk t2.Graph.Config [] []) []),(aC.mk (aJ.mk s_4.Graph.Config l14 []) []),c_5,qU,(IntKind.i64.wrap (uD+16)),t82,(IntKind.i64.wrap (t83+1)),rfl,hm⟩;exact cP (fun j=>bif j==1 then 1 else bif j==2 then 2 else bif j==3 then 140 else bif j==4 then 4 else 0) (wV (wV (wV (wV (bH _ _ (kV Z1 rfl Z7) (bH _ _ (kV Z1 rfl Z7) (bH _ _ (kV Z1 rfl Z7) (wV dN)))))))) (gN _ (cG (oE Z3 (Nat.le_refl _) (Nat.zero_le _) (aO4.dat c_5)) (eU jV (cG (jR Z3 rfl (.cons (.data _ (.v _)) (.cons (.data _ (.v _)) (.cons (.data _ (.v _)) (.cons (vE (by first|rfl|omega|(dsimp only;omega)) rfl Z7) (.cons (.data _ (.v _)) (.cons (.data _ (.v _)) .nil))))))) (cG (jR Z3 rfl (.cons (.data _ (.v _)) (.cons (.data _ (.v _)) (.cons (.data _ (.v _)) (.cons (.data _ (.v _)) (.cons (.data _ (.v _)) (.cons (.data _ (.v _)) .nil))))))) cZ)))) Z8)
      ·
       refine AWp.exit ?_;refine kE ?_;refine jA ?_;refine iS ?_;refine bQ ?_;refine AWp.seq' ?_;refine sr (N':=192) rfl ?_;refine pA ?_;refine pu rfl (hZ Z1 Z3 Z4) ?_;refine pA ?_;refine fs ?_;refine AWp.block ?_;refine AWp.loopM (fun m s=> ∃(b_0:ByteArray) (t2:aC) (s_4:aC) (qU:Int) (uD:Int) (t104:Int) (t105:Int),s=(⟨157,(aF (aF (aF (aF (aF (aF (aF (fun _=>AV.any) 0 (.v (.string b_0))) 2 (.adr 1 0)) 4 (.adr 2 0)) 7 (.v (.int .i64 qU))) 8 (.v (.int .i64 uD))) 104 (.v (.int .i64 t104))) 105 (.v (.int .i64 t105))),⟨(upd (upd (upd (upd aZ 1 (.cells 1 [.v (.int .i64 t2.Graph.Config.N),.v (.int .i64 t2.Graph.Config.L),.v (.int .i64 t2.Graph.Config.R),.v (.slice none 0 0),.v (.slice none 0 0),.v (.slice none 0 0)] 0)) 2 (.cells 1 [.v (.int .i64 s_4.Graph.Config.N),.v (.int .i64 s_4.Graph.Config.L),.v (.int .i64 s_4.Graph.Config.R),.own 3 0 s_4.Graph.Hashes.length,.v (.slice none 0 0),.own 4 0 s_4.Slots.length] 0)) 3 (.cells 2 (s_4.Graph.Hashes.flatMap cH) 0)) 4 (.cells 2 (s_4.Slots.flatMap aW) 0)),64⟩⟩:St)∧rY m b_0 t2 s_4 qU uD t104 t105=some r) aY ?_ ?_ ?_
       · rintro s ⟨_,_,_,_,_,_,_,_,h⟩;cases h
       · refine ⟨_,?_,b_0,(aC.mk (aJ.mk t2.Graph.Config [] []) []),(aC.mk (aJ.mk s_4.Graph.Config s_4.Graph.Hashes []) []),qU,uD,c_5.N,0,rfl,hm⟩;refine St.Le.trans (aXo 2 5 910401 2 (ys:=[.v (.int .i64 s_4.Graph.Config.N),.v (.int .i64 s_4.Graph.Config.L),.v (.int .i64 s_4.Graph.Config.R),.own 3 0 s_4.Graph.Hashes.length,.v (.slice none 0 0),.own 910401 0 0]) Z3 (by rfl) Z5 (by rfl)) ?_;exact cP (fun j=>bif j==1 then 1 else bif j==2 then 2 else bif j==3 then 3 else bif j==4 then 910401 else 0) (wV (wV (wV (wV (bH _ _ (kV Z1 rfl Z7) (bH _ _ (kV Z1 rfl Z7) (wV dN))))))) (gN _ (eU cW (eU jV (cG (jR Z3 rfl (.cons (.data _ (.v _)) (.cons (.data _ (.v _)) (.cons (.data _ (.v _)) (.cons (vE (by first|rfl|omega|(dsimp only;omega)) rfl Z7) (.cons (.data _ (.v _)) (.cons (vE (by first|rfl|omega|(dsimp only;omega)) rfl Z7) .nil))))))) (cG (jR Z3 rfl (.cons (.data _ (.v _)) (.cons (.data _ (.v _)) (.cons (.data _ (.v _)) (.cons (.data _ (.v _)) (.cons (.data _ (.v _)) (.cons (.data _ (.v _)) .nil))))))) cZ)))) Z8)
       ·
        rintro n2 s ⟨b_0,t2,s_4,qU,uD,t104,t105,rfl,hm⟩;replace hm:wH (rY n2) b_0 t2 s_4 qU uD t104 t105=some r:=hm;unfold wH at hm;refine sr (N':=128) rfl ?_;refine pA ?_;refine fs ?_;refine AWp.seq' ?_;refine AWp.condM hm Z1 (fun _ hm=>?_) (fun _ hm=>?_)
        ·
         refine AWp.skip ?_;refine bQ ?_;refine AWp.seq' ?_;refine AWp.block ?_;refine sd mix (by kernel_rfl) (N':=192) rfl ?_;refine pA ?_;refine pu rfl (hZ Z1 Z3 Z4) ?_
         iterate 2 refine pA ?_
         obtain ⟨b16,h15,hm⟩:=bnd hm;refine pu rfl (aR4 underlying9 Z1 Z1 h15) ?_
         iterate 4 refine pA ?_
         obtain ⟨r18,h17,hm⟩:=bnd hm;refine aR.callQ (r:= .v (.int .u64 r18)) Zd Z1 aX4 (fun H=>(cV (cV (cV .nil)))) (rW h17) ?_;refine pu rfl (by simp only [go_sem,Nat.reduceBEq];exact (by kernel_rfl:aAd prog 96 [(0,.v (.bool (b16==1))),(1,.v (.int .u64 r18))]=some (.agg [.v (.bool (b16==1)),.v (.int .u64 r18)]))) ?_;refine hp (id:=139) rfl rfl (kW cW (l:=[(aN.mk (b16==1) r18)]) underlying31 bQd bQu Z5 Zd Zd Zd (by simp only [go_sem,Nat.reduceBEq];try rfl) (by kernel_rfl)) ?_;obtain ⟨l20,h19,hm⟩:=bnd hm;refine hp (id:=140) rfl rfl (xH cW underlying31 underlying31 rfl bSb bUz (by rw [bC2];decide) (by rw [bC2];decide) bV1 Zd Zd Z1 Z3 Z6 (aAg cW Z1 Z3 Z6) rfl Z5 h19) ?_;refine pA ?_;refine aR.heap0 (id:=142) rfl (oD (ys:=[.v (.int .i64 s_4.Graph.Config.N),.v (.int .i64 s_4.Graph.Config.L),.v (.int .i64 s_4.Graph.Config.R),.own 3 0 s_4.Graph.Hashes.length,.v (.slice none 0 0),.own 140 0 l20.length]) cGu Z1 Z1 Z3 rfl (Nat.le_of_ble_eq_true rfl) Z9 rfl) ?_;refine fs ?_;refine AWp.reg 64 (N':=256) rfl ?_
         iterate 3 refine pA ?_
         refine aR.fin ?_;refine jP ?_;refine bQ ?_;refine AWp.reg 64 (N':=320) rfl ?_
         iterate 2 refine pA ?_
         refine aR.fin ?_;refine iA ?_;refine ⟨_,?_,b_0,(aC.mk (aJ.mk t2.Graph.Config [] []) []),(aC.mk (aJ.mk s_4.Graph.Config s_4.Graph.Hashes []) l20),qU,(IntKind.i64.wrap (uD+9)),t104,(IntKind.i64.wrap (t105+1)),rfl,hm⟩;exact cP (fun j=>bif j==1 then 1 else bif j==2 then 2 else bif j==3 then 3 else bif j==4 then 140 else 0) (wV (wV (wV (wV (bH _ _ (kV Z1 rfl Z7) (bH _ _ (kV Z1 rfl Z7) (wV dN))))))) (gN _ (eU cW (eU jV (cG (jR Z3 rfl (.cons (.data _ (.v _)) (.cons (.data _ (.v _)) (.cons (.data _ (.v _)) (.cons (vE (by first|rfl|omega|(dsimp only;omega)) rfl Z7) (.cons (.data _ (.v _)) (.cons (vE (by first|rfl|omega|(dsimp only;omega)) rfl Z7) .nil))))))) (cG (jR Z3 rfl (.cons (.data _ (.v _)) (.cons (.data _ (.v _)) (.cons (.data _ (.v _)) (.cons (.data _ (.v _)) (.cons (.data _ (.v _)) (.cons (.data _ (.v _)) .nil))))))) cZ)))) Z8)
        ·
         refine AWp.exit ?_;refine kE ?_;refine jA ?_;refine iS ?_;refine bQ ?_;refine sr (N':=192) rfl ?_
         iterate 3 refine pA ?_
         refine fs ?_;refine AWp.seq' ?_;refine sr (N':=256) rfl ?_
         iterate 3 refine pu rfl Zj ?_
         refine fs ?_;refine AWp.block ?_;refine AWp.loopM (fun m s=> ∃(b_0:ByteArray) (t2:aC) (s_4:aC) (uD:Int) (t127:Int) (t128:Int),s=(⟨157,(aF (aF (aF (aF (aF (aF (fun _=>AV.any) 0 (.v (.string b_0))) 2 (.adr 1 0)) 4 (.adr 2 0)) 8 (.v (.int .i64 uD))) 127 (.v (.int .i64 t127))) 128 (.v (.int .i64 t128))),⟨(upd (upd (upd (upd (upd aZ 1 (.cells 1 [.v (.int .i64 t2.Graph.Config.N),.v (.int .i64 t2.Graph.Config.L),.v (.int .i64 t2.Graph.Config.R),.v (.slice none 0 0),.v (.slice none 0 0),.v (.slice none 0 0)] 0)) 2 (.cells 1 [.v (.int .i64 s_4.Graph.Config.N),.v (.int .i64 s_4.Graph.Config.L),.v (.int .i64 s_4.Graph.Config.R),.own 3 0 s_4.Graph.Hashes.length,.own 4 0 s_4.Graph.Edges.length,.own 5 0 s_4.Slots.length] 0)) 3 (.cells 2 (s_4.Graph.Hashes.flatMap cH) 0)) 4 (.cells 3 (s_4.Graph.Edges.flatMap aV) 0)) 5 (.cells 2 (s_4.Slots.flatMap aW) 0)),64⟩⟩:St)∧rZ m b_0 t2 s_4 uD t127 t128=some r) aY ?_ ?_ ?_
         · rintro s ⟨_,_,_,_,_,_,_,h⟩;cases h
         · refine ⟨_,?_,b_0,(aC.mk (aJ.mk t2.Graph.Config [] []) []),(aC.mk (aJ.mk s_4.Graph.Config s_4.Graph.Hashes []) s_4.Slots),(IntKind.i64.wrap (uD+4)),(IntKind.i64.wrap (Int.tdiv qU 5)),0,rfl,hm⟩;refine St.Le.trans (aXo 2 4 910401 3 (ys:=[.v (.int .i64 s_4.Graph.Config.N),.v (.int .i64 s_4.Graph.Config.L),.v (.int .i64 s_4.Graph.Config.R),.own 3 0 s_4.Graph.Hashes.length,.own 910401 0 0,.own 4 0 s_4.Slots.length]) Z3 (by rfl) Z5 (by rfl)) ?_;exact cP (fun j=>bif j==1 then 1 else bif j==2 then 2 else bif j==3 then 3 else bif j==4 then 910401 else bif j==5 then 4 else 0) (wV (wV (wV (bH _ _ (kV Z1 rfl Z7) (bH _ _ (kV Z1 rfl Z7) (wV dN)))))) (gN _ (eU cW (eU cL (eU jV (cG (jR Z3 rfl (.cons (.data _ (.v _)) (.cons (.data _ (.v _)) (.cons (.data _ (.v _)) (.cons (vE (by first|rfl|omega|(dsimp only;omega)) rfl Z7) (.cons (vE (by first|rfl|omega|(dsimp only;omega)) rfl Z7) (.cons (vE (by first|rfl|omega|(dsimp only;omega)) rfl Z7) .nil))))))) (cG (jR Z3 rfl (.cons (.data _ (.v _)) (.cons (.data _ (.v _)) (.cons (.data _ (.v _)) (.cons (.data _ (.v _)) (.cons (.data _ (.v _)) (.cons (.data _ (.v _)) .nil))))))) cZ))))) Z8)
         ·
          rintro n3 s ⟨b_0,t2,s_4,uD,t127,t128,rfl,hm⟩;replace hm:wI (rZ n3) b_0 t2 s_4 uD t127 t128=some r:=hm;unfold wI at hm;refine sr (N':=128) rfl ?_;refine pA ?_;refine fs ?_;refine AWp.seq' ?_;refine AWp.condM hm Z1 (fun _ hm=>?_) (fun _ hm=>?_)
          ·
           refine AWp.skip ?_;refine bQ ?_;refine AWp.seq' ?_;refine AWp.block ?_;refine sd mix (by kernel_rfl) (N':=192) rfl ?_
           iterate 2 refine pA ?_
           obtain ⟨r22,h21,hm⟩:=bnd hm;refine aR.callQ (r:= .v (.int .u64 r22)) Zd Z1 aX4 (fun H=>(cV (cV (cV .nil)))) (rW h21) ?_
           iterate 4 refine pA ?_
           obtain ⟨r24,h23,hm⟩:=bnd hm;refine aR.callQ (r:= .v (.int .u64 r24)) Zd Z1 aX4 (fun H=>(cV (cV (cV .nil)))) (rW h23) ?_
           iterate 4 refine pA ?_
           obtain ⟨b26,h25,hm⟩:=bnd hm;refine pu rfl (aR4 underlying9 Z1 Z1 h25) ?_;refine pA ?_;refine pu rfl (by simp only [go_sem,Nat.reduceBEq];exact (by kernel_rfl:aAd prog 61 [(0,.v (.int .i64 (IntKind.i64.wrap r22))),(1,.v (.int .i64 (IntKind.i64.wrap r24))),(2,.v (.int .i64 (IntKind.i64.wrap b26)))]=some (.agg [.v (.int .i64 (IntKind.i64.wrap r22)),.v (.int .i64 (IntKind.i64.wrap r24)),.v (.int .i64 (IntKind.i64.wrap b26))]))) ?_;refine hp (id:=143) rfl rfl (nQ aZ4 Z5) ?_;refine aR.heap0 (id:=144) rfl (oD (ys:=[.v (.int .i64 (IntKind.i64.wrap r22)),.v (.int .i64 (IntKind.i64.wrap r24)),.v (.int .i64 (IntKind.i64.wrap b26))]) aNu Z1 Z1 Z3 rfl (Nat.le_of_ble_eq_true rfl) Z9 rfl) ?_;refine fs ?_;refine sr (N':=256) rfl ?_
           iterate 2 refine pA ?_
           refine pu rfl (hZ Z1 Z3 Z4) ?_;refine pu rfl (hZ Z1 Z3 Z2) ?_;refine hp (id:=196) rfl rfl (kW cL (l:=[(aE.mk (IntKind.i64.wrap r22) (IntKind.i64.wrap r24) (IntKind.i64.wrap b26))]) underlying28 aNu aZ4 Z5 Zd Zd Zd (by simp only [go_sem,Nat.reduceBEq];try rfl) (by kernel_rfl)) ?_;obtain ⟨l28,h27,hm⟩:=bnd hm;refine hp (id:=197) rfl rfl (xH cL underlying28 underlying28 rfl bO2 bQl (by rw [aUy];decide) (by rw [aUy];decide) bQm Zd Zd Z1 Z3 Z6 (aAg cL Z1 Z3 Z6) rfl Z5 h27) ?_
           iterate 2 refine pA ?_
           refine aR.heap0 (id:=200) rfl (oD (ys:=[.v (.int .i64 s_4.Graph.Config.N),.v (.int .i64 s_4.Graph.Config.L),.v (.int .i64 s_4.Graph.Config.R),.own 3 0 s_4.Graph.Hashes.length,.own 197 0 l28.length,.own 5 0 s_4.Slots.length]) bUt Z1 Z1 Z3 rfl (Nat.le_of_ble_eq_true rfl) Z9 rfl) ?_;refine fs ?_;refine AWp.reg 64 (N':=320) rfl ?_
           iterate 3 refine pA ?_
           refine aR.fin ?_;refine jP ?_;refine bQ ?_;refine AWp.reg 64 (N':=384) rfl ?_
           iterate 2 refine pA ?_
           refine aR.fin ?_;refine iA ?_;refine ⟨_,?_,b_0,(aC.mk (aJ.mk t2.Graph.Config [] []) []),(aC.mk (aJ.mk s_4.Graph.Config s_4.Graph.Hashes l28) s_4.Slots),(IntKind.i64.wrap (uD+5)),t127,(IntKind.i64.wrap (t128+1)),rfl,hm⟩;exact cP (fun j=>bif j==1 then 1 else bif j==2 then 2 else bif j==3 then 3 else bif j==4 then 197 else bif j==5 then 5 else 0) (wV (wV (wV (bH _ _ (kV Z1 rfl Z7) (bH _ _ (kV Z1 rfl Z7) (wV dN)))))) (gN _ (eU cW (eU cL (eU jV (cG (jR Z3 rfl (.cons (.data _ (.v _)) (.cons (.data _ (.v _)) (.cons (.data _ (.v _)) (.cons (vE (by first|rfl|omega|(dsimp only;omega)) rfl Z7) (.cons (vE (by first|rfl|omega|(dsimp only;omega)) rfl Z7) (.cons (vE (by first|rfl|omega|(dsimp only;omega)) rfl Z7) .nil))))))) (cG (jR Z3 rfl (.cons (.data _ (.v _)) (.cons (.data _ (.v _)) (.cons (.data _ (.v _)) (.cons (.data _ (.v _)) (.cons (.data _ (.v _)) (.cons (.data _ (.v _)) .nil))))))) cZ))))) Z8)
          · refine AWp.exit ?_;refine kE ?_;refine jA ?_;refine iS ?_;refine bQ ?_;refine sr (N':=192) rfl ?_;refine pu rfl (hZ Z1 Z3 Z2) ?_;refine aR.heap0 (id:=129) rfl (oD (ys:=[.v (.int .i64 s_4.Graph.Config.N),.v (.int .i64 s_4.Graph.Config.L),.v (.int .i64 s_4.Graph.Config.R),.own 3 0 s_4.Graph.Hashes.length,.own 4 0 s_4.Graph.Edges.length,.own 5 0 s_4.Slots.length]) bLj Z1 Z1 Z3 rfl (Nat.le_of_ble_eq_true rfl) Z9 rfl) ?_;refine pA ?_;refine fs ?_;refine AWp.ret ?_;cases hm;exact bF6 (.inr rfl) (by rw [Tryz.results44]) (.cell (aGo Z1 Z3 Z2) (.tmp Z1 .nil)) rfl (tdt (.cons (tda rfl (.cons (.data _ (.v _)) (.cons (.data _ (.v _)) (.cons (.data _ (.v _)) (.cons (tdo jV rfl Z3 Z6) (.cons (tdo cL rfl Z3 Z6) (.cons (tdo cW rfl Z3 Z6) .nil))))))) (.cons (td rfl (.v _)) .nil)))
instance:Ct prog 44 (K1 prog vs (t2 dP vb) 44 oA):=⟨fun hm=>aYs hm⟩
def mO(b_0:ByteArray):Option (aC×Int):=
 ((oA b_0).bind fun ⟨r2,r3⟩=>
 (bif (!r3) then
  some ((aC.mk (aJ.mk (aX.mk 0 0 0) [] []) []),12)
 else
  ((oL r2).bind fun ⟨r5,r6⟩=>
  (bif ((r6 !=0)||(!decide (r5=b_0))) then
   some ((aC.mk (aJ.mk (aX.mk 0 0 0) [] []) []),12)
  else
   some (r2,0)))))
theorem aUv:K1 prog vs (t2 dP vi) 14 mO:=fun hm=>be 30 func14 (h:=G)
instance:Ct prog 14 (K1 prog vs (t2 dP vi) 14 mO):=⟨aUv⟩
abbrev kH(s_4:aC)(t8:aC)(bWs:Int):Option (aC×Int):=
 some (s_4,bWs)
def kA(s_0:aC)(c_1:dG)(u_2:Int)(v_3:Int):Option (aC×Int):=
 (bif (c_1.Do==1) then
  ((aEe s_0.Slots c_1.A).bind fun ⟨r2,r3,r4⟩=>
  kH (aC.mk s_0.Graph r2) (aC.mk (aJ.mk (aX.mk 0 0 0) [] []) []) r4)
 else
  (bif (c_1.Do==2) then
   ((rO s_0 u_2).bind fun r6=>
   (bif (decide (0<r6)) then
    some (s_0,11)
   else
    ((wX s_0.Slots c_1.A).bind fun ⟨r8,r9⟩=>
    kH (aC.mk s_0.Graph r8) (aC.mk (aJ.mk (aX.mk 0 0 0) [] []) []) r9)))
  else
   (bif (c_1.Do==3) then
    ((wT s_0.Graph u_2 v_3).bind fun ⟨r11,r12⟩=>
    kH (aC.mk r11 s_0.Slots) (aC.mk (aJ.mk (aX.mk 0 0 0) [] []) []) r12)
   else
    (bif (c_1.Do==4) then
     (bif (u_2==v_3) then
      some (s_0,9)
     else
      ((wQ s_0.Graph u_2 v_3).bind fun ⟨r14,r15⟩=>
      kH (aC.mk r14 s_0.Slots) (aC.mk (aJ.mk (aX.mk 0 0 0) [] []) []) r15))
    else
     (bif (c_1.Do==15) then
      ((mO c_1.Text).bind fun ⟨r17,r18⟩=>
      some (r17,r18))
     else
      kH s_0 (aC.mk (aJ.mk (aX.mk 0 0 0) [] []) []) 0)))))
theorem aUb:K4 prog dP qC vi vi (t2 dP vi) 41 kA:=fun hm=>be 76 func41 (h:=G)
instance:Ct prog 41 (K4 prog dP qC vi vi (t2 dP vi) 41 kA):=⟨aUb⟩
def kY(s_0:aC)(c_1:dG):Option (aC×GA):=
 ((eJ (((decide (c_1.Do<1))||(decide (15<c_1.Do)))==false) false (mP s_0)).bind fun r2=>
 (bif (((decide (c_1.Do<1))||(decide (15<c_1.Do)))||(!r2)) then
  some (s_0,(GA.i 36 .i64 1))
 else
  ((uB s_0.Slots c_1.A).bind fun ⟨r4,r5⟩=>
  ((uB s_0.Slots c_1.B).bind fun ⟨r7,r8⟩=>
  ((qM c_1.Do).bind fun r10=>
  ((eJ ((r10&&(!r5))==false) false (qN c_1.Do)).bind fun r12=>
  (bif ((r10&&(!r5))||(r12&&(!r8))) then
   some (s_0,(GA.i 36 .i64 7))
  else
   (bif ((decide (4<c_1.Do))&&(c_1.Do !=15)) then
    ((mH s_0 c_1.Do r4 r7).bind fun r14=>
    some (s_0,r14))
   else
    ((kA s_0 c_1 r4 r7).bind fun ⟨r16,r17⟩=>
    (bif (r17 !=0) then
     some (s_0,(GA.i 36 .i64 r17))
    else
     some (r16,(GA.i 36 .i64 0))))))))))))
theorem bKx:K2 prog dP qC (t2 dP GA.av) 12 kY:=fun hm=>be 91 func12 (h:=G)
instance:Ct prog 12 (K2 prog dP qC (t2 dP GA.av) 12 kY):=⟨bKx⟩
def fS(s_0:aG)(c_1:dG):Option (aG×ByteArray):=
 (bif (!s_0.On) then
  ((bY (GA.i 36 .i64 3)).bind fun r2=>
  some (s_0,r2))
 else
  ((kY s_0.State c_1).bind fun ⟨r4,r5⟩=>
  ((bY r5).bind fun r7=>
  some ((aG.mk r4 s_0.Words s_0.On),r7))))
theorem aYj:K2 prog gJ qC (t2 gJ vs) 62 fS:=fun hm=>be 26 func62 (h:=G)
instance:Ct prog 62 (K2 prog gJ qC (t2 gJ vs) 62 fS):=⟨aYj⟩
def zP(rec2:Int→ByteArray→Nat→Option (Int×Int))(n_6:Int)(t33s:ByteArray)(t33p:Nat):Option (Int×Int):=
 (bif (decide (t33p<t33s.size)) then
  (bif (decide ((IntKind.u64.wrap (Int.tdiv (IntKind.u64.wrap (18446744073709551615-(IntKind.u64.wrap (IntKind.i32.wrap ((((Utf8.decode t33s t33p).1:Nat):Int)-48))))) 10))<n_6)) then
   some (0,6)
  else
   rec2 (IntKind.u64.wrap ((IntKind.u64.wrap (n_6*10))+(IntKind.u64.wrap (IntKind.i32.wrap ((((Utf8.decode t33s t33p).1:Nat):Int)-48))))) t33s (t33p+(Utf8.decode t33s t33p).2))
 else
  some (n_6,0))
def uN:Nat→Int→ByteArray→Nat→Option (Int×Int)
 |0=>fun _ _ _=>none
 |n+1=>zP (uN n)
def zO(rec1:ByteArray→ByteArray→Nat→Option (Int×Int))(dF:ByteArray)(t22s:ByteArray)(t22p:Nat):Option (Int×Int):=
 (bif (decide (t22p<t22s.size)) then
  (bif ((decide ((((Utf8.decode t22s t22p).1:Nat):Int)<48))||(decide (57<(((Utf8.decode t22s t22p).1:Nat):Int)))) then
   some (0,2)
  else
   rec1 dF t22s (t22p+(Utf8.decode t22s t22p).2))
 else
  uN aY 0 dF 0)
def uM:Nat→ByteArray→ByteArray→Nat→Option (Int×Int)
 |0=>fun _ _ _=>none
 |n+1=>zO (uM n)
def yH(dF:ByteArray):Option (Int×Int):=
 ((eJ ((decide (dF=⟨#[]⟩))==false) 0 (aBo dF 0)).bind fun b2=>
 (bif ((decide (dF=⟨#[]⟩))||((b2==48)&&(!decide (dF=⟨#[48]⟩)))) then
  some (0,2)
 else
  uM aY dF dF 0))
theorem bAr{dF:ByteArray}{r:Int×Int}(hm:yH dF=some r):cE prog 110 [.v (.string dF)] (.tup [.v (.int .u64 r.1),.v (.int .i64 r.2)]):=by
 refine cE.of_body func110 rfl ?_;simp only [ntmps110,List.length_cons,List.length_nil,Nat.reduceAdd,Nat.reduceSub,iO];unfold yH at hm;refine sr (N':=64) rfl ?_
 iterate 2 refine pA ?_
 refine fs ?_;refine AWp.seq' ?_;refine sr (N':=128) rfl ?_
 iterate 4 first|refine pA ?_|refine pB ?_
 obtain ⟨b2,h1,hm⟩:=bnd hm;refine pg rfl rfl Z2 (fun hb=>(aR4 underlying9 (Zh hb) (Zh hb) (kF h1 hb))) ?_
 iterate 6 first|refine pA ?_|refine pB ?_
 refine fs ?_;refine AWp.condM hm Z1 (fun _ hm=>?_) (fun _ hm=>?_)
 ·
  refine sr (N':=192) rfl ?_
  iterate 2 refine pA ?_
  refine fs ?_;refine AWp.ret ?_;refine jC ?_;cases hm;exact aGg (.inr rfl) Tryz.results110 (td Z1 (.v _)) (td Z1 (.v _))
 ·
  refine AWp.skip ?_;refine bQ ?_;refine AWp.seq' ?_;refine sr (N':=192) rfl ?_;refine pA ?_;refine hp (id:=129) rfl rfl (aIa underlying9 Z1 Z5) ?_;refine fs ?_;refine AWp.block ?_;refine AWp.loopM (fun m s=> ∃(dF:ByteArray) (t22s:ByteArray) (t22p:Nat),s=(⟨50,(aF (aF (fun _=>AV.any) 0 (.v (.string dF))) 22 (.adr 1 0)),⟨(upd aZ 1 (.iter t22s t22p)),64⟩⟩:St)∧uM m dF t22s t22p=some r) aY ?_ ?_ ?_
  · rintro s ⟨_,_,_,_,h⟩;cases h
  · refine ⟨_,?_,dF,dF,0,rfl,hm⟩;exact cP (fun j=>bif j==1 then 129 else 0) (bH _ _ (kV Z1 rfl Z7) (wV dN)) (hW (cG (kX Z3) cZ))
  ·
   rintro n1 s ⟨dF,t22s,t22p,rfl,hm⟩;replace hm:zO (uM n1) dF t22s t22p=some r:=hm;unfold zO at hm;refine sr (N':=128) rfl ?_;refine aYv hm (fun h3 hm=>?_) (fun h3 hm=>?_)
   ·
    refine hp (id:=64) rfl rfl (aDa Z1 Z3 (of_decide_eq_true h3)) ?_;refine pA ?_;refine fs ?_;refine AWp.seq' ?_;refine AWp.condT Z1 ?_;refine AWp.skip ?_;refine bQ ?_;refine AWp.block ?_;refine sr (N':=192) rfl ?_
    iterate 2 refine pA ?_
    refine fs ?_;refine sr (N':=256) rfl ?_
    iterate 6 first|refine pA ?_|refine pB ?_
    refine fs ?_;refine AWp.condM hm Z1 (fun _ hm=>?_) (fun _ hm=>?_)
    ·
     refine sr (N':=320) rfl ?_
     iterate 2 refine pA ?_
     refine fs ?_;refine AWp.ret ?_;refine sI ?_;refine sJ ?_;refine sI ?_;refine jC ?_;cases hm;exact aGg (.inr rfl) Tryz.results110 (td Z1 (.v _)) (td Z1 (.v _))
    · refine AWp.skip ?_;refine jP ?_;refine iA ?_;refine ⟨_,?_,dF,t22s,(t22p+(Utf8.decode t22s t22p).2),rfl,hm⟩;exact cP (fun j=>bif j==1 then 1 else 0) (bH _ _ (kV Z1 rfl Z7) (wV dN)) (hW (cG (kX Z3) cZ))
   ·
    refine hp (id:=64) rfl rfl (aFb Z1 Z3 (of_decide_eq_false h3)) ?_;refine pA ?_;refine fs ?_;refine AWp.seq' ?_;refine AWp.condF Z1 ?_;refine AWp.exit ?_;refine kE ?_;refine jA ?_;refine iS ?_;refine bQ ?_;refine sr (N':=192) rfl ?_;refine pA ?_;refine fs ?_;refine AWp.seq' ?_;refine sr (N':=256) rfl ?_;refine pA ?_;refine hp (id:=193) rfl rfl (aIa underlying9 Z1 Z5) ?_;refine fs ?_;refine AWp.block ?_;refine AWp.loopM (fun m s=> ∃(n_6:Int) (t33s:ByteArray) (t33p:Nat),s=(⟨50,(aF (aF (fun _=>AV.any) 6 (.v (.int .u64 n_6))) 33 (.adr 1 0)),⟨(upd aZ 1 (.iter t33s t33p)),64⟩⟩:St)∧uN m n_6 t33s t33p=some r) aY ?_ ?_ ?_
    · rintro s ⟨_,_,_,_,h⟩;cases h
    · refine ⟨_,?_,0,dF,0,rfl,hm⟩;exact cP (fun j=>bif j==1 then 193 else 0) (bH _ _ (kV Z1 rfl Z7) (wV dN)) (hW (cG (kX Z3) cZ))
    ·
     rintro n2 s ⟨n_6,t33s,t33p,rfl,hm⟩;replace hm:zP (uN n2) n_6 t33s t33p=some r:=hm;unfold zP at hm;refine sr (N':=128) rfl ?_;refine aYv hm (fun h4 hm=>?_) (fun h4 hm=>?_)
     ·
      refine hp (id:=64) rfl rfl (aDa Z1 Z3 (of_decide_eq_true h4)) ?_;refine pA ?_;refine fs ?_;refine AWp.seq' ?_;refine AWp.condT Z1 ?_;refine AWp.skip ?_;refine bQ ?_;refine AWp.block ?_;refine sr (N':=192) rfl ?_
      iterate 2 refine pA ?_
      refine fs ?_;refine sr (N':=256) rfl ?_
      iterate 4 refine pA ?_
      refine fs ?_;refine AWp.seq' ?_;refine sr (N':=320) rfl ?_
      iterate 5 refine pu rfl Zj ?_
      refine fs ?_;refine AWp.condM hm Z1 (fun _ hm=>?_) (fun _ hm=>?_)
      ·
       refine sr (N':=384) rfl ?_
       iterate 2 refine pA ?_
       refine fs ?_;refine AWp.ret ?_;refine jC ?_;refine sI ?_;refine sJ ?_;refine sI ?_;refine jC ?_;cases hm;exact aGg (.inr rfl) Tryz.results110 (td Z1 (.v _)) (td Z1 (.v _))
      ·
       refine AWp.skip ?_;refine bQ ?_;refine AWp.reg 64 (N':=384) rfl ?_
       iterate 5 refine pA ?_
       refine aR.fin ?_;refine jP ?_;refine iA ?_;refine ⟨_,?_,(IntKind.u64.wrap ((IntKind.u64.wrap (n_6*10))+(IntKind.u64.wrap (IntKind.i32.wrap ((((Utf8.decode t33s t33p).1:Nat):Int)-48))))),t33s,(t33p+(Utf8.decode t33s t33p).2),rfl,hm⟩;exact cP (fun j=>bif j==1 then 1 else 0) (bH _ _ (kV Z1 rfl Z7) (wV dN)) (hW (cG (kX Z3) cZ))
     ·
      refine hp (id:=64) rfl rfl (aFb Z1 Z3 (of_decide_eq_false h4)) ?_;refine pA ?_;refine fs ?_;refine AWp.seq' ?_;refine AWp.condF Z1 ?_;refine AWp.exit ?_;refine kE ?_;refine jA ?_;refine iS ?_;refine bQ ?_;refine sr (N':=192) rfl ?_
      iterate 3 refine pA ?_
      refine fs ?_;refine AWp.ret ?_;cases hm;exact aGg (.inr rfl) Tryz.results110 (td Z1 (.v _)) (td Z1 (.v _))
instance:Ct prog 110 (K1 prog vs (t2 vu vi) 110 yH):=⟨fun hm=>bAr hm⟩
def aAu(rec1:List Int→List ByteArray→Int→Int→Option ((List Int)×Int))(aEv:List Int)(t9:List ByteArray)(t10:Int)(t11:Int):Option ((List Int)×Int):=
 (bif (decide (t11<t10)) then
  ((idx t9 t11).bind fun x2=>
  ((yH x2).bind fun ⟨r4,r5⟩=>
  (bif (r5 !=0) then
   some ([],r5)
  else
   ((app aEv [r4]).bind fun l7=>
   rec1 l7 t9 t10 (IntKind.i64.wrap (t11+1))))))
 else
  some (aEv,0))
def pH:Nat→List Int→List ByteArray→Int→Int→Option ((List Int)×Int)
 |0=>fun _ _ _ _=>none
 |n+1=>aAu (pH n)
def rD(aZ2:List ByteArray):Option ((List Int)×Int):=
 pH aY [] aZ2 (aZ2.length:Int) 0
theorem aQz:K1 prog (vl kD) (t2 (vl (ci .u64)) vi) 63 rD:=by
 intro aZ2 r hm
 let I1:=((fun m s=> ∃aEv t9 t10 t11,s=⟨29,(aF (aF (aF (aF fa 4 (.own 1 0 aEv.length)) 9 (vl kD t9)) 10 (vi t10)) 11 (vi t11)),⟨(upd aZ 1 (.cells 1 (aEv.flatMap (ci .u64)) 0)),64⟩⟩∧pH m aEv t9 t10 t11=some r):Nat→St→Prop)
 exact be 29 func63 (h:=G)
instance:Ct prog 63 (K1 prog (vl kD) (t2 (vl (ci .u64)) vi) 63 rD):=⟨aQz⟩
def nT(n_0:Int)(m_1:Int):Option (Bool):=
 some ((((decide (1≤n_0))&&(decide (n_0≤1024)))&&(decide (0≤m_1)))&&(decide (m_1≤2147483647)))
theorem aY7:K2 prog vi vi vb 147 nT:=fun hm=>be 19 func147 (h:=G)
instance:Ct prog 147 (K2 prog vi vi vb 147 nT):=⟨aY7⟩
def aAr(k_0:Int):Option (Bool):=
 some ((decide (0≤k_0))&&(decide (k_0≤64)))
theorem bF0:K1 prog vi vb 148 aAr:=fun hm=>be 9 func148 (h:=G)
instance:Ct prog 148 (K1 prog vi vb 148 aAr):=⟨bF0⟩
def qG(l_0:Int)(r_1:Int):Option (Bool):=
 some ((((decide (1≤l_0))&&(decide (l_0≤16)))&&(decide (1≤r_1)))&&(decide (r_1≤8)))
theorem bBb:K2 prog vi vi vb 180 qG:=fun hm=>be 19 func180 (h:=G)
instance:Ct prog 180 (K2 prog vi vi vb 180 qG):=⟨bBb⟩
def aHi(rec1:Int→Int→Int→Int→Option (Int))(a_0:Int)(p_5:Int)(t6:Int)(t7:Int):Option (Int):=
 (bif (decide (t7<t6)) then
  rec1 a_0 (IntKind.u64.wrap (p_5*a_0)) t6 (IntKind.i64.wrap (t7+1))
 else
  some p_5)
def zW:Nat→Int→Int→Int→Int→Option (Int)
 |0=>fun _ _ _ _=>none
 |n+1=>aHi (zW n)
def yK(a_0:Int)(n_1:Int):Option (Int):=
 zW aY a_0 1 n_1 0
theorem bBa:K2 prog vu vi vu 226 yK:=by
 intro a_0 n_1 r hm
 let I1:=((fun m s=> ∃a_0 p_5 t6 t7,s=⟨14,(aF (aF (aF (aF fa 0 (vu a_0)) 5 (vu p_5)) 6 (vi t6)) 7 (vi t7)),⟨aZ,64⟩⟩∧zW m a_0 p_5 t6 t7=some r):Nat→St→Prop)
 exact be 14 func226 (h:=G)
instance:Ct prog 226 (K2 prog vu vi vu 226 yK):=⟨bBa⟩
def qX(s_0:List Int):Option ((List Int)):=
 ((bLa s_0 0 (s_0.length:Int) (s_0.length:Int)).bind fun l2=>
 some l2)
theorem aLw{s_0:List Int}{r:(List Int)}(hm:qX s_0=some r):cE prog 250 [vl (ci .u32) s_0] (vl (ci .u32) r):=by
 refine bd 9 func250 ?_;obtain ⟨l2,h1,hm⟩:=bnd hm;refine W ?_;refine pu rfl (bRa (CFi .u32) underlying253 bVx Z1 rfl aRn (aCg Z1 (bQ6 h1).2.1) (aCg Z1 (bQ6 h1).2.2) rfl rfl h1) ?_;exact E
instance:Ct prog 250 (K1 prog (vl (ci .u32)) (vl (ci .u32)) 250 qX):=⟨fun hm=>aLw hm⟩
def aFi(rec1:List Int→Option ((List Int)))(a_0:List Int):Option ((List Int)):=
 ((eJ ((decide (0<(a_0.length:Int)))==true) 0 (idx a_0 (IntKind.i64.wrap ((a_0.length:Int)-1)))).bind fun x2=>
 (bif ((decide (0<(a_0.length:Int)))&&(x2==0)) then
  ((slc a_0 0 (IntKind.i64.wrap ((a_0.length:Int)-1))).bind fun l4=>
  rec1 l4)
 else
  ((qX a_0).bind fun r6=>
  some r6)))
def vW:Nat→List Int→Option ((List Int))
 |0=>fun _=>none
 |n+1=>aFi (vW n)
def uQ(a_0:List Int):Option ((List Int)):=
 vW aY a_0
theorem aN4:K1 prog (vl (ci .u32)) (vl (ci .u32)) 228 uQ:=by
 intro a_0 r hm
 let I1:=((fun m s=> ∃a_0,s=⟨22,(aF fa 0 (vl (ci .u32) a_0)),⟨aZ,64⟩⟩∧vW m a_0=some r):Nat→St→Prop)
 exact be 22 func228 (h:=G)
instance:Ct prog 228 (K1 prog (vl (ci .u32)) (vl (ci .u32)) 228 uQ):=⟨aN4⟩
def aB1(n_0:Int):Option ((List Int)):=
 ((uQ [(IntKind.u32.wrap n_0),(IntKind.u32.wrap (shr .u64 n_0 32))]).bind fun r2=>
 some r2)
theorem bUf{n_0:Int}{r:(List Int)}(hm:aB1 n_0=some r):cE prog 184 [vu n_0] (vl (ci .u32) r):=by
 refine bd 10 func184 ?_;refine W ?_;refine aL (CFi .u32) [(IntKind.u32.wrap n_0),(IntKind.u32.wrap (shr .u64 n_0 32))] ?_;obtain ⟨r2,h1,hm⟩:=bnd hm;refine aR.callL1 (r:= .sl (r2.flatMap (ci .u32)) r2.length false) (id:=69) Zd Z1 bZs Z3 (.cons (tdl (CFi .u32) Z1 Z3 (by simp) Z6) .nil) (aN4 h1) ?_;exact E
instance:Ct prog 184 (K1 prog vu (vl (ci .u32)) 184 aB1):=⟨fun hm=>bUf hm⟩
def mX(a_0:List Int):Option (Bool):=
 ((eJ (((decide ((a_0.length:Int)≤64))==true)&&(((a_0.length:Int)==0)==false)) 0 (idx a_0 (IntKind.i64.wrap ((a_0.length:Int)-1)))).bind fun x2=>
 some ((decide ((a_0.length:Int)≤64))&&(((a_0.length:Int)==0)||(x2 !=0))))
theorem aDr:K1 prog (vl (ci .u32)) vb 227 mX:=fun hm=>be 20 func227 (h:=G)
instance:Ct prog 227 (K1 prog (vl (ci .u32)) vb 227 mX):=⟨aDr⟩
def uP(a_0:List Int):Option ((List Int)×Int):=
 ((uQ a_0).bind fun r2=>
 (bif (decide (64<(r2.length:Int))) then
  some ([],6)
 else
  some (r2,0)))
theorem aHb:K1 prog (vl (ci .u32)) (t2 (vl (ci .u32)) vi) 229 uP:=fun hm=>be 10 func229 (h:=G)
instance:Ct prog 229 (K1 prog (vl (ci .u32)) (t2 (vl (ci .u32)) vi) 229 uP):=⟨aHb⟩
abbrev aOr(rec1:List Int→List Int→List Int→Int→Int→Int→Option ((List Int)×Int))(a_0:List Int)(b_1:List Int)(nB:List Int)(xB:Int)(t26:Int)(t27:Int):Option ((List Int)×Int):=
 rec1 a_0 b_1 nB xB t26 (IntKind.i64.wrap (t27+1))
abbrev aG9(rec1:List Int→List Int→List Int→Int→Int→Int→Option ((List Int)×Int))(a_0:List Int)(b_1:List Int)(nB:List Int)(i_8:Int)(t_9:Int)(t26:Int)(t27:Int):Option ((List Int)×Int):=
 ((idx nB i_8).bind fun x8=>
 ((stt nB i_8 (IntKind.u32.wrap t_9)).bind fun l10=>
 aOr rec1 a_0 b_1 l10 (shr .u64 t_9 32) t26 t27))
abbrev aG8(rec1:List Int→List Int→List Int→Int→Int→Int→Option ((List Int)×Int))(a_0:List Int)(b_1:List Int)(nB:List Int)(i_8:Int)(t_9:Int)(t26:Int)(t27:Int):Option ((List Int)×Int):=
 (bif (decide (i_8<(b_1.length:Int))) then
  ((idx b_1 i_8).bind fun x12=>
  aG9 rec1 a_0 b_1 nB i_8 (IntKind.u64.wrap (t_9+(IntKind.u64.wrap x12))) t26 t27)
 else
  aG9 rec1 a_0 b_1 nB i_8 t_9 t26 t27)
def aOq(rec1:List Int→List Int→List Int→Int→Int→Int→Option ((List Int)×Int))(a_0:List Int)(b_1:List Int)(nB:List Int)(xB:Int)(t26:Int)(t27:Int):Option ((List Int)×Int):=
 (bif (decide (t27<t26)) then
  (bif (decide (t27<(a_0.length:Int))) then
   ((idx a_0 t27).bind fun x14=>
   aG8 rec1 a_0 b_1 nB t27 (IntKind.u64.wrap (xB+(IntKind.u64.wrap x14))) t26 t27)
  else
   aG8 rec1 a_0 b_1 nB t27 xB t26 t27)
 else
  ((uP nB).bind fun ⟨r16,r17⟩=>
  some (r16,r17)))
def rP:Nat→List Int→List Int→List Int→Int→Int→Int→Option ((List Int)×Int)
 |0=>fun _ _ _ _ _ _=>none
 |n+1=>aOq (rP n)
def aJ6(a_0:List Int)(b_1:List Int):Option ((List Int)×Int):=
 ((mX a_0).bind fun r2=>
 ((eJ ((!r2)==false) false (mX b_1)).bind fun r4=>
 (bif ((!r2)||(!r4)) then
  some ([],1)
 else
  ((mkc (IntKind.i64.wrap ((if (a_0.length:Int)<(b_1.length:Int) then (b_1.length:Int) else (a_0.length:Int))+1)) (IntKind.i64.wrap ((if (a_0.length:Int)<(b_1.length:Int) then (b_1.length:Int) else (a_0.length:Int))+1)) 0).bind fun l6=>
  rP aY a_0 b_1 l6 0 (l6.length:Int) 0))))
theorem bP1{a_0:List Int}{b_1:List Int}{r:(List Int)×Int}(hm:aJ6 a_0 b_1=some r):cE prog 225 [vl (ci .u32) a_0,vl (ci .u32) b_1] (.tup [vl (ci .u32) r.1,vi r.2]):=by
 refine bd 65 func225 ?_;obtain ⟨r2,h1,hm⟩:=bnd hm;refine W ?_;refine cq (aDr h1) ?_;obtain ⟨r4,h3,hm⟩:=bnd hm;refine W ?_;refine cg (fun hb=>aDr (kF h3 hb)) ?_;refine W ?_;refine cm hm (fun hm=>?_) fun hm=>?_
 · exact E
 obtain ⟨l6,h5,hm⟩:=bnd hm;refine W ?_;refine aK (CFi .u32) h5 ?_;refine W ?_;refine lp (fun m s=> ∃a_0 b_1 nB xB t26 t27,s=⟨65,(aF (aF (aF (aF (aF (aF fa 0 (vl (ci .u32) a_0)) 1 (vl (ci .u32) b_1)) 6 (.own 1 0 nB.length)) 7 (vu xB)) 26 (vi t26)) 27 (vi t27)),⟨(upd aZ 1 (.cells 1 (nB.flatMap (ci .u32)) 0)),64⟩⟩∧rP m a_0 b_1 nB xB t26 t27=some r) (Lr (fun j=>bif j==1 then 134 else 0)) ?_;rintro n1 s ⟨a_0,b_1,nB,xB,t26,t27,rfl,hm⟩;refine W ?_;refine cm hm (fun hm=>?_) fun hm=>?_
 ·
  refine V ?_;refine AWp.seqJ (fun s=> ∃a_0 b_1 nB xB t26 t27,s=⟨65,(aF (aF (aF (aF (aF (aF fa 0 (vl (ci .u32) a_0)) 1 (vl (ci .u32) b_1)) 6 (.own 1 0 nB.length)) 7 (vu xB)) 26 (vi t26)) 27 (vi t27)),⟨(upd aZ 1 (.cells 1 (nB.flatMap (ci .u32)) 0)),64⟩⟩∧aOr (rP n1) a_0 b_1 nB xB t26 t27=some r) ?_ ?_
  ·
   refine V ?_;refine AWp.seqJ (fun s=> ∃a_0 b_1 nB i_8 t_9 t26 t27,s=⟨65,(aF (aF (aF (aF (aF (aF (aF fa 0 (vl (ci .u32) a_0)) 1 (vl (ci .u32) b_1)) 6 (.own 1 0 nB.length)) 8 (vi i_8)) 9 (vu t_9)) 26 (vi t26)) 27 (vi t27)),⟨(upd aZ 1 (.cells 1 (nB.flatMap (ci .u32)) 0)),64⟩⟩∧aG8 (rP n1) a_0 b_1 nB i_8 t_9 t26 t27=some r) ?_ ?_
   ·
    refine W ?_;refine cm hm (fun hm=>?_) fun hm=>?_
    · obtain ⟨x14,h13,hm⟩:=bnd hm;refine W ?_;exact Lr (fun j=>bif j==1 then 1 else 0)
    refine W ?_;exact Lr (fun j=>bif j==1 then 1 else 0)
   rintro s ⟨a_0,b_1,nB,i_8,t_9,t26,t27,rfl,hm⟩;refine AWp.seqJ (fun s=> ∃a_0 b_1 nB i_8 t_9 t26 t27,s=⟨65,(aF (aF (aF (aF (aF (aF (aF fa 0 (vl (ci .u32) a_0)) 1 (vl (ci .u32) b_1)) 6 (.own 1 0 nB.length)) 8 (vi i_8)) 9 (vu t_9)) 26 (vi t26)) 27 (vi t27)),⟨(upd aZ 1 (.cells 1 (nB.flatMap (ci .u32)) 0)),64⟩⟩∧aG9 (rP n1) a_0 b_1 nB i_8 t_9 t26 t27=some r) ?_ ?_
   ·
    refine W ?_;refine cm hm (fun hm=>?_) fun hm=>?_
    · obtain ⟨x12,h11,hm⟩:=bnd hm;refine W ?_;exact Lr (fun j=>bif j==1 then 1 else 0)
    refine W ?_;exact Lr (fun j=>bif j==1 then 1 else 0)
   rintro s ⟨a_0,b_1,nB,i_8,t_9,t26,t27,rfl,hm⟩;obtain ⟨x8,h7,hm⟩:=bnd hm;obtain ⟨l10,h9,hm⟩:=bnd hm;refine W ?_;have qh9:=nG h9;refine aS h9 ?_;refine W ?_;exact Lr (fun j=>bif j==1 then 1 else 0)
  rintro s ⟨a_0,b_1,nB,xB,t26,t27,rfl,hm⟩;refine W ?_;exact Lr (fun j=>bif j==1 then 1 else 0)
 iterate 5 refine S1 ?_
 refine AWp.seq' ?_;refine AWp.weaken (aK9 (CFi .u32) 6 1 Z1 Z3 Z6) ?_;refine W ?_;obtain ⟨⟨r16,r17⟩,h15,hm⟩:=bnd hm;refine cq (aHb h15) ?_;exact E
instance:Ct prog 225 (K2 prog (vl (ci .u32)) (vl (ci .u32)) (t2 (vl (ci .u32)) vi) 225 aJ6):=⟨fun hm=>bP1 hm⟩
def aOu(rec1:List Int→List Int→List Int→Int→Int→Option ((List Int)×Int))(rec2:List Int→List Int→Int→Int→Int→List Int→Int→Int→List Int→Int→Int→Option ((List Int)×Int))(b_1:List Int)(jI:List Int)(i_7:Int)(x_8:Int)(aGw:Int)(t27:List Int)(t28:Int)(t29:Int)(t34:List Int)(t35:Int)(t36:Int):Option ((List Int)×Int):=
 (bif (decide (t36<t35)) then
  ((idx t34 t36).bind fun x10=>
  ((idx jI (IntKind.i64.wrap (i_7+t36))).bind fun x12=>
  ((idx jI (IntKind.i64.wrap (i_7+t36))).bind fun x14=>
  ((stt jI (IntKind.i64.wrap (i_7+t36)) (IntKind.u32.wrap (IntKind.u64.wrap ((IntKind.u64.wrap ((IntKind.u64.wrap x12)+(IntKind.u64.wrap ((IntKind.u64.wrap x_8)*(IntKind.u64.wrap x10)))))+aGw)))).bind fun l16=>
  rec2 b_1 l16 i_7 x_8 (shr .u64 (IntKind.u64.wrap ((IntKind.u64.wrap ((IntKind.u64.wrap x12)+(IntKind.u64.wrap ((IntKind.u64.wrap x_8)*(IntKind.u64.wrap x10)))))+aGw)) 32) t27 t28 t29 t34 t35 (IntKind.i64.wrap (t36+1))))))
 else
  ((idx jI (IntKind.i64.wrap (i_7+(b_1.length:Int)))).bind fun x18=>
  ((stt jI (IntKind.i64.wrap (i_7+(b_1.length:Int))) (IntKind.u32.wrap aGw)).bind fun l20=>
  rec1 b_1 l20 t27 t28 (IntKind.i64.wrap (t29+1)))))
def aGb(rec1:List Int→List Int→List Int→Int→Int→Option ((List Int)×Int)):Nat→List Int→List Int→Int→Int→Int→List Int→Int→Int→List Int→Int→Int→Option ((List Int)×Int)
 |0=>fun _ _ _ _ _ _ _ _ _ _ _=>none
 |n+1=>aOu rec1 (aGb rec1 n)
def aOt(rec1:List Int→List Int→List Int→Int→Int→Option ((List Int)×Int))(b_1:List Int)(jI:List Int)(t27:List Int)(t28:Int)(t29:Int):Option ((List Int)×Int):=
 (bif (decide (t29<t28)) then
  ((idx t27 t29).bind fun x8=>
  aGb rec1 aY b_1 jI t29 x8 0 t27 t28 t29 b_1 (b_1.length:Int) 0)
 else
  ((uP jI).bind fun ⟨r22,r23⟩=>
  some (r22,r23)))
def rQ:Nat→List Int→List Int→List Int→Int→Int→Option ((List Int)×Int)
 |0=>fun _ _ _ _ _=>none
 |n+1=>aOt (rQ n)
def aDp(a_0:List Int)(b_1:List Int):Option ((List Int)×Int):=
 ((mX a_0).bind fun r2=>
 ((eJ ((!r2)==false) false (mX b_1)).bind fun r4=>
 (bif ((!r2)||(!r4)) then
  some ([],1)
 else
  ((mkc (IntKind.i64.wrap ((a_0.length:Int)+(b_1.length:Int))) (IntKind.i64.wrap ((a_0.length:Int)+(b_1.length:Int))) 0).bind fun l6=>
  rQ aY b_1 l6 a_0 (a_0.length:Int) 0))))
theorem bP3{a_0:List Int}{b_1:List Int}{r:(List Int)×Int}(hm:aDp a_0 b_1=some r):cE prog 185 [vl (ci .u32) a_0,vl (ci .u32) b_1] (.tup [vl (ci .u32) r.1,vi r.2]):=by
 refine bd 79 func185 ?_;obtain ⟨r2,h1,hm⟩:=bnd hm;refine W ?_;refine cq (aDr h1) ?_;obtain ⟨r4,h3,hm⟩:=bnd hm;refine W ?_;refine cg (fun hb=>aDr (kF h3 hb)) ?_;refine W ?_;refine cm hm (fun hm=>?_) fun hm=>?_
 · exact E
 obtain ⟨l6,h5,hm⟩:=bnd hm;refine W ?_;refine aK (CFi .u32) h5 ?_;refine W ?_;refine lp (fun m s=> ∃b_1 jI t27 t28 t29,s=⟨79,(aF (aF (aF (aF (aF fa 1 (vl (ci .u32) b_1)) 6 (.own 1 0 jI.length)) 27 (vl (ci .u32) t27)) 28 (vi t28)) 29 (vi t29)),⟨(upd aZ 1 (.cells 1 (jI.flatMap (ci .u32)) 0)),64⟩⟩∧rQ m b_1 jI t27 t28 t29=some r) (Lr (fun j=>bif j==1 then 133 else 0)) ?_;rintro n1 s ⟨b_1,jI,t27,t28,t29,rfl,hm⟩;refine W ?_;refine cm hm (fun hm=>?_) fun hm=>?_
 ·
  obtain ⟨x8,h7,hm⟩:=bnd hm;refine W ?_;refine lp (fun m s=> ∃b_1 jI i_7 x_8 aGw t27 t28 t29 t34 t35 t36,s=⟨79,(aF (aF (aF (aF (aF (aF (aF (aF (aF (aF (aF fa 1 (vl (ci .u32) b_1)) 6 (.own 1 0 jI.length)) 7 (vi i_7)) 8 (.v (.int .u32 x_8))) 9 (vu aGw)) 27 (vl (ci .u32) t27)) 28 (vi t28)) 29 (vi t29)) 34 (vl (ci .u32) t34)) 35 (vi t35)) 36 (vi t36)),⟨(upd aZ 1 (.cells 1 (jI.flatMap (ci .u32)) 0)),64⟩⟩∧aGb (rQ n1) m b_1 jI i_7 x_8 aGw t27 t28 t29 t34 t35 t36=some r) (Lr (fun j=>bif j==1 then 1 else 0)) ?_;rintro n2 s ⟨b_1,jI,i_7,x_8,aGw,t27,t28,t29,t34,t35,t36,rfl,hm⟩;refine W ?_;refine cm hm (fun hm=>?_) fun hm=>?_
  · obtain ⟨x10,h9,hm⟩:=bnd hm;obtain ⟨x12,h11,hm⟩:=bnd hm;have hm:=sb hm h11;obtain ⟨l16,h15,hm⟩:=bnd hm;refine W ?_;have qh15:=nG h15;refine aS h15 ?_;refine W ?_;exact Lr (fun j=>bif j==1 then 1 else 0)
  obtain ⟨x18,h17,hm⟩:=bnd hm;obtain ⟨l20,h19,hm⟩:=bnd hm;refine W ?_;have qh19:=nG h19;refine aS h19 ?_;refine W ?_;exact Lr (fun j=>bif j==1 then 1 else 0)
 iterate 5 refine S1 ?_
 refine AWp.seq' ?_;refine AWp.weaken (aK9 (CFi .u32) 6 1 Z1 Z3 Z6) ?_;refine W ?_;obtain ⟨⟨r22,r23⟩,h21,hm⟩:=bnd hm;refine cq (aHb h21) ?_;exact E
instance:Ct prog 185 (K2 prog (vl (ci .u32)) (vl (ci .u32)) (t2 (vl (ci .u32)) vi) 185 aDp):=⟨fun hm=>bP3 hm⟩
def aOv(rec1:List Int→List Int→Int→Int→Option ((List Int)×Int))(a_0:List Int)(aNd:List Int)(t21:Int)(t22:Int):Option ((List Int)×Int):=
 (bif (decide (t22<t21)) then
  ((aDp aNd a_0).bind fun ⟨r6,r7⟩=>
  (bif (r7 !=0) then
   some ([],r7)
  else
   rec1 a_0 r6 t21 (IntKind.i64.wrap (t22+1))))
 else
  some (aNd,0))
def aGc:Nat→List Int→List Int→Int→Int→Option ((List Int)×Int)
 |0=>fun _ _ _ _=>none
 |n+1=>aOv (aGc n)
def aDq(a_0:List Int)(n_1:Int):Option ((List Int)×Int):=
 ((mX a_0).bind fun r2=>
 (bif (((!r2)||(decide (n_1<0)))||(decide (1024<n_1))) then
  some ([],1)
 else
  ((aB1 1).bind fun r4=>
  aGc aY a_0 r4 n_1 0)))
theorem bP4:K2 prog (vl (ci .u32)) vi (t2 (vl (ci .u32)) vi) 183 aDq:=by
 intro a_0 n_1 r hm
 let I1:=((fun m s=> ∃a_0 aNd t21 t22,s=⟨36,(aF (aF (aF (aF fa 0 (vl (ci .u32) a_0)) 6 (vl (ci .u32) aNd)) 21 (vi t21)) 22 (vi t22)),⟨aZ,64⟩⟩∧aGc m a_0 aNd t21 t22=some r):Nat→St→Prop)
 exact be 36 func183 (h:=G)
instance:Ct prog 183 (K2 prog (vl (ci .u32)) vi (t2 (vl (ci .u32)) vi) 183 aDq):=⟨bP4⟩
def zX(n_0:Int)(m_1:Int)(l_2:Int)(r_3:Int):Option ((List Int)×Int):=
 ((nT n_0 m_1).bind fun r2=>
 ((eJ ((!r2)==false) false (qG l_2 r_3)).bind fun r4=>
 (bif ((!r2)||(!r4)) then
  some ([],1)
 else
  ((yK 8 r_3).bind fun r6=>
  ((aB1 r6).bind fun r8=>
  ((yK 7 r_3).bind fun r10=>
  ((aB1 r10).bind fun r12=>
  ((aJ6 r8 r12).bind fun ⟨r14,r15⟩=>
  (bif (r15 !=0) then
   some ([],r15)
  else
   ((aDq r14 l_2).bind fun ⟨r17,r18⟩=>
   (bif (r18 !=0) then
    some ([],r18)
   else
    ((aB1 (IntKind.u64.wrap ((IntKind.u64.wrap m_1)*(IntKind.u64.wrap n_0)))).bind fun r20=>
    ((aDp r20 r17).bind fun ⟨r22,r23⟩=>
    some (r22,r23))))))))))))))
theorem aY9:K4 prog vi vi vi vi (t2 (vl (ci .u32)) vi) 181 zX:=fun hm=>be 55 func181 (h:=G)
instance:Ct prog 181 (K4 prog vi vi vi vi (t2 (vl (ci .u32)) vi) 181 zX):=⟨aY9⟩
def aBm(l_0:Int)(r_1:Int):Option ((List Int)×Int):=
 ((qG l_0 r_1).bind fun r2=>
 (bif (!r2) then
  some ([],1)
 else
  ((yK 8 r_1).bind fun r4=>
  ((aB1 (IntKind.u64.wrap (2*r4))).bind fun r6=>
  ((aDq r6 l_0).bind fun ⟨r8,r9⟩=>
  some (r8,r9))))))
theorem bBc:K2 prog vi vi (t2 (vl (ci .u32)) vi) 182 aBm:=fun hm=>be 18 func182 (h:=G)
instance:Ct prog 182 (K2 prog vi vi (t2 (vl (ci .u32)) vi) 182 aBm):=⟨bBc⟩
attribute [local semireducible] aY
end Go.Proofs.YtkdohhmacfoolaaGreatDoor
