/- Facts. No condition. -/
import Derived.Test.YtkdohhmacfoolaaGreatDoorPfGI2
set_option linter.unusedVariables false
set_option linter.unusedSimpArgs false
set_option maxRecDepth 20000
set_option maxHeartbeats 4000000
namespace Go.Proofs.YtkdohhmacfoolaaGreatDoor
open Go.Proofs.Tryz Go Go.AM
attribute [local irreducible] aW
structure dL where
 Do:Int
 A:Int
 B:Int
 Text:ByteArray
deriving DecidableEq
def yS(e:dL):List AV:=[.v (.int .i64 e.Do),.v (.int .u64 e.A),.v (.int .u64 e.B),.v (.string e.Text)]
theorem aQx:CF yS 4:=⟨fun _=>rfl,fun a x hx=>by
 simp only [yS,List.mem_cons,List.not_mem_nil,or_false] at hx;rcases hx with rfl|rfl|rfl|rfl
 · exact (.v _)
 · exact (.v _)
 · exact (.v _)
 · exact (.v _),fun _=>rfl⟩
instance:CC yS 4:=⟨aQx⟩
abbrev qF(e:dL):AV:= .agg [.v (.int .i64 e.Do),vu e.A,vu e.B,.v (.string e.Text)]
@[go_sem] theorem aLn(e:dL)(r:List AV):yS e++r= .v (.int .i64 e.Do):: .v (.int .u64 e.A):: .v (.int .u64 e.B):: .v (.string e.Text)::r:=rfl
structure bI where
 List:List Int
 At:Int
deriving DecidableEq
def aEr(e:bI):List AV:=[.sl (e.List.flatMap (ci .u64)) e.List.length false,.v (.int .i64 e.At)]
theorem aWp:CF aEr 2:=⟨fun _=>rfl,fun a x hx=>by
 simp only [aEr,List.mem_cons,List.not_mem_nil,or_false] at hx;rcases hx with rfl|rfl
 · exact ((CFi .u64).sl _ _ _)
 · exact (.v _),fun _=>rfl⟩
instance:CC aEr 2:=⟨aWp⟩
abbrev mR(e:bI):AV:= .agg [vl (ci .u64) e.List,vi e.At]
@[go_sem] theorem aR2(e:bI)(r:List AV):aEr e++r= .sl (e.List.flatMap (ci .u64)) e.List.length false:: .v (.int .i64 e.At)::r:=rfl
structure aM where
 State:aD
 Words:bI
 On:Bool
deriving DecidableEq
def wQ(e:aM):List AV:=[.v (.int .i64 e.State.Graph.Config.N),.v (.int .i64 e.State.Graph.Config.L),.v (.int .i64 e.State.Graph.Config.R),.sl (e.State.Graph.Hashes.flatMap cL) e.State.Graph.Hashes.length false,.sl (e.State.Graph.Edges.flatMap aV) e.State.Graph.Edges.length false,.sl (e.State.Slots.flatMap aX) e.State.Slots.length false,.sl (e.Words.List.flatMap (ci .u64)) e.Words.List.length false,.v (.int .i64 e.Words.At),.v (.bool e.On)]
theorem aOd:CF wQ 9:=⟨fun _=>rfl,fun a x hx=>by
 simp only [wQ,List.mem_cons,List.not_mem_nil,or_false] at hx;rcases hx with rfl|rfl|rfl|rfl|rfl|rfl|rfl|rfl|rfl
 · exact (.v _)
 · exact (.v _)
 · exact (.v _)
 · exact (jR.sl _ _ _)
 · exact (cI.sl _ _ _)
 · exact (cZ.sl _ _ _)
 · exact ((CFi .u64).sl _ _ _)
 · exact (.v _)
 · exact (.v _),fun _=>rfl⟩
instance:CC wQ 9:=⟨aOd⟩
abbrev eF(e:aM):AV:= .agg [.v (.int .i64 e.State.Graph.Config.N),vi e.State.Graph.Config.L,vi e.State.Graph.Config.R,vl cL e.State.Graph.Hashes,vl aV e.State.Graph.Edges,vl aX e.State.Slots,vl (ci .u64) e.Words.List,vi e.Words.At,vb e.On]
@[go_sem] theorem aKy(e:aM)(r:List AV):wQ e++r= .v (.int .i64 e.State.Graph.Config.N):: .v (.int .i64 e.State.Graph.Config.L):: .v (.int .i64 e.State.Graph.Config.R):: .sl (e.State.Graph.Hashes.flatMap cL) e.State.Graph.Hashes.length false:: .sl (e.State.Graph.Edges.flatMap aV) e.State.Graph.Edges.length false:: .sl (e.State.Slots.flatMap aX) e.State.Slots.length false:: .sl (e.Words.List.flatMap (ci .u64)) e.Words.List.length false:: .v (.int .i64 e.Words.At):: .v (.bool e.On)::r:=rfl
@[go_sem] theorem bJ9(i o:Nat):aH prog 23 (.adr i o) 0=some (.adr i (o+0)):=by kernel_rfl
@[go_sem] theorem bJf(i o:Nat):aH prog 23 (.adr i o) 1=some (.adr i (o+1)):=by kernel_rfl
@[go_sem] theorem bJl(i o:Nat):aH prog 23 (.adr i o) 2=some (.adr i (o+2)):=by kernel_rfl
@[go_sem] theorem bJs(i o:Nat):aH prog 30 (.adr i o) 0=some (.adr i (o+0)):=by kernel_rfl
@[go_sem] theorem bJw(i o:Nat):aH prog 30 (.adr i o) 1=some (.adr i (o+3)):=by kernel_rfl
@[go_sem] theorem bK2(i o:Nat):aH prog 30 (.adr i o) 2=some (.adr i (o+4)):=by kernel_rfl
@[go_sem] theorem bK5(i o:Nat):aH prog 33 (.adr i o) 0=some (.adr i (o+0)):=by kernel_rfl
@[go_sem] theorem bK9(i o:Nat):aH prog 33 (.adr i o) 1=some (.adr i (o+5)):=by kernel_rfl
@[go_sem] theorem bKe(i o:Nat):aH prog 42 (.adr i o) 0=some (.adr i (o+0)):=by kernel_rfl
@[go_sem] theorem bKf(i o:Nat):aH prog 42 (.adr i o) 1=some (.adr i (o+1)):=by kernel_rfl
@[go_sem] theorem bKh(i o:Nat):aH prog 42 (.adr i o) 2=some (.adr i (o+2)):=by kernel_rfl
@[go_sem] theorem bKj(i o:Nat):aH prog 42 (.adr i o) 3=some (.adr i (o+3)):=by kernel_rfl
@[go_sem] theorem bL0(i o:Nat):aH prog 68 (.adr i o) 0=some (.adr i (o+0)):=by kernel_rfl
@[go_sem] theorem bL4(i o:Nat):aH prog 68 (.adr i o) 2=some (.adr i (o+8)):=by kernel_rfl
@[go_sem] theorem bLe(i o:Nat):aH prog 96 (.adr i o) 0=some (.adr i (o+0)):=by kernel_rfl
@[go_sem] theorem bP7(H:aG)(x0:AV)(xs:List AV):bT prog H 147 (.ptr (x0::xs))=some (.agg [x0]):=by kernel_rfl
@[go_sem] theorem bTc(H:aG)(x0 x1 x2:AV)(xs:List AV):bT prog H 23 (.ptr (x0::x1::x2::xs))=some (.agg [x0,x1,x2]):=by kernel_rfl
@[go_sem] theorem bTj(H:aG)(x:AV)(xs:List AV):bT prog H 27 (.ptr (x::xs))=some x:=by kernel_rfl
@[go_sem] theorem bPc(H:aG)(x:AV)(xs:List AV):bT prog H 277 (.ptr (x::xs))=some x:=by kernel_rfl
@[go_sem] theorem bTp(H:aG)(x:AV)(xs:List AV):bT prog H 28 (.ptr (x::xs))=some x:=by kernel_rfl
@[go_sem] theorem bXz(H:aG)(x:AV)(xs:List AV):bT prog H 3 (.ptr (x::xs))=some x:=by kernel_rfl
@[go_sem] theorem bTv(H:aG)(x0 x1 x2 x3 x4:AV)(xs:List AV):bT prog H 30 (.ptr (x0::x1::x2::x3::x4::xs))=some (.agg [x0,x1,x2,x3,x4]):=by kernel_rfl
@[go_sem] theorem bU0(H:aG)(x:AV)(xs:List AV):bT prog H 31 (.ptr (x::xs))=some x:=by kernel_rfl
@[go_sem] theorem bU4(H:aG)(x0 x1 x2 x3 x4 x5:AV)(xs:List AV):bT prog H 33 (.ptr (x0::x1::x2::x3::x4::x5::xs))=some (.agg [x0,x1,x2,x3,x4,x5]):=by kernel_rfl
@[go_sem] theorem bY6(H:aG)(x:AV)(xs:List AV):bT prog H 4 (.ptr (x::xs))=some x:=by kernel_rfl
@[go_sem] theorem bUd(H:aG)(x:AV)(xs:List AV):bT prog H 40 (.ptr (x::xs))=some x:=by kernel_rfl
@[go_sem] theorem bUf(H:aG)(x0 x1 x2 x3:AV)(xs:List AV):bT prog H 42 (.ptr (x0::x1::x2::x3::xs))=some (.agg [x0,x1,x2,x3]):=by kernel_rfl
@[go_sem] theorem bUm(H:aG)(x0 x1 x2:AV)(xs:List AV):bT prog H 61 (.ptr (x0::x1::x2::xs))=some (.agg [x0,x1,x2]):=by kernel_rfl
@[go_sem] theorem bUn(H:aG)(x0 x1 x2 x3 x4 x5 x6 x7 x8:AV)(xs:List AV):bT prog H 68 (.ptr (x0::x1::x2::x3::x4::x5::x6::x7::x8::xs))=some (.agg [x0,x1,x2,x3,x4,x5,x6,x7,x8]):=by kernel_rfl
@[go_sem] theorem bY9(H:aG)(x:AV)(xs:List AV):bT prog H 9 (.ptr (x::xs))=some x:=by kernel_rfl
@[go_sem] theorem bIm(H:aG)(k:IntKind)(n:Int):mU prog H 3 40 (.v (.int k n))=some (.v (.int .u64 (IntKind.u64.wrap n))):=gK underlying3 underlying40
@[go_sem] theorem bNw(H:aG)(k:IntKind)(n:Int):mU prog H 5 3 (.v (.int k n))=some (.v (.int .i64 (IntKind.i64.wrap n))):=gK underlying5 underlying3
@[go_sem] theorem bIs(H:aG)(k:IntKind)(n:Int):mU prog H 5 40 (.v (.int k n))=some (.v (.int .u64 (IntKind.u64.wrap n))):=gK underlying5 underlying40
@[go_sem] theorem bDz(H:aG)(k:IntKind)(n:Int):mU prog H 21 40 (.v (.int k n))=some (.v (.int .u64 (IntKind.u64.wrap n))):=gK underlying21 underlying40
@[go_sem] theorem bIo(H:aG)(k:IntKind)(n:Int):mU prog H 40 3 (.v (.int k n))=some (.v (.int .i64 (IntKind.i64.wrap n))):=gK underlying40 underlying3
@[go_sem] theorem bAi(H:aG)(k:IntKind)(n:Int):mU prog H 40 277 (.v (.int k n))=some (.v (.int .u32 (IntKind.u32.wrap n))):=gK underlying40 underlying277
@[go_sem] theorem bAh(H:aG)(k:IntKind)(n:Int):mU prog H 277 40 (.v (.int k n))=some (.v (.int .u64 (IntKind.u64.wrap n))):=gK underlying277 underlying40
def mG(bYw:aI):Option (Bool):=
 some (!bYw.Used)
theorem aO8:K1 prog aQw vb 128 mG:=fun hm=>be 6 func128 (h:=G)
instance:Ct prog 128 (K1 prog aQw vb 128 mG):=⟨aO8⟩
def kL(l:List aI):Option (List aI):=app [] l
theorem aMd{r:List aI}(hm:some []=some r):fS prog 129 [.v (.slice none 0 0)] 2 (r.flatMap aX) r.length:=by
 refine fS.of_body func129 rfl (cZ.fmdat r) ?_;simp only [ntmps129,List.length_cons,List.length_nil,Nat.reduceAdd,Nat.reduceSub,iO];refine sN 64 (pA ?_);refine fs (AWp.seq' (sN 128 (pA ?_)));refine pu rfl (aC4 Z1 Z1 (aMn underlying31)) ?_;refine fs (AWp.condT Z1 ?_);refine sN 192 (pA ?_);refine fs (AWp.weaken (aAq 2 900002 2 Z1 Z5) ?_);refine AWp.ret (jF ?_);cases hm;exact aNo (.inr rfl) Tryz.results129 Z1 Z3 Z6
theorem aMe{a:Addr}{c:Nat}{r:List aI}(hm:((app [] []).bind fun l2=>
some l2)=some r):fS prog 129 [.v (.slice (some a) 0 c)] 2 (r.flatMap aX) r.length:=by
 refine fS.of_body func129 rfl (cZ.fmdat r) ?_;simp only [ntmps129,List.length_cons,List.length_nil,Nat.reduceAdd,Nat.reduceSub,iO];refine sN 64 (pA ?_);refine fs (AWp.seq' (sN 128 (pA ?_)));refine pu rfl (aC4 Z1 Z1 (aKf underlying31)) ?_;refine fs (AWp.condF Z1 ?_);refine AWp.skip (bQ (sN 192 (hp (id:=128) rfl rfl (kZ cZ (l:=[]) underlying31 bR4 bRk Z5 Zd Zd Zd (by simp only [go_sem,Nat.reduceBEq];try rfl) (by kernel_rfl)) ?_)));refine pA ?_;obtain ⟨l2,h1,hm⟩:=bnd hm;refine hp (id:=130) rfl rfl (wX cZ underlying31 underlying31 rfl bT3 bVs (by rw [bCq];decide) (by rw [bCq];decide) bVu Zd Zd Z1 Z3 Z6 (aRm Z1) rfl Z5 h1) ?_;refine pA ?_;refine fs (AWp.ret ?_);cases hm;exact aNo (.inr rfl) Tryz.results129 Z1 Z3 Z6
theorem aMf{x0:aI}{l0:List aI}{r:List aI}(hm:((app [] (x0::l0)).bind fun l2=>
some l2)=some r):fS prog 129 [.sl ((x0::l0).flatMap aX) (x0::l0).length false] 2 (r.flatMap aX) r.length:=by
 refine fS.of_body func129 rfl (cZ.fmdat r) ?_;simp only [ntmps129,List.length_cons,List.length_nil,Nat.reduceAdd,Nat.reduceSub,iO];refine sN 64 (pA ?_);refine fs (AWp.seq' (sN 128 (pA ?_)));refine pu rfl (aC4 Z1 Z1 (aKe underlying31 (by simp))) ?_;refine fs (AWp.condF Z1 ?_);refine AWp.skip (bQ (sN 192 (hp (id:=128) rfl rfl (kZ cZ (l:=[]) underlying31 bR4 bRk Z5 Zd Zd Zd (by simp only [go_sem,Nat.reduceBEq];try rfl) (by kernel_rfl)) ?_)));refine pA ?_;obtain ⟨l2,h1,hm⟩:=bnd hm;refine hp (id:=130) rfl rfl (wX cZ underlying31 underlying31 rfl bT3 bVs (by rw [bCq];decide) (by rw [bCq];decide) bVu Zd Zd Z1 Z3 Z6 (aVj cZ Z1 rfl) rfl Z5 h1) ?_;refine pA ?_;refine fs (AWp.ret ?_);cases hm;exact aNo (.inr rfl) Tryz.results129 Z1 Z3 Z6
theorem aFb{l r:List aI}(hm:kL l=some r):fS prog 129 [.sl (l.flatMap aX) l.length false] 2 (r.flatMap aX) r.length:=by
 cases l with
 |nil=>
  have hr:r=[]:=by unfold kL app at hm;simpa using hm.symm
  subst hr;exact fS.nil_arg (aMd (r:=[]) rfl) (fun a c=>aMe (r:=[]) rfl)
 |cons x0 l0=>
  refine aMf ?_;show (app [] (x0::l0)).bind _=_;unfold kL at hm;rw [hm];rfl
def aEj(l_0:List aI)(kC:Int):Option ((List aI)×Int×Int):=
 ((oE l_0).bind fun ⟨r2,r3⟩=>
 (bif (!r3) then
  some (l_0,0,1)
 else
  ((xP r2 kC).bind fun ⟨r5,r6⟩=>
  (bif r6 then
   some (l_0,0,4)
  else
   ((sH l_0 (fun x0=>mG x0)).bind fun r8=>
   (bif (decide (r8<0)) then
    some (l_0,0,10)
   else
    ((kL l_0).bind fun r10=>
    ((idx r10 r8).bind fun x12=>
    ((stt r10 r8 (aI.mk true kC)).bind fun l14=>
    some (l14,r8,0))))))))))
theorem bG5{l_0:List aI}{kC:Int}{r:(List aI)×Int×Int}(hm:aEj l_0 kC=some r):bY prog 87 [vl aX l_0,vu kC] (.tup [vl aX r.1,vi r.2.1,vi r.2.2]):=by
 refine bd 43 func87 ?_;refine W ?_;obtain ⟨⟨r2,r3⟩,h1,hm⟩:=bnd hm;refine cq (aId h1) ?_;refine W ?_;refine cm hm (fun hm=>?_) fun hm=>?_
 · exact E
 refine W ?_;obtain ⟨⟨r5,r6⟩,h4,hm⟩:=bnd hm;refine cq (aOq h4) ?_;refine W ?_;refine cm hm (fun hm=>?_) fun hm=>?_
 · exact E
 obtain ⟨r8,h7,hm⟩:=bnd hm;refine W ?_;refine aR.callQ (r:= .v (.int .i64 r8)) Zd Z1 cA1 (fun H=>(cD (cZ.sl _ _ _) (cD (bNx aLv) .nil))) (aIk h7 aLv cA2 (fun h=>aO8 h)) ?_;refine W ?_;refine cm hm (fun hm=>?_) fun hm=>?_
 · exact E
 obtain ⟨r10,h9,hm⟩:=bnd hm;refine W ?_;refine aR.callF (id:=449) Zd Z1 bW7 (fun H=>(cD (cZ.sl _ _ _) .nil)) cZ Z5 (aFb h9) ?_;refine W ?_;refine bU (.agg [vb true,vu kC]) ?_;obtain ⟨x12,h11,hm⟩:=bnd hm;obtain ⟨l14,h13,hm⟩:=bnd hm;refine W ?_;have qh13:=nH h13;refine aS h13 ?_;exact E
instance:Ct prog 87 (K2 prog (vl aX) vu (t3 (vl aX) vi vi) 87 aEj):=⟨fun hm=>bG5 hm⟩
def wK(l_0:List aI)(kC:Int):Option ((List aI)×Int):=
 ((oE l_0).bind fun ⟨r2,r3⟩=>
 (bif (!r3) then
  some (l_0,1)
 else
  ((xP r2 kC).bind fun ⟨r5,r6⟩=>
  (bif (!r6) then
   some (l_0,7)
  else
   ((kL l_0).bind fun r8=>
   ((idx r8 r5).bind fun x10=>
   ((stt r8 r5 (aI.mk false 0)).bind fun l12=>
   some (l12,0))))))))
theorem aVe{l_0:List aI}{kC:Int}{r:(List aI)×Int}(hm:wK l_0 kC=some r):bY prog 88 [vl aX l_0,vu kC] (.tup [vl aX r.1,vi r.2]):=by
 refine bd 35 func88 ?_;refine W ?_;obtain ⟨⟨r2,r3⟩,h1,hm⟩:=bnd hm;refine cq (aId h1) ?_;refine W ?_;refine cm hm (fun hm=>?_) fun hm=>?_
 · exact E
 refine W ?_;obtain ⟨⟨r5,r6⟩,h4,hm⟩:=bnd hm;refine cq (aOq h4) ?_;refine W ?_;refine cm hm (fun hm=>?_) fun hm=>?_
 · exact E
 obtain ⟨r8,h7,hm⟩:=bnd hm;refine W ?_;refine aR.callF (id:=321) Zd Z1 bW7 (fun H=>(cD (cZ.sl _ _ _) .nil)) cZ Z5 (aFb h7) ?_;refine W ?_;refine bU (.agg [vb false,vu 0]) ?_;obtain ⟨x10,h9,hm⟩:=bnd hm;obtain ⟨l12,h11,hm⟩:=bnd hm;refine W ?_;have qh11:=nH h11;refine aS h11 ?_;exact E
instance:Ct prog 88 (K2 prog (vl aX) vu (t2 (vl aX) vi) 88 wK):=⟨fun hm=>aVe hm⟩
def bFw(rec1:ByteArray→Int→Int→Int→Option (Int))(b_0:ByteArray)(aC6:Int)(n_7:Int)(i_8:Int):Option (Int):=
 (bif (decide (0≤i_8)) then
  ((aD2 b_0 (IntKind.i64.wrap (aC6+i_8))).bind fun b2=>
  rec1 b_0 aC6 (bor .u64 (shl .u64 n_7 8) (IntKind.u64.wrap b2)) (IntKind.i64.wrap (i_8-1)))
 else
  some n_7)
def aE9:Nat→ByteArray→Int→Int→Int→Option (Int)
 |0=>fun _ _ _ _=>none
 |n+1=>bFw (aE9 n)
def gT(b_0:ByteArray)(aC6:Int)(bGo:Int):Option (Int):=
 aE9 aW b_0 aC6 0 (IntKind.i64.wrap (bGo-1))
theorem rY:K3 prog vs vi vi vu 91 gT:=by
 intro b_0 aC6 bGo r hm
 let I1:=((fun m s=> ∃b_0 aC6 n_7 i_8,s=⟨25,(aF (aF (aF (aF fa 0 (.v (.string b_0))) 1 (vi aC6)) 7 (vu n_7)) 8 (vi i_8)),⟨aY,64⟩⟩∧aE9 m b_0 aC6 n_7 i_8=some r):Nat→St→Prop)
 exact be 25 func91 (h:=G)
instance:Ct prog 91 (K3 prog vs vi vi vu 91 gT):=⟨rY⟩
def wB(rec3:ByteArray→aD→aD→Int→Int→Int→Option (aD×Bool))(b_0:ByteArray)(t2:aD)(s_4:aD)(uA:Int)(t127:Int)(t128:Int):Option (aD×Bool):=
 (bif (decide (t128<t127)) then
  ((gT b_0 uA 2).bind fun r22=>
  ((gT b_0 (IntKind.i64.wrap (uA+2)) 2).bind fun r24=>
  ((aD2 b_0 (IntKind.i64.wrap (uA+4))).bind fun b26=>
  ((app s_4.Graph.Edges [(aE.mk (IntKind.i64.wrap r22) (IntKind.i64.wrap r24) (IntKind.i64.wrap b26))]).bind fun l28=>
  rec3 b_0 (aD.mk (aJ.mk t2.Graph.Config [] []) []) (aD.mk (aJ.mk s_4.Graph.Config s_4.Graph.Hashes l28) s_4.Slots) (IntKind.i64.wrap (uA+5)) t127 (IntKind.i64.wrap (t128+1))))))
 else
  some ((aD.mk (aJ.mk s_4.Graph.Config s_4.Graph.Hashes s_4.Graph.Edges) s_4.Slots),true))
def sB:Nat→ByteArray→aD→aD→Int→Int→Int→Option (aD×Bool)
 |0=>fun _ _ _ _ _ _=>none
 |n+1=>wB (sB n)
def wA(rec2:ByteArray→aD→aD→Int→Int→Int→Int→Option (aD×Bool))(b_0:ByteArray)(t2:aD)(s_4:aD)(qV:Int)(uA:Int)(t104:Int)(t105:Int):Option (aD×Bool):=
 (bif (decide (t105<t104)) then
  ((aD2 b_0 uA).bind fun b16=>
  ((gT b_0 (IntKind.i64.wrap (uA+1)) 8).bind fun r18=>
  ((app s_4.Slots [(aI.mk (b16==1) r18)]).bind fun l20=>
  rec2 b_0 (aD.mk (aJ.mk t2.Graph.Config [] []) []) (aD.mk (aJ.mk s_4.Graph.Config s_4.Graph.Hashes []) l20) qV (IntKind.i64.wrap (uA+9)) t104 (IntKind.i64.wrap (t105+1)))))
 else
  sB aW b_0 (aD.mk (aJ.mk t2.Graph.Config [] []) []) (aD.mk (aJ.mk s_4.Graph.Config s_4.Graph.Hashes []) s_4.Slots) (IntKind.i64.wrap (uA+4)) (IntKind.i64.wrap (Int.tdiv qV 5)) 0)
def sA:Nat→ByteArray→aD→aD→Int→Int→Int→Int→Option (aD×Bool)
 |0=>fun _ _ _ _ _ _ _=>none
 |n+1=>wA (sA n)
def vZ(rec1:ByteArray→aD→aD→bC→Int→Int→Int→Int→Option (aD×Bool))(b_0:ByteArray)(t2:aD)(s_4:aD)(c_5:bC)(qV:Int)(uA:Int)(t82:Int)(t83:Int):Option (aD×Bool):=
 (bif (decide (t83<t82)) then
  ((gT b_0 uA 8).bind fun r10=>
  ((gT b_0 (IntKind.i64.wrap (uA+8)) 8).bind fun r12=>
  ((app s_4.Graph.Hashes [(bW.mk r10 r12)]).bind fun l14=>
  rec1 b_0 (aD.mk (aJ.mk t2.Graph.Config [] []) []) (aD.mk (aJ.mk s_4.Graph.Config l14 []) []) c_5 qV (IntKind.i64.wrap (uA+16)) t82 (IntKind.i64.wrap (t83+1)))))
 else
  sA aW b_0 (aD.mk (aJ.mk t2.Graph.Config [] []) []) (aD.mk (aJ.mk s_4.Graph.Config s_4.Graph.Hashes []) []) qV uA c_5.N 0)
def rZ:Nat→ByteArray→aD→aD→bC→Int→Int→Int→Int→Option (aD×Bool)
 |0=>fun _ _ _ _ _ _ _ _=>none
 |n+1=>vZ (rZ n)
def oC(b_0:ByteArray):Option (aD×Bool):=
 (bif (decide ((b_0.size:Int)<10)) then
  some ((aD.mk (aJ.mk (bC.mk 0 0 0) [] []) []),false)
 else
  ((gT b_0 4 2).bind fun r2=>
  ((gT b_0 6 2).bind fun r4=>
  ((gT b_0 8 2).bind fun r6=>
  (bif (((decide (1024<(IntKind.i64.wrap r2)))||(decide (16<(IntKind.i64.wrap r4))))||(decide (8<(IntKind.i64.wrap r6)))) then
   some ((aD.mk (aJ.mk (bC.mk 0 0 0) [] []) []),false)
  else
   (bif (decide ((b_0.size:Int)<(IntKind.i64.wrap ((IntKind.i64.wrap ((IntKind.i64.wrap ((IntKind.i64.wrap (10+(IntKind.i64.wrap ((IntKind.i64.wrap ((IntKind.i64.wrap r4)*(IntKind.i64.wrap r6)))*16))))+(IntKind.i64.wrap ((IntKind.i64.wrap r2)*9))))+4))+8)))) then
    some ((aD.mk (aJ.mk (bC.mk 0 0 0) [] []) []),false)
   else
    ((eG (((Int.tmod (IntKind.i64.wrap ((IntKind.i64.wrap ((b_0.size:Int)-(IntKind.i64.wrap ((IntKind.i64.wrap ((IntKind.i64.wrap (10+(IntKind.i64.wrap ((IntKind.i64.wrap ((IntKind.i64.wrap r4)*(IntKind.i64.wrap r6)))*16))))+(IntKind.i64.wrap ((IntKind.i64.wrap r2)*9))))+4))))-8)) 5) !=0)==false) 0 (gT b_0 (IntKind.i64.wrap ((IntKind.i64.wrap ((IntKind.i64.wrap ((IntKind.i64.wrap (10+(IntKind.i64.wrap ((IntKind.i64.wrap ((IntKind.i64.wrap r4)*(IntKind.i64.wrap r6)))*16))))+(IntKind.i64.wrap ((IntKind.i64.wrap r2)*9))))+4))-4)) 4)).bind fun r8=>
    (bif (((Int.tmod (IntKind.i64.wrap ((IntKind.i64.wrap ((b_0.size:Int)-(IntKind.i64.wrap ((IntKind.i64.wrap ((IntKind.i64.wrap (10+(IntKind.i64.wrap ((IntKind.i64.wrap ((IntKind.i64.wrap r4)*(IntKind.i64.wrap r6)))*16))))+(IntKind.i64.wrap ((IntKind.i64.wrap r2)*9))))+4))))-8)) 5) !=0)||(r8 !=(IntKind.u64.wrap (IntKind.i64.wrap (Int.tdiv (IntKind.i64.wrap ((IntKind.i64.wrap ((b_0.size:Int)-(IntKind.i64.wrap ((IntKind.i64.wrap ((IntKind.i64.wrap (10+(IntKind.i64.wrap ((IntKind.i64.wrap ((IntKind.i64.wrap r4)*(IntKind.i64.wrap r6)))*16))))+(IntKind.i64.wrap ((IntKind.i64.wrap r2)*9))))+4))))-8)) 5))))) then
     some ((aD.mk (aJ.mk (bC.mk 0 0 0) [] []) []),false)
    else
     rZ aW b_0 (aD.mk (aJ.mk (bC.mk 0 0 0) [] []) []) (aD.mk (aJ.mk (bC.mk (IntKind.i64.wrap r2) (IntKind.i64.wrap r4) (IntKind.i64.wrap r6)) [] []) []) (bC.mk (IntKind.i64.wrap r2) (IntKind.i64.wrap r4) (IntKind.i64.wrap r6)) (IntKind.i64.wrap ((IntKind.i64.wrap ((b_0.size:Int)-(IntKind.i64.wrap ((IntKind.i64.wrap ((IntKind.i64.wrap (10+(IntKind.i64.wrap ((IntKind.i64.wrap ((IntKind.i64.wrap r4)*(IntKind.i64.wrap r6)))*16))))+(IntKind.i64.wrap ((IntKind.i64.wrap r2)*9))))+4))))-8)) 10 (IntKind.i64.wrap ((IntKind.i64.wrap r4)*(IntKind.i64.wrap r6))) 0))))))))
theorem aZ8{b_0:ByteArray}{r:aD×Bool}(hm:oC b_0=some r):bY prog 44 [.v (.string b_0)] (.tup [.agg [.v (.int .i64 r.1.Graph.Config.N),.v (.int .i64 r.1.Graph.Config.L),.v (.int .i64 r.1.Graph.Config.R),.sl (r.1.Graph.Hashes.flatMap cL) r.1.Graph.Hashes.length false,.sl (r.1.Graph.Edges.flatMap aV) r.1.Graph.Edges.length false,.sl (r.1.Slots.flatMap aX) r.1.Slots.length false],.v (.bool r.2)]):=by
 refine bY.of_body func44 rfl ?_;simp only [ntmps44,List.length_cons,List.length_nil,Nat.reduceAdd,Nat.reduceSub,iO];unfold oC at hm;refine sr (N':=64) rfl ?_;refine hp (id:=0) rfl rfl (nS bZe Z5) ?_;refine pA ?_;refine fs ?_;refine sr (N':=128) rfl ?_;refine hp (id:=64) rfl rfl (nS bZe Z5) ?_;refine fs ?_;refine AWp.seq' ?_;refine sr (N':=192) rfl ?_
 iterate 3 refine pA ?_
 refine fs ?_;refine AWp.condM hm Z1 (fun _ hm=>?_) (fun _ hm=>?_)
 · refine sr (N':=256) rfl ?_;refine pu rfl (hZ Z1 Z3 Z2) ?_;refine aR.heap0 (id:=193) rfl (oF (ys:=[.v (.int .i64 0),.v (.int .i64 0),.v (.int .i64 0),.v (.slice none 0 0),.v (.slice none 0 0),.v (.slice none 0 0)]) bM8 Z1 Z1 Z3 rfl (Nat.le_of_ble_eq_true rfl) Z9 rfl) ?_;refine pA ?_;refine fs ?_;refine AWp.ret ?_;refine jF ?_;cases hm;exact bFt (.inr rfl) (by rw [Tryz.results44]) (.cell (aGw Z1 Z3 Z2) (.tmp Z1 .nil)) rfl (tdt (.cons (tda rfl (.cons (.data _ (.v _)) (.cons (.data _ (.v _)) (.cons (.data _ (.v _)) (.cons (.nil false) (.cons (.nil false) (.cons (.nil false) .nil))))))) (.cons (td rfl (.v _)) .nil)))
 ·
  refine AWp.skip ?_;refine bQ ?_;refine sr (N':=256) rfl ?_;refine pA ?_;obtain ⟨r2,h1,hm⟩:=bnd hm;refine aR.callQ (r:= .v (.int .u64 r2)) Zd Z1 aXf (fun H=>(cV (cV (cV .nil)))) (rY h1) ?_
  iterate 2 refine pA ?_
  obtain ⟨r4,h3,hm⟩:=bnd hm;refine aR.callQ (r:= .v (.int .u64 r4)) Zd Z1 aXf (fun H=>(cV (cV (cV .nil)))) (rY h3) ?_
  iterate 2 refine pA ?_
  obtain ⟨r6,h5,hm⟩:=bnd hm;refine aR.callQ (r:= .v (.int .u64 r6)) Zd Z1 aXf (fun H=>(cV (cV (cV .nil)))) (rY h5) ?_;refine pA ?_;refine pu rfl (by simp only [go_sem,Nat.reduceBEq];exact (by kernel_rfl:aAd prog 23 [(0,.v (.int .i64 (IntKind.i64.wrap r2))),(1,.v (.int .i64 (IntKind.i64.wrap r4))),(2,.v (.int .i64 (IntKind.i64.wrap r6)))]=some (.agg [.v (.int .i64 (IntKind.i64.wrap r2)),.v (.int .i64 (IntKind.i64.wrap r4)),.v (.int .i64 (IntKind.i64.wrap r6))]))) ?_;refine hp (id:=202) rfl rfl (nS cIu Z5) ?_;refine aR.heap0 (id:=203) rfl (oF (ys:=[.v (.int .i64 (IntKind.i64.wrap r2)),.v (.int .i64 (IntKind.i64.wrap r4)),.v (.int .i64 (IntKind.i64.wrap r6))]) bYy Z1 Z1 Z3 rfl (Nat.le_of_ble_eq_true rfl) Z9 rfl) ?_;refine fs ?_;refine AWp.seq' ?_;refine sr (N':=320) rfl ?_;refine pA ?_;refine pu rfl (hZ Z1 Z3 Z4) ?_
  iterate 3 first|refine pA ?_|refine pB ?_
  refine pg rfl rfl Z2 (fun hb=>(hZ (Zh hb) Z3 Z4)) ?_
  iterate 4 first|refine pA ?_|refine pB ?_
  refine pg rfl rfl Z2 (fun hb=>(hZ (Zh hb) Z3 Z4)) ?_
  iterate 2 first|refine pA ?_|refine pB ?_
  refine fs ?_;refine AWp.condM hm Z1 (fun _ hm=>?_) (fun _ hm=>?_)
  · refine sr (N':=384) rfl ?_;refine pu rfl (hZ Z1 Z3 Z2) ?_;refine aR.heap0 (id:=321) rfl (oF (ys:=[.v (.int .i64 0),.v (.int .i64 0),.v (.int .i64 0),.v (.slice none 0 0),.v (.slice none 0 0),.v (.slice none 0 0)]) bM8 Z1 Z1 Z3 rfl (Nat.le_of_ble_eq_true rfl) Z9 rfl) ?_;refine pA ?_;refine fs ?_;refine AWp.ret ?_;refine jF ?_;cases hm;exact bFt (.inr rfl) (by rw [Tryz.results44]) (.cell (aGw Z1 Z3 Z2) (.tmp Z1 .nil)) rfl (tdt (.cons (tda rfl (.cons (.data _ (.v _)) (.cons (.data _ (.v _)) (.cons (.data _ (.v _)) (.cons (.nil false) (.cons (.nil false) (.cons (.nil false) .nil))))))) (.cons (td rfl (.v _)) .nil)))
  ·
   refine AWp.skip ?_;refine bQ ?_;refine sr (N':=384) rfl ?_;refine pA ?_;refine pu rfl (hZ Z1 Z3 Z4) ?_;refine pA ?_;refine pu rfl (hZ Z1 Z3 Z4) ?_
   iterate 4 refine pA ?_
   refine pu rfl (hZ Z1 Z3 Z4) ?_
   iterate 4 refine pA ?_
   refine fs ?_;refine AWp.seq' ?_;refine sr (N':=448) rfl ?_
   iterate 5 refine pA ?_
   refine fs ?_;refine AWp.condM hm Z1 (fun _ hm=>?_) (fun _ hm=>?_)
   · refine sr (N':=512) rfl ?_;refine pu rfl (hZ Z1 Z3 Z2) ?_;refine aR.heap0 (id:=449) rfl (oF (ys:=[.v (.int .i64 0),.v (.int .i64 0),.v (.int .i64 0),.v (.slice none 0 0),.v (.slice none 0 0),.v (.slice none 0 0)]) bM8 Z1 Z1 Z3 rfl (Nat.le_of_ble_eq_true rfl) Z9 rfl) ?_;refine pA ?_;refine fs ?_;refine AWp.ret ?_;refine jF ?_;cases hm;exact bFt (.inr rfl) (by rw [Tryz.results44]) (.cell (aGw Z1 Z3 Z2) (.tmp Z1 .nil)) rfl (tdt (.cons (tda rfl (.cons (.data _ (.v _)) (.cons (.data _ (.v _)) (.cons (.data _ (.v _)) (.cons (.nil false) (.cons (.nil false) (.cons (.nil false) .nil))))))) (.cons (td rfl (.v _)) .nil)))
   ·
    refine AWp.skip ?_;refine bQ ?_;refine sr (N':=512) rfl ?_
    iterate 6 refine pA ?_
    refine fs ?_;refine AWp.seq' ?_;refine sr (N':=576) rfl ?_
    iterate 7 (first|refine pu rfl Zj ?_|refine pg rfl rfl Zj (by intro hb;simp only [go_sem,Nat.reduceBEq,Int.reduceEq,Int.reduceLE,hb,Bool.true_and];try with_reducible rfl) ?_)
    obtain ⟨r8,h7,hm⟩:=bnd hm;refine aR.callQG (r:= .v (.int .u64 r8)) Zd rfl Z2 Z1 aXf (fun hb H=>(.cons (td (Zh hb) (.v _)) (.cons (td (Zh hb) (.v _)) (.cons (td (Zh hb) (.v _)) .nil)))) (fun hb=>rY (kR h7 hb)) ?_
    iterate 5 (first|refine pu rfl Zj ?_|refine pg rfl rfl Zj (by intro hb;simp only [go_sem,Nat.reduceBEq,Int.reduceEq,Int.reduceLE,hb,Bool.true_and];try with_reducible rfl) ?_)
    refine fs ?_;refine AWp.condM hm Z1 (fun _ hm=>?_) (fun _ hm=>?_)
    · refine sr (N':=640) rfl ?_;refine pu rfl (hZ Z1 Z3 Z2) ?_;refine aR.heap0 (id:=577) rfl (oF (ys:=[.v (.int .i64 0),.v (.int .i64 0),.v (.int .i64 0),.v (.slice none 0 0),.v (.slice none 0 0),.v (.slice none 0 0)]) bM8 Z1 Z1 Z3 rfl (Nat.le_of_ble_eq_true rfl) Z9 rfl) ?_;refine pA ?_;refine fs ?_;refine AWp.ret ?_;refine jF ?_;cases hm;exact bFt (.inr rfl) (by rw [Tryz.results44]) (.cell (aGw Z1 Z3 Z2) (.tmp Z1 .nil)) rfl (tdt (.cons (tda rfl (.cons (.data _ (.v _)) (.cons (.data _ (.v _)) (.cons (.data _ (.v _)) (.cons (.nil false) (.cons (.nil false) (.cons (.nil false) .nil))))))) (.cons (td rfl (.v _)) .nil)))
    ·
     refine AWp.skip ?_;refine bQ ?_;refine sr (N':=640) rfl ?_;refine pu rfl (hZ Z1 Z3 Z2) ?_
     iterate 2 refine pA ?_
     refine aR.heap0 (id:=579) rfl (oF (ys:=[.v (.int .i64 (IntKind.i64.wrap r2)),.v (.int .i64 (IntKind.i64.wrap r4)),.v (.int .i64 (IntKind.i64.wrap r6)),.v (.slice none 0 0),.v (.slice none 0 0),.v (.slice none 0 0)]) bYy Z1 Z1 Z3 rfl (Nat.le_of_ble_eq_true rfl) Z9 rfl) ?_;refine fs ?_;refine sr (N':=704) rfl ?_;refine pA ?_;refine fs ?_;refine AWp.seq' ?_;refine sr (N':=768) rfl ?_;refine pA ?_;refine pu rfl (hZ Z1 Z3 Z4) ?_;refine pA ?_;refine pu rfl (hZ Z1 Z3 Z4) ?_
     iterate 2 refine pA ?_
     refine fs ?_;refine AWp.block ?_;refine AWp.loopM (fun m s=> ∃(b_0:ByteArray) (t2:aD) (s_4:aD) (c_5:bC) (qV:Int) (uA:Int) (t82:Int) (t83:Int),s=(⟨157,(aF (aF (aF (aF (aF (aF (aF (aF (fun _=>AV.any) 0 (.v (.string b_0))) 2 (.adr 1 0)) 4 (.adr 2 0)) 5 (.adr 4 0)) 7 (.v (.int .i64 qV))) 8 (.v (.int .i64 uA))) 82 (.v (.int .i64 t82))) 83 (.v (.int .i64 t83))),⟨(upd (upd (upd (upd aY 1 (.cells 1 [.v (.int .i64 t2.Graph.Config.N),.v (.int .i64 t2.Graph.Config.L),.v (.int .i64 t2.Graph.Config.R),.v (.slice none 0 0),.v (.slice none 0 0),.v (.slice none 0 0)] 0)) 2 (.cells 1 [.v (.int .i64 s_4.Graph.Config.N),.v (.int .i64 s_4.Graph.Config.L),.v (.int .i64 s_4.Graph.Config.R),.own 3 0 s_4.Graph.Hashes.length,.v (.slice none 0 0),.v (.slice none 0 0)] 0)) 3 (.cells 2 (s_4.Graph.Hashes.flatMap cL) 0)) 4 (.cells 1 [.v (.int .i64 c_5.N),.v (.int .i64 c_5.L),.v (.int .i64 c_5.R)] 0)),64⟩⟩:St)∧rZ m b_0 t2 s_4 c_5 qV uA t82 t83=some r) aW ?_ ?_ ?_
     · rintro s ⟨_,_,_,_,_,_,_,_,_,h⟩;cases h
     · refine ⟨_,?_,b_0,(aD.mk (aJ.mk (bC.mk 0 0 0) [] []) []),(aD.mk (aJ.mk (bC.mk (IntKind.i64.wrap r2) (IntKind.i64.wrap r4) (IntKind.i64.wrap r6)) [] []) []),(bC.mk (IntKind.i64.wrap r2) (IntKind.i64.wrap r4) (IntKind.i64.wrap r6)),(IntKind.i64.wrap ((IntKind.i64.wrap ((b_0.size:Int)-(IntKind.i64.wrap ((IntKind.i64.wrap ((IntKind.i64.wrap (10+(IntKind.i64.wrap ((IntKind.i64.wrap ((IntKind.i64.wrap r4)*(IntKind.i64.wrap r6)))*16))))+(IntKind.i64.wrap ((IntKind.i64.wrap r2)*9))))+4))))-8)),10,(IntKind.i64.wrap ((IntKind.i64.wrap r4)*(IntKind.i64.wrap r6))),0,rfl,hm⟩;refine St.Le.trans (aY1 64 3 910400 2 (ys:=[.v (.int .i64 (IntKind.i64.wrap r2)),.v (.int .i64 (IntKind.i64.wrap r4)),.v (.int .i64 (IntKind.i64.wrap r6)),.own 910400 0 0,.v (.slice none 0 0),.v (.slice none 0 0)]) Z3 (by rfl) Z5 (by rfl)) ?_;exact cP (fun j=>bif j==1 then 0 else bif j==2 then 64 else bif j==3 then 910400 else bif j==4 then 202 else 0) (wV (wV (wV (wV (bH _ _ (kY Z1 rfl Z7) (bH _ _ (kY Z1 rfl Z7) (bH _ _ (kY Z1 rfl Z7) (wV dT)))))))) (gN _ (cH (oG Z3 (Nat.le_refl _) (Nat.zero_le _) (aOc.dat (bC.mk (IntKind.i64.wrap r2) (IntKind.i64.wrap r4) (IntKind.i64.wrap r6)))) (eU jR (cH (jW Z3 rfl (.cons (.data _ (.v _)) (.cons (.data _ (.v _)) (.cons (.data _ (.v _)) (.cons (uY (by first|rfl|omega|(dsimp only;omega)) rfl Z7) (.cons (.data _ (.v _)) (.cons (.data _ (.v _)) .nil))))))) (cH (jW Z3 rfl (.cons (.data _ (.v _)) (.cons (.data _ (.v _)) (.cons (.data _ (.v _)) (.cons (.data _ (.v _)) (.cons (.data _ (.v _)) (.cons (.data _ (.v _)) .nil))))))) dC)))) Z8)
     ·
      rintro n1 s ⟨b_0,t2,s_4,c_5,qV,uA,t82,t83,rfl,hm⟩;replace hm:vZ (rZ n1) b_0 t2 s_4 c_5 qV uA t82 t83=some r:=hm;unfold vZ at hm;refine sr (N':=128) rfl ?_;refine pA ?_;refine fs ?_;refine AWp.seq' ?_;refine AWp.condM hm Z1 (fun _ hm=>?_) (fun _ hm=>?_)
      ·
       refine AWp.skip ?_;refine bQ ?_;refine AWp.seq' ?_;refine AWp.block ?_;refine sd mix (by kernel_rfl) (N':=192) rfl ?_
       iterate 2 refine pA ?_
       refine pu rfl (hZ Z1 Z3 Z4) ?_
       iterate 2 refine pA ?_
       obtain ⟨r10,h9,hm⟩:=bnd hm;refine aR.callQ (r:= .v (.int .u64 r10)) Zd Z1 aXf (fun H=>(cV (cV (cV .nil)))) (rY h9) ?_
       iterate 3 refine pA ?_
       obtain ⟨r12,h11,hm⟩:=bnd hm;refine aR.callQ (r:= .v (.int .u64 r12)) Zd Z1 aXf (fun H=>(cV (cV (cV .nil)))) (rY h11) ?_;refine pu rfl (by simp only [go_sem,Nat.reduceBEq];exact (by kernel_rfl:aAd prog 94 [(0,.v (.int .u64 r10)),(1,.v (.int .u64 r12))]=some (.agg [.v (.int .u64 r10),.v (.int .u64 r12)]))) ?_;refine hp (id:=139) rfl rfl (kZ jR (l:=[(bW.mk r10 r12)]) underlying27 bR3 bRj Z5 Zd Zd Zd (by simp only [go_sem,Nat.reduceBEq];try rfl) (by kernel_rfl)) ?_;obtain ⟨l14,h13,hm⟩:=bnd hm;refine hp (id:=140) rfl rfl (wX jR underlying27 underlying27 rfl bT2 bVr (by rw [bCp];decide) (by rw [bCp];decide) bVt Zd Zd Z1 Z3 Z6 (aAg jR Z1 Z3 Z6) rfl Z5 h13) ?_
       iterate 2 refine pA ?_
       refine aR.heap0 (id:=143) rfl (oF (ys:=[.v (.int .i64 s_4.Graph.Config.N),.v (.int .i64 s_4.Graph.Config.L),.v (.int .i64 s_4.Graph.Config.R),.own 140 0 l14.length,.v (.slice none 0 0),.v (.slice none 0 0)]) cGl Z1 Z1 Z3 rfl (Nat.le_of_ble_eq_true rfl) Z9 rfl) ?_;refine fs ?_;refine AWp.reg 64 (N':=256) rfl ?_
       iterate 3 refine pA ?_
       refine aR.fin ?_;refine jT ?_;refine bQ ?_;refine AWp.reg 64 (N':=320) rfl ?_
       iterate 2 refine pA ?_
       refine aR.fin ?_;refine iA ?_;refine ⟨_,?_,b_0,(aD.mk (aJ.mk t2.Graph.Config [] []) []),(aD.mk (aJ.mk s_4.Graph.Config l14 []) []),c_5,qV,(IntKind.i64.wrap (uA+16)),t82,(IntKind.i64.wrap (t83+1)),rfl,hm⟩;exact cP (fun j=>bif j==1 then 1 else bif j==2 then 2 else bif j==3 then 140 else bif j==4 then 4 else 0) (wV (wV (wV (wV (bH _ _ (kY Z1 rfl Z7) (bH _ _ (kY Z1 rfl Z7) (bH _ _ (kY Z1 rfl Z7) (wV dT)))))))) (gN _ (cH (oG Z3 (Nat.le_refl _) (Nat.zero_le _) (aOc.dat c_5)) (eU jR (cH (jW Z3 rfl (.cons (.data _ (.v _)) (.cons (.data _ (.v _)) (.cons (.data _ (.v _)) (.cons (uY (by first|rfl|omega|(dsimp only;omega)) rfl Z7) (.cons (.data _ (.v _)) (.cons (.data _ (.v _)) .nil))))))) (cH (jW Z3 rfl (.cons (.data _ (.v _)) (.cons (.data _ (.v _)) (.cons (.data _ (.v _)) (.cons (.data _ (.v _)) (.cons (.data _ (.v _)) (.cons (.data _ (.v _)) .nil))))))) dC)))) Z8)
      ·
       refine AWp.exit ?_;refine kH ?_;refine jC ?_;refine iT ?_;refine bQ ?_;refine AWp.seq' ?_;refine sr (N':=192) rfl ?_;refine pA ?_;refine pu rfl (hZ Z1 Z3 Z4) ?_;refine pA ?_;refine fs ?_;refine AWp.block ?_;refine AWp.loopM (fun m s=> ∃(b_0:ByteArray) (t2:aD) (s_4:aD) (qV:Int) (uA:Int) (t104:Int) (t105:Int),s=(⟨157,(aF (aF (aF (aF (aF (aF (aF (fun _=>AV.any) 0 (.v (.string b_0))) 2 (.adr 1 0)) 4 (.adr 2 0)) 7 (.v (.int .i64 qV))) 8 (.v (.int .i64 uA))) 104 (.v (.int .i64 t104))) 105 (.v (.int .i64 t105))),⟨(upd (upd (upd (upd aY 1 (.cells 1 [.v (.int .i64 t2.Graph.Config.N),.v (.int .i64 t2.Graph.Config.L),.v (.int .i64 t2.Graph.Config.R),.v (.slice none 0 0),.v (.slice none 0 0),.v (.slice none 0 0)] 0)) 2 (.cells 1 [.v (.int .i64 s_4.Graph.Config.N),.v (.int .i64 s_4.Graph.Config.L),.v (.int .i64 s_4.Graph.Config.R),.own 3 0 s_4.Graph.Hashes.length,.v (.slice none 0 0),.own 4 0 s_4.Slots.length] 0)) 3 (.cells 2 (s_4.Graph.Hashes.flatMap cL) 0)) 4 (.cells 2 (s_4.Slots.flatMap aX) 0)),64⟩⟩:St)∧sA m b_0 t2 s_4 qV uA t104 t105=some r) aW ?_ ?_ ?_
       · rintro s ⟨_,_,_,_,_,_,_,_,h⟩;cases h
       · refine ⟨_,?_,b_0,(aD.mk (aJ.mk t2.Graph.Config [] []) []),(aD.mk (aJ.mk s_4.Graph.Config s_4.Graph.Hashes []) []),qV,uA,c_5.N,0,rfl,hm⟩;refine St.Le.trans (aY1 2 5 910401 2 (ys:=[.v (.int .i64 s_4.Graph.Config.N),.v (.int .i64 s_4.Graph.Config.L),.v (.int .i64 s_4.Graph.Config.R),.own 3 0 s_4.Graph.Hashes.length,.v (.slice none 0 0),.own 910401 0 0]) Z3 (by rfl) Z5 (by rfl)) ?_;exact cP (fun j=>bif j==1 then 1 else bif j==2 then 2 else bif j==3 then 3 else bif j==4 then 910401 else 0) (wV (wV (wV (wV (bH _ _ (kY Z1 rfl Z7) (bH _ _ (kY Z1 rfl Z7) (wV dT))))))) (gN _ (eU cZ (eU jR (cH (jW Z3 rfl (.cons (.data _ (.v _)) (.cons (.data _ (.v _)) (.cons (.data _ (.v _)) (.cons (uY (by first|rfl|omega|(dsimp only;omega)) rfl Z7) (.cons (.data _ (.v _)) (.cons (uY (by first|rfl|omega|(dsimp only;omega)) rfl Z7) .nil))))))) (cH (jW Z3 rfl (.cons (.data _ (.v _)) (.cons (.data _ (.v _)) (.cons (.data _ (.v _)) (.cons (.data _ (.v _)) (.cons (.data _ (.v _)) (.cons (.data _ (.v _)) .nil))))))) dC)))) Z8)
       ·
        rintro n2 s ⟨b_0,t2,s_4,qV,uA,t104,t105,rfl,hm⟩;replace hm:wA (sA n2) b_0 t2 s_4 qV uA t104 t105=some r:=hm;unfold wA at hm;refine sr (N':=128) rfl ?_;refine pA ?_;refine fs ?_;refine AWp.seq' ?_;refine AWp.condM hm Z1 (fun _ hm=>?_) (fun _ hm=>?_)
        ·
         refine AWp.skip ?_;refine bQ ?_;refine AWp.seq' ?_;refine AWp.block ?_;refine sd mix (by kernel_rfl) (N':=192) rfl ?_;refine pA ?_;refine pu rfl (hZ Z1 Z3 Z4) ?_
         iterate 2 refine pA ?_
         obtain ⟨b16,h15,hm⟩:=bnd hm;refine pu rfl (aRl underlying9 Z1 Z1 h15) ?_
         iterate 4 refine pA ?_
         obtain ⟨r18,h17,hm⟩:=bnd hm;refine aR.callQ (r:= .v (.int .u64 r18)) Zd Z1 aXf (fun H=>(cV (cV (cV .nil)))) (rY h17) ?_;refine pu rfl (by simp only [go_sem,Nat.reduceBEq];exact (by kernel_rfl:aAd prog 96 [(0,.v (.bool (b16==1))),(1,.v (.int .u64 r18))]=some (.agg [.v (.bool (b16==1)),.v (.int .u64 r18)]))) ?_;refine hp (id:=139) rfl rfl (kZ cZ (l:=[(aI.mk (b16==1) r18)]) underlying31 bR4 bRk Z5 Zd Zd Zd (by simp only [go_sem,Nat.reduceBEq];try rfl) (by kernel_rfl)) ?_;obtain ⟨l20,h19,hm⟩:=bnd hm;refine hp (id:=140) rfl rfl (wX cZ underlying31 underlying31 rfl bT3 bVs (by rw [bCq];decide) (by rw [bCq];decide) bVu Zd Zd Z1 Z3 Z6 (aAg cZ Z1 Z3 Z6) rfl Z5 h19) ?_;refine pA ?_;refine aR.heap0 (id:=142) rfl (oF (ys:=[.v (.int .i64 s_4.Graph.Config.N),.v (.int .i64 s_4.Graph.Config.L),.v (.int .i64 s_4.Graph.Config.R),.own 3 0 s_4.Graph.Hashes.length,.v (.slice none 0 0),.own 140 0 l20.length]) cHl Z1 Z1 Z3 rfl (Nat.le_of_ble_eq_true rfl) Z9 rfl) ?_;refine fs ?_;refine AWp.reg 64 (N':=256) rfl ?_
         iterate 3 refine pA ?_
         refine aR.fin ?_;refine jT ?_;refine bQ ?_;refine AWp.reg 64 (N':=320) rfl ?_
         iterate 2 refine pA ?_
         refine aR.fin ?_;refine iA ?_;refine ⟨_,?_,b_0,(aD.mk (aJ.mk t2.Graph.Config [] []) []),(aD.mk (aJ.mk s_4.Graph.Config s_4.Graph.Hashes []) l20),qV,(IntKind.i64.wrap (uA+9)),t104,(IntKind.i64.wrap (t105+1)),rfl,hm⟩;exact cP (fun j=>bif j==1 then 1 else bif j==2 then 2 else bif j==3 then 3 else bif j==4 then 140 else 0) (wV (wV (wV (wV (bH _ _ (kY Z1 rfl Z7) (bH _ _ (kY Z1 rfl Z7) (wV dT))))))) (gN _ (eU cZ (eU jR (cH (jW Z3 rfl (.cons (.data _ (.v _)) (.cons (.data _ (.v _)) (.cons (.data _ (.v _)) (.cons (uY (by first|rfl|omega|(dsimp only;omega)) rfl Z7) (.cons (.data _ (.v _)) (.cons (uY (by first|rfl|omega|(dsimp only;omega)) rfl Z7) .nil))))))) (cH (jW Z3 rfl (.cons (.data _ (.v _)) (.cons (.data _ (.v _)) (.cons (.data _ (.v _)) (.cons (.data _ (.v _)) (.cons (.data _ (.v _)) (.cons (.data _ (.v _)) .nil))))))) dC)))) Z8)
        ·
         refine AWp.exit ?_;refine kH ?_;refine jC ?_;refine iT ?_;refine bQ ?_;refine sr (N':=192) rfl ?_
         iterate 3 refine pA ?_
         refine fs ?_;refine AWp.seq' ?_;refine sr (N':=256) rfl ?_
         iterate 3 refine pu rfl Zj ?_
         refine fs ?_;refine AWp.block ?_;refine AWp.loopM (fun m s=> ∃(b_0:ByteArray) (t2:aD) (s_4:aD) (uA:Int) (t127:Int) (t128:Int),s=(⟨157,(aF (aF (aF (aF (aF (aF (fun _=>AV.any) 0 (.v (.string b_0))) 2 (.adr 1 0)) 4 (.adr 2 0)) 8 (.v (.int .i64 uA))) 127 (.v (.int .i64 t127))) 128 (.v (.int .i64 t128))),⟨(upd (upd (upd (upd (upd aY 1 (.cells 1 [.v (.int .i64 t2.Graph.Config.N),.v (.int .i64 t2.Graph.Config.L),.v (.int .i64 t2.Graph.Config.R),.v (.slice none 0 0),.v (.slice none 0 0),.v (.slice none 0 0)] 0)) 2 (.cells 1 [.v (.int .i64 s_4.Graph.Config.N),.v (.int .i64 s_4.Graph.Config.L),.v (.int .i64 s_4.Graph.Config.R),.own 3 0 s_4.Graph.Hashes.length,.own 4 0 s_4.Graph.Edges.length,.own 5 0 s_4.Slots.length] 0)) 3 (.cells 2 (s_4.Graph.Hashes.flatMap cL) 0)) 4 (.cells 3 (s_4.Graph.Edges.flatMap aV) 0)) 5 (.cells 2 (s_4.Slots.flatMap aX) 0)),64⟩⟩:St)∧sB m b_0 t2 s_4 uA t127 t128=some r) aW ?_ ?_ ?_
         · rintro s ⟨_,_,_,_,_,_,_,h⟩;cases h
         · refine ⟨_,?_,b_0,(aD.mk (aJ.mk t2.Graph.Config [] []) []),(aD.mk (aJ.mk s_4.Graph.Config s_4.Graph.Hashes []) s_4.Slots),(IntKind.i64.wrap (uA+4)),(IntKind.i64.wrap (Int.tdiv qV 5)),0,rfl,hm⟩;refine St.Le.trans (aY1 2 4 910401 3 (ys:=[.v (.int .i64 s_4.Graph.Config.N),.v (.int .i64 s_4.Graph.Config.L),.v (.int .i64 s_4.Graph.Config.R),.own 3 0 s_4.Graph.Hashes.length,.own 910401 0 0,.own 4 0 s_4.Slots.length]) Z3 (by rfl) Z5 (by rfl)) ?_;exact cP (fun j=>bif j==1 then 1 else bif j==2 then 2 else bif j==3 then 3 else bif j==4 then 910401 else bif j==5 then 4 else 0) (wV (wV (wV (bH _ _ (kY Z1 rfl Z7) (bH _ _ (kY Z1 rfl Z7) (wV dT)))))) (gN _ (eU cZ (eU cI (eU jR (cH (jW Z3 rfl (.cons (.data _ (.v _)) (.cons (.data _ (.v _)) (.cons (.data _ (.v _)) (.cons (uY (by first|rfl|omega|(dsimp only;omega)) rfl Z7) (.cons (uY (by first|rfl|omega|(dsimp only;omega)) rfl Z7) (.cons (uY (by first|rfl|omega|(dsimp only;omega)) rfl Z7) .nil))))))) (cH (jW Z3 rfl (.cons (.data _ (.v _)) (.cons (.data _ (.v _)) (.cons (.data _ (.v _)) (.cons (.data _ (.v _)) (.cons (.data _ (.v _)) (.cons (.data _ (.v _)) .nil))))))) dC))))) Z8)
         ·
          rintro n3 s ⟨b_0,t2,s_4,uA,t127,t128,rfl,hm⟩;replace hm:wB (sB n3) b_0 t2 s_4 uA t127 t128=some r:=hm;unfold wB at hm;refine sr (N':=128) rfl ?_;refine pA ?_;refine fs ?_;refine AWp.seq' ?_;refine AWp.condM hm Z1 (fun _ hm=>?_) (fun _ hm=>?_)
          ·
           refine AWp.skip ?_;refine bQ ?_;refine AWp.seq' ?_;refine AWp.block ?_;refine sd mix (by kernel_rfl) (N':=192) rfl ?_
           iterate 2 refine pA ?_
           obtain ⟨r22,h21,hm⟩:=bnd hm;refine aR.callQ (r:= .v (.int .u64 r22)) Zd Z1 aXf (fun H=>(cV (cV (cV .nil)))) (rY h21) ?_
           iterate 4 refine pA ?_
           obtain ⟨r24,h23,hm⟩:=bnd hm;refine aR.callQ (r:= .v (.int .u64 r24)) Zd Z1 aXf (fun H=>(cV (cV (cV .nil)))) (rY h23) ?_
           iterate 4 refine pA ?_
           obtain ⟨b26,h25,hm⟩:=bnd hm;refine pu rfl (aRl underlying9 Z1 Z1 h25) ?_;refine pA ?_;refine pu rfl (by simp only [go_sem,Nat.reduceBEq];exact (by kernel_rfl:aAd prog 61 [(0,.v (.int .i64 (IntKind.i64.wrap r22))),(1,.v (.int .i64 (IntKind.i64.wrap r24))),(2,.v (.int .i64 (IntKind.i64.wrap b26)))]=some (.agg [.v (.int .i64 (IntKind.i64.wrap r22)),.v (.int .i64 (IntKind.i64.wrap r24)),.v (.int .i64 (IntKind.i64.wrap b26))]))) ?_;refine hp (id:=143) rfl rfl (nS aZk Z5) ?_;refine aR.heap0 (id:=144) rfl (oF (ys:=[.v (.int .i64 (IntKind.i64.wrap r22)),.v (.int .i64 (IntKind.i64.wrap r24)),.v (.int .i64 (IntKind.i64.wrap b26))]) aO2 Z1 Z1 Z3 rfl (Nat.le_of_ble_eq_true rfl) Z9 rfl) ?_;refine fs ?_;refine sr (N':=256) rfl ?_
           iterate 2 refine pA ?_
           refine pu rfl (hZ Z1 Z3 Z4) ?_;refine pu rfl (hZ Z1 Z3 Z2) ?_;refine hp (id:=196) rfl rfl (kZ cI (l:=[(aE.mk (IntKind.i64.wrap r22) (IntKind.i64.wrap r24) (IntKind.i64.wrap b26))]) underlying28 aO2 aZk Z5 Zd Zd Zd (by simp only [go_sem,Nat.reduceBEq];try rfl) (by kernel_rfl)) ?_;obtain ⟨l28,h27,hm⟩:=bnd hm;refine hp (id:=197) rfl rfl (wX cI underlying28 underlying28 rfl bOu bRc (by rw [aV9];decide) (by rw [aV9];decide) bRd Zd Zd Z1 Z3 Z6 (aAg cI Z1 Z3 Z6) rfl Z5 h27) ?_
           iterate 2 refine pA ?_
           refine aR.heap0 (id:=200) rfl (oF (ys:=[.v (.int .i64 s_4.Graph.Config.N),.v (.int .i64 s_4.Graph.Config.L),.v (.int .i64 s_4.Graph.Config.R),.own 3 0 s_4.Graph.Hashes.length,.own 197 0 l28.length,.own 5 0 s_4.Slots.length]) bVm Z1 Z1 Z3 rfl (Nat.le_of_ble_eq_true rfl) Z9 rfl) ?_;refine fs ?_;refine AWp.reg 64 (N':=320) rfl ?_
           iterate 3 refine pA ?_
           refine aR.fin ?_;refine jT ?_;refine bQ ?_;refine AWp.reg 64 (N':=384) rfl ?_
           iterate 2 refine pA ?_
           refine aR.fin ?_;refine iA ?_;refine ⟨_,?_,b_0,(aD.mk (aJ.mk t2.Graph.Config [] []) []),(aD.mk (aJ.mk s_4.Graph.Config s_4.Graph.Hashes l28) s_4.Slots),(IntKind.i64.wrap (uA+5)),t127,(IntKind.i64.wrap (t128+1)),rfl,hm⟩;exact cP (fun j=>bif j==1 then 1 else bif j==2 then 2 else bif j==3 then 3 else bif j==4 then 197 else bif j==5 then 5 else 0) (wV (wV (wV (bH _ _ (kY Z1 rfl Z7) (bH _ _ (kY Z1 rfl Z7) (wV dT)))))) (gN _ (eU cZ (eU cI (eU jR (cH (jW Z3 rfl (.cons (.data _ (.v _)) (.cons (.data _ (.v _)) (.cons (.data _ (.v _)) (.cons (uY (by first|rfl|omega|(dsimp only;omega)) rfl Z7) (.cons (uY (by first|rfl|omega|(dsimp only;omega)) rfl Z7) (.cons (uY (by first|rfl|omega|(dsimp only;omega)) rfl Z7) .nil))))))) (cH (jW Z3 rfl (.cons (.data _ (.v _)) (.cons (.data _ (.v _)) (.cons (.data _ (.v _)) (.cons (.data _ (.v _)) (.cons (.data _ (.v _)) (.cons (.data _ (.v _)) .nil))))))) dC))))) Z8)
          · refine AWp.exit ?_;refine kH ?_;refine jC ?_;refine iT ?_;refine bQ ?_;refine sr (N':=192) rfl ?_;refine pu rfl (hZ Z1 Z3 Z2) ?_;refine aR.heap0 (id:=129) rfl (oF (ys:=[.v (.int .i64 s_4.Graph.Config.N),.v (.int .i64 s_4.Graph.Config.L),.v (.int .i64 s_4.Graph.Config.R),.own 3 0 s_4.Graph.Hashes.length,.own 4 0 s_4.Graph.Edges.length,.own 5 0 s_4.Slots.length]) bM8 Z1 Z1 Z3 rfl (Nat.le_of_ble_eq_true rfl) Z9 rfl) ?_;refine pA ?_;refine fs ?_;refine AWp.ret ?_;cases hm;exact bFt (.inr rfl) (by rw [Tryz.results44]) (.cell (aGw Z1 Z3 Z2) (.tmp Z1 .nil)) rfl (tdt (.cons (tda rfl (.cons (.data _ (.v _)) (.cons (.data _ (.v _)) (.cons (.data _ (.v _)) (.cons (tdo jR rfl Z3 Z6) (.cons (tdo cI rfl Z3 Z6) (.cons (tdo cZ rfl Z3 Z6) .nil))))))) (.cons (td rfl (.v _)) .nil)))
instance:Ct prog 44 (K1 prog vs (t2 dF vb) 44 oC):=⟨fun hm=>aZ8 hm⟩
def mO(b_0:ByteArray):Option (aD×Int):=
 ((oC b_0).bind fun ⟨r2,r3⟩=>
 (bif (!r3) then
  some ((aD.mk (aJ.mk (bC.mk 0 0 0) [] []) []),12)
 else
  ((oO r2).bind fun ⟨r5,r6⟩=>
  (bif ((r6 !=0)||(!decide (r5=b_0))) then
   some ((aD.mk (aJ.mk (bC.mk 0 0 0) [] []) []),12)
  else
   some (r2,0)))))
theorem aV6:K1 prog vs (t2 dF vi) 14 mO:=fun hm=>be 30 func14 (h:=G)
instance:Ct prog 14 (K1 prog vs (t2 dF vi) 14 mO):=⟨aV6⟩
abbrev kJ(s_4:aD)(t8:aD)(bXm:Int):Option (aD×Int):=
 some (s_4,bXm)
def kE(s_0:aD)(c_1:dL)(u_2:Int)(v_3:Int):Option (aD×Int):=
 (bif (c_1.Do==1) then
  ((aEj s_0.Slots c_1.A).bind fun ⟨r2,r3,r4⟩=>
  kJ (aD.mk s_0.Graph r2) (aD.mk (aJ.mk (bC.mk 0 0 0) [] []) []) r4)
 else
  (bif (c_1.Do==2) then
   ((rP s_0 u_2).bind fun r6=>
   (bif (decide (0<r6)) then
    some (s_0,11)
   else
    ((wK s_0.Slots c_1.A).bind fun ⟨r8,r9⟩=>
    kJ (aD.mk s_0.Graph r8) (aD.mk (aJ.mk (bC.mk 0 0 0) [] []) []) r9)))
  else
   (bif (c_1.Do==3) then
    ((wH s_0.Graph u_2 v_3).bind fun ⟨r11,r12⟩=>
    kJ (aD.mk r11 s_0.Slots) (aD.mk (aJ.mk (bC.mk 0 0 0) [] []) []) r12)
   else
    (bif (c_1.Do==4) then
     (bif (u_2==v_3) then
      some (s_0,9)
     else
      ((wG s_0.Graph u_2 v_3).bind fun ⟨r14,r15⟩=>
      kJ (aD.mk r14 s_0.Slots) (aD.mk (aJ.mk (bC.mk 0 0 0) [] []) []) r15))
    else
     (bif (c_1.Do==15) then
      ((mO c_1.Text).bind fun ⟨r17,r18⟩=>
      some (r17,r18))
     else
      kJ s_0 (aD.mk (aJ.mk (bC.mk 0 0 0) [] []) []) 0)))))
theorem aUm:K4 prog dF qF vi vi (t2 dF vi) 41 kE:=fun hm=>be 76 func41 (h:=G)
instance:Ct prog 41 (K4 prog dF qF vi vi (t2 dF vi) 41 kE):=⟨aUm⟩
def mT(s_0:aD)(c_1:dL):Option (aD×GA):=
 ((eG (((decide (c_1.Do<1))||(decide (15<c_1.Do)))==false) false (mP s_0)).bind fun r2=>
 (bif (((decide (c_1.Do<1))||(decide (15<c_1.Do)))||(!r2)) then
  some (s_0,(GA.i 36 .i64 1))
 else
  ((tY s_0.Slots c_1.A).bind fun ⟨r4,r5⟩=>
  ((tY s_0.Slots c_1.B).bind fun ⟨r7,r8⟩=>
  ((qN c_1.Do).bind fun r10=>
  ((eG ((r10&&(!r5))==false) false (qO c_1.Do)).bind fun r12=>
  (bif ((r10&&(!r5))||(r12&&(!r8))) then
   some (s_0,(GA.i 36 .i64 7))
  else
   (bif ((decide (4<c_1.Do))&&(c_1.Do !=15)) then
    ((oJ s_0 c_1.Do r4 r7).bind fun r14=>
    some (s_0,r14))
   else
    ((kE s_0 c_1 r4 r7).bind fun ⟨r16,r17⟩=>
    (bif (r17 !=0) then
     some (s_0,(GA.i 36 .i64 r17))
    else
     some (r16,(GA.i 36 .i64 0))))))))))))
theorem bLl:K2 prog dF qF (t2 dF GA.av) 12 mT:=fun hm=>be 91 func12 (h:=G)
instance:Ct prog 12 (K2 prog dF qF (t2 dF GA.av) 12 mT):=⟨bLl⟩
def iP(s_0:aM)(c_1:dL):Option (aM×ByteArray):=
 (bif (!s_0.On) then
  ((cU (GA.i 36 .i64 3)).bind fun r2=>
  some (s_0,r2))
 else
  ((mT s_0.State c_1).bind fun ⟨r4,r5⟩=>
  ((cU r5).bind fun r7=>
  some ((aM.mk r4 s_0.Words s_0.On),r7))))
theorem aZ0:K2 prog eF qF (t2 eF vs) 62 iP:=fun hm=>be 26 func62 (h:=G)
instance:Ct prog 62 (K2 prog eF qF (t2 eF vs) 62 iP):=⟨aZ0⟩
def zN(rec2:Int→ByteArray→Nat→Option (Int×Int))(n_6:Int)(t33s:ByteArray)(t33p:Nat):Option (Int×Int):=
 (bif (decide (t33p<t33s.size)) then
  (bif (decide ((IntKind.u64.wrap (Int.tdiv (IntKind.u64.wrap (18446744073709551615-(IntKind.u64.wrap (IntKind.i32.wrap ((((Utf8.decode t33s t33p).1:Nat):Int)-48))))) 10))<n_6)) then
   some (0,6)
  else
   rec2 (IntKind.u64.wrap ((IntKind.u64.wrap (n_6*10))+(IntKind.u64.wrap (IntKind.i32.wrap ((((Utf8.decode t33s t33p).1:Nat):Int)-48))))) t33s (t33p+(Utf8.decode t33s t33p).2))
 else
  some (n_6,0))
def uJ:Nat→Int→ByteArray→Nat→Option (Int×Int)
 |0=>fun _ _ _=>none
 |n+1=>zN (uJ n)
def zM(rec1:ByteArray→ByteArray→Nat→Option (Int×Int))(cY:ByteArray)(t22s:ByteArray)(t22p:Nat):Option (Int×Int):=
 (bif (decide (t22p<t22s.size)) then
  (bif ((decide ((((Utf8.decode t22s t22p).1:Nat):Int)<48))||(decide (57<(((Utf8.decode t22s t22p).1:Nat):Int)))) then
   some (0,2)
  else
   rec1 cY t22s (t22p+(Utf8.decode t22s t22p).2))
 else
  uJ aW 0 cY 0)
def uI:Nat→ByteArray→ByteArray→Nat→Option (Int×Int)
 |0=>fun _ _ _=>none
 |n+1=>zM (uI n)
def xY(cY:ByteArray):Option (Int×Int):=
 ((eG ((decide (cY=⟨#[]⟩))==false) 0 (aD2 cY 0)).bind fun b2=>
 (bif ((decide (cY=⟨#[]⟩))||((b2==48)&&(!decide (cY=⟨#[48]⟩)))) then
  some (0,2)
 else
  uI aW cY cY 0))
theorem bBa{cY:ByteArray}{r:Int×Int}(hm:xY cY=some r):bY prog 110 [.v (.string cY)] (.tup [.v (.int .u64 r.1),.v (.int .i64 r.2)]):=by
 refine bY.of_body func110 rfl ?_;simp only [ntmps110,List.length_cons,List.length_nil,Nat.reduceAdd,Nat.reduceSub,iO];unfold xY at hm;refine sr (N':=64) rfl ?_
 iterate 2 refine pA ?_
 refine fs ?_;refine AWp.seq' ?_;refine sr (N':=128) rfl ?_
 iterate 4 first|refine pA ?_|refine pB ?_
 obtain ⟨b2,h1,hm⟩:=bnd hm;refine pg rfl rfl Z2 (fun hb=>(aRl underlying9 (Zh hb) (Zh hb) (kR h1 hb))) ?_
 iterate 6 first|refine pA ?_|refine pB ?_
 refine fs ?_;refine AWp.condM hm Z1 (fun _ hm=>?_) (fun _ hm=>?_)
 ·
  refine sr (N':=192) rfl ?_
  iterate 2 refine pA ?_
  refine fs ?_;refine AWp.ret ?_;refine jF ?_;cases hm;exact aGo (.inr rfl) Tryz.results110 (td Z1 (.v _)) (td Z1 (.v _))
 ·
  refine AWp.skip ?_;refine bQ ?_;refine AWp.seq' ?_;refine sr (N':=192) rfl ?_;refine pA ?_;refine hp (id:=129) rfl rfl (aIo underlying9 Z1 Z5) ?_;refine fs ?_;refine AWp.block ?_;refine AWp.loopM (fun m s=> ∃(cY:ByteArray) (t22s:ByteArray) (t22p:Nat),s=(⟨50,(aF (aF (fun _=>AV.any) 0 (.v (.string cY))) 22 (.adr 1 0)),⟨(upd aY 1 (.iter t22s t22p)),64⟩⟩:St)∧uI m cY t22s t22p=some r) aW ?_ ?_ ?_
  · rintro s ⟨_,_,_,_,h⟩;cases h
  · refine ⟨_,?_,cY,cY,0,rfl,hm⟩;exact cP (fun j=>bif j==1 then 129 else 0) (bH _ _ (kY Z1 rfl Z7) (wV dT)) (hW (cH (lA Z3) dC))
  ·
   rintro n1 s ⟨cY,t22s,t22p,rfl,hm⟩;replace hm:zM (uI n1) cY t22s t22p=some r:=hm;unfold zM at hm;refine sr (N':=128) rfl ?_;refine aZb hm (fun h3 hm=>?_) (fun h3 hm=>?_)
   ·
    refine hp (id:=64) rfl rfl (aDd Z1 Z3 (of_decide_eq_true h3)) ?_;refine pA ?_;refine fs ?_;refine AWp.seq' ?_;refine AWp.condT Z1 ?_;refine AWp.skip ?_;refine bQ ?_;refine AWp.block ?_;refine sr (N':=192) rfl ?_
    iterate 2 refine pA ?_
    refine fs ?_;refine sr (N':=256) rfl ?_
    iterate 6 first|refine pA ?_|refine pB ?_
    refine fs ?_;refine AWp.condM hm Z1 (fun _ hm=>?_) (fun _ hm=>?_)
    ·
     refine sr (N':=320) rfl ?_
     iterate 2 refine pA ?_
     refine fs ?_;refine AWp.ret ?_;refine sK ?_;refine sL ?_;refine sK ?_;refine jF ?_;cases hm;exact aGo (.inr rfl) Tryz.results110 (td Z1 (.v _)) (td Z1 (.v _))
    · refine AWp.skip ?_;refine jT ?_;refine iA ?_;refine ⟨_,?_,cY,t22s,(t22p+(Utf8.decode t22s t22p).2),rfl,hm⟩;exact cP (fun j=>bif j==1 then 1 else 0) (bH _ _ (kY Z1 rfl Z7) (wV dT)) (hW (cH (lA Z3) dC))
   ·
    refine hp (id:=64) rfl rfl (aFj Z1 Z3 (of_decide_eq_false h3)) ?_;refine pA ?_;refine fs ?_;refine AWp.seq' ?_;refine AWp.condF Z1 ?_;refine AWp.exit ?_;refine kH ?_;refine jC ?_;refine iT ?_;refine bQ ?_;refine sr (N':=192) rfl ?_;refine pA ?_;refine fs ?_;refine AWp.seq' ?_;refine sr (N':=256) rfl ?_;refine pA ?_;refine hp (id:=193) rfl rfl (aIo underlying9 Z1 Z5) ?_;refine fs ?_;refine AWp.block ?_;refine AWp.loopM (fun m s=> ∃(n_6:Int) (t33s:ByteArray) (t33p:Nat),s=(⟨50,(aF (aF (fun _=>AV.any) 6 (.v (.int .u64 n_6))) 33 (.adr 1 0)),⟨(upd aY 1 (.iter t33s t33p)),64⟩⟩:St)∧uJ m n_6 t33s t33p=some r) aW ?_ ?_ ?_
    · rintro s ⟨_,_,_,_,h⟩;cases h
    · refine ⟨_,?_,0,cY,0,rfl,hm⟩;exact cP (fun j=>bif j==1 then 193 else 0) (bH _ _ (kY Z1 rfl Z7) (wV dT)) (hW (cH (lA Z3) dC))
    ·
     rintro n2 s ⟨n_6,t33s,t33p,rfl,hm⟩;replace hm:zN (uJ n2) n_6 t33s t33p=some r:=hm;unfold zN at hm;refine sr (N':=128) rfl ?_;refine aZb hm (fun h4 hm=>?_) (fun h4 hm=>?_)
     ·
      refine hp (id:=64) rfl rfl (aDd Z1 Z3 (of_decide_eq_true h4)) ?_;refine pA ?_;refine fs ?_;refine AWp.seq' ?_;refine AWp.condT Z1 ?_;refine AWp.skip ?_;refine bQ ?_;refine AWp.block ?_;refine sr (N':=192) rfl ?_
      iterate 2 refine pA ?_
      refine fs ?_;refine sr (N':=256) rfl ?_
      iterate 4 refine pA ?_
      refine fs ?_;refine AWp.seq' ?_;refine sr (N':=320) rfl ?_
      iterate 5 refine pu rfl Zj ?_
      refine fs ?_;refine AWp.condM hm Z1 (fun _ hm=>?_) (fun _ hm=>?_)
      ·
       refine sr (N':=384) rfl ?_
       iterate 2 refine pA ?_
       refine fs ?_;refine AWp.ret ?_;refine jF ?_;refine sK ?_;refine sL ?_;refine sK ?_;refine jF ?_;cases hm;exact aGo (.inr rfl) Tryz.results110 (td Z1 (.v _)) (td Z1 (.v _))
      ·
       refine AWp.skip ?_;refine bQ ?_;refine AWp.reg 64 (N':=384) rfl ?_
       iterate 5 refine pA ?_
       refine aR.fin ?_;refine jT ?_;refine iA ?_;refine ⟨_,?_,(IntKind.u64.wrap ((IntKind.u64.wrap (n_6*10))+(IntKind.u64.wrap (IntKind.i32.wrap ((((Utf8.decode t33s t33p).1:Nat):Int)-48))))),t33s,(t33p+(Utf8.decode t33s t33p).2),rfl,hm⟩;exact cP (fun j=>bif j==1 then 1 else 0) (bH _ _ (kY Z1 rfl Z7) (wV dT)) (hW (cH (lA Z3) dC))
     ·
      refine hp (id:=64) rfl rfl (aFj Z1 Z3 (of_decide_eq_false h4)) ?_;refine pA ?_;refine fs ?_;refine AWp.seq' ?_;refine AWp.condF Z1 ?_;refine AWp.exit ?_;refine kH ?_;refine jC ?_;refine iT ?_;refine bQ ?_;refine sr (N':=192) rfl ?_
      iterate 3 refine pA ?_
      refine fs ?_;refine AWp.ret ?_;cases hm;exact aGo (.inr rfl) Tryz.results110 (td Z1 (.v _)) (td Z1 (.v _))
instance:Ct prog 110 (K1 prog vs (t2 vu vi) 110 xY):=⟨fun hm=>bBa hm⟩
def aAy(rec1:List Int→List ByteArray→Int→Int→Option ((List Int)×Int))(aF1:List Int)(t9:List ByteArray)(t10:Int)(t11:Int):Option ((List Int)×Int):=
 (bif (decide (t11<t10)) then
  ((idx t9 t11).bind fun x2=>
  ((xY x2).bind fun ⟨r4,r5⟩=>
  (bif (r5 !=0) then
   some ([],r5)
  else
   ((app aF1 [r4]).bind fun l7=>
   rec1 l7 t9 t10 (IntKind.i64.wrap (t11+1))))))
 else
  some (aF1,0))
def pU:Nat→List Int→List ByteArray→Int→Int→Option ((List Int)×Int)
 |0=>fun _ _ _ _=>none
 |n+1=>aAy (pU n)
def rE(aZi:List ByteArray):Option ((List Int)×Int):=
 pU aW [] aZi (aZi.length:Int) 0
theorem aRg:K1 prog (vl lK) (t2 (vl (ci .u64)) vi) 63 rE:=by
 intro aZi r hm
 let I1:=((fun m s=> ∃aF1 t9 t10 t11,s=⟨29,(aF (aF (aF (aF fa 4 (.own 1 0 aF1.length)) 9 (vl lK t9)) 10 (vi t10)) 11 (vi t11)),⟨(upd aY 1 (.cells 1 (aF1.flatMap (ci .u64)) 0)),64⟩⟩∧pU m aF1 t9 t10 t11=some r):Nat→St→Prop)
 exact be 29 func63 (h:=G)
instance:Ct prog 63 (K1 prog (vl lK) (t2 (vl (ci .u64)) vi) 63 rE):=⟨aRg⟩
def nW(n_0:Int)(m_1:Int):Option (Bool):=
 some ((((decide (1≤n_0))&&(decide (n_0≤1024)))&&(decide (0≤m_1)))&&(decide (m_1≤2147483647)))
theorem aYk:K2 prog vi vi vb 147 nW:=fun hm=>be 19 func147 (h:=G)
instance:Ct prog 147 (K2 prog vi vi vb 147 nW):=⟨aYk⟩
def aAv(k_0:Int):Option (Bool):=
 some ((decide (0≤k_0))&&(decide (k_0≤64)))
theorem bFo:K1 prog vi vb 148 aAv:=fun hm=>be 9 func148 (h:=G)
instance:Ct prog 148 (K1 prog vi vb 148 aAv):=⟨bFo⟩
def qI(l_0:Int)(r_1:Int):Option (Bool):=
 some ((((decide (1≤l_0))&&(decide (l_0≤16)))&&(decide (1≤r_1)))&&(decide (r_1≤8)))
theorem bBu:K2 prog vi vi vb 180 qI:=fun hm=>be 19 func180 (h:=G)
instance:Ct prog 180 (K2 prog vi vi vb 180 qI):=⟨bBu⟩
def aHr(rec1:Int→Int→Int→Int→Option (Int))(a_0:Int)(p_5:Int)(t6:Int)(t7:Int):Option (Int):=
 (bif (decide (t7<t6)) then
  rec1 a_0 (IntKind.u64.wrap (p_5*a_0)) t6 (IntKind.i64.wrap (t7+1))
 else
  some p_5)
def zT:Nat→Int→Int→Int→Int→Option (Int)
 |0=>fun _ _ _ _=>none
 |n+1=>aHr (zT n)
def yC(a_0:Int)(n_1:Int):Option (Int):=
 zT aW a_0 1 n_1 0
theorem bBt:K2 prog vu vi vu 226 yC:=by
 intro a_0 n_1 r hm
 let I1:=((fun m s=> ∃a_0 p_5 t6 t7,s=⟨14,(aF (aF (aF (aF fa 0 (vu a_0)) 5 (vu p_5)) 6 (vi t6)) 7 (vi t7)),⟨aY,64⟩⟩∧zT m a_0 p_5 t6 t7=some r):Nat→St→Prop)
 exact be 14 func226 (h:=G)
instance:Ct prog 226 (K2 prog vu vi vu 226 yC):=⟨bBt⟩
def qY(s_0:List Int):Option ((List Int)):=
 ((bLz s_0 0 (s_0.length:Int) (s_0.length:Int)).bind fun l2=>
 some l2)
theorem aM6{s_0:List Int}{r:(List Int)}(hm:qY s_0=some r):bY prog 250 [vl (ci .u32) s_0] (vl (ci .u32) r):=by
 refine bd 9 func250 ?_;obtain ⟨l2,h1,hm⟩:=bnd hm;refine W ?_;refine pu rfl (bS0 (CFi .u32) underlying253 bWr Z1 rfl aS2 (aCm Z1 (bQw h1).2.1) (aCm Z1 (bQw h1).2.2) rfl rfl h1) ?_;exact E
instance:Ct prog 250 (K1 prog (vl (ci .u32)) (vl (ci .u32)) 250 qY):=⟨fun hm=>aM6 hm⟩
def aFp(rec1:List Int→Option ((List Int)))(a_0:List Int):Option ((List Int)):=
 ((eG ((decide (0<(a_0.length:Int)))==true) 0 (idx a_0 (IntKind.i64.wrap ((a_0.length:Int)-1)))).bind fun x2=>
 (bif ((decide (0<(a_0.length:Int)))&&(x2==0)) then
  ((slc a_0 0 (IntKind.i64.wrap ((a_0.length:Int)-1))).bind fun l4=>
  rec1 l4)
 else
  ((qY a_0).bind fun r6=>
  some r6)))
def vQ:Nat→List Int→Option ((List Int))
 |0=>fun _=>none
 |n+1=>aFp (vQ n)
def uM(a_0:List Int):Option ((List Int)):=
 vQ aW a_0
theorem aNc:K1 prog (vl (ci .u32)) (vl (ci .u32)) 228 uM:=by
 intro a_0 r hm
 let I1:=((fun m s=> ∃a_0,s=⟨22,(aF fa 0 (vl (ci .u32) a_0)),⟨aY,64⟩⟩∧vQ m a_0=some r):Nat→St→Prop)
 exact be 22 func228 (h:=G)
instance:Ct prog 228 (K1 prog (vl (ci .u32)) (vl (ci .u32)) 228 uM):=⟨aNc⟩
def aB7(n_0:Int):Option ((List Int)):=
 ((uM [(IntKind.u32.wrap n_0),(IntKind.u32.wrap (shr .u64 n_0 32))]).bind fun r2=>
 some r2)
theorem bV9{n_0:Int}{r:(List Int)}(hm:aB7 n_0=some r):bY prog 184 [vu n_0] (vl (ci .u32) r):=by
 refine bd 10 func184 ?_;refine W ?_;refine aL (CFi .u32) [(IntKind.u32.wrap n_0),(IntKind.u32.wrap (shr .u64 n_0 32))] ?_;obtain ⟨r2,h1,hm⟩:=bnd hm;refine aR.callL1 (r:= .sl (r2.flatMap (ci .u32)) r2.length false) (id:=69) Zd Z1 cAi Z3 (.cons (tdl (CFi .u32) Z1 Z3 (by simp) Z6) .nil) (aNc h1) ?_;exact E
instance:Ct prog 184 (K1 prog vu (vl (ci .u32)) 184 aB7):=⟨fun hm=>bV9 hm⟩
def mY(a_0:List Int):Option (Bool):=
 ((eG (((decide ((a_0.length:Int)≤64))==true)&&(((a_0.length:Int)==0)==false)) 0 (idx a_0 (IntKind.i64.wrap ((a_0.length:Int)-1)))).bind fun x2=>
 some ((decide ((a_0.length:Int)≤64))&&(((a_0.length:Int)==0)||(x2 !=0))))
theorem aDu:K1 prog (vl (ci .u32)) vb 227 mY:=fun hm=>be 20 func227 (h:=G)
instance:Ct prog 227 (K1 prog (vl (ci .u32)) vb 227 mY):=⟨aDu⟩
def uL(a_0:List Int):Option ((List Int)×Int):=
 ((uM a_0).bind fun r2=>
 (bif (decide (64<(r2.length:Int))) then
  some ([],6)
 else
  some (r2,0)))
theorem aHk:K1 prog (vl (ci .u32)) (t2 (vl (ci .u32)) vi) 229 uL:=fun hm=>be 10 func229 (h:=G)
instance:Ct prog 229 (K1 prog (vl (ci .u32)) (t2 (vl (ci .u32)) vi) 229 uL):=⟨aHk⟩
abbrev aP1(rec1:List Int→List Int→List Int→Int→Int→Int→Option ((List Int)×Int))(a_0:List Int)(b_1:List Int)(nC:List Int)(wT:Int)(t26:Int)(t27:Int):Option ((List Int)×Int):=
 rec1 a_0 b_1 nC wT t26 (IntKind.i64.wrap (t27+1))
abbrev aGi(rec1:List Int→List Int→List Int→Int→Int→Int→Option ((List Int)×Int))(a_0:List Int)(b_1:List Int)(nC:List Int)(i_8:Int)(t_9:Int)(t26:Int)(t27:Int):Option ((List Int)×Int):=
 ((idx nC i_8).bind fun x8=>
 ((stt nC i_8 (IntKind.u32.wrap t_9)).bind fun l10=>
 aP1 rec1 a_0 b_1 l10 (shr .u64 t_9 32) t26 t27))
abbrev aGh(rec1:List Int→List Int→List Int→Int→Int→Int→Option ((List Int)×Int))(a_0:List Int)(b_1:List Int)(nC:List Int)(i_8:Int)(t_9:Int)(t26:Int)(t27:Int):Option ((List Int)×Int):=
 (bif (decide (i_8<(b_1.length:Int))) then
  ((idx b_1 i_8).bind fun x12=>
  aGi rec1 a_0 b_1 nC i_8 (IntKind.u64.wrap (t_9+(IntKind.u64.wrap x12))) t26 t27)
 else
  aGi rec1 a_0 b_1 nC i_8 t_9 t26 t27)
def aP0(rec1:List Int→List Int→List Int→Int→Int→Int→Option ((List Int)×Int))(a_0:List Int)(b_1:List Int)(nC:List Int)(wT:Int)(t26:Int)(t27:Int):Option ((List Int)×Int):=
 (bif (decide (t27<t26)) then
  (bif (decide (t27<(a_0.length:Int))) then
   ((idx a_0 t27).bind fun x14=>
   aGh rec1 a_0 b_1 nC t27 (IntKind.u64.wrap (wT+(IntKind.u64.wrap x14))) t26 t27)
  else
   aGh rec1 a_0 b_1 nC t27 wT t26 t27)
 else
  ((uL nC).bind fun ⟨r16,r17⟩=>
  some (r16,r17)))
def rQ:Nat→List Int→List Int→List Int→Int→Int→Int→Option ((List Int)×Int)
 |0=>fun _ _ _ _ _ _=>none
 |n+1=>aP0 (rQ n)
def aJj(a_0:List Int)(b_1:List Int):Option ((List Int)×Int):=
 ((mY a_0).bind fun r2=>
 ((eG ((!r2)==false) false (mY b_1)).bind fun r4=>
 (bif ((!r2)||(!r4)) then
  some ([],1)
 else
  ((mkc (IntKind.i64.wrap ((if (a_0.length:Int)<(b_1.length:Int) then (b_1.length:Int) else (a_0.length:Int))+1)) (IntKind.i64.wrap ((if (a_0.length:Int)<(b_1.length:Int) then (b_1.length:Int) else (a_0.length:Int))+1)) 0).bind fun l6=>
  rQ aW a_0 b_1 l6 0 (l6.length:Int) 0))))
theorem bPt{a_0:List Int}{b_1:List Int}{r:(List Int)×Int}(hm:aJj a_0 b_1=some r):bY prog 225 [vl (ci .u32) a_0,vl (ci .u32) b_1] (.tup [vl (ci .u32) r.1,vi r.2]):=by
 refine bd 65 func225 ?_;obtain ⟨r2,h1,hm⟩:=bnd hm;refine W ?_;refine cq (aDu h1) ?_;obtain ⟨r4,h3,hm⟩:=bnd hm;refine W ?_;refine cg (fun hb=>aDu (kR h3 hb)) ?_;refine W ?_;refine cm hm (fun hm=>?_) fun hm=>?_
 · exact E
 obtain ⟨l6,h5,hm⟩:=bnd hm;refine W ?_;refine aK (CFi .u32) h5 ?_;refine W ?_;refine lp (fun m s=> ∃a_0 b_1 nC wT t26 t27,s=⟨65,(aF (aF (aF (aF (aF (aF fa 0 (vl (ci .u32) a_0)) 1 (vl (ci .u32) b_1)) 6 (.own 1 0 nC.length)) 7 (vu wT)) 26 (vi t26)) 27 (vi t27)),⟨(upd aY 1 (.cells 1 (nC.flatMap (ci .u32)) 0)),64⟩⟩∧rQ m a_0 b_1 nC wT t26 t27=some r) (Lr (fun j=>bif j==1 then 134 else 0)) ?_;rintro n1 s ⟨a_0,b_1,nC,wT,t26,t27,rfl,hm⟩;refine W ?_;refine cm hm (fun hm=>?_) fun hm=>?_
 ·
  refine V ?_;refine AWp.seqJ (fun s=> ∃a_0 b_1 nC wT t26 t27,s=⟨65,(aF (aF (aF (aF (aF (aF fa 0 (vl (ci .u32) a_0)) 1 (vl (ci .u32) b_1)) 6 (.own 1 0 nC.length)) 7 (vu wT)) 26 (vi t26)) 27 (vi t27)),⟨(upd aY 1 (.cells 1 (nC.flatMap (ci .u32)) 0)),64⟩⟩∧aP1 (rQ n1) a_0 b_1 nC wT t26 t27=some r) ?_ ?_
  ·
   refine V ?_;refine AWp.seqJ (fun s=> ∃a_0 b_1 nC i_8 t_9 t26 t27,s=⟨65,(aF (aF (aF (aF (aF (aF (aF fa 0 (vl (ci .u32) a_0)) 1 (vl (ci .u32) b_1)) 6 (.own 1 0 nC.length)) 8 (vi i_8)) 9 (vu t_9)) 26 (vi t26)) 27 (vi t27)),⟨(upd aY 1 (.cells 1 (nC.flatMap (ci .u32)) 0)),64⟩⟩∧aGh (rQ n1) a_0 b_1 nC i_8 t_9 t26 t27=some r) ?_ ?_
   ·
    refine W ?_;refine cm hm (fun hm=>?_) fun hm=>?_
    · obtain ⟨x14,h13,hm⟩:=bnd hm;refine W ?_;exact Lr (fun j=>bif j==1 then 1 else 0)
    refine W ?_;exact Lr (fun j=>bif j==1 then 1 else 0)
   rintro s ⟨a_0,b_1,nC,i_8,t_9,t26,t27,rfl,hm⟩;refine AWp.seqJ (fun s=> ∃a_0 b_1 nC i_8 t_9 t26 t27,s=⟨65,(aF (aF (aF (aF (aF (aF (aF fa 0 (vl (ci .u32) a_0)) 1 (vl (ci .u32) b_1)) 6 (.own 1 0 nC.length)) 8 (vi i_8)) 9 (vu t_9)) 26 (vi t26)) 27 (vi t27)),⟨(upd aY 1 (.cells 1 (nC.flatMap (ci .u32)) 0)),64⟩⟩∧aGi (rQ n1) a_0 b_1 nC i_8 t_9 t26 t27=some r) ?_ ?_
   ·
    refine W ?_;refine cm hm (fun hm=>?_) fun hm=>?_
    · obtain ⟨x12,h11,hm⟩:=bnd hm;refine W ?_;exact Lr (fun j=>bif j==1 then 1 else 0)
    refine W ?_;exact Lr (fun j=>bif j==1 then 1 else 0)
   rintro s ⟨a_0,b_1,nC,i_8,t_9,t26,t27,rfl,hm⟩;obtain ⟨x8,h7,hm⟩:=bnd hm;obtain ⟨l10,h9,hm⟩:=bnd hm;refine W ?_;have qh9:=nH h9;refine aS h9 ?_;refine W ?_;exact Lr (fun j=>bif j==1 then 1 else 0)
  rintro s ⟨a_0,b_1,nC,wT,t26,t27,rfl,hm⟩;refine W ?_;exact Lr (fun j=>bif j==1 then 1 else 0)
 iterate 5 refine S1 ?_
 refine AWp.seq' ?_;refine AWp.weaken (aKl (CFi .u32) 6 1 Z1 Z3 Z6) ?_;refine W ?_;obtain ⟨⟨r16,r17⟩,h15,hm⟩:=bnd hm;refine cq (aHk h15) ?_;exact E
instance:Ct prog 225 (K2 prog (vl (ci .u32)) (vl (ci .u32)) (t2 (vl (ci .u32)) vi) 225 aJj):=⟨fun hm=>bPt hm⟩
def aP4(rec1:List Int→List Int→List Int→Int→Int→Option ((List Int)×Int))(rec2:List Int→List Int→Int→Int→Int→List Int→Int→Int→List Int→Int→Int→Option ((List Int)×Int))(b_1:List Int)(jL:List Int)(i_7:Int)(x_8:Int)(aH4:Int)(t27:List Int)(t28:Int)(t29:Int)(t34:List Int)(t35:Int)(t36:Int):Option ((List Int)×Int):=
 (bif (decide (t36<t35)) then
  ((idx t34 t36).bind fun x10=>
  ((idx jL (IntKind.i64.wrap (i_7+t36))).bind fun x12=>
  ((idx jL (IntKind.i64.wrap (i_7+t36))).bind fun x14=>
  ((stt jL (IntKind.i64.wrap (i_7+t36)) (IntKind.u32.wrap (IntKind.u64.wrap ((IntKind.u64.wrap ((IntKind.u64.wrap x12)+(IntKind.u64.wrap ((IntKind.u64.wrap x_8)*(IntKind.u64.wrap x10)))))+aH4)))).bind fun l16=>
  rec2 b_1 l16 i_7 x_8 (shr .u64 (IntKind.u64.wrap ((IntKind.u64.wrap ((IntKind.u64.wrap x12)+(IntKind.u64.wrap ((IntKind.u64.wrap x_8)*(IntKind.u64.wrap x10)))))+aH4)) 32) t27 t28 t29 t34 t35 (IntKind.i64.wrap (t36+1))))))
 else
  ((idx jL (IntKind.i64.wrap (i_7+(b_1.length:Int)))).bind fun x18=>
  ((stt jL (IntKind.i64.wrap (i_7+(b_1.length:Int))) (IntKind.u32.wrap aH4)).bind fun l20=>
  rec1 b_1 l20 t27 t28 (IntKind.i64.wrap (t29+1)))))
def aGk(rec1:List Int→List Int→List Int→Int→Int→Option ((List Int)×Int)):Nat→List Int→List Int→Int→Int→Int→List Int→Int→Int→List Int→Int→Int→Option ((List Int)×Int)
 |0=>fun _ _ _ _ _ _ _ _ _ _ _=>none
 |n+1=>aP4 rec1 (aGk rec1 n)
def aP3(rec1:List Int→List Int→List Int→Int→Int→Option ((List Int)×Int))(b_1:List Int)(jL:List Int)(t27:List Int)(t28:Int)(t29:Int):Option ((List Int)×Int):=
 (bif (decide (t29<t28)) then
  ((idx t27 t29).bind fun x8=>
  aGk rec1 aW b_1 jL t29 x8 0 t27 t28 t29 b_1 (b_1.length:Int) 0)
 else
  ((uL jL).bind fun ⟨r22,r23⟩=>
  some (r22,r23)))
def rR:Nat→List Int→List Int→List Int→Int→Int→Option ((List Int)×Int)
 |0=>fun _ _ _ _ _=>none
 |n+1=>aP3 (rR n)
def aDs(a_0:List Int)(b_1:List Int):Option ((List Int)×Int):=
 ((mY a_0).bind fun r2=>
 ((eG ((!r2)==false) false (mY b_1)).bind fun r4=>
 (bif ((!r2)||(!r4)) then
  some ([],1)
 else
  ((mkc (IntKind.i64.wrap ((a_0.length:Int)+(b_1.length:Int))) (IntKind.i64.wrap ((a_0.length:Int)+(b_1.length:Int))) 0).bind fun l6=>
  rR aW b_1 l6 a_0 (a_0.length:Int) 0))))
theorem bPv{a_0:List Int}{b_1:List Int}{r:(List Int)×Int}(hm:aDs a_0 b_1=some r):bY prog 185 [vl (ci .u32) a_0,vl (ci .u32) b_1] (.tup [vl (ci .u32) r.1,vi r.2]):=by
 refine bd 79 func185 ?_;obtain ⟨r2,h1,hm⟩:=bnd hm;refine W ?_;refine cq (aDu h1) ?_;obtain ⟨r4,h3,hm⟩:=bnd hm;refine W ?_;refine cg (fun hb=>aDu (kR h3 hb)) ?_;refine W ?_;refine cm hm (fun hm=>?_) fun hm=>?_
 · exact E
 obtain ⟨l6,h5,hm⟩:=bnd hm;refine W ?_;refine aK (CFi .u32) h5 ?_;refine W ?_;refine lp (fun m s=> ∃b_1 jL t27 t28 t29,s=⟨79,(aF (aF (aF (aF (aF fa 1 (vl (ci .u32) b_1)) 6 (.own 1 0 jL.length)) 27 (vl (ci .u32) t27)) 28 (vi t28)) 29 (vi t29)),⟨(upd aY 1 (.cells 1 (jL.flatMap (ci .u32)) 0)),64⟩⟩∧rR m b_1 jL t27 t28 t29=some r) (Lr (fun j=>bif j==1 then 133 else 0)) ?_;rintro n1 s ⟨b_1,jL,t27,t28,t29,rfl,hm⟩;refine W ?_;refine cm hm (fun hm=>?_) fun hm=>?_
 ·
  obtain ⟨x8,h7,hm⟩:=bnd hm;refine W ?_;refine lp (fun m s=> ∃b_1 jL i_7 x_8 aH4 t27 t28 t29 t34 t35 t36,s=⟨79,(aF (aF (aF (aF (aF (aF (aF (aF (aF (aF (aF fa 1 (vl (ci .u32) b_1)) 6 (.own 1 0 jL.length)) 7 (vi i_7)) 8 (.v (.int .u32 x_8))) 9 (vu aH4)) 27 (vl (ci .u32) t27)) 28 (vi t28)) 29 (vi t29)) 34 (vl (ci .u32) t34)) 35 (vi t35)) 36 (vi t36)),⟨(upd aY 1 (.cells 1 (jL.flatMap (ci .u32)) 0)),64⟩⟩∧aGk (rR n1) m b_1 jL i_7 x_8 aH4 t27 t28 t29 t34 t35 t36=some r) (Lr (fun j=>bif j==1 then 1 else 0)) ?_;rintro n2 s ⟨b_1,jL,i_7,x_8,aH4,t27,t28,t29,t34,t35,t36,rfl,hm⟩;refine W ?_;refine cm hm (fun hm=>?_) fun hm=>?_
  · obtain ⟨x10,h9,hm⟩:=bnd hm;obtain ⟨x12,h11,hm⟩:=bnd hm;have hm:=sb hm h11;obtain ⟨l16,h15,hm⟩:=bnd hm;refine W ?_;have qh15:=nH h15;refine aS h15 ?_;refine W ?_;exact Lr (fun j=>bif j==1 then 1 else 0)
  obtain ⟨x18,h17,hm⟩:=bnd hm;obtain ⟨l20,h19,hm⟩:=bnd hm;refine W ?_;have qh19:=nH h19;refine aS h19 ?_;refine W ?_;exact Lr (fun j=>bif j==1 then 1 else 0)
 iterate 5 refine S1 ?_
 refine AWp.seq' ?_;refine AWp.weaken (aKl (CFi .u32) 6 1 Z1 Z3 Z6) ?_;refine W ?_;obtain ⟨⟨r22,r23⟩,h21,hm⟩:=bnd hm;refine cq (aHk h21) ?_;exact E
instance:Ct prog 185 (K2 prog (vl (ci .u32)) (vl (ci .u32)) (t2 (vl (ci .u32)) vi) 185 aDs):=⟨fun hm=>bPv hm⟩
def aP5(rec1:List Int→List Int→Int→Int→Option ((List Int)×Int))(a_0:List Int)(aNk:List Int)(t21:Int)(t22:Int):Option ((List Int)×Int):=
 (bif (decide (t22<t21)) then
  ((aDs aNk a_0).bind fun ⟨r6,r7⟩=>
  (bif (r7 !=0) then
   some ([],r7)
  else
   rec1 a_0 r6 t21 (IntKind.i64.wrap (t22+1))))
 else
  some (aNk,0))
def aGl:Nat→List Int→List Int→Int→Int→Option ((List Int)×Int)
 |0=>fun _ _ _ _=>none
 |n+1=>aP5 (aGl n)
def aDt(a_0:List Int)(n_1:Int):Option ((List Int)×Int):=
 ((mY a_0).bind fun r2=>
 (bif (((!r2)||(decide (n_1<0)))||(decide (1024<n_1))) then
  some ([],1)
 else
  ((aB7 1).bind fun r4=>
  aGl aW a_0 r4 n_1 0)))
theorem bPw:K2 prog (vl (ci .u32)) vi (t2 (vl (ci .u32)) vi) 183 aDt:=by
 intro a_0 n_1 r hm
 let I1:=((fun m s=> ∃a_0 aNk t21 t22,s=⟨36,(aF (aF (aF (aF fa 0 (vl (ci .u32) a_0)) 6 (vl (ci .u32) aNk)) 21 (vi t21)) 22 (vi t22)),⟨aY,64⟩⟩∧aGl m a_0 aNk t21 t22=some r):Nat→St→Prop)
 exact be 36 func183 (h:=G)
instance:Ct prog 183 (K2 prog (vl (ci .u32)) vi (t2 (vl (ci .u32)) vi) 183 aDt):=⟨bPw⟩
def zV(n_0:Int)(m_1:Int)(l_2:Int)(r_3:Int):Option ((List Int)×Int):=
 ((nW n_0 m_1).bind fun r2=>
 ((eG ((!r2)==false) false (qI l_2 r_3)).bind fun r4=>
 (bif ((!r2)||(!r4)) then
  some ([],1)
 else
  ((yC 8 r_3).bind fun r6=>
  ((aB7 r6).bind fun r8=>
  ((yC 7 r_3).bind fun r10=>
  ((aB7 r10).bind fun r12=>
  ((aJj r8 r12).bind fun ⟨r14,r15⟩=>
  (bif (r15 !=0) then
   some ([],r15)
  else
   ((aDt r14 l_2).bind fun ⟨r17,r18⟩=>
   (bif (r18 !=0) then
    some ([],r18)
   else
    ((aB7 (IntKind.u64.wrap ((IntKind.u64.wrap m_1)*(IntKind.u64.wrap n_0)))).bind fun r20=>
    ((aDs r20 r17).bind fun ⟨r22,r23⟩=>
    some (r22,r23))))))))))))))
theorem aYm:K4 prog vi vi vi vi (t2 (vl (ci .u32)) vi) 181 zV:=fun hm=>be 55 func181 (h:=G)
instance:Ct prog 181 (K4 prog vi vi vi vi (t2 (vl (ci .u32)) vi) 181 zV):=⟨aYm⟩
def aBs(l_0:Int)(r_1:Int):Option ((List Int)×Int):=
 ((qI l_0 r_1).bind fun r2=>
 (bif (!r2) then
  some ([],1)
 else
  ((yC 8 r_1).bind fun r4=>
  ((aB7 (IntKind.u64.wrap (2*r4))).bind fun r6=>
  ((aDt r6 l_0).bind fun ⟨r8,r9⟩=>
  some (r8,r9))))))
theorem bBv:K2 prog vi vi (t2 (vl (ci .u32)) vi) 182 aBs:=fun hm=>be 18 func182 (h:=G)
instance:Ct prog 182 (K2 prog vi vi (t2 (vl (ci .u32)) vi) 182 aBs):=⟨bBv⟩
attribute [local semireducible] aW
end Go.Proofs.YtkdohhmacfoolaaGreatDoor
