/- Facts that the statement's proof is made of. No condition. -/
import Derived.Test.YtkdohhmacfoolaaGreatNeAmR
import Derived.Test.YtkdohhmacfoolaaGreatNeFacts
import Derived.Test.YtkdohhmacfoolaaGreatNeAmG
import Derived.Test.YtkdohhmacfoolaaGreatNeAmB
import Derived.Laws.RangeAny
namespace Go.Proofs.YtkdohhmacfoolaaGreat
open Go Go.AM
instance : FB Tryz.prog 5 := fbU Tryz.func5 (by kernel_rfl)
instance : FB Tryz.prog 10 := fbU Tryz.func10 (by kernel_rfl)
instance : FB Tryz.prog 12 := fbU Tryz.func12 (by kernel_rfl)
instance : FB Tryz.prog 13 := fbU Tryz.func13 (by kernel_rfl)
instance : FB Tryz.prog 14 := fbU Tryz.func14 (by kernel_rfl)
instance : FB Tryz.prog 15 := fbU Tryz.func15 (by kernel_rfl)
instance : FB Tryz.prog 18 := fbU Tryz.func18 (by kernel_rfl)
instance : FB Tryz.prog 19 := fbU Tryz.func19 (by kernel_rfl)
instance : FB Tryz.prog 25 := fbU Tryz.func25 (by kernel_rfl)
instance : FB Tryz.prog 26 := fbU Tryz.func26 (by kernel_rfl)
instance : FB Tryz.prog 27 := fbU Tryz.func27 (by kernel_rfl)
instance : FB Tryz.prog 29 := fbU Tryz.func29 (by kernel_rfl)
instance : FB Tryz.prog 33 := fbU Tryz.func33 (by kernel_rfl)
instance : FB Tryz.prog 35 := fbU Tryz.func35 (by kernel_rfl)
instance : FB Tryz.prog 36 := fbU Tryz.func36 (by kernel_rfl)
instance : FB Tryz.prog 37 := fbU Tryz.func37 (by kernel_rfl)
instance : FB Tryz.prog 38 := fbU Tryz.func38 (by kernel_rfl)
instance : FB Tryz.prog 39 := fbU Tryz.func39 (by kernel_rfl)
instance : FB Tryz.prog 40 := fbU Tryz.func40 (by kernel_rfl)
instance : FB Tryz.prog 41 := fbU Tryz.func41 (by kernel_rfl)
instance : FB Tryz.prog 42 := fbU Tryz.func42 (by kernel_rfl)
instance : FB Tryz.prog 43 := fbU Tryz.func43 (by kernel_rfl)
instance : FB Tryz.prog 45 := fbU Tryz.func45 (by kernel_rfl)
instance : FB Tryz.prog 46 := fbU Tryz.func46 (by kernel_rfl)
instance : FB Tryz.prog 47 := fbU Tryz.func47 (by kernel_rfl)
instance : FB Tryz.prog 48 := fbU Tryz.func48 (by kernel_rfl)
instance : FB Tryz.prog 49 := fbU Tryz.func49 (by kernel_rfl)
instance : FB Tryz.prog 50 := fbU Tryz.func50 (by kernel_rfl)
instance : FB Tryz.prog 66 := fbU Tryz.func66 (by kernel_rfl)
instance : FB Tryz.prog 67 := fbU Tryz.func67 (by kernel_rfl)
instance : FB Tryz.prog 68 := fbU Tryz.func68 (by kernel_rfl)
instance : FB Tryz.prog 69 := fbU Tryz.func69 (by kernel_rfl)
instance : FB Tryz.prog 70 := fbU Tryz.func70 (by kernel_rfl)
instance : FB Tryz.prog 71 := fbU Tryz.func71 (by kernel_rfl)
instance : FB Tryz.prog 72 := fbU Tryz.func72 (by kernel_rfl)
instance : FB Tryz.prog 73 := fbU Tryz.func73 (by kernel_rfl)
instance : FB Tryz.prog 74 := fbU Tryz.func74 (by kernel_rfl)
instance : FB Tryz.prog 75 := fbU Tryz.func75 (by kernel_rfl)
instance : FB Tryz.prog 76 := fbU Tryz.func76 (by kernel_rfl)
instance : FB Tryz.prog 77 := fbU Tryz.func77 (by kernel_rfl)
instance : FB Tryz.prog 78 := fbU Tryz.func78 (by kernel_rfl)
instance : FB Tryz.prog 79 := fbU Tryz.func79 (by kernel_rfl)
instance : FB Tryz.prog 80 := fbU Tryz.func80 (by kernel_rfl)
instance : FB Tryz.prog 81 := fbU Tryz.func81 (by kernel_rfl)
instance : FB Tryz.prog 83 := fbU Tryz.func83 (by kernel_rfl)
instance : FB Tryz.prog 84 := fbU Tryz.func84 (by kernel_rfl)
instance : FB Tryz.prog 85 := fbU Tryz.func85 (by kernel_rfl)
instance : FB Tryz.prog 86 := fbU Tryz.func86 (by kernel_rfl)
instance : FB Tryz.prog 89 := fbU Tryz.func89 (by kernel_rfl)
instance : FB Tryz.prog 90 := fbU Tryz.func90 (by kernel_rfl)
instance : FB Tryz.prog 91 := fbU Tryz.func91 (by kernel_rfl)
instance : FB Tryz.prog 96 := fbU Tryz.func96 (by kernel_rfl)
instance : FB Tryz.prog 97 := fbU Tryz.func97 (by kernel_rfl)
instance : FB Tryz.prog 98 := fbU Tryz.func98 (by kernel_rfl)
instance : FB Tryz.prog 99 := fbU Tryz.func99 (by kernel_rfl)
instance : FB Tryz.prog 101 := fbU Tryz.func101 (by kernel_rfl)
instance : FB Tryz.prog 102 := fbU Tryz.func102 (by kernel_rfl)
instance : FB Tryz.prog 103 := fbU Tryz.func103 (by kernel_rfl)
instance : FB Tryz.prog 105 := fbU Tryz.func105 (by kernel_rfl)
instance : FB Tryz.prog 106 := fbU Tryz.func106 (by kernel_rfl)
instance : FB Tryz.prog 107 := fbU Tryz.func107 (by kernel_rfl)
instance : FB Tryz.prog 108 := fbU Tryz.func108 (by kernel_rfl)
instance : FB Tryz.prog 109 := fbU Tryz.func109 (by kernel_rfl)
instance : FB Tryz.prog 112 := fbU Tryz.func112 (by kernel_rfl)
instance : FB Tryz.prog 113 := fbU Tryz.func113 (by kernel_rfl)
instance : FB Tryz.prog 115 := fbU Tryz.func115 (by kernel_rfl)
instance : FB Tryz.prog 116 := fbU Tryz.func116 (by kernel_rfl)
instance : FB Tryz.prog 117 := fbU Tryz.func117 (by kernel_rfl)
instance : FB Tryz.prog 118 := fbU Tryz.func118 (by kernel_rfl)
instance : FB Tryz.prog 120 := fbU Tryz.func120 (by kernel_rfl)
instance : FB Tryz.prog 121 := fbU Tryz.func121 (by kernel_rfl)
instance : FB Tryz.prog 122 := fbU Tryz.func122 (by kernel_rfl)
instance : FB Tryz.prog 125 := fbU Tryz.func125 (by kernel_rfl)
instance : FB Tryz.prog 126 := fbU Tryz.func126 (by kernel_rfl)
instance : FB Tryz.prog 127 := fbU Tryz.func127 (by kernel_rfl)
instance : FB Tryz.prog 128 := fbU Tryz.func128 (by kernel_rfl)
instance : FB Tryz.prog 129 := fbU Tryz.func129 (by kernel_rfl)
instance : FB Tryz.prog 130 := fbU Tryz.func130 (by kernel_rfl)
instance : FB Tryz.prog 134 := fbU Tryz.func134 (by kernel_rfl)
instance : FB Tryz.prog 135 := fbU Tryz.func135 (by kernel_rfl)
instance : FB Tryz.prog 137 := fbU Tryz.func137 (by kernel_rfl)
instance : FB Tryz.prog 138 := fbU Tryz.func138 (by kernel_rfl)
instance : FB Tryz.prog 139 := fbU Tryz.func139 (by kernel_rfl)
instance : FB Tryz.prog 140 := fbU Tryz.func140 (by kernel_rfl)
instance : FB Tryz.prog 141 := fbU Tryz.func141 (by kernel_rfl)
instance : FB Tryz.prog 143 := fbU Tryz.func143 (by kernel_rfl)
instance : FB Tryz.prog 144 := fbU Tryz.func144 (by kernel_rfl)
instance : FB Tryz.prog 151 := fbU Tryz.func151 (by kernel_rfl)
instance : FB Tryz.prog 155 := fbU Tryz.func155 (by kernel_rfl)
instance : FB Tryz.prog 164 := fbU Tryz.func164 (by kernel_rfl)
instance : FB Tryz.prog 165 := fbU Tryz.func165 (by kernel_rfl)
instance : FB Tryz.prog 166 := fbU Tryz.func166 (by kernel_rfl)
instance : FB Tryz.prog 168 := fbU Tryz.func168 (by kernel_rfl)
instance : FB Tryz.prog 169 := fbU Tryz.func169 (by kernel_rfl)
instance : FB Tryz.prog 170 := fbU Tryz.func170 (by kernel_rfl)
instance : FB Tryz.prog 171 := fbU Tryz.func171 (by kernel_rfl)
instance : FB Tryz.prog 172 := fbU Tryz.func172 (by kernel_rfl)
instance : FB Tryz.prog 173 := fbU Tryz.func173 (by kernel_rfl)
instance : FB Tryz.prog 174 := fbU Tryz.func174 (by kernel_rfl)
instance : FB Tryz.prog 183 := fbU Tryz.func183 (by kernel_rfl)
instance : FB Tryz.prog 184 := fbU Tryz.func184 (by kernel_rfl)
instance : FB Tryz.prog 185 := fbU Tryz.func185 (by kernel_rfl)
instance : FB Tryz.prog 186 := fbU Tryz.func186 (by kernel_rfl)
instance : FB Tryz.prog 187 := fbU Tryz.func187 (by kernel_rfl)
instance : FB Tryz.prog 188 := fbU Tryz.func188 (by kernel_rfl)
instance : FB Tryz.prog 189 := fbU Tryz.func189 (by kernel_rfl)
instance : FB Tryz.prog 190 := fbU Tryz.func190 (by kernel_rfl)
instance : FB Tryz.prog 191 := fbU Tryz.func191 (by kernel_rfl)
instance : FB Tryz.prog 192 := fbU Tryz.func192 (by kernel_rfl)
instance : FB Tryz.prog 196 := fbU Tryz.func196 (by kernel_rfl)
instance : FB Tryz.prog 197 := fbU Tryz.func197 (by kernel_rfl)
instance : FB Tryz.prog 198 := fbU Tryz.func198 (by kernel_rfl)
instance : FB Tryz.prog 199 := fbU Tryz.func199 (by kernel_rfl)
instance : FB Tryz.prog 200 := fbU Tryz.func200 (by kernel_rfl)
instance : FB Tryz.prog 201 := fbU Tryz.func201 (by kernel_rfl)
instance : FB Tryz.prog 202 := fbU Tryz.func202 (by kernel_rfl)
instance : FB Tryz.prog 203 := fbU Tryz.func203 (by kernel_rfl)
instance : FB Tryz.prog 204 := fbU Tryz.func204 (by kernel_rfl)
instance : FB Tryz.prog 205 := fbU Tryz.func205 (by kernel_rfl)
instance : FB Tryz.prog 206 := fbU Tryz.func206 (by kernel_rfl)
instance : FB Tryz.prog 207 := fbU Tryz.func207 (by kernel_rfl)
instance : FB Tryz.prog 208 := fbU Tryz.func208 (by kernel_rfl)
instance : FB Tryz.prog 210 := fbU Tryz.func210 (by kernel_rfl)
instance : FB Tryz.prog 211 := fbU Tryz.func211 (by kernel_rfl)
instance : FB Tryz.prog 212 := fbU Tryz.func212 (by kernel_rfl)
instance : FB Tryz.prog 213 := fbU Tryz.func213 (by kernel_rfl)
instance : TI Tryz.prog 3 1 := ⟨_, _, in3, ts3, by rw [tb3]; decide, by rw [tb3]; decide, tz3, by decide, by decide⟩
instance : TI Tryz.prog 4 1 := ⟨_, _, in4, ts4, by rw [tb4]; decide, by rw [tb4]; decide, tz4, by decide, by decide⟩
instance : TI Tryz.prog 24 1 := ⟨_, _, bIf, bU0, by rw [bS2]; decide, by rw [bS2]; decide, bJ4, by decide, by decide⟩
instance : TI Tryz.prog 36 1 := ⟨_, _, aX5, bXl, by rw [bPu]; decide, by rw [bPu]; decide, bW4, by decide, by decide⟩
instance : TI Tryz.prog 40 1 := ⟨_, _, bSn, bVr, by rw [bQc]; decide, by rw [bQc]; decide, bS3, by decide, by decide⟩
instance : TI Tryz.prog 43 1 := ⟨_, _, bN5, bNe, by rw [bAf]; decide, by rw [bAf]; decide, bN0, by decide, by decide⟩
instance : TI Tryz.prog 69 2 := ⟨_, _, bVm, bWd, by rw [bO2]; decide, by rw [bO2]; decide, bWc, by decide, by decide⟩
instance : TI Tryz.prog 102 3 := ⟨_, _, bA3, aZp, by rw [aK7]; decide, by rw [aK7]; decide, aZl, by decide, by decide⟩
instance : TI Tryz.prog 104 2 := ⟨_, _, bFx, bFe, by rw [aOy]; decide, by rw [aOy]; decide, bHl, by decide, by decide⟩
instance : TI Tryz.prog 120 2 := ⟨_, _, bFk, bHu, by rw [aPn]; decide, by rw [aPn]; decide, bHd, by decide, by decide⟩
instance : MX Tryz.prog := ⟨mix⟩
attribute [go_sem] zc3 zc4 bWv bN8 bUe bV9 bVs bX0 bG2 bUs bVv aPa bEa bHn bM0 bRq bO4
end Go.Proofs.YtkdohhmacfoolaaGreat
set_option linter.unusedVariables false
set_option linter.unusedSimpArgs false
set_option maxRecDepth 20000
set_option maxHeartbeats 4000000
namespace Go.Proofs.YtkdohhmacfoolaaGreat
open Go Go.AM
theorem bJl (H : aJ) (x : AV) (xs : List AV) : bM Tryz.prog H 3 (.ptr (x :: xs)) = some x := by kernel_rfl
attribute [go_sem] bJl
def uF (rec1 : List Int → Int → Option (Int × List Int)) (p_0 : List Int) (v_1 : Int) : Option (Int × List Int) :=
 ((idx p_0 v_1).bind fun x2 =>
 (bif (x2 != v_1) then
  ((idx p_0 v_1).bind fun x4 =>
  ((idx p_0 x4).bind fun x6 =>
  ((idx p_0 v_1).bind fun x8 =>
  ((stt p_0 v_1 x6).bind fun l10 =>
  ((idx l10 v_1).bind fun x12 =>
  rec1 l10 x12)))))
 else
  some (v_1, p_0)))
def qJ : Nat → List Int → Int → Option (Int × List Int)
 | 0 => fun _ _ => none
 | n + 1 => uF (qJ n)
def aAv (p_0 : List Int) (v_1 : Int) : Option (Int × List Int) :=
 qJ bF p_0 v_1
theorem aYq {p_0 : List Int} {v_1 : Int} {r : Int × List Int} (hm : aAv p_0 v_1 = some r) {H : aJ} {i0 : Nat} (he : H.ent i0 = .cells 1 (p_0.flatMap (ci .i64)) 0) : dO Tryz.prog 132 [.own i0 0 p_0.length, .v (.int .i64 v_1)] H (.v (.int .i64 r.1)) (H.put i0 (.cells 1 (r.2.flatMap (ci .i64)) 0)) := by
 refine dO.of_bodyM Tryz.func132 rfl he ?_
 generalize H.ent = h0
 simp only [Tryz.ntmps132, List.length_cons, List.length_nil, Nat.reduceAdd, Nat.reduceSub]
 unfold aAv at hm
 refine sN 64 (pA ?_)
 refine fs (AWp.seq' (AWp.block (AWp.loopM (fun m s => ∃ (p_0 : List Int) (v_1 : Int), s = (⟨26, (aF (aF (fun _ => AV.any) 0 (.own i0 0 p_0.length)) 1 (.v (.int .i64 v_1))), ⟨(upd h0 i0 (.cells 1 (p_0.flatMap (ci .i64)) 0)), 64⟩⟩ : St) ∧ qJ m p_0 v_1 = some r) bF ?_ ?_ ?_)))
 ·
  rintro s ⟨_, _, _, h⟩
  cases h
 ·
  refine ⟨_, ?_, p_0, v_1, rfl, hm⟩
  exact uL (bU 1 _ Z1 (bU 0 _ (uT Z1 Z6) oV)) (by simp only [iB]; try rfl)
 ·
  rintro n1 s ⟨p_0, v_1, rfl, hm⟩
  replace hm : uF (qJ n1) p_0 v_1 = some r := hm
  unfold uF at hm
  refine AWp.seq' (sN 128 ?_)
  iterate 2 refine pA ?_
  obtain ⟨x2, h1, hm⟩ := bnd hm
  refine pu rfl (dR Tryz.underlying112 sz3 Z1 (by simp only [bC, beq_self_eq_true, Nat.reduceBEq, cond_true, cond_false]; try rfl) Z6 Z1 h1) ?_
  refine pu rfl (mE (CFi .i64) Z1 (by simp only [bC, beq_self_eq_true, Nat.reduceBEq, cond_true, cond_false]; try rfl) h1 (fun _ => by simp only [go_sem, Nat.reduceBEq]; try with_reducible rfl)) ?_
  iterate 2 refine pA ?_
  refine fs (AWp.condM hm Z1 (fun _ hm => ?_) (fun _ hm => ?_))
  ·
   refine AWp.skip (bX (AWp.block (sN 192 ?_)))
   iterate 5 refine pA ?_
   obtain ⟨x4, h3, hm⟩ := bnd hm
   refine pu rfl (dR Tryz.underlying112 sz3 Z1 (by simp only [bC, beq_self_eq_true, Nat.reduceBEq, cond_true, cond_false]; try rfl) Z6 Z1 h3) ?_
   refine pu rfl (mE (CFi .i64) Z1 (by simp only [bC, beq_self_eq_true, Nat.reduceBEq, cond_true, cond_false]; try rfl) h3 (fun _ => by simp only [go_sem, Nat.reduceBEq]; try with_reducible rfl)) ?_
   obtain ⟨x6, h5, hm⟩ := bnd hm
   refine pu rfl (dR Tryz.underlying112 sz3 Z1 (by simp only [bC, beq_self_eq_true, Nat.reduceBEq, cond_true, cond_false]; try rfl) Z6 Z1 h5) ?_
   refine pu rfl (mE (CFi .i64) Z1 (by simp only [bC, beq_self_eq_true, Nat.reduceBEq, cond_true, cond_false]; try rfl) h5 (fun _ => by simp only [go_sem, Nat.reduceBEq]; try with_reducible rfl)) ?_
   obtain ⟨x8, h7, hm⟩ := bnd hm
   refine pu rfl (dR Tryz.underlying112 sz3 Z1 (by simp only [bC, beq_self_eq_true, Nat.reduceBEq, cond_true, cond_false]; try rfl) Z6 Z1 h7) ?_
   obtain ⟨l10, h9, hm⟩ := bnd hm
   have qh9 := jU h9
   refine aU.heap0 (id := 138) rfl (xS (CFi .i64) sz3 Z1 Z1 (by simp only [bC, beq_self_eq_true, Nat.reduceBEq, cond_true, cond_false]; try rfl) rfl h9) ?_
   refine fs (AWp.reg 64 (N' := 256) rfl ?_)
   iterate 2 refine pA ?_
   obtain ⟨x12, h11, hm⟩ := bnd hm
   refine pu rfl (dR Tryz.underlying112 sz3 Z1 (by simp only [bC, beq_self_eq_true, Nat.reduceBEq, cond_true, cond_false]; try rfl) Z6 Z1 h11) ?_
   refine pu rfl (mE (CFi .i64) Z1 (by simp only [bC, beq_self_eq_true, Nat.reduceBEq, cond_true, cond_false]; try rfl) h11 (fun _ => by simp only [go_sem, Nat.reduceBEq]; try with_reducible rfl)) ?_
   refine pA ?_
   refine aU.fin (kP (gA ?_))
   refine ⟨_, ?_, l10, x12, rfl, hm⟩
   exact uL (bU 1 _ Z1 (bU 0 _ (uT Z1 Z6) oV)) (by simp only [iB]; try rfl)
  ·
   refine AWp.exit (jB (gP (gN (bX (sN 192 ?_)))))
   iterate 2 refine pA ?_
   refine fs (AWp.ret ?_)
   cases hm
   exact bNu (.inr rfl) Tryz.results132 Z1 (by simp only [iB]; try rfl)
end Go.Proofs.YtkdohhmacfoolaaGreat
set_option linter.unusedSimpArgs false
set_option linter.unusedVariables false
namespace Go.Pl
theorem bHt {n : Int} (h1 : -9223372036854775808 ≤ n) (h2 : n ≤ 9223372036854775807) : IntKind.i64.wrap n = n := by rw [IntKind.wrap_i64]; omega
theorem bMf {n : Int} (h1 : 0 ≤ n) (h2 : n ≤ 18446744073709551615) : IntKind.u64.wrap n = n := by rw [IntKind.wrap_u64]; omega
end Go.Pl
