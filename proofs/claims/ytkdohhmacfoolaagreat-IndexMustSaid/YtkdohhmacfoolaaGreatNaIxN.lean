/- Facts that the statement's proof is made of. No condition. -/
import Derived.Test.YtkdohhmacfoolaaGreatNaIxC
set_option linter.unusedVariables false
set_option linter.unusedSimpArgs false
set_option maxRecDepth 20000
set_option maxHeartbeats 1000000
namespace Go.Proofs.YtkdohhmacfoolaaGreat
open Go Go.AM Go.Pl Go.Pt Go.Ix
theorem awake21 : law21Awake_m = some true := by decide +kernel
theorem IndexMust_p (n : Int) (b : Bool) (s : ByteArray) (l : List Int) : IndexMust_m n b s l = some true := by
  unfold IndexMust_m
  by_cases h : 300 < l.length
  · rw [bt (by simp; omega), awake21, some_bind']
  · have a1 : indexMustInt_m (GA.i 3 .i64 n) = some n := rfl
    have a2 : indexMustBool_m (GA.b 4 b) = some b := rfl
    have a3 : indexMustString_m (GA.s 9 s) = some s := rfl
    have a4 : indexMustUint64_m (GA.lu 24 l) = some l := rfl
    rw [bf (by simp; omega), a1, some_bind', gt' (by simp), a2, some_bind', gt' (by simp), a3, some_bind', gt' (by simp), a4, some_bind', gt' (by simp), ref05Same_eq _ _ (by omega), some_bind', gt' (by simp), awake21, some_bind']
    simp
def bl : List Int → Nat → Option (Int × Nat)
  | [], _ => none
  | x :: t, i => if x % 2305843009213693952 = 2305843009213693951 then bl t (i + 1) else some (x % 2305843009213693952, i + 1)
def W64 (l : List Int) : Prop := ∀ x, x ∈ l → 0 ≤ x ∧ x < 18446744073709551616
section
variable {l : List Int} (hl : l.length < 1000000) (hw : W64 l)
include hl hw
end
def hs (l : List Int) : Nat → Nat → Option (List GHash × Nat)
  | 0, i => some ([], i)
  | n + 1, i => (bl (l.drop i) i).bind fun a => (bl (l.drop a.2) a.2).bind fun b => (hs l n b.2).map fun r => (⟨a.1, b.1⟩ :: r.1, r.2)
section
variable {l : List Int} (hl : l.length < 1000000) (hw : W64 l)
include hl hw
end
structure SM (s : GSnapState) : Prop where
  e : s.Graph.Edges.length < 1000000
  h : s.Graph.Hashes.length < 1000000
  v : s.Slots.length < 1000000
theorem IndexMust_w (n : Int) (b : Bool) (s : ByteArray) (l : List Int) {A B C D : Prop} (_ : A) (_ : B) (_ : C) (_ : D) : IndexMust_m n b s l = some true := IndexMust_p n b s l
end Go.Proofs.YtkdohhmacfoolaaGreat
