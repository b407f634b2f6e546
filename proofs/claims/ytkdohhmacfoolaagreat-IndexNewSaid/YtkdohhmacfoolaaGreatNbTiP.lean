/- Facts that the statement's proof is made of. No condition. -/
import Derived.Test.YtkdohhmacfoolaaGreatNbGC1
import Derived.Test.YtkdohhmacfoolaaGreatNbSeaW
set_option linter.unusedVariables false
set_option linter.unusedSimpArgs false
set_option maxRecDepth 20000
set_option maxHeartbeats 1000000
namespace Go.Pt
variable {l : List E} {n : Nat}
theorem Tch.other {i : Nat} {x y z : Int} (hl : ∀ e, e ∈ l → e.1 ≠ e.2) (h : Tch l i x y) (k : Tch l i x z) : y = z := by
  have m : ∀ {a b : Int}, l[i]? = some (a, b) → a ≠ b := fun h => hl _ (List.mem_of_getElem? h)
  rcases h with h | h <;> rcases k with k | k <;> rw [h] at k <;> cases k
  · rfl
  · exact absurd rfl (m h)
  · exact absurd rfl (m h)
  · rfl
theorem Tch.mem {i : Nat} {x y : Int} (h : Tch l i x y) : (x, y) ∈ l ∨ (y, x) ∈ l := by
  rcases h with h | h
  · exact .inl (List.mem_of_getElem? h)
  · exact .inr (List.mem_of_getElem? h)
structure BI (l : List E) (n : Nat) (v : Int) (done q : List Int) (lead : List Int) : Prop where
  len : lead.length = n
  nd : (done ++ q).Nodup
  rg : ∀ x, x ∈ done ++ q → 0 ≤ x ∧ x < (n : Int)
  hv : v ∈ done ++ q
  cn : ∀ x, x ∈ done ++ q → cO l x v
  ld : ∀ x, x ∈ done ++ q → (x = v ∧ lead[x.toNat]? = some (-1)) ∨ (x ≠ v ∧ ∃ (i : Nat) (y : Int), lead[x.toNat]? = some (i : Int) ∧ Tch l i x y ∧ Br l x v i ∧ y ∈ done)
  no : ∀ x : Nat, x < n → (x : Int) ∉ done ++ q → lead[x]? = some (-1)
  cl : ∀ x, x ∈ done → ∀ i y, Tch l i x y → y ∈ done ++ q
structure BJ (l : List E) (n : Nat) (v : Int) (done : List Int) (x : Int) (q : List Int) (P : List Nat) (lead : List Int) : Prop where
  len : lead.length = n
  nd : (done ++ x :: q).Nodup
  rg : ∀ y, y ∈ done ++ x :: q → 0 ≤ y ∧ y < (n : Int)
  hv : v ∈ done ++ x :: q
  cn : ∀ y, y ∈ done ++ x :: q → cO l y v
  ld : ∀ y, y ∈ done ++ x :: q → (y = v ∧ lead[y.toNat]? = some (-1)) ∨ (y ≠ v ∧ ∃ (i : Nat) (z : Int), lead[y.toNat]? = some (i : Int) ∧ Tch l i y z ∧ Br l y v i ∧ (z ∈ done ∨ (z = x ∧ i ∈ P)))
  no : ∀ y : Nat, y < n → (y : Int) ∉ done ++ x :: q → lead[y]? = some (-1)
  cl : ∀ y, y ∈ done → ∀ i z, Tch l i y z → z ∈ done ++ x :: q
  cx : ∀ i, i ∈ P → ∀ z, Tch l i x z → z ∈ done ++ x :: q
theorem BI.start {v : Int} (h0 : 0 ≤ v) (hn : v < (n : Int)) : BI l n v [] [v] (List.replicate n (-1)) := by
  refine ⟨by simp, by simp, fun x hx => ?_, by simp, fun x hx => ?_, fun x hx => ?_, fun x hx _ => by rw [List.getElem?_replicate, if_pos hx], fun x hx => by cases hx⟩
  · simp at hx; subst hx; exact ⟨h0, hn⟩
  · simp at hx; subst hx; exact .refl _
  · simp at hx; subst hx; exact .inl ⟨rfl, by rw [List.getElem?_replicate, if_pos (by omega)]⟩
theorem BI.enter {v x : Int} {done q lead : List Int} (h : BI l n v done (x :: q) lead) : BJ l n v done x q [] lead :=
  ⟨h.len, h.nd, h.rg, h.hv, h.cn, fun y hy => (h.ld y hy).imp id fun ⟨a, i, z, b, c, d, e⟩ => ⟨a, i, z, b, c, d, .inl e⟩, h.no, h.cl, fun i hi => by cases hi⟩
section
variable {v x : Int} {done q lead : List Int} {P : List Nat} (hr : InR n l) (hf : dN n l) (hl : ∀ e, e ∈ l → e.1 ≠ e.2)
include hr hf hl
omit hr hf in
theorem BJ.back (h : BJ l n v done x q P lead) {i : Nat} {y : Int} (ht : Tch l i x y) (he : lead[x.toNat]? = some (i : Int)) : BJ l n v done x q (P ++ [i]) lead := by
  refine ⟨h.len, h.nd, h.rg, h.hv, h.cn, fun z hz => (h.ld z hz).imp id fun ⟨a, j, w, b, c, d, f⟩ => ⟨a, j, w, b, c, d, f.imp id fun g => ⟨g.1, by simp [g.2]⟩⟩, h.no, h.cl, fun j hj z hz => ?_⟩
  rcases List.mem_append.1 hj with m | m
  · exact h.cx j m z hz
  · simp at m; subst m
    rcases h.ld x (by simp) with ⟨_, a⟩ | ⟨_, k, w, a, b, c, d⟩
    · rw [he] at a; injection a with a; omega
    · rw [he] at a
      have : j = k := by injection a with a; omega
      subst this
      have e := b.other hl hz
      subst e
      rcases d with d | ⟨d, _⟩
      · simp [d]
      · simp [d]
theorem BJ.on (h : BJ l n v done x q P lead) {i : Nat} {y : Int} (ht : Tch l i x y) (hP : i ∉ P) (he : lead[x.toNat]? ≠ some (i : Int)) :
    0 ≤ y ∧ y < (n : Int) ∧ BJ l n v done x (q ++ [y]) (P ++ [i]) (lead.set y.toNat (i : Int)) := by
  have hx : x ∈ done ++ x :: q := by simp
  have hcx := h.cn x hx
  have nbx : ¬ Br l x v i := fun b => by
    rcases h.ld x hx with ⟨a, _⟩ | ⟨_, k, w, a, c, d, _⟩
    · subst a; exact aPs i b
    · have := aHn hr hf ht c b d hcx
      subst this; exact he a
  have hby : Br l y v i := (aYd hr hf ht nbx i).2 (.inr rfl)
  have hcy : cO l y v := ht.symm.conn.trans hcx
  have hyv : y ≠ v := fun e => by subst e; exact aPs i hby
  have hry : 0 ≤ y ∧ y < (n : Int) := by
    rcases ht.mem with m | m
    · have := hr _ m; exact ⟨this.2.2.1, this.2.2.2⟩
    · have := hr _ m; exact ⟨this.1, this.2.1⟩
  have hny : y ∉ done ++ x :: q := fun m => by
    rcases h.ld y m with ⟨a, _⟩ | ⟨_, k, w, a, c, d, f⟩
    · exact hyv a
    · have := aHn hr hf ht.symm c hby d hcy
      subst this
      have := ht.symm.other hl c
      subst this
      rcases f with f | ⟨_, f⟩
      · have := List.nodup_append.1 h.nd
        exact this.2.2 _ f _ (by simp) rfl
      · exact hP f
  have eL : done ++ x :: (q ++ [y]) = (done ++ x :: q) ++ [y] := by simp
  refine ⟨hry.1, hry.2, ⟨by rw [List.length_set]; exact h.len, ?_, fun z hz => ?_, ?_, fun z hz => ?_, fun z hz => ?_, fun z hz hn => ?_, fun z hz j w hw => ?_, fun j hj w hw => ?_⟩⟩
  · rw [eL, List.nodup_append]
    exact ⟨h.nd, by simp, fun a ha b hb => by simp at hb; subst hb; exact fun e => hny (e ▸ ha)⟩
  · rw [eL] at hz
    rcases List.mem_append.1 hz with m | m
    · exact h.rg z m
    · simp at m; subst m; exact hry
  · rw [eL]; exact List.mem_append_left _ h.hv
  · rw [eL] at hz
    rcases List.mem_append.1 hz with m | m
    · exact h.cn z m
    · simp at m; subst m; exact hcy
  · rw [eL] at hz
    by_cases e : z = y
    · subst e
      exact .inr ⟨hyv, i, x, by rw [List.getElem?_set_self (by rw [h.len]; omega)], ht.symm, hby, .inr ⟨rfl, by simp⟩⟩
    · have m : z ∈ done ++ x :: q := by
        rcases List.mem_append.1 hz with m | m
        · exact m
        · simp at m; exact absurd m e
      have hz0 := h.rg z m
      rw [List.getElem?_set_ne (by omega)]
      exact (h.ld z m).imp id fun ⟨a, j, w, b, c, d, f⟩ => ⟨a, j, w, b, c, d, f.imp id fun g => ⟨g.1, by simp [g.2]⟩⟩
  · rw [eL] at hn
    have hn1 : (z : Int) ∉ done ++ x :: q := fun m => hn (List.mem_append_left _ m)
    have hn2 : (z : Int) ≠ y := fun e => hn (by simp [e])
    rw [List.getElem?_set_ne (by omega)]
    exact h.no z hz hn1
  · rw [eL]; exact List.mem_append_left _ (h.cl z hz j w hw)
  · rw [eL]
    rcases List.mem_append.1 hj with m | m
    · exact List.mem_append_left _ (h.cx j m w hw)
    · simp at m; subst m
      have := ht.other hl hw
      subst this; simp
end
theorem BI.size {v : Int} {done q lead : List Int} (h : BI l n v done q lead) : done.length + q.length ≤ n := by
  have : (done ++ q).length ≤ ((List.range n).map fun (k : Nat) => (k : Int)).length := h.nd.length_le_of_subset fun x hx => by
    have := h.rg x hx
    rw [List.mem_map]
    exact ⟨x.toNat, by rw [List.mem_range]; omega, by omega⟩
  simpa using this
structure bK0 (l : List E) (n : Nat) (v : Int) (lead : List Int) : Prop where
  len : lead.length = n
  yes : ∀ x : Int, 0 ≤ x → x < n → cO l x v → x ≠ v → ∃ (i : Nat) (y : Int), lead[x.toNat]? = some (i : Int) ∧ Tch l i x y ∧ Br l x v i
  no : ∀ x : Int, 0 ≤ x → x < n → ¬ cO l x v → lead[x.toNat]? = some (-1)
theorem BI.lead {v : Int} {done lead : List Int} (h : BI l n v done [] lead) : bK0 l n v lead := by
  have cl : ∀ {a b : Int}, cO l a b → a ∈ done → b ∈ done := by
    intro a b hab
    induction hab with
    | refl => exact id
    | fwd e _ ih =>
      intro ha
      obtain ⟨i, hi⟩ := List.getElem?_of_mem e
      have := h.cl _ ha i _ (.inl hi)
      exact ih (by simpa using this)
    | bwd e _ ih =>
      intro ha
      obtain ⟨i, hi⟩ := List.getElem?_of_mem e
      have := h.cl _ ha i _ (.inr hi)
      exact ih (by simpa using this)
  have hv : v ∈ done := by simpa using h.hv
  refine ⟨h.len, fun x h0 h1 hc hne => ?_, fun x h0 h1 hc => ?_⟩
  · have hx : x ∈ done := cl hc.symm hv
    rcases h.ld x (by simp [hx]) with ⟨a, _⟩ | ⟨_, i, y, a, b, c, _⟩
    · exact absurd a hne
    · exact ⟨i, y, a, b, c⟩
  · have e : ((x.toNat : Nat) : Int) = x := by omega
    refine h.no x.toNat (by omega) fun m => hc ?_
    rw [e] at m
    exact h.cn x m
end Go.Pt
namespace Go.Proofs.YtkdohhmacfoolaaGreat
open Go Go.AM Go.Pl Go.Pt
section
variable {n : Int} (h0 : 0 ≤ n) (hn : n ≤ 1024) {l : List aC} (hl : l.length < 1000000000) (hr : Rg n l) (hne : ∀ e, e ∈ l → e.U ≠ e.V) (hf : dN n.toNat (en l)) {v : Int}
include h0 hn hl hr hne hf
end
end Go.Proofs.YtkdohhmacfoolaaGreat
