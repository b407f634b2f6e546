/- Facts that the statement's proof is made of. No condition. -/
import Derived.Test.YtkdohhmacfoolaaGreatNbPt
set_option linter.unusedSimpArgs false
set_option linter.unusedVariables false
namespace Go.Pt
variable {l : List E} {n : Nat}
def Tch (l : List E) (i : Nat) (x y : Int) : Prop := l[i]? = some (x, y) ∨ l[i]? = some (y, x)
theorem Tch.symm {i : Nat} {x y : Int} (h : Tch l i x y) : Tch l i y x := h.elim .inr .inl
theorem Tch.lt {i : Nat} {x y : Int} (h : Tch l i x y) : i < l.length := by
  rcases h with h | h <;> exact (List.getElem?_eq_some_iff.1 h).1
theorem Tch.conn {i : Nat} {x y : Int} (h : Tch l i x y) : cO l x y := by
  rcases h with h | h
  · exact .one (List.mem_of_getElem? h)
  · exact .eno (List.mem_of_getElem? h)
def Br (l : List E) (u v : Int) (i : Nat) : Prop := i < l.length ∧ ¬ cO (l.eraseIdx i) u v
theorem aHh {i j : Nat} {e : E} (h : l[j]? = some e) (hij : j ≠ i) : e ∈ l.eraseIdx i := by
  rw [List.mem_eraseIdx_iff_getElem?]; exact ⟨j, hij, h⟩
theorem Tch.conn_erase {i j : Nat} {x y : Int} (h : Tch l j x y) (hij : j ≠ i) : cO (l.eraseIdx i) x y := by
  rcases h with h | h
  · exact .one (aHh h hij)
  · exact .eno (aHh h hij)
theorem sC {i : Nat} {e : E} (h : l[i]? = some e) : l.Perm (e :: l.eraseIdx i) := by
  obtain ⟨hi, he⟩ := List.getElem?_eq_some_iff.1 h
  rw [List.eraseIdx_eq_take_drop_succ]
  have : l = l.take i ++ e :: l.drop (i + 1) := by rw [← he, List.getElem_cons_drop, List.take_append_drop]
  exact (List.Perm.of_eq this).trans List.perm_middle
theorem xT {i : Nat} {e : E} (h : l[i]? = some e) (x y : Int) : cO l x y ↔ cO (e :: l.eraseIdx i) x y := lS (fun _ => (sC h).mem_iff) x y
theorem dN.bridge (hr : InR n l) (hf : dN n l) {i : Nat} {x y : Int} (h : Tch l i x y) : ¬ cO (l.eraseIdx i) x y := by
  rcases h with h | h
  · exact ((dN.cons (hr.perm (sC h))).1 (hf.perm (sC h))).2
  · exact fun c => ((dN.cons (hr.perm (sC h))).1 (hf.perm (sC h))).2 c.symm
theorem aK7 {i : Nat} {x y : Int} (h : Tch l i x y) {a b : Int} (hc : cO l a b) : cO (l.eraseIdx i) a b ∨ (cO (l.eraseIdx i) a x ∧ cO (l.eraseIdx i) y b) ∨ (cO (l.eraseIdx i) a y ∧ cO (l.eraseIdx i) x b) := by
  rcases h with h | h
  · exact cO.cons_iff.1 ((xT h _ _).1 hc)
  · rcases cO.cons_iff.1 ((xT h _ _).1 hc) with h | h | h
    · exact .inl h
    · exact .inr (.inr h)
    · exact .inr (.inl h)
theorem aHn (hr : InR n l) (hf : dN n l) {x v y y' : Int} {i j : Nat} (hi : Tch l i x y) (hj : Tch l j x y') (bi : Br l x v i) (bj : Br l x v j) (hc : cO l x v) : i = j := by
  refine Classical.byContradiction fun hij => ?_
  have hy : cO (l.eraseIdx i) y v := by
    rcases aK7 hi hc with h | ⟨_, h⟩ | ⟨h, _⟩
    · exact absurd h bi.2
    · exact h
    · exact absurd h (hf.bridge hr hi)
  have hxy' : cO (l.eraseIdx i) x y' := hj.conn_erase (fun h => hij h.symm)
  have hj' : ∃ k, Tch (l.eraseIdx i) k x y' ∧ ∀ a b, cO ((l.eraseIdx i).eraseIdx k) a b → cO (l.eraseIdx j) a b := by
    by_cases hlt : j < i
    · refine ⟨j, ?_, fun a b h => h.mono fun e he => ?_⟩
      · rcases hj with h | h
        · exact .inl (by rw [List.getElem?_eraseIdx_of_lt hlt, h])
        · exact .inr (by rw [List.getElem?_eraseIdx_of_lt hlt, h])
      · rw [List.mem_eraseIdx_iff_getElem?] at he ⊢
        obtain ⟨k, h1, h2⟩ := he
        rw [List.getElem?_eraseIdx] at h2
        split at h2
        · exact ⟨k, h1, h2⟩
        · exact ⟨k + 1, by omega, h2⟩
    · refine ⟨j - 1, ?_, fun a b h => h.mono fun e he => ?_⟩
      · have e : j - 1 + 1 = j := by omega
        rcases hj with h | h
        · exact .inl (by rw [List.getElem?_eraseIdx_of_ge (by omega), e, h])
        · exact .inr (by rw [List.getElem?_eraseIdx_of_ge (by omega), e, h])
      · rw [List.mem_eraseIdx_iff_getElem?] at he ⊢
        obtain ⟨k, h1, h2⟩ := he
        rw [List.getElem?_eraseIdx] at h2
        split at h2
        · exact ⟨k, by omega, h2⟩
        · exact ⟨k + 1, by omega, h2⟩
  obtain ⟨k, hk, hsub⟩ := hj'
  have hxi : cO (l.eraseIdx j) x y := hi.conn_erase hij
  rcases aK7 hk hy with h | ⟨_, h⟩ | ⟨_, h⟩
  · exact bj.2 (hxi.trans (hsub _ _ h))
  · 
    rename_i h0
    exact hf.bridge hr hi (h0.mono fun e he => List.mem_of_mem_eraseIdx he).symm
  · exact bj.2 (hsub _ _ h)
theorem aYd (hr : InR n l) (hf : dN n l) {x v y : Int} {i : Nat} (hi : Tch l i x y) (bi : ¬ Br l x v i) (j : Nat) : Br l y v j ↔ Br l x v j ∨ j = i := by
  have hx : cO (l.eraseIdx i) x v := Classical.byContradiction fun c => bi ⟨hi.lt, c⟩
  by_cases h : j = i
  · subst h
    exact ⟨fun _ => .inr rfl, fun _ => ⟨hi.lt, fun c => hf.bridge hr hi (hx.trans c.symm)⟩⟩
  · have hxy : cO (l.eraseIdx j) x y := hi.conn_erase (fun k => h k.symm)
    exact ⟨fun k => .inl ⟨k.1, fun c => k.2 (hxy.symm.trans c)⟩, fun k => (k.resolve_right h).elim fun k1 k2 => ⟨k1, fun c => k2 (hxy.trans c)⟩⟩
theorem aPs {v : Int} (j : Nat) : ¬ Br l v v j := fun h => h.2 (.refl _)
end Go.Pt
