/- Facts that the statement's proof is made of. No condition. -/
import Derived.Test.YtkdohhmacfoolaaGreatNbTiR
set_option linter.unusedVariables false
set_option linter.unusedSimpArgs false
set_option maxRecDepth 20000
set_option maxHeartbeats 1000000
namespace Go.Proofs.YtkdohhmacfoolaaGreat
open Go Go.AM Go.Pl Go.Pt
def aAz (l : List aC) (x : aC) (l' : List aC) : Prop := ∃ q, q ≤ l.length ∧ l' = l.take q ++ x :: l.drop q ∧ (∀ j e, j < q → l[j]? = some e → aB7 e x = true) ∧ ∀ e, l[q]? = some e → aB7 e x = false
theorem aAz.uniq {l : List aC} {x : aC} {a b : List aC} (h : aAz l x a) (k : aAz l x b) : a = b := by
  obtain ⟨q, h1, rfl, h3, h4⟩ := h
  obtain ⟨r, k1, rfl, k3, k4⟩ := k
  have : q = r := by
    rcases Nat.lt_trichotomy q r with c | c | c
    · have hq : q < l.length := by omega
      have a1 := k3 q _ c (List.getElem?_eq_getElem hq)
      have a2 := h4 _ (List.getElem?_eq_getElem hq)
      rw [a1] at a2; cases a2
    · exact c
    · have hq : r < l.length := by omega
      have a1 := h3 r _ c (List.getElem?_eq_getElem hq)
      have a2 := k4 _ (List.getElem?_eq_getElem hq)
      rw [a1] at a2; cases a2
  subst this; rfl
def edg (u v : Int) : aC := ⟨if v < u then v else u, if u < v then v else u, 0⟩
def vtx (n u v : Int) : Prop := 0 ≤ u ∧ u < n ∧ 0 ≤ v ∧ v < n
instance (n u v : Int) : Decidable (vtx n u v) := by unfold vtx; infer_instance
def bAd (n : Int) (l : List aC) (u v : Int) (r : List aC × Int) : Prop :=
  (¬ vtx n u v ∧ r = (l, 1)) ∨ (vtx n u v ∧ u = v ∧ r = (l, 8)) ∨ (vtx n u v ∧ u ≠ v ∧ (∃ e, e ∈ l ∧ aP6 u v e = true) ∧ r = (l, 4)) ∨ (vtx n u v ∧ u ≠ v ∧ (∀ e, e ∈ l → aP6 u v e = false) ∧ ∃ l', aAz l (edg u v) l' ∧ r = (l', 0))
theorem bAd.uniq {n : Int} {l : List aC} {u v : Int} {a b : List aC × Int} (h : bAd n l u v a) (k : bAd n l u v b) : a = b := by
  rcases h with ⟨h1, rfl⟩ | ⟨h1, h2, rfl⟩ | ⟨h1, h2, ⟨e, h3, h4⟩, rfl⟩ | ⟨h1, h2, h3, x, h4, rfl⟩ <;> rcases k with ⟨k1, rfl⟩ | ⟨k1, k2, rfl⟩ | ⟨k1, k2, ⟨f, k3, k4⟩, rfl⟩ | ⟨k1, k2, k3, y, k4, rfl⟩ <;> first | rfl | (exfalso; contradiction) | skip
  · have := k3 e h3; rw [h4] at this; cases this
  · have := h3 f k3; rw [k4] at this; cases this
  · rw [h4.uniq k4]
def bAn (n : Int) (l : List aC) (u v : Int) (r : List aC × Int) : Prop :=
  (¬ vtx n u v ∧ r = (l, 1)) ∨ (vtx n u v ∧ fnd (aP6 u v) l 0 = none ∧ r = (l, 9)) ∨ (vtx n u v ∧ ∃ k, fnd (aP6 u v) l 0 = some k ∧ r = (l.take k ++ l.drop (k + 1), 0))
theorem bAn.uniq {n : Int} {l : List aC} {u v : Int} {a b : List aC × Int} (h : bAn n l u v a) (k : bAn n l u v b) : a = b := by
  rcases h with ⟨h1, rfl⟩ | ⟨h1, h2, rfl⟩ | ⟨h1, i, h2, rfl⟩ <;> rcases k with ⟨k1, rfl⟩ | ⟨k1, k2, rfl⟩ | ⟨k1, j, k2, rfl⟩ <;> first | rfl | (exfalso; contradiction) | skip
  · rw [h2] at k2; cases k2
  · rw [h2] at k2; cases k2
  · rw [h2] at k2; cases k2; rfl
theorem zD (a b : List aC) : en (a ++ b) = en a ++ en b := by unfold en; rw [List.map_append]
theorem aAz.en {l : List aC} {x : aC} {l' : List aC} (h : aAz l x l') : ∃ A B, en l = A ++ B ∧ en l' = A ++ (x.U, x.V) :: B := by
  obtain ⟨q, h1, rfl, _⟩ := h
  refine ⟨Go.Proofs.YtkdohhmacfoolaaGreat.en (l.take q), Go.Proofs.YtkdohhmacfoolaaGreat.en (l.drop q), ?_, ?_⟩
  · rw [← zD, List.take_append_drop]
  · rw [zD, aB8]
theorem aAz.fo {l : List aC} {x : aC} {l' : List aC} (h : aAz l x l') (hx : x.Tier = 0) (k : Int) : fo l' k = fo l k := by
  obtain ⟨q, h1, rfl, _⟩ := h
  unfold Go.Proofs.YtkdohhmacfoolaaGreat.fo
  rw [List.filter_append, List.filter_cons_of_neg (by rw [zG]; omega), ← List.filter_append, List.take_append_drop]
theorem aAz.len {l : List aC} {x : aC} {l' : List aC} (h : aAz l x l') : l'.length = l.length + 1 := by
  obtain ⟨q, h1, rfl, _⟩ := h
  simp; omega
theorem aAz.mem {l : List aC} {x : aC} {l' : List aC} (h : aAz l x l') (e : aC) : e ∈ l' ↔ e ∈ l ∨ e = x := by
  obtain ⟨q, h1, rfl, _⟩ := h
  conv => rhs; rw [← List.take_append_drop q l]
  simp only [List.mem_append, List.mem_cons]
  constructor
  · rintro (h | h | h)
    · exact .inl (.inl h)
    · exact .inr h
    · exact .inl (.inr h)
  · rintro ((h | h) | h)
    · exact .inl h
    · exact .inr (.inr h)
    · exact .inr (.inl h)
theorem aAz.tb {n : Int} {l : List aC} {x : aC} {l' : List aC} (h : aAz l x l') (t : Tb n l) (ok : okE n x = true) (hno : ∀ e, e ∈ l → ¬ (e.U = x.U ∧ e.V = x.V)) : Tb n l' := by
  refine ⟨?_, fun e he => ?_⟩
  · obtain ⟨q, h1, rfl, h3, h4⟩ := h
    have pw := t.pw
    have hsplit : Go.Proofs.YtkdohhmacfoolaaGreat.en l = Go.Proofs.YtkdohhmacfoolaaGreat.en (l.take q) ++ Go.Proofs.YtkdohhmacfoolaaGreat.en (l.drop q) := by rw [← zD, List.take_append_drop]
    rw [hsplit, List.pairwise_append] at pw
    rw [zD, aB8, List.pairwise_append, List.pairwise_cons]
    have lo : ∀ a, a ∈ Go.Proofs.YtkdohhmacfoolaaGreat.en (l.take q) → ltE a (x.U, x.V) := fun a ha => by
      obtain ⟨e, he, rfl⟩ := wI.1 ha
      obtain ⟨j, hj⟩ := List.getElem?_of_mem he
      have hjq : j < q := by have := (List.getElem?_eq_some_iff.1 hj).1; rw [List.length_take] at this; omega
      rw [List.getElem?_take_of_lt hjq] at hj
      exact uX.1 (h3 j e hjq hj)
    have hi : ∀ b, b ∈ Go.Proofs.YtkdohhmacfoolaaGreat.en (l.drop q) → ltE (x.U, x.V) b := fun b hb => by
      obtain ⟨e, he, rfl⟩ := wI.1 hb
      have hne := hno e (List.mem_of_mem_drop he)
      have hnl : ¬ ltE (e.U, e.V) (x.U, x.V) := by
        obtain ⟨j, hj⟩ := List.getElem?_of_mem he
        rw [List.getElem?_drop] at hj
        cases j with
        | zero =>
          intro k
          have := h4 e hj
          rw [uX.2 k] at this; cases this
        | succ j =>
          have hq : q < l.length := by have := (List.getElem?_eq_some_iff.1 hj).1; omega
          have h5 := h4 _ (List.getElem?_eq_getElem hq)
          have h6 : ltE (l[q].U, l[q].V) (e.U, e.V) := by
            have pw0 := t.pw
            rw [List.pairwise_iff_getElem] at pw0
            have hj2 := (List.getElem?_eq_some_iff.1 hj)
            have := pw0 q (q + (j + 1)) (by rw [aN4]; exact hq) (by rw [aN4]; exact hj2.1) (by omega)
            unfold Go.Proofs.YtkdohhmacfoolaaGreat.en at this
            rw [List.getElem_map, List.getElem_map, hj2.2] at this
            exact this
          intro k
          have := uX.2 (zC h6 k)
          rw [h5] at this; cases this
      unfold ltE at *
      simp only at *
      omega
    exact ⟨pw.1, ⟨hi, pw.2.1⟩, fun a ha b hb => by
      rcases List.mem_cons.1 hb with e | e
      · rw [e]; exact lo a ha
      · exact zC (lo a ha) (hi b e)⟩
  · rcases (h.mem e).1 he with q | q
    · exact t.ok e q
    · rw [q]; exact ok
end Go.Proofs.YtkdohhmacfoolaaGreat
