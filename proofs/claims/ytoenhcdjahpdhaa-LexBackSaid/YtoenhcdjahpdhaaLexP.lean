/- Base 16 and numbers' words: what lex and the reference compute. -/
import Derived.Test.YtoenhcdjahpdhaaLexW
import Derived.Test.YtoenhcdjahpdhaaPl
set_option linter.unusedVariables false
set_option linter.unusedSimpArgs false
set_option maxRecDepth 20000
set_option maxHeartbeats 1000000
namespace Go.Proofs.Ytoenhcdjahpdhaa
open Go Go.AM Go.Pl

theorem gopt_true {α : Type} {d : α} {o : Option α} : gopt true d o = o := rfl
theorem gopt_false {α : Type} {d : α} {o : Option α} : gopt false d o = some d := rfl
theorem bs {α β : Type} (x : α) (f : α → Option β) : (some x).bind f = f x := (Option.bind_some x f).trans (Eq.refl _)
theorem gt_ {α : Type} {d : α} {o : Option α} : gopt true d o = o := (gopt_true (d := d) (o := o)).trans (Eq.refl _)
theorem gf_ {α : Type} {d : α} {o : Option α} : gopt false d o = some d := (gopt_false (d := d) (o := o)).trans (Eq.refl _)
theorem FUEL_big : FUEL = 1000000000000 := rfl
theorem inc (i : Nat) (h : i ≤ 1000000000) : IntKind.i64.wrap ((i : Int) + 1) = ((i + 1 : Nat) : Int) := by rw [wr_i64 (by omega) (by omega)]; omega
theorem lt_t {i m : Nat} (h : i < m) : decide (((i : Nat) : Int) < ((m : Nat) : Int)) = true := by simp <;> omega
theorem lt_f {i m : Nat} (h : ¬ i < m) : decide (((i : Nat) : Int) < ((m : Nat) : Int)) = false := by simp <;> omega
theorem lawake_ok : lexAwake_m = some true := by decide +kernel

def ib (s : ByteArray) : List Int := (bys s 0).map (fun n : Nat => (n : Int))
def BB (l : List Int) : Prop := ∀ x, x ∈ l → 0 ≤ x ∧ x < 256
theorem BB.app {a b : List Int} (ha : BB a) (hb : BB b) : BB (a ++ b) := fun x hx => (List.mem_append.mp hx).elim (ha x) (hb x)
theorem BB.tail {a : Int} {b : List Int} (h : BB (a :: b)) : BB b := fun x hx => h x (List.mem_cons_of_mem _ hx)
theorem ib_len (s : ByteArray) : (ib s).length = s.size := by unfold ib; rw [List.length_map, bys_length]
theorem ib_bb (s : ByteArray) : BB (ib s) := by
  intro x hx
  simp only [ib, bys, List.mem_map] at hx
  obtain ⟨n, ⟨b, _, rfl⟩, rfl⟩ := hx
  have := UInt8.toNat_lt b
  omega
theorem sidx_ib (s : ByteArray) (i : Nat) : sidx s i = (ib s)[i]? := by
  unfold sidx ib
  rw [List.getElem?_map]
  by_cases h : i < s.size
  · rw [if_pos (by omega), bys_get s i h, Int.toNat_natCast]; rfl
  · rw [if_neg (by omega), List.getElem?_eq_none (by rw [bys_length]; omega)]; rfl
theorem bstr_ib (s : ByteArray) : bstr (ib s) = s := by
  unfold bstr ib bys
  apply ByteArray.ext
  simp only [List.drop_zero, List.map_map]
  have : ((fun n : Int => UInt8.ofNat n.toNat) ∘ (fun n : Nat => (n : Int))) ∘ UInt8.toNat = id := by
    funext b; simp
  rw [← List.map_map, ← List.map_map, List.map_map, List.map_map, this]; simp
theorem ib_bstr {l : List Int} (h : BB l) : ib (bstr l) = l := by
  unfold bstr ib bys
  simp only [List.drop_zero]
  induction l with
  | nil => rfl
  | cons a l ih =>
    simp only [List.map_cons] at ih ⊢
    rw [ih h.tail]
    have := h a List.mem_cons_self
    congr 1
    simp [UInt8.toNat_ofNat']; omega
theorem ib_inj {s t : ByteArray} (h : ib s = ib t) : s = t := by rw [← bstr_ib s, ← bstr_ib t, h]
theorem bstr_app (a b : List Int) : bstr (a ++ b) = bstr a ++ bstr b := by
  unfold bstr
  apply ByteArray.ext
  simp
theorem bstr_size (a : List Int) : (bstr a).size = a.length := by simp [bstr, ByteArray.size]
theorem ib_app (s t : ByteArray) : ib (s ++ t) = ib s ++ ib t := by
  rw [← ib_bstr ((ib_bb s).app (ib_bb t)), bstr_app, bstr_ib, bstr_ib]
theorem sadd_ok {s t : ByteArray} (h : s.size + t.size ≤ 9223372036854775807) : sadd s t = some (s ++ t) := by simp [sadd, h]
theorem app_ok {α : Type} (l xs : List α) (h : l.length + xs.length ≤ 4294967296) : app l xs = some (l ++ xs) := by simp [app, h]
theorem empty_iff (s : ByteArray) : s = ⟨#[]⟩ ↔ ib s = [] := ⟨fun h => by subst h; rfl, fun h => ib_inj (by rw [h]; rfl)⟩

def hd (n : Int) : Int := if n < 10 then 48 + n else 87 + n
def hx (b : Int) : List Int := [hd (b / 16), hd (b % 16)]
def uh (c : Int) : Int := if 48 ≤ c ∧ c ≤ 57 then c - 48 else if 97 ≤ c ∧ c ≤ 102 then c - 87 else -1
def digs : ByteArray := ⟨#[48, 49, 50, 51, 52, 53, 54, 55, 56, 57, 97, 98, 99, 100, 101, 102]⟩
theorem digF : ∀ b : Fin 256, sidx digs (shr .u8 (b.val : Nat) 4) = some (hd (((b.val : Nat) : Int) / 16)) ∧ sidx digs (band .u8 (b.val : Nat) 15) = some (hd (((b.val : Nat) : Int) % 16)) ∧ IntKind.u8.wrap (Int.tdiv (b.val : Nat) 16) = ((b.val : Nat) : Int) / 16 ∧ Int.tmod (b.val : Nat) 16 = ((b.val : Nat) : Int) % 16 := by decide +kernel
theorem dig_at {b : Int} (h : 0 ≤ b ∧ b < 256) : sidx digs (shr .u8 b 4) = some (hd (b / 16)) ∧ sidx digs (band .u8 b 15) = some (hd (b % 16)) ∧ IntKind.u8.wrap (Int.tdiv b 16) = b / 16 ∧ Int.tmod b 16 = b % 16 := by
  have := digF ⟨b.toNat, by omega⟩
  simp only [Int.toNat_of_nonneg h.1] at this
  exact this
theorem digitF : ∀ b : Fin 16, sidx digs ((b.val : Nat) : Int) = some (hd (b.val : Nat)) := by decide +kernel
theorem digit_ok {b : Int} (h : 0 ≤ b ∧ b < 16) : refDigit_m b = some (bstr [hd b]) := by
  have := digitF ⟨b.toNat, by omega⟩
  simp only [Int.toNat_of_nonneg h.1] at this
  unfold refDigit_m
  rw [show (⟨#[48, 49, 50, 51, 52, 53, 54, 55, 56, 57, 97, 98, 99, 100, 101, 102]⟩ : ByteArray) = digs from rfl, this, bs]
theorem uhF : ∀ c : Fin 256, indexByte_m digs ((c.val : Nat) : Int) = some (uh (c.val : Nat)) := by decide +kernel
theorem idx_uh {c : Int} (h : 0 ≤ c ∧ c < 256) : indexByte_m digs c = some (uh c) := by
  have := uhF ⟨c.toNat, by omega⟩
  simp only [Int.toNat_of_nonneg h.1] at this
  exact this
theorem uh_lt (c : Int) : -1 ≤ uh c ∧ uh c < 16 := by unfold uh; split <;> (try split) <;> omega
theorem hd_uh {c : Int} (h : 0 ≤ uh c) : hd (uh c) = c := by
  unfold uh at h ⊢; unfold hd; split <;> (try split) <;> (try split) <;> omega
theorem uh_hd {n : Int} (h : 0 ≤ n ∧ n < 16) : uh (hd n) = n := by
  unfold uh hd; split <;> (try split) <;> (try split) <;> omega
theorem hd_bb {n : Int} (h : 0 ≤ n ∧ n < 16) : 0 ≤ hd n ∧ hd n < 256 := by unfold hd; split <;> omega
theorem hx_bb {l : List Int} (h : BB l) : BB (l.flatMap hx) := by
  intro x hx'
  obtain ⟨b, hb, hxx⟩ := List.mem_flatMap.mp hx'
  have := h b hb
  simp only [hx, List.mem_cons, List.not_mem_nil, or_false] at hxx
  rcases hxx with rfl | rfl <;> exact hd_bb (by omega)
theorem hx_len (l : List Int) : (l.flatMap hx).length = 2 * l.length := by
  induction l with
  | nil => rfl
  | cons a l ih => rw [List.flatMap_cons, List.length_append, ih, List.length_cons]; simp [hx]; omega
theorem take_snoc {l : List Int} {i : Nat} {b : Int} (h : l[i]? = some b) : (l.take (i + 1)).flatMap hx = (l.take i).flatMap hx ++ hx b := by
  rw [List.take_add_one, h, Option.toList_some, List.flatMap_append]; simp
theorem get_some {l : List Int} {i : Nat} (h : i < l.length) : ∃ b, l[i]? = some b ∧ b ∈ l := ⟨l[i], List.getElem?_eq_getElem h, List.getElem_mem h⟩
theorem hexL (s : ByteArray) (hs : s.size ≤ 1000) : ∀ (f i : Nat), s.size - i < f → i ≤ s.size → lexHex_L1 f s (((ib s).take i).flatMap hx) i = some (bstr ((ib s).flatMap hx))
  | 0, i, h, _ => by omega
  | f + 1, i, h, hi => by
    show lexHex_B1 (lexHex_L1 f) s (((ib s).take i).flatMap hx) i = _
    unfold lexHex_B1
    by_cases c : i < s.size
    · obtain ⟨b, hb, hm⟩ := get_some (l := ib s) (i := i) (by rw [ib_len]; exact c)
      obtain ⟨d1, d2, _, _⟩ := dig_at (ib_bb s b hm)
      unfold digs at d1 d2
      rw [lt_t c, cond_true, sidx_ib, hb, bs, d1, bs, bs, d2, bs, app_ok _ _ (by rw [hx_len, List.length_take]; simp; omega), bs, inc i (by omega)]
      rw [show [hd (b / 16), hd (b % 16)] = hx b from rfl, ← take_snoc hb]
      exact hexL s hs f (i + 1) (by omega) (by omega)
    · rw [lt_f c, cond_false]
      rw [List.take_of_length_le (by rw [ib_len]; omega)]
theorem hex_ok (s : ByteArray) (hs : s.size ≤ 1000) : lexHex_m s = some (bstr ((ib s).flatMap hx)) := by
  unfold lexHex_m
  have : mkc (0 : Int) (IntKind.i64.wrap (2 * (s.size : Int))) (0 : Int) = some [] := by
    rw [wr_i64 (by omega) (by omega)]; unfold mkc; rw [if_pos (by omega)]; rfl
  rw [this, bs]
  exact hexL s hs FUEL 0 (by rw [FUEL_big]; omega) (by omega)
theorem rhexL (s : ByteArray) (hs : s.size ≤ 1000) : ∀ (f i : Nat), s.size - i < f → i ≤ s.size → refHex_L1 f s (bstr (((ib s).take i).flatMap hx)) i = some (bstr ((ib s).flatMap hx))
  | 0, i, h, _ => by omega
  | f + 1, i, h, hi => by
    show refHex_B1 (refHex_L1 f) s (bstr (((ib s).take i).flatMap hx)) i = _
    unfold refHex_B1
    by_cases c : i < s.size
    · obtain ⟨b, hb, hm⟩ := get_some (l := ib s) (i := i) (by rw [ib_len]; exact c)
      have hr := ib_bb s b hm
      obtain ⟨_, _, d1, d2⟩ := dig_at hr
      have hl : (bstr (((ib s).take i).flatMap hx)).size ≤ 2000 := by rw [bstr_size, hx_len, List.length_take]; omega
      have h1 : (bstr [hd (b / 16)]).size = 1 := rfl
      have h2 : (bstr [hd (b % 16)]).size = 1 := rfl
      rw [lt_t c, cond_true, sidx_ib, hb]
      simp only [bs]
      rw [d1, d2, digit_ok (by omega), bs, sadd_ok (by omega), bs, digit_ok (by omega), bs, sadd_ok (by rw [ByteArray.size_append]; omega), bs, inc i (by omega), ← bstr_app, ← bstr_app, List.append_assoc]
      rw [show [hd (b / 16)] ++ [hd (b % 16)] = hx b from rfl, ← take_snoc hb]
      exact rhexL s hs f (i + 1) (by omega) (by omega)
    · rw [lt_f c, cond_false]
      rw [List.take_of_length_le (by rw [ib_len]; omega)]
theorem rhex_ok (s : ByteArray) (hs : s.size ≤ 1000) : refHex_m s = some (bstr ((ib s).flatMap hx)) := rhexL s hs FUEL 0 (by rw [FUEL_big]; omega) (by omega)
def unL : List Int → Option (List Int)
  | [] => some []
  | [_] => none
  | a :: b :: l => if 0 ≤ uh a ∧ 0 ≤ uh b then (unL l).map (fun x => (uh a * 16 + uh b) :: x) else none
theorem unL_back : ∀ {l x : List Int}, unL l = some x → x.flatMap hx = l ∧ BB x
  | [], x, h => by cases h; exact ⟨rfl, fun y hy => by simp at hy⟩
  | [a], x, h => by cases h
  | a :: b :: l, x, h => by
    unfold unL at h
    by_cases c : 0 ≤ uh a ∧ 0 ≤ uh b
    · rw [if_pos c, Option.map_eq_some_iff] at h
      obtain ⟨y, hy, rfl⟩ := h
      obtain ⟨i1, i2⟩ := unL_back hy
      have u1 := uh_lt a
      have u2 := uh_lt b
      constructor
      · rw [List.flatMap_cons, i1, hx, show (uh a * 16 + uh b) / 16 = uh a by omega, show (uh a * 16 + uh b) % 16 = uh b by omega, hd_uh c.1, hd_uh c.2]; rfl
      · intro z hz
        rcases List.mem_cons.mp hz with rfl | hz
        · omega
        · exact i2 z hz
    · rw [if_neg c] at h; cases h
theorem unL_hx : ∀ {l : List Int}, BB l → unL (l.flatMap hx) = some l
  | [], _ => rfl
  | a :: l, h => by
    have ha := h a List.mem_cons_self
    rw [List.flatMap_cons, hx]
    show unL (hd (a / 16) :: hd (a % 16) :: l.flatMap hx) = _
    unfold unL
    rw [uh_hd (by omega), uh_hd (by omega), if_pos (by omega), unL_hx h.tail]
    simp <;> omega
theorem unL_odd : ∀ {l : List Int}, l.length % 2 = 1 → unL l = none
  | [], h => by simp at h
  | [a], h => rfl
  | a :: b :: l, h => by
    unfold unL
    rw [unL_odd (l := l) (by simp at h; omega)]
    split <;> rfl
theorem drop2 {l : List Int} {i : Nat} (h : i + 1 < l.length) : ∃ a b, l[i]? = some a ∧ l[i + 1]? = some b ∧ a ∈ l ∧ b ∈ l ∧ l.drop i = a :: b :: l.drop (i + 2) :=
  ⟨l[i], l[i + 1], List.getElem?_eq_getElem (by omega), List.getElem?_eq_getElem h, List.getElem_mem .., List.getElem_mem .., by rw [List.drop_eq_getElem_cons (by omega), List.drop_eq_getElem_cons h]⟩
theorem packF : ∀ a b : Fin 16, IntKind.u8.wrap (bor .i64 (shl .i64 ((a.val : Nat) : Int) 4) ((b.val : Nat) : Int)) = ((a.val : Nat) : Int) * 16 + ((b.val : Nat) : Int) := by decide +kernel
theorem pack {a b : Int} (ha : 0 ≤ a ∧ a < 16) (hb : 0 ≤ b ∧ b < 16) : IntKind.u8.wrap (bor .i64 (shl .i64 a 4) b) = a * 16 + b := by
  have := packF ⟨a.toNat, by omega⟩ ⟨b.toNat, by omega⟩
  simp only [Int.toNat_of_nonneg ha.1, Int.toNat_of_nonneg hb.1] at this
  exact this
theorem unhexL (w : ByteArray) (hw : w.size ≤ 100000) (he : w.size % 2 = 0) : ∀ (f i : Nat) (o : List Int), w.size - i < f → i ≤ w.size → i % 2 = 0 → o.length = i / 2 →
    lexUnhex_L1 f w o i = some (match unL ((ib w).drop i) with | some l => (bstr (o ++ l), 0) | none => (⟨#[]⟩, 2))
  | 0, i, o, h, _, _, _ => by omega
  | f + 1, i, o, h, hi, hp, ho => by
    show lexUnhex_B1 (lexUnhex_L1 f) w o i = _
    unfold lexUnhex_B1
    by_cases c : i < w.size
    · obtain ⟨a, b, h1, h2, m1, m2, hd_⟩ := drop2 (l := ib w) (i := i) (by rw [ib_len]; omega)
      have e1 := idx_uh (ib_bb w a m1)
      have e2 := idx_uh (ib_bb w b m2)
      unfold digs at e1 e2
      rw [lt_t c, cond_true, sidx_ib, h1, bs, e1, bs, inc i (by omega), sidx_ib, h2, bs, e2, bs, hd_]
      unfold unL
      have u1 := uh_lt a
      have u2 := uh_lt b
      by_cases g : 0 ≤ uh a ∧ 0 ≤ uh b
      · rw [decide_eq_false (show ¬ uh a < 0 by omega), decide_eq_false (show ¬ uh b < 0 by omega), Bool.or_self, cond_false, pack ⟨g.1, u1.2⟩ ⟨g.2, u2.2⟩, app_ok _ _ (by simp; omega), bs, if_pos g]
        rw [show IntKind.i64.wrap ((i : Int) + 2) = ((i + 2 : Nat) : Int) by rw [wr_i64 (by omega) (by omega)]; omega]
        rw [unhexL w hw he f (i + 2) _ (by omega) (by omega) (by omega) (by simp; omega)]
        cases unL ((ib w).drop (i + 2)) with
        | none => rfl
        | some l => simp
      · rw [if_neg g]
        have : (decide (uh a < 0) || decide (uh b < 0)) = true := by simp; omega
        rw [this, cond_true]
    · rw [lt_f c, cond_false, List.drop_eq_nil_of_le (by rw [ib_len]; omega)]
      simp [unL]
theorem unhex_ok (w : ByteArray) (hw : w.size ≤ 100000) : lexUnhex_m w = some (match unL (ib w) with | some l => (bstr l, 0) | none => (⟨#[]⟩, 2)) := by
  unfold lexUnhex_m
  by_cases h : w.size % 2 = 0
  · have e1 : (Int.tmod (w.size : Int) 2 != 0) = false := by
      rw [Int.tmod_eq_emod_of_nonneg (by omega)]; simp; omega
    have e2 : mkc (0 : Int) (IntKind.i64.wrap (Int.tdiv (w.size : Int) 2)) (0 : Int) = some [] := by
      rw [Int.tdiv_eq_ediv_of_nonneg (by omega), wr_i64 (by omega) (by omega)]; unfold mkc; rw [if_pos (by omega)]; rfl
    rw [e1, cond_false, e2, bs]
    have := unhexL w hw h FUEL 0 [] (by rw [FUEL_big]; omega) (by omega) rfl rfl
    rw [List.drop_zero] at this
    exact this
  · have e1 : (Int.tmod (w.size : Int) 2 != 0) = true := by
      rw [Int.tmod_eq_emod_of_nonneg (by omega)]; simp; omega
    rw [e1, cond_true, unL_odd (by rw [ib_len]; omega)]
theorem valueF : ∀ c : Fin 256, refValue_m ((c.val : Nat) : Int) = some (if uh (c.val : Nat) < 0 then 16 else uh (c.val : Nat)) := by decide +kernel
theorem value_ok {c : Int} (h : 0 ≤ c ∧ c < 256) : refValue_m c = some (if uh c < 0 then 16 else uh c) := by
  have := valueF ⟨c.toNat, by omega⟩
  simp only [Int.toNat_of_nonneg h.1] at this
  exact this
end Go.Proofs.Ytoenhcdjahpdhaa
