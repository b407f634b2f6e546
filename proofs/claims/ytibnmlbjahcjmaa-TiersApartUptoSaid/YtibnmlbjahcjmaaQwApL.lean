/- Facts that the statement's proof is made of. No condition. -/
import Derived.Test.YtibnmlbjahcjmaaQwRuU
import Derived.Test.YtibnmlbjahcjmaaQwGD1
set_option linter.unusedVariables false
set_option linter.unusedSectionVars false
set_option linter.unusedSimpArgs false
set_option maxRecDepth 20000
set_option maxHeartbeats 1000000
namespace Go.Proofs.Ytibnmlbjahcjmaa
open Go Go.AM Go.Pl Go.Pt
theorem rem_mem {g : GGraph} (h : GD g) {u v : Int} {k : Nat} (hk : fnd (fEnds u v) g.Edges 0 = some k) : ∃ e, g.Edges[k]? = some e ∧ ∀ y, y ∈ g.Edges.take k ++ g.Edges.drop (k + 1) ↔ y ∈ g.Edges ∧ (y.U, y.V) ≠ (e.U, e.V) := by
  have kk := gok h.ok
  obtain ⟨e, r1, r2, r3⟩ := rem_parts hk
  have nd := kk.gc.ti.tb.nodup
  have ea : en g.Edges = en (g.Edges.take k) ++ (e.U, e.V) :: en (g.Edges.drop (k + 1)) := by
    conv => lhs; rw [r3]
    rw [en_append]; rfl
  have hno : (e.U, e.V) ∉ en (g.Edges.take k ++ g.Edges.drop (k + 1)) := by
    rw [en_append]
    rw [ea] at nd
    have := List.nodup_append.1 nd
    rw [List.mem_append]
    rintro (a | a)
    · exact this.2.2 _ a _ (List.mem_cons_self ..) rfl
    · exact (List.nodup_cons.1 this.2.1).1 a
  refine ⟨e, r1, fun y => ⟨fun hy => ⟨?_, fun q => hno (by rw [← q]; exact mem_en.2 ⟨y, hy, rfl⟩)⟩, fun hy => ?_⟩⟩
  · rw [r3]
    simp only [List.mem_append, List.mem_cons] at hy ⊢
    rcases hy with a | a
    · exact .inl a
    · exact .inr (.inr a)
  · have := hy.1
    rw [r3] at this
    simp only [List.mem_append, List.mem_cons] at this ⊢
    rcases this with a | a | a
    · exact .inl a
    · exact absurd (by rw [a]) hy.2
    · exact .inr a
theorem fEnds_en {u v : Int} {l m : List GEdge} (h : en l = en m) (q : ∃ e, e ∈ l ∧ fEnds u v e = true) : ∃ e, e ∈ m ∧ fEnds u v e = true := by
  obtain ⟨e, e1, e2⟩ := q
  have : (e.U, e.V) ∈ en m := by rw [← h]; exact mem_en.2 ⟨e, e1, rfl⟩
  obtain ⟨f, f1, f2⟩ := mem_en.1 this
  injection f2 with f2 f3
  refine ⟨f, f1, ?_⟩
  unfold fEnds at e2 ⊢
  rw [f2, f3]; exact e2
section
variable {K u v : Int} {g h : GGraph} {r s : GGraph × Int} (a : Apt K g h) (hg : GD g) (hh : GD h) (hK : K ≤ g.Config.L)
include a hg hh hK
theorem ins_apt (i : InsO g u v r) (j : InsO h u v s) : Apt K r.1 s.1 := by
  have cN : h.Config.N = g.Config.N := by rw [a.c]
  unfold InsO at j
  rw [cN] at j
  rcases i with ⟨h1, rfl⟩ | ⟨h1, h2, rfl⟩ | ⟨h1, h2, h3, rfl⟩ | ⟨h1, h2, h3, l', g2, h4, hg', h5, h6, rfl⟩ <;> rcases j with ⟨k1, rfl⟩ | ⟨k1, k2, rfl⟩ | ⟨k1, k2, k3, rfl⟩ | ⟨k1, k2, k3, m', g3, k4, kg', k5, k6, rfl⟩ <;> first | (exfalso; contradiction) | skip
  · exact a
  · exact a
  · exact a
  · obtain ⟨e, e1, e2⟩ := fEnds_en a.e.symm h3
    rw [k3 e e1] at e2; cases e2
  · obtain ⟨e, e1, e2⟩ := fEnds_en a.e k3
    rw [h3 e e1] at e2; cases e2
  · have e1 := h4.bar rfl
    have e2 := k4.bar rfl
    rw [bar_en a.e] at e2
    have e3 : l'.map bar = m'.map bar := e1.uniq e2
    have e4 : en m' = en l' := by rw [← en_bar m', ← e3, en_bar]
    have a2 : Apt K ⟨g.Config, g.Hashes, l'⟩ ⟨h.Config, h.Hashes, m'⟩ := ⟨a.c, e4, by
      show fo m' K = fo l' K
      rw [h4.fo rfl, k4.fo rfl]; exact a.f, a.s⟩
    exact Apt.mends h5 a2 (gok hg'.ok).gc (gok kg'.ok).gc hK (Int.le_refl _) k5
theorem del_apt (i : DelO g u v r) (j : DelO h u v s) : Apt K r.1 s.1 := by
  have cN : h.Config.N = g.Config.N := by rw [a.c]
  have ef : fnd (fEnds u v) h.Edges 0 = fnd (fEnds u v) g.Edges 0 := by rw [← fnd_bar u v h.Edges, bar_en a.e, fnd_bar]
  unfold DelO at j
  rw [cN, ef] at j
  rcases i with ⟨h1, rfl⟩ | ⟨h1, h2, rfl⟩ | ⟨h1, k, g2, h2, hg', h5, h6, rfl⟩ <;> rcases j with ⟨k1, rfl⟩ | ⟨k1, k2, rfl⟩ | ⟨k1, k', g3, k2, kg', k5, k6, rfl⟩ <;> first | (exfalso; contradiction) | skip
  · exact a
  · exact a
  · rw [h2] at k2; cases k2
  · rw [h2] at k2; cases k2
  · rw [h2] at k2; cases k2
    obtain ⟨e, r1, r2⟩ := rem_mem hg h2
    obtain ⟨f, s1, s2⟩ := rem_mem hh (ef.trans h2)
    have euv : (f.U, f.V) = (e.U, e.V) := by
      have x1 : (en g.Edges)[k]? = some (e.U, e.V) := by unfold en; rw [List.getElem?_map, r1]; rfl
      have x2 : (en h.Edges)[k]? = some (f.U, f.V) := by unfold en; rw [List.getElem?_map, s1]; rfl
      rw [a.e, x1] at x2
      exact (Option.some.inj x2).symm
    have a2 : Apt K ⟨g.Config, g.Hashes, g.Edges.take k ++ g.Edges.drop (k + 1)⟩ ⟨h.Config, h.Hashes, h.Edges.take k ++ h.Edges.drop (k + 1)⟩ := ⟨a.c, by
        show en (h.Edges.take k ++ h.Edges.drop (k + 1)) = en (g.Edges.take k ++ g.Edges.drop (k + 1))
        rw [en_rem, en_rem, a.e], by
        show fo (h.Edges.take k ++ h.Edges.drop (k + 1)) K = fo (g.Edges.take k ++ g.Edges.drop (k + 1)) K
        have p1 := (gok kg'.ok).gc.ti.tb.pw
        have p2 := (gok hg'.ok).gc.ti.tb.pw
        refine tb_ext (n := g.Config.N) (p1.sublist (en_sublist (fo_sub _ _))) (p2.sublist (en_sublist (fo_sub _ _))) fun y => ?_
        rw [mem_fo_iff, mem_fo_iff, r2, s2, euv]
        have q : y ∈ fo h.Edges K ↔ y ∈ fo g.Edges K := by rw [a.f]
        rw [mem_fo_iff, mem_fo_iff] at q
        constructor
        · rintro ⟨⟨b1, b2⟩, b3⟩; exact ⟨⟨(q.1 ⟨b1, b3⟩).1, b2⟩, b3⟩
        · rintro ⟨⟨b1, b2⟩, b3⟩; exact ⟨⟨(q.2 ⟨b1, b3⟩).1, b2⟩, b3⟩, a.s⟩
    exact Apt.mends h5 a2 (gok hg'.ok).gc (gok kg'.ok).gc hK (Int.le_refl _) k5
end
theorem TiersApart_L2_eq {L : List GRaftsmanlaw15Act} (hL : L.length < 1000) {K : Int} : ∀ (m i : Nat) (g h : GGraph), L.length < i + m → i ≤ L.length → GD g → GD h → Apt K g h → K ≤ g.Config.L → g.Edges.length ≤ i → h.Edges.length ≤ i → TiersApart_L2 m g K h L (L.length : Int) (i : Int) = some true
  | 0, i, g, h, _, _, _, _, _, _, _, _ => by omega
  | m + 1, i, g, h, hm, hi, hg, hh, a, hK, e1, e2 => by
    show TiersApart_B2 (TiersApart_L2 m) _ _ _ _ _ _ = _
    unfold TiersApart_B2
    by_cases c : i < L.length
    · have go : ∀ g2 h2, ActF g g2 → ActF h h2 → Apt K g2 h2 → TiersApart_J2 (TiersApart_L2 m) g2 K h2 L (L.length : Int) (i : Int) = some true := fun g2 h2 f1 f2 a2 => by
        have l1 := f1.len
        have l2 := f2.len
        have := fo_len g2.Edges K
        unfold TiersApart_J2 TiersApart_J1
        rw [ref12Forest_eq f1.gd.e, some_bind', ref12Forest_eq f2.gd.e, some_bind', a2.f, ref03Same_eq _ _ (by omega), some_bind', decide_eq_true rfl, bf (by rfl), wr1 i (by omega)]
        exact TiersApart_L2_eq hL m (i + 1) g2 h2 (by omega) c f1.gd f2.gd a2 (by rw [f1.c]; exact hK) (by omega) (by omega)
      rw [bt (lt_t c), idx_get c, some_bind']
      cases hG : L[i].Gone with
      | true =>
        obtain ⟨⟨b, be⟩, b1, b2⟩ := tiersDelete_eq hg L[i].U L[i].V
        obtain ⟨⟨d, de⟩, d1, d2⟩ := tiersDelete_eq hh L[i].U L[i].V
        rw [bt rfl, b1, some_bind']
        simp only []
        rw [d1, some_bind']
        exact go _ _ (del_act hg b2) (del_act hh d2) (del_apt a hg hh hK b2 d2)
      | false =>
        obtain ⟨⟨b, be⟩, b1, b2⟩ := tiersInsert_eq hg (by omega) L[i].U L[i].V
        obtain ⟨⟨d, de⟩, d1, d2⟩ := tiersInsert_eq hh (by omega) L[i].U L[i].V
        rw [bf rfl, b1, some_bind']
        simp only []
        rw [d1, some_bind']
        exact go _ _ (ins_act hg b2) (ins_act hh d2) (ins_apt a hg hh hK b2 d2)
    · rw [bf (lt_f c), law15Awake_eq]; rfl
def md (x : GHash) : GHash := ⟨Int.tmod x.A 2305843009213693951, Int.tmod x.B 2305843009213693951⟩
theorem TiersApart_L1_eq (acts : List GRaftsmanlaw15Act) (c : GConfig) (n : Int) (g : GGraph) (k : Int) {o : List GHash} (hl : o.length < 1000000000) : ∀ (m i : Nat), o.length < i + m → i ≤ o.length →
    TiersApart_L1 m acts c n g k ((o.take i).map md ++ o.drop i) (o.length : Int) (i : Int) = ((tiersNew_m c (o.map md)).bind fun ⟨r30, r31⟩ => (bif (r31 != 0) then some false else ((slc acts 0 n).bind fun l33 => TiersApart_L2 FUEL g k r30 l33 (l33.length : Int) 0)))
  | 0, i, _, _ => by omega
  | m + 1, i, hm, hi => by
    show TiersApart_B1 (TiersApart_L1 m) _ _ _ _ _ _ _ _ = _
    unfold TiersApart_B1
    by_cases q : i < o.length
    · have hlen : ((o.take i).map md).length = i := by rw [List.length_map, List.length_take]; omega
      have hd : o.drop i = o[i] :: o.drop (i + 1) := drop_cons q
      have at' : ∀ y : GHash, idx ((o.take i).map md ++ y :: o.drop (i + 1)) (i : Int) = some y := fun y => by
        rw [idx_nat, List.getElem?_append_right (by omega), hlen, Nat.sub_self]; rfl
      have st : ∀ y z : GHash, stt ((o.take i).map md ++ y :: o.drop (i + 1)) (i : Int) z = some ((o.take i).map md ++ z :: o.drop (i + 1)) := fun y z => by
        rw [stt_nat (by simp; omega), List.set_append, if_neg (by omega), hlen, Nat.sub_self]; rfl
      rw [bt (lt_t q), hd, at', some_bind', some_bind', some_bind', st, some_bind', at', some_bind', st, some_bind', wr1 i (by omega)]
      have := TiersApart_L1_eq acts c n g k hl m (i + 1) (by omega) q
      rw [← this, take_snoc q, List.map_append, List.append_assoc]
      rfl
    · rw [bf (lt_f q), List.drop_eq_nil_of_le (by omega), List.take_of_length_le (by omega), List.append_nil]
theorem md_id {x : GHash} (h : HOK x) (a : x.A < 2305843009213693951) (b : x.B < 2305843009213693951) : md x = x := by
  obtain ⟨h1, h2⟩ := h
  unfold md
  rw [Int.tmod_eq_emod_of_nonneg h1, Int.tmod_eq_emod_of_nonneg h2, Int.emod_eq_of_lt h1 a, Int.emod_eq_of_lt h2 b]
theorem md_ok {x : GHash} (h : HOK x) : HOK (md x) ∧ (md x).A < 2305843009213693951 ∧ (md x).B < 2305843009213693951 := by
  obtain ⟨h1, h2⟩ := h
  unfold md HOK
  simp only []
  rw [Int.tmod_eq_emod_of_nonneg h1, Int.tmod_eq_emod_of_nonneg h2]
  omega
theorem TiersApart_p (c : GConfig) (a b : List GHash) (acts : List GRaftsmanlaw15Act) (l : Int) (l0 : 0 ≤ l) (l1 : l ≤ 255) (hwa : ∀ x, x ∈ a → HOK x) (hwb : ∀ x, x ∈ b → HOK x) (hl : a.length ≤ 1048576) : TiersApart_m c a b acts l = some true := by
  have hFU := FU
  unfold TiersApart_m
  obtain ⟨n, n1, n2⟩ := law15Few_eq c acts
  rw [n1, some_bind', tiersNew_eq c hl, some_bind', law15Awake_eq]
  cases hg : grB ⟨c, a, []⟩ with
  | false => simp
  | true =>
    simp only [if_true]
    rcases n2 with n2 | ⟨k, rfl, k1, k2, _⟩
    · rw [bt (by simp [n2])]; rfl
    · by_cases hb : b.length < a.length
      · rw [bt (by simp; exact .inr hb)]; rfl
      · have h : GD ⟨c, a, []⟩ := ⟨hg, hwa, by simp, by simp; omega⟩
        have kk := gok hg
        have L1 : 1 ≤ c.L := kk.l1
        have L2 : c.L ≤ 16 := kk.l2
        have R1 : 1 ≤ c.R := kk.r1
        have R2 : c.R ≤ 8 := kk.r2
        have hlen : (a.length : Int) = c.L * c.R := kk.hl
        have w1 : IntKind.i64.wrap (c.L + 1) = c.L + 1 := wr0 (by omega) (by omega)
        have w2 : IntKind.i64.wrap l = l := wr0 (by omega) (by omega)
        rw [bf (by simp; omega), w1, w2, ck (by simp; omega), some_bind', Int.tmod_eq_emod_of_nonneg l0]
        generalize hK : l % (c.L + 1) = K
        have K0 : 0 ≤ K := by rw [← hK]; exact Int.emod_nonneg _ (by omega)
        have K1 : K ≤ c.L := by have := Int.emod_lt_of_pos l (show 0 < c.L + 1 by omega); omega
        have KR0 : 0 ≤ K * c.R := Int.mul_nonneg K0 (by omega)
        have KR1 : K * c.R ≤ a.length := by rw [hlen]; exact Int.mul_le_mul_of_nonneg_right K1 (by omega)
        have w3 : IntKind.i64.wrap (K * c.R) = K * c.R := wr0 (by omega) (by omega)
        obtain ⟨j, hj⟩ : ∃ j : Nat, K * c.R = (j : Int) := ⟨(K * c.R).toNat, by omega⟩
        rw [w3, hj, slc_to rfl (by omega), some_bind', app_ok (by simp; omega), some_bind', slc_nat rfl rfl (by omega) (by omega), some_bind', app_ok (by simp; omega), some_bind', List.nil_append]
        generalize ho : a.take j ++ (b.drop j).take (a.length - j) = o
        have hol : o.length = a.length := by rw [← ho]; simp; omega
        have how : ∀ x, x ∈ o → HOK x := fun x hx => by
          rw [← ho, List.mem_append] at hx
          rcases hx with q | q
          · exact hwa x (List.mem_of_mem_take q)
          · exact hwb x (List.mem_of_mem_drop (List.mem_of_mem_take q))
        have e1 := TiersApart_L1_eq acts c (k : Int) ⟨c, a, []⟩ K (o := o) (by omega) FUEL 0 (by omega) (Nat.zero_le _)
        rw [List.take_zero, List.map_nil, List.nil_append, List.drop_zero, show ((0 : Nat) : Int) = (0 : Int) from rfl] at e1
        have hwo : ∀ x, x ∈ o.map md → HOK x := fun x hx => by
          obtain ⟨y, hy, rfl⟩ := List.mem_map.1 hx
          exact (md_ok (how y hy)).1
        have hgo : grB ⟨c, o.map md, []⟩ = true := by
          have hs : hsB (o.map md) = true := by
            unfold hsB
            rw [List.all_eq_true]
            intro x hx
            obtain ⟨y, hy, rfl⟩ := List.mem_map.1 hx
            have := md_ok (how y hy)
            simp [this.2.1, this.2.2]
          unfold grB at hg ⊢
          simp only [Bool.and_eq_true] at hg ⊢
          refine ⟨?_, hs, hg.2.2⟩
          have := hg.1
          unfold cfB at this ⊢
          rw [List.length_map, hol]; exact this
        have hh : GD ⟨c, o.map md, []⟩ := ⟨hgo, hwo, by simp, by simp; omega⟩
        have ap : Apt K ⟨c, a, []⟩ ⟨c, o.map md, []⟩ := ⟨rfl, rfl, rfl, fun t t0 tK => by
          show ((o.map md).drop (t * c.R).toNat).take c.R.toNat = (a.drop (t * c.R).toNat).take c.R.toNat
          have ht : t * c.R + c.R ≤ j := by
            rw [← hj]
            have : (t + 1) * c.R ≤ K * c.R := Int.mul_le_mul_of_nonneg_right (by omega) (by omega)
            rw [Int.add_mul, Int.one_mul] at this; exact this
          have t0' : 0 ≤ t * c.R := Int.mul_nonneg t0 (by omega)
          refine List.ext_getElem? fun i => ?_
          rw [List.getElem?_take, List.getElem?_take]
          split
          · rename_i hi
            rw [List.getElem?_drop, List.getElem?_drop, List.getElem?_map, ← ho, List.getElem?_append_left (by rw [List.length_take]; omega), List.getElem?_take, if_pos (by omega)]
            cases hx : a[(t * c.R).toNat + i]? with
            | none => rfl
            | some x =>
              have hm := List.mem_of_getElem? hx
              have hs : hsB a = true := kk.hs
              unfold hsB at hs
              rw [List.all_eq_true] at hs
              have := hs x hm
              simp only [Bool.and_eq_true, decide_eq_true_eq] at this
              show some (md x) = some x
              rw [md_id (hwa x hm) this.1 this.2]
          · rfl⟩
        rw [e1, tiersNew_eq c (by rw [List.length_map]; omega), hgo, some_bind']
        simp only [if_true]
        rw [bf (by rfl), acts_slc k2, some_bind']
        have := TiersApart_L2_eq (L := acts.take k) (K := K) (by rw [List.length_take]; omega) FUEL 0 _ _ (by rw [List.length_take]; omega) (Nat.zero_le _) h hh ap K1 (by simp) (by simp)
        exact this
theorem wf8 {x : Int} (h : (Lit.int .u8 x).wf = true) : 0 ≤ x ∧ x ≤ 255 := by simpa [Lit.wf, IntKind.min, IntKind.max, IntKind.signed, IntKind.bits] using h
theorem TiersApart_w (c : GConfig) (a b : List GHash) (acts : List GRaftsmanlaw15Act) (l : Int) {A P P' B C D : Prop} (_ : A) (w : WH a P) (w' : WH b P') (_ : B) (q : (Lit.int .u8 l).wf = true) (h : a.length ≤ 1048576) (_ : C) (_ : D) : TiersApart_m c a b acts l = some true := TiersApart_p c a b acts l (wf8 q).1 (wf8 q).2 w.hw w'.hw h
end Go.Proofs.Ytibnmlbjahcjmaa
