/-
  graph.Check comes to chk.
-/
import Derived.Test.YtjicfkmpgogppaaGrP
namespace Go.Proofs.Ytjicfkmpgogppaa.Gr
set_option linter.unusedVariables false
set_option linter.unusedSimpArgs false
open Go Go.RowKit Go.Proofs.Ytjicfkmpgogppaa.Plain Go.Proofs.Ytjicfkmpgogppaa.PG Go.Proofs.YtjicfkmpgogppaaW.PrintWords Go.Proofs.YtjicfkmpgogppaaW.PrintLast Go.Proofs.YtjicfkmpgogppaaW.PrintMore
theorem nodeCheck_some (x : A_) (K : Nat) : graph_Node_check.f (K + 3) x.f0 x.f1 x.f2 x.f3 x.f4 x.f5 = some (nodeErr x) := by
  have b1 : graph_Node_check.j0 (K + 3) (x.f4 != (-1)) true x.f0 x.f1 x.f2 x.f3 x.f4 x.f5 = some 31 := by
    rw [graph_Node_check.j0, if_pos rfl, graph_Node_check.j1, if_pos rfl]
  have b2 : ∀ b, graph_Node_check.j1 (K + 2) b true x.f0 x.f1 x.f2 x.f3 x.f4 x.f5 = some 31 := fun b => by rw [graph_Node_check.j1, if_pos rfl]
  unfold graph_Node_check.f nodeErr
  by_cases c1 : x.f2 < 1
  · rw [if_pos c1, b1, if_pos (Or.inl c1)]
  rw [if_neg c1]
  by_cases c2 : x.f2 > 4
  · rw [if_pos c2, b1, if_pos (Or.inr (Or.inl c2))]
  rw [if_neg c2]
  by_cases c3 : x.f3 < 1
  · rw [if_pos c3, b1, if_pos (Or.inr (Or.inr (Or.inl c3)))]
  rw [if_neg c3]
  by_cases c4 : x.f3 > 1048576
  · rw [decide_eq_true c4, b1, if_pos (Or.inr (Or.inr (Or.inr (Or.inl c4))))]
  rw [decide_eq_false c4, graph_Node_check.j0, if_neg (by decide)]
  by_cases c5 : x.f4 < -1
  · rw [if_pos c5, b2, if_pos (Or.inr (Or.inr (Or.inr (Or.inr (Or.inl c5)))))]
  rw [if_neg c5]
  by_cases c6 : x.f4 ≥ 8
  · rw [if_pos c6, decide_eq_true c6, b2, if_pos (Or.inr (Or.inr (Or.inr (Or.inr (Or.inr (Or.inl c6))))))]
  rw [if_neg c6]
  by_cases c7 : x.f1.length > 12
  · rw [decide_eq_true (by omega), b2, if_pos (Or.inr (Or.inr (Or.inr (Or.inr (Or.inr (Or.inr c7))))))]
  have hno : ¬(x.f2 < 1 ∨ x.f2 > 4 ∨ x.f3 < 1 ∨ x.f3 > 1048576 ∨ x.f4 < -1 ∨ x.f4 ≥ 8 ∨ x.f1.length > 12) := by rintro (h | h | h | h | h | h | h) <;> contradiction
  rw [if_neg hno, decide_eq_false (by omega), graph_Node_check.j1, if_neg (by decide)]
  by_cases c8 : x.f4 = -1
  · rw [if_neg (by simp [c8]), if_pos c8, graph_Node_check.j2]
    by_cases c9 : x.f5.toList = []
    · rw [if_neg (by simp [c9]), if_neg (by simp [c8]), if_pos c9]
    · rw [if_pos (by simp [c9]), if_neg c9]
  · rw [if_pos (by simp [c8]), if_neg c8, graph_Node_check.j2, if_neg (by decide), if_pos (by simp [c8])]
    unfold grant_Named.f
    rw [Option.bind_some]
    by_cases c9 : Nm.named x.f5 = true
    · rw [if_pos c9]
      by_cases c10 : x.f2 = 1
      · rw [if_pos c10, if_pos ⟨c9, c10⟩]
      · rw [if_neg c10, if_neg (fun h => c10 h.2)]
    · rw [if_neg c9, if_neg (fun h => c9 h.1)]
/-- the first place of a text -/
def idx (ds : List ByteArray) (s : ByteArray) : Nat → Nat → Int
  | 0, _ => -1
  | d + 1, i => if s.toList = (dep ds i).toList then (i : Int) else idx ds s d (i + 1)
theorem idx_some (ds : List ByteArray) (s : ByteArray) (hs : ds.length ≤ 9223372036854775806) : ∀ (d i : Nat), i + d = ds.length → ∀ K, slices_Index_string_string.l0 (K + d + 1) ds s ds.length i = some (idx ds s d i)
  | 0, i, h, K => by rw [slices_Index_string_string.l0, if_neg (by omega)]; rfl
  | d + 1, i, h, K => by
    have er : rdOf ByteArray.empty ds (i : Int) = dep ds i := by unfold rdOf; rw [Int.toNat_natCast]
    have e1 : wrap64 ((i : Int) + 1) = ((i + 1 : Nat) : Int) := by rw [w64 (by omega) (by omega)]; rfl
    rw [show K + (d + 1) + 1 = (K + d + 1) + 1 by omega, slices_Index_string_string.l0, if_pos (by omega), if_pos (by omega), if_pos (by omega), er, e1]
    unfold idx
    split
    · rfl
    · exact idx_some ds s hs d (i + 1) (by omega) K
theorem idx_spec (ds : List ByteArray) (s : ByteArray) : ∀ (d i : Nat), (idx ds s d i = -1 ∧ ∀ j, i ≤ j → j < i + d → s.toList ≠ (dep ds j).toList) ∨ ∃ j, i ≤ j ∧ j < i + d ∧ idx ds s d i = (j : Int) ∧ s.toList = (dep ds j).toList ∧ ∀ m, i ≤ m → m < j → s.toList ≠ (dep ds m).toList
  | 0, i => .inl ⟨rfl, fun j h1 h2 => by omega⟩
  | d + 1, i => by
    unfold idx
    by_cases c : s.toList = (dep ds i).toList
    · rw [if_pos c]
      exact .inr ⟨i, Nat.le_refl _, by omega, rfl, c, fun m h1 h2 => by omega⟩
    · rw [if_neg c]
      rcases idx_spec ds s d (i + 1) with ⟨h1, h2⟩ | ⟨j, h1, h2, h3, h4, h5⟩
      · refine .inl ⟨h1, fun j h3 h4 => ?_⟩
        by_cases cj : j = i
        · rw [cj]; exact c
        · exact h2 j (by omega) (by omega)
      · refine .inr ⟨j, by omega, by omega, h3, h4, fun m h6 h7 => ?_⟩
        by_cases cm : m = i
        · rw [cm]; exact c
        · exact h5 m (by omega) h7
theorem idx_lt (ds : List ByteArray) (k : Nat) (hk : k < ds.length) : idx ds (dep ds k) ds.length 0 < (k : Int) ↔ okF (fun m => (dep ds m).toList != (dep ds k).toList) k 0 = false := by
  rcases idx_spec ds (dep ds k) ds.length 0 with ⟨_, h2⟩ | ⟨j, h1, h2, h3, h4, h5⟩
  · exact absurd rfl (h2 k (Nat.zero_le _) (by omega))
  · rw [h3]
    constructor
    · intro h
      rw [Bool.eq_false_iff]
      intro hf
      have := (okF_iff k 0).mp hf j (Nat.zero_le _) (by omega)
      rw [h4] at this
      simp at this
    · intro h
      rcases Nat.lt_or_ge j k with c | c
      · omega
      · exfalso
        rw [Bool.eq_false_iff] at h
        refine h ((okF_iff k 0).mpr fun m h6 h7 => ?_)
        have := h5 m (Nat.zero_le _) (by omega)
        simp only [bne_iff_ne, ne_eq]
        exact fun e => this e.symm
theorem check_l2 (nm : ByteArray) (l : List A_) (i : Nat) (x : A_) (hi : i ≤ 4096) (ds : List ByteArray) (hx : x.f1 = ds) (hs : ds.length ≤ 9223372036854775806) : ∀ (d k : Nat), k + d = ds.length → ∀ K, ds.length + 1 ≤ K →
    graph_Check.l2 (K + d + 1) i l l.length i ds ds.length k nm l x.f0 ds x.f2 x.f3 x.f4 x.f5 = if okF (depOk l ds) d k = true then graph_Check.l1 K l l.length ((i : Int) + 1) nm l else some ((i : Int), 32)
  | 0, k, h, K, hK => by
    rw [graph_Check.l2, if_neg (by omega), w64 (by omega) (by omega)]
    rfl
  | d + 1, k, h, K, hK => by
    have er : rdOf ByteArray.empty ds (k : Int) = dep ds k := by unfold rdOf; rw [Int.toNat_natCast]
    have e1 : wrap64 ((k : Int) + 1) = ((k + 1 : Nat) : Int) := by rw [w64 (by omega) (by omega)]; rfl
    have ei : slices_Index_string_string.f (K + d + 1) ds (dep ds k) = some (idx ds (dep ds k) ds.length 0) := by
      have := idx_some ds (dep ds k) hs ds.length 0 (by omega) (K + d - ds.length)
      rw [show K + d - ds.length + ds.length + 1 = K + d + 1 by omega] at this
      exact this
    rw [show K + (d + 1) + 1 = (K + d + 1) + 1 by omega, graph_Check.l2, if_pos (by omega), if_pos (by omega), if_pos (by omega), er]
    unfold graph_Flow_find.f
    rw [Option.bind_some]
    have hok : okF (depOk l ds) (d + 1) k = (depOk l ds k && okF (depOk l ds) d (k + 1)) := rfl
    have hdo : depOk l ds k = (decide (0 ≤ fd l (dep ds k)) && okF (fun m => (dep ds m).toList != (dep ds k).toList) k 0) := rfl
    have hlt := idx_lt ds k (by omega)
    rw [hok, hdo]
    by_cases c : Fi.findN l (dep ds k) 0 < 0
    · have c' : decide (0 ≤ fd l (dep ds k)) = false := decide_eq_false (by show ¬ 0 ≤ Fi.findN l (dep ds k) 0; omega)
      rw [if_pos c, c', Bool.false_and, Bool.false_and, if_neg (by decide)]
    · have c' : decide (0 ≤ fd l (dep ds k)) = true := decide_eq_true (by show 0 ≤ Fi.findN l (dep ds k) 0; omega)
      rw [if_neg c, c', Bool.true_and, ei, Option.bind_some]
      by_cases c2 : idx ds (dep ds k) ds.length 0 < (k : Int)
      · rw [if_pos c2, hlt.mp c2, Bool.false_and, if_neg (by decide)]
      · have c3 : okF (fun m => (dep ds m).toList != (dep ds k).toList) k 0 = true := by
          cases h : okF (fun m => (dep ds m).toList != (dep ds k).toList) k 0 with
          | true => rfl
          | false => exact absurd (hlt.mpr h) c2
        rw [if_neg c2, c3, Bool.true_and, e1]
        exact check_l2 nm l i x hi ds hx hs d (k + 1) (by omega) K hK
theorem check_l3 (l : List A_) (ys : List Nat) (hn : l.length ≤ 32) (hr : Row (adj l) l.length ys l.length 0) : ∀ (d i : Nat), i + d = l.length → ∀ K, graph_Check.l3 (K + d + 1) (ints ys) l.length i = some (orElse (scan (e3 l) d i) (0, 0))
  | 0, i, h, K => by rw [graph_Check.l3, if_neg (by omega)]; rfl
  | d + 1, i, h, K => by
    have hl := hr.len
    have e1 : wrap64 ((i : Int) + 1) = ((i + 1 : Nat) : Int) := by rw [w64 (by omega) (by omega)]; rfl
    have hb := hr.bits i i (by omega) (by omega)
    rw [if_neg (Nat.not_lt_zero _)] at hb
    have hbi := bit_iff (ys.getD i 0) i (hr.lt i (by omega)) (by omega)
    rw [show K + (d + 1) + 1 = (K + d + 1) + 1 by omega, graph_Check.l3, if_pos (by omega), if_pos (by omega), if_pos (by rw [ints_length]; omega), rd_ints]
    unfold scan e3
    cases hp : P (adj l) l.length i i with
    | true =>
      rw [hp] at hb
      rw [if_pos (hbi.mpr hb), if_neg (by simp)]
      rfl
    | false =>
      rw [hp] at hb
      rw [if_neg (fun c => by rw [hbi.mp c] at hb; cases hb), e1, if_pos (by simp)]
      exact check_l3 l ys hn hr d (i + 1) (by omega) K
theorem check_end (nm : ByteArray) (l : List A_) (hn : l.length ≤ 32) (hd : ∀ i, i < l.length → (nd l i).f1.length ≤ 9223372036854775806) (hu : Uniq l) : ∃ K0, ∀ K, K0 ≤ K → ((graph_Masks.f K nm l).bind fun t => (graph_behind.f K t).bind fun u => graph_Check.l3 K u (u.length : Int) 0) = some (orElse (scan (e3 l) l.length 0) (0, 0)) := by
  obtain ⟨K1, h1⟩ := masks_some nm l hn hd
  obtain ⟨ys, hr, K2, h2⟩ := behind_some hn _ (msk_row hu hn)
  refine ⟨K1 + K2 + l.length + 1, fun K hK => ?_⟩
  have e1 := h1 (K - K1)
  have e2 := h2 (K - K2)
  have e3 := check_l3 l ys hn hr l.length 0 (by omega) (K - l.length - 1)
  rw [show K - K1 + K1 = K by omega] at e1
  rw [show K - K2 + K2 = K by omega] at e2
  rw [show K - l.length - 1 + l.length + 1 = K by omega] at e3
  rw [e1, Option.bind_some, e2, Option.bind_some, ints_length, hr.len]
  exact e3
theorem check_l1 (nm : ByteArray) (l : List A_) (hn : l.length ≤ 32) (hd : ∀ i, i < l.length → (nd l i).f1.length ≤ 9223372036854775806) (hu : Uniq l) : ∀ (d i : Nat), i + d = l.length → ∃ K0, ∀ K, K0 ≤ K → graph_Check.l1 K l l.length i nm l = some (orElse (scan (e2 l) d i) (orElse (scan (e3 l) l.length 0) (0, 0)))
  | 0, i, h => by
    obtain ⟨K0, h0⟩ := check_end nm l hn hd hu
    refine ⟨K0 + 1, fun K hK => ?_⟩
    obtain ⟨K, rfl⟩ : ∃ m, K = m + 1 := ⟨K - 1, by omega⟩
    rw [graph_Check.l1, if_neg (by omega)]
    exact h0 K (by omega)
  | d + 1, i, h => by
    obtain ⟨K0, h0⟩ := check_l1 nm l hn hd hu d (i + 1) (by omega)
    refine ⟨K0 + 2 * (nd l i).f1.length + 5, fun K hK => ?_⟩
    obtain ⟨K, rfl⟩ : ∃ m, K = m + (nd l i).f1.length + 1 + 1 := ⟨K - (nd l i).f1.length - 2, by omega⟩
    rw [graph_Check.l1, if_pos (by omega), if_pos (by omega), if_pos (by omega), rdT]
    have e := check_l2 nm l i (nd l i) (by omega) (nd l i).f1 rfl (hd i (by omega)) (nd l i).f1.length 0 (by omega) K (by omega)
    refine e.trans ?_
    have hsc : scan (e2 l) (d + 1) i = if e2 l i = 0 then scan (e2 l) d (i + 1) else some (i, e2 l i) := rfl
    have ee : e2 l i = if okF (depOk l (nd l i).f1) (nd l i).f1.length 0 = true then 0 else 32 := rfl
    by_cases c : okF (depOk l (nd l i).f1) (nd l i).f1.length 0 = true
    · rw [if_pos c] at ee
      rw [if_pos c, hsc, if_pos ee]
      exact h0 K (by omega)
    · rw [if_neg c] at ee
      rw [if_neg c, hsc, ee, if_neg (by decide)]
      rfl
theorem check_l0 (nm : ByteArray) (l : List A_) (hn : l.length ≤ 32) (hd : ∀ i, i < l.length → (nd l i).f1.length ≤ 9223372036854775806) (fin : Int × Int) (hfin : scan (e1 l) l.length 0 = none → ∃ K0, ∀ K, K0 ≤ K → graph_Check.l1 K l l.length 0 nm l = some fin) : ∀ (d i : Nat), i + d = l.length → scan (e1 l) l.length 0 = scan (e1 l) d i → ∃ K0, ∀ K, K0 ≤ K → graph_Check.l0 K l l.length i nm l = some (orElse (scan (e1 l) d i) fin)
  | 0, i, h, hs => by
    obtain ⟨K0, h0⟩ := hfin hs
    refine ⟨K0 + 1, fun K hK => ?_⟩
    obtain ⟨K, rfl⟩ : ∃ m, K = m + 1 := ⟨K - 1, by omega⟩
    rw [graph_Check.l0, if_neg (by omega)]
    exact h0 K (by omega)
  | d + 1, i, h, hs => by
    have e1' : wrap64 ((i : Int) + 1) = ((i + 1 : Nat) : Int) := by rw [w64 (by omega) (by omega)]; rfl
    have hsc : scan (e1 l) (d + 1) i = if e1 l i = 0 then scan (e1 l) d (i + 1) else some (i, e1 l i) := rfl
    have ee : e1 l i = if Nm.named (nd l i).f0 = true ∧ ¬ fd l (nd l i).f0 < (i : Int) then nodeErr (nd l i) else 30 := rfl
    by_cases c : Nm.named (nd l i).f0 = true ∧ ¬ fd l (nd l i).f0 < (i : Int)
    · rw [if_pos c] at ee
      by_cases c0 : nodeErr (nd l i) = 0
      · rw [ee, if_pos c0] at hsc
        obtain ⟨K0, h0⟩ := check_l0 nm l hn hd fin hfin d (i + 1) (by omega) (hs.trans hsc)
        refine ⟨K0 + 5, fun K hK => ?_⟩
        obtain ⟨K, rfl⟩ : ∃ m, K = m + 3 + 1 + 1 := ⟨K - 5, by omega⟩
        rw [graph_Check.l0, if_pos (by omega), if_pos (by omega), if_pos (by omega), rdT]
        unfold grant_Named.f graph_Flow_find.f
        rw [Option.bind_some, if_pos c.1, Option.bind_some, decide_eq_false c.2, graph_Check.j1, if_neg (by decide), nodeCheck_some, Option.bind_some, c0, if_pos rfl, e1', hsc]
        exact h0 _ (by omega)
      · rw [ee, if_neg c0] at hsc
        refine ⟨5, fun K hK => ?_⟩
        obtain ⟨K, rfl⟩ : ∃ m, K = m + 3 + 1 + 1 := ⟨K - 5, by omega⟩
        rw [graph_Check.l0, if_pos (by omega), if_pos (by omega), if_pos (by omega), rdT]
        unfold grant_Named.f graph_Flow_find.f
        rw [Option.bind_some, if_pos c.1, Option.bind_some, decide_eq_false c.2, graph_Check.j1, if_neg (by decide), nodeCheck_some, Option.bind_some, if_neg c0, hsc]
        rfl
    · rw [if_neg c] at ee
      rw [ee, if_neg (by decide)] at hsc
      refine ⟨5, fun K hK => ?_⟩
      obtain ⟨K, rfl⟩ : ∃ m, K = m + 3 + 1 + 1 := ⟨K - 5, by omega⟩
      rw [graph_Check.l0, if_pos (by omega), if_pos (by omega), if_pos (by omega), rdT]
      unfold grant_Named.f graph_Flow_find.f
      rw [Option.bind_some, hsc]
      by_cases c1 : Nm.named (nd l i).f0 = true
      · have c2 : fd l (nd l i).f0 < (i : Int) := Decidable.byContradiction fun h => c ⟨c1, h⟩
        rw [if_pos c1, Option.bind_some, decide_eq_true c2, graph_Check.j1, if_pos rfl]
        rfl
      · rw [if_neg c1, graph_Check.j1, if_pos rfl]
        rfl
theorem check_some (nm : ByteArray) (l : List A_) (hd : ∀ i, i < l.length → (nd l i).f1.length ≤ 9223372036854775806) : ∃ K0, ∀ K, K0 ≤ K → graph_Check.f K nm l = some (chk nm l) := by
  unfold chk graph_Check.f grant_Named.f
  by_cases c : Nm.named nm = true
  · by_cases c1 : (l.length : Int) < 1
    · exact ⟨0, fun K _ => by rw [Option.bind_some, if_pos c, if_pos c1, if_pos c, if_pos c1]⟩
    · by_cases c2 : (l.length : Int) > 12
      · exact ⟨0, fun K _ => by rw [Option.bind_some, if_pos c, if_neg c1, if_pos c2, if_pos c, if_neg c1, if_pos c2]⟩
      · obtain ⟨K0, h0⟩ := check_l0 nm l (by omega) hd (orElse (scan (e2 l) l.length 0) (orElse (scan (e3 l) l.length 0) (0, 0))) (fun hs => check_l1 nm l (by omega) hd (e1_uniq hs) l.length 0 (by omega)) l.length 0 (by omega) rfl
        exact ⟨K0, fun K hK => by rw [Option.bind_some, if_pos c, if_neg c1, if_neg c2, if_pos c, if_neg c1, if_neg c2]; exact h0 K hK⟩
  · exact ⟨0, fun K _ => by rw [Option.bind_some, if_neg c, if_neg c]⟩
end Go.Proofs.Ytjicfkmpgogppaa.Gr
