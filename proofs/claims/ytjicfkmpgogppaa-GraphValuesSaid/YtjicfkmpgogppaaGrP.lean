/-
  graph.Masks, graph.behind and graph.Check come to what GrS says.
-/
import Derived.Test.YtjicfkmpgogppaaPGx4
import Derived.Test.YtjicfkmpgogppaaPGx6
import Derived.Test.YtjicfkmpgogppaaPGx7
import Derived.Test.YtjicfkmpgogppaaPGx8
import Derived.Test.YtjicfkmpgogppaaPGx9
import Derived.Test.YtjicfkmpgogppaaGrS
namespace Go.Proofs.Ytjicfkmpgogppaa.Gr
set_option linter.unusedVariables false
set_option linter.unusedSimpArgs false
open Go Go.RowKit Go.Proofs.Ytjicfkmpgogppaa.Plain Go.Proofs.Ytjicfkmpgogppaa.PG Go.Proofs.YtjicfkmpgogppaaW.PrintWords Go.Proofs.YtjicfkmpgogppaaW.PrintLast Go.Proofs.YtjicfkmpgogppaaW.PrintMore
def ints (xs : List Nat) : List Int := xs.map fun (n : Nat) => (n : Int)
theorem ints_length (xs : List Nat) : (ints xs).length = xs.length := by unfold ints; rw [List.length_map]
theorem rd_ints (xs : List Nat) (i : Nat) : rd (ints xs) (i : Int) = ((xs.getD i 0 : Nat) : Int) := by
  unfold rd ints
  rw [Int.toNat_natCast, List.getD_eq_getElem?_getD, List.getElem?_map, List.getD_eq_getElem?_getD]
  cases xs[i]? <;> rfl
theorem ints_set (xs : List Nat) (i n : Nat) : (ints xs).set i (n : Int) = ints (xs.set i n) := by
  unfold ints; rw [List.map_set]
theorem bit_iff (n k : Nat) (hn : n < 4294967296) (hk : k < 32) : Go.bits .and .u32 (shr .u32 (n : Int) (k : Int)) 1 = 1 ↔ n.testBit k = true := by
  have e1 : shr .u32 (n : Int) (k : Int) = ((n / 2 ^ k : Nat) : Int) := by
    unfold shr
    rw [Int.toNat_natCast, show min k (IntKind.u32.bits) = k from Nat.min_eq_left (Nat.le_of_lt hk)]
    norm_cast
  have h2 : n / 2 ^ k ≤ n := Nat.div_le_self _ _
  rw [e1, Nat.testBit_eq_decide_div_mod_eq, decide_eq_true_iff]
  generalize n / 2 ^ k = q at h2
  rw [and_u32 _ _ (by omega) (by omega) (by decide) (by decide), Int.toNat_natCast, show (1 : Int).toNat = 1 from rfl, Nat.and_one_is_mod]
  omega
theorem or_nat (a b : Nat) (ha : a < 4294967296) (hb : b < 4294967296) : Go.bits .or .u32 (a : Int) (b : Int) = ((a ||| b : Nat) : Int) := by
  rw [or_u32 _ _ (by omega) (by omega) (by omega) (by omega), Int.toNat_natCast, Int.toNat_natCast]
theorem shl_nat (t : Nat) (h : t < 32) : shl .u32 1 (t : Int) = ((2 ^ t : Nat) : Int) := by
  unfold shl
  rw [Int.toNat_natCast, show min t (IntKind.u32.bits) = t from Nat.min_eq_left (Nat.le_of_lt h), wu32]
  have : (2 : Nat) ^ t < 2 ^ 32 := Nat.pow_lt_pow_right (by decide) h
  have e : (1 : Int) * 2 ^ t = ((2 ^ t : Nat) : Int) := by rw [Int.one_mul]; norm_cast
  rw [e]
  generalize (2 : Nat) ^ t = q at this
  omega
/-- the rows while the k-th is worked in, up to the i-th -/
structure Row (w : Nat → Nat → Bool) (n : Nat) (xs : List Nat) (k i : Nat) : Prop where
  len : xs.length = n
  lt : ∀ a, a < n → xs.getD a 0 < 4294967296
  bits : ∀ a j, a < n → j < n → (xs.getD a 0).testBit j = if a < i then P w (k + 1) a j else P w k a j
theorem Row.next {w : Nat → Nat → Bool} {n : Nat} {xs : List Nat} {k : Nat} (h : Row w n xs k n) : Row w n xs (k + 1) 0 :=
  ⟨h.len, h.lt, fun a j ha hj => by rw [h.bits a j ha hj, if_pos ha, if_neg (Nat.not_lt_zero _)]⟩
theorem Row.same {w : Nat → Nat → Bool} {n : Nat} {xs : List Nat} {k i : Nat} (h : Row w n xs k i) (hi : i < n) (hk : k < n) (hb : (xs.getD i 0).testBit k = false) : Row w n xs k (i + 1) := by
  refine ⟨h.len, h.lt, fun a j ha hj => ?_⟩
  rw [h.bits a j ha hj]
  have hb' := h.bits i k hi hk
  rw [if_neg (Nat.lt_irrefl _), hb] at hb'
  by_cases c : a < i
  · rw [if_pos c, if_pos (by omega)]
  · by_cases c2 : a = i
    · subst c2
      rw [if_neg c, if_pos (by omega), P_succ, ← hb']
      simp
    · rw [if_neg c, if_neg (by omega)]
theorem Row.put {w : Nat → Nat → Bool} {n : Nat} {xs : List Nat} {k i : Nat} (h : Row w n xs k i) (hi : i < n) (hk : k < n) (hb : (xs.getD i 0).testBit k = true) : Row w n (xs.set i (xs.getD i 0 ||| xs.getD k 0)) k (i + 1) := by
  have hx : ∀ a, a < n → (xs.set i (xs.getD i 0 ||| xs.getD k 0)).getD a 0 = if a = i then xs.getD i 0 ||| xs.getD k 0 else xs.getD a 0 := by
    intro a ha
    have := h.len
    rw [List.getD_eq_getElem?_getD, List.getElem?_set]
    by_cases c : a = i
    · subst c
      rw [if_pos rfl, if_pos (by omega), if_pos rfl]; rfl
    · rw [if_neg (Ne.symm c), if_neg c, List.getD_eq_getElem?_getD]
  refine ⟨by rw [List.length_set]; exact h.len, fun a ha => ?_, fun a j ha hj => ?_⟩
  · rw [hx a ha]
    split
    · exact Nat.or_lt_two_pow (n := 32) (h.lt i hi) (h.lt k hk)
    · exact h.lt a ha
  · rw [hx a ha]
    have hb' := h.bits i k hi hk
    rw [if_neg (Nat.lt_irrefl _), hb] at hb'
    have hkj : (xs.getD k 0).testBit j = P w k k j := by
      rw [h.bits k j hk hj]
      split
      · exact P_row k j
      · rfl
    by_cases c2 : a = i
    · subst c2
      have hij := h.bits a j ha hj
      rw [if_neg (Nat.lt_irrefl _)] at hij
      rw [if_pos rfl, Nat.testBit_or, hij, hkj, if_pos (by omega), P_succ, ← hb', Bool.true_and]
    · rw [if_neg c2, h.bits a j ha hj]
      by_cases c : a < i
      · rw [if_pos c, if_pos (by omega)]
      · rw [if_neg c, if_neg (by omega)]
theorem behind_l1 {w : Nat → Nat → Bool} {n k : Nat} (hk : k < n) (hn : n ≤ 32) : ∀ (d : Nat) (xs : List Nat) (i : Nat), i + d = n → Row w n xs k i → ∃ ys, Row w n ys k n ∧ ∀ K, graph_behind.l1 (K + d + 1) (ints xs) k n k n i = graph_behind.l0 K (ints ys) n ((k : Int) + 1)
  | 0, xs, i, h, hr => by
    obtain rfl : i = n := by omega
    refine ⟨xs, hr, fun K => ?_⟩
    rw [graph_behind.l1, if_neg (by omega), w64 (by omega) (by omega)]
  | d + 1, xs, i, h, hr => by
    have hl := hr.len
    have hi : i < n := by omega
    have e1 : wrap64 ((i : Int) + 1) = ((i + 1 : Nat) : Int) := by rw [w64 (by omega) (by omega)]; rfl
    cases hb : (xs.getD i 0).testBit k with
    | true =>
      obtain ⟨ys, h1, h2⟩ := behind_l1 hk hn d _ (i + 1) (by omega) (hr.put hi hk hb)
      refine ⟨ys, h1, fun K => ?_⟩
      rw [show K + (d + 1) + 1 = (K + d + 1) + 1 by omega, graph_behind.l1, if_pos (by omega), if_pos (by omega), if_pos (by rw [ints_length]; omega), if_pos (by omega), rd_ints, rd_ints, if_pos ((bit_iff _ _ (hr.lt i hi) (by omega)).mpr hb), if_pos (by rw [ints_length]; omega), or_nat _ _ (hr.lt i hi) (hr.lt k hk), Int.toNat_natCast, ints_set, e1, h2 K]
    | false =>
      obtain ⟨ys, h1, h2⟩ := behind_l1 hk hn d xs (i + 1) (by omega) (hr.same hi hk hb)
      refine ⟨ys, h1, fun K => ?_⟩
      rw [show K + (d + 1) + 1 = (K + d + 1) + 1 by omega, graph_behind.l1, if_pos (by omega), if_pos (by omega), if_pos (by rw [ints_length]; omega), if_pos (by omega), rd_ints, if_neg (fun c => by rw [(bit_iff _ _ (hr.lt i hi) (by omega)).mp c] at hb; cases hb), e1, h2 K]
theorem behind_l0 {w : Nat → Nat → Bool} {n : Nat} (hn : n ≤ 32) : ∀ (d : Nat) (xs : List Nat) (k : Nat), k + d = n → Row w n xs k 0 → ∃ ys, Row w n ys n 0 ∧ ∃ K0, ∀ K, graph_behind.l0 (K + K0) (ints xs) n k = some (ints ys)
  | 0, xs, k, h, hr => by
    obtain rfl : k = n := by omega
    refine ⟨xs, hr, 1, fun K => ?_⟩
    rw [graph_behind.l0, if_neg (by omega)]
  | d + 1, xs, k, h, hr => by
    have hl := hr.len
    obtain ⟨ys, h1, h2⟩ := behind_l1 (k := k) (by omega) hn n xs 0 (by omega) hr
    obtain ⟨zs, h3, K0, h4⟩ := behind_l0 hn d ys (k + 1) (by omega) h1.next
    refine ⟨zs, h3, K0 + n + 1 + 1, fun K => ?_⟩
    rw [show K + (K0 + n + 1 + 1) = (K + K0 + n + 1) + 1 by omega, graph_behind.l0, if_pos (by omega), ints_length, hl]
    exact (h2 (K + K0)).trans (h4 K)
theorem behind_some {w : Nat → Nat → Bool} {n : Nat} (hn : n ≤ 32) (xs : List Nat) (hr : Row w n xs 0 0) : ∃ ys, Row w n ys n 0 ∧ ∃ K0, ∀ K, graph_behind.f (K + K0) (ints xs) = some (ints ys) := by
  obtain ⟨ys, h1, K0, h2⟩ := behind_l0 hn n xs 0 (by omega) hr
  have hl := hr.len
  refine ⟨ys, h1, K0, fun K => ?_⟩
  unfold graph_behind.f slices_Clone_uint32_uint32.f
  rw [Option.bind_some, List.nil_append, if_pos (by rw [ints_length]; simp; omega), Option.bind_some, ints_length, hl]
  exact h2 K
theorem rdT (l : List A_) (i : Nat) : rd_T48 l (i : Int) = nd l i := by
  unfold rd_T48; rw [Int.toNat_natCast]
theorem fd_lt (l : List A_) (s : ByteArray) : -1 ≤ fd l s ∧ fd l s < l.length := by
  rcases find_spec s l 0 with ⟨h1, _⟩ | ⟨j, h1, h2, _⟩
  · have : fd l s = -1 := h1
    omega
  · have : fd l s = 0 + (j : Int) := h2
    omega
theorem masks_l1 (nm : ByteArray) (l : List A_) (hl : l.length ≤ 32) (i : Nat) (hi : i < l.length) (acc : List Int) (ds : List ByteArray) (hds : ds.length ≤ 9223372036854775806) (ha : acc.length < 35184372088832) : ∀ (d : Nat) (j m : Nat), j + d = ds.length → m < 2 ^ l.length → ∀ K, graph_Masks.l1 (K + d + 1) acc (m : Int) l l.length i ds ds.length j nm l = graph_Masks.l0 K (acc ++ [((mk l (ds.drop j) m : Nat) : Int)]) l l.length ((i : Int) + 1) nm l
  | 0, j, m, h, hm, K => by
    rw [graph_Masks.l1, if_neg (by omega), if_pos ha, w64 (by omega) (by omega), List.drop_eq_nil_of_le (by omega)]
    rfl
  | d + 1, j, m, h, hm, K => by
    have e1 : wrap64 ((j : Int) + 1) = ((j + 1 : Nat) : Int) := by rw [w64 (by omega) (by omega)]; rfl
    have er : rdOf ByteArray.empty ds (j : Int) = ds[j]'(by omega) := by
      unfold rdOf
      rw [Int.toNat_natCast, List.getD_eq_getElem?_getD, List.getElem?_eq_getElem (by omega), Option.getD_some]
    have ed : ds.drop j = ds[j]'(by omega) :: ds.drop (j + 1) := List.drop_eq_getElem_cons (by omega)
    have hp : (2 : Nat) ^ l.length ≤ 2 ^ 32 := Nat.pow_le_pow_right (by decide) hl
    rw [show K + (d + 1) + 1 = (K + d + 1) + 1 by omega, graph_Masks.l1, if_pos (by omega), if_pos (by omega), if_pos (by omega), er, ed]
    generalize ds[j]'(by omega) = s
    have hf := fd_lt l s
    have em : mk l (s :: ds.drop (j + 1)) m = mk l (ds.drop (j + 1)) (if 0 ≤ fd l s then m ||| 2 ^ (fd l s).toNat else m) := rfl
    unfold graph_Flow_find.f
    rw [Option.bind_some, em]
    by_cases c : 0 ≤ fd l s
    · obtain ⟨t, ht⟩ := Int.eq_ofNat_of_zero_le c
      have ht2 : t < l.length := by omega
      have hp2 : (2 : Nat) ^ t < 2 ^ l.length := Nat.pow_lt_pow_right (by decide) ht2
      rw [if_pos c, if_pos c, if_pos c]
      show graph_Masks.l1 (K + d + 1) acc (bits .or .u32 (m : Int) (shl .u32 1 (fd l s))) l l.length i ds ds.length (wrap64 (j + 1)) nm l = _
      rw [ht, shl_nat t (by omega), or_nat _ _ (by omega) (by omega), e1, Int.toNat_natCast]
      exact masks_l1 nm l hl i hi acc ds hds ha d (j + 1) _ (by omega) (Nat.or_lt_two_pow hm hp2) K
    · rw [if_neg c, if_neg c, e1]
      exact masks_l1 nm l hl i hi acc ds hds ha d (j + 1) m (by omega) hm K
def msk (l : List A_) (i : Nat) : Nat := mk l (nd l i).f1 0
theorem masks_l0 (nm : ByteArray) (l : List A_) (hl : l.length ≤ 32) (hd : ∀ i, i < l.length → (nd l i).f1.length ≤ 9223372036854775806) : ∀ (d i : Nat), i + d = l.length → ∃ K0, ∀ K, graph_Masks.l0 (K + K0) (ints ((List.range i).map (msk l))) l l.length i nm l = some (ints ((List.range l.length).map (msk l)))
  | 0, i, h => by
    obtain rfl : i = l.length := by omega
    refine ⟨1, fun K => ?_⟩
    rw [graph_Masks.l0, if_neg (by omega)]
  | d + 1, i, h => by
    obtain ⟨K0, h2⟩ := masks_l0 nm l hl hd d (i + 1) (by omega)
    refine ⟨K0 + (nd l i).f1.length + 1 + 1, fun K => ?_⟩
    have h1 := masks_l1 nm l hl i (by omega) (ints ((List.range i).map (msk l))) (nd l i).f1 (hd i (by omega)) (by rw [ints_length]; simp; omega) (nd l i).f1.length 0 0 (by omega) (Nat.pow_pos (by decide)) (K + K0)
    rw [List.drop_zero] at h1
    have e : ints ((List.range i).map (msk l)) ++ [((mk l (nd l i).f1 0 : Nat) : Int)] = ints ((List.range (i + 1)).map (msk l)) := by
      unfold ints; rw [List.range_succ, List.map_append, List.map_append]; rfl
    rw [e] at h1
    rw [show K + (K0 + (nd l i).f1.length + 1 + 1) = (K + K0 + (nd l i).f1.length + 1) + 1 by omega, graph_Masks.l0, if_pos (by omega), if_pos (by omega), if_pos (by omega), rdT]
    exact h1.trans (h2 K)
theorem masks_some (nm : ByteArray) (l : List A_) (hl : l.length ≤ 32) (hd : ∀ i, i < l.length → (nd l i).f1.length ≤ 9223372036854775806) : ∃ K0, ∀ K, graph_Masks.f (K + K0) nm l = some (ints ((List.range l.length).map (msk l))) := by
  obtain ⟨K0, h⟩ := masks_l0 nm l hl hd l.length 0 (by omega)
  refine ⟨K0, fun K => ?_⟩
  unfold graph_Masks.f
  exact h K
theorem getD_range {α : Type} (f : Nat → α) (n a : Nat) (d : α) (h : a < n) : ((List.range n).map f).getD a d = f a := by
  rw [List.getD_eq_getElem?_getD, List.getElem?_map, List.getElem?_range h]; rfl
theorem msk_row {l : List A_} (hu : Uniq l) (hl : l.length ≤ 32) : Row (adj l) l.length ((List.range l.length).map (msk l)) 0 0 := by
  refine ⟨by simp, fun a ha => ?_, fun a j ha hj => ?_⟩
  · rw [getD_range _ _ _ _ ha]
    have h1 := mk_lt l (nd l a).f1 0 (Nat.pow_pos (by decide))
    have hp : (2 : Nat) ^ l.length ≤ 2 ^ 32 := Nat.pow_le_pow_right (by decide) hl
    unfold msk
    omega
  · rw [getD_range _ _ _ _ ha, if_neg (Nat.not_lt_zero _)]
    exact mk_adj hu a j hj
end Go.Proofs.Ytjicfkmpgogppaa.Gr
