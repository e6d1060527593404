/-
  GraphNames' own closure: a text's small letters by some letters on; walked.
-/
import Derived.Test.YtjicfkmpgogppaaGrN
import Derived.Tactics
import Derived.Tactics2
import Derived.LoopTactic
import Derived.Outline
import Derived.WalkSmall
namespace Go.Proofs.Ytjicfkmpgogppaa.Tn
set_option linter.unusedVariables false
set_option linter.unusedSimpArgs false
open Go Go.RowKit Go.Proofs.Ytjicfkmpgogppaa.Plain Go.Proofs.Ytjicfkmpgogppaa.Gr Go.Proofs.Ytjicfkmpgogppaa.PG Go.Proofs.YtjicfkmpgogppaaW.PrintWords Go.Proofs.YtjicfkmpgogppaaW.PrintLast Go.Proofs.YtjicfkmpgogppaaW.PrintMore
attribute [local go_sem] max2_int min2_int max_two min_two max_three min_three max_four min_four   -- for this text's walks alone
theorem reads_set {W : World} {g n : Nat} {xs : List Int} (h : ReadsInt W .u8 (some ⟨g, 0, none⟩) n xs) (i : Nat) (hi : i < n) (v : Int) {old : Value} (hc : W.cell? ⟨g, i, none⟩ = some old) : ReadsInt (W.setCell ⟨g, i, none⟩ (.int .u8 v)) .u8 (some ⟨g, 0, none⟩) n (xs.set i v) := by
  refine ⟨by rw [List.length_set]; exact h.1, h.2.1, fun hp => ?_⟩
  obtain ⟨ad, e, hcell⟩ := h.2.2 hp
  obtain rfl := Option.some.inj e
  have hn := h.1
  refine ⟨_, rfl, fun j hj => ?_⟩
  have hc2 := hcell j hj
  rw [add_plain] at hc2 ⊢
  by_cases c : j = i
  · subst c
    rw [World.cell?_setCell_same _ _ _ hc]
    simp [List.getD_eq_getElem?_getD, List.getElem?_set, hn, hi]
  · rw [World.cell?_setCell_other _ _ _ _ (show (⟨g, i, none⟩ : Addr) ≠ ⟨g, j, none⟩ from fun e => c (by injection e with _ e2; exact e2.symm)), hc2]
    simp [List.getD_eq_getElem?_getD, List.getElem?_set, Ne.symm c]
/-- the bytes, the first i of them turned -/
def L (k : Int) (s : ByteArray) (i : Nat) : List Int := ((bytesOf s).take i).map (tb k) ++ (bytesOf s).drop i
theorem L_zero (k : Int) (s : ByteArray) : L k s 0 = bytesOf s := rfl
theorem L_end (k : Int) (s : ByteArray) : strOfNums (L k s s.size) = turn k s := by
  unfold L turn
  rw [List.take_of_length_le (by rw [bytesOf_length]; exact Nat.le_refl _), List.drop_of_length_le (by rw [bytesOf_length]; exact Nat.le_refl _), List.append_nil]
  rfl
theorem L_at (k : Int) (s : ByteArray) (i : Nat) (h : i < s.size) : (L k s i).getD i 0 = bt s i := by
  have hl := bytesOf_length s
  unfold L
  have e : (((bytesOf s).take i).map (tb k)).length = i := by rw [List.length_map, List.length_take]; omega
  rw [List.getD_eq_getElem?_getD, List.getElem?_append_right (by omega), e, Nat.sub_self, List.getElem?_drop, Nat.add_zero, ← List.getD_eq_getElem?_getD]
  have := rd_bytesOf s (i : Int)
  unfold rd at this
  rwa [Int.toNat_natCast] at this
theorem L_set (k : Int) (s : ByteArray) (i : Nat) (h : i < s.size) : (L k s i).set i (tb k (bt s i)) = L k s (i + 1) := by
  have hl := bytesOf_length s
  have hi : i < (bytesOf s).length := by omega
  have e : (((bytesOf s).take i).map (tb k)).length = i := by rw [List.length_map, List.length_take]; omega
  have hb : (bytesOf s)[i] = bt s i := by
    have := rd_bytesOf s (i : Int)
    unfold rd at this
    rw [Int.toNat_natCast, List.getD_eq_getElem?_getD, List.getElem?_eq_getElem hi] at this
    exact this
  unfold L
  rw [List.set_append_right _ _ (by omega), e, Nat.sub_self, List.drop_eq_getElem_cons hi, List.set_cons_zero, List.take_succ_eq_append_getElem hi, List.map_append, List.append_assoc, hb]
  rfl
theorem L_skip (k : Int) (s : ByteArray) (i : Nat) (h : i < s.size) (hb : tb k (bt s i) = bt s i) : L k s i = L k s (i + 1) := by
  rw [← L_set k s i h, hb]
  have := L_at k s i h
  have hl := bytesOf_length s
  have hi : i < (L k s i).length := by unfold L; rw [List.length_append, List.length_map, List.length_take, List.length_drop]; omega
  rw [List.getD_eq_getElem?_getD, List.getElem?_eq_getElem hi] at this
  rw [← this]
  exact (List.set_getElem_self hi).symm
theorem bt_range (s : ByteArray) (i : Nat) : 0 ≤ bt s i ∧ bt s i < 256 := by
  unfold bt
  split
  · have := UInt8.toNat_lt (s[(i : Int).toNat]'(by assumption))
    omega
  · omega
set_option maxHeartbeats 8000000 in
set_option maxRecDepth 100000 in
theorem turn_walk (s : ByteArray) (y : Int) (bn : Nat) (w : World) (hs : s.size ≤ 9223372036854775807) (hn : w.heap[bn]? = some (.cells #[.int .i64 y] 3 (0, 0))) :
    Calls Try.prog 20 #[.string s, .pointer (some ⟨bn, 0, none⟩)] w fun e w' => e = .returned (.string (turn (mx 0 y % 26) s)) ∧ Below w.heap.size w w' := by
  have kb := fun W => print_bytes (P := Try.prog) 9 44 5 Try.underlying9 Try.underlying44 Try.underlying5 s W
  have HN := Aside0.mk hn
  obtain ⟨m, hm, hm0⟩ : ∃ m : Int, mx 0 y = m ∧ 0 ≤ m := ⟨_, rfl, by unfold mx; (repeat' split) <;> omega⟩
  have hm_ : (if 0 < y then y else 0) = m := hm
  rw [hm]
  clear hn
  go_enter Try.func20, Try.ntmps20
  go_upto_region 2 with fail
  have HB : Below w.heap.size w (Lib.bytesWorld w 5 s) := bytes_below (Below.refl w.heap.size w) (Nat.le_refl _) 5 s
  have hr := bytes_reads w 5 s (by omega)
  have hz : ∀ p, p < s.size → (Lib.bytesWorld w 5 s).frozen? ⟨w.heap.size, p, none⟩ = false := fun p hp => by
    have hsz : p < (Lib.bytesCells w 5 s).size := by simp [Lib.bytesCells]; omega
    simp [World.frozen?, Lib.bytesWorld_at_new]
    omega
  have HN2 := blk_below HN.out HB
  have hne : bn ≠ w.heap.size := Nat.ne_of_lt (blk_lt HN.out)
  generalize Lib.bytesWorld w 5 s = W at HB hr hz HN2 ⊢
  obtain ⟨b0, hb0⟩ : ∃ b : Nat, w.heap.size = b := ⟨_, rfl⟩
  generalize grownCap w s.size 0 5 = cap
  rw [hb0] at HB hr hz hne ⊢
  have hgb : b0 ≤ b0 := Nat.le_refl _
  generalize hg0 : b0 = g at hr hz hne ⊢
  have hg1 : b0 ≤ g := Nat.le_of_eq hg0
  go_wp2
  go_loopw [11] (fun v11 wr => ∃ i : Nat, v11 = .int .i64 (i : Int) ∧ i ≤ s.size ∧ Aside0 (Below b0 w wr) ∧ Aside0 (ReadsInt wr .u8 (some ⟨g, 0, none⟩) s.size (L (m % 26) s i)) ∧ Aside0 (∀ p, p < s.size → wr.frozen? ⟨g, p, none⟩ = false) ∧ Aside0 (wr.heap[bn]? = some (.cells #[.int .i64 y] 3 (0, 0)))) (fun v11 _ => s.size - (intOf v11).toNat)
  case atStart => exact ⟨0, rfl, Nat.zero_le _, ⟨HB⟩, ⟨hr⟩, ⟨hz⟩, ⟨HN2⟩⟩
  case round =>
    obtain ⟨i, rfl, hi, HB, HR, HZ, HN⟩ := hrel
    by_cases hlt : i < s.size
    · have hcell : wr.cell? ⟨g, i, none⟩ = some (.int .u8 (bt s i)) := by
        obtain ⟨ad, e, hc⟩ := HR.out.2.2 (by omega)
        obtain rfl := Option.some.inj e
        have := hc i hlt
        rwa [add_plain, L_at _ s i hlt] at this
      have hfz := HZ.out i hlt
      have hbx : wr.cell? ⟨bn, 0, none⟩ = some (.int .i64 y) := (blk_cell HN.out 0).trans rfl
      have hi0 : (0 : Int) ≤ (i : Int) := by omega
      have hi1 : (i : Int) < (s.size : Int) := by omega
      have hrg := bt_range s i
      generalize hcv : bt s i = c at hcell hrg
      by_cases h1 : 97 ≤ c
      · by_cases h2 : c ≤ 122
        · go_wp2
          go_roundw
          case rel =>
            have e : 97 + (c - 97 + m) % 26 = tb (m % 26) c := by unfold tb; rw [if_pos ⟨h1, h2⟩]; omega
            have hr2 := reads_set HR.out i hlt (tb (m % 26) c) hcell
            have e2 : (L (m % 26) s i).set i (tb (m % 26) c) = L (m % 26) s (i + 1) := by rw [← hcv]; exact L_set _ s i hlt
            rw [e2] at hr2
            rw [e]
            exact ⟨i + 1, by go_num, by omega, ⟨HB.out.setCell hg1 _⟩, ⟨hr2⟩, ⟨fun p hp => (World.frozen?_setCell _ _ _ _).trans (HZ.out p hp)⟩, ⟨blk_far HN.out hne _⟩⟩
          case measure => simp [intOf]; omega
        · go_wp2
          go_roundw
          case rel => exact ⟨i + 1, by go_num, by omega, HB, ⟨by rw [← L_skip (m % 26) s i hlt (by rw [hcv]; unfold tb; rw [if_neg (by omega)])]; exact HR.out⟩, HZ, HN⟩
          case measure => simp [intOf]; omega
      · go_wp2
        go_roundw
        case rel => exact ⟨i + 1, by go_num, by omega, HB, ⟨by rw [← L_skip (m % 26) s i hlt (by rw [hcv]; unfold tb; rw [if_neg (by omega)])]; exact HR.out⟩, HZ, HN⟩
        case measure => simp [intOf]; omega
    · obtain rfl : i = s.size := by omega
      have hge : ¬ ((s.size : Int) < (s.size : Int)) := by omega
      have ks0 := string_of_reads (P := Try.prog) Try.underlying44 Try.underlying5 Try.underlying9 HR.out (c := cap)
      rw [L_end] at ks0
      go_wp2
      go_ret
      exact ⟨rfl, by rw [← hg0]; exact HB.out⟩
end Go.Proofs.Ytjicfkmpgogppaa.Tn
