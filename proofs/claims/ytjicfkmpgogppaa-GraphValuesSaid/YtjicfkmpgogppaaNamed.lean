/-
  grant.Named: is the text a name?
-/
import Derived.Test.YtjicfkmpgogppaaPGx0
import Derived.Test.YtjicfkmpgogppaaPlain
import Derived.Tactics
import Derived.Tactics2
import Derived.LoopTactic
import Derived.Laws.RangeAny
import Derived.Laws.RangeString
namespace Go.Proofs.Ytjicfkmpgogppaa.Nm
set_option linter.unusedVariables false
set_option linter.unusedSimpArgs false
open Go Go.RowKit Go.Proofs.Ytjicfkmpgogppaa.Plain Go.Proofs.Ytjicfkmpgogppaa.PG Go.Proofs.YtjicfkmpgogppaaW.PrintWords Go.Proofs.YtjicfkmpgogppaaW.PrintLast Go.Proofs.YtjicfkmpgogppaaW.PrintMore
/-- a small letter or a digit -/
def isL (n : Int) : Bool := decide ((97 ≤ n ∧ n ≤ 122) ∨ (48 ≤ n ∧ n ≤ 57))
def named (s : ByteArray) : Bool := decide (1 ≤ s.size ∧ s.size ≤ 16) && (List.range s.size).all (fun j => isL (bt s j))
theorem bt_at' (s : ByteArray) (i : Nat) (h : i < s.size) : bt s i = ((s[i]'h).toNat : Int) := by
  unfold bt
  rw [dif_pos (by omega)]
  simp
theorem named_not (s : ByteArray) (i : Nat) (h : i < s.size) (hn : isL (bt s i) = false) : named s = false := by
  unfold named
  rw [Bool.and_eq_false_iff]
  right
  rw [Bool.eq_false_iff]
  intro ha
  rw [List.all_eq_true] at ha
  rw [ha i (List.mem_range.mpr h)] at hn
  exact absurd hn (by decide)
theorem named_all (s : ByteArray) (h : ∀ j : Nat, j < s.size → isL (bt s j) = true) : named s = decide (1 ≤ s.size ∧ s.size ≤ 16) := by
  unfold named
  have ha : (List.range s.size).all (fun j => isL (bt s j)) = true := List.all_eq_true.mpr (fun j hj => h j (List.mem_range.mp hj))
  rw [ha, Bool.and_true]
theorem isL_low {r : Int} (h : isL r = true) : r < 128 := by
  unfold isL at h
  have := of_decide_eq_true h
  omega
set_option maxHeartbeats 4000000 in
set_option maxRecDepth 1000000 in
theorem named_walk (s : ByteArray) (w : World) :
    Calls Try.prog 49 #[.string s] w fun e w' => e = .returned (.bool (named s)) ∧ Below w.heap.size w w' := by
  go_enter Try.func49, Try.ntmps49
  go_wp2
  go_loopw [] (fun w' => ∃ pos : Nat, w' = w.iter s pos ∧ pos ≤ s.size ∧ Aside0 (∀ j : Nat, j < pos → isL (bt s j) = true)) (fun w' => s.size - w'.iterPos w.heap.size)
  case atStart => exact ⟨0, rfl, by omega, ⟨fun j hj => by omega⟩⟩
  case round =>
    obtain ⟨pos, rfl, hle, HA⟩ := hrel
    have hbel : Below w.heap.size w (w.iter s pos) := below_alloc (Below.refl _ _) _
    by_cases hp : pos < s.size
    · obtain ⟨R, n, hnx, hc⟩ : ∃ (R : Int) (n : Nat), (∀ ty, (Instr.next (.pointer (some ⟨w.heap.size, 0, none⟩)) true ty).run Try.prog (w.iter s pos) = .ok (.tuple #[.bool true, .int .i64 pos, .int .i32 R]) (w.iter s (pos + n))) ∧ ((isL R = true → bt s pos = R ∧ n = 1) ∧ (isL R = false → isL (bt s pos) = false)) := by
        refine ⟨_, _, fun ty => run_next_any w s pos ty hp, ?_⟩
        have hb := bt_at' s pos hp
        by_cases ha : (s[pos]'hp).toNat < 128
        · rw [decode_ascii s pos hp ha]
          refine ⟨fun _ => ⟨hb, rfl⟩, fun h => ?_⟩
          rw [hb]; exact h
        · have hd := (decode_high s pos hp (by omega)).1
          refine ⟨fun h => absurd (isL_low h) (by omega), fun _ => ?_⟩
          rw [hb]
          cases hx : isL ((s[pos]'hp).toNat : Int) with
          | false => rfl
          | true => exact absurd (isL_low hx) (by omega)
      rcases (show R < 48 ∨ (48 ≤ R ∧ R ≤ 57) ∨ (57 < R ∧ R < 97) ∨ (97 ≤ R ∧ R ≤ 122) ∨ 122 < R by omega) with h | h | h | h | h
      · have d1 : decide (R < 97) = true := by simp; omega
        have d2 : decide (122 < R) = false := by simp; omega
        have d3 : decide (R < 48) = true := by simp; omega
        have d4 : decide (57 < R) = false := by simp; omega
        have hl : isL R = false := by unfold isL; simp; omega
        go_wp2
        go_ret
        exact ⟨by rw [named_not s pos hp (hc.2 hl)]; rfl, below_alloc (Below.refl _ _) _⟩
      · have d1 : decide (R < 97) = true := by simp; omega
        have d2 : decide (122 < R) = false := by simp; omega
        have d3 : decide (R < 48) = false := by simp; omega
        have d4 : decide (57 < R) = false := by simp; omega
        have hl : isL R = true := by unfold isL; simp; omega
        obtain ⟨hb, h1⟩ := hc.1 hl
        subst h1
        go_wp2
        go_roundw
        case rel =>
          refine ⟨pos + 1, rfl, by omega, ⟨fun j hj => ?_⟩⟩
          by_cases c : j = pos
          · rw [c, hb]; exact hl
          · exact HA.out j (by omega)
        case measure =>
          simp
          omega
      · have d1 : decide (R < 97) = true := by simp; omega
        have d2 : decide (122 < R) = false := by simp; omega
        have d3 : decide (R < 48) = false := by simp; omega
        have d4 : decide (57 < R) = true := by simp; omega
        have hl : isL R = false := by unfold isL; simp; omega
        go_wp2
        go_ret
        exact ⟨by rw [named_not s pos hp (hc.2 hl)]; rfl, below_alloc (Below.refl _ _) _⟩
      · have d1 : decide (R < 97) = false := by simp; omega
        have d2 : decide (122 < R) = false := by simp; omega
        have d3 : decide (R < 48) = false := by simp; omega
        have d4 : decide (57 < R) = true := by simp; omega
        have hl : isL R = true := by unfold isL; simp; omega
        obtain ⟨hb, h1⟩ := hc.1 hl
        subst h1
        go_wp2
        go_roundw
        case rel =>
          refine ⟨pos + 1, rfl, by omega, ⟨fun j hj => ?_⟩⟩
          by_cases c : j = pos
          · rw [c, hb]; exact hl
          · exact HA.out j (by omega)
        case measure =>
          simp
          omega
      · have d1 : decide (R < 97) = false := by simp; omega
        have d2 : decide (122 < R) = true := by simp; omega
        have d3 : decide (R < 48) = false := by simp; omega
        have d4 : decide (57 < R) = true := by simp; omega
        have hl : isL R = false := by unfold isL; simp; omega
        go_wp2
        go_ret
        exact ⟨by rw [named_not s pos hp (hc.2 hl)]; rfl, below_alloc (Below.refl _ _) _⟩
    · have hnx : ∀ ty, (Instr.next (.pointer (some ⟨w.heap.size, 0, none⟩)) true ty).run Try.prog (w.iter s pos) = .ok (.tuple #[.bool false]) (w.iter s pos) := fun ty => run_next_end w s pos ty hp
      have hz := named_all s (fun j hj => HA.out j (by omega))
      by_cases h0 : s.size = 0
      · have he : s.toList.isEmpty = true := by
          have hl : s.data.toList.length = s.size := Array.length_toList
          have hn : s.data.toList = [] := List.eq_nil_of_length_eq_zero (by omega)
          rw [toList_data, hn]; rfl
        go_wp2
        go_ret
        exact ⟨by rw [hz]; simp [h0], below_alloc (Below.refl _ _) _⟩
      · have he : s.toList.isEmpty = false := by
          have hl : s.data.toList.length = s.size := Array.length_toList
          rw [toList_data, Bool.eq_false_iff]
          intro h
          rw [List.isEmpty_iff.mp h] at hl
          exact h0 (by simpa using hl.symm)
        go_wp2
        go_ret
        exact ⟨by rw [hz, show decide (1 ≤ s.size ∧ s.size ≤ 16) = decide ((s.size : Int) ≤ 16) from by rw [decide_eq_decide]; omega]; rfl, below_alloc (Below.refl _ _) _⟩
end Go.Proofs.Ytjicfkmpgogppaa.Nm
