/-
  The document's Pad.
-/
import Derived.Test.YtelhajoedlaohaaDoorShaP
namespace Go.Proofs.YtelhajoedlaohaaDoor.Sha
set_option linter.unusedVariables false
set_option linter.unusedSimpArgs false
open Go Go.RowKit Go.Proofs.YtelhajoedlaohaaDoor.Plain Go.Proofs.YtelhajoedlaohaaDoor.PD Go.Proofs.YtelhajoedlaohaaDoor.WordsA Go.Proofs.YtelhajoedlaohaaDoor.Bld Go.Proofs.YtelhajoedlaohaaDoorW.PrintWords Go.Proofs.YtelhajoedlaohaaDoorW.PrintLast Go.Proofs.YtelhajoedlaohaaDoorW.PrintMore
def head (i : Nat) : ByteArray := (⟨#[128]⟩ : ByteArray) ++ zeros i
theorem head_size (i : Nat) : (head i).size = 1 + i := by
  unfold head
  rw [ByteArray.size_append, zeros_size]
  rfl
theorem head_zero : head 0 = (⟨#[128]⟩ : ByteArray) := rfl
theorem head_snoc (i : Nat) : head i ++ (⟨#[0]⟩ : ByteArray) = head (i + 1) := by
  unfold head
  rw [ByteArray.append_assoc]
  congr 1
  unfold zeros
  apply ByteArray.ext
  rw [ByteArray.data_append]
  apply Array.ext'
  rw [Array.toList_append]
  show List.replicate i (0 : UInt8) ++ [0] = List.replicate (i + 1) 0
  exact (List.replicate_succ').symm
set_option maxHeartbeats 4000000 in
set_option maxRecDepth 100000 in
theorem rpad_walk (k : Nat) (hk : 10 ≤ k) (n : Nat) (hn : n < 18446744073709551616) (w : World) :
    Calls Tryd.prog 52 #[.int .u64 (n : Int)] w fun e w' => e = .returned (.string (pad n)) ∧ Below w.heap.size w w' := by
  have HK := Aside0.mk hk
  clear hk
  have h0 : (0 : Int) ≤ (n : Int) := by omega
  have h1 : (n : Int) ≤ 18446744073709551615 := by omega
  have hput := Aside0.mk (rput_some (w := 8) (n := ((n * 8 % 18446744073709551616 : Nat) : Int)) k (by omega) (by omega) HK.out)
  have hpad : Aside0 (pad n = head (need n) ++ put 8 ((n * 8 % 18446744073709551616 : Nat) : Int)) := ⟨rfl⟩
  have e8 : IntKind.u64.wrap (8 * (n : Int)) = ((n * 8 % 18446744073709551616 : Nat) : Int) := by rw [IntKind.wrap_u64]; omega
  have e9 : 8 * (n : Int) % 18446744073709551616 = ((n * 8 % 18446744073709551616 : Nat) : Int) := by omega
  have c3 : (put 8 ((n * 8 % 18446744073709551616 : Nat) : Int)).size = 8 := by rw [size_put]; omega
  generalize n * 8 % 18446744073709551616 = m at hput hpad e8 e9 c3
  generalize put 8 (m : Int) = pz at hput hpad c3
  obtain ⟨q, hq⟩ : ∃ q : Nat, n % 64 = q := ⟨_, rfl⟩
  have hnq : Aside0 (need n = (119 - q) % 64) := ⟨by rw [← hq]; rfl⟩
  have eq : (n : Int) % 64 = (q : Int) := by omega
  have hq64 : q < 64 := by omega
  have eq2 : Int.tmod (n : Int) 64 = (q : Int) := by rw [Int.tmod_eq_emod_of_nonneg h0]; exact eq
  have HC3 := Aside0.mk c3
  clear c3 hq
  go_enter Tryd.func52, Tryd.ntmps52
  go_wp2
  go_loopw [3, 4] (fun v3 v4 wr => ∃ i : Nat, i ≤ need n ∧ v3 = .string (head i) ∧ v4 = .int .i64 i ∧ Aside0 (Below w.heap.size w wr)) (fun _ v4 _ => 64 - (intOf v4).toNat)
  case atStart => exact ⟨0, by omega, rfl, rfl, ⟨Below.refl _ _⟩⟩
  case round =>
    obtain ⟨i, hi, rfl, rfl, HB⟩ := hrel
    have hi1 : i < 64 := by rw [hnq.out] at hi; omega
    have hi0 : (0 : Int) ≤ (i : Int) := by omega
    have d1 : (i : Int) < 64 := by omega
    have hsz : (head i).size = 1 + i := head_size i
    by_cases hlt : i < need n
    · have hne : ¬ ((q : Int) + (1 + (i : Int)) + 8) % 64 = 0 := by rw [hnq.out] at hlt; omega
      have hs := Aside0.mk (head_snoc i)
      generalize hH : head i = H at hsz hs ⊢
      clear hH
      have c5 : (H.size + 1 ≤ 9223372036854775807) = True := eq_true (by omega)
      have c6 : (9223372036854775807 < H.size + 1) = False := eq_false (by omega)
      have hszI : (H.size : Int) = 1 + (i : Int) := by omega
      have hsz' := Aside0.mk hsz
      clear hsz hi
      go_wp2
      go_roundw
      case rel => exact ⟨i + 1, by omega, by rw [hs.out], by go_num, HB⟩
      case measure => simp [intOf]; omega
    · obtain rfl : i = need n := by omega
      have hne : ((q : Int) + (1 + (need n : Int)) + 8) % 64 = 0 := by rw [hnq.out]; omega
      generalize hH : head (need n) = H at hsz hpad ⊢
      clear hH
      generalize need n = i at *
      have c5 : (H.size + pz.size ≤ 9223372036854775807) = True := eq_true (by rw [HC3.out]; omega)
      have c6 : (9223372036854775807 < H.size + pz.size) = False := eq_false (by rw [HC3.out]; omega)
      have hszI : (H.size : Int) = 1 + (i : Int) := by omega
      clear hsz hi hlt
      go_wp2_with (go_at_call 62; (with_reducible refine (precinctref01_Put.calls k 8 (m : Int) pz _ hput.out).mono ?_); rintro e w4 ⟨rfl, hb⟩; have HB4 := Aside0.mk (below_step HB.out hb); clear hb)
      go_ret
      exact ⟨by rw [hpad.out]; rfl, HB4.out⟩
end Go.Proofs.YtelhajoedlaohaaDoor.Sha
