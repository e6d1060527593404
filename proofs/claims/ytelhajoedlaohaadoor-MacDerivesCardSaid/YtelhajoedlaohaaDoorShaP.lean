/-
  sha.Pad.
-/
import Derived.Test.YtelhajoedlaohaaDoorShaT
import Derived.Test.YtelhajoedlaohaaDoorShelf
namespace Go.Proofs.YtelhajoedlaohaaDoor.Sha
set_option linter.unusedVariables false
set_option linter.unusedSimpArgs false
open Go Go.RowKit Go.Proofs.YtelhajoedlaohaaDoor.Plain Go.Proofs.YtelhajoedlaohaaDoor.PD Go.Proofs.YtelhajoedlaohaaDoor.WordsA Go.Proofs.YtelhajoedlaohaaDoor.Bld Go.Proofs.YtelhajoedlaohaaDoorW.PrintWords Go.Proofs.YtelhajoedlaohaaDoorW.PrintLast Go.Proofs.YtelhajoedlaohaaDoorW.PrintMore
def zeros (n : Nat) : ByteArray := ⟨(List.replicate n (0 : UInt8)).toArray⟩
theorem zeros_size (n : Nat) : (zeros n).size = n := by simp [zeros, ByteArray.size]
def need (n : Nat) : Nat := (119 - n % 64) % 64
def pad (n : Nat) : ByteArray := ((⟨#[128]⟩ : ByteArray) ++ zeros (need n)) ++ put 8 ((n * 8 % 18446744073709551616 : Nat) : Int)
theorem repeat_zeros (n : Nat) : (⟨(Lib.repeatL [0] n).toArray⟩ : ByteArray) = zeros n := by
  unfold zeros
  congr 2
  induction n with
  | zero => rfl
  | succ n ih => rw [Lib.repeatL, ih]; rfl
theorem pad_size (n : Nat) : (pad n).size = 9 + need n := by
  unfold pad
  rw [ByteArray.size_append, ByteArray.size_append, zeros_size, size_put]
  show 1 + need n + _ = _
  omega
set_option maxHeartbeats 4000000 in
set_option maxRecDepth 100000 in
theorem pad_walk (k : Nat) (hk : 10 ≤ k) (n : Nat) (hn : n < 18446744073709551616) (w : World) :
    Calls Tryd.prog 17 #[.int .u64 (n : Int)] w fun e w' => e = .returned (.string (pad n)) ∧ Below w.heap.size w w' := by
  have HK := Aside0.mk hk
  clear hk
  have h0 : (0 : Int) ≤ (n : Int) := by omega
  have h1 : (n : Int) ≤ 18446744073709551615 := by omega
  have hR := fun w => Aside0.mk (Tryd.strings_Repeat ⟨#[0]⟩ (need n) w (by unfold need; omega) (by show 1 * _ ≤ _; unfold need; omega))
  have hRz := Aside0.mk (repeat_zeros (need n))
  have hput := Aside0.mk (put_some (w := 8) (n := ((n * 8 % 18446744073709551616 : Nat) : Int)) k (by omega) (by omega) HK.out)
  have hpz : Aside0 ((put 8 ((n * 8 % 18446744073709551616 : Nat) : Int)).size = 8) := ⟨by rw [size_put]; omega⟩
  have hpad : Aside0 (pad n = ((⟨#[128]⟩ : ByteArray) ++ zeros (need n)) ++ put 8 ((n * 8 % 18446744073709551616 : Nat) : Int)) := ⟨rfl⟩
  go_enter Tryd.func17, Tryd.ntmps17
  go_upto_region 2 with fail
  have hm : (119 - (n : Int) % 64) % 64 = ((need n : Nat) : Int) := by unfold need; omega
  rw [hm]
  clear hm
  have hnd : need n < 64 := by unfold need; omega
  have e8 : IntKind.u64.wrap ((n : Int) * 8) = ((n * 8 % 18446744073709551616 : Nat) : Int) := by rw [IntKind.wrap_u64]; omega
  have e9 : (n : Int) * 8 % 18446744073709551616 = ((n * 8 % 18446744073709551616 : Nat) : Int) := by omega
  generalize n * 8 % 18446744073709551616 = m at e8 e9 hput hpz hpad
  generalize need n = d at hR hRz hnd hpad ⊢
  have hd1 : (d : Int) < 64 := by omega
  have hzz : Aside0 ((zeros d).size = d) := ⟨zeros_size d⟩
  have c1 : Aside0 (((⟨#[128]⟩ : ByteArray) ++ zeros d).size ≤ 1000) := ⟨by rw [ByteArray.size_append, hzz.out]; show 1 + d ≤ _; omega⟩
  have c2 : ((⟨#[128]⟩ : ByteArray) ++ zeros d).size ≤ 9223372036854775807 := Nat.le_trans c1.out (by decide)
  have c4 : (zeros d).size ≤ 1000 := by rw [hzz.out]; omega
  generalize put 8 (m : Int) = pz at hput hpz hpad
  have c3 : pz.size = 8 := hpz.out
  generalize hz : zeros d = Z at hRz hpad c1 c2 c4
  have c5 : 1 + Z.size ≤ 9223372036854775807 := by omega
  have c6 : ((⟨#[128]⟩ : ByteArray) ++ Z).size + pz.size ≤ 9223372036854775807 := by rw [c3]; have := c1.out; omega
  have c7 : (9223372036854775807 < ((⟨#[128]⟩ : ByteArray) ++ Z).size + pz.size) = False := eq_false (Nat.not_lt.2 c6)
  have c8 : (9223372036854775807 < 1 + Z.size) = False := eq_false (Nat.not_lt.2 c5)
  have c6 := eq_true c6
  have c5 := eq_true c5
  clear c1 c2 c4 hz
  have HC3 := Aside0.mk c3
  clear c3
  go_wp2_with (first
    | (go_at_call 34; (with_reducible refine ((hR _).out).mono ?_); rintro e w3 ⟨rfl, hb⟩; rw [hRz.out]; have HB3 := Aside0.mk hb; clear hb)
    | (go_at_call 35; (with_reducible refine (words_Put.calls k 8 (m : Int) pz _ hput.out).mono ?_); rintro e w4 ⟨rfl, hb⟩; have HB4 := Aside0.mk (below_step HB3.out hb); clear hb))
  go_ret
  exact ⟨by rw [hpad.out]; rfl, HB4.out⟩
end Go.Proofs.YtelhajoedlaohaaDoor.Sha
