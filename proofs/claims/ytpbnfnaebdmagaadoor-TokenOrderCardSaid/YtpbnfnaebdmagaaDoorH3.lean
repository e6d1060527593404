/-
  sha.Begin, sha.State.Text.
  sha.Pad.
  The document's Pad.
  sha.Sum.
  The document's turn and shift.
  The document's block over natural numbers is the program's.
  The document's Begin, Roots and Text.
  pack's reader of a value: the ways that end in a panic.
  pack's reader of a value: a list's ways that end in a panic.
  pack's reader and the plain reader are one.
  pack's reader of a value and the plain reader are one.
  pack.Get: the deferred closure, by its two contracts; the whole.
-/
import Derived.Test.YtpbnfnaebdmagaaDoorShaB
import Derived.Test.YtpbnfnaebdmagaaDoorH2
import Derived.Test.YtpbnfnaebdmagaaDoorH1
import Derived.Test.YtpbnfnaebdmagaaDoorH0
import Derived.Test.YtpbnfnaebdmagaaDoorPTx9
import Derived.Tactics
import Derived.Tactics2
import Derived.Defers
import Derived.Laws.Pointers
namespace Go.Proofs.YtpbnfnaebdmagaaDoor.Sha
set_option linter.unusedVariables false
set_option linter.unusedSimpArgs false
open Go Go.RowKit Go.Proofs.YtpbnfnaebdmagaaDoor.Plain Go.Proofs.YtpbnfnaebdmagaaDoor.PT Go.Proofs.YtpbnfnaebdmagaaDoor.WordsA Go.Proofs.YtpbnfnaebdmagaaDoor.Bld Go.Proofs.YtpbnfnaebdmagaaDoorW.PrintWords Go.Proofs.YtpbnfnaebdmagaaDoorW.PrintLast Go.Proofs.YtpbnfnaebdmagaaDoorW.PrintMore
/-- the state ahead of the first block -/
def init : List Nat := [1779033703, 3144134277, 1013904242, 2773480762, 1359893119, 2600822924, 528734635, 1541459225]
/-- the bytes of the first words of a state -/
def txt (s : List Nat) : Nat → ByteArray
  | 0 => ByteArray.empty
  | i + 1 => txt s i ++ put 4 (G s i : Nat)
theorem txt_size (s : List Nat) : ∀ i, (txt s i).size = 4 * i
  | 0 => rfl
  | i + 1 => by rw [txt, ByteArray.size_append, txt_size s i, size_put]; omega
theorem bldb {T e : TypeId} {B b : Nat} {bs : List Value} {w w1 : World} (h : Lib.IsBuilder T e B b bs w) (hb : Below w.heap.size w w1) : Lib.IsBuilder T e B b bs w1 := by
  have key : ∀ {p : Value}, Lib.BuilderAt T e B b p bs w → Lib.BuilderAt T e B b p bs w1 := by
    rintro p ⟨hB, v, hbk, hown, hne⟩
    exact ⟨hB, v, (hb.block b (blk_lt hbk)).trans hbk, pw_own_below hown hb, hne⟩
  rcases h with h | h
  · exact .inl (key h)
  · exact .inr (key h)
set_option maxHeartbeats 4000000 in
set_option maxRecDepth 100000 in
theorem begin_walk (w : World) :
    Calls Tryd.prog 59 #[] w fun e w' => e = .returned (.agg (arr .u32 init)) ∧ Below w.heap.size w w' := by
  go_enter Tryd.func59, Tryd.ntmps59
  go_wp2
  exact bodyPost_ret (v := .agg (arr .u32 init)) (by simp [results, Tryd.results59, go_sem, arr, init]) rfl ⟨rfl, below_alloc (Below.refl _ _) _⟩
set_option maxHeartbeats 4000000 in
set_option maxRecDepth 1000000 in
theorem text_walk (k : Nat) (hk : 10 ≤ k) (s : List Nat) (w : World) (hs : s.length = 8) (hsb : bnd s 4294967296) :
    Calls Tryd.prog 62 #[.agg (arr .u32 s)] w fun e w' => e = .returned (.string (txt s 8)) ∧ Below w.heap.size w w' := by
  have HS := Aside0.mk hs
  have HK := Aside0.mk hk
  have HSB := Aside0.mk hsb
  clear hs hk hsb
  have hsL := (Tryd.underlying115 : Tryd.prog.underlying 115 = _)
  have hi8 : (Tryd.prog.info? 115).map (·.size) = some (arr .u32 s).size := by rw [arr_size, HS.out]; kernel_rfl
  have hI8 := Aside0.mk hi8
  clear hi8
  go_enter Tryd.func62, Tryd.ntmps62
  go_upto_region 2 with fail
  have HI := Aside0.mk (Lib.fresh_isBuilder 81 5 (w.alloc (.cells (arr .u32 s) 115)))
  have hb0 := blk_alloc (blk_new w (.cells (arr .u32 s) 115)) (.cells #[.pointer none, .slice none 0 0] 81)
  have hB0 := below_alloc (below_alloc (Below.refl w.heap.size w) (.cells (arr .u32 s) 115)) (.cells #[.pointer none, .slice none 0 0] 81)
  have hz : (w.alloc (.cells (arr .u32 s) 115)).heap.size = w.heap.size + 1 := by show (w.heap.push _).size = _; exact Array.size_push _
  have HI2 : Aside0 (Lib.IsBuilder 81 5 (w.heap.size + 1) (w.heap.size + 1) (Lib.byteCells (txt s 0).data.toList) ((w.alloc (.cells (arr .u32 s) 115)).alloc (.cells #[.pointer none, .slice none 0 0] 81))) := ⟨by have h := HI.out; rw [hz] at h; exact h⟩
  have HB := Aside0.mk hB0
  have hbz : Aside0 (w.heap.size + 1 ≤ ((w.alloc (.cells (arr .u32 s) 115)).alloc (.cells #[.pointer none, .slice none 0 0] 81)).heap.size) := ⟨by rw [← hz]; exact (below_alloc (Below.refl _ _) _).size⟩
  clear HI hz hB0
  generalize (w.alloc (.cells (arr .u32 s) 115)).alloc (.cells #[.pointer none, .slice none 0 0] 81) = w2 at HI2 HB hb0 hbz ⊢
  have Hb0 := Aside0.mk hb0
  clear hb0
  go_upto_block 1 with (refine wpList_load_row rfl 115 (.tmp 1) rfl w.heap.size rfl 115 _ (0, 0) _ Hb0.out hsL rfl hI8.out ?_)
  have hA : arr .u32 s = (s.map fun n : Nat => Value.int .u32 (n : Int)).toArray := rfl
  rw [hA]
  clear hA
  go_wp2
  go_loopw [7] (fun v7 wr => ∃ i : Nat, i ≤ 8 ∧ v7 = .int .i64 i ∧ Aside0 (Lib.IsBuilder 81 5 (w.heap.size + 1) (w.heap.size + 1) (Lib.byteCells (txt s i).data.toList) wr) ∧ Aside0 (Below w.heap.size w wr) ∧ Aside0 (w.heap.size + 1 ≤ wr.heap.size)) (fun v7 _ => 8 - (intOf v7).toNat)
  case atStart => exact ⟨0, by omega, rfl, HI2, HB, hbz⟩
  case round =>
    clear HI2 HB Hb0 hbz
    obtain ⟨i, hi, rfl, HI, HB, HZ⟩ := hrel
    have hi0 : (0 : Int) ≤ (i : Int) := by omega
    by_cases hlt : i < 8
    · have d1 : (i : Int) < 8 := by omega
      have ix : ∀ w : World, (Instr.index 115 (.agg (s.map fun n : Nat => Value.int .u32 (n : Int)).toArray) (.int .i64 (i : Int))).run Tryd.prog w = .ok (.int .u32 (G s i : Nat)) w := run_index_arr (P := Tryd.prog) (k := .i64) hsL (Tryd.underlying89 : Tryd.prog.underlying 89 = _) rfl (by kernel_rfl) (arr_at .u32 s i (by rw [HS.out]; exact hlt)) hlt
      have hx := G_lt HSB.out (by decide) i
      have hput := Aside0.mk (put_some (w := 4) (n := (G s i : Nat)) k (by omega) (by omega) HK.out)
      have hpz : Aside0 ((put 4 (G s i : Nat)).size = 4) := ⟨by rw [size_put]; omega⟩
      have htx : Aside0 (txt s (i + 1) = txt s i ++ put 4 (G s i : Nat)) := ⟨rfl⟩
      generalize G s i = x at ix hx hput hpz htx
      generalize put 4 (x : Int) = px at hput hpz htx
      have hw64 : IntKind.u64.wrap (x : Int) = (x : Int) := IntWalk.u64_in _ (by omega)
      have hsz : Aside0 ((txt s i).data.toList.length = 4 * i) := ⟨by have := txt_size s i; rw [Array.length_toList]; exact this⟩
      go_wp2_with (first
        | (go_at_call 57; (with_reducible refine (words_Put.calls k 4 (x : Int) px _ hput.out).mono ?_); rintro e w3 ⟨rfl, hb⟩; have HI3 := Aside0.mk (bldb HI.out hb); have HB3 := Aside0.mk (below_step HB.out hb); have HZ3 := Aside0.mk (Nat.le_trans HZ.out hb.size); clear hb HI HB HZ)
        | (go_at_call 56; (with_reducible refine (writeString _ _ _ px _ HI3.out ?c1 HZ3.out).mono ?_); (case c1 => rw [Lib.byteCells_length, hsz.out, hpz.out]; omega); rintro e w4 ⟨rfl, hI4, hb4, _⟩; have HI4 := Aside0.mk hI4; have HB4 := Aside0.mk hb4; clear hI4 hb4))
      go_roundw
      case rel =>
        refine ⟨i + 1, by omega, by go_num, ⟨Or.inr ?_⟩, ⟨?_⟩, ⟨Nat.le_trans HZ3.out HB4.out.size⟩⟩
        · have h := HI4.out
          rw [Lib.strCells_eq, ← Lib.byteCells_append, ← Array.toList_append, ← ByteArray.data_append, ← htx.out] at h
          exact h
        · exact HB3.out.trans ⟨HB4.out.os, HB4.out.tape, HB4.out.output, HB4.out.size, fun j hj => HB4.out.block j (by omega)⟩
      case measure => simp [intOf]; omega
    · obtain rfl : i = 8 := by omega
      go_wp2_with (go_at_call 38; (with_reducible refine (string_any _ _ _ _ HI.out HZ.out).mono ?_); rintro e w4 ⟨rfl, hb4⟩; have HB4 := Aside0.mk hb4; clear hb4)
      go_ret
      exact ⟨rfl, HB.out.trans ⟨HB4.out.os, HB4.out.tape, HB4.out.output, HB4.out.size, fun j hj => HB4.out.block j (by omega)⟩⟩
end Go.Proofs.YtpbnfnaebdmagaaDoor.Sha
namespace Go.Proofs.YtpbnfnaebdmagaaDoor.Sha
set_option linter.unusedVariables false
set_option linter.unusedSimpArgs false
open Go Go.RowKit Go.Proofs.YtpbnfnaebdmagaaDoor.Plain Go.Proofs.YtpbnfnaebdmagaaDoor.PT Go.Proofs.YtpbnfnaebdmagaaDoor.WordsA Go.Proofs.YtpbnfnaebdmagaaDoor.Bld Go.Proofs.YtpbnfnaebdmagaaDoorW.PrintWords Go.Proofs.YtpbnfnaebdmagaaDoorW.PrintLast Go.Proofs.YtpbnfnaebdmagaaDoorW.PrintMore
def zeros (n : Nat) : ByteArray := ⟨(List.replicate n (0 : UInt8)).toArray⟩
theorem zeros_size (n : Nat) : (zeros n).size = n := by simp [zeros, ByteArray.size]
def need (n : Nat) : Nat := (119 - n % 64) % 64
def pad (n : Nat) : ByteArray := ((⟨#[128]⟩ : ByteArray) ++ zeros (need n)) ++ put 8 ((n * 8 % 18446744073709551616 : Nat) : Int)
theorem repeat_zeros (n : Nat) : (⟨(Lib.repeatL [0] n).toArray⟩ : ByteArray) = zeros n := by
  unfold zeros
  congr 2
  induction n with
  | zero => rfl
  | succ n ih => rw [Lib.repeatL, ih]; rfl
theorem pad_size (n : Nat) : (pad n).size = 9 + need n := by
  unfold pad
  rw [ByteArray.size_append, ByteArray.size_append, zeros_size, size_put]
  show 1 + need n + _ = _
  omega
set_option maxHeartbeats 4000000 in
set_option maxRecDepth 100000 in
theorem pad_walk (k : Nat) (hk : 10 ≤ k) (n : Nat) (hn : n < 18446744073709551616) (w : World) :
    Calls Tryd.prog 60 #[.int .u64 (n : Int)] w fun e w' => e = .returned (.string (pad n)) ∧ Below w.heap.size w w' := by
  have HK := Aside0.mk hk
  clear hk
  have h0 : (0 : Int) ≤ (n : Int) := by omega
  have h1 : (n : Int) ≤ 18446744073709551615 := by omega
  have hR := fun w => Aside0.mk (Tryd.strings_Repeat ⟨#[0]⟩ (need n) w (by unfold need; omega) (by show 1 * _ ≤ _; unfold need; omega))
  have hRz := Aside0.mk (repeat_zeros (need n))
  have hput := Aside0.mk (put_some (w := 8) (n := ((n * 8 % 18446744073709551616 : Nat) : Int)) k (by omega) (by omega) HK.out)
  have hpz : Aside0 ((put 8 ((n * 8 % 18446744073709551616 : Nat) : Int)).size = 8) := ⟨by rw [size_put]; omega⟩
  have hpad : Aside0 (pad n = ((⟨#[128]⟩ : ByteArray) ++ zeros (need n)) ++ put 8 ((n * 8 % 18446744073709551616 : Nat) : Int)) := ⟨rfl⟩
  go_enter Tryd.func60, Tryd.ntmps60
  go_upto_region 2 with fail
  have hm : (119 - (n : Int) % 64) % 64 = ((need n : Nat) : Int) := by unfold need; omega
  rw [hm]
  clear hm
  have hnd : need n < 64 := by unfold need; omega
  have e8 : IntKind.u64.wrap ((n : Int) * 8) = ((n * 8 % 18446744073709551616 : Nat) : Int) := by rw [IntKind.wrap_u64]; omega
  have e9 : (n : Int) * 8 % 18446744073709551616 = ((n * 8 % 18446744073709551616 : Nat) : Int) := by omega
  generalize n * 8 % 18446744073709551616 = m at e8 e9 hput hpz hpad
  generalize need n = d at hR hRz hnd hpad ⊢
  have hd1 : (d : Int) < 64 := by omega
  have hzz : Aside0 ((zeros d).size = d) := ⟨zeros_size d⟩
  have c1 : Aside0 (((⟨#[128]⟩ : ByteArray) ++ zeros d).size ≤ 1000) := ⟨by rw [ByteArray.size_append, hzz.out]; show 1 + d ≤ _; omega⟩
  have c2 : ((⟨#[128]⟩ : ByteArray) ++ zeros d).size ≤ 9223372036854775807 := Nat.le_trans c1.out (by decide)
  have c4 : (zeros d).size ≤ 1000 := by rw [hzz.out]; omega
  generalize put 8 (m : Int) = pz at hput hpz hpad
  have c3 : pz.size = 8 := hpz.out
  generalize hz : zeros d = Z at hRz hpad c1 c2 c4
  have c5 : 1 + Z.size ≤ 9223372036854775807 := by omega
  have c6 : ((⟨#[128]⟩ : ByteArray) ++ Z).size + pz.size ≤ 9223372036854775807 := by rw [c3]; have := c1.out; omega
  have c7 : (9223372036854775807 < ((⟨#[128]⟩ : ByteArray) ++ Z).size + pz.size) = False := eq_false (Nat.not_lt.2 c6)
  have c8 : (9223372036854775807 < 1 + Z.size) = False := eq_false (Nat.not_lt.2 c5)
  have c6 := eq_true c6
  have c5 := eq_true c5
  clear c1 c2 c4 hz
  have HC3 := Aside0.mk c3
  clear c3
  go_wp2_with (first
    | (go_at_call 70; (with_reducible refine ((hR _).out).mono ?_); rintro e w3 ⟨rfl, hb⟩; rw [hRz.out]; have HB3 := Aside0.mk hb; clear hb)
    | (go_at_call 57; (with_reducible refine (words_Put.calls k 8 (m : Int) pz _ hput.out).mono ?_); rintro e w4 ⟨rfl, hb⟩; have HB4 := Aside0.mk (below_step HB3.out hb); clear hb))
  go_ret
  exact ⟨by rw [hpad.out]; rfl, HB4.out⟩
end Go.Proofs.YtpbnfnaebdmagaaDoor.Sha
namespace Go.Proofs.YtpbnfnaebdmagaaDoor.Sha
set_option linter.unusedVariables false
set_option linter.unusedSimpArgs false
open Go Go.RowKit Go.Proofs.YtpbnfnaebdmagaaDoor.Plain Go.Proofs.YtpbnfnaebdmagaaDoor.PT Go.Proofs.YtpbnfnaebdmagaaDoor.WordsA Go.Proofs.YtpbnfnaebdmagaaDoor.Bld Go.Proofs.YtpbnfnaebdmagaaDoorW.PrintWords Go.Proofs.YtpbnfnaebdmagaaDoorW.PrintLast Go.Proofs.YtpbnfnaebdmagaaDoorW.PrintMore
def head (i : Nat) : ByteArray := (⟨#[128]⟩ : ByteArray) ++ zeros i
theorem head_size (i : Nat) : (head i).size = 1 + i := by
  unfold head
  rw [ByteArray.size_append, zeros_size]
  rfl
theorem head_zero : head 0 = (⟨#[128]⟩ : ByteArray) := rfl
theorem head_snoc (i : Nat) : head i ++ (⟨#[0]⟩ : ByteArray) = head (i + 1) := by
  unfold head
  rw [ByteArray.append_assoc]
  congr 1
  unfold zeros
  apply ByteArray.ext
  rw [ByteArray.data_append]
  apply Array.ext'
  rw [Array.toList_append]
  show List.replicate i (0 : UInt8) ++ [0] = List.replicate (i + 1) 0
  exact (List.replicate_succ').symm
set_option maxHeartbeats 4000000 in
set_option maxRecDepth 100000 in
theorem rpad_walk (k : Nat) (hk : 10 ≤ k) (n : Nat) (hn : n < 18446744073709551616) (w : World) :
    Calls Tryd.prog 76 #[.int .u64 (n : Int)] w fun e w' => e = .returned (.string (pad n)) ∧ Below w.heap.size w w' := by
  have HK := Aside0.mk hk
  clear hk
  have h0 : (0 : Int) ≤ (n : Int) := by omega
  have h1 : (n : Int) ≤ 18446744073709551615 := by omega
  have hput := Aside0.mk (rput_some (w := 8) (n := ((n * 8 % 18446744073709551616 : Nat) : Int)) k (by omega) (by omega) HK.out)
  have hpad : Aside0 (pad n = head (need n) ++ put 8 ((n * 8 % 18446744073709551616 : Nat) : Int)) := ⟨rfl⟩
  have e8 : IntKind.u64.wrap (8 * (n : Int)) = ((n * 8 % 18446744073709551616 : Nat) : Int) := by rw [IntKind.wrap_u64]; omega
  have e9 : 8 * (n : Int) % 18446744073709551616 = ((n * 8 % 18446744073709551616 : Nat) : Int) := by omega
  have c3 : (put 8 ((n * 8 % 18446744073709551616 : Nat) : Int)).size = 8 := by rw [size_put]; omega
  generalize n * 8 % 18446744073709551616 = m at hput hpad e8 e9 c3
  generalize put 8 (m : Int) = pz at hput hpad c3
  obtain ⟨q, hq⟩ : ∃ q : Nat, n % 64 = q := ⟨_, rfl⟩
  have hnq : Aside0 (need n = (119 - q) % 64) := ⟨by rw [← hq]; rfl⟩
  have eq : (n : Int) % 64 = (q : Int) := by omega
  have hq64 : q < 64 := by omega
  have eq2 : Int.tmod (n : Int) 64 = (q : Int) := by rw [Int.tmod_eq_emod_of_nonneg h0]; exact eq
  have HC3 := Aside0.mk c3
  clear c3 hq
  go_enter Tryd.func76, Tryd.ntmps76
  go_wp2
  go_loopw [3, 4] (fun v3 v4 wr => ∃ i : Nat, i ≤ need n ∧ v3 = .string (head i) ∧ v4 = .int .i64 i ∧ Aside0 (Below w.heap.size w wr)) (fun _ v4 _ => 64 - (intOf v4).toNat)
  case atStart => exact ⟨0, by omega, rfl, rfl, ⟨Below.refl _ _⟩⟩
  case round =>
    obtain ⟨i, hi, rfl, rfl, HB⟩ := hrel
    have hi1 : i < 64 := by rw [hnq.out] at hi; omega
    have hi0 : (0 : Int) ≤ (i : Int) := by omega
    have d1 : (i : Int) < 64 := by omega
    have hsz : (head i).size = 1 + i := head_size i
    by_cases hlt : i < need n
    · have hne : ¬ ((q : Int) + (1 + (i : Int)) + 8) % 64 = 0 := by rw [hnq.out] at hlt; omega
      have hs := Aside0.mk (head_snoc i)
      generalize hH : head i = H at hsz hs ⊢
      clear hH
      have c5 : (H.size + 1 ≤ 9223372036854775807) = True := eq_true (by omega)
      have c6 : (9223372036854775807 < H.size + 1) = False := eq_false (by omega)
      have hszI : (H.size : Int) = 1 + (i : Int) := by omega
      have hsz' := Aside0.mk hsz
      clear hsz hi
      go_wp2
      go_roundw
      case rel => exact ⟨i + 1, by omega, by rw [hs.out], by go_num, HB⟩
      case measure => simp [intOf]; omega
    · obtain rfl : i = need n := by omega
      have hne : ((q : Int) + (1 + (need n : Int)) + 8) % 64 = 0 := by rw [hnq.out]; omega
      generalize hH : head (need n) = H at hsz hpad ⊢
      clear hH
      generalize need n = i at *
      have c5 : (H.size + pz.size ≤ 9223372036854775807) = True := eq_true (by rw [HC3.out]; omega)
      have c6 : (9223372036854775807 < H.size + pz.size) = False := eq_false (by rw [HC3.out]; omega)
      have hszI : (H.size : Int) = 1 + (i : Int) := by omega
      clear hsz hi hlt
      go_wp2_with (go_at_call 74; (with_reducible refine (precinctref01_Put.calls k 8 (m : Int) pz _ hput.out).mono ?_); rintro e w4 ⟨rfl, hb⟩; have HB4 := Aside0.mk (below_step HB.out hb); clear hb)
      go_ret
      exact ⟨by rw [hpad.out]; rfl, HB4.out⟩
end Go.Proofs.YtpbnfnaebdmagaaDoor.Sha
namespace Go.Proofs.YtpbnfnaebdmagaaDoor.Sha
set_option linter.unusedVariables false
set_option linter.unusedSimpArgs false
open Go Go.RowKit Go.Proofs.YtpbnfnaebdmagaaDoor.Plain Go.Proofs.YtpbnfnaebdmagaaDoor.PT Go.Proofs.YtpbnfnaebdmagaaDoor.WordsA Go.Proofs.YtpbnfnaebdmagaaDoor.Bld Go.Proofs.YtpbnfnaebdmagaaDoorW.PrintWords Go.Proofs.YtpbnfnaebdmagaaDoorW.PrintLast Go.Proofs.YtpbnfnaebdmagaaDoorW.PrintMore
/-- the bytes of a text -/
def bl (s : ByteArray) : List Nat := s.data.toList.map (fun c => c.toNat)
theorem bl_length (s : ByteArray) : (bl s).length = s.size := by
  unfold bl
  rw [List.length_map]
  exact Array.length_toList
theorem bl_bnd (s : ByteArray) : bnd (bl s) 256 := fun x hx => by
  simp only [bl, List.mem_map] at hx
  obtain ⟨c, _, rfl⟩ := hx
  exact UInt8.toNat_lt c
/-- the state behind the first blocks of a text -/
def runB (ks : List Nat) (all : ByteArray) : Nat → List Nat
  | 0 => init
  | i + 1 => block ks (runB ks all i) (bl (all.extract (64 * i) (64 * i + 64)))
theorem init_bnd : bnd init 4294967296 := by unfold bnd; decide
abbrev initV : Array Value := #[.int .u32 1779033703, .int .u32 3144134277, .int .u32 1013904242, .int .u32 2773480762, .int .u32 1359893119, .int .u32 2600822924, .int .u32 528734635, .int .u32 1541459225]
theorem begin_lit (w : World) :
    Calls Tryd.prog 59 #[] w fun e w' => e = .returned (.agg initV) ∧ Below w.heap.size w w' := begin_walk w
theorem runB_ok (ks : List Nat) (all : ByteArray) : ∀ i, (runB ks all i).length = 8 ∧ bnd (runB ks all i) 4294967296
  | 0 => ⟨rfl, init_bnd⟩
  | i + 1 => block_ok _ _ _ (runB_ok ks all i).1 (runB_ok ks all i).2
def sumK (ks : List Nat) (s : ByteArray) : ByteArray := txt (runB ks (s ++ pad s.size) ((s.size + (9 + need s.size)) / 64)) 8
theorem sumK_size (ks : List Nat) (s : ByteArray) : (sumK ks s).size = 32 := txt_size _ 8
theorem ext_size (all : ByteArray) (a b : Nat) (h : b ≤ all.size) : (all.extract a b).size = b - a := by rw [ByteArray.size_extract]; omega
theorem ext_ext (all : ByteArray) (a b c d : Nat) (h : a + d ≤ b) (hb : b ≤ all.size) : (all.extract a b).extract c d = all.extract (a + c) (a + d) := by
  apply ByteArray.ext
  rw [ByteArray.data_extract, ByteArray.data_extract, ByteArray.data_extract, Array.extract_extract]
  congr 1
  omega
theorem run_arrayAt {P : Program} (w : World) (T e : TypeId) (n len cap : Nat) (a : Addr) (h : P.underlying T = some (.array n e)) (hl : n ≤ len) : (Instr.arrayAt T (.slice (some a) len cap)).run P w = .ok (.pointer (some a)) w := by
  simp [Instr.arrayAt, Sem.run_bind, run_underlying h, Result.andThen, hl]
  intro h1; omega
theorem exec_load {P : Program} {a : Act} {w : World} {op : Oper} (ty : TypeId) (x : Operand) (ho : op.op = .load ty x) (b o : Nat) (hx : a.eval x = .pointer (some ⟨b, o, none⟩)) (cs : List Value) (d : TypeDesc) (hc : w.rangeAt b o cs)
    (hu : P.underlying ty = some d) (hd : d.isRow = true) (hi : (P.info? ty).map (·.size) = some cs.length) : (execOp a.eval op).run P w = .ok (.value (.agg cs.toArray)) w := by
  unfold execOp
  simp only [ho, hx, Instr.loadAt, Instr.sureAddr, Sem.run_bind, Sem.run_pure, Result.andThen_ok, run_loadVar_mid w b o ty cs d hc hu hd hi]
theorem exec_store {P : Program} {a : Act} {w : World} {op : Oper} (ty : TypeId) (x y : Operand) (ho : op.op = .store ty x y) (b o : Nat) (cells : Array Value) (hx : a.eval x = .pointer (some ⟨b, o, none⟩)) (hy : a.eval y = .agg cells)
    (ht : w.there b o cells.size) (hi : (P.info? ty).map (·.size) = some cells.size) (h1 : cells.all (·.oneCell') = true) : (execOp a.eval op).run P w = .ok .skip (w.setCells b o cells.toList) := by
  unfold execOp
  simp only [ho, hx, hy, Instr.storeAt, Instr.sureAddr, Sem.run_bind, Sem.run_pure, Result.andThen_ok, run_storeVar_mid w b o ty cells ht hi h1]
theorem setCells_row {b : Nat} {t : TypeId} : ∀ (vs : List Value) (o : Nat) (w : World) (cs : List Value), w.heap[b]? = some (.cells cs.toArray t (0, 0)) → o + vs.length = cs.length → (w.setCells b o vs).heap[b]? = some (.cells (cs.take o ++ vs).toArray t (0, 0))
  | [], o, w, cs, h, hl => by rw [World.setCells, List.append_nil, List.take_of_length_le (by simp at hl; omega)]; exact h
  | v :: r, o, w, cs, h, hl => by
    have ho : o < cs.length := by simp at hl; omega
    rw [World.setCells, setCells_row r (o + 1) _ (cs.set o v) (blk_put h o v (by rw [List.setIfInBounds_toArray])) (by simp at hl ⊢; omega)]
    congr 3
    apply List.ext_getElem?
    intro j
    by_cases h1 : j < o
    · rw [List.getElem?_append_left (by simp; omega), List.getElem?_append_left (by simp; omega), List.getElem?_take_of_lt (by omega), List.getElem?_take_of_lt h1, List.getElem?_set_ne (by omega)]
    · by_cases h2 : j = o
      · subst h2
        rw [List.getElem?_append_left (by simp; omega), List.getElem?_take_of_lt (by omega), List.getElem?_set_self ho, List.getElem?_append_right (by simp; omega)]
        simp [Nat.min_eq_left (Nat.le_of_lt ho)]
      · rw [List.getElem?_append_right (by simp; omega), List.getElem?_append_right (by simp; omega)]
        simp only [List.length_take, List.length_set]
        rw [show j - min o cs.length = (j - min (o + 1) cs.length) + 1 by omega, List.getElem?_cons_succ]
theorem arr_row {b : Nat} {t : TypeId} {w : World} (k : IntKind) (l l' : List Nat) (h : w.heap[b]? = some (.cells (arr k l) t (0, 0))) (hl : l.length = l'.length) : (w.setCells b 0 (arr k l').toList).heap[b]? = some (.cells (arr k l') t (0, 0)) := by
  have z := setCells_row (arr k l').toList 0 w (arr k l).toList (by simpa using h) (by simp [arr, hl])
  simpa using z
set_option maxHeartbeats 4000000 in
set_option maxRecDepth 1000000 in
theorem sum_walk (ks : List Nat) (s : ByteArray) (w : World) (hk : ks.length = 64) (hkb : bnd ks 4294967296) (hg : w.rangeAt 0 0 (ks.map fun n : Nat => Value.int .u32 (n : Int))) (hs : s.size ≤ 281474976710656) :
    Calls Tryd.prog 40 #[.string s] w fun e w' => e = .returned (.string (sumK ks s)) ∧ Below w.heap.size w w' := by
  have HKL := Aside0.mk hk
  have HKB := Aside0.mk hkb
  have HG := Aside0.mk hg
  have HSZ := Aside0.mk hs
  clear hk hkb hg
  have hsL := (Tryd.underlying115 : Tryd.prog.underlying 115 = _)
  have h64L := (Tryd.underlying119 : Tryd.prog.underlying 119 = _)
  obtain ⟨n, hn⟩ : ∃ n, (s.size + (9 + need s.size)) / 64 = n := ⟨_, rfl⟩
  obtain ⟨all, hall⟩ : ∃ all, s ++ pad s.size = all := ⟨_, rfl⟩
  have hz : all.size = 64 * n := by rw [← hall, ByteArray.size_append, pad_size, ← hn]; unfold need; omega
  have HN : Aside0 (sumK ks s = txt (runB ks all n) 8) := ⟨by rw [sumK, hall, hn]⟩
  have HZ := Aside0.mk hz
  have HAL := Aside0.mk hall
  have hbig : all.size ≤ 9223372036854775807 := by rw [← hall, ByteArray.size_append, pad_size]; unfold need; omega
  have h63 : s.size + (pad s.size).size ≤ 9223372036854775807 := by rw [← ByteArray.size_append, hall]; exact hbig
  have HBG := Aside0.mk hbig
  clear hn hz hall hbig
  generalize hp : pad s.size = p at h63 HAL
  have HP := Aside0.mk hp
  clear hp
  have hw1 : IntKind.u64.wrap (s.size : Int) = (s.size : Int) := IntWalk.u64_in _ (by omega)
  go_enter Tryd.func40, Tryd.ntmps40
  go_upto_region 2 with (go_at_call 59; (with_reducible refine (begin_lit _).mono ?_); rintro e w1 ⟨rfl, hb⟩; have HB1 := Aside0.mk hb; clear hb)
  have HS : Aside0 ((w1.alloc (.cells initV 115)).heap[w1.heap.size]? = some (.cells (arr .u32 (runB ks all 0)) 115 (0, 0))) := ⟨blk_new _ _⟩
  have HB := Aside0.mk (below_alloc HB1.out (.cells initV 115))
  have HGT : Aside0 (w.heap.size ≤ w1.heap.size) := ⟨below_size HB1.out⟩
  clear HB1
  generalize w1.heap.size = g at HS HGT ⊢
  generalize w1.alloc (.cells initV 115) = w2 at HS HB ⊢
  go_wp2_with (go_at_call 60; (with_reducible refine (pad_walk 10 (by decide) s.size (by have := HSZ.out; omega) _).mono ?_); rintro e w3 ⟨rfl, hb⟩; rw [HP.out]; have HS3 := Aside0.mk (blk_below HS.out hb); have HB3 := Aside0.mk (below_step HB.out hb); clear hb HS HB)
  rw [HAL.out]
  go_loopw [4] (fun v4 wr => ∃ i : Nat, i ≤ n ∧ v4 = .string (all.extract (64 * i) all.size) ∧ Aside0 (wr.heap[g]? = some (.cells (arr .u32 (runB ks all i)) 115 (0, 0))) ∧ Aside0 (Below w.heap.size w wr)) (fun v4 _ => match v4 with | .string x => x.size | _ => 0)
  case atStart => exact ⟨0, by omega, by rw [Nat.mul_zero, ByteArray.extract_zero_size], HS3, HB3⟩
  case round =>
    clear HS3 HB3
    obtain ⟨i, hi, rfl, HS, HB⟩ := hrel
    have hrz : (all.extract (64 * i) all.size).size = 64 * (n - i) := by rw [ext_size _ _ _ (Nat.le_refl _), HZ.out]; omega
    have hRI := Aside0.mk (show (Tryd.prog.info? 115).map (·.size) = some ((runB ks all i).map fun n : Nat => Value.int .u32 (n : Int)).length by rw [List.length_map, (runB_ok ks all i).1]; kernel_rfl)
    by_cases hlt : i < n
    · have hc : (all.extract (64 * i) all.size).extract 0 64 = all.extract (64 * i) (64 * i + 64) := by rw [ext_ext _ _ _ _ _ (by rw [HZ.out]; omega) (Nat.le_refl _)]; rfl
      have hd : (all.extract (64 * i) all.size).extract 64 (all.extract (64 * i) all.size).size = all.extract (64 * (i + 1)) all.size := by
        rw [hrz, ext_ext _ _ _ _ _ (by rw [HZ.out]; omega) (Nat.le_refl _), HZ.out]
        congr 1; omega
      have hCs : Aside0 ((all.extract (64 * i) (64 * i + 64)).size = 64) := ⟨by rw [ext_size _ _ _ (by rw [HZ.out]; omega)]; omega⟩
      have hne : (all.extract (64 * i) all.size).toList.isEmpty = false := by
        rw [toList_data, Bool.eq_false_iff]
        intro h
        have h2 := List.isEmpty_iff.mp h
        have h3 : (all.extract (64 * i) all.size).data.toList.length = 0 := by rw [h2]; rfl
        rw [Array.length_toList] at h3
        have h4 : (all.extract (64 * i) all.size).size = 0 := h3
        omega
      have hR1 : Aside0 (runB ks all (i + 1) = block ks (runB ks all i) (bl (all.extract (64 * i) (64 * i + 64)))) := ⟨rfl⟩
      have hRI1 := Aside0.mk (show (Tryd.prog.info? 115).map (·.size) = some (arr .u32 (runB ks all (i + 1))).size by rw [arr_size, (runB_ok ks all (i + 1)).1]; kernel_rfl)
      have hgt : 64 ≤ (all.extract (64 * i) all.size).size := by omega
      have hsz1 : Aside0 ((all.extract (64 * (i + 1)) all.size).size < (all.extract (64 * i) all.size).size) := ⟨by rw [ext_size _ _ _ (Nat.le_refl _), ext_size _ _ _ (Nat.le_refl _), HZ.out]; omega⟩
      clear hrz
      generalize all.extract (64 * i) (64 * i + 64) = C at hc hCs hR1
      obtain ⟨R, hR⟩ : ∃ R, all.extract (64 * i) all.size = R := ⟨_, rfl⟩
      rw [hR] at hc hd hne hgt hsz1 ⊢
      clear hR
      have hgt64 : (64 : Int) ≤ (R.size : Int) := by omega
      have hCI := Aside0.mk (show (Tryd.prog.info? 119).map (·.size) = some ((bl C).map fun n : Nat => Value.int .u8 (n : Int)).length by rw [List.length_map, bl_length, hCs.out]; kernel_rfl)
      have kb := fun W => print_bytes (P := Tryd.prog) 9 45 5 Tryd.underlying9 Tryd.underlying45 Tryd.underlying5 C W
      have kp := fun (W : World) (q cq : Nat) => run_arrayAt (P := Tryd.prog) W 119 5 64 C.size cq ⟨q, 0, none⟩ h64L (by rw [hCs.out]; decide)
      have he : (R.toList == ([] : List UInt8)) = false := by
        rw [← Bool.not_eq_true, beq_iff_eq]; intro h; rw [h] at hne; exact absurd hne (by decide)
      go_upto_region 5 with fail
      refine start_ (n := 8) (ds := [7]) (S := fun w' => w'.heap[g]? = some (.cells (arr .u32 (runB ks all i)) 115 (0, 0))) #[false, false, false, false, false, false, false, false] (by kernel_rfl) rfl rfl (blk_drew HS.out) (fun hHeld => ?_)
      refine take_ (i := 0) (N := some 16) (v := .agg (arr .u32 (runB ks all i))) (a' := ?_) #[true, false, false, false, false, false, false, false] rfl rfl (by kernel_rfl) (fun _ _ _ h => h) (yieldsIf_load_mid (by rfl) 115 (.tmp 3) rfl g 0 (by rfl) ((runB ks all i).map fun n : Nat => Value.int .u32 (n : Int)) _ (fun w' hw' => fun j v hj => by rw [Nat.zero_add, blk_cell hw' j]; unfold arr; rw [List.getElem?_toArray]; exact hj) hsL rfl hRI.out) hHeld ?_ ?_
      rotate_left
      · simp only [Act.put, List.setIfInBounds_toArray, List.set_cons_zero, List.set_cons_succ, i64_w, i32_w]
        rfl
      refine pure_ (i := 1) (N := some 17) (v := ?_) (a' := ?_) #[true, true, false, false, false, false, false, false] rfl rfl (by kernel_rfl) (fun _ _ _ h => h) (Or.inl ⟨by rfl, ?_⟩) ?_ ?_
      rotate_left
      · intro w'
        go_simp
        with_reducible rfl
      rotate_left
      · simp only [Act.put, List.setIfInBounds_toArray, List.set_cons_zero, List.set_cons_succ, i64_w, i32_w]
        rfl
      refine pure_ (i := 2) (N := some 18) (v := ?_) (a' := ?_) #[true, true, true, false, false, false, false, false] rfl rfl (by kernel_rfl) (fun _ _ _ h => h) (Or.inl ⟨by rfl, ?_⟩) ?_ ?_
      rotate_left
      · intro w'
        go_simp
        with_reducible rfl
      rotate_left
      · simp only [Act.put, List.setIfInBounds_toArray, List.set_cons_zero, List.set_cons_succ, i64_w, i32_w]
        rfl
      have HS2 := blk_drew HS.out
      have HB2 := Aside0.mk (below_drew HB.out)
      generalize wr.drew = w2 at HS2 HB2 ⊢
      have hbn := blk_lt HS2
      refine one_ (i := 3) (N := some 19) #[true, true, true, true, false, false, false, false] rfl rfl (by kernel_rfl) (by simp) (fun K hK => ?_)
      refine value_ (w1 := Lib.bytesWorld w2 5 C) (v := .slice (some ⟨w2.heap.size, 0, none⟩) C.size (grownCap w2 C.size 0 5)) (by rfl) rfl ?_ ?_
      · first | (go_simp; done) | (go_simp; with_reducible rfl)
      have HS3 : (Lib.bytesWorld w2 5 C).heap[g]? = _ := (Lib.bytesWorld_at_old w2 5 C g hbn).trans HS2
      refine hK.out _ _ HS3 (fun hHeld => ?_)
      clear hK K
      refine norm_ (a' := ?_) ?_ ?_
      rotate_left
      · show Act.put _ (some 19) _ = _
        simp only [Act.put, List.setIfInBounds_toArray, List.set_cons_zero, List.set_cons_succ, i64_w, i32_w]
        rfl
      have HB3 := Aside0.mk (bytes_below HB2.out (below_size HB2.out) 5 C)
      have hcl : (Lib.bytesWorld w2 5 C).rangeAt w2.heap.size 0 ((bl C).map fun n : Nat => Value.int .u8 (n : Int)) := fun j v hj => by
        have hj' : j < C.size := by have := (List.getElem?_eq_some_iff.1 hj).1; simpa [bl_length] using this
        rw [Nat.zero_add, Lib.bytesWorld_cell w2 _ C j hj', ← hj, List.getElem?_map]
        unfold bl
        have hj2 : j < C.data.toList.length := by rw [Array.length_toList]; exact hj'
        rw [List.getElem?_map, List.getElem?_eq_getElem hj2, List.getD_eq_getElem?_getD, List.getElem?_eq_getElem hj2]
        rfl
      generalize hq : w2.heap.size = q at hcl ⊢
      clear hq
      generalize Lib.bytesWorld w2 5 C = w3 at HS3 HB3 hcl ⊢
      generalize grownCap w2 C.size 0 5 = cq
      refine pure_ (i := 4) (N := some 20) (v := ?_) (a' := ?_) #[true, true, true, true, true, false, false, false] rfl rfl (by kernel_rfl) (fun _ _ _ h => h) (Or.inl ⟨by rfl, ?_⟩) ?_ ?_
      rotate_left
      · intro w'
        go_simp
        with_reducible rfl
      rotate_left
      · simp only [Act.put, List.setIfInBounds_toArray, List.set_cons_zero, List.set_cons_succ, i64_w, i32_w]
        rfl
      refine one_ (i := 5) (N := some 21) #[true, true, true, true, true, true, false, false] rfl rfl (by kernel_rfl) (by simp) (fun K hK => ?_)
      refine value_ (w1 := w3) (v := .agg (arr .u8 (bl C))) (by rfl) rfl ?_ ?_
      · exact exec_load 119 (.tmp 20) rfl q 0 (by rfl) ((bl C).map fun n : Nat => Value.int .u8 (n : Int)) _ hcl h64L rfl hCI.out
      refine hK.out _ _ HS3 (fun hHeld => ?_)
      clear hK K
      refine norm_ (a' := ?_) ?_ ?_
      rotate_left
      · show Act.put _ (some 21) _ = _
        simp only [Act.put, List.setIfInBounds_toArray, List.set_cons_zero, List.set_cons_succ, i64_w, i32_w]
        rfl
      refine one_ (i := 6) (N := some 22) #[true, true, true, true, true, true, true, false] rfl rfl (by kernel_rfl) (by simp) (fun K hK => ?_)
      refine goes_ Tryd.func61 (by kernel_rfl) rfl #[.agg (arr .u32 (runB ks all i)), .agg (arr .u8 (bl C))] (by rfl) rfl rfl (by simp only [List.map_toArray, List.map_cons, List.map_nil]; rfl) ?_
      refine (block_walk ks (runB ks all i) (bl C) w3 HKL.out HKB.out (fun j v hj => (HB3.out.cell (World.block_lt_of_cell? w _ (HG.out j v hj))).trans (HG.out j v hj)) (runB_ok ks all i).1 (by rw [bl_length]; exact hCs.out) (runB_ok ks all i).2 (bl_bnd C)).mono ?_
      rintro e w4 ⟨rfl, hb4⟩
      refine ⟨_, rfl, ?_⟩
      have HS4 := blk_below HS3 hb4
      have HB4 := Aside0.mk (below_step HB3.out hb4)
      refine hK.out _ _ HS4 (fun hHeld => ?_)
      clear hK K hb4
      refine norm_ (a' := ?_) ?_ ?_
      rotate_left
      · show Act.put _ (some 22) _ = _
        simp only [Act.put, List.setIfInBounds_toArray, List.set_cons_zero, List.set_cons_succ, i64_w, i32_w]
        rfl
      refine last_ (i := 7) (N := none) #[true, true, true, true, true, true, true, true] rfl rfl (by kernel_rfl) (by simp) (fun K hK => ?_)
      refine skip_ (w1 := w4.setCells g 0 (arr .u32 (runB ks all (i + 1))).toList) (by rfl) rfl ?_ ?_
      · exact exec_store 115 (.tmp 3) (.tmp 22) rfl g 0 (arr .u32 (runB ks all (i + 1))) (by rfl) (by rw [hR1.out]; rfl) (fun j hj => ⟨by rw [Nat.zero_add, blk_cell HS4 j, arr_at .u32 _ j (by rw [(runB_ok ks all i).1]; rw [arr_size, (runB_ok ks all (i + 1)).1] at hj; exact hj)]; rfl, blk_frozen HS4 _⟩) hRI1.out (arr_one _ _)
      have HS5 := Aside0.mk (arr_row .u32 (runB ks all i) (runB ks all (i + 1)) HS4 (by rw [(runB_ok ks all i).1, (runB_ok ks all (i + 1)).1]))
      have HB5 := Aside0.mk (below_setCells HGT.out (arr .u32 (runB ks all (i + 1))).toList 0 _ HB4.out)
      refine hK.out _ _ ?_
      clear hK K HS4 HS3 HS2 hcl hHeld
      refine done_ (by kernel_rfl) ?_
      generalize w4.setCells g 0 (arr .u32 (runB ks all (i + 1))).toList = w5 at HS5 HB5 ⊢
      go_wp2
      go_roundw
      case rel => exact ⟨i + 1, by omega, rfl, HS5, HB5⟩
      case measure => exact hsz1.out
    · obtain rfl : i = n := by omega
      have he : (all.extract (64 * i) all.size) = ByteArray.empty := by
        have h0 : (all.extract (64 * i) all.size).size = 0 := by omega
        exact ByteArray.size_eq_zero_iff.mp h0
      rw [he]
      clear he hrz
      have he1 : (ByteArray.empty.toList == ([] : List UInt8)) = true := by rw [toList_data]; rfl
      have he2 : ByteArray.empty.toList.isEmpty = true := by rw [toList_data]; rfl
      have hRI2 := Aside0.mk (show (Tryd.prog.info? 115).map (·.size) = some (arr .u32 (runB ks all i)).size by rw [arr_size, (runB_ok ks all i).1]; kernel_rfl)
      go_wp2_with (first
        | (refine wpList_load_row rfl 115 (.tmp 3) rfl g (by rfl) 115 _ (0, 0) _ HS.out hsL rfl hRI2.out ?_)
        | (go_at_call 62; (with_reducible refine (text_walk 10 (by decide) (runB ks all i) _ (runB_ok ks all i).1 (runB_ok ks all i).2).mono ?_); rintro e w4 ⟨rfl, hb⟩; have HB4 := Aside0.mk (below_step HB.out hb); clear hb))
      go_ret
      exact ⟨by rw [HN.out]; rfl, HB4.out⟩
end Go.Proofs.YtpbnfnaebdmagaaDoor.Sha
namespace Go.Proofs.YtpbnfnaebdmagaaDoor.Sha
set_option linter.unusedVariables false
set_option linter.unusedSimpArgs false
open Go Go.RowKit Go.Proofs.YtpbnfnaebdmagaaDoor.Plain Go.Proofs.YtpbnfnaebdmagaaDoor.PT Go.Proofs.YtpbnfnaebdmagaaDoorW.PrintWords Go.Proofs.YtpbnfnaebdmagaaDoorW.PrintLast Go.Proofs.YtpbnfnaebdmagaaDoorW.PrintMore
theorem ror_sum (x k : Nat) (h1 : 1 ≤ k) (h2 : k ≤ 31) : rorN x k = (x / 2 ^ k + x % 2 ^ k * 2 ^ (32 - k)) % 4294967296 ∨ 4294967296 ≤ x := by
  by_cases hx : x < 4294967296
  · left
    have hp : 2 ^ k * 2 ^ (32 - k) = 4294967296 := by rw [← Nat.pow_add, show k + (32 - k) = 32 by omega]
    have h3 : x / 2 ^ k < 2 ^ (32 - k) := by
      rw [Nat.div_lt_iff_lt_mul (Nat.pow_pos (by decide)), Nat.mul_comm, hp]; exact hx
    have h4 : x % 2 ^ k < 2 ^ k := Nat.mod_lt _ (Nat.pow_pos (by decide))
    have e1 : x * 2 ^ (32 - k) % 4294967296 = x % 2 ^ k * 2 ^ (32 - k) := by rw [← hp, Nat.mul_mod_mul_right]
    have e2 : x % 2 ^ k * 2 ^ (32 - k) ||| x / 2 ^ k = x % 2 ^ k * 2 ^ (32 - k) + x / 2 ^ k := by
      rw [Nat.mul_comm]
      exact (Nat.two_pow_add_eq_or_of_lt h3 _).symm
    have h5 : x % 2 ^ k * 2 ^ (32 - k) + x / 2 ^ k < 4294967296 := by
      rw [← hp]
      have : (x % 2 ^ k + 1) * 2 ^ (32 - k) ≤ 2 ^ k * 2 ^ (32 - k) := Nat.mul_le_mul_right _ h4
      rw [Nat.succ_mul] at this
      omega
    unfold rorN
    rw [e1, e2, Nat.add_comm (x / 2 ^ k), Nat.mod_eq_of_lt h5]
  · right; omega
theorem pow_int (k : Nat) : ((2 : Int) ^ k) = ((2 ^ k : Nat) : Int) := by simp
theorem rl1 (x : Int) (lo : Nat) (hlo : 1 ≤ lo) (hx : 0 ≤ x) (hlo2 : lo < 4294967296) (d : Nat) : ∀ (k j : Nat), j + d = 32 → 2 ^ j * 1 ≤ 4294967296 → d < k → ∀ hi : Nat, hi * 2 ^ d < 4294967296 →
    precinctref04_right.l1 k x (lo : Int) (hi : Int) (j : Int) = some (((x.toNat / lo + x.toNat % lo * (hi * 2 ^ d)) % 4294967296 : Nat) : Int) ∨ 4294967296 ≤ x := by
  induction d with
  | zero =>
    intro k j hj _ hk hi hh
    obtain ⟨k, rfl⟩ : ∃ m, k = m + 1 := ⟨k - 1, by omega⟩
    by_cases hxx : x < 4294967296
    · left
      obtain ⟨n, rfl⟩ := Int.eq_ofNat_of_zero_le hx
      simp only [precinctref04_right.l1]
      rw [if_neg (by omega), if_neg (by omega), Int.tdiv_eq_ediv_of_nonneg (by omega), Int.tmod_eq_emod_of_nonneg (by omega)]
      congr 1
      rw [Int.toNat_natCast, Nat.pow_zero, Nat.mul_one, ← Int.natCast_ediv, ← Int.natCast_emod, ← Int.natCast_mul]
      omega
    · right; omega
  | succ d ih =>
    intro k j hj hp hk hi hh
    obtain ⟨k, rfl⟩ : ∃ m, k = m + 1 := ⟨k - 1, by omega⟩
    have hd : 1 ≤ 2 ^ d := Nat.pow_pos (by decide)
    have h2 : hi * 2 ^ (d + 1) = 2 * hi * 2 ^ d := by rw [Nat.pow_succ, Nat.mul_comm (2 ^ d) 2, ← Nat.mul_assoc, Nat.mul_comm hi 2]
    have h3 : 2 * hi < 4294967296 := Nat.lt_of_le_of_lt (Nat.le_mul_of_pos_right _ hd) (h2 ▸ hh)
    have hp2 : 2 ^ (j + 1) * 1 ≤ 4294967296 := by
      have : 2 ^ (j + 1) ≤ 2 ^ 32 := Nat.pow_le_pow_right (by decide) (by omega)
      simpa using this
    rcases ih k (j + 1) (by omega) hp2 (by omega) (2 * hi) (h2 ▸ hh) with h | h
    · left
      simp only [precinctref04_right.l1]
      rw [if_pos (by omega), show (2 * (hi : Int)) % 4294967296 = ((2 * hi : Nat) : Int) by omega, show wrap64 ((j : Int) + 1) = ((j + 1 : Nat) : Int) by unfold wrap64; omega, h, h2]
    · right; exact h
theorem rl0 (x : Int) (b : Nat) (hb : b ≤ 31) (hb1 : 1 ≤ b) (hx : 0 ≤ x) (hx2 : x < 4294967296) (d : Nat) : ∀ (k j : Nat), j + d = b → d + 40 ≤ k →
    precinctref04_right.l0 k x b ((2 ^ j : Nat) : Int) j = some ((rorN x.toNat b : Nat) : Int) := by
  induction d with
  | zero =>
    intro k j hj hk
    obtain ⟨k, rfl⟩ : ∃ m, k = m + 1 := ⟨k - 1, by omega⟩
    obtain rfl : j = b := by omega
    simp only [precinctref04_right.l0]
    rw [if_neg (by omega)]
    have hp : 2 ^ j < 4294967296 := Nat.lt_of_le_of_lt (Nat.pow_le_pow_right (by decide) hb) (by decide)
    rcases rl1 x (2 ^ j) (Nat.pow_pos (by decide)) hx hp (32 - j) k j (by omega) (by omega) (by omega) 1 (by
      rw [Nat.one_mul]; exact Nat.lt_of_le_of_lt (Nat.pow_le_pow_right (by decide) (show 32 - j ≤ 31 by omega)) (by decide)) with h | h
    · rw [show (1 : Int) = ((1 : Nat) : Int) from rfl, h, Nat.one_mul]
      rcases ror_sum x.toNat j hb1 hb with h2 | h2
      · rw [h2]
      · omega
    · omega
  | succ d ih =>
    intro k j hj hk
    obtain ⟨k, rfl⟩ : ∃ m, k = m + 1 := ⟨k - 1, by omega⟩
    simp only [precinctref04_right.l0]
    have hp : 2 ^ (j + 1) < 4294967296 := Nat.lt_of_le_of_lt (Nat.pow_le_pow_right (by decide) (show j + 1 ≤ 31 by omega)) (by decide)
    rw [if_pos (by omega), show (2 * ((2 ^ j : Nat) : Int)) % 4294967296 = ((2 ^ (j + 1) : Nat) : Int) by rw [Nat.pow_succ] at hp ⊢; omega, show wrap64 ((j : Int) + 1) = ((j + 1 : Nat) : Int) by unfold wrap64; omega]
    exact ih k (j + 1) (by omega) (by omega)
theorem rright_some (x b : Nat) (hb : b ≤ 31) (hb1 : 1 ≤ b) (hx : x < 4294967296) : precinctref04_right.f 100 x b = some ((rorN x b : Nat) : Int) := by
  have h := rl0 (x : Int) b hb hb1 (by omega) (by omega) b 100 0 (by omega) (by omega)
  exact h
theorem rshift_loop (b : Nat) (d : Nat) : ∀ (k j x : Nat), j + d = b → d < k → b ≤ 100 → x < 4294967296 → precinctref04_shift.l0 k (x : Int) b j = some ((x / 2 ^ d : Nat) : Int) := by
  induction d with
  | zero =>
    intro k j x hj hk hb hx
    obtain ⟨k, rfl⟩ : ∃ m, k = m + 1 := ⟨k - 1, by omega⟩
    simp only [precinctref04_shift.l0]
    rw [if_neg (by omega), Nat.pow_zero, Nat.div_one]
  | succ d ih =>
    intro k j x hj hk hb hx
    obtain ⟨k, rfl⟩ : ∃ m, k = m + 1 := ⟨k - 1, by omega⟩
    simp only [precinctref04_shift.l0]
    rw [if_pos (by omega), Int.tdiv_eq_ediv_of_nonneg (by omega), show ((x : Int) / 2) % 4294967296 = ((x / 2 : Nat) : Int) by omega, show wrap64 ((j : Int) + 1) = ((j + 1 : Nat) : Int) by unfold wrap64; omega,
      ih k (j + 1) (x / 2) (by omega) (by omega) hb (by omega), Nat.div_div_eq_div_mul, Nat.pow_succ, Nat.mul_comm]
theorem rshift_some (x b : Nat) (hb : b ≤ 31) (hx : x < 4294967296) : precinctref04_shift.f 100 x b = some ((x / 2 ^ b : Nat) : Int) :=
  rshift_loop b b 100 0 x (by omega) (by omega) (by omega) hx
/-- the document's turn and shift, under names -/
theorem rturn_k (x : Nat) (k : Nat) (K : Int) (hK : K = (k : Int)) (hx : x < 4294967296) (h1 : 1 ≤ k) (h2 : k ≤ 31) : ∃ c : Nat, (∀ w : World, Calls Tryd.prog 86 #[.int .u32 (x : Int), .int .i64 K] w fun e w' => e = .returned (.int .u32 (c : Int)) ∧ Below w.heap.size w w') ∧ c < 4294967296 ∧ Aside0 (c = rorN x k) :=
  ⟨rorN x k, fun w => by rw [hK]; exact (precinctref04_right.calls 100 x k _ w (rright_some x k h2 h1 hx)).mono fun e w' h => ⟨h.1, h.2.below⟩, rorN_lt x k hx, ⟨rfl⟩⟩
theorem rshift_k (x : Nat) (k m : Nat) (K : Int) (hK : K = (k : Int)) (hm : m = 2 ^ k) (hx : x < 4294967296) (h2 : k ≤ 31) : ∃ c : Nat, (∀ w : World, Calls Tryd.prog 87 #[.int .u32 (x : Int), .int .i64 K] w fun e w' => e = .returned (.int .u32 (c : Int)) ∧ Below w.heap.size w w') ∧ c < 4294967296 ∧ Aside0 (c = x / m) :=
  ⟨x / m, fun w => by rw [hK, hm]; exact (precinctref04_shift.calls 100 x k _ w (rshift_some x k h2 hx)).mono fun e w' h => ⟨h.1, h.2.below⟩, Nat.lt_of_le_of_lt (Nat.div_le_self _ _) hx, ⟨rfl⟩⟩
end Go.Proofs.YtpbnfnaebdmagaaDoor.Sha
namespace Go.Proofs.YtpbnfnaebdmagaaDoor.Sha
set_option linter.unusedVariables false
set_option linter.unusedSimpArgs false
open Go Go.RowKit Go.Proofs.YtpbnfnaebdmagaaDoorW.PrintWords Go.Proofs.YtpbnfnaebdmagaaDoorW.PrintLast Go.Proofs.YtpbnfnaebdmagaaDoorW.PrintMore
/-- a word, byte by byte -/
def acc (b : List Nat) (t : Nat) : Nat → Nat
  | 0 => 0
  | i + 1 => (acc b t i * 256 % 4294967296 + G b (4 * t + i)) % 4294967296
theorem acc_lt (b : List Nat) (t : Nat) : ∀ i, acc b t i < 4294967296
  | 0 => by unfold acc; decide
  | i + 1 => Nat.mod_lt _ (by decide)
theorem or_add (a x k m : Nat) (hm : m = 2 ^ k) (h : x < m) : a * m ||| x = a * m + x := by
  subst hm
  rw [Nat.mul_comm]; exact (Nat.two_pow_add_eq_or_of_lt h a).symm
theorem byte_mod (a m : Nat) (ha : a < 256) (hm : m ≤ 16777216) : a * m % 4294967296 = a * m :=
  Nat.mod_eq_of_lt (Nat.lt_of_le_of_lt (Nat.mul_le_mul (show a ≤ 255 by omega) hm) (by decide))
theorem or_four (a b c d : Nat) (ha : a < 256) (hb : b < 256) (hc : c < 256) (hd : d < 256) :
    ((a * 16777216 % 4294967296 ||| b * 65536 % 4294967296) ||| c * 256 % 4294967296) ||| d = ((a * 256 + b) * 256 + c) * 256 + d := by
  have e1 := byte_mod a 16777216 ha (by decide)
  have e2 := byte_mod b 65536 hb (by decide)
  have e3 := byte_mod c 256 hc (by decide)
  have f1 : a * 16777216 ||| b * 65536 = (a * 256 + b) * 65536 := by
    clear e1 e2 e3
    rw [or_add a (b * 65536) 24 16777216 (by decide) (by omega)]; omega
  have f2 : (a * 256 + b) * 65536 ||| c * 256 = ((a * 256 + b) * 256 + c) * 256 := by
    clear e1 e2 e3 f1
    rw [or_add (a * 256 + b) (c * 256) 16 65536 (by decide) (by omega)]; omega
  rw [e1, e2, e3, f1, f2, or_add _ d 8 256 (by decide) hd]
theorem acc_first (b : List Nat) (t : Nat) (hb : bnd b 256) : acc b t 4 = first b t := by
  have h0 := G_lt hb (by decide) (4 * t)
  have h1 := G_lt hb (by decide) (4 * t + 1)
  have h2 := G_lt hb (by decide) (4 * t + 2)
  have h3 := G_lt hb (by decide) (4 * t + 3)
  unfold first
  rw [or_four _ _ _ _ h0 h1 h2 h3]
  simp only [acc, Nat.add_zero]
  generalize G b (4 * t) = x0 at *
  generalize G b (4 * t + 1) = x1 at *
  generalize G b (4 * t + 2) = x2 at *
  generalize G b (4 * t + 3) = x3 at *
  omega
theorem fill_zero (b : List Nat) : ∀ t j, t ≤ j → G (fill b t) j = 0
  | 0, j, _ => by
    unfold fill G
    rw [List.getD_eq_getElem?_getD]
    by_cases h : j < 64
    · rw [List.getElem?_replicate_of_lt h]; rfl
    · rw [List.getElem?_eq_none (by simp; omega)]; rfl
  | t + 1, j, h => by
    have := fill_zero b t j (by omega)
    unfold G at this ⊢
    rw [fill, List.getD_eq_getElem?_getD, List.getElem?_set_ne (by omega), ← List.getD_eq_getElem?_getD]
    exact this
theorem fill_set0 (b : List Nat) (t : Nat) (hb : bnd b 256) (h : t < 64) : (fill b t).set t (acc b t 0) = fill b t := by
  have hl := (fill_ok b hb t).1
  have hz := fill_zero b t t (Nat.le_refl _)
  apply List.ext_getElem?
  intro j
  by_cases hj : j = t
  · subst hj
    rw [List.getElem?_set_self (by omega)]
    unfold G at hz
    rw [List.getD_eq_getElem?_getD, List.getElem?_eq_getElem (by omega), Option.getD_some] at hz
    rw [List.getElem?_eq_getElem (by omega), hz]; rfl
  · rw [List.getElem?_set_ne (Ne.symm hj)]
theorem fill_set4 (b : List Nat) (t : Nat) (hb : bnd b 256) (h : t < 16) : (fill b t).set t (acc b t 4) = fill b (t + 1) := by
  rw [fill, next, if_pos h, acc_first b t hb]
theorem G_set (l : List Nat) (t x : Nat) (h : t < l.length) : G (l.set t x) t = x := by
  unfold G
  rw [List.getD_eq_getElem?_getD, List.getElem?_set_self h]; rfl
/-- the state moved on by one place, from the i-th on -/
def shiftL (v : List Nat) (i : Nat) : List Nat := v.take (i + 1) ++ (v.drop i).take (7 - i)
theorem shift_step {v0 v1 v2 v3 v4 v5 v6 v7 : Nat} (i : Nat) (h1 : 1 ≤ i) (h2 : i ≤ 7) :
    (shiftL [v0, v1, v2, v3, v4, v5, v6, v7] i).set i (G (shiftL [v0, v1, v2, v3, v4, v5, v6, v7] i) (i - 1)) = shiftL [v0, v1, v2, v3, v4, v5, v6, v7] (i - 1) := by
  rcases (show i = 1 ∨ i = 2 ∨ i = 3 ∨ i = 4 ∨ i = 5 ∨ i = 6 ∨ i = 7 by omega) with rfl | rfl | rfl | rfl | rfl | rfl | rfl <;> rfl
theorem shift_length {v0 v1 v2 v3 v4 v5 v6 v7 : Nat} (i : Nat) (h2 : i ≤ 7) : (shiftL [v0, v1, v2, v3, v4, v5, v6, v7] i).length = 8 := by
  rcases (show i = 0 ∨ i = 1 ∨ i = 2 ∨ i = 3 ∨ i = 4 ∨ i = 5 ∨ i = 6 ∨ i = 7 by omega) with rfl | rfl | rfl | rfl | rfl | rfl | rfl | rfl <;> rfl
theorem fin_comm (v s : List Nat) (hv : v.length = 8) (hs : s.length = 8) : fin s v 8 = fin v s 8 := by
  obtain ⟨a, b, c, d, e, f, g, h, rfl⟩ := eight hv
  obtain ⟨a', b', c', d', e', f', g', h', rfl⟩ := eight hs
  have e1 : fin [a', b', c', d', e', f', g', h'] [a, b, c, d, e, f, g, h] 8 = [(a + a') % 4294967296, (b + b') % 4294967296, (c + c') % 4294967296, (d + d') % 4294967296, (e + e') % 4294967296, (f + f') % 4294967296, (g + g') % 4294967296, (h + h') % 4294967296] := rfl
  have e2 : fin [a, b, c, d, e, f, g, h] [a', b', c', d', e', f', g', h'] 8 = [(a' + a) % 4294967296, (b' + b) % 4294967296, (c' + c) % 4294967296, (d' + d) % 4294967296, (e' + e) % 4294967296, (f' + f) % 4294967296, (g' + g) % 4294967296, (h' + h) % 4294967296] := rfl
  rw [e1, e2, Nat.add_comm a, Nat.add_comm b, Nat.add_comm c, Nat.add_comm d, Nat.add_comm e, Nat.add_comm f, Nat.add_comm g, Nat.add_comm h]
end Go.Proofs.YtpbnfnaebdmagaaDoor.Sha
namespace Go.Proofs.YtpbnfnaebdmagaaDoor.Sha
set_option linter.unusedVariables false
set_option linter.unusedSimpArgs false
open Go Go.RowKit Go.Proofs.YtpbnfnaebdmagaaDoor.Plain Go.Proofs.YtpbnfnaebdmagaaDoor.PT Go.Proofs.YtpbnfnaebdmagaaDoor.WordsA Go.Proofs.YtpbnfnaebdmagaaDoor.Bld Go.Proofs.YtpbnfnaebdmagaaDoorW.PrintWords Go.Proofs.YtpbnfnaebdmagaaDoorW.PrintLast Go.Proofs.YtpbnfnaebdmagaaDoorW.PrintMore
/-- what each round adds -/
def roots : List Nat := [1116352408, 1899447441, 3049323471, 3921009573, 961987163, 1508970993, 2453635748, 2870763221, 3624381080, 310598401, 607225278, 1426881987, 1925078388, 2162078206, 2614888103, 3248222580, 3835390401, 4022224774, 264347078, 604807628, 770255983, 1249150122, 1555081692, 1996064986, 2554220882, 2821834349, 2952996808, 3210313671, 3336571891, 3584528711, 113926993, 338241895, 666307205, 773529912, 1294757372, 1396182291, 1695183700, 1986661051, 2177026350, 2456956037, 2730485921, 2820302411, 3259730800, 3345764771, 3516065817, 3600352804, 4094571909, 275423344, 430227734, 506948616, 659060556, 883997877, 958139571, 1322822218, 1537002063, 1747873779, 1955562222, 2024104815, 2227730452, 2361852424, 2428436474, 2756734187, 3204031479, 3329325298]
theorem roots_length : roots.length = 64 := by decide
theorem roots_bnd : bnd roots 4294967296 := by unfold bnd; decide
abbrev rootsV : Array Value := #[.int .u32 1116352408, .int .u32 1899447441, .int .u32 3049323471, .int .u32 3921009573, .int .u32 961987163, .int .u32 1508970993, .int .u32 2453635748, .int .u32 2870763221, .int .u32 3624381080, .int .u32 310598401, .int .u32 607225278, .int .u32 1426881987, .int .u32 1925078388, .int .u32 2162078206, .int .u32 2614888103, .int .u32 3248222580, .int .u32 3835390401, .int .u32 4022224774, .int .u32 264347078, .int .u32 604807628, .int .u32 770255983, .int .u32 1249150122, .int .u32 1555081692, .int .u32 1996064986, .int .u32 2554220882, .int .u32 2821834349, .int .u32 2952996808, .int .u32 3210313671, .int .u32 3336571891, .int .u32 3584528711, .int .u32 113926993, .int .u32 338241895, .int .u32 666307205, .int .u32 773529912, .int .u32 1294757372, .int .u32 1396182291, .int .u32 1695183700, .int .u32 1986661051, .int .u32 2177026350, .int .u32 2456956037, .int .u32 2730485921, .int .u32 2820302411, .int .u32 3259730800, .int .u32 3345764771, .int .u32 3516065817, .int .u32 3600352804, .int .u32 4094571909, .int .u32 275423344, .int .u32 430227734, .int .u32 506948616, .int .u32 659060556, .int .u32 883997877, .int .u32 958139571, .int .u32 1322822218, .int .u32 1537002063, .int .u32 1747873779, .int .u32 1955562222, .int .u32 2024104815, .int .u32 2227730452, .int .u32 2361852424, .int .u32 2428436474, .int .u32 2756734187, .int .u32 3204031479, .int .u32 3329325298]
theorem roots_v : arr .u32 roots = rootsV := rfl
set_option maxHeartbeats 4000000 in
set_option maxRecDepth 100000 in
theorem rbegin_lit (w : World) :
    Calls Tryd.prog 75 #[] w fun e w' => e = .returned (.agg initV) ∧ Below w.heap.size w w' := by
  go_enter Tryd.func75, Tryd.ntmps75
  go_wp2
  exact bodyPost_ret (v := .agg initV) (by simp [results, Tryd.results75, go_sem]) rfl ⟨rfl, below_alloc (Below.refl _ _) _⟩
set_option maxHeartbeats 4000000 in
set_option maxRecDepth 1000000 in
theorem roots_walk (w : World) :
    Calls Tryd.prog 45 #[] w fun e w' => e = .returned (.agg rootsV) ∧ Below w.heap.size w w' := by
  have hu := (Tryd.underlying90 : Tryd.prog.underlying 90 = _)
  go_enter Tryd.func45, Tryd.ntmps45
  go_upto_region 1 with fail
  have hb0 : (w.alloc (.cells (arr .u32 (List.replicate 64 0)) 90)).heap[w.heap.size]? = some (.cells (arr .u32 (List.replicate 64 0)) 90 (0, 0)) := blk_new w _
  have he : arr .u32 (List.replicate 64 0) = #[.int .u32 0, .int .u32 0, .int .u32 0, .int .u32 0, .int .u32 0, .int .u32 0, .int .u32 0, .int .u32 0, .int .u32 0, .int .u32 0, .int .u32 0, .int .u32 0, .int .u32 0, .int .u32 0, .int .u32 0, .int .u32 0, .int .u32 0, .int .u32 0, .int .u32 0, .int .u32 0, .int .u32 0, .int .u32 0, .int .u32 0, .int .u32 0, .int .u32 0, .int .u32 0, .int .u32 0, .int .u32 0, .int .u32 0, .int .u32 0, .int .u32 0, .int .u32 0, .int .u32 0, .int .u32 0, .int .u32 0, .int .u32 0, .int .u32 0, .int .u32 0, .int .u32 0, .int .u32 0, .int .u32 0, .int .u32 0, .int .u32 0, .int .u32 0, .int .u32 0, .int .u32 0, .int .u32 0, .int .u32 0, .int .u32 0, .int .u32 0, .int .u32 0, .int .u32 0, .int .u32 0, .int .u32 0, .int .u32 0, .int .u32 0, .int .u32 0, .int .u32 0, .int .u32 0, .int .u32 0, .int .u32 0, .int .u32 0, .int .u32 0, .int .u32 0] := by rfl
  rw [← he]
  clear he
  have HB := Aside0.mk (below_alloc (Below.refl w.heap.size w) (.cells (arr .u32 (List.replicate 64 0)) 90))
  generalize w.alloc (.cells (arr .u32 (List.replicate 64 0)) 90) = w2 at hb0 HB ⊢
  have hth : Aside0 (w2.there w.heap.size 0 rootsV.size) := ⟨fun j hj => ⟨by rw [Nat.zero_add, blk_cell hb0 j, arr_at .u32 _ j (by simpa using hj)]; rfl, blk_frozen hb0 _⟩⟩
  have hrow := Aside0.mk (arr_row .u32 (List.replicate 64 0) roots hb0 (by simp [roots_length]))
  have hbl := Aside0.mk (below_setCells (Nat.le_refl w.heap.size) (arr .u32 roots).toList 0 _ HB.out)
  rw [roots_v] at hrow hbl
  have hin : Aside0 ((Tryd.prog.info? 90).map (·.size) = some rootsV.size) := ⟨by kernel_rfl⟩
  have hone : Aside0 (rootsV.all (·.oneCell') = true) := ⟨arr_one .u32 roots⟩
  clear hb0
  go_wp2_with (refine wpList_store_mid rfl 90 (.tmp 0) (.tmp 1) rfl w.heap.size 0 rootsV (by rfl) (by rfl) hth.out hin.out hone.out ?_)
  exact bodyPost_ret (v := .agg rootsV) (results_cell_row rfl _ _ w.heap.size 90 _ (0, 0) _ (by rfl) hrow.out hu rfl hin.out) rfl ⟨rfl, hbl.out⟩
set_option maxHeartbeats 4000000 in
set_option maxRecDepth 1000000 in
theorem rtext_walk (k : Nat) (hk : 10 ≤ k) (s : List Nat) (w : World) (hs : s.length = 8) (hsb : bnd s 4294967296) :
    Calls Tryd.prog 78 #[.agg (arr .u32 s)] w fun e w' => e = .returned (.string (txt s 8)) ∧ Below w.heap.size w w' := by
  have HS := Aside0.mk hs
  have HK := Aside0.mk hk
  have HSB := Aside0.mk hsb
  clear hs hk hsb
  go_enter Tryd.func78, Tryd.ntmps78
  go_upto_region 2 with fail
  have hb0 := Aside0.mk (blk_new w (.cells (arr .u32 s) 114))
  have HB := Aside0.mk (below_alloc (Below.refl w.heap.size w) (.cells (arr .u32 s) 114))
  generalize w.alloc (.cells (arr .u32 s) 114) = w2 at hb0 HB ⊢
  have hx0 : (⟨#[]⟩ : ByteArray) = txt s 0 := rfl
  go_wp2
  go_loopw [3, 4] (fun v3 v4 wr => ∃ i : Nat, i ≤ 8 ∧ v3 = .string (txt s i) ∧ v4 = .int .i64 i ∧ Aside0 (wr.heap[w.heap.size]? = some (.cells (arr .u32 s) 114 (0, 0))) ∧ Aside0 (Below w.heap.size w wr)) (fun _ v4 _ => 8 - (intOf v4).toNat)
  case atStart => exact ⟨0, by omega, rfl, rfl, hb0, HB⟩
  case round =>
    clear hb0 HB
    obtain ⟨i, hi, rfl, rfl, HC, HB⟩ := hrel
    have hi0 : (0 : Int) ≤ (i : Int) := by omega
    by_cases hlt : i < 8
    · have d1 : (i : Int) < 8 := by omega
      have hx := G_lt HSB.out (by decide) i
      have hcl : wr.cell? ⟨w.heap.size, i, none⟩ = some (.int .u32 (G s i : Nat)) := (blk_cell HC.out i).trans (arr_at _ _ _ (by rw [HS.out]; exact hlt))
      have hput := Aside0.mk (rput_some (w := 4) (n := (G s i : Nat)) k (by omega) (by omega) HK.out)
      have htx : Aside0 (txt s (i + 1) = txt s i ++ put 4 (G s i : Nat)) := ⟨rfl⟩
      have hsz := txt_size s i
      have hpz : (put 4 (G s i : Nat)).size = 4 := by rw [size_put]; omega
      generalize G s i = x at hcl hx hput hpz htx
      generalize put 4 (x : Int) = px at hput hpz htx
      obtain ⟨T, hT⟩ : ∃ T, txt s i = T := ⟨_, rfl⟩
      rw [hT] at htx hsz ⊢
      have hw64 : IntKind.u64.wrap (x : Int) = (x : Int) := IntWalk.u64_in _ (by omega)
      have c5 : (T.size + px.size ≤ 9223372036854775807) = True := eq_true (by omega)
      have c6 : (9223372036854775807 < T.size + px.size) = False := eq_false (by omega)
      clear hsz hpz hT hx0
      have y0 : (0 : Int) ≤ (i : Int) ∧ (i : Int) < 8 := by omega
      go_wp2_with (go_at_call 74; (with_reducible refine (precinctref01_Put.calls k 4 (x : Int) px _ hput.out).mono ?_); rintro e w3 ⟨rfl, hb⟩; have HC3 := Aside0.mk (blk_below HC.out hb); have HB3 := Aside0.mk (below_step HB.out hb); clear hb)
      go_roundw
      case rel => first | exact ⟨i + 1, by omega, by rw [htx.out], by go_num, HC3, HB3⟩ | ((repeat apply Exists.intro); exact ⟨⟨i + 1, by omega, by rw [htx.out], by go_num, HC3, HB3⟩, rfl⟩)
      case measure => simp [intOf]; omega
    · obtain rfl : i = 8 := by omega
      go_wp2
      go_ret
      exact ⟨rfl, HB.out⟩
end Go.Proofs.YtpbnfnaebdmagaaDoor.Sha
namespace Go.Proofs.YtpbnfnaebdmagaaDoor.Rd
set_option linter.unusedVariables false
set_option linter.unusedSimpArgs false
open Go Go.RowKit Go.Proofs.YtpbnfnaebdmagaaDoor.Mt Go.Proofs.YtpbnfnaebdmagaaDoor.PT Go.Proofs.YtpbnfnaebdmagaaDoorW.PrintWords Go.Proofs.YtpbnfnaebdmagaaDoorW.PrintLast Go.Proofs.YtpbnfnaebdmagaaDoorW.PrintMore
set_option maxHeartbeats 4000000 in
set_option maxRecDepth 100000 in
theorem value_bad1 (s : ByteArray) (i d kd i1 c : Int) (g : Nat) (w0 w : World) (hI : IsS73 w0 w g s i) (hB : Below w0.heap.size w0 w) (hc : c ≠ 0) (h1 : words_Get.f 20 s i 1 = some (kd, i1, c)) :
    Calls Tryd.prog 33 #[.pointer (some ⟨g, 0, none⟩), .int .i64 d] w fun e w' => e = .panicked [fault c] ∧ KeepBut w w' g none ∧ Below w0.heap.size w0 w' := by
  have HI := Aside0.mk hI
  have HB := Aside0.mk hB
  have HF := Aside0.mk h1
  clear hI hB h1
  have HC := Aside0.mk hc
  clear hc
  have hu := Tryd.underlying51
  have hu2 := Tryd.underlying73
  go_enter Tryd.func33, Tryd.ntmps33
  go_wp2_with (go_at_call 49; (with_reducible refine (number_bad s i 1 kd i1 c g _ ?b HC.out HF.out).mono ?_); (case b => exact (HI.out.alloc _).1); rintro e w1 ⟨rfl, nd, hw⟩; have HK1 : Aside0 (KeepBut w w1 g none) := ⟨by rw [hw]; exact keep_drewN (keep_alloc (KeepBut.refl w g none) _) nd⟩; have HB1 : Aside0 (Below w0.heap.size w0 w1) := ⟨by rw [hw]; exact pw_below_drewN (below_alloc HB.out _) nd⟩; clear hw)
  exact ⟨rfl, rfl, HK1.out, HB1.out⟩
set_option maxHeartbeats 4000000 in
set_option maxRecDepth 100000 in
theorem value_kind (s : ByteArray) (i d kd i1 : Int) (g : Nat) (w0 w : World) (hI : IsS73 w0 w g s i) (hB : Below w0.heap.size w0 w) (h1 : pack_reader_number.f 20 s i 1 = some (kd, s, i1)) (hkd : kd ≠ 1 ∧ kd ≠ 2 ∧ kd ≠ 3) :
    Calls Tryd.prog 33 #[.pointer (some ⟨g, 0, none⟩), .int .i64 d] w fun e w' => e = .panicked [fault 4] ∧ KeepBut w w' g none ∧ Below w0.heap.size w0 w' := by
  have HI := Aside0.mk hI
  have HB := Aside0.mk hB
  have HF := Aside0.mk h1
  clear hI hB h1
  have k1 : (kd == 1) = false := beq_eq_false_iff_ne.mpr (by omega)
  have k2 : (kd == 2) = false := beq_eq_false_iff_ne.mpr (by omega)
  have k3 : (kd == 3) = false := beq_eq_false_iff_ne.mpr (by omega)
  have hu := Tryd.underlying51
  have hu2 := Tryd.underlying73
  go_enter Tryd.func33, Tryd.ntmps33
  go_wp2_with (go_at_call 49; (with_reducible refine (pack_reader_number.calls 20 g s i 1 kd s i1 w0 _ ?b ?bb HF.out).mono ?_); (case b => exact HI.out.alloc _); (case bb => exact below_alloc HB.out _); rintro e w1 ⟨rfl, hi, hb, hk⟩; have HI1 := Aside0.mk hi; have HB1 := Aside0.mk hb; have HK1 := Aside0.mk ((keep_alloc (KeepBut.refl w g none) _).trans hk (.inl rfl)); clear hi hb hk)
  exact ⟨rfl, rfl, HK1.out, HB1.out⟩
set_option maxHeartbeats 4000000 in
set_option maxRecDepth 100000 in
theorem value_int (s : ByteArray) (i d kd i1 c : Int) (g : Nat) (w0 w : World) (hI : IsS73 w0 w g s i) (hB : Below w0.heap.size w0 w) (h1 : pack_reader_number.f 20 s i 1 = some (kd, s, i1)) (hkd : kd = 1) (h2 : ∀ W, IsS73 w0 W g s i1 → Below w0.heap.size w0 W → Calls Tryd.prog 50 #[.pointer (some ⟨g, 0, none⟩)] W fun e W' => e = .panicked [fault c] ∧ KeepBut W W' g none ∧ Below w0.heap.size w0 W') :
    Calls Tryd.prog 33 #[.pointer (some ⟨g, 0, none⟩), .int .i64 d] w fun e w' => e = .panicked [fault c] ∧ KeepBut w w' g none ∧ Below w0.heap.size w0 w' := by
  have HI := Aside0.mk hI
  have HB := Aside0.mk hB
  have HF := Aside0.mk h1
  clear hI hB h1
  have HG := Aside0.mk h2
  clear h2
  have k1 : (kd == 1) = true := beq_iff_eq.mpr hkd
  have hu := Tryd.underlying51
  have hu2 := Tryd.underlying73
  go_enter Tryd.func33, Tryd.ntmps33
  go_wp2_with (first | (go_at_call 49; (with_reducible refine (pack_reader_number.calls 20 g s i 1 kd s i1 w0 _ ?b ?bb HF.out).mono ?_); (case b => exact HI.out.alloc _); (case bb => exact below_alloc HB.out _); rintro e w1 ⟨rfl, hi, hb, hk⟩; have HI1 := Aside0.mk hi; have HB1 := Aside0.mk hb; have HK1 := Aside0.mk ((keep_alloc (KeepBut.refl w g none) _).trans hk (.inl rfl)); clear hi hb hk) | (go_at_call 50; (with_reducible refine (HG.out _ HI1.out HB1.out).mono ?_); rintro e w2 ⟨rfl, hk, hb⟩; have HK2 := Aside0.mk (HK1.out.trans hk (.inl rfl)); have HB2 := Aside0.mk hb; clear hk hb))
  exact ⟨rfl, rfl, HK2.out, HB2.out⟩
set_option maxHeartbeats 4000000 in
set_option maxRecDepth 100000 in
theorem value_deep (s : ByteArray) (i d kd i1 : Int) (g : Nat) (w0 w : World) (hI : IsS73 w0 w g s i) (hB : Below w0.heap.size w0 w) (h1 : pack_reader_number.f 20 s i 1 = some (kd, s, i1)) (hkd : kd = 3) (hd : 8 ≤ d) :
    Calls Tryd.prog 33 #[.pointer (some ⟨g, 0, none⟩), .int .i64 d] w fun e w' => e = .panicked [fault 5] ∧ KeepBut w w' g none ∧ Below w0.heap.size w0 w' := by
  have HI := Aside0.mk hI
  have HB := Aside0.mk hB
  have HF := Aside0.mk h1
  clear hI hB h1
  have k1 : (kd == 1) = false := beq_eq_false_iff_ne.mpr (by omega)
  have k2 : (kd == 2) = false := beq_eq_false_iff_ne.mpr (by omega)
  have k3 : (kd == 3) = true := beq_iff_eq.mpr hkd
  have hd1 : decide (8 ≤ d) = true := decide_eq_true (by omega)
  have hu := Tryd.underlying51
  have hu2 := Tryd.underlying73
  go_enter Tryd.func33, Tryd.ntmps33
  go_wp2_with (first | (go_at_call 49; (with_reducible refine (pack_reader_number.calls 20 g s i 1 kd s i1 w0 _ ?b ?bb HF.out).mono ?_); (case b => exact HI.out.alloc _); (case bb => exact below_alloc HB.out _); rintro e w1 ⟨rfl, hi, hb, hk⟩; have HI1 := Aside0.mk hi; have HB1 := Aside0.mk hb; have HK1 := Aside0.mk ((keep_alloc (KeepBut.refl w g none) _).trans hk (.inl rfl)); clear hi hb hk) | (go_at_call 34; (with_reducible refine (must_bad 5 (by decide) _).mono ?_); rintro e w3 ⟨rfl, rfl⟩))
  exact ⟨rfl, rfl, HK1.out, HB1.out⟩
set_option maxHeartbeats 4000000 in
set_option maxRecDepth 100000 in
theorem value_count (s : ByteArray) (i d kd i1 n i2 c : Int) (g : Nat) (w0 w : World) (hI : IsS73 w0 w g s i) (hB : Below w0.heap.size w0 w) (hc : c ≠ 0) (h1 : pack_reader_number.f 20 s i 1 = some (kd, s, i1)) (hkd : kd = 3) (hd : d < 8) (h2 : words_Get.f 20 s i1 2 = some (n, i2, c)) :
    Calls Tryd.prog 33 #[.pointer (some ⟨g, 0, none⟩), .int .i64 d] w fun e w' => e = .panicked [fault c] ∧ KeepBut w w' g none ∧ Below w0.heap.size w0 w' := by
  have HI := Aside0.mk hI
  have HB := Aside0.mk hB
  have HF := Aside0.mk h1
  clear hI hB h1
  have HC := Aside0.mk hc
  have HG := Aside0.mk h2
  clear hc h2
  have k1 : (kd == 1) = false := beq_eq_false_iff_ne.mpr (by omega)
  have k2 : (kd == 2) = false := beq_eq_false_iff_ne.mpr (by omega)
  have k3 : (kd == 3) = true := beq_iff_eq.mpr hkd
  have hd1 : decide (8 ≤ d) = false := decide_eq_false (by omega)
  have hu := Tryd.underlying51
  have hu2 := Tryd.underlying73
  go_enter Tryd.func33, Tryd.ntmps33
  go_wp2_with (first | (go_at_call 49; (with_reducible refine (pack_reader_number.calls 20 g s i 1 kd s i1 w0 _ ?b ?bb HF.out).mono ?_); (case b => exact HI.out.alloc _); (case bb => exact below_alloc HB.out _); rintro e w1 ⟨rfl, hi, hb, hk⟩; have HI1 := Aside0.mk hi; have HB1 := Aside0.mk hb; have HK1 := Aside0.mk ((keep_alloc (KeepBut.refl w g none) _).trans hk (.inl rfl)); clear hi hb hk) | (go_at_call 49; (with_reducible refine (number_bad s i1 2 n i2 c g _ ?b HC.out HG.out).mono ?_); (case b => exact HI1.out.1); rintro e w2 ⟨rfl, nd, rfl⟩; have HK2 := Aside0.mk (keep_drewN HK1.out nd); have HB2 := Aside0.mk (pw_below_drewN HB1.out nd)))
  exact ⟨rfl, rfl, HK2.out, HB2.out⟩
set_option maxHeartbeats 4000000 in
set_option maxRecDepth 100000 in
theorem value_many (s : ByteArray) (i d kd i1 n i2 : Int) (g : Nat) (w0 w : World) (hI : IsS73 w0 w g s i) (hB : Below w0.heap.size w0 w) (h1 : pack_reader_number.f 20 s i 1 = some (kd, s, i1)) (hkd : kd = 3) (hd : d < 8) (h2 : pack_reader_number.f 20 s i1 2 = some (n, s, i2)) (hn : 256 < n) :
    Calls Tryd.prog 33 #[.pointer (some ⟨g, 0, none⟩), .int .i64 d] w fun e w' => e = .panicked [fault 5] ∧ KeepBut w w' g none ∧ Below w0.heap.size w0 w' := by
  have HI := Aside0.mk hI
  have HB := Aside0.mk hB
  have HF := Aside0.mk h1
  clear hI hB h1
  have HG := Aside0.mk h2
  clear h2
  have hn1 : decide (256 < n) = true := decide_eq_true hn
  have k1 : (kd == 1) = false := beq_eq_false_iff_ne.mpr (by omega)
  have k2 : (kd == 2) = false := beq_eq_false_iff_ne.mpr (by omega)
  have k3 : (kd == 3) = true := beq_iff_eq.mpr hkd
  have hd1 : decide (8 ≤ d) = false := decide_eq_false (by omega)
  have hu := Tryd.underlying51
  have hu2 := Tryd.underlying73
  go_enter Tryd.func33, Tryd.ntmps33
  go_wp2_with (first | (go_at_call 49; (with_reducible refine (pack_reader_number.calls 20 g s i 1 kd s i1 w0 _ ?b ?bb HF.out).mono ?_); (case b => exact HI.out.alloc _); (case bb => exact below_alloc HB.out _); rintro e w1 ⟨rfl, hi, hb, hk⟩; have HI1 := Aside0.mk hi; have HB1 := Aside0.mk hb; have HK1 := Aside0.mk ((keep_alloc (KeepBut.refl w g none) _).trans hk (.inl rfl)); clear hi hb hk) | (go_at_call 49; (with_reducible refine (pack_reader_number.calls 20 g s i1 2 n s i2 w0 _ ?b ?bb HG.out).mono ?_); (case b => exact HI1.out); (case bb => exact HB1.out); rintro e w2 ⟨rfl, hi, hb, hk⟩; have HI2 := Aside0.mk hi; have HB2 := Aside0.mk hb; have HK2 := Aside0.mk (HK1.out.trans hk (.inl rfl)); clear hi hb hk) | (go_at_call 34; (with_reducible refine (must_bad 5 (by decide) _).mono ?_); rintro e w3 ⟨rfl, rfl⟩))
  exact ⟨rfl, rfl, HK2.out, HB2.out⟩
set_option maxHeartbeats 4000000 in
set_option maxRecDepth 100000 in
theorem value_text (s : ByteArray) (i d kd i1 i2 c : Int) (x : ByteArray) (g : Nat) (w0 w : World) (hI : IsS73 w0 w g s i) (hB : Below w0.heap.size w0 w) (hc : c ≠ 0) (h1 : pack_reader_number.f 20 s i 1 = some (kd, s, i1)) (hkd : kd = 2) (h2 : words_GetText.f 20 s i1 = some (x, i2, c)) :
    Calls Tryd.prog 33 #[.pointer (some ⟨g, 0, none⟩), .int .i64 d] w fun e w' => e = .panicked [fault c] ∧ KeepBut w w' g none ∧ Below w0.heap.size w0 w' := by
  have HI := Aside0.mk hI
  have HB := Aside0.mk hB
  have HF := Aside0.mk h1
  clear hI hB h1
  have HC := Aside0.mk hc
  have HG := Aside0.mk h2
  clear hc h2
  have k1 : (kd == 1) = false := beq_eq_false_iff_ne.mpr (by omega)
  have k2 : (kd == 2) = true := beq_iff_eq.mpr hkd
  have hu := Tryd.underlying51
  have hu2 := Tryd.underlying73
  go_enter Tryd.func33, Tryd.ntmps33
  go_wp2_with (go_at_call 49; (with_reducible refine (pack_reader_number.calls 20 g s i 1 kd s i1 w0 _ ?b ?bb HF.out).mono ?_); (case b => exact HI.out.alloc _); (case bb => exact below_alloc HB.out _); rintro e w1 ⟨rfl, hi, hb, hk⟩; have HI1 := Aside0.mk hi; have HB1 := Aside0.mk hb; have HK1 := Aside0.mk ((keep_alloc (KeepBut.refl w g none) _).trans hk (.inl rfl)); clear hi hb hk; have c0 : w1.cell? ⟨g, 0, none⟩ = some (.string s) := (blk_cell HI1.out.1 0).trans rfl; have c1 : w1.cell? ⟨g, 1, none⟩ = some (.int .i64 i1) := (blk_cell HI1.out.1 1).trans rfl; have f0 := blk_frozen HI1.out.1 0; have f1 := blk_frozen HI1.out.1 1)
  go_region_held3 (fun w' => w'.cell? ⟨g, 0, none⟩ = some (.string s) ∧ w'.cell? ⟨g, 1, none⟩ = some (.int .i64 i1)) (go_keep)
    (first | (go_at_call 51; (with_reducible refine (words_GetText.calls 20 s i1 x i2 c _ HG.out).mono ?_); rintro e w' ⟨rfl, ⟨nd, rfl⟩⟩))
  go_wp2_with (go_at_call 34; (with_reducible refine (must_bad c HC.out _).mono ?_); rintro e w3 ⟨rfl, rfl⟩)
  exact ⟨rfl, rfl, keep_drewN HK1.out _, pw_below_drewN HB1.out _⟩
set_option maxHeartbeats 4000000 in
set_option maxRecDepth 100000 in
theorem value_long (s : ByteArray) (i d kd i1 i2 : Int) (x : ByteArray) (g : Nat) (w0 w : World) (hI : IsS73 w0 w g s i) (hB : Below w0.heap.size w0 w) (h1 : pack_reader_number.f 20 s i 1 = some (kd, s, i1)) (hkd : kd = 2) (h2 : words_GetText.f 20 s i1 = some (x, i2, 0)) (hx : 4096 < x.size) :
    Calls Tryd.prog 33 #[.pointer (some ⟨g, 0, none⟩), .int .i64 d] w fun e w' => e = .panicked [fault 5] ∧ KeepBut w w' g none ∧ Below w0.heap.size w0 w' := by
  have HI := Aside0.mk hI
  have HB := Aside0.mk hB
  have HF := Aside0.mk h1
  clear hI hB h1
  have HG := Aside0.mk h2
  clear h2
  have hx1 : decide (4096 < x.size) = true := decide_eq_true hx
  have hx2 : decide ((4096 : Int) < (x.size : Int)) = true := decide_eq_true (by omega)
  clear hx
  have k1 : (kd == 1) = false := beq_eq_false_iff_ne.mpr (by omega)
  have k2 : (kd == 2) = true := beq_iff_eq.mpr hkd
  have hu := Tryd.underlying51
  have hu2 := Tryd.underlying73
  go_enter Tryd.func33, Tryd.ntmps33
  go_wp2_with (go_at_call 49; (with_reducible refine (pack_reader_number.calls 20 g s i 1 kd s i1 w0 _ ?b ?bb HF.out).mono ?_); (case b => exact HI.out.alloc _); (case bb => exact below_alloc HB.out _); rintro e w1 ⟨rfl, hi, hb, hk⟩; have HI1 := Aside0.mk hi; have HB1 := Aside0.mk hb; have HK1 := Aside0.mk ((keep_alloc (KeepBut.refl w g none) _).trans hk (.inl rfl)); clear hi hb hk; have c0 : w1.cell? ⟨g, 0, none⟩ = some (.string s) := (blk_cell HI1.out.1 0).trans rfl; have c1 : w1.cell? ⟨g, 1, none⟩ = some (.int .i64 i1) := (blk_cell HI1.out.1 1).trans rfl; have f0 := blk_frozen HI1.out.1 0; have f1 := blk_frozen HI1.out.1 1)
  go_region_held3 (fun w' => w'.cell? ⟨g, 0, none⟩ = some (.string s) ∧ w'.cell? ⟨g, 1, none⟩ = some (.int .i64 i1)) (go_keep)
    (first | (go_at_call 51; (with_reducible refine (words_GetText.calls 20 s i1 x i2 0 _ HG.out).mono ?_); rintro e w' ⟨rfl, ⟨nd, rfl⟩⟩))
  go_wp2_with (go_at_call 34; first | ((with_reducible refine (must_ok _).mono ?_); rintro e w3 ⟨rfl, rfl⟩) | ((with_reducible refine (must_bad 5 (by decide) _).mono ?_); rintro e w3 ⟨rfl, rfl⟩))
  exact ⟨rfl, rfl, keep_drewN HK1.out _, pw_below_drewN HB1.out _⟩
end Go.Proofs.YtpbnfnaebdmagaaDoor.Rd
namespace Go.Proofs.YtpbnfnaebdmagaaDoor.Rd
set_option linter.unusedVariables false
set_option linter.unusedSimpArgs false
open Go Go.RowKit Go.Proofs.YtpbnfnaebdmagaaDoor.Mt Go.Proofs.YtpbnfnaebdmagaaDoor.PT Go.Proofs.YtpbnfnaebdmagaaDoorW.PrintWords Go.Proofs.YtpbnfnaebdmagaaDoorW.PrintLast Go.Proofs.YtpbnfnaebdmagaaDoorW.PrintMore
/-- so many values read on, one behind the other -/
inductive Chain (K : Nat) (s : ByteArray) (d : Int) : Nat → Int → Int → Prop
  | nil (i : Int) : Chain K s d 0 i i
  | cons {m : Nat} {i i1 i2 : Int} (x : S51) (h : pack_reader_value.f K s i d = some (x.f0, x.f1, x.f2, x.f3, s, i1)) (t : Chain K s d m i1 i2) : Chain K s d (m + 1) i i2
set_option maxHeartbeats 8000000 in
set_option maxRecDepth 100000 in
theorem value_list (s : ByteArray) (i d kd i1 n i2 ij c : Int) (K j : Nat) (g : Nat) (w0 w : World) (hI : IsS73 w0 w g s i) (hB : Below w0.heap.size w0 w) (h1 : pack_reader_number.f 20 s i 1 = some (kd, s, i1)) (hkd : kd = 3) (hd : d < 8)
    (h2 : pack_reader_number.f 20 s i1 2 = some (n, s, i2)) (hn : n ≤ 256) (hj : (j : Int) < n) (hch : Chain K s (wrap64 (d + 1)) j i2 ij)
    (h3 : ∀ W, IsS73 w0 W g s ij → Below w0.heap.size w0 W → Calls Tryd.prog 33 #[.pointer (some ⟨g, 0, none⟩), .int .i64 (wrap64 (d + 1))] W fun e W' => e = .panicked [fault c] ∧ KeepBut W W' g none ∧ Below w0.heap.size w0 W') :
    Calls Tryd.prog 33 #[.pointer (some ⟨g, 0, none⟩), .int .i64 d] w fun e w' => e = .panicked [fault c] ∧ KeepBut w w' g none ∧ Below w0.heap.size w0 w' := by
  have HI := Aside0.mk hI
  have HB := Aside0.mk hB
  have HF := Aside0.mk h1
  have HG := Aside0.mk h2
  have HX := Aside0.mk h3
  have HC := Aside0.mk hch
  have HL : Aside0 (w0.heap.size ≤ w.heap.size) := ⟨hB.size⟩
  clear hI hB h1 h2 h3 hch
  have hn1 : decide (256 < n) = false := decide_eq_false (by omega)
  have k1 : (kd == 1) = false := beq_eq_false_iff_ne.mpr (by omega)
  have k2 : (kd == 2) = false := beq_eq_false_iff_ne.mpr (by omega)
  have k3 : (kd == 3) = true := beq_iff_eq.mpr hkd
  have hd1 : decide (8 ≤ d) = false := decide_eq_false (by omega)
  have hu := Tryd.underlying51
  have hu2 := Tryd.underlying73
  go_enter Tryd.func33, Tryd.ntmps33
  go_wp2_with (first | (go_at_call 49; (with_reducible refine (pack_reader_number.calls 20 g s i 1 kd s i1 w0 _ ?b ?bb HF.out).mono ?_); (case b => exact HI.out.alloc _); (case bb => exact below_alloc HB.out _); rintro e w1 ⟨rfl, hi, hb, hk⟩; have HI1 := Aside0.mk hi; have HB1 := Aside0.mk hb; have HK1 := Aside0.mk ((keep_alloc (KeepBut.refl w g none) _).trans hk (.inl rfl)); clear hi hb hk) | (go_at_call 49; (with_reducible refine (pack_reader_number.calls 20 g s i1 2 n s i2 w0 _ ?b ?bb HG.out).mono ?_); (case b => exact HI1.out); (case bb => exact HB1.out); rintro e w2 ⟨rfl, hi, hb, hk⟩; have HI2 := Aside0.mk hi; have HB2 := Aside0.mk hb; have HK2 := Aside0.mk (HK1.out.trans hk (.inl rfl)); clear hi hb hk))
  go_loopw [9, 54] (fun v9 v54 wr => ∃ (m : Nat) (im : Int) (xs : List S51), v54 = .int .u64 m ∧ m ≤ j ∧ xs.length = m ∧ Aside0 (Chain K s (wrap64 (d + 1)) (j - m) im ij) ∧ Aside0 (Kd.R k51 51 wr w.heap.size (fun _ => True) v9 xs) ∧ Aside0 (IsS73 w0 wr g s im) ∧ Aside0 (KeepBut w wr g none) ∧ Aside0 (Below w0.heap.size w0 wr)) (fun _ v54 _ => j - (intOf v54).toNat)
  case atStart => exact ⟨0, i2, [], rfl, Nat.zero_le _, rfl, HC, ⟨Kd.R_nil _ _ _ _ _⟩, HI2, HK2, HB2⟩
  case round =>
    obtain ⟨m, im, xs, rfl, hm, hxs, HCm, HO, HI0, HK, HB0⟩ := hrel
    clear HC HI1 HB1 HK1 HI2 HB2 HK2
    have hmn : decide ((m : Int) < n) = true := decide_eq_true (by omega)
    have hmn' : (m : Int) < n := by omega
    by_cases hlt : m < j
    · obtain ⟨q, hq⟩ : ∃ q, j - m = q + 1 := ⟨j - m - 1, by omega⟩
      have hch := HCm.out
      rw [hq] at hch
      obtain ⟨x, ix, hx, HT⟩ : ∃ (x : S51) (ix : Int), Aside0 (pack_reader_value.f K s im (wrap64 (d + 1)) = some (x.f0, x.f1, x.f2, x.f3, s, ix)) ∧ Aside0 (Chain K s (wrap64 (d + 1)) (j - (m + 1)) ix ij) := by
        cases hch with
        | cons x h t => exact ⟨x, _, ⟨h⟩, ⟨by rw [show j - (m + 1) = q by omega]; exact t⟩⟩
      clear hch hq HCm
      have LM : Aside0 (xs.length < 1000) := ⟨by omega⟩
      go_wp2_with (first
        | (go_at_call 33; (with_reducible refine (pack_reader_value.calls K g s im (wrap64 (d + 1)) x.f0 x.f1 x.f2 x.f3 s ix w0 _ ?s1 ?s2 hx.out).mono ?_); (case s1 => exact (by repeat (first | (with_reducible first | exact HI0.out | apply IsS73.alloc | apply IsS73.drewN | apply IsS73.drew) | exact HI0.out))); (case s2 => exact (by repeat (first | (with_reducible first | exact HB0.out | apply below_alloc | apply pw_below_drewN | apply below_drew1) | exact HB0.out))); rintro e w4 ⟨v4, rfl, ho0, hi, hb, hk⟩
           have n0 := Aside0.mk (Kd.R_mono (Kd.R_told (Kd.R_oldK (IsS73.apart (show IsS73 w0 _ g s im from (by repeat (first | (with_reducible first | exact HI0.out | apply IsS73.alloc | apply IsS73.drewN | apply IsS73.drew) | exact HI0.out))) (by (with_reducible repeat (first | apply Kd.R_alloc | apply Kd.R_drewN | apply Kd.R_drew)); exact HO.out) (by decide)) hk) (Kd.R_base ho0)) (ok' := fun k => True ∧ some k ≠ v4.ownBlock) (fun _ h_ => h_.1))
           have n1 := Aside0.mk (Kd.R_lower (Kd.R_new' ho0 (Kd.R_lt (by (with_reducible repeat (first | apply Kd.R_alloc | apply Kd.R_drewN | apply Kd.R_drew)); exact HO.out))) (keep_size (w := w) (g := g) (row := none) (by repeat (first | (with_reducible first | exact HK.out | apply keep_drewN | apply keep_drew | apply keep_alloc) | exact HK.out))))
           have n2 := Aside0.mk (KeepBut.trans (by repeat (first | (with_reducible first | exact HK.out | apply keep_drewN | apply keep_drew | apply keep_alloc) | exact HK.out)) hk (.inl rfl))
           have n3 := Aside0.mk hi
           have n4 := Aside0.mk hb
           clear HO HI0 HK HB0 ho0 hi hb hk
           have HO := n0; have HN := n1; have HK := n2; have HI0 := n3; have HB0 := n4
           clear n0 n1 n2 n3 n4
           obtain ⟨A4, c4, e4⟩ := Kd.R_slice HN.out
           subst e4)
        | ((with_reducible refine gate_builtin (b := .append) (xs := #[.tmp 56, .tmp 61]) rfl ?_); at_builtin; refine Kd.R_append k51 w.heap.size rfl (.tmp 56) (.tmp 61) 49 51 (.agg #[(.int .i64 0), (.int .i64 0), (.string ⟨#[]⟩), (.slice none 0 0)]) 56 rfl Tryd.underlying49 info51 rfl (by decide) (by omega) u9 xs x [.int .i64 x.f0, .int .i64 x.f1, .string x.f2, .slice A4 x.f3.length c4] (fun _ => True) (fun k_ => True ∧ some k_ ≠ (u9 : Value).ownBlock) rfl rfl ?aP (fun _ hk => hk) (fun _ _ => trivial) ?aO (Below.refl _ _) ?aS ?aL ?_
           (case aP => exact k51_mkM _ _ _ x (Kd.R_mono HN.out (fun k_ hk => hk)))
           (case aO => exact Kd.R_mono (by (with_reducible repeat (first | apply Kd.R_alloc | apply Kd.R_drewN | apply Kd.R_drew)); exact HO.out) (fun _ _ => trivial))
           (case aS => exact (keep_size (w := w) (g := g) (row := none) (by repeat (first | (with_reducible first | exact HK.out | apply keep_drewN | apply keep_drew | apply keep_alloc) | exact HK.out))))
           (case aL => have := LM.out; omega)
           intro v5 w5 ho hb hg hat
           have n0 := Aside0.mk ho
           have n1 := Aside0.mk (IsS73.grown (by repeat (first | (with_reducible first | exact HI0.out | apply IsS73.alloc | apply IsS73.drewN | apply IsS73.drew) | exact HI0.out)) hg (IsS73.own_ne HI0.out HO.out (by decide)))
           have n2 := Aside0.mk (below_weaken (by repeat (first | (with_reducible first | exact HB0.out | apply below_alloc | apply pw_below_drewN | apply below_drew1) | exact HB0.out)) HL.out hb)
           have n3 := Aside0.mk (KeepBut.trans (by repeat (first | (with_reducible first | exact HK.out | apply keep_drewN | apply keep_drew | apply keep_alloc) | exact HK.out)) (KeepBut.of_grown hg g) (Kd.R_base2 HO.out))
           clear HO HI0 HB0 HK HN ho hb hg hat
           have HO := n0; have HI0 := n1; have HB0 := n2; have HK := n3
           clear n0 n1 n2 n3))
      go_roundw
      case rel => exact ⟨m + 1, ix, xs ++ [x], by go_num, by omega, by simp [hxs], HT, HO, HI0, HK, HB0⟩
      case measure => simp [intOf]; omega
    · obtain rfl : m = j := by omega
      have hij : im = ij := by
        have h := HCm.out
        rw [Nat.sub_self] at h
        cases h; rfl
      subst hij
      go_wp2_with (go_at_call 33; (with_reducible refine (HX.out _ (by repeat (first | (with_reducible first | exact HI0.out | apply IsS73.alloc | apply IsS73.drewN | apply IsS73.drew) | exact HI0.out)) (by repeat (first | (with_reducible first | exact HB0.out | apply below_alloc | apply pw_below_drewN | apply below_drew1) | exact HB0.out))).mono ?_); rintro e w4 ⟨rfl, hk, hb⟩; have HB4 := Aside0.mk hb; have HK4 := Aside0.mk (KeepBut.trans (by repeat (first | (with_reducible first | exact HK.out | apply keep_drewN | apply keep_drew | apply keep_alloc) | exact HK.out)) hk (.inl rfl)); clear hk hb)
      exact ⟨rfl, rfl, HK4.out, HB4.out⟩
end Go.Proofs.YtpbnfnaebdmagaaDoor.Rd
namespace Go.Proofs.YtpbnfnaebdmagaaDoor.Rd
set_option linter.unusedVariables false
set_option linter.unusedSimpArgs false
open Go Go.RowKit Go.Proofs.YtpbnfnaebdmagaaDoor.Plain Go.Proofs.YtpbnfnaebdmagaaDoor.Words Go.Proofs.YtpbnfnaebdmagaaDoor.Vr Go.Proofs.YtpbnfnaebdmagaaDoor.Mt Go.Proofs.YtpbnfnaebdmagaaDoor.PT Go.Proofs.YtpbnfnaebdmagaaDoorW.PrintWords Go.Proofs.YtpbnfnaebdmagaaDoorW.PrintLast Go.Proofs.YtpbnfnaebdmagaaDoorW.PrintMore
theorem number_some {s : ByteArray} {i wd : Int} (k : Nat) (hi : -9223372036854775808 ≤ i ∧ i ≤ 9223372036854775807) (hs : s.size ≤ 140737488351232 * 4) (hk : 12 ≤ k) (h : (getR s i wd).2.2 = 0) :
    pack_reader_number.f k s i wd = some ((getR s i wd).1, s, (getR s i wd).2.1) := by
  unfold pack_reader_number.f
  rw [get_some k hi hs hk, Option.bind_some, h]
  rfl
theorem getR_bounds (s : ByteArray) (a w : Int) (h : (getR s a w).2.2 = 0) : 0 ≤ (getR s a w).1 ∧ (getR s a w).1 < 18446744073709551616 ∧ 0 ≤ (getR s a w).2.1 ∧ (getR s a w).2.1 ≤ s.size := by
  unfold getR at h ⊢
  split
  · simp
  · rename_i h1
    split
    · simp
    · rename_i h2
      simp only [h1, h2, if_false] at h
      have b := gets_lt s a w.toNat
      refine ⟨b.1, ?_, by simp only; omega, by simp only; omega⟩
      have : (256 : Int) ^ w.toNat ≤ 256 ^ 8 := by
        rcases (by omega : w.toNat = 0 ∨ w.toNat = 1 ∨ w.toNat = 2 ∨ w.toNat = 3 ∨ w.toNat = 4 ∨ w.toNat = 5 ∨ w.toNat = 6 ∨ w.toNat = 7 ∨ w.toNat = 8) with h | h | h | h | h | h | h | h | h <;> rw [h] <;> decide
      have e8 : (256 : Int) ^ 8 = 18446744073709551616 := by decide
      simp only
      omega
theorem int_some {s : ByteArray} {i : Int} (k : Nat) (hi : -9223372036854775808 ≤ i ∧ i ≤ 9223372036854775807) (hs : s.size ≤ 140737488351232 * 4) (hk : 12 ≤ k) (h : (intR s i).1 = 0) :
    pack_reader_int.f k s i = some (0, (intR s i).2.1, ⟨#[]⟩, [], s, (intR s i).2.2) := by
  unfold intR at h ⊢
  unfold pack_reader_int.f
  by_cases c1 : (getR s i 1).2.2 = 0
  · rw [if_pos c1] at h ⊢
    have b := getR_bounds s i 1 c1
    rw [number_some k hi hs hk c1, Option.bind_some]
    by_cases c2 : (getR s i 1).1 > 8
    · rw [if_pos c2] at h; simp at h
    rw [if_neg c2] at h ⊢
    have e1 : wrap64 (getR s i 1).1 = (getR s i 1).1 := by unfold wrap64; omega
    simp only [e1]
    rw [if_neg c2]
    by_cases c3 : (getR s i 1).1 = 0
    · rw [if_pos c3, if_pos c3]
      rfl
    rw [if_neg c3] at h ⊢
    rw [if_neg c3]
    by_cases c4 : (getR s (getR s i 1).2.1 (getR s i 1).1).2.2 = 0
    · rw [if_pos c4] at h ⊢
      have b2 := getR_bounds s (getR s i 1).2.1 (getR s i 1).1 c4
      rw [number_some k (by omega) hs hk c4, Option.bind_some]
      by_cases c5 : (getR s (getR s i 1).2.1 (getR s i 1).1).1 / 2 ^ (8 * ((getR s i 1).1 - 1)).toNat = 0
      · rw [if_pos c5] at h; simp at h
      rw [if_neg c5]
      have e2 : wrap64 (8 * wrap64 ((getR s i 1).1 - 1)) = 8 * ((getR s i 1).1 - 1) := by unfold wrap64; omega
      simp only [e2]
      rw [if_pos (by omega), shr64 _ _ (by omega), if_neg c5, unfold_some b2.1 b2.2.1, Option.bind_some]
      rfl
    · rw [if_neg c4] at h; exact absurd h c4
  · rw [if_neg c1] at h; exact absurd h c1
theorem get20 {s : ByteArray} {i wd : Int} (hi : -9223372036854775808 ≤ i ∧ i ≤ 9223372036854775807) (hs : s.size ≤ 140737488351232 * 4) : words_Get.f 20 s i wd = some ((getR s i wd).1, (getR s i wd).2.1, (getR s i wd).2.2) := get_some 20 hi hs (by omega)
theorem getR1_lt (s : ByteArray) (i : Int) (h : (getR s i 1).2.2 = 0) : (getR s i 1).1 < 256 := by
  unfold getR at h ⊢
  split
  · simp
  · split
    · simp
    · exact (gets_lt s i 1).2
theorem int_panics {s : ByteArray} {i : Int} (hi : -9223372036854775808 ≤ i ∧ i ≤ 9223372036854775807) (hs : s.size ≤ 140737488351232 * 4) (h : (intR s i).1 ≠ 0) (g : Nat) (w0 w : World) (hI : IsS73 w0 w g s i) (hB : Below w0.heap.size w0 w) :
    Calls Tryd.prog 50 #[.pointer (some ⟨g, 0, none⟩)] w fun e w' => e = .panicked [fault (intR s i).1] ∧ KeepBut w w' g none ∧ Below w0.heap.size w0 w' := by
  unfold intR at h ⊢
  by_cases c1 : (getR s i 1).2.2 = 0
  · rw [if_pos c1] at h ⊢
    have b := getR_bounds s i 1 c1
    have b1 := getR1_lt s i c1
    have n1 := number_some 20 hi hs (by omega) c1
    by_cases c2 : (getR s i 1).1 > 8
    · rw [if_pos c2]
      exact int_long s i _ _ g w0 w hI hB n1 c2 b1
    rw [if_neg c2] at h ⊢
    by_cases c3 : (getR s i 1).1 = 0
    · rw [if_pos c3] at h; exact absurd rfl h
    rw [if_neg c3] at h ⊢
    by_cases c4 : (getR s (getR s i 1).2.1 (getR s i 1).1).2.2 = 0
    · rw [if_pos c4] at h ⊢
      by_cases c5 : (getR s (getR s i 1).2.1 (getR s i 1).1).1 / 2 ^ (8 * ((getR s i 1).1 - 1)).toNat = 0
      · rw [if_pos c5]
        exact int_zero s i _ _ _ _ g w0 w hI hB n1 (by omega) (by omega) (number_some 20 (by omega) hs (by omega) c4) c5
      · rw [if_neg c5] at h; exact absurd rfl h
    · rw [if_neg c4]
      exact int_bad2 s i _ _ _ _ _ g w0 w hI hB c4 n1 (by omega) (by omega) (get20 (by omega) hs)
  · rw [if_neg c1]
    exact int_bad1 s i _ _ _ g w0 w hI hB c1 (get20 hi hs)
end Go.Proofs.YtpbnfnaebdmagaaDoor.Rd
namespace Go.Proofs.YtpbnfnaebdmagaaDoor.Rd
set_option linter.unusedVariables false
set_option linter.unusedSimpArgs false
open Go Go.RowKit Go.Proofs.YtpbnfnaebdmagaaDoor.Plain Go.Proofs.YtpbnfnaebdmagaaDoor.Words Go.Proofs.YtpbnfnaebdmagaaDoor.Vr Go.Proofs.YtpbnfnaebdmagaaDoor.Mt Go.Proofs.YtpbnfnaebdmagaaDoor.PT Go.Proofs.YtpbnfnaebdmagaaDoorW.PrintWords Go.Proofs.YtpbnfnaebdmagaaDoorW.PrintLast Go.Proofs.YtpbnfnaebdmagaaDoorW.PrintMore
abbrev mkV (a b : Int) (c : ByteArray) (l : List S51) : S51 := ⟨a, b, c, l⟩
abbrev noV : S51 := ⟨0, 0, ⟨#[]⟩, []⟩
theorem value_le {s : ByteArray} {i d : Int} {K K' : Nat} (h : K ≤ K') {r} (e : pack_reader_value.f K s i d = some r) : pack_reader_value.f K' s i d = some r := by
  induction K' with
  | zero => rw [Nat.le_zero.mp h] at e; exact e
  | succ m ih =>
    rcases Nat.lt_or_ge m K with h1 | h1
    · rw [show K = m + 1 by omega] at e; exact e
    · exact pack_reader_value.mono s i d m _ (ih h1)
theorem list_le {d n c i : Int} {acc : List S51} {s : ByteArray} {K K' : Nat} (h : K ≤ K') {r} (e : pack_reader_value.l0 K d acc n c s i = some r) : pack_reader_value.l0 K' d acc n c s i = some r := by
  induction K' with
  | zero => rw [Nat.le_zero.mp h] at e; exact e
  | succ m ih =>
    rcases Nat.lt_or_ge m K with h1 | h1
    · rw [show K = m + 1 by omega] at e; exact e
    · exact (pack_reader_value.mono_l m).2 d acc n c s i _ (ih h1)
theorem Chain.le {s : ByteArray} {d : Int} {K K' : Nat} (h : K ≤ K') {m : Nat} {i j : Int} (c : Chain K s d m i j) : Chain K' s d m i j := by
  induction c with
  | nil i => exact .nil i
  | cons x e _ ih => exact .cons x (value_le h e) ih
/-- the reader panics so -/
def Panics (s : ByteArray) (i d e : Int) : Prop := ∀ (g : Nat) (w0 w : World), IsS73 w0 w g s i → Below w0.heap.size w0 w → Calls Tryd.prog 33 #[.pointer (some ⟨g, 0, none⟩), .int .i64 d] w fun e' w' => e' = .panicked [fault e] ∧ KeepBut w w' g none ∧ Below w0.heap.size w0 w'
def Good (s : ByteArray) (i d : Int) (r : Int × S51 × Int) : Prop :=
  (r.1 = 0 → 0 ≤ r.2.2 ∧ r.2.2 ≤ s.size ∧ ∃ K, pack_reader_value.f K s i d = some (r.2.1.f0, r.2.1.f1, r.2.1.f2, r.2.1.f3, s, r.2.2)) ∧ (r.1 ≠ 0 → Panics s i d r.1)
theorem list_good {s : ByteArray} {d : Int} {f : Int → Option (Int × S51 × Int)} (hf : ∀ (i : Int) r, 0 ≤ i → i ≤ (s.size : Int) → f i = some r → Good s i (wrap64 (d + 1)) r) (N : Int) (hN : N ≤ 256) : ∀ (n : Nat) (i : Int) (acc : List S51) (r : Int × List S51 × Int), 0 ≤ i → i ≤ (s.size : Int) → (acc.length : Int) + n = N → listR f n i = some r →
    (r.1 = 0 → 0 ≤ r.2.2 ∧ r.2.2 ≤ s.size ∧ ∃ K, pack_reader_value.l0 K d acc N acc.length s i = some (2, 0, ⟨#[]⟩, acc ++ r.2.1, s, r.2.2)) ∧
    (r.1 ≠ 0 → ∃ (j : Nat) (ij : Int) (K : Nat), j < n ∧ Chain K s (wrap64 (d + 1)) j i ij ∧ Panics s ij (wrap64 (d + 1)) r.1)
  | 0, i, acc, r, h0, h1, hl, h => by
    simp only [listR, Option.some.injEq] at h
    subst h
    refine ⟨fun _ => ⟨h0, h1, 1, ?_⟩, fun h => absurd rfl h⟩
    simp only [pack_reader_value.l0]
    rw [if_neg (by omega), List.append_nil]
  | n + 1, i, acc, r, h0, h1, hl, h => by
    simp only [listR] at h
    obtain ⟨⟨e, x, q⟩, hx, h⟩ := Option.bind_eq_some_iff.mp h
    have g := hf i _ h0 h1 hx
    dsimp only at h
    by_cases c : e = 0
    · rw [if_pos c] at h
      obtain ⟨⟨e2, l, q2⟩, hl2, h⟩ := Option.bind_eq_some_iff.mp h
      simp only [Option.some.injEq] at h
      subst h
      obtain ⟨k0, k1, K, hK⟩ := g.1 c
      have ih := list_good hf N hN n q (acc ++ [x]) _ k0 k1 (by simp; omega) hl2
      refine ⟨fun he => ?_, fun he => ?_⟩
      · obtain ⟨j0, j1, K2, hK2⟩ := ih.1 he
        refine ⟨j0, j1, max K K2 + 1, ?_⟩
        simp only [pack_reader_value.l0]
        rw [if_pos (by omega), value_le (Nat.le_max_left K K2) hK, Option.bind_some, if_pos (by omega)]
        have e1 : IntKind.u64.wrap ((acc.length : Int) + 1) = ((acc ++ [x]).length : Int) := by
          rw [wu64]; simp; omega
        rw [e1]
        have := list_le (Nat.le_max_right K K2) hK2
        rw [List.append_assoc] at this
        cases x
        exact this
      · obtain ⟨j, ij, K2, hj, hch, hp⟩ := ih.2 he
        exact ⟨j + 1, ij, max K K2, by omega, .cons x (value_le (Nat.le_max_left K K2) hK) (hch.le (Nat.le_max_right K K2)), hp⟩
    · rw [if_neg c] at h
      simp only [Option.some.injEq] at h
      subst h
      exact ⟨fun he => absurd he c, fun _ => ⟨0, i, 0, by omega, .nil i, g.2 c⟩⟩
theorem intR_bounds {s : ByteArray} {i : Int} (h : (intR s i).1 = 0) : 0 ≤ (intR s i).2.2 ∧ (intR s i).2.2 ≤ s.size := by
  unfold intR at h ⊢
  by_cases c1 : (getR s i 1).2.2 = 0
  · rw [if_pos c1] at h ⊢
    have b := getR_bounds s i 1 c1
    by_cases c2 : (getR s i 1).1 > 8
    · rw [if_pos c2] at h; simp at h
    rw [if_neg c2] at h ⊢
    by_cases c3 : (getR s i 1).1 = 0
    · rw [if_pos c3]; exact ⟨b.2.2.1, b.2.2.2⟩
    rw [if_neg c3] at h ⊢
    by_cases c4 : (getR s (getR s i 1).2.1 (getR s i 1).1).2.2 = 0
    · rw [if_pos c4] at h ⊢
      have b2 := getR_bounds s (getR s i 1).2.1 (getR s i 1).1 c4
      by_cases c5 : (getR s (getR s i 1).2.1 (getR s i 1).1).1 / 2 ^ (8 * ((getR s i 1).1 - 1)).toNat = 0
      · rw [if_pos c5] at h; simp at h
      rw [if_neg c5]
      exact ⟨b2.2.2.1, b2.2.2.2⟩
    · rw [if_neg c4] at h; exact absurd h c4
  · rw [if_neg c1] at h; exact absurd h c1
theorem gtextR_bounds {s : ByteArray} {i : Int} (h : (gtextR s i).2.2 = 0) : 0 ≤ (gtextR s i).2.1 ∧ (gtextR s i).2.1 ≤ s.size := by
  unfold gtextR at h ⊢
  by_cases c1 : (getR s i 2).2.2 = 0
  · rw [if_pos c1] at h ⊢
    have b := getR_bounds s i 2 c1
    by_cases c2 : (s.size : Int) - (getR s i 2).2.1 < (getR s i 2).1
    · rw [if_pos c2] at h; simp at h
    rw [if_neg c2]
    exact ⟨by show 0 ≤ (getR s i 2).2.1 + (getR s i 2).1; omega, by show (getR s i 2).2.1 + (getR s i 2).1 ≤ s.size; omega⟩
  · rw [if_neg c1] at h; exact absurd h c1
theorem value_good {s : ByteArray} (hs : s.size ≤ 140737488351232 * 4) : ∀ (k : Nat) (i d : Int) (r : Int × S51 × Int), 0 ≤ i → i ≤ (s.size : Int) → 0 ≤ d → d ≤ 8 → valR mkV noV k s i d = some r → Good s i d r
  | 0, _, _, _, _, _, _, _, h => by simp [valR] at h
  | k + 1, i, d, r, h0, h1, d0, d1, h => by
    have hi : -9223372036854775808 ≤ i ∧ i ≤ 9223372036854775807 := by omega
    simp only [valR] at h
    by_cases c1 : (getR s i 1).2.2 = 0
    · rw [if_pos c1] at h
      have b1 := getR_bounds s i 1 c1
      have hi1 : -9223372036854775808 ≤ (getR s i 1).2.1 ∧ (getR s i 1).2.1 ≤ 9223372036854775807 := by omega
      have n1 := number_some 20 hi hs (by omega) c1
      by_cases k1 : (getR s i 1).1 = 1
      · rw [if_pos k1] at h
        by_cases c2 : (intR s (getR s i 1).2.1).1 = 0
        · rw [if_pos c2] at h
          simp only [Option.some.injEq] at h
          subst h
          refine ⟨fun _ => ⟨(intR_bounds c2).1, (intR_bounds c2).2, 21, ?_⟩, fun he => absurd rfl he⟩
          simp only [pack_reader_value.f]
          rw [n1, Option.bind_some, if_pos k1, int_some 20 hi1 hs (by omega) c2, Option.bind_some]
        · rw [if_neg c2] at h
          simp only [Option.some.injEq] at h
          subst h
          exact ⟨fun he => absurd he c2, fun _ g w0 w hI hB => value_int s i d _ _ _ g w0 w hI hB n1 k1 (fun W hI' hB' => int_panics hi1 hs c2 g w0 W hI' hB')⟩
      rw [if_neg k1] at h
      by_cases k2 : (getR s i 1).1 = 2
      · rw [if_pos k2] at h
        have ht := gtext_some 20 hi1 hs (by omega)
        by_cases c2 : (gtextR s (getR s i 1).2.1).2.2 = 0
        · rw [if_pos c2] at h
          rw [show gtextR s (getR s i 1).2.1 = ((gtextR s (getR s i 1).2.1).1, (gtextR s (getR s i 1).2.1).2.1, 0) by rw [← c2]] at ht
          by_cases c3 : ((gtextR s (getR s i 1).2.1).1.size : Int) > 4096
          · rw [if_pos c3] at h
            simp only [Option.some.injEq] at h
            subst h
            exact ⟨fun he => by simp at he, fun _ g w0 w hI hB => value_long s i d _ _ _ _ g w0 w hI hB n1 k2 ht (by omega)⟩
          · rw [if_neg c3] at h
            simp only [Option.some.injEq] at h
            subst h
            refine ⟨fun _ => ⟨(gtextR_bounds c2).1, (gtextR_bounds c2).2, 21, ?_⟩, fun he => absurd rfl he⟩
            simp only [pack_reader_value.f]
            rw [n1, Option.bind_some, if_neg k1, if_pos k2, ht, Option.bind_some]
            simp only [pack_must.f, if_true, Option.bind_some]
            rw [if_neg c3]
            rfl
        · rw [if_neg c2] at h
          simp only [Option.some.injEq] at h
          subst h
          exact ⟨fun he => absurd he c2, fun _ g w0 w hI hB => value_text s i d _ _ _ _ _ g w0 w hI hB c2 n1 k2 ht⟩
      rw [if_neg k2] at h
      by_cases k3 : (getR s i 1).1 = 3
      · rw [if_pos k3] at h
        by_cases c2 : d ≥ 8
        · rw [if_pos c2] at h
          simp only [Option.some.injEq] at h
          subst h
          exact ⟨fun he => by simp at he, fun _ g w0 w hI hB => value_deep s i d _ _ g w0 w hI hB n1 k3 c2⟩
        rw [if_neg c2] at h
        by_cases c3 : (getR s (getR s i 1).2.1 2).2.2 = 0
        · rw [if_pos c3] at h
          have b2 := getR_bounds s (getR s i 1).2.1 2 c3
          have n2 := number_some 20 hi1 hs (by omega) c3
          by_cases c4 : (getR s (getR s i 1).2.1 2).1 > 256
          · rw [if_pos c4] at h
            simp only [Option.some.injEq] at h
            subst h
            exact ⟨fun he => by simp at he, fun _ g w0 w hI hB => value_many s i d _ _ _ _ g w0 w hI hB n1 k3 (by omega) n2 c4⟩
          rw [if_neg c4] at h
          obtain ⟨⟨e, l, q⟩, hl, h⟩ := Option.bind_eq_some_iff.mp h
          have e1 : wrap64 (d + 1) = d + 1 := by unfold wrap64; omega
          have lg := list_good (s := s) (d := d) (f := fun q => valR mkV noV k s q (d + 1)) (fun i r g0 g1 g => by rw [e1]; exact value_good hs k i (d + 1) r g0 g1 (by omega) (by omega) g) (getR s (getR s i 1).2.1 2).1 (by omega) _ _ [] _ b2.2.2.1 b2.2.2.2 (by simp; omega) hl
          dsimp only at h
          by_cases c5 : e = 0
          · rw [if_pos c5] at h
            simp only [Option.some.injEq] at h
            subst h
            obtain ⟨j0, j1, K, hK⟩ := lg.1 c5
            refine ⟨fun _ => ⟨j0, j1, max 20 K + 1, ?_⟩, fun he => absurd rfl he⟩
            simp only [pack_reader_value.f]
            rw [number_some (max 20 K) hi hs (by omega) c1, Option.bind_some, if_neg k1, if_neg k2, if_pos k3, if_neg c2, number_some (max 20 K) hi1 hs (by omega) c3, Option.bind_some, if_neg c4]
            exact list_le (Nat.le_max_right 20 K) hK
          · rw [if_neg c5] at h
            simp only [Option.some.injEq] at h
            subst h
            obtain ⟨j, ij, K, hj, hch, hp⟩ := lg.2 c5
            exact ⟨fun he => absurd he c5, fun _ g w0 w hI hB => value_list s i d _ _ _ _ ij e K j g w0 w hI hB n1 k3 (by omega) n2 (by omega) (by omega) hch (fun W hI' hB' => hp g w0 W hI' hB')⟩
        · rw [if_neg c3] at h
          simp only [Option.some.injEq] at h
          subst h
          exact ⟨fun he => absurd he c3, fun _ g w0 w hI hB => value_count s i d _ _ _ _ _ g w0 w hI hB c3 n1 k3 (by omega) (get20 hi1 hs)⟩
      rw [if_neg k3] at h
      simp only [Option.some.injEq] at h
      subst h
      exact ⟨fun he => by simp at he, fun _ g w0 w hI hB => value_kind s i d _ _ g w0 w hI hB n1 ⟨k1, k2, k3⟩⟩
    · rw [if_neg c1] at h
      simp only [Option.some.injEq] at h
      subst h
      exact ⟨fun he => absurd he c1, fun _ g w0 w hI hB => value_bad1 s i d _ _ _ g w0 w hI hB c1 (get20 hi hs)⟩
end Go.Proofs.YtpbnfnaebdmagaaDoor.Rd
namespace Go.Proofs.YtpbnfnaebdmagaaDoor.Rd
set_option linter.unusedVariables false
set_option linter.unusedSimpArgs false
open Go Go.RowKit Go.Proofs.YtpbnfnaebdmagaaDoor.Plain Go.Proofs.YtpbnfnaebdmagaaDoor.Words Go.Proofs.YtpbnfnaebdmagaaDoor.Vr Go.Proofs.YtpbnfnaebdmagaaDoor.Mt Go.Proofs.YtpbnfnaebdmagaaDoor.PT Go.Proofs.YtpbnfnaebdmagaaDoorW.PrintWords Go.Proofs.YtpbnfnaebdmagaaDoorW.PrintLast Go.Proofs.YtpbnfnaebdmagaaDoorW.PrintMore
set_option maxHeartbeats 4000000 in
set_option maxRecDepth 100000 in
theorem catch_idle (p q : Addr) (w : World) :
    CallsD Tryd.prog 32 #[.pointer (some p), .pointer (some q)] .returning w fun e u' w' => e = .returned (.tuple #[]) ∧ u' = .returning ∧ w' = w := by
  have hta : ∀ w, Sem.run Tryd.prog (Instr.typeAssert .nilIface 20 69 true) w = .ok (.tuple #[.int .i64 0, .bool false]) w := fun w => rfl
  refine callsD_of_wpS Tryd.func32 rfl fun c₀ cs hu => ?_
  apply wpS_seq
  apply wpS_region
  simp [wpOpsS, go_sem, recoverD, hu, hta, Tryd.ntmps32, Exit.thenS]
  apply wpS_seq
  apply wpS_region
  simp [wpOpsS, go_sem, Tryd.ntmps32, Exit.thenS]
  refine wpS_cond (t := false) (by simp [Act.eval, Array.replicate]) ?_
  simp only [Bool.false_eq_true, if_false]
  refine wpS_of_wp (wp_skip ?_)
  cases c₀
  simp_all [bodyPostS, results, Tryd.results32]
set_option maxHeartbeats 4000000 in
set_option maxRecDepth 100000 in
theorem catch_panicking (bv be : Nat) (c x0 x1 x4 : Int) (x2 : ByteArray) (v3 : Value) (w : World) (hv : w.heap[bv]? = some (.cells #[.int .i64 x0, .int .i64 x1, .string x2, v3] 51 (0, 0))) (he : w.heap[be]? = some (.cells #[.int .i64 x4] 24 (0, 0))) :
    CallsD Tryd.prog 32 #[.pointer (some ⟨bv, 0, none⟩), .pointer (some ⟨be, 0, none⟩)] (.panicking [fault c]) w fun e u' w' =>
      e = .returned (.tuple #[]) ∧ u' = .panicking [{ v := (fault c).v, recovered := true }] ∧ w' = ((((w.setCell ⟨bv, 0, none⟩ (.int .i64 0)).setCell ⟨bv, 1, none⟩ (.int .i64 0)).setCell ⟨bv, 2, none⟩ (.string ⟨#[]⟩)).setCell ⟨bv, 3, none⟩ (.slice none 0 0)).setCell ⟨be, 0, none⟩ (.int .i64 c) := by
  have hta : ∀ w, Sem.run Tryd.prog (Instr.typeAssert (.iface 69 (.int .i64 c)) 20 69 true) w = .ok (.tuple #[.int .i64 c, .bool true]) w := fun w => rfl
  have hne : bv ≠ be := blk_ne hv he (by decide)
  have c0 : w.cell? ⟨bv, 0, none⟩ = some (.int .i64 x0) := (blk_cell hv 0).trans rfl
  have c1 : w.cell? ⟨bv, 1, none⟩ = some (.int .i64 x1) := (blk_cell hv 1).trans rfl
  have c2 : w.cell? ⟨bv, 2, none⟩ = some (.string x2) := (blk_cell hv 2).trans rfl
  have c3 : w.cell? ⟨bv, 3, none⟩ = some v3 := (blk_cell hv 3).trans rfl
  have c4 : w.cell? ⟨be, 0, none⟩ = some (.int .i64 x4) := (blk_cell he 0).trans rfl
  have f0 := blk_frozen hv 0
  have f1 := blk_frozen hv 1
  have f2 := blk_frozen hv 2
  have f3 := blk_frozen hv 3
  have f4 := blk_frozen he 0
  refine callsD_of_wpS Tryd.func32 rfl fun c₀ cs hu => ?_
  apply wpS_seq
  apply wpS_region
  simp [wpOpsS, go_sem, recoverD, hu, hta, Tryd.ntmps32, Exit.thenS]
  apply wpS_seq
  apply wpS_region
  simp [wpOpsS, go_sem, Tryd.ntmps32, Exit.thenS]
  refine wpS_cond (t := true) (by simp [Act.eval, Array.replicate]) ?_
  simp only [if_true]
  have hua := Tryd.underlying51
  apply wpS_region
  simp [wpOpsS, go_sem, c0, c1, c2, c3, c4, f0, f1, f2, f3, f4, hne, hne.symm, bodyPostS, results, Tryd.results32]
theorem panics_use {s : ByteArray} {i d e : Int} (h : Panics s i d e) (g : Nat) (w0 w : World) (hI : IsS73 w0 w g s i) (hB : Below w0.heap.size w0 w) : Calls Tryd.prog 33 #[.pointer (some ⟨g, 0, none⟩), .int .i64 d] w fun e' w' => e' = .panicked [fault e] ∧ KeepBut w w' g none ∧ Below w0.heap.size w0 w' := h g w0 w hI hB
abbrev W3 (w : World) (s : ByteArray) : World := ((w.alloc (.cells #[.int .i64 0, .int .i64 0, .string ⟨#[]⟩, .slice none 0 0] 51)).alloc (.cells #[.int .i64 0] 24)).alloc (.cells #[.string s, .int .i64 0] 73)
theorem al_size (w : World) (o : Obj) : (w.alloc o).heap.size = w.heap.size + 1 := by show (w.heap.push _).size = _; exact Array.size_push _
theorem al_old (w : World) (o : Obj) (k : Nat) (h : k < w.heap.size) : (w.alloc o).heap[k]? = w.heap[k]? := (below_alloc (Below.refl _ _) o).block k h
theorem W3_size (w : World) (s : ByteArray) : (W3 w s).heap.size = w.heap.size + 1 + 1 + 1 := by rw [W3, al_size, al_size, al_size]
theorem W3_v (w : World) (s : ByteArray) : (W3 w s).heap[w.heap.size]? = some (.cells #[.int .i64 0, .int .i64 0, .string ⟨#[]⟩, .slice none 0 0] 51 (0, 0)) := by
  rw [W3, al_old _ _ _ (by rw [al_size, al_size]; omega), al_old _ _ _ (by rw [al_size]; omega)]; exact blk_new _ _
theorem W3_e (w : World) (s : ByteArray) : (W3 w s).heap[w.heap.size + 1]? = some (.cells #[.int .i64 0] 24 (0, 0)) := by
  rw [W3, al_old _ _ _ (by rw [al_size, al_size]; omega), ← al_size w (.cells #[.int .i64 0, .int .i64 0, .string ⟨#[]⟩, .slice none 0 0] 51)]; exact blk_new _ _
theorem W3_r (w : World) (s : ByteArray) : IsS73 w (W3 w s) (w.heap.size + 1 + 1) s 0 := ⟨by
  rw [W3, ← al_size w (.cells #[.int .i64 0, .int .i64 0, .string ⟨#[]⟩, .slice none 0 0] 51), ← al_size _ (.cells #[.int .i64 0] 24)]; exact blk_new _ _, by omega⟩
theorem W3_below (w : World) (s : ByteArray) : Below w.heap.size w (W3 w s) := below_alloc (below_alloc (below_alloc (Below.refl _ _) _) _) _
theorem set_heap (W : World) (p : Addr) (u : Value) (k : Nat) (h : k ≠ p.block) : (W.setCell p u).heap[k]? = W.heap[k]? := Below.heap_setCell W p u k h
/-- pack.Get's results are read behind its deferred closure -/
theorem get_results (bv be : Nat) (t0 t1 t4 t5 t6 t7 t8 t9 t10 t11 t12 t13 t14 t15 t16 t17 t18 t19 : Value) (W : World) (x0 x1 x4 : Int) (x2 : ByteArray) (A : Option Addr) (n cc : Nat)
    (hv : W.heap[bv]? = some (.cells #[.int .i64 x0, .int .i64 x1, .string x2, .slice A n cc] 51 (0, 0))) (he : W.heap[be]? = some (.cells #[.int .i64 x4] 24 (0, 0))) :
    (results Tryd.f18 #[t0, t1, .pointer (some ⟨bv, 0, none⟩), .pointer (some ⟨be, 0, none⟩), t4, t5, t6, t7, t8, t9, t10, t11, t12, t13, t14, t15, t16, t17, t18, t19]).run Tryd.prog W = .ok (.tuple #[.agg #[.int .i64 x0, .int .i64 x1, .string x2, .slice A n cc], .int .i64 x4]) W := by
  have c0 : W.cell? ⟨bv, 0, none⟩ = some (.int .i64 x0) := (blk_cell hv 0).trans rfl
  have c1 : W.cell? ⟨bv, 1, none⟩ = some (.int .i64 x1) := (blk_cell hv 1).trans rfl
  have c2 : W.cell? ⟨bv, 2, none⟩ = some (.string x2) := (blk_cell hv 2).trans rfl
  have c3 : W.cell? ⟨bv, 3, none⟩ = some (.slice A n cc) := (blk_cell hv 3).trans rfl
  have c4 : W.cell? ⟨be, 0, none⟩ = some (.int .i64 x4) := (blk_cell he 0).trans rfl
  have hu := Tryd.underlying51
  simp [results, Tryd.results18, go_sem, c0, c1, c2, c3, c4]
theorem door_idle (bv be : Nat) (t0 t1 t4 t5 t6 t7 t8 t9 t10 t11 t12 t13 t14 t15 t16 t17 t18 t19 : Value) (W : World) (x0 x1 x4 : Int) (x2 : ByteArray) (A : Option Addr) (n cc : Nat) (R : Ending → World → Prop)
    (hv : W.heap[bv]? = some (.cells #[.int .i64 x0, .int .i64 x1, .string x2, .slice A n cc] 51 (0, 0))) (he : W.heap[be]? = some (.cells #[.int .i64 x4] 24 (0, 0)))
    (hR : R (.returned (.tuple #[.agg #[.int .i64 x0, .int .i64 x1, .string x2, .slice A n cc], .int .i64 x4])) W) :
    bodyPostD Tryd.prog Tryd.f18 R Exit.ret { tmps := #[t0, t1, .pointer (some ⟨bv, 0, none⟩), .pointer (some ⟨be, 0, none⟩), t4, t5, t6, t7, t8, t9, t10, t11, t12, t13, t14, t15, t16, t17, t18, t19], defers := [{ target := .fn (.func 32) #[.pointer (some ⟨bv, 0, none⟩), .pointer (some ⟨be, 0, none⟩)], args := #[] }] } W := by
  refine leaves_cons (f := 32) (args := #[.pointer (some ⟨bv, 0, none⟩), .pointer (some ⟨be, 0, none⟩)]) (by simp) (by simp [go_sem]) ?_
  refine (catch_idle _ _ _).mono ?_
  rintro e u' w'' ⟨rfl, rfl, rfl⟩
  exact ⟨_, get_results bv be _ _ _ _ _ _ _ _ _ _ _ _ _ _ _ _ _ _ _ x0 x1 x4 x2 A n cc hv he, hR⟩
abbrev set4 (w : World) (bv : Nat) (a b c d : Value) : World := (((w.setCell ⟨bv, 0, none⟩ a).setCell ⟨bv, 1, none⟩ b).setCell ⟨bv, 2, none⟩ c).setCell ⟨bv, 3, none⟩ d
theorem set4_v {w : World} {bv : Nat} {t : TypeId} {y0 y1 y2 y3 : Value} (h : w.heap[bv]? = some (.cells #[y0, y1, y2, y3] t (0, 0))) (a b c d : Value) : (set4 w bv a b c d).heap[bv]? = some (.cells #[a, b, c, d] t (0, 0)) :=
  blk_put (blk_put (blk_put (blk_put h 0 a rfl) 1 b rfl) 2 c rfl) 3 d rfl
theorem set4_o {w : World} {bv k : Nat} (h : k ≠ bv) (a b c d : Value) : (set4 w bv a b c d).heap[k]? = w.heap[k]? := by
  rw [set4, set_heap _ _ _ _ h, set_heap _ _ _ _ h, set_heap _ _ _ _ h, set_heap _ _ _ _ h]
theorem set4_below {B bv : Nat} {u w : World} (h : Below B u w) (hb : B ≤ bv) (a b c d : Value) : Below B u (set4 w bv a b c d) :=
  (((h.setCell (p := ⟨bv, 0, none⟩) hb a).setCell (p := ⟨bv, 1, none⟩) hb b).setCell (p := ⟨bv, 2, none⟩) hb c).setCell (p := ⟨bv, 3, none⟩) hb d
theorem door_caught (bv be : Nat) (t0 t1 t4 t5 t6 t7 t8 t9 t10 t11 t12 t13 t14 t15 t16 t17 t18 t19 : Value) (W : World) (c x0 x1 x4 : Int) (x2 : ByteArray) (v3 : Value) (R : Ending → World → Prop)
    (hv : W.heap[bv]? = some (.cells #[.int .i64 x0, .int .i64 x1, .string x2, v3] 51 (0, 0))) (he : W.heap[be]? = some (.cells #[.int .i64 x4] 24 (0, 0)))
    (hR : R (.returned (.tuple #[.agg #[.int .i64 0, .int .i64 0, .string ⟨#[]⟩, .slice none 0 0], .int .i64 c])) ((set4 W bv (.int .i64 0) (.int .i64 0) (.string ⟨#[]⟩) (.slice none 0 0)).setCell ⟨be, 0, none⟩ (.int .i64 c))) :
    bodyPostD Tryd.prog Tryd.f18 R (Exit.panic [fault c]) { tmps := #[t0, t1, .pointer (some ⟨bv, 0, none⟩), .pointer (some ⟨be, 0, none⟩), t4, t5, t6, t7, t8, t9, t10, t11, t12, t13, t14, t15, t16, t17, t18, t19], defers := [{ target := .fn (.func 32) #[.pointer (some ⟨bv, 0, none⟩), .pointer (some ⟨be, 0, none⟩)], args := #[] }] } W := by
  have hne : bv ≠ be := blk_ne hv he (by decide)
  refine leaves_cons (f := 32) (args := #[.pointer (some ⟨bv, 0, none⟩), .pointer (some ⟨be, 0, none⟩)]) (by simp) (by simp [go_sem]) ?_
  refine (catch_panicking bv be c x0 x1 x4 x2 v3 W hv he).mono ?_
  rintro e u' w'' ⟨rfl, rfl, rfl⟩
  have hv' := set4_v hv (.int .i64 0) (.int .i64 0) (.string ⟨#[]⟩) (.slice none 0 0)
  have he' : (set4 W bv (.int .i64 0) (.int .i64 0) (.string ⟨#[]⟩) (.slice none 0 0)).heap[be]? = _ := (set4_o hne.symm _ _ _ _).trans he
  exact ⟨_, get_results bv be _ _ _ _ _ _ _ _ _ _ _ _ _ _ _ _ _ _ _ 0 0 c ⟨#[]⟩ none 0 0 (blk_far hv' hne _) (blk_put he' 0 _ rfl), hR⟩
set_option maxHeartbeats 4000000 in
set_option maxRecDepth 100000 in
theorem get_ok (s : ByteArray) (K : Nat) (x : S51) (at_ : Int) (w : World) (h : pack_reader_value.f K s 0 0 = some (x.f0, x.f1, x.f2, x.f3, s, at_)) (h1 : ¬ at_ < (s.size : Int)) :
    Calls Tryd.prog 18 #[.string s] w fun e w' => ∃ v3_ : Value, e = .returned (.tuple #[.agg #[.int .i64 x.f0, .int .i64 x.f1, .string x.f2, v3_], .int .i64 0]) ∧ Kd.R k51 51 w' w.heap.size (fun _ => True) v3_ x.f3 ∧ Below w.heap.size w w' := by
  have hmf : ∀ (fn : Fn) (first cap : Array Value) (w : World), (Instr.makeFunc fn first cap).run Tryd.prog w = .ok (.func fn first cap) w := fun _ _ _ _ => rfl
  have HF := Aside0.mk h
  have hd : decide (at_ < (s.size : Int)) = false := decide_eq_false h1
  clear h h1
  have hu := Tryd.underlying51
  have hu2 := Tryd.underlying73
  go_enter_defers Tryd.func18, Tryd.ntmps18
  go_wp2_with (go_at_call 33; go_loud ((with_reducible refine (pack_reader_value.calls K (w.heap.size + 1 + 1) s 0 0 x.f0 x.f1 x.f2 x.f3 s at_ w _ ?b ?bb HF.out).mono ?_); (case b => exact W3_r w s); (case bb => exact W3_below w s); rintro e w1 ⟨v3, rfl, ho, hi, hb, hk⟩; obtain ⟨A4, cc, e4⟩ := Kd.R_slice ho; subst e4;     have hv := hk.blk (W3_v w s) (by omega) (by simp); have he := hk.blk (W3_e w s) (by omega) (by simp); have hl := keep_size hk; have c0 : w1.cell? ⟨w.heap.size, 0, none⟩ = some (.int .i64 0) := (blk_cell hv 0).trans rfl; have c1 : w1.cell? ⟨w.heap.size, 1, none⟩ = some (.int .i64 0) := (blk_cell hv 1).trans rfl; have c2 : w1.cell? ⟨w.heap.size, 2, none⟩ = some (.string ⟨#[]⟩) := (blk_cell hv 2).trans rfl; have c3 : w1.cell? ⟨w.heap.size, 3, none⟩ = some (.slice none 0 0) := (blk_cell hv 3).trans rfl; have c4 : w1.cell? ⟨w.heap.size + 1, 0, none⟩ = some (.int .i64 0) := (blk_cell he 0).trans rfl; have c5 : w1.cell? ⟨w.heap.size + 1 + 1, 0, none⟩ = some (.string s) := (blk_cell hi.1 0).trans rfl; have c6 : w1.cell? ⟨w.heap.size + 1 + 1, 1, none⟩ = some (.int .i64 at_) := (blk_cell hi.1 1).trans rfl; have f0 := blk_frozen hv 0; have f1 := blk_frozen hv 1; have f2 := blk_frozen hv 2; have f3 := blk_frozen hv 3; have f4 := blk_frozen he 0; have f5 := blk_frozen hi.1 0; have f6 := blk_frozen hi.1 1; have HO := Aside0.mk ho; have HB := Aside0.mk hb; have HL := Aside0.mk hl; have HV := Aside0.mk hv; have HE := Aside0.mk he; clear ho hi hb hk hv he hl))
  have hne : w.heap.size ≠ w.heap.size + 1 := by omega
  have hv1 := set4_v HV.out (.int .i64 x.f0) (.int .i64 x.f1) (.string x.f2) (.slice A4 x.f3.length cc)
  have hv2 := set4_v hv1 (.int .i64 x.f0) (.int .i64 x.f1) (.string x.f2) (.slice A4 x.f3.length cc)
  have he1 := (set4_o (w := w1) hne.symm (.int .i64 x.f0) (.int .i64 x.f1) (.string x.f2) (.slice A4 x.f3.length cc)).trans HE.out
  have he2 := (set4_o (w := set4 w1 w.heap.size (.int .i64 x.f0) (.int .i64 x.f1) (.string x.f2) (.slice A4 x.f3.length cc)) hne.symm (.int .i64 x.f0) (.int .i64 x.f1) (.string x.f2) (.slice A4 x.f3.length cc)).trans he1
  refine door_idle w.heap.size (w.heap.size + 1) _ _ _ _ _ _ _ _ _ _ _ _ _ _ _ _ _ _ _ x.f0 x.f1 0 x.f2 A4 x.f3.length cc _ (blk_far hv2 hne _) (blk_put he2 0 _ rfl) ⟨_, rfl, ?_, ?_⟩
  · refine Kd.R_move (Kd.R_lower (Kd.R_mono (Kd.R_bound HO.out) (ok' := fun k => w.heap.size + 1 + 1 + 1 ≤ k) (fun k hk => by have h := hk.2.1; rw [W3_size] at h; exact h)) (by rw [W3_size]; omega)) ?_ |> fun h => Kd.R_mono h (fun _ _ => trivial)
    intro k hk
    rw [set_heap _ _ _ _ (by show k ≠ w.heap.size + 1; omega), set4_o (by omega), set4_o (by omega)]
  · exact (set4_below (set4_below HB.out (Nat.le_refl _) _ _ _ _) (Nat.le_refl _) _ _ _ _).setCell (by show w.heap.size ≤ w.heap.size + 1; omega) _
set_option maxHeartbeats 4000000 in
set_option maxRecDepth 100000 in
theorem get_more (s : ByteArray) (K : Nat) (x : S51) (at_ : Int) (w : World) (h : pack_reader_value.f K s 0 0 = some (x.f0, x.f1, x.f2, x.f3, s, at_)) (h1 : at_ < (s.size : Int)) :
    Calls Tryd.prog 18 #[.string s] w fun e w' => e = .returned (.tuple #[.agg #[.int .i64 0, .int .i64 0, .string ⟨#[]⟩, .slice none 0 0], .int .i64 4]) ∧ Below w.heap.size w w' := by
  have hmf : ∀ (fn : Fn) (first cap : Array Value) (w : World), (Instr.makeFunc fn first cap).run Tryd.prog w = .ok (.func fn first cap) w := fun _ _ _ _ => rfl
  have HF := Aside0.mk h
  have hd : decide (at_ < (s.size : Int)) = true := decide_eq_true h1
  clear h h1
  have hu := Tryd.underlying51
  have hu2 := Tryd.underlying73
  go_enter_defers Tryd.func18, Tryd.ntmps18
  go_wp2_with (first | (go_at_call 33; go_loud ((with_reducible refine (pack_reader_value.calls K (w.heap.size + 1 + 1) s 0 0 x.f0 x.f1 x.f2 x.f3 s at_ w _ ?b ?bb HF.out).mono ?_); (case b => exact W3_r w s); (case bb => exact W3_below w s); rintro e w1 ⟨v3, rfl, ho, hi, hb, hk⟩; obtain ⟨A4, cc, e4⟩ := Kd.R_slice ho; subst e4;     have hv := hk.blk (W3_v w s) (by omega) (by simp); have he := hk.blk (W3_e w s) (by omega) (by simp); have hl := keep_size hk; have c0 : w1.cell? ⟨w.heap.size, 0, none⟩ = some (.int .i64 0) := (blk_cell hv 0).trans rfl; have c1 : w1.cell? ⟨w.heap.size, 1, none⟩ = some (.int .i64 0) := (blk_cell hv 1).trans rfl; have c2 : w1.cell? ⟨w.heap.size, 2, none⟩ = some (.string ⟨#[]⟩) := (blk_cell hv 2).trans rfl; have c3 : w1.cell? ⟨w.heap.size, 3, none⟩ = some (.slice none 0 0) := (blk_cell hv 3).trans rfl; have c4 : w1.cell? ⟨w.heap.size + 1, 0, none⟩ = some (.int .i64 0) := (blk_cell he 0).trans rfl; have c5 : w1.cell? ⟨w.heap.size + 1 + 1, 0, none⟩ = some (.string s) := (blk_cell hi.1 0).trans rfl; have c6 : w1.cell? ⟨w.heap.size + 1 + 1, 1, none⟩ = some (.int .i64 at_) := (blk_cell hi.1 1).trans rfl; have f0 := blk_frozen hv 0; have f1 := blk_frozen hv 1; have f2 := blk_frozen hv 2; have f3 := blk_frozen hv 3; have f4 := blk_frozen he 0; have f5 := blk_frozen hi.1 0; have f6 := blk_frozen hi.1 1; have HO := Aside0.mk ho; have HB := Aside0.mk hb; have HL := Aside0.mk hl; have HV := Aside0.mk hv; have HE := Aside0.mk he; clear ho hi hb hk hv he hl)) | (go_at_call 34; (with_reducible refine (must_bad 4 (by decide) _).mono ?_); rintro e w3 ⟨rfl, rfl⟩))
  have hne : w.heap.size ≠ w.heap.size + 1 := by omega
  have hv1 := set4_v HV.out (.int .i64 x.f0) (.int .i64 x.f1) (.string x.f2) (.slice A4 x.f3.length cc)
  have he1 := (set4_o (w := w1) hne.symm (.int .i64 x.f0) (.int .i64 x.f1) (.string x.f2) (.slice A4 x.f3.length cc)).trans HE.out
  refine door_caught w.heap.size (w.heap.size + 1) _ _ _ _ _ _ _ _ _ _ _ _ _ _ _ _ _ _ _ 4 x.f0 x.f1 0 x.f2 (.slice A4 x.f3.length cc) _ hv1 he1 ⟨rfl, ?_⟩
  exact (set4_below (set4_below HB.out (Nat.le_refl _) _ _ _ _) (Nat.le_refl _) _ _ _ _).setCell (by show w.heap.size ≤ w.heap.size + 1; omega) _
set_option maxHeartbeats 4000000 in
set_option maxRecDepth 100000 in
theorem get_bad (s : ByteArray) (c : Int) (w : World) (h : Panics s 0 0 c) :
    Calls Tryd.prog 18 #[.string s] w fun e w' => e = .returned (.tuple #[.agg #[.int .i64 0, .int .i64 0, .string ⟨#[]⟩, .slice none 0 0], .int .i64 c]) ∧ Below w.heap.size w w' := by
  have hmf : ∀ (fn : Fn) (first cap : Array Value) (w : World), (Instr.makeFunc fn first cap).run Tryd.prog w = .ok (.func fn first cap) w := fun _ _ _ _ => rfl
  have HF := Aside0.mk h
  clear h
  have hu := Tryd.underlying51
  have hu2 := Tryd.underlying73
  go_enter_defers Tryd.func18, Tryd.ntmps18
  go_wp2_with (go_at_call 33; go_loud ((with_reducible refine (panics_use HF.out (w.heap.size + 1 + 1) w _ ?b ?bb).mono ?_); (case b => exact W3_r w s); (case bb => exact W3_below w s); rintro e w1 ⟨rfl, hk, hb⟩; have hv := hk.blk (W3_v w s) (by omega) (by simp); have he := hk.blk (W3_e w s) (by omega) (by simp); have HB := Aside0.mk hb; have HV := Aside0.mk hv; have HE := Aside0.mk he; clear hb hk hv he))
  refine door_caught w.heap.size (w.heap.size + 1) _ _ _ _ _ _ _ _ _ _ _ _ _ _ _ _ _ _ _ c 0 0 0 ⟨#[]⟩ (.slice none 0 0) _ HV.out HE.out ⟨rfl, ?_⟩
  exact (set4_below HB.out (Nat.le_refl _) _ _ _ _).setCell (by show w.heap.size ≤ w.heap.size + 1; omega) _
end Go.Proofs.YtpbnfnaebdmagaaDoor.Rd
-- printed by a program of this session out of the translation; see NOTES.md
namespace Go.Proofs.YtpbnfnaebdmagaaDoor.PT
open Go.RowKit Go.Proofs.YtpbnfnaebdmagaaDoorW.PrintWords Go.Proofs.YtpbnfnaebdmagaaDoorW.PrintLast Go.Proofs.YtpbnfnaebdmagaaDoorW.PrintMore
attribute [local go_sem] max2_int min2_int max_two min_two max_three min_three max_four min_four   -- for this text's walks alone
set_option linter.unusedVariables false
set_option linter.unusedSimpArgs false

/-! ### pack_Get: function 18 -/
open Vr Rd in
def pack_Get.f (a0 : ByteArray) : Option (Int × Int × ByteArray × (List (S51)) × Int) := if a0.size ≤ 140737488351232 * 4 then (valR Rd.mkV Rd.noV 20 a0 0 0).bind fun r => if r.1 = 0 then (if r.2.2 < (a0.size : Int) then some (0, 0, ⟨#[]⟩, [], 4) else some (r.2.1.f0, r.2.1.f1, r.2.1.f2, r.2.1.f3, 0)) else some (0, 0, ⟨#[]⟩, [], r.1) else none
open Vr Rd in
theorem pack_Get.calls (a0 : ByteArray) (r1 : Int) (r2 : Int) (r3 : ByteArray) (r4 : List (S51)) (r5 : Int) (w : World) (h : pack_Get.f a0 = some (r1, r2, r3, r4, r5)) :
  Calls Tryd.prog 18 #[.string a0] w fun e w' => ∃ v3_ : Value, e = .returned (.tuple #[.agg #[.int .i64 r1, .int .i64 r2, .string r3, v3_], .int .i64 r5]) ∧ Kd.R k51 51 w' w.heap.size (fun _ => True) v3_ r4 ∧ Below w.heap.size w w' := by
 unfold pack_Get.f at h
 by_cases hs : a0.size ≤ 140737488351232 * 4
 ·rw [if_pos hs] at h
  obtain ⟨⟨e, x, q⟩, hx, h⟩ := Option.bind_eq_some_iff.mp h
  have g := value_good hs 20 0 0 _ (by omega) (by omega) (by omega) (by omega) hx
  dsimp only at h
  by_cases c : e = 0
  ·rw [if_pos c] at h
   obtain ⟨_, _, K, hK⟩ := g.1 c
   by_cases c2 : q < (a0.size : Int)
   ·rw [if_pos c2] at h
    simp only [Option.some.injEq, Prod.mk.injEq] at h
    obtain ⟨rfl, rfl, rfl, rfl, rfl⟩ := h
    exact (get_more a0 K x q w hK c2).mono (fun e w' he => ⟨_, he.1, Kd.R_nil _ _ _ _ _, he.2⟩)
   ·rw [if_neg c2] at h
    simp only [Option.some.injEq, Prod.mk.injEq] at h
    obtain ⟨rfl, rfl, rfl, rfl, rfl⟩ := h
    exact get_ok a0 K x q w hK c2
  ·rw [if_neg c] at h
   simp only [Option.some.injEq, Prod.mk.injEq] at h
   obtain ⟨rfl, rfl, rfl, rfl, rfl⟩ := h
   exact (get_bad a0 e w (g.2 c)).mono (fun e w' he => ⟨_, he.1, Kd.R_nil _ _ _ _ _, he.2⟩)
 ·rw [if_neg hs] at h; cases h

end Go.Proofs.YtpbnfnaebdmagaaDoor.PT
