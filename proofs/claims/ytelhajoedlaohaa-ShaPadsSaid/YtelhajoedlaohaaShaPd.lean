/-
  sha and the document's sha without the block: Begin, Pad and Text.
-/
import Derived.Test.YtelhajoedlaohaaWordsA
import Derived.Test.YtelhajoedlaohaaBld
import Derived.Test.YtelhajoedlaohaaShelf
import Derived.Tactics
import Derived.Tactics2
import Derived.WalkKit
import Derived.IntWalk
import Derived.Outline
import Derived.Laws.BitsAll
import Derived.Deep.QuietTactic
import Derived.BigQuiet
import Derived.StillTailTactics
import Derived.LoopTactic
import Derived.Deep.CutRange
import Derived.Deep.RegionHeld3
import Derived.Deep.WholeRow
import Derived.Deep.MidRow
namespace Go.Proofs.Ytelhajoedlaohaa.Sha
set_option linter.unusedVariables false
set_option linter.unusedSimpArgs false
open Go Go.RowKit Go.Proofs.Ytelhajoedlaohaa.Plain Go.Proofs.Ytelhajoedlaohaa.PD Go.Proofs.Ytelhajoedlaohaa.WordsA Go.Proofs.Ytelhajoedlaohaa.Bld Go.Proofs.YtelhajoedlaohaaW.PrintWords Go.Proofs.YtelhajoedlaohaaW.PrintLast Go.Proofs.YtelhajoedlaohaaW.PrintMore
abbrev G (l : List Nat) (i : Nat) : Nat := l.getD i 0
def bnd (l : List Nat) (n : Nat) : Prop := ∀ x ∈ l, x < n
theorem G_lt {l : List Nat} {n : Nat} (h : bnd l n) (h0 : 0 < n) (i : Nat) : G l i < n := by
  unfold G
  rw [List.getD_eq_getElem?_getD]
  cases hi : l[i]? with
  | none => exact h0
  | some x => exact h x (List.mem_of_getElem? hi)
/-- the cells of an array of numbers -/
def arr (k : IntKind) (l : List Nat) : Array Value := (l.map fun n : Nat => Value.int k (n : Int)).toArray
theorem arr_size (k : IntKind) (l : List Nat) : (arr k l).size = l.length := by simp [arr]
theorem arr_at (k : IntKind) (l : List Nat) (i : Nat) (h : i < l.length) : (arr k l)[i]? = some (.int k (G l i : Nat)) := by
  unfold arr G
  rw [List.getElem?_toArray, List.getElem?_map, List.getElem?_eq_getElem h, List.getD_eq_getElem?_getD, List.getElem?_eq_getElem h]
  rfl
theorem run_index_arr {P : Program} {T e : TypeId} {n i : Nat} {cs : Array Value} {v : Value} {k : IntKind} {d : TypeDesc} (h : P.underlying T = some (.array n e)) (he : P.underlying e = some d) (hd : (match d with | .struct _ | .array _ _ => true | _ => false) = false) (hi : (P.info? e).map (·.size) = some 1) (hv : cs[i]? = some v) (hn : i < n) (w : World) :
    (Instr.index T (.agg cs) (.int k (i : Int))).run P w = .ok v w := by
  have h0 : (0 : Int) ≤ (i : Int) ∧ (i : Int) < (n : Int) := by omega
  have hagg : (isAgg e).run P w = .ok false w := by cases d <;> simp_all [isAgg, run_underlying he]
  cases hq : P.info? e with
  | none => simp [hq] at hi
  | some j =>
    have hs : j.size = 1 := by simpa [hq] using hi
    simp [Instr.index, Sem.run_bind, run_underlying h, asIntOf, h0.1, h0.2, sizeOf, typeInfo, hq, hs, part, hagg, hv, Result.andThen]
    intro h1; omega
/-- the state ahead of the first block -/
def init : List Nat := [1779033703, 3144134277, 1013904242, 2773480762, 1359893119, 2600822924, 528734635, 1541459225]
/-- the bytes of the first words of a state -/
def txt (s : List Nat) : Nat → ByteArray
  | 0 => ByteArray.empty
  | i + 1 => txt s i ++ put 4 (G s i : Nat)
theorem txt_size (s : List Nat) : ∀ i, (txt s i).size = 4 * i
  | 0 => rfl
  | i + 1 => by rw [txt, ByteArray.size_append, txt_size s i, size_put]; omega
theorem bldb {T e : TypeId} {B b : Nat} {bs : List Value} {w w1 : World} (h : Lib.IsBuilder T e B b bs w) (hb : Below w.heap.size w w1) : Lib.IsBuilder T e B b bs w1 := by
  have key : ∀ {p : Value}, Lib.BuilderAt T e B b p bs w → Lib.BuilderAt T e B b p bs w1 := by
    rintro p ⟨hB, v, hbk, hown, hne⟩
    exact ⟨hB, v, (hb.block b (blk_lt hbk)).trans hbk, pw_own_below hown hb, hne⟩
  rcases h with h | h
  · exact .inl (key h)
  · exact .inr (key h)
set_option maxHeartbeats 4000000 in
set_option maxRecDepth 100000 in
theorem begin_walk (w : World) :
    Calls Try.prog 29 #[] w fun e w' => e = .returned (.agg (arr .u32 init)) ∧ Below w.heap.size w w' := by
  go_enter Try.func29, Try.ntmps29
  go_wp2
  exact bodyPost_ret (v := .agg (arr .u32 init)) (by simp [results, Try.results29, go_sem, arr, init]) rfl ⟨rfl, below_alloc (Below.refl _ _) _⟩
set_option maxHeartbeats 4000000 in
set_option maxRecDepth 1000000 in
theorem text_walk (k : Nat) (hk : 10 ≤ k) (s : List Nat) (w : World) (hs : s.length = 8) (hsb : bnd s 4294967296) :
    Calls Try.prog 33 #[.agg (arr .u32 s)] w fun e w' => e = .returned (.string (txt s 8)) ∧ Below w.heap.size w w' := by
  have HS := Aside0.mk hs
  have HK := Aside0.mk hk
  have HSB := Aside0.mk hsb
  clear hs hk hsb
  have hsL := (Try.underlying62 : Try.prog.underlying 62 = _)
  have hi8 : (Try.prog.info? 62).map (·.size) = some (arr .u32 s).size := by rw [arr_size, HS.out]; kernel_rfl
  have hI8 := Aside0.mk hi8
  clear hi8
  go_enter Try.func33, Try.ntmps33
  go_upto_region 2 with fail
  have HI := Aside0.mk (Lib.fresh_isBuilder 79 5 (w.alloc (.cells (arr .u32 s) 62)))
  have hb0 := blk_alloc (blk_new w (.cells (arr .u32 s) 62)) (.cells #[.pointer none, .slice none 0 0] 79)
  have hB0 := below_alloc (below_alloc (Below.refl w.heap.size w) (.cells (arr .u32 s) 62)) (.cells #[.pointer none, .slice none 0 0] 79)
  have hz : (w.alloc (.cells (arr .u32 s) 62)).heap.size = w.heap.size + 1 := by show (w.heap.push _).size = _; exact Array.size_push _
  have HI2 : Aside0 (Lib.IsBuilder 79 5 (w.heap.size + 1) (w.heap.size + 1) (Lib.byteCells (txt s 0).data.toList) ((w.alloc (.cells (arr .u32 s) 62)).alloc (.cells #[.pointer none, .slice none 0 0] 79))) := ⟨by have h := HI.out; rw [hz] at h; exact h⟩
  have HB := Aside0.mk hB0
  have hbz : Aside0 (w.heap.size + 1 ≤ ((w.alloc (.cells (arr .u32 s) 62)).alloc (.cells #[.pointer none, .slice none 0 0] 79)).heap.size) := ⟨by rw [← hz]; exact (below_alloc (Below.refl _ _) _).size⟩
  clear HI hz hB0
  generalize (w.alloc (.cells (arr .u32 s) 62)).alloc (.cells #[.pointer none, .slice none 0 0] 79) = w2 at HI2 HB hb0 hbz ⊢
  have Hb0 := Aside0.mk hb0
  clear hb0
  go_upto_block 1 with (refine wpList_load_row rfl 62 (.tmp 1) rfl w.heap.size rfl 62 _ (0, 0) _ Hb0.out hsL rfl hI8.out ?_)
  have hA : arr .u32 s = (s.map fun n : Nat => Value.int .u32 (n : Int)).toArray := rfl
  rw [hA]
  clear hA
  go_wp2
  go_loopw [7] (fun v7 wr => ∃ i : Nat, i ≤ 8 ∧ v7 = .int .i64 i ∧ Aside0 (Lib.IsBuilder 79 5 (w.heap.size + 1) (w.heap.size + 1) (Lib.byteCells (txt s i).data.toList) wr) ∧ Aside0 (Below w.heap.size w wr) ∧ Aside0 (w.heap.size + 1 ≤ wr.heap.size)) (fun v7 _ => 8 - (intOf v7).toNat)
  case atStart => exact ⟨0, by omega, rfl, HI2, HB, hbz⟩
  case round =>
    clear HI2 HB Hb0 hbz
    obtain ⟨i, hi, rfl, HI, HB, HZ⟩ := hrel
    have hi0 : (0 : Int) ≤ (i : Int) := by omega
    by_cases hlt : i < 8
    · have d1 : (i : Int) < 8 := by omega
      have ix : ∀ w : World, (Instr.index 62 (.agg (s.map fun n : Nat => Value.int .u32 (n : Int)).toArray) (.int .i64 (i : Int))).run Try.prog w = .ok (.int .u32 (G s i : Nat)) w := run_index_arr (P := Try.prog) (k := .i64) hsL (Try.underlying60 : Try.prog.underlying 60 = _) rfl (by kernel_rfl) (arr_at .u32 s i (by rw [HS.out]; exact hlt)) hlt
      have hx := G_lt HSB.out (by decide) i
      have hput := Aside0.mk (put_some (w := 4) (n := (G s i : Nat)) k (by omega) (by omega) HK.out)
      have hpz : Aside0 ((put 4 (G s i : Nat)).size = 4) := ⟨by rw [size_put]; omega⟩
      have htx : Aside0 (txt s (i + 1) = txt s i ++ put 4 (G s i : Nat)) := ⟨rfl⟩
      generalize G s i = x at ix hx hput hpz htx
      generalize put 4 (x : Int) = px at hput hpz htx
      have hw64 : IntKind.u64.wrap (x : Int) = (x : Int) := IntWalk.u64_in _ (by omega)
      have hsz : Aside0 ((txt s i).data.toList.length = 4 * i) := ⟨by have := txt_size s i; rw [Array.length_toList]; exact this⟩
      go_wp2_with (first
        | (go_at_call 42; (with_reducible refine (words_Put.calls k 4 (x : Int) px _ hput.out).mono ?_); rintro e w3 ⟨rfl, hb⟩; have HI3 := Aside0.mk (bldb HI.out hb); have HB3 := Aside0.mk (below_step HB.out hb); have HZ3 := Aside0.mk (Nat.le_trans HZ.out hb.size); clear hb HI HB HZ)
        | (go_at_call 44; (with_reducible refine (writeString _ _ _ px _ HI3.out ?c1 HZ3.out).mono ?_); (case c1 => rw [Lib.byteCells_length, hsz.out, hpz.out]; omega); rintro e w4 ⟨rfl, hI4, hb4, _⟩; have HI4 := Aside0.mk hI4; have HB4 := Aside0.mk hb4; clear hI4 hb4))
      go_roundw
      case rel =>
        refine ⟨i + 1, by omega, by go_num, ⟨Or.inr ?_⟩, ⟨?_⟩, ⟨Nat.le_trans HZ3.out HB4.out.size⟩⟩
        · have h := HI4.out
          rw [Lib.strCells_eq, ← Lib.byteCells_append, ← Array.toList_append, ← ByteArray.data_append, ← htx.out] at h
          exact h
        · exact HB3.out.trans ⟨HB4.out.os, HB4.out.tape, HB4.out.output, HB4.out.size, fun j hj => HB4.out.block j (by omega)⟩
      case measure => simp [intOf]; omega
    · obtain rfl : i = 8 := by omega
      go_wp2_with (go_at_call 45; (with_reducible refine (string_any _ _ _ _ HI.out HZ.out).mono ?_); rintro e w4 ⟨rfl, hb4⟩; have HB4 := Aside0.mk hb4; clear hb4)
      go_ret
      exact ⟨rfl, HB.out.trans ⟨HB4.out.os, HB4.out.tape, HB4.out.output, HB4.out.size, fun j hj => HB4.out.block j (by omega)⟩⟩
def zeros (n : Nat) : ByteArray := ⟨(List.replicate n (0 : UInt8)).toArray⟩
theorem zeros_size (n : Nat) : (zeros n).size = n := by simp [zeros, ByteArray.size]
def need (n : Nat) : Nat := (119 - n % 64) % 64
def pad (n : Nat) : ByteArray := ((⟨#[128]⟩ : ByteArray) ++ zeros (need n)) ++ put 8 ((n * 8 % 18446744073709551616 : Nat) : Int)
theorem repeat_zeros (n : Nat) : (⟨(Lib.repeatL [0] n).toArray⟩ : ByteArray) = zeros n := by
  unfold zeros
  congr 2
  induction n with
  | zero => rfl
  | succ n ih => rw [Lib.repeatL, ih]; rfl
theorem pad_size (n : Nat) : (pad n).size = 9 + need n := by
  unfold pad
  rw [ByteArray.size_append, ByteArray.size_append, zeros_size, size_put]
  show 1 + need n + _ = _
  omega
set_option maxHeartbeats 4000000 in
set_option maxRecDepth 100000 in
theorem pad_walk (k : Nat) (hk : 10 ≤ k) (n : Nat) (hn : n < 18446744073709551616) (w : World) :
    Calls Try.prog 31 #[.int .u64 (n : Int)] w fun e w' => e = .returned (.string (pad n)) ∧ Below w.heap.size w w' := by
  have HK := Aside0.mk hk
  clear hk
  have h0 : (0 : Int) ≤ (n : Int) := by omega
  have h1 : (n : Int) ≤ 18446744073709551615 := by omega
  have hR := fun w => Aside0.mk (Try.strings_Repeat ⟨#[0]⟩ (need n) w (by unfold need; omega) (by show 1 * _ ≤ _; unfold need; omega))
  have hRz := Aside0.mk (repeat_zeros (need n))
  have hput := Aside0.mk (put_some (w := 8) (n := ((n * 8 % 18446744073709551616 : Nat) : Int)) k (by omega) (by omega) HK.out)
  have hpz : Aside0 ((put 8 ((n * 8 % 18446744073709551616 : Nat) : Int)).size = 8) := ⟨by rw [size_put]; omega⟩
  have hpad : Aside0 (pad n = ((⟨#[128]⟩ : ByteArray) ++ zeros (need n)) ++ put 8 ((n * 8 % 18446744073709551616 : Nat) : Int)) := ⟨rfl⟩
  go_enter Try.func31, Try.ntmps31
  go_upto_region 2 with fail
  have hm : (119 - (n : Int) % 64) % 64 = ((need n : Nat) : Int) := by unfold need; omega
  rw [hm]
  clear hm
  have hnd : need n < 64 := by unfold need; omega
  have e8 : IntKind.u64.wrap ((n : Int) * 8) = ((n * 8 % 18446744073709551616 : Nat) : Int) := by rw [IntKind.wrap_u64]; omega
  have e9 : (n : Int) * 8 % 18446744073709551616 = ((n * 8 % 18446744073709551616 : Nat) : Int) := by omega
  generalize n * 8 % 18446744073709551616 = m at e8 e9 hput hpz hpad
  generalize need n = d at hR hRz hnd hpad ⊢
  have hd1 : (d : Int) < 64 := by omega
  have hzz : Aside0 ((zeros d).size = d) := ⟨zeros_size d⟩
  have c1 : Aside0 (((⟨#[128]⟩ : ByteArray) ++ zeros d).size ≤ 1000) := ⟨by rw [ByteArray.size_append, hzz.out]; show 1 + d ≤ _; omega⟩
  have c2 : ((⟨#[128]⟩ : ByteArray) ++ zeros d).size ≤ 9223372036854775807 := Nat.le_trans c1.out (by decide)
  have c4 : (zeros d).size ≤ 1000 := by rw [hzz.out]; omega
  generalize put 8 (m : Int) = pz at hput hpz hpad
  have c3 : pz.size = 8 := hpz.out
  generalize hz : zeros d = Z at hRz hpad c1 c2 c4
  have c5 : 1 + Z.size ≤ 9223372036854775807 := by omega
  have c6 : ((⟨#[128]⟩ : ByteArray) ++ Z).size + pz.size ≤ 9223372036854775807 := by rw [c3]; have := c1.out; omega
  have c7 : (9223372036854775807 < ((⟨#[128]⟩ : ByteArray) ++ Z).size + pz.size) = False := eq_false (Nat.not_lt.2 c6)
  have c8 : (9223372036854775807 < 1 + Z.size) = False := eq_false (Nat.not_lt.2 c5)
  have c6 := eq_true c6
  have c5 := eq_true c5
  clear c1 c2 c4 hz
  have HC3 := Aside0.mk c3
  clear c3
  go_wp2_with (first
    | (go_at_call 41; (with_reducible refine ((hR _).out).mono ?_); rintro e w3 ⟨rfl, hb⟩; rw [hRz.out]; have HB3 := Aside0.mk hb; clear hb)
    | (go_at_call 42; (with_reducible refine (words_Put.calls k 8 (m : Int) pz _ hput.out).mono ?_); rintro e w4 ⟨rfl, hb⟩; have HB4 := Aside0.mk (below_step HB3.out hb); clear hb))
  go_ret
  exact ⟨by rw [hpad.out]; rfl, HB4.out⟩
def head (i : Nat) : ByteArray := (⟨#[128]⟩ : ByteArray) ++ zeros i
theorem head_size (i : Nat) : (head i).size = 1 + i := by
  unfold head
  rw [ByteArray.size_append, zeros_size]
  rfl
theorem head_zero : head 0 = (⟨#[128]⟩ : ByteArray) := rfl
theorem head_snoc (i : Nat) : head i ++ (⟨#[0]⟩ : ByteArray) = head (i + 1) := by
  unfold head
  rw [ByteArray.append_assoc]
  congr 1
  unfold zeros
  apply ByteArray.ext
  rw [ByteArray.data_append]
  apply Array.ext'
  rw [Array.toList_append]
  show List.replicate i (0 : UInt8) ++ [0] = List.replicate (i + 1) 0
  exact (List.replicate_succ').symm
set_option maxHeartbeats 4000000 in
set_option maxRecDepth 100000 in
theorem rpad_walk (k : Nat) (hk : 10 ≤ k) (n : Nat) (hn : n < 18446744073709551616) (w : World) :
    Calls Try.prog 32 #[.int .u64 (n : Int)] w fun e w' => e = .returned (.string (pad n)) ∧ Below w.heap.size w w' := by
  have HK := Aside0.mk hk
  clear hk
  have h0 : (0 : Int) ≤ (n : Int) := by omega
  have h1 : (n : Int) ≤ 18446744073709551615 := by omega
  have hput := Aside0.mk (rput_some (w := 8) (n := ((n * 8 % 18446744073709551616 : Nat) : Int)) k (by omega) (by omega) HK.out)
  have hpad : Aside0 (pad n = head (need n) ++ put 8 ((n * 8 % 18446744073709551616 : Nat) : Int)) := ⟨rfl⟩
  have e8 : IntKind.u64.wrap (8 * (n : Int)) = ((n * 8 % 18446744073709551616 : Nat) : Int) := by rw [IntKind.wrap_u64]; omega
  have e9 : 8 * (n : Int) % 18446744073709551616 = ((n * 8 % 18446744073709551616 : Nat) : Int) := by omega
  have c3 : (put 8 ((n * 8 % 18446744073709551616 : Nat) : Int)).size = 8 := by rw [size_put]; omega
  generalize n * 8 % 18446744073709551616 = m at hput hpad e8 e9 c3
  generalize put 8 (m : Int) = pz at hput hpad c3
  obtain ⟨q, hq⟩ : ∃ q : Nat, n % 64 = q := ⟨_, rfl⟩
  have hnq : Aside0 (need n = (119 - q) % 64) := ⟨by rw [← hq]; rfl⟩
  have eq : (n : Int) % 64 = (q : Int) := by omega
  have hq64 : q < 64 := by omega
  have eq2 : Int.tmod (n : Int) 64 = (q : Int) := by rw [Int.tmod_eq_emod_of_nonneg h0]; exact eq
  have HC3 := Aside0.mk c3
  clear c3 hq
  go_enter Try.func32, Try.ntmps32
  go_wp2
  go_loopw [3, 4] (fun v3 v4 wr => ∃ i : Nat, i ≤ need n ∧ v3 = .string (head i) ∧ v4 = .int .i64 i ∧ Aside0 (Below w.heap.size w wr)) (fun _ v4 _ => 64 - (intOf v4).toNat)
  case atStart => exact ⟨0, by omega, rfl, rfl, ⟨Below.refl _ _⟩⟩
  case round =>
    obtain ⟨i, hi, rfl, rfl, HB⟩ := hrel
    have hi1 : i < 64 := by rw [hnq.out] at hi; omega
    have hi0 : (0 : Int) ≤ (i : Int) := by omega
    have d1 : (i : Int) < 64 := by omega
    have hsz : (head i).size = 1 + i := head_size i
    by_cases hlt : i < need n
    · have hne : ¬ ((q : Int) + (1 + (i : Int)) + 8) % 64 = 0 := by rw [hnq.out] at hlt; omega
      have hs := Aside0.mk (head_snoc i)
      generalize hH : head i = H at hsz hs ⊢
      clear hH
      have c5 : (H.size + 1 ≤ 9223372036854775807) = True := eq_true (by omega)
      have c6 : (9223372036854775807 < H.size + 1) = False := eq_false (by omega)
      have hszI : (H.size : Int) = 1 + (i : Int) := by omega
      have hsz' := Aside0.mk hsz
      clear hsz hi
      go_wp2
      go_roundw
      case rel => exact ⟨i + 1, by omega, by rw [hs.out], by go_num, HB⟩
      case measure => simp [intOf]; omega
    · obtain rfl : i = need n := by omega
      have hne : ((q : Int) + (1 + (need n : Int)) + 8) % 64 = 0 := by rw [hnq.out]; omega
      generalize hH : head (need n) = H at hsz hpad ⊢
      clear hH
      generalize need n = i at *
      have c5 : (H.size + pz.size ≤ 9223372036854775807) = True := eq_true (by rw [HC3.out]; omega)
      have c6 : (9223372036854775807 < H.size + pz.size) = False := eq_false (by rw [HC3.out]; omega)
      have hszI : (H.size : Int) = 1 + (i : Int) := by omega
      clear hsz hi hlt
      go_wp2_with (go_at_call 43; (with_reducible refine (precinctref01_Put.calls k 8 (m : Int) pz _ hput.out).mono ?_); rintro e w4 ⟨rfl, hb⟩; have HB4 := Aside0.mk (below_step HB.out hb); clear hb)
      go_ret
      exact ⟨by rw [hpad.out]; rfl, HB4.out⟩
theorem init_bnd : bnd init 4294967296 := by unfold bnd; decide
abbrev initV : Array Value := #[.int .u32 1779033703, .int .u32 3144134277, .int .u32 1013904242, .int .u32 2773480762, .int .u32 1359893119, .int .u32 2600822924, .int .u32 528734635, .int .u32 1541459225]
theorem begin_lit (w : World) :
    Calls Try.prog 29 #[] w fun e w' => e = .returned (.agg initV) ∧ Below w.heap.size w w' := begin_walk w
set_option maxHeartbeats 4000000 in
set_option maxRecDepth 100000 in
theorem rbegin_lit (w : World) :
    Calls Try.prog 30 #[] w fun e w' => e = .returned (.agg initV) ∧ Below w.heap.size w w' := by
  go_enter Try.func30, Try.ntmps30
  go_wp2
  exact bodyPost_ret (v := .agg initV) (by simp [results, Try.results30, go_sem]) rfl ⟨rfl, below_alloc (Below.refl _ _) _⟩
set_option maxHeartbeats 4000000 in
set_option maxRecDepth 1000000 in
theorem rtext_walk (k : Nat) (hk : 10 ≤ k) (s : List Nat) (w : World) (hs : s.length = 8) (hsb : bnd s 4294967296) :
    Calls Try.prog 34 #[.agg (arr .u32 s)] w fun e w' => e = .returned (.string (txt s 8)) ∧ Below w.heap.size w w' := by
  have HS := Aside0.mk hs
  have HK := Aside0.mk hk
  have HSB := Aside0.mk hsb
  clear hs hk hsb
  go_enter Try.func34, Try.ntmps34
  go_upto_region 2 with fail
  have hb0 := Aside0.mk (blk_new w (.cells (arr .u32 s) 61))
  have HB := Aside0.mk (below_alloc (Below.refl w.heap.size w) (.cells (arr .u32 s) 61))
  generalize w.alloc (.cells (arr .u32 s) 61) = w2 at hb0 HB ⊢
  have hx0 : (⟨#[]⟩ : ByteArray) = txt s 0 := rfl
  go_wp2
  go_loopw [3, 4] (fun v3 v4 wr => ∃ i : Nat, i ≤ 8 ∧ v3 = .string (txt s i) ∧ v4 = .int .i64 i ∧ Aside0 (wr.heap[w.heap.size]? = some (.cells (arr .u32 s) 61 (0, 0))) ∧ Aside0 (Below w.heap.size w wr)) (fun _ v4 _ => 8 - (intOf v4).toNat)
  case atStart => exact ⟨0, by omega, rfl, rfl, hb0, HB⟩
  case round =>
    clear hb0 HB
    obtain ⟨i, hi, rfl, rfl, HC, HB⟩ := hrel
    have hi0 : (0 : Int) ≤ (i : Int) := by omega
    by_cases hlt : i < 8
    · have d1 : (i : Int) < 8 := by omega
      have hx := G_lt HSB.out (by decide) i
      have hcl : wr.cell? ⟨w.heap.size, i, none⟩ = some (.int .u32 (G s i : Nat)) := (blk_cell HC.out i).trans (arr_at _ _ _ (by rw [HS.out]; exact hlt))
      have hput := Aside0.mk (rput_some (w := 4) (n := (G s i : Nat)) k (by omega) (by omega) HK.out)
      have htx : Aside0 (txt s (i + 1) = txt s i ++ put 4 (G s i : Nat)) := ⟨rfl⟩
      have hsz := txt_size s i
      have hpz : (put 4 (G s i : Nat)).size = 4 := by rw [size_put]; omega
      generalize G s i = x at hcl hx hput hpz htx
      generalize put 4 (x : Int) = px at hput hpz htx
      obtain ⟨T, hT⟩ : ∃ T, txt s i = T := ⟨_, rfl⟩
      rw [hT] at htx hsz ⊢
      have hw64 : IntKind.u64.wrap (x : Int) = (x : Int) := IntWalk.u64_in _ (by omega)
      have c5 : (T.size + px.size ≤ 9223372036854775807) = True := eq_true (by omega)
      have c6 : (9223372036854775807 < T.size + px.size) = False := eq_false (by omega)
      clear hsz hpz hT hx0
      have y0 : (0 : Int) ≤ (i : Int) ∧ (i : Int) < 8 := by omega
      go_wp2_with (go_at_call 43; (with_reducible refine (precinctref01_Put.calls k 4 (x : Int) px _ hput.out).mono ?_); rintro e w3 ⟨rfl, hb⟩; have HC3 := Aside0.mk (blk_below HC.out hb); have HB3 := Aside0.mk (below_step HB.out hb); clear hb)
      go_roundw
      case rel => first | exact ⟨i + 1, by omega, by rw [htx.out], by go_num, HC3, HB3⟩ | ((repeat apply Exists.intro); exact ⟨⟨i + 1, by omega, by rw [htx.out], by go_num, HC3, HB3⟩, rfl⟩)
      case measure => simp [intOf]; omega
    · obtain rfl : i = 8 := by omega
      go_wp2
      go_ret
      exact ⟨rfl, HB.out⟩
end Go.Proofs.Ytelhajoedlaohaa.Sha
