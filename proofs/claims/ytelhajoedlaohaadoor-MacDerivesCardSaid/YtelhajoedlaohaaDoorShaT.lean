/-
  sha.Begin, sha.State.Text.
-/
import Derived.Test.YtelhajoedlaohaaDoorShaB
import Derived.Test.YtelhajoedlaohaaDoorWordsA
import Derived.Test.YtelhajoedlaohaaDoorBld
namespace Go.Proofs.YtelhajoedlaohaaDoor.Sha
set_option linter.unusedVariables false
set_option linter.unusedSimpArgs false
open Go Go.RowKit Go.Proofs.YtelhajoedlaohaaDoor.Plain Go.Proofs.YtelhajoedlaohaaDoor.PD Go.Proofs.YtelhajoedlaohaaDoor.WordsA Go.Proofs.YtelhajoedlaohaaDoor.Bld Go.Proofs.YtelhajoedlaohaaDoorW.PrintWords Go.Proofs.YtelhajoedlaohaaDoorW.PrintLast Go.Proofs.YtelhajoedlaohaaDoorW.PrintMore
/-- the state ahead of the first block -/
def init : List Nat := [1779033703, 3144134277, 1013904242, 2773480762, 1359893119, 2600822924, 528734635, 1541459225]
/-- the bytes of the first words of a state -/
def txt (s : List Nat) : Nat → ByteArray
  | 0 => ByteArray.empty
  | i + 1 => txt s i ++ put 4 (G s i : Nat)
theorem txt_size (s : List Nat) : ∀ i, (txt s i).size = 4 * i
  | 0 => rfl
  | i + 1 => by rw [txt, ByteArray.size_append, txt_size s i, size_put]; omega
theorem bldb {T e : TypeId} {B b : Nat} {bs : List Value} {w w1 : World} (h : Lib.IsBuilder T e B b bs w) (hb : Below w.heap.size w w1) : Lib.IsBuilder T e B b bs w1 := by
  have key : ∀ {p : Value}, Lib.BuilderAt T e B b p bs w → Lib.BuilderAt T e B b p bs w1 := by
    rintro p ⟨hB, v, hbk, hown, hne⟩
    exact ⟨hB, v, (hb.block b (blk_lt hbk)).trans hbk, pw_own_below hown hb, hne⟩
  rcases h with h | h
  · exact .inl (key h)
  · exact .inr (key h)
set_option maxHeartbeats 4000000 in
set_option maxRecDepth 100000 in
theorem begin_walk (w : World) :
    Calls Tryd.prog 10 #[] w fun e w' => e = .returned (.agg (arr .u32 init)) ∧ Below w.heap.size w w' := by
  go_enter Tryd.func10, Tryd.ntmps10
  go_wp2
  exact bodyPost_ret (v := .agg (arr .u32 init)) (by simp [results, Tryd.results10, go_sem, arr, init]) rfl ⟨rfl, below_alloc (Below.refl _ _) _⟩
set_option maxHeartbeats 4000000 in
set_option maxRecDepth 1000000 in
theorem text_walk (k : Nat) (hk : 10 ≤ k) (s : List Nat) (w : World) (hs : s.length = 8) (hsb : bnd s 4294967296) :
    Calls Tryd.prog 18 #[.agg (arr .u32 s)] w fun e w' => e = .returned (.string (txt s 8)) ∧ Below w.heap.size w w' := by
  have HS := Aside0.mk hs
  have HK := Aside0.mk hk
  have HSB := Aside0.mk hsb
  clear hs hk hsb
  have hsL := (Tryd.underlying25 : Tryd.prog.underlying 25 = _)
  have hi8 : (Tryd.prog.info? 25).map (·.size) = some (arr .u32 s).size := by rw [arr_size, HS.out]; kernel_rfl
  have hI8 := Aside0.mk hi8
  clear hi8
  go_enter Tryd.func18, Tryd.ntmps18
  go_upto_region 2 with fail
  have HI := Aside0.mk (Lib.fresh_isBuilder 52 5 (w.alloc (.cells (arr .u32 s) 25)))
  have hb0 := blk_alloc (blk_new w (.cells (arr .u32 s) 25)) (.cells #[.pointer none, .slice none 0 0] 52)
  have hB0 := below_alloc (below_alloc (Below.refl w.heap.size w) (.cells (arr .u32 s) 25)) (.cells #[.pointer none, .slice none 0 0] 52)
  have hz : (w.alloc (.cells (arr .u32 s) 25)).heap.size = w.heap.size + 1 := by show (w.heap.push _).size = _; exact Array.size_push _
  have HI2 : Aside0 (Lib.IsBuilder 52 5 (w.heap.size + 1) (w.heap.size + 1) (Lib.byteCells (txt s 0).data.toList) ((w.alloc (.cells (arr .u32 s) 25)).alloc (.cells #[.pointer none, .slice none 0 0] 52))) := ⟨by have h := HI.out; rw [hz] at h; exact h⟩
  have HB := Aside0.mk hB0
  have hbz : Aside0 (w.heap.size + 1 ≤ ((w.alloc (.cells (arr .u32 s) 25)).alloc (.cells #[.pointer none, .slice none 0 0] 52)).heap.size) := ⟨by rw [← hz]; exact (below_alloc (Below.refl _ _) _).size⟩
  clear HI hz hB0
  generalize (w.alloc (.cells (arr .u32 s) 25)).alloc (.cells #[.pointer none, .slice none 0 0] 52) = w2 at HI2 HB hb0 hbz ⊢
  have Hb0 := Aside0.mk hb0
  clear hb0
  go_upto_block 1 with (refine wpList_load_row rfl 25 (.tmp 1) rfl w.heap.size rfl 25 _ (0, 0) _ Hb0.out hsL rfl hI8.out ?_)
  have hA : arr .u32 s = (s.map fun n : Nat => Value.int .u32 (n : Int)).toArray := rfl
  rw [hA]
  clear hA
  go_wp2
  go_loopw [7] (fun v7 wr => ∃ i : Nat, i ≤ 8 ∧ v7 = .int .i64 i ∧ Aside0 (Lib.IsBuilder 52 5 (w.heap.size + 1) (w.heap.size + 1) (Lib.byteCells (txt s i).data.toList) wr) ∧ Aside0 (Below w.heap.size w wr) ∧ Aside0 (w.heap.size + 1 ≤ wr.heap.size)) (fun v7 _ => 8 - (intOf v7).toNat)
  case atStart => exact ⟨0, by omega, rfl, HI2, HB, hbz⟩
  case round =>
    clear HI2 HB Hb0 hbz
    obtain ⟨i, hi, rfl, HI, HB, HZ⟩ := hrel
    have hi0 : (0 : Int) ≤ (i : Int) := by omega
    by_cases hlt : i < 8
    · have d1 : (i : Int) < 8 := by omega
      have ix : ∀ w : World, (Instr.index 25 (.agg (s.map fun n : Nat => Value.int .u32 (n : Int)).toArray) (.int .i64 (i : Int))).run Tryd.prog w = .ok (.int .u32 (G s i : Nat)) w := run_index_arr (P := Tryd.prog) (k := .i64) hsL (Tryd.underlying22 : Tryd.prog.underlying 22 = _) rfl (by kernel_rfl) (arr_at .u32 s i (by rw [HS.out]; exact hlt)) hlt
      have hx := G_lt HSB.out (by decide) i
      have hput := Aside0.mk (put_some (w := 4) (n := (G s i : Nat)) k (by omega) (by omega) HK.out)
      have hpz : Aside0 ((put 4 (G s i : Nat)).size = 4) := ⟨by rw [size_put]; omega⟩
      have htx : Aside0 (txt s (i + 1) = txt s i ++ put 4 (G s i : Nat)) := ⟨rfl⟩
      generalize G s i = x at ix hx hput hpz htx
      generalize put 4 (x : Int) = px at hput hpz htx
      have hw64 : IntKind.u64.wrap (x : Int) = (x : Int) := IntWalk.u64_in _ (by omega)
      have hsz : Aside0 ((txt s i).data.toList.length = 4 * i) := ⟨by have := txt_size s i; rw [Array.length_toList]; exact this⟩
      go_wp2_with (first
        | (go_at_call 35; (with_reducible refine (words_Put.calls k 4 (x : Int) px _ hput.out).mono ?_); rintro e w3 ⟨rfl, hb⟩; have HI3 := Aside0.mk (bldb HI.out hb); have HB3 := Aside0.mk (below_step HB.out hb); have HZ3 := Aside0.mk (Nat.le_trans HZ.out hb.size); clear hb HI HB HZ)
        | (go_at_call 36; (with_reducible refine (writeString _ _ _ px _ HI3.out ?c1 HZ3.out).mono ?_); (case c1 => rw [Lib.byteCells_length, hsz.out, hpz.out]; omega); rintro e w4 ⟨rfl, hI4, hb4, _⟩; have HI4 := Aside0.mk hI4; have HB4 := Aside0.mk hb4; clear hI4 hb4))
      go_roundw
      case rel =>
        refine ⟨i + 1, by omega, by go_num, ⟨Or.inr ?_⟩, ⟨?_⟩, ⟨Nat.le_trans HZ3.out HB4.out.size⟩⟩
        · have h := HI4.out
          rw [Lib.strCells_eq, ← Lib.byteCells_append, ← Array.toList_append, ← ByteArray.data_append, ← htx.out] at h
          exact h
        · exact HB3.out.trans ⟨HB4.out.os, HB4.out.tape, HB4.out.output, HB4.out.size, fun j hj => HB4.out.block j (by omega)⟩
      case measure => simp [intOf]; omega
    · obtain rfl : i = 8 := by omega
      go_wp2_with (go_at_call 37; (with_reducible refine (string_any _ _ _ _ HI.out HZ.out).mono ?_); rintro e w4 ⟨rfl, hb4⟩; have HB4 := Aside0.mk hb4; clear hb4)
      go_ret
      exact ⟨rfl, HB.out.trans ⟨HB4.out.os, HB4.out.tape, HB4.out.output, HB4.out.size, fun j hj => HB4.out.block j (by omega)⟩⟩
end Go.Proofs.YtelhajoedlaohaaDoor.Sha
