/-
  The document's With and Sum.
-/
import Derived.Test.YtelhajoedlaohaaDoorShaRefS
import Derived.Test.YtelhajoedlaohaaDoorShaRef
namespace Go.Proofs.YtelhajoedlaohaaDoor.Sha
set_option linter.unusedVariables false
set_option linter.unusedSimpArgs false
open Go Go.RowKit Go.Proofs.YtelhajoedlaohaaDoor.Plain Go.Proofs.YtelhajoedlaohaaDoor.PD Go.Proofs.YtelhajoedlaohaaDoor.WordsA Go.Proofs.YtelhajoedlaohaaDoor.Bld Go.Proofs.YtelhajoedlaohaaDoorW.PrintWords Go.Proofs.YtelhajoedlaohaaDoorW.PrintLast Go.Proofs.YtelhajoedlaohaaDoorW.PrintMore
/-- a block of a text, byte by byte -/
def fb (all : ByteArray) (o : Nat) : Nat → List Nat
  | 0 => List.replicate 64 0
  | i + 1 => (fb all o i).set i (G (bl all) (o + i))
theorem fb_length (all : ByteArray) (o : Nat) : ∀ i, (fb all o i).length = 64
  | 0 => by simp [fb]
  | i + 1 => by rw [fb, List.length_set, fb_length all o i]
theorem fb_at (all : ByteArray) (o : Nat) : ∀ i, i ≤ 64 → ∀ j, j < i → (fb all o i)[j]? = some (G (bl all) (o + j))
  | 0, _, j, h => by omega
  | i + 1, hi, j, h => by
    rw [fb]
    by_cases e : j = i
    · subst e; rw [List.getElem?_set_self (by rw [fb_length]; omega)]
    · rw [List.getElem?_set_ne (by omega)]; exact fb_at all o i (by omega) j (by omega)
theorem fb_all (all : ByteArray) (o : Nat) (h : o + 64 ≤ all.size) : fb all o 64 = bl (all.extract o (o + 64)) := by
  apply List.ext_getElem?
  intro j
  by_cases hj : j < 64
  · rw [fb_at all o 64 (Nat.le_refl _) j hj]
    unfold bl G
    have hl : all.data.toList.length = all.size := Array.length_toList
    rw [ByteArray.data_extract, Array.toList_extract, List.extract_eq_take_drop, List.getElem?_map, List.getElem?_take_of_lt (by omega), List.getElem?_drop, List.getD_eq_getElem?_getD, List.getElem?_map, List.getElem?_eq_getElem (by omega)]
    rfl
  · rw [List.getElem?_eq_none (by rw [fb_length]; omega), List.getElem?_eq_none (by rw [bl_length, ext_size _ _ _ h]; omega)]
theorem bt_bl (s : ByteArray) (i : Nat) (h : i < s.size) : bt s (i : Int) = ((G (bl s) i : Nat) : Int) := by
  unfold bt
  have hl : s.data.toList.length = s.size := Array.length_toList
  rw [dif_pos (by omega)]
  unfold G bl
  rw [List.getD_eq_getElem?_getD, List.getElem?_map, List.getElem?_eq_getElem (by omega)]
  rfl
set_option maxHeartbeats 4000000 in
set_option maxRecDepth 1000000 in
theorem with_walk (ks : List Nat) (s : ByteArray) (w : World) (hk : ks.length = 64) (hkb : bnd ks 4294967296) (hs : s.size ≤ 281474976710656) :
    Calls Tryd.prog 33 #[.agg (arr .u32 ks), .string s] w fun e w' => e = .returned (.string (sumK ks s)) ∧ Below w.heap.size w w' := by
  have HKL := Aside0.mk hk
  have HKB := Aside0.mk hkb
  have HSZ := Aside0.mk hs
  clear hk hkb
  have hsL := (Tryd.underlying23 : Tryd.prog.underlying 23 = _)
  have h64L := (Tryd.underlying24 : Tryd.prog.underlying 24 = _)
  have hkL := (Tryd.underlying29 : Tryd.prog.underlying 29 = _)
  obtain ⟨n, hn⟩ : ∃ n, (s.size + (9 + need s.size)) / 64 = n := ⟨_, rfl⟩
  obtain ⟨all, hall⟩ : ∃ all, s ++ pad s.size = all := ⟨_, rfl⟩
  have hz : all.size = 64 * n := by rw [← hall, ByteArray.size_append, pad_size, ← hn]; unfold need; omega
  have hz2 : all.size ≤ 281474976711656 := by rw [← hall, ByteArray.size_append, pad_size]; unfold need; omega
  have HN : Aside0 (sumK ks s = txt (runB ks all n) 8) := ⟨by rw [sumK, hall, hn]⟩
  have HZ := Aside0.mk hz
  have HAL := Aside0.mk hall
  have h63 : s.size + (pad s.size).size ≤ 9223372036854775807 := by rw [← ByteArray.size_append, hall]; omega
  have HBG := Aside0.mk hz2
  clear hn hz hall hz2
  generalize hp : pad s.size = p at h63 HAL
  have HP := Aside0.mk hp
  clear hp
  have hw1 : IntKind.u64.wrap (s.size : Int) = (s.size : Int) := IntWalk.u64_in _ (by omega)
  have hki : Aside0 ((Tryd.prog.info? 29).map (·.size) = some (arr .u32 ks).size) := ⟨by rw [arr_size, HKL.out]; kernel_rfl⟩
  generalize hK : arr .u32 ks = K at hki
  have HK := Aside0.mk hK
  clear hK
  go_enter Tryd.func33, Tryd.ntmps33
  go_upto_region 1 with fail
  have HK0 := Aside0.mk (blk_new w (.cells K 29))
  have HB := Aside0.mk (below_alloc (Below.refl w.heap.size w) (.cells K 29))
  generalize w.alloc (.cells K 29) = w0 at HK0 HB ⊢
  go_upto_region 2 with (go_at_call 51; (with_reducible refine (rbegin_lit _).mono ?_); rintro e w1 ⟨rfl, hb⟩; have HB1 := Aside0.mk (below_step HB.out hb); have HK1 := Aside0.mk (blk_below HK0.out hb); clear hb HB HK0)
  have HS : Aside0 ((w1.alloc (.cells initV 23)).heap[w1.heap.size]? = some (.cells (arr .u32 (runB ks all 0)) 23 (0, 0))) := ⟨blk_new _ _⟩
  have HB := Aside0.mk (below_alloc HB1.out (.cells initV 23))
  have HKB1 := Aside0.mk (blk_alloc HK1.out (.cells initV 23))
  have HGT : Aside0 (w.heap.size < w1.heap.size) := ⟨blk_lt HK1.out⟩
  clear HB1 HK1
  generalize w1.heap.size = g at HS HGT ⊢
  generalize w1.alloc (.cells initV 23) = w2 at HS HB HKB1 ⊢
  go_upto_region 4 with (go_at_call 52; (with_reducible refine (rpad_walk 10 (by decide) s.size (by have := HSZ.out; omega) _).mono ?_); rintro e w3 ⟨rfl, hb⟩; rw [HP.out]; have HS3 := Aside0.mk (blk_below HS.out hb); have HK3 := Aside0.mk (blk_below HKB1.out hb); have HB3 := Aside0.mk (below_step HB.out hb); clear hb HS HB HKB1)
  rw [HAL.out]
  clear h63
  have hsz : (all.size : Int) = 64 * (n : Int) := by rw [HZ.out]; omega
  have hnb : 64 * n ≤ 281474976711656 := by rw [← HZ.out]; exact HBG.out
  go_wp2
  go_loopw [8] (fun v8 wr => ∃ i : Nat, i ≤ n ∧ v8 = .int .i64 (64 * (i : Int)) ∧ Aside0 (wr.heap[w.heap.size]? = some (.cells K 29 (0, 0))) ∧ Aside0 (wr.heap[g]? = some (.cells (arr .u32 (runB ks all i)) 23 (0, 0))) ∧ Aside0 (Below w.heap.size w wr)) (fun v8 _ => 64 * n - (intOf v8).toNat)
  case atStart => exact ⟨0, by omega, rfl, HK3, HS3, HB3⟩
  case round =>
    clear HS3 HB3 HK3
    obtain ⟨i, hi, rfl, HK3, HS, HB⟩ := hrel
    by_cases hlt : i < n
    · have d0 : (0 : Int) ≤ (i : Int) := by omega
      have d1 : 64 * (i : Int) + 64 ≤ 64 * (n : Int) := by omega
      go_upto_region 8 with fail
      have he : arr .u8 (fb all (64 * i) 0) = #[.int .u8 0, .int .u8 0, .int .u8 0, .int .u8 0, .int .u8 0, .int .u8 0, .int .u8 0, .int .u8 0, .int .u8 0, .int .u8 0, .int .u8 0, .int .u8 0, .int .u8 0, .int .u8 0, .int .u8 0, .int .u8 0, .int .u8 0, .int .u8 0, .int .u8 0, .int .u8 0, .int .u8 0, .int .u8 0, .int .u8 0, .int .u8 0, .int .u8 0, .int .u8 0, .int .u8 0, .int .u8 0, .int .u8 0, .int .u8 0, .int .u8 0, .int .u8 0, .int .u8 0, .int .u8 0, .int .u8 0, .int .u8 0, .int .u8 0, .int .u8 0, .int .u8 0, .int .u8 0, .int .u8 0, .int .u8 0, .int .u8 0, .int .u8 0, .int .u8 0, .int .u8 0, .int .u8 0, .int .u8 0, .int .u8 0, .int .u8 0, .int .u8 0, .int .u8 0, .int .u8 0, .int .u8 0, .int .u8 0, .int .u8 0, .int .u8 0, .int .u8 0, .int .u8 0, .int .u8 0, .int .u8 0, .int .u8 0, .int .u8 0, .int .u8 0] := by rfl
      rw [← he]
      clear he
      have hB9 : Aside0 ((wr.alloc (.cells (arr .u8 (fb all (64 * i) 0)) 24)).heap[wr.heap.size]? = some (.cells (arr .u8 (fb all (64 * i) 0)) 24 (0, 0))) := ⟨blk_new _ _⟩
      have HS9 := Aside0.mk (blk_alloc HS.out (.cells (arr .u8 (fb all (64 * i) 0)) 24))
      have HK9 := Aside0.mk (blk_alloc HK3.out (.cells (arr .u8 (fb all (64 * i) 0)) 24))
      have HB9 := Aside0.mk (below_alloc HB.out (.cells (arr .u8 (fb all (64 * i) 0)) 24))
      have hgq : Aside0 (g < wr.heap.size ∧ w.heap.size < wr.heap.size) := ⟨blk_lt HS.out, blk_lt HK3.out⟩
      clear HS HK3 HB
      generalize wr.heap.size = q at hB9 hgq ⊢
      generalize wr.alloc (.cells (arr .u8 (fb all (64 * i) 0)) 24) = w5 at hB9 HS9 HK9 HB9 ⊢
      obtain ⟨wo, rfl⟩ : ∃ wo : World, wo = wr := ⟨_, rfl⟩
      go_wp2
      go_loopw [10] (fun v10 wr => ∃ j : Nat, j ≤ 64 ∧ v10 = .int .i64 j ∧ Aside0 (wr.heap[q]? = some (.cells (arr .u8 (fb all (64 * i) j)) 24 (0, 0))) ∧ Aside0 (wr.heap[w.heap.size]? = some (.cells K 29 (0, 0))) ∧ Aside0 (wr.heap[g]? = some (.cells (arr .u32 (runB ks all i)) 23 (0, 0))) ∧ Aside0 (Below w.heap.size w wr)) (fun v10 _ => 64 - (intOf v10).toNat)
      case atStart => exact ⟨0, by omega, rfl, hB9, HK9, HS9, HB9⟩
      case round =>
        clear hB9 HK9 HS9 HB9
        obtain ⟨j, hj, rfl, hB9, HK9, HS9, HB9⟩ := hrel
        have hj0 : (0 : Int) ≤ (j : Int) := by omega
        by_cases hlj : j < 64
        · have d3 : (j : Int) < 64 := by omega
          have hix : 64 * i + j < all.size := by rw [HZ.out]; omega
          have hbt := bt_bl all (64 * i + j) hix
          have hnx : Aside0 (fb all (64 * i) (j + 1) = (fb all (64 * i) j).set j (G (bl all) (64 * i + j))) := ⟨rfl⟩
          have hxb := G_lt (bl_bnd all) (by decide) (64 * i + j)
          have hL := fb_length all (64 * i) j
          have ix : ∀ w : World, (Instr.index 9 (.string all) (.int .i64 (64 * (i : Int) + (j : Int)))).run Tryd.prog w = .ok (.int .u8 (G (bl all) (64 * i + j) : Nat)) w := fun w => by
            have h := Go.run_index_string (P := Tryd.prog) (w := w) 9 all .i64 (64 * (i : Int) + (j : Int)) Tryd.underlying9
            have hc : (0 : Int) ≤ 64 * (i : Int) + (j : Int) ∧ 64 * (i : Int) + (j : Int) < (all.size : Int) := by omega
            rw [h, dif_pos hc]
            have e : (64 * (i : Int) + (j : Int)).toNat = 64 * i + j := by omega
            simp only [e]
            have hl : all.data.toList.length = all.size := Array.length_toList
            unfold G bl
            rw [List.getD_eq_getElem?_getD, List.getElem?_map, List.getElem?_eq_getElem (by omega)]
            rfl
          generalize G (bl all) (64 * i + j) = x at hnx hxb ix
          have hfz : wr.frozen? ⟨q, j, none⟩ = false := blk_frozen hB9.out j
          have hcl : wr.cell? ⟨q, j, none⟩ = some (.int .u8 (G (fb all (64 * i) j) j : Nat)) := (blk_cell hB9.out j).trans (arr_at _ _ _ (by omega))
          have hB8 : Aside0 ((wr.setCell ⟨q, j, none⟩ (.int .u8 (x : Int))).heap[q]? = some (.cells (arr .u8 (fb all (64 * i) (j + 1))) 24 (0, 0))) := ⟨by rw [hnx.out]; exact blk_put hB9.out j _ (arr_set _ _ _ _)⟩
          have HK8 := Aside0.mk (blk_far HK9.out (p := ⟨q, j, none⟩) (by show _ ≠ q; have := hgq.out; omega) (.int .u8 (x : Int)))
          have HS8 := Aside0.mk (blk_far HS9.out (p := ⟨q, j, none⟩) (by show _ ≠ q; have := hgq.out; omega) (.int .u8 (x : Int)))
          have HB8 := Aside0.mk (HB9.out.setCell (p := ⟨q, j, none⟩) (by show w.heap.size ≤ q; have := hgq.out; omega) (.int .u8 (x : Int)))
          clear hbt hix hL
          go_wp2
          go_roundw
          case rel => first | exact ⟨j + 1, by omega, by go_num, hB8, HK8, HS8, HB8⟩ | ((repeat apply Exists.intro); exact ⟨⟨j + 1, by omega, by go_num, hB8, HK8, HS8, HB8⟩, rfl⟩)
          case measure => simp [intOf]; omega
        · obtain rfl : j = 64 := by omega
          clear hj hj0 hlj
          have hbl := Aside0.mk (fb_all all (64 * i) (by rw [HZ.out]; omega))
          have hrb : Aside0 (runB ks all (i + 1) = block ks (runB ks all i) (bl (all.extract (64 * i) (64 * i + 64)))) := ⟨rfl⟩
          have hrok := runB_ok ks all i
          have hrok1 := (runB_ok ks all (i + 1))
          have hCs : (bl (all.extract (64 * i) (64 * i + 64))).length = 64 := by rw [bl_length, ext_size _ _ _ (by rw [HZ.out]; omega)]; omega
          have hCb := bl_bnd (all.extract (64 * i) (64 * i + 64))
          rw [hbl.out] at hB9
          generalize hC : bl (all.extract (64 * i) (64 * i + 64)) = C at hB9 hrb hCs hCb
          clear hC hbl
          obtain ⟨S1, hS1⟩ : ∃ S1, runB ks all (i + 1) = S1 := ⟨_, rfl⟩
          rw [hS1] at hrb hrok1
          have hS1 := Aside0.mk hS1
          generalize runB ks all i = S0 at HS9 hrb hrok
          obtain ⟨f0, f1, f2, f3, f4, f5, f6, f7, hf⟩ := eight hrok1.1
          have hi8 : Aside0 ((Tryd.prog.info? 23).map (·.size) = some (arr .u32 S0).size) := ⟨by rw [arr_size, hrok.1]; kernel_rfl⟩
          have hic : Aside0 ((Tryd.prog.info? 24).map (·.size) = some (arr .u8 C).size) := ⟨by rw [arr_size, hCs]; kernel_rfl⟩
          have hin : Aside0 ((Tryd.prog.info? 23).map (·.size) = some (arr .u32 S1).size) := ⟨by rw [arr_size, hrok1.1]; kernel_rfl⟩
          have hcall := fun W => Aside0.mk (rblock_walk ks S0 C W HKL.out HKB.out hrok.1 hCs hrok.2 hCb)
          rw [HK.out] at hcall
          rw [← hrb.out] at hcall
          clear hCs hCb hrb
          have hlen0 := Aside0.mk hrok.1
          have hlen1 := Aside0.mk hrok1.1
          clear hrok hrok1 hf
          go_upto_region 6 with (first
            | (refine wpList_load_row rfl 29 (.tmp 2) rfl w.heap.size (by rfl) 29 _ (0, 0) _ HK9.out hkL rfl hki.out ?_)
            | (refine wpList_load_row rfl 23 (.tmp 5) rfl g (by rfl) 23 _ (0, 0) _ HS9.out hsL rfl hi8.out ?_)
            | (refine wpList_load_row rfl 24 (.tmp 9) rfl q (by rfl) 24 _ (0, 0) _ hB9.out h64L rfl hic.out ?_)
            | (go_at_call 12; (with_reducible refine ((hcall _).out).mono ?_); rintro e w9 ⟨rfl, hb⟩; have HS7 := Aside0.mk (blk_below HS9.out hb); have HK7 := Aside0.mk (blk_below HK9.out hb); have HB7 := Aside0.mk (below_step HB9.out hb); have hth : Aside0 (w9.there g 0 (arr .u32 S1).size) := ⟨fun j hj => ⟨by rw [Nat.zero_add, blk_cell HS7.out j, arr_at .u32 _ j (by rw [hlen0.out]; rw [arr_size, hlen1.out] at hj; exact hj)]; rfl, blk_frozen HS7.out _⟩⟩; clear hb)
            | (refine wpList_store_mid rfl 23 (.tmp 5) (.tmp 40) rfl g 0 (arr .u32 S1) (by rfl) (by rfl) hth.out hin.out (arr_one _ _) ?_))
          have HS6 := Aside0.mk (arr_row .u32 S0 S1 HS7.out (by rw [hlen0.out, hlen1.out]))
          have HK6 : Aside0 ((w9.setCells g 0 (arr .u32 S1).toList).heap[w.heap.size]? = some (.cells K 29 (0, 0))) := ⟨by rw [heap_setCells_far _ _ (by have := HGT.out; omega)]; exact HK7.out⟩
          have HB6 := Aside0.mk (below_setCells (Nat.le_of_lt HGT.out) (arr .u32 S1).toList 0 _ HB7.out)
          rw [← hS1.out] at HS6 HK6 HB6 ⊢
          clear hcall hth HS7 HK7 HB7
          generalize w9.setCells g 0 (arr .u32 (runB ks all (i + 1))).toList = w6 at HS6 HK6 HB6 ⊢
          go_wp2
          go_roundw
          case rel => first | exact ⟨i + 1, by omega, by go_num, HK6, HS6, HB6⟩ | ((repeat apply Exists.intro); exact ⟨⟨i + 1, by omega, by go_num, HK6, HS6, HB6⟩, rfl⟩)
          case measure => simp [intOf]; omega
    · obtain rfl : i = n := by omega
      have hi8 : Aside0 ((Tryd.prog.info? 23).map (·.size) = some (arr .u32 (runB ks all i)).size) := ⟨by rw [arr_size, (runB_ok ks all i).1]; kernel_rfl⟩
      have d0 : (0 : Int) ≤ (i : Int) := by omega
      go_wp2_with (first
        | (refine wpList_load_row rfl 23 (.tmp 5) rfl g (by rfl) 23 _ (0, 0) _ HS.out hsL rfl hi8.out ?_)
        | (go_at_call 53; (with_reducible refine (rtext_walk 10 (by decide) (runB ks all i) _ (runB_ok ks all i).1 (runB_ok ks all i).2).mono ?_); rintro e w4 ⟨rfl, hb⟩; have HB4 := Aside0.mk (below_step HB.out hb); clear hb))
      go_ret
      exact ⟨by rw [HN.out]; rfl, HB4.out⟩
abbrev z64 : Array Value := #[.int .u32 0, .int .u32 0, .int .u32 0, .int .u32 0, .int .u32 0, .int .u32 0, .int .u32 0, .int .u32 0, .int .u32 0, .int .u32 0, .int .u32 0, .int .u32 0, .int .u32 0, .int .u32 0, .int .u32 0, .int .u32 0, .int .u32 0, .int .u32 0, .int .u32 0, .int .u32 0, .int .u32 0, .int .u32 0, .int .u32 0, .int .u32 0, .int .u32 0, .int .u32 0, .int .u32 0, .int .u32 0, .int .u32 0, .int .u32 0, .int .u32 0, .int .u32 0, .int .u32 0, .int .u32 0, .int .u32 0, .int .u32 0, .int .u32 0, .int .u32 0, .int .u32 0, .int .u32 0, .int .u32 0, .int .u32 0, .int .u32 0, .int .u32 0, .int .u32 0, .int .u32 0, .int .u32 0, .int .u32 0, .int .u32 0, .int .u32 0, .int .u32 0, .int .u32 0, .int .u32 0, .int .u32 0, .int .u32 0, .int .u32 0, .int .u32 0, .int .u32 0, .int .u32 0, .int .u32 0, .int .u32 0, .int .u32 0, .int .u32 0, .int .u32 0]
theorem z64_v : arr .u32 (List.replicate 64 0) = z64 := rfl
theorem z64_blk (w : World) : (w.alloc (.cells z64 29)).heap[w.heap.size]? = some (.cells (arr .u32 (List.replicate 64 0)) 29 (0, 0)) := by rw [z64_v]; exact blk_new w _
theorem z64_there (w : World) (n : Nat) (hn : n = 64) : (w.alloc (.cells z64 29)).there w.heap.size 0 n := fun j hj =>
  ⟨by rw [Nat.zero_add, blk_cell (z64_blk w) j, arr_at .u32 _ j (by simp; omega)]; rfl, blk_frozen (z64_blk w) _⟩
theorem roots_arr (w : World) : Calls Tryd.prog 32 #[] w fun e w' => e = .returned (.agg (arr .u32 roots)) ∧ Below w.heap.size w w' := by rw [roots_v]; exact roots_walk w
set_option maxHeartbeats 4000000 in
set_option maxRecDepth 1000000 in
theorem rsum_walk (s : ByteArray) (w : World) (hs : s.size ≤ 281474976710656) :
    Calls Tryd.prog 16 #[.string s] w fun e w' => e = .returned (.string (sumK roots s)) ∧ Below w.heap.size w w' := by
  have hkL := (Tryd.underlying29 : Tryd.prog.underlying 29 = _)
  have hW := fun w => Aside0.mk (with_walk roots s w roots_length roots_bnd hs)
  have hR := fun w => Aside0.mk (roots_arr w)
  have hrow : ∀ w : World, Aside0 (((w.alloc (.cells z64 29)).setCells w.heap.size 0 (arr .u32 roots).toList).heap[w.heap.size]? = some (.cells (arr .u32 roots) 29 (0, 0))) := fun w => ⟨arr_row .u32 (List.replicate 64 0) roots (z64_blk w) (by simp [roots_length])⟩
  have hsz : (arr .u32 roots).size = 64 := by rw [arr_size, roots_length]
  have hone := Aside0.mk (arr_one .u32 roots)
  generalize arr .u32 roots = R at hW hR hsz hone hrow
  have hin : Aside0 ((Tryd.prog.info? 29).map (·.size) = some R.size) := ⟨by rw [hsz]; kernel_rfl⟩
  have hsz := Aside0.mk hsz
  clear hs
  go_enter Tryd.func16, Tryd.ntmps16
  go_upto_region 1 with fail
  go_upto_region 2 with (first
    | (go_at_call 32; (with_reducible refine ((hR _).out).mono ?_); rintro e w1 ⟨rfl, hb⟩; have HB1 := Aside0.mk hb; clear hb)
    | (refine wpList_store_mid rfl 29 (.tmp 3) (.tmp 4) rfl _ 0 R (by rfl) (by rfl) (z64_there _ _ hsz.out) hin.out hone.out ?_))
  have HR := hrow w1
  have HB := Aside0.mk (below_setCells (below_size HB1.out) R.toList 0 _ (below_alloc HB1.out (.cells z64 29)))
  generalize (w1.alloc (.cells z64 29)).setCells w1.heap.size 0 R.toList = w2 at HR HB ⊢
  generalize w1.heap.size = g at HR ⊢
  go_wp2_with (first
    | (refine wpList_load_row rfl 29 (.tmp 3) rfl g (by rfl) 29 _ (0, 0) _ HR.out hkL rfl hin.out ?_)
    | (go_at_call 33; (with_reducible refine ((hW _).out).mono ?_); rintro e w4 ⟨rfl, hb⟩; have HB4 := Aside0.mk (below_step HB.out hb); clear hb))
  go_ret
  exact ⟨rfl, HB4.out⟩
end Go.Proofs.YtelhajoedlaohaaDoor.Sha
