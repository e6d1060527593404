/-
  The statement ShaWhole, walked.
-/
import Derived.Test.YtelhajoedlaohaaDoorShaLaw
namespace Go.Proofs.YtelhajoedlaohaaDoor.Sha
set_option linter.unusedVariables false
set_option linter.unusedSimpArgs false
open Go Go.RowKit Go.Proofs.YtelhajoedlaohaaDoor.Plain Go.Proofs.YtelhajoedlaohaaDoor.PS Go.Proofs.YtelhajoedlaohaaDoorW.PrintWords Go.Proofs.YtelhajoedlaohaaDoorW.PrintLast Go.Proofs.YtelhajoedlaohaaDoorW.PrintMore
theorem copy_string (W : World) (q : Nat) (R : ByteArray) (ty : TypeId) (hR : 64 ≤ R.size) (hc : W.there q 0 64) :
    (Builtin.copy_ #[37, 9] ty #[.slice (some ⟨q, 0, none⟩) 64 64, .string R]).run Tryd.prog W = .ok (goInt 64) (W.setCells q 0 (arr .u8 (bl (R.extract 0 64))).toList) := by
  have hu := (Tryd.underlying37 : Tryd.prog.underlying 37 = _)
  have hs : (Tryd.prog.info? 5).map (·.size) = some 1 := by kernel_rfl
  have hz : (R.extract 0 64).size = 64 := by rw [ext_size _ _ _ hR]
  have hlen : (arr .u8 (bl (R.extract 0 64))).toList.length = 64 := by rw [Array.length_toList, arr_size, bl_length, hz]
  generalize hC : R.extract 0 64 = C at hz hlen ⊢
  have he : (C.data.map fun b => Value.int .u8 (b.toNat : Int)) = arr .u8 (bl C) := by
    unfold arr bl
    rw [List.map_map]
    apply Array.ext'
    rw [Array.toList_map]
    rfl
  have he2 : (C.data.toList.map fun b => Value.int .u8 (b.toNat : Int)) = (arr .u8 (bl C)).toList := by rw [← he, Array.toList_map]
  have hst := run_storeCells_cells (P := Tryd.prog) q 0 (arr .u8 (bl C)).toList 0 W (fun j hj => by rw [hlen] at hj; exact (hc j hj).1) (fun j hj => by rw [hlen] at hj; exact (hc j hj).2) (fun v hv => (Array.all_eq_true_iff_forall_mem.1 (arr_one .u8 _)) v (by simpa using hv))
  have hmin : Nat.min R.size 64 = 64 := Nat.min_eq_right hR
  cases hq : Tryd.prog.info? 5 with
  | none => simp [hq] at hs
  | some i =>
    have hi : i.size = 1 := by simpa [hq] using hs
    simp only [Nat.add_zero] at hst
    simp [Builtin.copy_, Sem.run_bind, run_underlying hu, Builtin.lenOf, Builtin.firstCells, sizeOf, typeInfo, hq, hi, hmin, hC, he2, hst, Result.andThen, -ByteArray.data_extract]
theorem wpList_copy_run {P : Program} {w w' : World} {ops : Array Oper} {rest : List Oper} {o : Oper} {a : Act} {Q : Exit → Act → World → Prop} (hgd : o.guard = none) (d s : Operand) (dT sT : TypeId)
    (ho : o.op = .call { callee := .builtin .copy, args := #[d, s], argTypes := #[dT, sT] }) (vd vs v : Value) (hd : a.eval d = vd) (hs : a.eval s = vs)
    (hrun : ∀ ty, (Builtin.copy_ #[dT, sT] ty #[vd, vs]).run P w = .ok v w') (h : wpList P ops Q rest (a.put o.dst v) w') : wpList P ops Q (o :: rest) a w := by
  refine wpList_plain hgd fun K hK => ?_
  have hrun := hrun o.type
  unfold Oper.wp
  simp [execOp, ho, resolve, invoke, builtin, hd, hs, hrun, Result.andThen]
  exact hK _ _ h
set_option maxHeartbeats 4000000 in
set_option maxRecDepth 1000000 in
theorem whole04_walk (s : ByteArray) (w : World) (HT : Tab w) (hs : s.size ≤ 140737488351232) :
    Calls Tryd.prog 5 #[.string s] w fun e w' => e = .returned (.bool true) ∧ Below w.heap.size w w' := by
  have HT := Aside0.mk HT
  have HSZ := Aside0.mk hs
  have hsL := (Tryd.underlying25 : Tryd.prog.underlying 25 = _)
  have h64L := (Tryd.underlying24 : Tryd.prog.underlying 24 = _)
  obtain ⟨n, hn⟩ : ∃ n, (s.size + (9 + need s.size)) / 64 = n := ⟨_, rfl⟩
  obtain ⟨all, hall⟩ : ∃ all, s ++ pad s.size = all := ⟨_, rfl⟩
  have hz : all.size = 64 * n := by rw [← hall, ByteArray.size_append, pad_size, ← hn]; unfold need; omega
  have hz2 : all.size ≤ 281474976711656 := by rw [← hall, ByteArray.size_append, pad_size]; unfold need; omega
  have HN : Aside0 (txt (runB roots all n) 8 = sumK roots s) := ⟨by rw [sumK, hall, hn]⟩
  have HZ := Aside0.mk hz
  have HAL := Aside0.mk hall
  have h63 : s.size + (pad s.size).size ≤ 9223372036854775807 := by rw [← ByteArray.size_append, hall]; omega
  have HBG := Aside0.mk hz2
  clear hn hz hall hz2
  generalize hp : pad s.size = p at h63 HAL
  have HP := Aside0.mk hp
  clear hp
  have hw1 : IntKind.u64.wrap (s.size : Int) = (s.size : Int) := IntWalk.u64_in _ (by omega)
  go_enter Tryd.func5, Tryd.ntmps5
  go_upto_region 2 with (go_at_call 17; (with_reducible refine (pad_walk 10 (by decide) s.size (by have := HSZ.out; omega) _).mono ?_); rintro e w1 ⟨rfl, hb⟩; rw [HP.out]; have HB1 := Aside0.mk hb; have HT1 := Aside0.mk (HT.out.step hb); clear hb)
  rw [HAL.out]
  clear h63
  have hsz : (all.size : Int) = 64 * (n : Int) := by rw [HZ.out]; omega
  have hnb : 64 * n ≤ 281474976711656 := by rw [← HZ.out]; exact HBG.out
  have hmod : 64 * (n : Int) % 64 = 0 := by omega
  have hmod2 : Int.tmod (64 * (n : Int)) 64 = 0 := by rw [Int.tmod_eq_emod_of_nonneg (by omega)]; exact hmod
  go_upto_region 4 with (go_at_call 14; (with_reducible refine (wakes04 _ HT1.out).mono ?_); rintro e w2 ⟨rfl, hb⟩; have HB2 := Aside0.mk (below_step HB1.out hb); have HT2 := Aside0.mk (HT1.out.step hb); clear hb)
  clear hmod hmod2
  go_upto_region 5 with (go_at_call 10; (with_reducible refine (begin_lit _).mono ?_); rintro e w3 ⟨rfl, hb⟩; have HB3 := Aside0.mk (below_step HB2.out hb); clear hb)
  have HS : Aside0 ((w3.alloc (.cells initV 25)).heap[w3.heap.size]? = some (.cells (arr .u32 (runB roots all 0)) 25 (0, 0))) := ⟨blk_new _ _⟩
  have HB := Aside0.mk (below_alloc HB3.out (.cells initV 25))
  have HGT : Aside0 (w.heap.size ≤ w3.heap.size) := ⟨below_size HB3.out⟩
  clear HB3 HB2 HB1 HT1 HT2
  generalize w3.heap.size = g at HS HGT ⊢
  generalize w3.alloc (.cells initV 25) = w4 at HS HB ⊢
  go_wp2
  go_loopw [5] (fun v5 wr => ∃ i : Nat, i ≤ n ∧ v5 = .int .i64 (64 * (i : Int)) ∧ Aside0 (wr.heap[g]? = some (.cells (arr .u32 (runB roots all i)) 25 (0, 0))) ∧ Aside0 (Below w.heap.size w wr)) (fun v5 _ => 64 * n - (intOf v5).toNat)
  case atStart => exact ⟨0, by omega, rfl, HS, HB⟩
  case round =>
    clear HS HB
    obtain ⟨i, hi, rfl, HS, HB⟩ := hrel
    have d0 : (0 : Int) ≤ (i : Int) := by omega
    by_cases hlt : i < n
    · have d1 : 64 * (i : Int) < 64 * (n : Int) := by omega
      go_upto_region 9 with fail
      have he : arr .u8 (List.replicate 64 0) = #[.int .u8 0, .int .u8 0, .int .u8 0, .int .u8 0, .int .u8 0, .int .u8 0, .int .u8 0, .int .u8 0, .int .u8 0, .int .u8 0, .int .u8 0, .int .u8 0, .int .u8 0, .int .u8 0, .int .u8 0, .int .u8 0, .int .u8 0, .int .u8 0, .int .u8 0, .int .u8 0, .int .u8 0, .int .u8 0, .int .u8 0, .int .u8 0, .int .u8 0, .int .u8 0, .int .u8 0, .int .u8 0, .int .u8 0, .int .u8 0, .int .u8 0, .int .u8 0, .int .u8 0, .int .u8 0, .int .u8 0, .int .u8 0, .int .u8 0, .int .u8 0, .int .u8 0, .int .u8 0, .int .u8 0, .int .u8 0, .int .u8 0, .int .u8 0, .int .u8 0, .int .u8 0, .int .u8 0, .int .u8 0, .int .u8 0, .int .u8 0, .int .u8 0, .int .u8 0, .int .u8 0, .int .u8 0, .int .u8 0, .int .u8 0, .int .u8 0, .int .u8 0, .int .u8 0, .int .u8 0, .int .u8 0, .int .u8 0, .int .u8 0, .int .u8 0] := by rfl
      rw [← he]
      clear he
      have hB9 : Aside0 ((wr.alloc (.cells (arr .u8 (List.replicate 64 0)) 24)).heap[wr.heap.size]? = some (.cells (arr .u8 (List.replicate 64 0)) 24 (0, 0))) := ⟨blk_new _ _⟩
      have HS9 := Aside0.mk (blk_alloc HS.out (.cells (arr .u8 (List.replicate 64 0)) 24))
      have HB9 := Aside0.mk (below_alloc HB.out (.cells (arr .u8 (List.replicate 64 0)) 24))
      have hgq : Aside0 (g < wr.heap.size ∧ w.heap.size ≤ wr.heap.size) := ⟨blk_lt HS.out, below_size HB.out⟩
      clear HS HB
      generalize wr.heap.size = q at hB9 hgq ⊢
      generalize wr.alloc (.cells (arr .u8 (List.replicate 64 0)) 24) = w5 at hB9 HS9 HB9 ⊢
      have hrz : (all.extract (64 * i) all.size).size = 64 * (n - i) := by rw [ext_size _ _ _ (Nat.le_refl _), HZ.out]; omega
      have hc : (all.extract (64 * i) all.size).extract 0 64 = all.extract (64 * i) (64 * i + 64) := by rw [ext_ext _ _ _ _ _ (by rw [HZ.out]; omega) (Nat.le_refl _)]; rfl
      have hCs : (bl (all.extract (64 * i) (64 * i + 64))).length = 64 := by rw [bl_length, ext_size _ _ _ (by rw [HZ.out]; omega)]; omega
      have hCb := bl_bnd (all.extract (64 * i) (64 * i + 64))
      have hR1 : runB roots all (i + 1) = block roots (runB roots all i) (bl (all.extract (64 * i) (64 * i + 64))) := rfl
      have hth : w5.drew.there q 0 64 := fun j hj => ⟨by rw [Nat.zero_add, blk_cell (blk_drew hB9.out) j, arr_at .u8 _ j (by simpa using hj)]; rfl, blk_frozen (blk_drew hB9.out) _⟩
      have kcp := fun ty => copy_string w5.drew q (all.extract (64 * i) all.size) ty (by rw [hrz]; omega) hth
      rw [hc] at kcp
      have HB8 := Aside0.mk (arr_row .u8 (List.replicate 64 0) (bl (all.extract (64 * i) (64 * i + 64))) (blk_drew hB9.out) (by rw [hCs]; simp))
      generalize bl (all.extract (64 * i) (64 * i + 64)) = C at kcp HB8 hCs hCb hR1
      have hn1 : (64 * (i : Int)).toNat = 64 * i := by omega
      have hle : 64 * (i : Int) ≤ 64 * (n : Int) := by omega
      have h0i : (0 : Int) ≤ 64 * (i : Int) := by omega
      clear hrz hc
      go_still_tail 4, (by kernel_rfl)
      change wpList _ _ _ _ _ w5.drew
      have HS8 : Aside0 ((w5.drew.setCells q 0 (arr .u8 C).toList).heap[g]? = some (.cells (arr .u32 (runB roots all i)) 25 (0, 0))) := ⟨by rw [heap_setCells_far _ _ (by have := hgq.out; omega)]; exact blk_drew HS9.out⟩
      have HBB8 := Aside0.mk (below_setCells hgq.out.2 (arr .u8 C).toList 0 _ (below_drew1 HB9.out))
      have HGN : Aside0 (w.heap.size ≤ g) := HGT
      have hrok := runB_ok roots all i
      have hrok1 := runB_ok roots all (i + 1)
      obtain ⟨S1, hS1⟩ : ∃ S1, runB roots all (i + 1) = S1 := ⟨_, rfl⟩
      rw [hS1] at hR1 hrok1
      have hS1 := Aside0.mk hS1
      generalize runB roots all i = S0 at HS8 hR1 hrok
      have hi8 : Aside0 ((Tryd.prog.info? 25).map (·.size) = some (arr .u32 S0).size) := ⟨by rw [arr_size, hrok.1]; kernel_rfl⟩
      have hic : Aside0 ((Tryd.prog.info? 24).map (·.size) = some (arr .u8 C).size) := ⟨by rw [arr_size, hCs]; kernel_rfl⟩
      have hin : Aside0 ((Tryd.prog.info? 25).map (·.size) = some (arr .u32 S1).size) := ⟨by rw [arr_size, hrok1.1]; kernel_rfl⟩
      have hcall : ∀ W, Tab W → Aside0 (Calls Tryd.prog 11 #[.agg (arr .u32 S0), .agg (arr .u8 C)] W fun e w' => e = .returned (.agg (arr .u32 S1)) ∧ Below W.heap.size W w') := fun W h => ⟨by rw [hR1]; exact block_walk roots S0 C W roots_length roots_bnd h.out hrok.1 hCs hrok.2 hCb⟩
      have hlen0 := Aside0.mk hrok.1
      have hlen1 := Aside0.mk hrok1.1
      have kcp := Aside0.mk kcp
      clear hrok hrok1 hR1 hCs hCb hth
      refine wpList_copy_run rfl (.tmp 28) (.tmp 31) 37 9 rfl (.slice (some ⟨q, 0, none⟩) 64 64) (.string (all.extract (64 * i) all.size)) (goInt 64) (by rfl) (by rfl) kcp.out ?_
      clear kcp
      have HT8 := Aside0.mk (HT.out.step HBB8.out)
      generalize w5.drew.setCells q 0 (arr .u8 C).toList = w8 at HS8 HB8 HBB8 HT8 ⊢
      go_upto_region 7 with (first
        | (refine wpList_load_row rfl 25 (.tmp 4) rfl g (by rfl) 25 _ (0, 0) _ HS8.out hsL rfl hi8.out ?_)
        | (refine wpList_load_row rfl 24 (.tmp 6) rfl q (by rfl) 24 _ (0, 0) _ HB8.out h64L rfl hic.out ?_)
        | (go_at_call 11; (with_reducible refine ((hcall _ HT8.out).out).mono ?_); rintro e w9 ⟨rfl, hb⟩; have HS7 := Aside0.mk (blk_below HS8.out hb); have HB7 := Aside0.mk (below_step HBB8.out hb); have hth : Aside0 (w9.there g 0 (arr .u32 S1).size) := ⟨fun j hj => ⟨by rw [Nat.zero_add, blk_cell HS7.out j, arr_at .u32 _ j (by rw [hlen0.out]; rw [arr_size, hlen1.out] at hj; exact hj)]; rfl, blk_frozen HS7.out _⟩⟩; clear hb)
        | (refine wpList_store_mid rfl 25 (.tmp 4) (.tmp 35) rfl g 0 (arr .u32 S1) (by rfl) (by rfl) hth.out hin.out (arr_one _ _) ?_))
      have HS6 := Aside0.mk (arr_row .u32 S0 S1 HS7.out (by rw [hlen0.out, hlen1.out]))
      have HB6 := Aside0.mk (below_setCells HGN.out (arr .u32 S1).toList 0 _ HB7.out)
      rw [← hS1.out] at HS6 HB6 ⊢
      clear hcall hth HS7 HB7 HS8 HB8 HBB8 HT8
      generalize w9.setCells g 0 (arr .u32 (runB roots all (i + 1))).toList = w6 at HS6 HB6 ⊢
      go_wp2
      go_roundw
      case rel => first | exact ⟨i + 1, by omega, by go_num, HS6, HB6⟩ | ((repeat apply Exists.intro); exact ⟨⟨i + 1, by omega, by go_num, HS6, HB6⟩, rfl⟩)
      case measure => simp [intOf]; omega
    · obtain rfl : i = n := by omega
      have hi8 : Aside0 ((Tryd.prog.info? 25).map (·.size) = some (arr .u32 (runB roots all i)).size) := ⟨by rw [arr_size, (runB_ok roots all i).1]; kernel_rfl⟩
      have htx := fun w => Aside0.mk (text_walk 10 (by decide) (runB roots all i) w (runB_ok roots all i).1 (runB_ok roots all i).2)
      rw [HN.out] at htx
      have hsm := fun w h => Aside0.mk (sum_tab s w h (by have := HSZ.out; omega))
      have hsz32 : (sumK roots s).size = 32 := sumK_size _ _
      generalize sumK roots s = C at htx hsm hsz32
      have HTr := Aside0.mk (HT.out.step HB.out)
      go_wp2_with (first
        | (refine wpList_load_row rfl 25 (.tmp 4) rfl g (by rfl) 25 _ (0, 0) _ HS.out hsL rfl hi8.out ?_)
        | (go_at_call 18; (with_reducible refine ((htx _).out).mono ?_); rintro e w4 ⟨rfl, hb⟩; have HB4 := Aside0.mk (below_step HB.out hb); have HT4 := Aside0.mk (HTr.out.step hb); clear hb htx)
        | (go_at_call 15; (with_reducible refine ((hsm _ HT4.out).out).mono ?_); rintro e w5 ⟨rfl, hb⟩; have HB5 := Aside0.mk (below_step HB4.out hb); have HT5 := Aside0.mk (HT4.out.step hb); clear hb HT4)
        | (go_at_call 15; (with_reducible refine ((hsm _ HT5.out).out).mono ?_); rintro e w6 ⟨rfl, hb⟩; have HB6 := Aside0.mk (below_step HB5.out hb); clear hb HT5))
      go_ret
      exact ⟨rfl, HB6.out⟩
end Go.Proofs.YtelhajoedlaohaaDoor.Sha
