/-
  The statement ShaBlocks, walked.
-/
import Derived.Test.YtelhajoedlaohaaDoorByR
import Derived.Test.YtelhajoedlaohaaDoorShaLaw
import Derived.Laws.StructEq
import Derived.Laws.Tables
import Derived.Laws.Cover2
namespace Go.Proofs.YtelhajoedlaohaaDoor.Sha
set_option linter.unusedVariables false
set_option linter.unusedSimpArgs false
open Go Go.RowKit Go.Proofs.YtelhajoedlaohaaDoor.Plain Go.Proofs.YtelhajoedlaohaaDoor.PS Go.Proofs.YtelhajoedlaohaaDoorW.PrintWords Go.Proofs.YtelhajoedlaohaaDoorW.PrintLast Go.Proofs.YtelhajoedlaohaaDoorW.PrintMore
theorem eq_state (a b c d e f g i : Int) (w : World) : (Op.equalIn 10000 25 (.agg #[.int .u32 a, .int .u32 b, .int .u32 c, .int .u32 d, .int .u32 e, .int .u32 f, .int .u32 g, .int .u32 i]) (.agg #[.int .u32 a, .int .u32 b, .int .u32 c, .int .u32 d, .int .u32 e, .int .u32 f, .int .u32 g, .int .u32 i])).run Tryd.prog w = .ok true w := by
  have u3 := Tryd.underlying22
  have a3 := Tryd.isAgg22
  have z3 := Tryd.sizeOf22
  rw [show (10000 : Nat) = 9999 + 1 from rfl, Op.equalIn]
  simp only [Sem.run_bind, run_underlying Tryd.underlying25, Result.andThen_ok]
  simp only [Std.Legacy.Range.forIn_eq_forIn_range', Std.Legacy.Range.size, Nat.sub_zero, Nat.add_sub_cancel, Nat.div_one, List.range'_succ, List.range'_zero, List.forIn_cons, List.forIn_nil]
  go_simp
theorem eq_arr8 (l : List Nat) (h : l.length = 8) (w : World) : (Op.equalIn 10000 25 (.agg (arr .u32 l)) (.agg (arr .u32 l))).run Tryd.prog w = .ok true w := by
  obtain ⟨a, b, c, d, e, f, g, i, rfl⟩ := eight h
  exact eq_state a b c d e f g i w
set_option maxHeartbeats 4000000 in
set_option maxRecDepth 1000000 in
theorem blocks_walk (s b : List Nat) (w : World) (HT : Tab w) (hs : s.length = 8) (hb : b.length = 64) (hsb : bnd s 4294967296) (hbb : bnd b 256) :
    Calls Tryd.prog 3 #[.agg (arr .u32 s), .agg (arr .u8 b)] w fun e w' => e = .returned (.bool true) ∧ Below w.heap.size w w' := by
  have HT := Aside0.mk HT
  have hsL := (Tryd.underlying23 : Tryd.prog.underlying 23 = _)
  have hbL := (Tryd.underlying24 : Tryd.prog.underlying 24 = _)
  have hP := fun w (h : Tab w) => Aside0.mk (block_walk roots s b w roots_length roots_bnd h.out hs hb hsb hbb)
  have hR := fun w => Aside0.mk (rblock_walk roots s b w roots_length roots_bnd hs hb hsb hbb)
  have hY := fun w => Aside0.mk (byroots_walk w)
  have hq := eq_arr8 (block roots s b) (block_ok roots s b hs hsb).1
  generalize arr .u32 (block roots s b) = X at hP hR hq
  generalize arr .u32 roots = RT at hR hY
  have hinS : Aside0 ((Tryd.prog.info? 23).map (·.size) = some (arr .u32 s).toList.length) := ⟨by rw [Array.length_toList, arr_size, hs]; kernel_rfl⟩
  have hinB : Aside0 ((Tryd.prog.info? 24).map (·.size) = some (arr .u8 b).toList.length) := ⟨by rw [Array.length_toList, arr_size, hb]; kernel_rfl⟩
  generalize arr .u32 s = S at hP hR hinS ⊢
  generalize arr .u8 b = B at hP hR hinB ⊢
  clear hs hb hsb hbb
  go_enter Tryd.func3, Tryd.ntmps3
  go_upto_region 1 with fail
  have HS := Aside0.mk (blk_alloc (blk_new w (.cells S 23)) (.cells B 24))
  have hz : (w.alloc (.cells S 23)).heap.size = w.heap.size + 1 := by show (w.heap.push _).size = _; exact Array.size_push _
  have HC := Aside0.mk (blk_new (w.alloc (.cells S 23)) (.cells B 24))
  rw [hz] at HC
  clear hz
  have HB := Aside0.mk (below_alloc (below_alloc (Below.refl w.heap.size w) (.cells S 23)) (.cells B 24))
  generalize (w.alloc (.cells S 23)).alloc (.cells B 24) = w0 at HS HC HB ⊢
  refine start_ (n := 14) (ds := []) (S := fun w' => w'.heap[w.heap.size]? = some (.cells S 23 (0, 0)) ∧ w'.heap[w.heap.size + 1]? = some (.cells B 24 (0, 0))) #[false, false, false, false, false, false, false, false, false, false, false, false, false, false] (by kernel_rfl) rfl rfl ⟨blk_drew HS.out, blk_drew HC.out⟩ (fun hHeld => ?_)
  have HB0 := Aside0.mk (below_drew1 HB.out)
  generalize w0.drew = w1 at hHeld HB0 ⊢
  refine one_ (i := 0) (N := some 5) #[true, false, false, false, false, false, false, false, false, false, false, false, false, false] rfl rfl (by kernel_rfl) (by simp) (fun K hK => ?_)
  refine goes_ Tryd.func10 (by kernel_rfl) rfl #[] (by rfl) rfl rfl (by first | rfl | (simp only [List.map_toArray, List.map_cons, List.map_nil]; done) | (simp only [List.map_toArray, List.map_cons, List.map_nil]; rfl)) ?_
  refine (begin_lit _).mono ?_
  rintro e w2 ⟨rfl, hb⟩
  refine ⟨_, rfl, ?_⟩
  have HB1 := Aside0.mk (below_step HB0.out hb)
  have hH1 := And.intro (blk_below hHeld.1 hb) (blk_below hHeld.2 hb)
  refine hK.out _ _ hH1 (fun hHeld => ?_)
  clear hK K hb hH1
  refine norm_ (a' := ?_) ?_ ?_
  rotate_left
  · show Act.put _ (some 5) _ = _
    simp only [Act.put, List.setIfInBounds_toArray, List.set_cons_zero, List.set_cons_succ, i64_w, i32_w]
    rfl
  have hix : ∀ w' : World, (Instr.index 25 (.agg initV) (.int .i64 0)).run Tryd.prog w' = .ok (.int .u32 1779033703) w' := fun _ => by kernel_rfl
  refine pure_ (i := 1) (N := some 6) (v := ?_) (a' := ?_) #[true, true, false, false, false, false, false, false, false, false, false, false, false, false] rfl rfl (by kernel_rfl) (fun _ _ _ h => h) (Or.inl ⟨by rfl, ?_⟩) ?_ ?_
  rotate_left
  · intro w'
    go_simp
    with_reducible rfl
  rotate_left
  · simp only [Act.put, List.setIfInBounds_toArray, List.set_cons_zero, List.set_cons_succ, i64_w, i32_w]
    rfl
  refine pure_ (i := 2) (N := some 7) (v := ?_) (a' := ?_) #[true, true, true, false, false, false, false, false, false, false, false, false, false, false] rfl rfl (by kernel_rfl) (fun _ _ _ h => h) (Or.inl ⟨by rfl, ?_⟩) ?_ ?_
  rotate_left
  · intro w'
    go_simp
    with_reducible rfl
  rotate_left
  · simp only [Act.put, List.setIfInBounds_toArray, List.set_cons_zero, List.set_cons_succ, i64_w, i32_w]
    rfl
  refine pure_ (i := 3) (N := some 8) (v := ?_) (a' := ?_) #[true, true, true, true, false, false, false, false, false, false, false, false, false, false] rfl rfl (by kernel_rfl) (fun _ _ _ h => h) (Or.inl ⟨by rfl, ?_⟩) ?_ ?_
  rotate_left
  · intro w'
    go_simp
    with_reducible rfl
  rotate_left
  · simp only [Act.put, List.setIfInBounds_toArray, List.set_cons_zero, List.set_cons_succ, i64_w, i32_w]
    rfl
  refine take_ (i := 4) (N := some 9) (v := .agg S) (a' := ?_) #[true, true, true, true, true, false, false, false, false, false, false, false, false, false] rfl rfl (by kernel_rfl) (fun _ _ _ h => h) (yieldsIf_load_mid (by rfl) 23 (.tmp 2) rfl w.heap.size 0 (by rfl) S.toList _ (fun w' hw' => fun j v hj => by rw [Nat.zero_add, blk_cell hw'.1 j]; simpa using hj) hsL rfl hinS.out) hHeld ?_ ?_
  rotate_left
  · simp only [Act.put, List.setIfInBounds_toArray, List.set_cons_zero, List.set_cons_succ, i64_w, i32_w]
    rfl
  refine take_ (i := 5) (N := some 10) (v := .agg B) (a' := ?_) #[true, true, true, true, true, true, false, false, false, false, false, false, false, false] rfl rfl (by kernel_rfl) (fun _ _ _ h => h) (yieldsIf_load_mid (by rfl) 24 (.tmp 3) rfl (w.heap.size + 1) 0 (by rfl) B.toList _ (fun w' hw' => fun j v hj => by rw [Nat.zero_add, blk_cell hw'.2 j]; simpa using hj) hbL rfl hinB.out) hHeld ?_ ?_
  rotate_left
  · simp only [Act.put, List.setIfInBounds_toArray, List.set_cons_zero, List.set_cons_succ, i64_w, i32_w]
    rfl
  refine take_ (i := 8) (N := some 13) (v := .agg S) (a' := ?_) #[true, true, true, true, true, true, false, false, true, false, false, false, false, false] rfl rfl (by kernel_rfl) (fun _ _ _ h => h) (yieldsIf_load_mid (by rfl) 23 (.tmp 2) rfl w.heap.size 0 (by rfl) S.toList _ (fun w' hw' => fun j v hj => by rw [Nat.zero_add, blk_cell hw'.1 j]; simpa using hj) hsL rfl hinS.out) hHeld ?_ ?_
  rotate_left
  · simp only [Act.put, List.setIfInBounds_toArray, List.set_cons_zero, List.set_cons_succ, i64_w, i32_w]
    rfl
  refine take_ (i := 9) (N := some 14) (v := .agg B) (a' := ?_) #[true, true, true, true, true, true, false, false, true, true, false, false, false, false] rfl rfl (by kernel_rfl) (fun _ _ _ h => h) (yieldsIf_load_mid (by rfl) 24 (.tmp 3) rfl (w.heap.size + 1) 0 (by rfl) B.toList _ (fun w' hw' => fun j v hj => by rw [Nat.zero_add, blk_cell hw'.2 j]; simpa using hj) hbL rfl hinB.out) hHeld ?_ ?_
  rotate_left
  · simp only [Act.put, List.setIfInBounds_toArray, List.set_cons_zero, List.set_cons_succ, i64_w, i32_w]
    rfl
  refine one_ (i := 6) (N := some 11) #[true, true, true, true, true, true, true, false, true, true, false, false, false, false] rfl rfl (by kernel_rfl) (by simp) (fun K hK => ?_)
  refine goes_ Tryd.func11 (by kernel_rfl) rfl #[.agg S, .agg B] (by rfl) rfl rfl (by first | rfl | (simp only [List.map_toArray, List.map_cons, List.map_nil]; done) | (simp only [List.map_toArray, List.map_cons, List.map_nil]; rfl)) ?_
  refine ((hP _ (HT.out.step HB1.out)).out).mono ?_
  rintro e w3 ⟨rfl, hb⟩
  refine ⟨_, rfl, ?_⟩
  have HB2 := Aside0.mk (below_step HB1.out hb)
  have hH2 := And.intro (blk_below hHeld.1 hb) (blk_below hHeld.2 hb)
  refine hK.out _ _ hH2 (fun hHeld => ?_)
  clear hK K hb hH2
  refine norm_ (a' := ?_) ?_ ?_
  rotate_left
  · show Act.put _ (some 11) _ = _
    simp only [Act.put, List.setIfInBounds_toArray, List.set_cons_zero, List.set_cons_succ, i64_w, i32_w]
    rfl
  refine one_ (i := 7) (N := some 12) #[true, true, true, true, true, true, true, true, true, true, false, false, false, false] rfl rfl (by kernel_rfl) (by simp) (fun K hK => ?_)
  refine goes_ Tryd.func13 (by kernel_rfl) rfl #[] (by rfl) rfl rfl (by first | rfl | (simp only [List.map_toArray, List.map_cons, List.map_nil]; done) | (simp only [List.map_toArray, List.map_cons, List.map_nil]; rfl)) ?_
  refine ((hY _).out).mono ?_
  rintro e w4 ⟨rfl, hb⟩
  refine ⟨_, rfl, ?_⟩
  have HB3 := Aside0.mk (below_step HB2.out hb)
  have hH3 := And.intro (blk_below hHeld.1 hb) (blk_below hHeld.2 hb)
  refine hK.out _ _ hH3 (fun hHeld => ?_)
  clear hK K hb hH3
  refine norm_ (a' := ?_) ?_ ?_
  rotate_left
  · show Act.put _ (some 12) _ = _
    simp only [Act.put, List.setIfInBounds_toArray, List.set_cons_zero, List.set_cons_succ, i64_w, i32_w]
    rfl
  refine one_ (i := 10) (N := some 15) #[true, true, true, true, true, true, true, true, true, true, true, false, false, false] rfl rfl (by kernel_rfl) (by simp) (fun K hK => ?_)
  refine goes_ Tryd.func12 (by kernel_rfl) rfl #[.agg RT, .agg S, .agg B] (by rfl) rfl rfl (by first | rfl | (simp only [List.map_toArray, List.map_cons, List.map_nil]; done) | (simp only [List.map_toArray, List.map_cons, List.map_nil]; rfl)) ?_
  refine ((hR _).out).mono ?_
  rintro e w5 ⟨rfl, hb⟩
  refine ⟨_, rfl, ?_⟩
  have HB4 := Aside0.mk (below_step HB3.out hb)
  have hH4 := And.intro (blk_below hHeld.1 hb) (blk_below hHeld.2 hb)
  refine hK.out _ _ hH4 (fun hHeld => ?_)
  clear hK K hb hH4
  refine norm_ (a' := ?_) ?_ ?_
  rotate_left
  · show Act.put _ (some 15) _ = _
    simp only [Act.put, List.setIfInBounds_toArray, List.set_cons_zero, List.set_cons_succ, i64_w, i32_w]
    rfl
  refine pure_ (i := 11) (N := some 16) (v := ?_) (a' := ?_) #[true, true, true, true, true, true, true, true, true, true, true, true, false, false] rfl rfl (by kernel_rfl) (fun _ _ _ h => h) (Or.inl ⟨by rfl, ?_⟩) ?_ ?_
  rotate_left
  · intro w'
    go_simp
    with_reducible rfl
  rotate_left
  · simp only [Act.put, List.setIfInBounds_toArray, List.set_cons_zero, List.set_cons_succ, i64_w, i32_w]
    rfl
  refine pure_ (i := 12) (N := some 17) (v := ?_) (a' := ?_) #[true, true, true, true, true, true, true, true, true, true, true, true, true, false] rfl rfl (by kernel_rfl) (fun _ _ _ h => h) (Or.inl ⟨by rfl, ?_⟩) ?_ ?_
  rotate_left
  · intro w'
    go_simp
    with_reducible rfl
  rotate_left
  · simp only [Act.put, List.setIfInBounds_toArray, List.set_cons_zero, List.set_cons_succ, i64_w, i32_w]
    rfl
  refine pure_ (i := 13) (N := some 4) (v := ?_) (a' := ?_) #[true, true, true, true, true, true, true, true, true, true, true, true, true, true] rfl rfl (by kernel_rfl) (fun _ _ _ h => h) (Or.inl ⟨by rfl, ?_⟩) ?_ ?_
  rotate_left
  · intro w'
    go_simp
    with_reducible rfl
  rotate_left
  · simp only [Act.put, List.setIfInBounds_toArray, List.set_cons_zero, List.set_cons_succ, i64_w, i32_w]
    rfl
  refine done_ (by kernel_rfl) ?_
  go_wp2
  go_ret
  exact ⟨rfl, HB4.out⟩
end Go.Proofs.YtelhajoedlaohaaDoor.Sha
