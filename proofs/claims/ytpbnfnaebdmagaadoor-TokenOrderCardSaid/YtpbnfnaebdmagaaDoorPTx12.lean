-- printed by a program of this session out of the translation; see NOTES.md
import Derived.Test.YtpbnfnaebdmagaaDoorH1
import Derived.Test.YtpbnfnaebdmagaaDoorH3
import Derived.Test.YtpbnfnaebdmagaaDoorH0
namespace Go.Proofs.YtpbnfnaebdmagaaDoor.PT
open Go.RowKit Go.Proofs.YtpbnfnaebdmagaaDoorW.PrintWords Go.Proofs.YtpbnfnaebdmagaaDoorW.PrintLast Go.Proofs.YtpbnfnaebdmagaaDoorW.PrintMore Go.Proofs.YtpbnfnaebdmagaaDoorRb
attribute [local go_sem] max2_int min2_int max_two min_two max_three min_three max_four min_four   -- for this text's walks alone
set_option linter.unusedVariables false
set_option linter.unusedSimpArgs false

/-! ### token_Parse: function 9 -/
def token_Parse.j0 : Nat → ByteArray → Int → Bool → Int → Int → ByteArray → List (S51) → Option (Int × Int × Int × Int × ByteArray × Int)
 | 0, _, _, _, _, _, _, _ => none
 | k + 1, x0, x5, x26, x173000, x173001, x173002, x173003 => if x26 = true then (some (0, 0, 0, 0, (⟨#[]⟩ : ByteArray), 4)) else ((Cf.has20.f x173003).bind fun t173 => (if t173 = true then (some (0, 0, 0, 0, (⟨#[]⟩ : ByteArray), 4)) else (if 2 ≤ (x173003.length : Int) then ((Cf.has21.f (x173003.take 2)).bind fun t178 => (if t178 = true then (some (0, 0, 0, 0, (⟨#[]⟩ : ByteArray), 4)) else (if 0 < (x173003.length : Int) then (if 1 < (x173003.length : Int) then (if 2 < (x173003.length : Int) then (if 3 < (x173003.length : Int) then (if 0 ≤ x5 then (if x5 ≤ (x0.size : Int) then (some ((rd_T51 x173003 0).f1, (rd_T51 x173003 1).f1, (rd_T51 x173003 2).f1, (rd_T51 x173003 3).f1, x0.extract (x5 : Int).toNat x0.size, 0)) else (none)) else (none)) else (none)) else (none)) else (none)) else (none)))) else (none))))
def token_Parse.f (k : Nat) (a0 : ByteArray) : Option (Int × Int × Int × Int × ByteArray × Int) := if (wrap64 ((a0.size : Int) - 32)) < 0 then (some (0, 0, 0, 0, (⟨#[]⟩ : ByteArray), 3)) else (if 0 ≤ (wrap64 ((a0.size : Int) - 32)) then (if (wrap64 ((a0.size : Int) - 32)) ≤ (a0.size : Int) then ((pack_Get.f (a0.extract 0 ((wrap64 ((a0.size : Int) - 32)) : Int).toNat)).bind fun bt165 => (if bt165.2.2.2.2 = 0 then (if bt165.1 = 2 then (token_Parse.j0 k a0 (wrap64 ((a0.size : Int) - 32)) ((bt165.2.2.2.1.length : Int) != 4) bt165.1 bt165.2.1 bt165.2.2.1 bt165.2.2.2.1) else (token_Parse.j0 k a0 (wrap64 ((a0.size : Int) - 32)) true bt165.1 bt165.2.1 bt165.2.2.1 bt165.2.2.2.1)) else (some (0, 0, 0, 0, (⟨#[]⟩ : ByteArray), bt165.2.2.2.2)))) else (none)) else (none))
theorem token_Parse.mono_l : ∀ k, (∀ y0 y1 y2 y3 y4 y5 y6, LeO (token_Parse.j0 k y0 y1 y2 y3 y4 y5 y6) (token_Parse.j0 (k + 1) y0 y1 y2 y3 y4 y5 y6))
 | 0 => fun _ _ _ _ _ _ _ r h => by simp [token_Parse.j0] at h
 | k + 1 => by
  have ih0 := token_Parse.mono_l k
  ·intro y0 y1 y2 y3 y4 y5 y6
   unfold token_Parse.j0
   repeat' first
   | (with_reducible exact ih0 _ _ _ _ _ _ _)
   | (with_reducible exact LeO.refl _)
   | (with_reducible exact LeO.none _)
   | (with_reducible refine LeO.ite ?_ ?_)
   | (with_reducible refine LeO.bind ?_ (fun _ => ?_))
   | exact ih0 _ _ _ _ _ _ _
   | exact LeO.none _
   | refine LeO.ite ?_ ?_
   | refine LeO.bind ?_ (fun _ => ?_)
theorem token_Parse.mono : ∀ a0 k, LeO (token_Parse.f k a0) (token_Parse.f (k + 1) a0) := by
 intro a0 k
 have ih0 := token_Parse.mono_l k
 unfold token_Parse.f
 repeat' first
   | (with_reducible exact ih0 _ _ _ _ _ _ _)
   | (with_reducible exact LeO.refl _)
   | (with_reducible exact LeO.none _)
   | (with_reducible refine LeO.ite ?_ ?_)
   | (with_reducible refine LeO.bind ?_ (fun _ => ?_))
   | exact ih0 _ _ _ _ _ _ _
   | exact LeO.none _
   | refine LeO.ite ?_ ?_
   | refine LeO.bind ?_ (fun _ => ?_)
def token_Parse.T13 : Bool × List (List Nat × List Nat) := (true, [([], []), ([0], [0]), ([1], [1]), ([2], [2]), ([3], [3]), ([], []), ([5], [5]), ([6], [6]), ([7], [7]), ([8], [8]), ([], []), ([10], [10]), ([11], [11]), ([12], [12]), ([13], [13]), ([], []), ([15], [15]), ([16], [16]), ([17], [17]), ([18], [18]), ([4, 9, 14, 19], [4, 9, 14, 19]), ([], []), ([], []), ([21, 22], [21, 22]), ([20, 0, 1, 2, 3, 4, 5, 6, 7, 8, 9, 10, 11, 12, 13, 14, 15, 16, 17, 18, 19, 20], [20]), ([23, 24, 0, 1, 2, 3, 4, 5, 6, 7, 8, 9, 10, 11, 12, 13, 14, 15, 16, 17, 18, 19, 20, 21, 22, 23, 24], [23]), ([25, 0, 1, 2, 3, 4, 5, 6, 7, 8, 9, 10, 11, 12, 13, 14, 15, 16, 17, 18, 19, 20, 21, 22, 23, 24, 25], [])])
def token_Parse.B13 : List Nat := [0, 1, 3, 7, 15, 0, 32, 96, 224, 480, 0, 1024, 3072, 7168, 15360, 0, 32768, 98304, 229376, 491520, 1048575, 0, 0, 6291456, 2097151, 33554431, 67108863]
theorem token_Parse.tab13 : rtab .any (opsOf Tryd.f9 13) = token_Parse.T13 := by kernel_rfl
theorem token_Parse.bits13 : waitsOk token_Parse.T13.2 token_Parse.B13 = true := by kernel_rfl
set_option maxHeartbeats 8000000 in
set_option maxRecDepth 100000 in
theorem token_Parse.calls (k : Nat) (a0 : ByteArray) (r1 : Int) (r2 : Int) (r3 : Int) (r4 : Int) (r5 : ByteArray) (r6 : Int) (w : World) (h : token_Parse.f k a0 = some (r1, r2, r3, r4, r5, r6)) :
  Calls Tryd.prog 9 #[.string a0] w fun e w' => e = .returned (.tuple #[.agg #[.int .i64 r1, .int .i64 r2, .int .i64 r3, .int .i64 r4], .string r5, .int .i64 r6]) ∧ Below w.heap.size w w' := by
 have hu23 := Tryd.underlying23
 have hu51 := Tryd.underlying51
 have HB := Aside0.mk (Below.refl w.heap.size w)
 have H : (if (wrap64 ((a0.size : Int) - 32)) < 0 then (some (0, 0, 0, 0, (⟨#[]⟩ : ByteArray), 3)) else (if 0 ≤ (wrap64 ((a0.size : Int) - 32)) then (if (wrap64 ((a0.size : Int) - 32)) ≤ (a0.size : Int) then ((pack_Get.f (a0.extract 0 ((wrap64 ((a0.size : Int) - 32)) : Int).toNat)).bind fun bt165 => (if bt165.2.2.2.2 = 0 then (if bt165.1 = 2 then (token_Parse.j0 k a0 (wrap64 ((a0.size : Int) - 32)) ((bt165.2.2.2.1.length : Int) != 4) bt165.1 bt165.2.1 bt165.2.2.1 bt165.2.2.2.1) else (token_Parse.j0 k a0 (wrap64 ((a0.size : Int) - 32)) true bt165.1 bt165.2.1 bt165.2.2.1 bt165.2.2.2.1)) else (some (0, 0, 0, 0, (⟨#[]⟩ : ByteArray), bt165.2.2.2.2)))) else (none)) else (none))) = some (r1, r2, r3, r4, r5, r6) := h
 clear h
 by_cases c2 : (wrap64 ((a0.size : Int) - 32)) < 0
 ·rw [if_pos c2] at H
  have c2b0 : decide ((wrap64 ((a0.size : Int) - 32)) < 0) = true := decide_eq_true c2
  clear c2
  simp only [Option.some.injEq, Prod.mk.injEq] at H
  obtain ⟨rfl, rfl, rfl, rfl, rfl, rfl⟩ := H
  go_enter Tryd.func9, Tryd.ntmps9
  go_wp2_with (first | ((with_reducible refine gate_dst (N := 2) rfl ?_); (try (refine gate_guard (by rfl) ?_; dsimp only)); refine box_event ?hg (N := 2) ?hd (cs := #[.int .i64 0, .int .i64 0, .int .i64 0, .int .i64 0]) (t := 23) ?hr ?_; (case hd => rfl); (case hg => rfl); (case hr => first | (go_simp; done) | (go_simp; rfl)); intro gb164 hg w3 hbox hb; have n0_ := Aside0.mk (below_step bb hb); have n1_ := Aside0.mk (hbox); have n2_ := Aside0.mk ((by rw [hg]; exact (below_size bb) : w.heap.size ≤ gb164)); have n3_ := Aside0.mk ((by rw [hg]; exact (below_size bb) : w.heap.size ≤ gb164)); clear HB; have HB := n0_; have BK164 := n1_; have GW164 := n2_; have GE164 := n3_; clear n0_ n1_ n2_ n3_; clear hb hbox hg; have hcz4_0 : w3.cell? ⟨gb164, 0, none⟩ = some (.int .i64 0) := (blk_cell BK164.out 0).trans rfl; have hcz4_1 : w3.cell? ⟨gb164, 1, none⟩ = some (.int .i64 0) := (blk_cell BK164.out 1).trans rfl; have hcz4_2 : w3.cell? ⟨gb164, 2, none⟩ = some (.int .i64 0) := (blk_cell BK164.out 2).trans rfl; have hcz4_3 : w3.cell? ⟨gb164, 3, none⟩ = some (.int .i64 0) := (blk_cell BK164.out 3).trans rfl; have hfz4_0 := blk_frozen BK164.out 0; have hfz4_1 := blk_frozen BK164.out 1; have hfz4_2 := blk_frozen BK164.out 2; have hfz4_3 := blk_frozen BK164.out 3))
  refine bodyPost_ret (results_ctt rfl _ _ gb164 23 #[.int .i64 0, .int .i64 0, .int .i64 0, .int .i64 0] (0, 0) _ rfl (rb (blk_put (cs := #[.int .i64 0, .int .i64 0, .int .i64 0, .int .i64 0]) (rb (blk_put (cs := #[.int .i64 0, .int .i64 0, .int .i64 0, .int .i64 0]) (rb (blk_put (cs := #[.int .i64 0, .int .i64 0, .int .i64 0, .int .i64 0]) (rb (blk_put (cs := #[.int .i64 0, .int .i64 0, .int .i64 0, .int .i64 0]) (rb BK164.out) 0 _ rfl)) 1 _ rfl)) 2 _ rfl)) 3 _ rfl)) Tryd.underlying23 rfl (by kernel_rfl)) rfl ?_
  exact ⟨by first | rfl | (simp [errW_none, errW_some] <;> rfl) | (simp [*, errW_none, errW_some] <;> rfl), bb⟩
 ·rw [if_neg c2] at H
  have c2b0 : decide ((wrap64 ((a0.size : Int) - 32)) < 0) = false := decide_eq_false c2
  clear c2
  obtain ⟨ji5, hji5⟩ : ∃ j_ : Int, (wrap64 ((a0.size : Int) - 32)) = j_ := ⟨_, rfl⟩
  replace H : (if 0 ≤ (ji5) then (if (ji5) ≤ (a0.size : Int) then ((pack_Get.f (a0.extract 0 ((ji5) : Int).toNat)).bind fun bt165 => (if bt165.2.2.2.2 = 0 then (if bt165.1 = 2 then (token_Parse.j0 k a0 ji5 ((bt165.2.2.2.1.length : Int) != 4) bt165.1 bt165.2.1 bt165.2.2.1 bt165.2.2.2.1) else (token_Parse.j0 k a0 ji5 true bt165.1 bt165.2.1 bt165.2.2.1 bt165.2.2.2.1)) else (some (0, 0, 0, 0, (⟨#[]⟩ : ByteArray), bt165.2.2.2.2)))) else (none)) else (none)) = some (r1, r2, r3, r4, r5, r6) := by first | (rw [hji5] at H; exact H) | (simp only [hji5] at H ⊢; exact H)
  (try rw [hji5] at c2b0)
  have hji5w : (IntKind.i64.wrap ((a0.size : Int) - 32)) = ji5 := (i64_w _).trans hji5
  by_cases c6 : 0 ≤ (ji5)
  ·rw [if_pos c6] at H
   have c6b0 := eq_true c6
   have c6b1 : decide (0 ≤ (ji5)) = true := decide_eq_true c6
   clear c6
   by_cases c7 : (ji5) ≤ (a0.size : Int)
   ·rw [if_pos c7] at H
    have c7b0 := eq_true c7
    have c7b1 : decide ((ji5) ≤ (a0.size : Int)) = true := decide_eq_true c7
    clear c7
    replace H := Option.bind_eq_some_iff.mp H
    obtain ⟨⟨t165, t166, t167, t168, t171⟩, A80, H⟩ := H
    replace H : (if t171 = 0 then (if t165 = 2 then (token_Parse.j0 k a0 ji5 ((t168.length : Int) != 4) t165 t166 t167 t168) else (token_Parse.j0 k a0 ji5 true t165 t166 t167 t168)) else (some (0, 0, 0, 0, (⟨#[]⟩ : ByteArray), t171))) = some (r1, r2, r3, r4, r5, r6) := H
    have A8 := Aside0.mk A80
    clear A80
    by_cases c9 : t171 = 0
    ·rw [if_pos c9] at H
     have c9b0 : (t171 == 0) = true := beq_iff_eq.mpr c9
     have c9b1 : (t171 != 0) = false := bne_eq_false_iff_eq.mpr c9
     clear c9
     have HC10 := Aside0.mk H
     clear H
     go_enter Tryd.func9, Tryd.ntmps9
     go_upto_region 7 with (first | ((with_reducible refine gate_dst (N := 2) rfl ?_); (try (refine gate_guard (by rfl) ?_; dsimp only)); refine box_event ?hg (N := 2) ?hd (cs := #[.int .i64 0, .int .i64 0, .int .i64 0, .int .i64 0]) (t := 23) ?hr ?_; (case hd => rfl); (case hg => rfl); (case hr => first | (go_simp; done) | (go_simp; rfl)); intro gb164 hg w11 hbox hb; have n0_ := Aside0.mk (below_step bb hb); have n1_ := Aside0.mk (hbox); have n2_ := Aside0.mk ((by rw [hg]; exact (below_size bb) : w.heap.size ≤ gb164)); have n3_ := Aside0.mk ((by rw [hg]; exact (below_size bb) : w.heap.size ≤ gb164)); clear HB; have HB := n0_; have BK164 := n1_; have GW164 := n2_; have GE164 := n3_; clear n0_ n1_ n2_ n3_; clear hb hbox hg) | ((with_reducible refine gate_callee (f := 18) rfl ?_); refine goesL_ (some 18) rfl rfl Tryd.func18 (by kernel_rfl) rfl #[.string (a0.extract 0 ((ji5) : Int).toNat)] rfl (by (try simp only [List.map_toArray, List.map_cons, List.map_nil]); first | done | (simp only [hji5]; rfl) | rfl | (simp only [List.length_drop, List.length_take]; rfl)) ?_; (with_reducible refine (pack_Get.calls (a0.extract 0 ((ji5) : Int).toNat) t165 t166 t167 t168 t171 _ A8.out).mono ?_); rintro e w12 ⟨v169, rfl, ho0, hb⟩; refine ⟨_, rfl, ?_⟩; have n0_ := Aside0.mk (Kd.R_lower ho0 (below_size bb)); have n1_ := Aside0.mk (blk_below (rb BK164.out) hb); have n2_ := Aside0.mk (below_step bb hb); clear BK164; clear HB; have HO170 := n0_; have BK164 := n1_; have HB := n2_; clear n0_ n1_ n2_; (try clear hb); (try clear hb2); (try clear hk); (try clear hi); (try clear ho0)) | ((with_reducible refine gate_dst (N := 6) rfl ?_); (try (refine gate_guard (by rfl) ?_; dsimp only)); refine box_event ?hg (N := 6) ?hd (cs := #[.int .i64 0, .int .i64 0, .string (⟨#[]⟩ : ByteArray), .slice none 0 0]) (t := 51) ?hr ?_; (case hd => rfl); (case hg => rfl); (case hr => first | (go_simp; done) | (go_simp; rfl)); intro gb172 hg w13 hbox hb; have n0_ := Aside0.mk (Kd.R_below (Kd.R_elderB (kR HO170.out) gb172 (Nat.le_of_eq hg.symm)) hb); have n1_ := Aside0.mk (blk_below (rb BK164.out) hb); have n2_ := Aside0.mk (below_step bb hb); have n3_ := Aside0.mk (hbox); have n4_ := Aside0.mk ((by rw [hg]; exact (below_size bb) : w.heap.size ≤ gb172)); have n5_ := Aside0.mk ((by rw [hg]; exact (below_size bb) : w.heap.size ≤ gb172)); have n6_ := Aside0.mk ((by rw [hg]; exact Nat.ne_of_lt (blk_lt (rb BK164.out)) : gb164 ≠ gb172)); have n7_ := Aside0.mk ((by rw [hg]; exact Nat.ne_of_gt (blk_lt (rb BK164.out)) : gb172 ≠ gb164)); clear HO170; clear BK164; clear HB; have HO170 := n0_; have BK164 := n1_; have HB := n2_; have BK172 := n3_; have GW172 := n4_; have GE172 := n5_; have NB164_172 := n6_; have NB172_164 := n7_; clear n0_ n1_ n2_ n3_ n4_ n5_ n6_ n7_; clear hb hbox hg; have hnb14 := NB172_164.out; have hnc14 := NB164_172.out; have hcz15_0 : w13.cell? ⟨gb172, 0, none⟩ = some (.int .i64 0) := (blk_cell BK172.out 0).trans rfl; have hcz15_1 : w13.cell? ⟨gb172, 1, none⟩ = some (.int .i64 0) := (blk_cell BK172.out 1).trans rfl; have hcz15_2 : w13.cell? ⟨gb172, 2, none⟩ = some (.string (⟨#[]⟩ : ByteArray)) := (blk_cell BK172.out 2).trans rfl; have hcz15_3 : w13.cell? ⟨gb172, 3, none⟩ = some (.slice none 0 0) := (blk_cell BK172.out 3).trans rfl; have hfz15_0 := blk_frozen BK172.out 0; have hfz15_1 := blk_frozen BK172.out 1; have hfz15_2 := blk_frozen BK172.out 2; have hfz15_3 := blk_frozen BK172.out 3; obtain ⟨Ao16, co16, eo16⟩ := Kd.R_slice HO170.out; subst eo16))
     (try simp only [Act.put, List.setIfInBounds_toArray, List.set_cons_zero, List.set_cons_succ])
     go_cut [26] (fun v26 wc => ∃ (kq : Nat) (x26_9 : Bool), v26 = .bool x26_9 ∧ Aside0 (token_Parse.j0 kq a0 ji5 x26_9 t165 t166 t167 t168 = some (r1, r2, r3, r4, r5, r6)) ∧ Aside0 (kq ≤ k) ∧ Aside0 (Kd.R k51 51 wc w.heap.size (fun k_ => k_ ≠ gb172) (.slice Ao16 t168.length co16) t168) ∧ Aside0 (wc.heap[gb164]? = some (.cells #[.int .i64 0, .int .i64 0, .int .i64 0, .int .i64 0] 23 (0, 0))) ∧ Aside0 (wc.heap[gb172]? = some (.cells #[.int .i64 t165, .int .i64 t166, .string t167, (.slice Ao16 t168.length co16)] 51 (0, 0))) ∧ Aside0 (Below w.heap.size w wc))
     case first =>
      have H := HC10.out
      clear HC10
      by_cases c17 : t165 = 2
      ·rw [if_pos c17] at H
       have c17b0 : (t165 == 2) = true := beq_iff_eq.mpr c17
       have c17b1 : (t165 != 2) = false := bne_eq_false_iff_eq.mpr c17
       clear c17
       (first | rw [c17b0] | (simp only [i64_w, i32_w]; rw [c17b0]) | skip)
       have H' := Aside0.mk H
       clear H
       have hnb18 := NB172_164.out
       have hnc18 := NB164_172.out
       have hcz19_0 : w13.cell? ⟨gb172, 0, none⟩ = some (.int .i64 0) := (blk_cell BK172.out 0).trans rfl
       have hcz19_1 : w13.cell? ⟨gb172, 1, none⟩ = some (.int .i64 0) := (blk_cell BK172.out 1).trans rfl
       have hcz19_2 : w13.cell? ⟨gb172, 2, none⟩ = some (.string (⟨#[]⟩ : ByteArray)) := (blk_cell BK172.out 2).trans rfl
       have hcz19_3 : w13.cell? ⟨gb172, 3, none⟩ = some (.slice none 0 0) := (blk_cell BK172.out 3).trans rfl
       have hfz19_0 := blk_frozen BK172.out 0
       have hfz19_1 := blk_frozen BK172.out 1
       have hfz19_2 := blk_frozen BK172.out 2
       have hfz19_3 := blk_frozen BK172.out 3
       go_wp2
       go_meet
       case rel => exact ⟨_, (((t168.length : Int) != 4)), (by first | rfl | (simp; done) | (simp [*]; done)), H', ⟨by first | omega | exact Nat.le_refl _⟩, ⟨kR (Kd.R_mono (Kd.R_far (p := ⟨gb172, 3, none⟩) (Kd.R_far (p := ⟨gb172, 2, none⟩) (Kd.R_far (p := ⟨gb172, 1, none⟩) (Kd.R_far (p := ⟨gb172, 0, none⟩) (Kd.R_mono HO170.out (fun k_ hk => (⟨hk, hk.2⟩ : _ ∧ k_ ≠ gb172))) (fun _ hk => hk.2) (.int .i64 t165)) (fun _ hk => hk.2) (.int .i64 t166)) (fun _ hk => hk.2) (.string t167)) (fun _ hk => hk.2) (.slice Ao16 t168.length co16)) (fun _ hk => hk.1.2))⟩, ⟨by (with_reducible repeat (first | refine blk_drewN ?_ _ | refine blk_drew ?_ | refine blk_alloc ?_ _)); refine blk_far ?_ NB164_172.out _; (with_reducible repeat (first | refine blk_drewN ?_ _ | refine blk_drew ?_ | refine blk_alloc ?_ _)); refine blk_far ?_ NB164_172.out _; (with_reducible repeat (first | refine blk_drewN ?_ _ | refine blk_drew ?_ | refine blk_alloc ?_ _)); refine blk_far ?_ NB164_172.out _; (with_reducible repeat (first | refine blk_drewN ?_ _ | refine blk_drew ?_ | refine blk_alloc ?_ _)); refine blk_far ?_ NB164_172.out _; (with_reducible repeat (first | refine blk_drewN ?_ _ | refine blk_drew ?_ | refine blk_alloc ?_ _)); exact BK164.out⟩, ⟨by (with_reducible repeat (first | refine blk_drewN ?_ _ | refine blk_drew ?_ | refine blk_alloc ?_ _)); refine blk_put (cs := #[.int .i64 t165, .int .i64 t166, .string t167, .slice none 0 0]) ?_ 3 _ rfl; (with_reducible repeat (first | refine blk_drewN ?_ _ | refine blk_drew ?_ | refine blk_alloc ?_ _)); refine blk_put (cs := #[.int .i64 t165, .int .i64 t166, .string (⟨#[]⟩ : ByteArray), .slice none 0 0]) ?_ 2 _ rfl; (with_reducible repeat (first | refine blk_drewN ?_ _ | refine blk_drew ?_ | refine blk_alloc ?_ _)); refine blk_put (cs := #[.int .i64 t165, .int .i64 0, .string (⟨#[]⟩ : ByteArray), .slice none 0 0]) ?_ 1 _ rfl; (with_reducible repeat (first | refine blk_drewN ?_ _ | refine blk_drew ?_ | refine blk_alloc ?_ _)); refine blk_put (cs := #[.int .i64 0, .int .i64 0, .string (⟨#[]⟩ : ByteArray), .slice none 0 0]) ?_ 0 _ rfl; (with_reducible repeat (first | refine blk_drewN ?_ _ | refine blk_drew ?_ | refine blk_alloc ?_ _)); exact BK172.out⟩, ⟨bb⟩⟩
      ·rw [if_neg c17] at H
       have c17b0 : (t165 == 2) = false := beq_eq_false_iff_ne.mpr c17
       have c17b1 : (t165 != 2) = true := bne_iff_ne.mpr c17
       (first | rw [c17b0] | (simp only [i64_w, i32_w]; rw [c17b0]) | skip)
       have H' := Aside0.mk H
       clear H
       have hnb20 := NB172_164.out
       have hnc20 := NB164_172.out
       have hcz21_0 : w13.cell? ⟨gb172, 0, none⟩ = some (.int .i64 0) := (blk_cell BK172.out 0).trans rfl
       have hcz21_1 : w13.cell? ⟨gb172, 1, none⟩ = some (.int .i64 0) := (blk_cell BK172.out 1).trans rfl
       have hcz21_2 : w13.cell? ⟨gb172, 2, none⟩ = some (.string (⟨#[]⟩ : ByteArray)) := (blk_cell BK172.out 2).trans rfl
       have hcz21_3 : w13.cell? ⟨gb172, 3, none⟩ = some (.slice none 0 0) := (blk_cell BK172.out 3).trans rfl
       have hfz21_0 := blk_frozen BK172.out 0
       have hfz21_1 := blk_frozen BK172.out 1
       have hfz21_2 := blk_frozen BK172.out 2
       have hfz21_3 := blk_frozen BK172.out 3
       go_wp2
       go_meet
       case rel => exact ⟨_, (true), (by first | rfl | (simp; done) | (simp [*]; done)), H', ⟨by first | omega | exact Nat.le_refl _⟩, ⟨kR (Kd.R_mono (Kd.R_far (p := ⟨gb172, 3, none⟩) (Kd.R_far (p := ⟨gb172, 2, none⟩) (Kd.R_far (p := ⟨gb172, 1, none⟩) (Kd.R_far (p := ⟨gb172, 0, none⟩) (Kd.R_mono HO170.out (fun k_ hk => (⟨hk, hk.2⟩ : _ ∧ k_ ≠ gb172))) (fun _ hk => hk.2) (.int .i64 t165)) (fun _ hk => hk.2) (.int .i64 t166)) (fun _ hk => hk.2) (.string t167)) (fun _ hk => hk.2) (.slice Ao16 t168.length co16)) (fun _ hk => hk.1.2))⟩, ⟨by (with_reducible repeat (first | refine blk_drewN ?_ _ | refine blk_drew ?_ | refine blk_alloc ?_ _)); refine blk_far ?_ NB164_172.out _; (with_reducible repeat (first | refine blk_drewN ?_ _ | refine blk_drew ?_ | refine blk_alloc ?_ _)); refine blk_far ?_ NB164_172.out _; (with_reducible repeat (first | refine blk_drewN ?_ _ | refine blk_drew ?_ | refine blk_alloc ?_ _)); refine blk_far ?_ NB164_172.out _; (with_reducible repeat (first | refine blk_drewN ?_ _ | refine blk_drew ?_ | refine blk_alloc ?_ _)); refine blk_far ?_ NB164_172.out _; (with_reducible repeat (first | refine blk_drewN ?_ _ | refine blk_drew ?_ | refine blk_alloc ?_ _)); exact BK164.out⟩, ⟨by (with_reducible repeat (first | refine blk_drewN ?_ _ | refine blk_drew ?_ | refine blk_alloc ?_ _)); refine blk_put (cs := #[.int .i64 t165, .int .i64 t166, .string t167, .slice none 0 0]) ?_ 3 _ rfl; (with_reducible repeat (first | refine blk_drewN ?_ _ | refine blk_drew ?_ | refine blk_alloc ?_ _)); refine blk_put (cs := #[.int .i64 t165, .int .i64 t166, .string (⟨#[]⟩ : ByteArray), .slice none 0 0]) ?_ 2 _ rfl; (with_reducible repeat (first | refine blk_drewN ?_ _ | refine blk_drew ?_ | refine blk_alloc ?_ _)); refine blk_put (cs := #[.int .i64 t165, .int .i64 0, .string (⟨#[]⟩ : ByteArray), .slice none 0 0]) ?_ 1 _ rfl; (with_reducible repeat (first | refine blk_drewN ?_ _ | refine blk_drew ?_ | refine blk_alloc ?_ _)); refine blk_put (cs := #[.int .i64 0, .int .i64 0, .string (⟨#[]⟩ : ByteArray), .slice none 0 0]) ?_ 0 _ rfl; (with_reducible repeat (first | refine blk_drewN ?_ _ | refine blk_drew ?_ | refine blk_alloc ?_ _)); exact BK172.out⟩, ⟨bb⟩⟩
     case rest =>
      clear HC10
      try clear c1
      try clear c2
      try clear c2b0
      try clear p2
      try clear c6
      try clear c6b0
      try clear c6b1
      try clear p6
      try clear c7
      try clear c7b0
      try clear c7b1
      try clear c9
      try clear c9b0
      try clear c9b1
      try clear c14
      try clear c17
      try clear c17b0
      try clear c17b1
      try clear c18
      try clear c20
      try clear hcz15_0
      try clear hcz15_1
      try clear hcz15_2
      try clear hcz15_3
      try clear hcz19_0
      try clear hcz19_1
      try clear hcz19_2
      try clear hcz19_3
      try clear hcz21_0
      try clear hcz21_1
      try clear hcz21_2
      try clear hcz21_3
      try clear hcz4_0
      try clear hcz4_1
      try clear hcz4_2
      try clear hcz4_3
      try clear hfz15_0
      try clear hfz15_1
      try clear hfz15_2
      try clear hfz15_3
      try clear hfz19_0
      try clear hfz19_1
      try clear hfz19_2
      try clear hfz19_3
      try clear hfz21_0
      try clear hfz21_1
      try clear hfz21_2
      try clear hfz21_3
      try clear hfz4_0
      try clear hfz4_1
      try clear hfz4_2
      try clear hfz4_3
      obtain ⟨kq, x26_9, rfl, HA, HJ9, HO_173003, BK164, BK172, HB⟩ := hcut
      cases kq with
      | zero => exact absurd HA.out (by simp [token_Parse.j0])
      | succ kj9 =>
       have H := HA.out
       clear HA
       simp only [token_Parse.j0] at H
       by_cases c22 : x26_9 = true
       ·subst c22
        have H1 : (some (0, 0, 0, 0, (⟨#[]⟩ : ByteArray), 4)) = some (r1, r2, r3, r4, r5, r6) := by rw [if_pos rfl] at H; exact H
        clear H
        have H := H1
        clear H1
        simp only [Option.some.injEq, Prod.mk.injEq] at H
        obtain ⟨rfl, rfl, rfl, rfl, rfl, rfl⟩ := H
        have hnb23 := NB164_172.out
        have hnc23 := NB172_164.out
        have hcz24_0 : wc.cell? ⟨gb164, 0, none⟩ = some (.int .i64 0) := (blk_cell BK164.out 0).trans rfl
        have hcz24_1 : wc.cell? ⟨gb164, 1, none⟩ = some (.int .i64 0) := (blk_cell BK164.out 1).trans rfl
        have hcz24_2 : wc.cell? ⟨gb164, 2, none⟩ = some (.int .i64 0) := (blk_cell BK164.out 2).trans rfl
        have hcz24_3 : wc.cell? ⟨gb164, 3, none⟩ = some (.int .i64 0) := (blk_cell BK164.out 3).trans rfl
        have hfz24_0 := blk_frozen BK164.out 0
        have hfz24_1 := blk_frozen BK164.out 1
        have hfz24_2 := blk_frozen BK164.out 2
        have hfz24_3 := blk_frozen BK164.out 3
        go_wp2
        refine bodyPost_ret (results_ctt rfl _ _ gb164 23 #[.int .i64 0, .int .i64 0, .int .i64 0, .int .i64 0] (0, 0) _ rfl (rb (blk_put (cs := #[.int .i64 0, .int .i64 0, .int .i64 0, .int .i64 0]) (rb (blk_put (cs := #[.int .i64 0, .int .i64 0, .int .i64 0, .int .i64 0]) (rb (blk_put (cs := #[.int .i64 0, .int .i64 0, .int .i64 0, .int .i64 0]) (rb (blk_put (cs := #[.int .i64 0, .int .i64 0, .int .i64 0, .int .i64 0]) (rb BK164.out) 0 _ rfl)) 1 _ rfl)) 2 _ rfl)) 3 _ rfl)) Tryd.underlying23 rfl (by kernel_rfl)) rfl ?_
        exact ⟨by first | rfl | (simp [errW_none, errW_some] <;> rfl) | (simp only [← hji5]; first | rfl | (simp [errW_none, errW_some] <;> rfl)) | (simp [*, errW_none, errW_some] <;> rfl), bb⟩
       ·replace c22 := Bool.eq_false_iff.mpr c22
        subst c22
        have H1 : ((Cf.has20.f t168).bind fun t173 => (if t173 = true then (some (0, 0, 0, 0, (⟨#[]⟩ : ByteArray), 4)) else (if 2 ≤ (t168.length : Int) then ((Cf.has21.f (t168.take 2)).bind fun t178 => (if t178 = true then (some (0, 0, 0, 0, (⟨#[]⟩ : ByteArray), 4)) else (if 0 < (t168.length : Int) then (if 1 < (t168.length : Int) then (if 2 < (t168.length : Int) then (if 3 < (t168.length : Int) then (if 0 ≤ ji5 then (if ji5 ≤ (a0.size : Int) then (some ((rd_T51 t168 0).f1, (rd_T51 t168 1).f1, (rd_T51 t168 2).f1, (rd_T51 t168 3).f1, a0.extract (ji5 : Int).toNat a0.size, 0)) else (none)) else (none)) else (none)) else (none)) else (none)) else (none)))) else (none)))) = some (r1, r2, r3, r4, r5, r6) := by rw [if_neg (show ¬ (false = true) by decide)] at H; exact H
        clear H
        have H := H1
        clear H1
        replace H := Option.bind_eq_some_iff.mp H
        obtain ⟨t173, A250, H⟩ := H
        replace H : (if t173 = true then (some (0, 0, 0, 0, (⟨#[]⟩ : ByteArray), 4)) else (if 2 ≤ (t168.length : Int) then ((Cf.has21.f (t168.take 2)).bind fun t178 => (if t178 = true then (some (0, 0, 0, 0, (⟨#[]⟩ : ByteArray), 4)) else (if 0 < (t168.length : Int) then (if 1 < (t168.length : Int) then (if 2 < (t168.length : Int) then (if 3 < (t168.length : Int) then (if 0 ≤ ji5 then (if ji5 ≤ (a0.size : Int) then (some ((rd_T51 t168 0).f1, (rd_T51 t168 1).f1, (rd_T51 t168 2).f1, (rd_T51 t168 3).f1, a0.extract (ji5 : Int).toNat a0.size, 0)) else (none)) else (none)) else (none)) else (none)) else (none)) else (none)))) else (none))) = some (r1, r2, r3, r4, r5, r6) := H
        have A25 := Aside0.mk A250
        clear A250
        by_cases c26 : t173 = true
        ·subst c26
         have H1 : (some (0, 0, 0, 0, (⟨#[]⟩ : ByteArray), 4)) = some (r1, r2, r3, r4, r5, r6) := by rw [if_pos rfl] at H; exact H
         clear H
         have H := H1
         clear H1
         simp only [Option.some.injEq, Prod.mk.injEq] at H
         obtain ⟨rfl, rfl, rfl, rfl, rfl, rfl⟩ := H
         have hnb27 := NB172_164.out
         have hnc27 := NB164_172.out
         have hcz28_0 : wc.cell? ⟨gb172, 0, none⟩ = some (.int .i64 t165) := (blk_cell BK172.out 0).trans rfl
         have hcz28_1 : wc.cell? ⟨gb172, 1, none⟩ = some (.int .i64 t166) := (blk_cell BK172.out 1).trans rfl
         have hcz28_2 : wc.cell? ⟨gb172, 2, none⟩ = some (.string t167) := (blk_cell BK172.out 2).trans rfl
         have hcz28_3 : wc.cell? ⟨gb172, 3, none⟩ = some (.slice Ao16 t168.length co16) := (blk_cell BK172.out 3).trans rfl
         have hfz28_0 := blk_frozen BK172.out 0
         have hfz28_1 := blk_frozen BK172.out 1
         have hfz28_2 := blk_frozen BK172.out 2
         have hfz28_3 := blk_frozen BK172.out 3
         go_wp2_with (first | ((with_reducible refine gate_callee (f := 19) rfl ?_); refine goesL_ (some 40) rfl rfl Tryd.func19 (by kernel_rfl) rfl #[.slice Ao16 t168.length co16, .func (.func 20) #[] #[]] rfl ag ?_; (with_reducible refine (Cf.has20.calls _ _ t168 true _ ?side1 ?side2 A25.out).mono ?_); (case side1 => repeat (first | exact (Kd.R_reads' HO_173003.out).2.2 | (with_reducible refine Kd.C_alloc ?_ _) | (with_reducible refine Kd.C_drewN ?_ _) | (with_reducible refine Kd.C_drew ?_))); (case side2 => exact (Kd.R_reads' HO_173003.out).2.1); rintro e w29 ⟨rfl, hb⟩; refine ⟨_, rfl, ?_⟩; have n0_ := Aside0.mk (Kd.R_below (kR HO_173003.out) hb); have n1_ := Aside0.mk (blk_below (rb BK164.out) hb); have n2_ := Aside0.mk (blk_below (rb BK172.out) hb); have n3_ := Aside0.mk (below_step bb hb); clear HO_173003; clear BK164; clear BK172; clear HB; have HO_173003 := n0_; have BK164 := n1_; have BK172 := n2_; have HB := n3_; clear n0_ n1_ n2_ n3_; (try clear hb); (try clear hb2); (try clear hk); (try clear hi); have hcz30_0 : w29.cell? ⟨gb164, 0, none⟩ = some (.int .i64 0) := (blk_cell BK164.out 0).trans rfl; have hcz30_1 : w29.cell? ⟨gb164, 1, none⟩ = some (.int .i64 0) := (blk_cell BK164.out 1).trans rfl; have hcz30_2 : w29.cell? ⟨gb164, 2, none⟩ = some (.int .i64 0) := (blk_cell BK164.out 2).trans rfl; have hcz30_3 : w29.cell? ⟨gb164, 3, none⟩ = some (.int .i64 0) := (blk_cell BK164.out 3).trans rfl; have hfz30_0 := blk_frozen BK164.out 0; have hfz30_1 := blk_frozen BK164.out 1; have hfz30_2 := blk_frozen BK164.out 2; have hfz30_3 := blk_frozen BK164.out 3))
         refine bodyPost_ret (results_ctt rfl _ _ gb164 23 #[.int .i64 0, .int .i64 0, .int .i64 0, .int .i64 0] (0, 0) _ rfl (rb (blk_put (cs := #[.int .i64 0, .int .i64 0, .int .i64 0, .int .i64 0]) (rb (blk_put (cs := #[.int .i64 0, .int .i64 0, .int .i64 0, .int .i64 0]) (rb (blk_put (cs := #[.int .i64 0, .int .i64 0, .int .i64 0, .int .i64 0]) (rb (blk_put (cs := #[.int .i64 0, .int .i64 0, .int .i64 0, .int .i64 0]) (rb BK164.out) 0 _ rfl)) 1 _ rfl)) 2 _ rfl)) 3 _ rfl)) Tryd.underlying23 rfl (by kernel_rfl)) rfl ?_
         exact ⟨by first | rfl | (simp [errW_none, errW_some] <;> rfl) | (simp only [← hji5]; first | rfl | (simp [errW_none, errW_some] <;> rfl)) | (simp [*, errW_none, errW_some] <;> rfl), bb⟩
        ·replace c26 := Bool.eq_false_iff.mpr c26
         subst c26
         have H1 : (if 2 ≤ (t168.length : Int) then ((Cf.has21.f (t168.take 2)).bind fun t178 => (if t178 = true then (some (0, 0, 0, 0, (⟨#[]⟩ : ByteArray), 4)) else (if 0 < (t168.length : Int) then (if 1 < (t168.length : Int) then (if 2 < (t168.length : Int) then (if 3 < (t168.length : Int) then (if 0 ≤ ji5 then (if ji5 ≤ (a0.size : Int) then (some ((rd_T51 t168 0).f1, (rd_T51 t168 1).f1, (rd_T51 t168 2).f1, (rd_T51 t168 3).f1, a0.extract (ji5 : Int).toNat a0.size, 0)) else (none)) else (none)) else (none)) else (none)) else (none)) else (none)))) else (none)) = some (r1, r2, r3, r4, r5, r6) := by rw [if_neg (show ¬ (false = true) by decide)] at H; exact H
         clear H
         have H := H1
         clear H1
         by_cases c31 : 2 ≤ (t168.length : Int)
         ·rw [if_pos c31] at H
          have c31b0 := eq_true c31
          have c31b1 : decide (2 ≤ (t168.length : Int)) = true := decide_eq_true c31
          clear c31
          obtain ⟨y174, hy174⟩ : ∃ y_ : List (S51), y_ = (t168.take 2) := ⟨_, rfl⟩
          replace H : ((Cf.has21.f y174).bind fun t178 => (if t178 = true then (some (0, 0, 0, 0, (⟨#[]⟩ : ByteArray), 4)) else (if 0 < (t168.length : Int) then (if 1 < (t168.length : Int) then (if 2 < (t168.length : Int) then (if 3 < (t168.length : Int) then (if 0 ≤ ji5 then (if ji5 ≤ (a0.size : Int) then (some ((rd_T51 t168 0).f1, (rd_T51 t168 1).f1, (rd_T51 t168 2).f1, (rd_T51 t168 3).f1, a0.extract (ji5 : Int).toNat a0.size, 0)) else (none)) else (none)) else (none)) else (none)) else (none)) else (none)))) = some (r1, r2, r3, r4, r5, r6) := by first | (rw [hy174]; with_reducible exact H) | (have H2_ := (Option.bind_some _ _).symm.trans H; rw [hy174]; with_reducible exact H2_) | (have H2_ := (Option.bind_some _ _).symm.trans H; with_reducible exact H2_) | with_reducible exact H | (rw [hy174]; exact H) | exact H
          have Ny174 := Aside0.mk hy174
          clear hy174
          replace H := Option.bind_eq_some_iff.mp H
          obtain ⟨t178, A320, H⟩ := H
          replace H : (if t178 = true then (some (0, 0, 0, 0, (⟨#[]⟩ : ByteArray), 4)) else (if 0 < (t168.length : Int) then (if 1 < (t168.length : Int) then (if 2 < (t168.length : Int) then (if 3 < (t168.length : Int) then (if 0 ≤ ji5 then (if ji5 ≤ (a0.size : Int) then (some ((rd_T51 t168 0).f1, (rd_T51 t168 1).f1, (rd_T51 t168 2).f1, (rd_T51 t168 3).f1, a0.extract (ji5 : Int).toNat a0.size, 0)) else (none)) else (none)) else (none)) else (none)) else (none)) else (none))) = some (r1, r2, r3, r4, r5, r6) := H
          have A32 := Aside0.mk A320
          clear A320
          by_cases c33 : t178 = true
          ·subst c33
           have H1 : (some (0, 0, 0, 0, (⟨#[]⟩ : ByteArray), 4)) = some (r1, r2, r3, r4, r5, r6) := by rw [if_pos rfl] at H; exact H
           clear H
           have H := H1
           clear H1
           simp only [Option.some.injEq, Prod.mk.injEq] at H
           obtain ⟨rfl, rfl, rfl, rfl, rfl, rfl⟩ := H
           have hnb34 := NB172_164.out
           have hnc34 := NB164_172.out
           have hcz35_0 : wc.cell? ⟨gb172, 0, none⟩ = some (.int .i64 t165) := (blk_cell BK172.out 0).trans rfl
           have hcz35_1 : wc.cell? ⟨gb172, 1, none⟩ = some (.int .i64 t166) := (blk_cell BK172.out 1).trans rfl
           have hcz35_2 : wc.cell? ⟨gb172, 2, none⟩ = some (.string t167) := (blk_cell BK172.out 2).trans rfl
           have hcz35_3 : wc.cell? ⟨gb172, 3, none⟩ = some (.slice Ao16 t168.length co16) := (blk_cell BK172.out 3).trans rfl
           have hfz35_0 := blk_frozen BK172.out 0
           have hfz35_1 := blk_frozen BK172.out 1
           have hfz35_2 := blk_frozen BK172.out 2
           have hfz35_3 := blk_frozen BK172.out 3
           go_wp2_with (first | ((with_reducible refine gate_callee (f := 19) rfl ?_); refine goesL_ (some 40) rfl rfl Tryd.func19 (by kernel_rfl) rfl #[.slice Ao16 t168.length co16, .func (.func 20) #[] #[]] rfl ag ?_; (with_reducible refine (Cf.has20.calls _ _ t168 false _ ?side1 ?side2 A25.out).mono ?_); (case side1 => repeat (first | exact (Kd.R_reads' HO_173003.out).2.2 | (with_reducible refine Kd.C_alloc ?_ _) | (with_reducible refine Kd.C_drewN ?_ _) | (with_reducible refine Kd.C_drew ?_))); (case side2 => exact (Kd.R_reads' HO_173003.out).2.1); rintro e w36 ⟨rfl, hb⟩; refine ⟨_, rfl, ?_⟩; have n0_ := Aside0.mk (Kd.R_below (kR HO_173003.out) hb); have n1_ := Aside0.mk (blk_below (rb BK164.out) hb); have n2_ := Aside0.mk (blk_below (rb BK172.out) hb); have n3_ := Aside0.mk (below_step bb hb); clear HO_173003; clear BK164; clear BK172; clear HB; have HO_173003 := n0_; have BK164 := n1_; have BK172 := n2_; have HB := n3_; clear n0_ n1_ n2_ n3_; (try clear hb); (try clear hb2); (try clear hk); (try clear hi); have hcz37_0 : w36.cell? ⟨gb172, 0, none⟩ = some (.int .i64 t165) := (blk_cell BK172.out 0).trans rfl; have hcz37_1 : w36.cell? ⟨gb172, 1, none⟩ = some (.int .i64 t166) := (blk_cell BK172.out 1).trans rfl; have hcz37_2 : w36.cell? ⟨gb172, 2, none⟩ = some (.string t167) := (blk_cell BK172.out 2).trans rfl; have hcz37_3 : w36.cell? ⟨gb172, 3, none⟩ = some (.slice Ao16 t168.length co16) := (blk_cell BK172.out 3).trans rfl; have hfz37_0 := blk_frozen BK172.out 0; have hfz37_1 := blk_frozen BK172.out 1; have hfz37_2 := blk_frozen BK172.out 2; have hfz37_3 := blk_frozen BK172.out 3; have q38 : (2 : Int) ≤ ((t168.length : Int) : Int) := of_decide_eq_true (by first | (with_reducible assumption) | assumption); obtain ⟨i038, hi038, _, hsz38, _⟩ := info_parts info51; have hroom38 : t168.length ≤ co16 := (Kd.R_reads' HO_173003.out).2.1; have hC38 : Kd.C k51 _ Ao16 t168.length t168 := (Kd.R_reads' HO_173003.out).2.2; have hcut38 := cut_to (P := Tryd.prog) 49 51 .i64 Tryd.underlying49 hi038 Ao16 t168.length co16 2 (by omega) q38 hroom38; have hr38 := Kd.C_take (m := 2) hC38 (by omega); have hy38 : y174.length = (2 : Int).toNat := (by rw [Ny174.out, List.length_take]; omega); rw [← Ny174.out] at hr38; rw [← hy38] at hcut38; have HR177 := Aside0.mk hr38; have HC177 := Aside0.mk (show y174.length ≤ co16 from by omega); clear hr38 hC38 hroom38 hi038 hsz38; have KY38 := Aside0.mk hy38; clear hy38; have KL38 := Aside0.mk (show 2 ≤ t168.length from by omega); replace q38 := eq_true q38) | ((with_reducible refine gate_callee (f := 19) rfl ?_); refine goesL_ (some 46) rfl rfl Tryd.func19 (by kernel_rfl) rfl #[.slice Ao16 y174.length co16, .func (.func 21) #[] #[]] rfl ag ?_; (with_reducible refine (Cf.has21.calls _ _ y174 true _ ?side1 ?side2 A32.out).mono ?_); (case side1 => repeat (first | exact (by repeat (first | (with_reducible exact HR177.out) | (with_reducible refine Kd.C_alloc ?_ _) | (with_reducible refine Kd.C_drewN ?_ _) | (with_reducible refine Kd.C_drew ?_) | exact HR177.out)) | (with_reducible refine Kd.C_alloc ?_ _) | (with_reducible refine Kd.C_drewN ?_ _) | (with_reducible refine Kd.C_drew ?_))); (case side2 => exact HC177.out); rintro e w39 ⟨rfl, hb⟩; refine ⟨_, rfl, ?_⟩; have n0_ := Aside0.mk (Kd.R_below (kR HO_173003.out) hb); have n1_ := Aside0.mk (blk_below (rb BK164.out) hb); have n2_ := Aside0.mk (blk_below (rb BK172.out) hb); have n3_ := Aside0.mk (Kd.C_below (by repeat (first | (with_reducible exact HR177.out) | (with_reducible refine Kd.C_alloc ?_ _) | (with_reducible refine Kd.C_drewN ?_ _) | (with_reducible refine Kd.C_drew ?_) | exact HR177.out)) hb); have n4_ := Aside0.mk (below_step bb hb); clear HO_173003; clear BK164; clear BK172; clear HR177; clear HB; have HO_173003 := n0_; have BK164 := n1_; have BK172 := n2_; have HR177 := n3_; have HB := n4_; clear n0_ n1_ n2_ n3_ n4_; (try clear hb); (try clear hb2); (try clear hk); (try clear hi); have hcz40_0 : w39.cell? ⟨gb164, 0, none⟩ = some (.int .i64 0) := (blk_cell BK164.out 0).trans rfl; have hcz40_1 : w39.cell? ⟨gb164, 1, none⟩ = some (.int .i64 0) := (blk_cell BK164.out 1).trans rfl; have hcz40_2 : w39.cell? ⟨gb164, 2, none⟩ = some (.int .i64 0) := (blk_cell BK164.out 2).trans rfl; have hcz40_3 : w39.cell? ⟨gb164, 3, none⟩ = some (.int .i64 0) := (blk_cell BK164.out 3).trans rfl; have hfz40_0 := blk_frozen BK164.out 0; have hfz40_1 := blk_frozen BK164.out 1; have hfz40_2 := blk_frozen BK164.out 2; have hfz40_3 := blk_frozen BK164.out 3))
           refine bodyPost_ret (results_ctt rfl _ _ gb164 23 #[.int .i64 0, .int .i64 0, .int .i64 0, .int .i64 0] (0, 0) _ rfl (rb (blk_put (cs := #[.int .i64 0, .int .i64 0, .int .i64 0, .int .i64 0]) (rb (blk_put (cs := #[.int .i64 0, .int .i64 0, .int .i64 0, .int .i64 0]) (rb (blk_put (cs := #[.int .i64 0, .int .i64 0, .int .i64 0, .int .i64 0]) (rb (blk_put (cs := #[.int .i64 0, .int .i64 0, .int .i64 0, .int .i64 0]) (rb BK164.out) 0 _ rfl)) 1 _ rfl)) 2 _ rfl)) 3 _ rfl)) Tryd.underlying23 rfl (by kernel_rfl)) rfl ?_
           exact ⟨by first | rfl | (simp [errW_none, errW_some] <;> rfl) | (simp only [← hji5]; first | rfl | (simp [errW_none, errW_some] <;> rfl)) | (simp [*, errW_none, errW_some] <;> rfl), bb⟩
          ·replace c33 := Bool.eq_false_iff.mpr c33
           subst c33
           have H1 : (if 0 < (t168.length : Int) then (if 1 < (t168.length : Int) then (if 2 < (t168.length : Int) then (if 3 < (t168.length : Int) then (if 0 ≤ ji5 then (if ji5 ≤ (a0.size : Int) then (some ((rd_T51 t168 0).f1, (rd_T51 t168 1).f1, (rd_T51 t168 2).f1, (rd_T51 t168 3).f1, a0.extract (ji5 : Int).toNat a0.size, 0)) else (none)) else (none)) else (none)) else (none)) else (none)) else (none)) = some (r1, r2, r3, r4, r5, r6) := by rw [if_neg (show ¬ (false = true) by decide)] at H; exact H
           clear H
           have H := H1
           clear H1
           by_cases c41 : 0 < (t168.length : Int)
           ·rw [if_pos c41] at H
            have c41b0 : decide (0 < (t168.length : Int)) = true := decide_eq_true c41
            have c41b1 : decide (0 < t168.length) = true := decide_eq_true (by omega)
            clear c41
            by_cases c42 : 1 < (t168.length : Int)
            ·rw [if_pos c42] at H
             have c42b0 : decide (1 < (t168.length : Int)) = true := decide_eq_true c42
             have c42b1 : decide (1 < t168.length) = true := decide_eq_true (by omega)
             clear c42
             by_cases c43 : 2 < (t168.length : Int)
             ·rw [if_pos c43] at H
              have c43b0 : decide (2 < (t168.length : Int)) = true := decide_eq_true c43
              have c43b1 : decide (2 < t168.length) = true := decide_eq_true (by omega)
              clear c43
              by_cases c44 : 3 < (t168.length : Int)
              ·rw [if_pos c44] at H
               have c44b0 : decide (3 < (t168.length : Int)) = true := decide_eq_true c44
               have c44b1 : decide (3 < t168.length) = true := decide_eq_true (by omega)
               clear c44
               by_cases c45 : 0 ≤ ji5
               ·rw [if_pos c45] at H
                have c45b0 := eq_true c45
                have c45b1 : decide (0 ≤ ji5) = true := decide_eq_true c45
                clear c45
                by_cases c46 : ji5 ≤ (a0.size : Int)
                ·rw [if_pos c46] at H
                 have c46b0 := eq_true c46
                 have c46b1 : decide (ji5 ≤ (a0.size : Int)) = true := decide_eq_true c46
                 clear c46
                 simp only [Option.some.injEq, Prod.mk.injEq] at H
                 obtain ⟨rfl, rfl, rfl, rfl, rfl, rfl⟩ := H
                 have hnb47 := NB172_164.out
                 have hnc47 := NB164_172.out
                 have hcz48_0 : wc.cell? ⟨gb172, 0, none⟩ = some (.int .i64 t165) := (blk_cell BK172.out 0).trans rfl
                 have hcz48_1 : wc.cell? ⟨gb172, 1, none⟩ = some (.int .i64 t166) := (blk_cell BK172.out 1).trans rfl
                 have hcz48_2 : wc.cell? ⟨gb172, 2, none⟩ = some (.string t167) := (blk_cell BK172.out 2).trans rfl
                 have hcz48_3 : wc.cell? ⟨gb172, 3, none⟩ = some (.slice Ao16 t168.length co16) := (blk_cell BK172.out 3).trans rfl
                 have hfz48_0 := blk_frozen BK172.out 0
                 have hfz48_1 := blk_frozen BK172.out 1
                 have hfz48_2 := blk_frozen BK172.out 2
                 have hfz48_3 := blk_frozen BK172.out 3
                 try go_wp2_with (first | ((with_reducible refine gate_callee (f := 19) rfl ?_); refine goesL_ (some 40) rfl rfl Tryd.func19 (by kernel_rfl) rfl #[.slice Ao16 t168.length co16, .func (.func 20) #[] #[]] rfl ag ?_; (with_reducible refine (Cf.has20.calls _ _ t168 false _ ?side1 ?side2 A25.out).mono ?_); (case side1 => repeat (first | exact (Kd.R_reads' HO_173003.out).2.2 | (with_reducible refine Kd.C_alloc ?_ _) | (with_reducible refine Kd.C_drewN ?_ _) | (with_reducible refine Kd.C_drew ?_))); (case side2 => exact (Kd.R_reads' HO_173003.out).2.1); rintro e w49 ⟨rfl, hb⟩; refine ⟨_, rfl, ?_⟩; have n0_ := Aside0.mk (Kd.R_below (kR HO_173003.out) hb); have n1_ := Aside0.mk (blk_below (rb BK164.out) hb); have n2_ := Aside0.mk (blk_below (rb BK172.out) hb); have n3_ := Aside0.mk (below_step bb hb); clear HO_173003; clear BK164; clear BK172; clear HB; have HO_173003 := n0_; have BK164 := n1_; have BK172 := n2_; have HB := n3_; clear n0_ n1_ n2_ n3_; (try clear hb); (try clear hb2); (try clear hk); (try clear hi); have hcz50_0 : w49.cell? ⟨gb172, 0, none⟩ = some (.int .i64 t165) := (blk_cell BK172.out 0).trans rfl; have hcz50_1 : w49.cell? ⟨gb172, 1, none⟩ = some (.int .i64 t166) := (blk_cell BK172.out 1).trans rfl; have hcz50_2 : w49.cell? ⟨gb172, 2, none⟩ = some (.string t167) := (blk_cell BK172.out 2).trans rfl; have hcz50_3 : w49.cell? ⟨gb172, 3, none⟩ = some (.slice Ao16 t168.length co16) := (blk_cell BK172.out 3).trans rfl; have hfz50_0 := blk_frozen BK172.out 0; have hfz50_1 := blk_frozen BK172.out 1; have hfz50_2 := blk_frozen BK172.out 2; have hfz50_3 := blk_frozen BK172.out 3; have q51 : (2 : Int) ≤ ((t168.length : Int) : Int) := of_decide_eq_true (by first | (with_reducible assumption) | assumption); obtain ⟨i051, hi051, _, hsz51, _⟩ := info_parts info51; have hroom51 : t168.length ≤ co16 := (Kd.R_reads' HO_173003.out).2.1; have hC51 : Kd.C k51 _ Ao16 t168.length t168 := (Kd.R_reads' HO_173003.out).2.2; have hcut51 := cut_to (P := Tryd.prog) 49 51 .i64 Tryd.underlying49 hi051 Ao16 t168.length co16 2 (by omega) q51 hroom51; have hr51 := Kd.C_take (m := 2) hC51 (by omega); have hy51 : y174.length = (2 : Int).toNat := (by rw [Ny174.out, List.length_take]; omega); rw [← Ny174.out] at hr51; rw [← hy51] at hcut51; have HR177 := Aside0.mk hr51; have HC177 := Aside0.mk (show y174.length ≤ co16 from by omega); clear hr51 hC51 hroom51 hi051 hsz51; have KY51 := Aside0.mk hy51; clear hy51; have KL51 := Aside0.mk (show 2 ≤ t168.length from by omega); replace q51 := eq_true q51) | ((with_reducible refine gate_callee (f := 19) rfl ?_); refine goesL_ (some 46) rfl rfl Tryd.func19 (by kernel_rfl) rfl #[.slice Ao16 y174.length co16, .func (.func 21) #[] #[]] rfl ag ?_; (with_reducible refine (Cf.has21.calls _ _ y174 false _ ?side1 ?side2 A32.out).mono ?_); (case side1 => repeat (first | exact (by repeat (first | (with_reducible exact HR177.out) | (with_reducible refine Kd.C_alloc ?_ _) | (with_reducible refine Kd.C_drewN ?_ _) | (with_reducible refine Kd.C_drew ?_) | exact HR177.out)) | (with_reducible refine Kd.C_alloc ?_ _) | (with_reducible refine Kd.C_drewN ?_ _) | (with_reducible refine Kd.C_drew ?_))); (case side2 => exact HC177.out); rintro e w52 ⟨rfl, hb⟩; refine ⟨_, rfl, ?_⟩; have n0_ := Aside0.mk (Kd.R_below (kR HO_173003.out) hb); have n1_ := Aside0.mk (blk_below (rb BK164.out) hb); have n2_ := Aside0.mk (blk_below (rb BK172.out) hb); have n3_ := Aside0.mk (Kd.C_below (by repeat (first | (with_reducible exact HR177.out) | (with_reducible refine Kd.C_alloc ?_ _) | (with_reducible refine Kd.C_drewN ?_ _) | (with_reducible refine Kd.C_drew ?_) | exact HR177.out)) hb); have n4_ := Aside0.mk (below_step bb hb); clear HO_173003; clear BK164; clear BK172; clear HR177; clear HB; have HO_173003 := n0_; have BK164 := n1_; have BK172 := n2_; have HR177 := n3_; have HB := n4_; clear n0_ n1_ n2_ n3_ n4_; (try clear hb); (try clear hb2); (try clear hk); (try clear hi)))
                 have n0_ := Aside0.mk (Kd.R_drew HO_173003.out)
                 have n1_ := Aside0.mk (blk_drew BK164.out)
                 have n2_ := Aside0.mk (blk_drew BK172.out)
                 have n3_ := Aside0.mk (Kd.C_drew HR177.out)
                 have n4_ := Aside0.mk (below_drew1 HB.out)
                 clear HO_173003
                 clear BK164
                 clear BK172
                 clear HR177
                 clear HB
                 have HO_173003 := n0_
                 have BK164 := n1_
                 have BK172 := n2_
                 have HR177 := n3_
                 have HB := n4_
                 clear n0_ n1_ n2_ n3_ n4_
                 have p179 : 0 ≤ (0 : Int) := (by omega)
                 have q179 : 0 < (t168.length : Int) := of_decide_eq_true (by first | (with_reducible assumption) | assumption)
                 obtain ⟨ad179, A179_3, c179_3, e179, hx179_0, hx179_1, hx179_2, hx179_3, hl179_3, hi179_3⟩ := at_T51 (Kd.R_reads' HO_173003.out).2.2 0 p179 q179
                 cases e179
                 obtain ⟨ce179, hce179, hMe179, hcc179⟩ := Kd.R_get HO_173003.out z51 0 p179 (by first | exact q179 | exact of_decide_eq_true (by first | (with_reducible assumption) | assumption) | (have e_ := (Kd.R_reads' HO_173003.out).1; omega))
                 obtain ⟨ve179_3, rfl, ge179_3⟩ := k51_openM hMe179
                 have hv179_3 := hcc179 3 _ rfl
                 rw [add_field _ _ 3 (by omega)] at hv179_3
                 replace hv179_3 := Option.some.inj (hv179_3.symm.trans hx179_3)
                 rw [hv179_3] at ge179_3
                 have HL179_3 := Aside0.mk (show Kd.R k51 51 _ _ _ _ ((rd_T51 t168 0).f3) from ge179_3)
                 clear hv179_3 ge179_3
                 clear hcc179 hce179
                 have qi179 : (0 < t168.length) = True := eq_true (by omega)
                 (try rw [show ((0 : Int)).toNat = 0 from rfl] at hx179_0)
                 (try rw [show 0 * 4 = 0 from rfl] at hx179_0)
                 (try rw [Addr.add_zero'] at hx179_0)
                 (try rw [show ((0 : Int)).toNat = 0 from rfl] at hx179_1)
                 (try rw [show 0 * 4 = 0 from rfl] at hx179_1)
                 (try rw [Addr.add_zero'] at hx179_1)
                 (try rw [show ((0 : Int)).toNat = 0 from rfl] at hx179_2)
                 (try rw [show 0 * 4 = 0 from rfl] at hx179_2)
                 (try rw [Addr.add_zero'] at hx179_2)
                 (try rw [show ((0 : Int)).toNat = 0 from rfl] at hx179_3)
                 (try rw [show 0 * 4 = 0 from rfl] at hx179_3)
                 (try rw [Addr.add_zero'] at hx179_3)
                 have HR179_3 := Aside0.mk hi179_3
                 have HC179_3 := Aside0.mk hl179_3
                 clear hi179_3 hl179_3
                 replace p179 := eq_true p179
                 replace q179 := eq_true q179
                 have p180 : 0 ≤ (1 : Int) := (by omega)
                 have q180 : 1 < (t168.length : Int) := of_decide_eq_true (by first | (with_reducible assumption) | assumption)
                 obtain ⟨ad180, A180_3, c180_3, e180, hx180_0, hx180_1, hx180_2, hx180_3, hl180_3, hi180_3⟩ := at_T51 (Kd.R_reads' HO_173003.out).2.2 1 p180 q180
                 obtain rfl : ad179 = ad180 := (by injection e180)
                 obtain ⟨ce180, hce180, hMe180, hcc180⟩ := Kd.R_get HO_173003.out z51 1 p180 (by first | exact q180 | exact of_decide_eq_true (by first | (with_reducible assumption) | assumption) | (have e_ := (Kd.R_reads' HO_173003.out).1; omega))
                 obtain ⟨ve180_3, rfl, ge180_3⟩ := k51_openM hMe180
                 have hv180_3 := hcc180 3 _ rfl
                 rw [add_field _ _ 3 (by omega)] at hv180_3
                 replace hv180_3 := Option.some.inj (hv180_3.symm.trans hx180_3)
                 rw [hv180_3] at ge180_3
                 have HL180_3 := Aside0.mk (show Kd.R k51 51 _ _ _ _ ((rd_T51 t168 1).f3) from ge180_3)
                 clear hv180_3 ge180_3
                 clear hcc180 hce180
                 (try simp only [show (1 : Int).toNat = 1 from rfl, Nat.reduceMul, Nat.reduceEqDiff, Go.Addr.add, ↓reduceIte] at hx180_0 hx180_1 hx180_2 hx180_3)
                 have qi180 : (1 < t168.length) = True := eq_true (by omega)
                 (try rw [show ((1 : Int)).toNat = 1 from rfl] at hx180_0)
                 (try rw [show 1 * 4 = 4 from rfl] at hx180_0)
                 (try rw [show ((1 : Int)).toNat = 1 from rfl] at hx180_1)
                 (try rw [show 1 * 4 = 4 from rfl] at hx180_1)
                 (try rw [show ((1 : Int)).toNat = 1 from rfl] at hx180_2)
                 (try rw [show 1 * 4 = 4 from rfl] at hx180_2)
                 (try rw [show ((1 : Int)).toNat = 1 from rfl] at hx180_3)
                 (try rw [show 1 * 4 = 4 from rfl] at hx180_3)
                 have HR180_3 := Aside0.mk hi180_3
                 have HC180_3 := Aside0.mk hl180_3
                 clear hi180_3 hl180_3
                 replace p180 := eq_true p180
                 replace q180 := eq_true q180
                 have p181 : 0 ≤ (2 : Int) := (by omega)
                 have q181 : 2 < (t168.length : Int) := of_decide_eq_true (by first | (with_reducible assumption) | assumption)
                 obtain ⟨ad181, A181_3, c181_3, e181, hx181_0, hx181_1, hx181_2, hx181_3, hl181_3, hi181_3⟩ := at_T51 (Kd.R_reads' HO_173003.out).2.2 2 p181 q181
                 obtain rfl : ad179 = ad181 := (by injection e181)
                 obtain ⟨ce181, hce181, hMe181, hcc181⟩ := Kd.R_get HO_173003.out z51 2 p181 (by first | exact q181 | exact of_decide_eq_true (by first | (with_reducible assumption) | assumption) | (have e_ := (Kd.R_reads' HO_173003.out).1; omega))
                 obtain ⟨ve181_3, rfl, ge181_3⟩ := k51_openM hMe181
                 have hv181_3 := hcc181 3 _ rfl
                 rw [add_field _ _ 3 (by omega)] at hv181_3
                 replace hv181_3 := Option.some.inj (hv181_3.symm.trans hx181_3)
                 rw [hv181_3] at ge181_3
                 have HL181_3 := Aside0.mk (show Kd.R k51 51 _ _ _ _ ((rd_T51 t168 2).f3) from ge181_3)
                 clear hv181_3 ge181_3
                 clear hcc181 hce181
                 (try simp only [show (2 : Int).toNat = 2 from rfl, Nat.reduceMul, Nat.reduceEqDiff, Go.Addr.add, ↓reduceIte] at hx181_0 hx181_1 hx181_2 hx181_3)
                 have qi181 : (2 < t168.length) = True := eq_true (by omega)
                 (try rw [show ((2 : Int)).toNat = 2 from rfl] at hx181_0)
                 (try rw [show 2 * 4 = 8 from rfl] at hx181_0)
                 (try rw [show ((2 : Int)).toNat = 2 from rfl] at hx181_1)
                 (try rw [show 2 * 4 = 8 from rfl] at hx181_1)
                 (try rw [show ((2 : Int)).toNat = 2 from rfl] at hx181_2)
                 (try rw [show 2 * 4 = 8 from rfl] at hx181_2)
                 (try rw [show ((2 : Int)).toNat = 2 from rfl] at hx181_3)
                 (try rw [show 2 * 4 = 8 from rfl] at hx181_3)
                 have HR181_3 := Aside0.mk hi181_3
                 have HC181_3 := Aside0.mk hl181_3
                 clear hi181_3 hl181_3
                 replace p181 := eq_true p181
                 replace q181 := eq_true q181
                 have p182 : 0 ≤ (3 : Int) := (by omega)
                 have q182 : 3 < (t168.length : Int) := of_decide_eq_true (by first | (with_reducible assumption) | assumption)
                 obtain ⟨ad182, A182_3, c182_3, e182, hx182_0, hx182_1, hx182_2, hx182_3, hl182_3, hi182_3⟩ := at_T51 (Kd.R_reads' HO_173003.out).2.2 3 p182 q182
                 obtain rfl : ad179 = ad182 := (by injection e182)
                 obtain ⟨ce182, hce182, hMe182, hcc182⟩ := Kd.R_get HO_173003.out z51 3 p182 (by first | exact q182 | exact of_decide_eq_true (by first | (with_reducible assumption) | assumption) | (have e_ := (Kd.R_reads' HO_173003.out).1; omega))
                 obtain ⟨ve182_3, rfl, ge182_3⟩ := k51_openM hMe182
                 have hv182_3 := hcc182 3 _ rfl
                 rw [add_field _ _ 3 (by omega)] at hv182_3
                 replace hv182_3 := Option.some.inj (hv182_3.symm.trans hx182_3)
                 rw [hv182_3] at ge182_3
                 have HL182_3 := Aside0.mk (show Kd.R k51 51 _ _ _ _ ((rd_T51 t168 3).f3) from ge182_3)
                 clear hv182_3 ge182_3
                 clear hcc182 hce182
                 (try simp only [show (3 : Int).toNat = 3 from rfl, Nat.reduceMul, Nat.reduceEqDiff, Go.Addr.add, ↓reduceIte] at hx182_0 hx182_1 hx182_2 hx182_3)
                 have qi182 : (3 < t168.length) = True := eq_true (by omega)
                 (try rw [show ((3 : Int)).toNat = 3 from rfl] at hx182_0)
                 (try rw [show 3 * 4 = 12 from rfl] at hx182_0)
                 (try rw [show ((3 : Int)).toNat = 3 from rfl] at hx182_1)
                 (try rw [show 3 * 4 = 12 from rfl] at hx182_1)
                 (try rw [show ((3 : Int)).toNat = 3 from rfl] at hx182_2)
                 (try rw [show 3 * 4 = 12 from rfl] at hx182_2)
                 (try rw [show ((3 : Int)).toNat = 3 from rfl] at hx182_3)
                 (try rw [show 3 * 4 = 12 from rfl] at hx182_3)
                 have HR182_3 := Aside0.mk hi182_3
                 have HC182_3 := Aside0.mk hl182_3
                 clear hi182_3 hl182_3
                 replace p182 := eq_true p182
                 replace q182 := eq_true q182
                 refine start_ (n := 27) (S := fun w' => w'.cell? ⟨gb172, 0, none⟩ = some (.int .i64 t165) ∧ w'.cell? ⟨gb172, 1, none⟩ = some (.int .i64 t166) ∧ w'.cell? ⟨gb172, 2, none⟩ = some (.string t167) ∧ w'.cell? ⟨gb172, 3, none⟩ = some (.slice (some ad179) t168.length co16) ∧ w'.cell? ad179 = some (.int .i64 ((rd_T51 t168 0).f0)) ∧ w'.cell? ⟨ad179.block, ad179.off + 1, none⟩ = some (.int .i64 ((rd_T51 t168 0).f1)) ∧ w'.cell? ⟨ad179.block, ad179.off + 2, none⟩ = some (.string ((rd_T51 t168 0).f2)) ∧ w'.cell? ⟨ad179.block, ad179.off + 3, none⟩ = some (.slice A179_3 ((rd_T51 t168 0).f3).length c179_3) ∧ w'.cell? ⟨ad179.block, ad179.off + 4, none⟩ = some (.int .i64 ((rd_T51 t168 1).f0)) ∧ w'.cell? ⟨ad179.block, ad179.off + 4 + 1, none⟩ = some (.int .i64 ((rd_T51 t168 1).f1)) ∧ w'.cell? ⟨ad179.block, ad179.off + 4 + 2, none⟩ = some (.string ((rd_T51 t168 1).f2)) ∧ w'.cell? ⟨ad179.block, ad179.off + 4 + 3, none⟩ = some (.slice A180_3 ((rd_T51 t168 1).f3).length c180_3) ∧ w'.cell? ⟨ad179.block, ad179.off + 8, none⟩ = some (.int .i64 ((rd_T51 t168 2).f0)) ∧ w'.cell? ⟨ad179.block, ad179.off + 8 + 1, none⟩ = some (.int .i64 ((rd_T51 t168 2).f1)) ∧ w'.cell? ⟨ad179.block, ad179.off + 8 + 2, none⟩ = some (.string ((rd_T51 t168 2).f2)) ∧ w'.cell? ⟨ad179.block, ad179.off + 8 + 3, none⟩ = some (.slice A181_3 ((rd_T51 t168 2).f3).length c181_3) ∧ w'.cell? ⟨ad179.block, ad179.off + 12, none⟩ = some (.int .i64 ((rd_T51 t168 3).f0)) ∧ w'.cell? ⟨ad179.block, ad179.off + 12 + 1, none⟩ = some (.int .i64 ((rd_T51 t168 3).f1)) ∧ w'.cell? ⟨ad179.block, ad179.off + 12 + 2, none⟩ = some (.string ((rd_T51 t168 3).f2)) ∧ w'.cell? ⟨ad179.block, ad179.off + 12 + 3, none⟩ = some (.slice A182_3 ((rd_T51 t168 3).f3).length c182_3)) (ds := []) #[false, false, false, false, false, false, false, false, false, false, false, false, false, false, false, false, false, false, false, false, false, false, false, false, false, false, false] (by kernel_rfl) rfl rfl ⟨(blk_cell BK172.out 0).trans rfl, (blk_cell BK172.out 1).trans rfl, (blk_cell BK172.out 2).trans rfl, (blk_cell BK172.out 3).trans rfl, hx179_0, hx179_1, hx179_2, hx179_3, hx180_0, hx180_1, hx180_2, hx180_3, hx181_0, hx181_1, hx181_2, hx181_3, hx182_0, hx182_1, hx182_2, hx182_3⟩ (fun hHeld => ?_); refine with_tabW token_Parse.tab13 token_Parse.bits13 (fun HT_ HW_ => ?_)
                 generalize w52.drew = w53 at HO_173003 BK164 BK172 HR177 HB HL179_3 HL180_3 HL181_3 HL182_3 HR179_3 HR180_3 HR181_3 HR182_3 hx179_0 hx179_1 hx179_2 hx179_3 hx180_0 hx180_1 hx180_2 hx180_3 hx181_0 hx181_1 hx181_2 hx181_3 hx182_0 hx182_1 hx182_2 hx182_3 hHeld ⊢
                 refine pure_ (i := 0) (N := some 48) (v := ?_) (a' := ?_) #[true, false, false, false, false, false, false, false, false, false, false, false, false, false, false, false, false, false, false, false, false, false, false, false, false, false, false] rfl rfl (any_of HT_.out (by kernel_rfl)) (fun _ _ _ h => h) (Or.inl ⟨by rfl, ?_⟩) ?_ ?_
                 rotate_left
                 ·intro w'
                  go_simp
                  with_reducible rfl
                 rotate_left
                 ·simp only [Act.put, List.setIfInBounds_toArray, List.set_cons_zero, List.set_cons_succ, i64_w, i32_w]
                  rfl
                 refine pure_ (i := 5) (N := some 53) (v := ?_) (a' := ?_) #[true, false, false, false, false, true, false, false, false, false, false, false, false, false, false, false, false, false, false, false, false, false, false, false, false, false, false] rfl rfl (any_of HT_.out (by kernel_rfl)) (fun _ _ _ h => h) (Or.inl ⟨by rfl, ?_⟩) ?_ ?_
                 rotate_left
                 ·intro w'
                  go_simp
                  with_reducible rfl
                 rotate_left
                 ·simp only [Act.put, List.setIfInBounds_toArray, List.set_cons_zero, List.set_cons_succ, i64_w, i32_w]
                  rfl
                 refine pure_ (i := 10) (N := some 58) (v := ?_) (a' := ?_) #[true, false, false, false, false, true, false, false, false, false, true, false, false, false, false, false, false, false, false, false, false, false, false, false, false, false, false] rfl rfl (any_of HT_.out (by kernel_rfl)) (fun _ _ _ h => h) (Or.inl ⟨by rfl, ?_⟩) ?_ ?_
                 rotate_left
                 ·intro w'
                  go_simp
                  with_reducible rfl
                 rotate_left
                 ·simp only [Act.put, List.setIfInBounds_toArray, List.set_cons_zero, List.set_cons_succ, i64_w, i32_w]
                  rfl
                 refine pure_ (i := 15) (N := some 63) (v := ?_) (a' := ?_) #[true, false, false, false, false, true, false, false, false, false, true, false, false, false, false, true, false, false, false, false, false, false, false, false, false, false, false] rfl rfl (any_of HT_.out (by kernel_rfl)) (fun _ _ _ h => h) (Or.inl ⟨by rfl, ?_⟩) ?_ ?_
                 rotate_left
                 ·intro w'
                  go_simp
                  with_reducible rfl
                 rotate_left
                 ·simp only [Act.put, List.setIfInBounds_toArray, List.set_cons_zero, List.set_cons_succ, i64_w, i32_w]
                  rfl
                 refine pure_ (i := 21) (N := some 69) (v := ?_) (a' := ?_) #[true, false, false, false, false, true, false, false, false, false, true, false, false, false, false, true, false, false, false, false, false, true, false, false, false, false, false] rfl rfl (any_of HT_.out (by kernel_rfl)) (fun _ _ _ h => h) (Or.inl ⟨by rfl, ?_⟩) ?_ ?_
                 rotate_left
                 ·intro w'
                  go_simp
                  with_reducible rfl
                 rotate_left
                 ·simp only [Act.put, List.setIfInBounds_toArray, List.set_cons_zero, List.set_cons_succ, i64_w, i32_w]
                  rfl
                 refine pure_ (i := 22) (N := some 70) (v := ?_) (a' := ?_) #[true, false, false, false, false, true, false, false, false, false, true, false, false, false, false, true, false, false, false, false, false, true, true, false, false, false, false] rfl rfl (any_of HT_.out (by kernel_rfl)) (fun _ _ _ h => h) (Or.inl ⟨by rfl, ?_⟩) ?_ ?_
                 rotate_left
                 ·intro w'
                  go_simp
                  with_reducible rfl
                 rotate_left
                 ·simp only [Act.put, List.setIfInBounds_toArray, List.set_cons_zero, List.set_cons_succ, i64_w, i32_w]
                  rfl
                 refine pure_ (i := 23) (N := some 71) (v := ?_) (a' := ?_) #[true, false, false, false, false, true, false, false, false, false, true, false, false, false, false, true, false, false, false, false, false, true, true, true, false, false, false] rfl rfl (any_of HT_.out (by kernel_rfl)) (fun _ _ _ h => h) (Or.inl ⟨by rfl, ?_⟩) ?_ ?_
                 rotate_left
                 ·intro w'
                  go_simp
                  with_reducible rfl
                 rotate_left
                 ·simp only [Act.put, List.setIfInBounds_toArray, List.set_cons_zero, List.set_cons_succ, i64_w, i32_w]
                  rfl
                 refine take_ (i := 1) (N := some 49) (v := ?_) (a' := ?_) #[true, true, false, false, false, true, false, false, false, false, true, false, false, false, false, true, false, false, false, false, false, true, true, true, false, false, false] rfl rfl (take_ofW HT_.out HW_.out (by kernel_rfl)) (fun _ _ _ h => h) (Or.inl ⟨by rfl, ?_⟩) hHeld ?_ ?_
                 rotate_left
                 ·rintro w' ⟨s0, s1, s2, s3, s4, s5, s6, s7, s8, s9, s10, s11, s12, s13, s14, s15, s16, s17, s18, s19⟩
                  go_simp
                  with_reducible rfl
                 rotate_left
                 ·simp only [Act.put, List.setIfInBounds_toArray, List.set_cons_zero, List.set_cons_succ, i64_w, i32_w]
                  rfl
                 refine pure_ (i := 2) (N := some 50) (v := ?_) (a' := ?_) #[true, true, true, false, false, true, false, false, false, false, true, false, false, false, false, true, false, false, false, false, false, true, true, true, false, false, false] rfl rfl (any_of HT_.out (by kernel_rfl)) (fun _ _ _ h => h) (Or.inl ⟨by rfl, ?_⟩) ?_ ?_
                 rotate_left
                 ·intro w'
                  go_simp
                  with_reducible rfl
                 rotate_left
                 ·simp only [Act.put, List.setIfInBounds_toArray, List.set_cons_zero, List.set_cons_succ, i64_w, i32_w]
                  rfl
                 refine pure_ (i := 3) (N := some 51) (v := ?_) (a' := ?_) #[true, true, true, true, false, true, false, false, false, false, true, false, false, false, false, true, false, false, false, false, false, true, true, true, false, false, false] rfl rfl (any_of HT_.out (by kernel_rfl)) (fun _ _ _ h => h) (Or.inl ⟨by rfl, ?_⟩) ?_ ?_
                 rotate_left
                 ·intro w'
                  go_simp
                  with_reducible rfl
                 rotate_left
                 ·simp only [Act.put, List.setIfInBounds_toArray, List.set_cons_zero, List.set_cons_succ, i64_w, i32_w]
                  rfl
                 refine take_ (i := 4) (N := some 52) (v := ?_) (a' := ?_) #[true, true, true, true, true, true, false, false, false, false, true, false, false, false, false, true, false, false, false, false, false, true, true, true, false, false, false] rfl rfl (take_ofW HT_.out HW_.out (by kernel_rfl)) (fun _ _ _ h => h) (Or.inl ⟨by rfl, ?_⟩) hHeld ?_ ?_
                 rotate_left
                 ·rintro w' ⟨s0, s1, s2, s3, s4, s5, s6, s7, s8, s9, s10, s11, s12, s13, s14, s15, s16, s17, s18, s19⟩
                  go_simp
                  with_reducible rfl
                 rotate_left
                 ·simp only [Act.put, List.setIfInBounds_toArray, List.set_cons_zero, List.set_cons_succ, i64_w, i32_w]
                  rfl
                 refine take_ (i := 6) (N := some 54) (v := ?_) (a' := ?_) #[true, true, true, true, true, true, true, false, false, false, true, false, false, false, false, true, false, false, false, false, false, true, true, true, false, false, false] rfl rfl (take_ofW HT_.out HW_.out (by kernel_rfl)) (fun _ _ _ h => h) (Or.inl ⟨by rfl, ?_⟩) hHeld ?_ ?_
                 rotate_left
                 ·rintro w' ⟨s0, s1, s2, s3, s4, s5, s6, s7, s8, s9, s10, s11, s12, s13, s14, s15, s16, s17, s18, s19⟩
                  go_simp
                  with_reducible rfl
                 rotate_left
                 ·simp only [Act.put, List.setIfInBounds_toArray, List.set_cons_zero, List.set_cons_succ, i64_w, i32_w]
                  rfl
                 refine pure_ (i := 7) (N := some 55) (v := ?_) (a' := ?_) #[true, true, true, true, true, true, true, true, false, false, true, false, false, false, false, true, false, false, false, false, false, true, true, true, false, false, false] rfl rfl (any_of HT_.out (by kernel_rfl)) (fun _ _ _ h => h) (Or.inl ⟨by rfl, ?_⟩) ?_ ?_
                 rotate_left
                 ·intro w'
                  go_simp
                  with_reducible rfl
                 rotate_left
                 ·simp only [Act.put, List.setIfInBounds_toArray, List.set_cons_zero, List.set_cons_succ, i64_w, i32_w]
                  rfl
                 refine pure_ (i := 8) (N := some 56) (v := ?_) (a' := ?_) #[true, true, true, true, true, true, true, true, true, false, true, false, false, false, false, true, false, false, false, false, false, true, true, true, false, false, false] rfl rfl (any_of HT_.out (by kernel_rfl)) (fun _ _ _ h => h) (Or.inl ⟨by rfl, ?_⟩) ?_ ?_
                 rotate_left
                 ·intro w'
                  go_simp
                  with_reducible rfl
                 rotate_left
                 ·simp only [Act.put, List.setIfInBounds_toArray, List.set_cons_zero, List.set_cons_succ, i64_w, i32_w]
                  rfl
                 refine take_ (i := 9) (N := some 57) (v := ?_) (a' := ?_) #[true, true, true, true, true, true, true, true, true, true, true, false, false, false, false, true, false, false, false, false, false, true, true, true, false, false, false] rfl rfl (take_ofW HT_.out HW_.out (by kernel_rfl)) (fun _ _ _ h => h) (Or.inl ⟨by rfl, ?_⟩) hHeld ?_ ?_
                 rotate_left
                 ·rintro w' ⟨s0, s1, s2, s3, s4, s5, s6, s7, s8, s9, s10, s11, s12, s13, s14, s15, s16, s17, s18, s19⟩
                  go_simp
                  with_reducible rfl
                 rotate_left
                 ·simp only [Act.put, List.setIfInBounds_toArray, List.set_cons_zero, List.set_cons_succ, i64_w, i32_w]
                  rfl
                 refine take_ (i := 11) (N := some 59) (v := ?_) (a' := ?_) #[true, true, true, true, true, true, true, true, true, true, true, true, false, false, false, true, false, false, false, false, false, true, true, true, false, false, false] rfl rfl (take_ofW HT_.out HW_.out (by kernel_rfl)) (fun _ _ _ h => h) (Or.inl ⟨by rfl, ?_⟩) hHeld ?_ ?_
                 rotate_left
                 ·rintro w' ⟨s0, s1, s2, s3, s4, s5, s6, s7, s8, s9, s10, s11, s12, s13, s14, s15, s16, s17, s18, s19⟩
                  go_simp
                  with_reducible rfl
                 rotate_left
                 ·simp only [Act.put, List.setIfInBounds_toArray, List.set_cons_zero, List.set_cons_succ, i64_w, i32_w]
                  rfl
                 refine pure_ (i := 12) (N := some 60) (v := ?_) (a' := ?_) #[true, true, true, true, true, true, true, true, true, true, true, true, true, false, false, true, false, false, false, false, false, true, true, true, false, false, false] rfl rfl (any_of HT_.out (by kernel_rfl)) (fun _ _ _ h => h) (Or.inl ⟨by rfl, ?_⟩) ?_ ?_
                 rotate_left
                 ·intro w'
                  go_simp
                  with_reducible rfl
                 rotate_left
                 ·simp only [Act.put, List.setIfInBounds_toArray, List.set_cons_zero, List.set_cons_succ, i64_w, i32_w]
                  rfl
                 refine pure_ (i := 13) (N := some 61) (v := ?_) (a' := ?_) #[true, true, true, true, true, true, true, true, true, true, true, true, true, true, false, true, false, false, false, false, false, true, true, true, false, false, false] rfl rfl (any_of HT_.out (by kernel_rfl)) (fun _ _ _ h => h) (Or.inl ⟨by rfl, ?_⟩) ?_ ?_
                 rotate_left
                 ·intro w'
                  go_simp
                  with_reducible rfl
                 rotate_left
                 ·simp only [Act.put, List.setIfInBounds_toArray, List.set_cons_zero, List.set_cons_succ, i64_w, i32_w]
                  rfl
                 refine take_ (i := 14) (N := some 62) (v := ?_) (a' := ?_) #[true, true, true, true, true, true, true, true, true, true, true, true, true, true, true, true, false, false, false, false, false, true, true, true, false, false, false] rfl rfl (take_ofW HT_.out HW_.out (by kernel_rfl)) (fun _ _ _ h => h) (Or.inl ⟨by rfl, ?_⟩) hHeld ?_ ?_
                 rotate_left
                 ·rintro w' ⟨s0, s1, s2, s3, s4, s5, s6, s7, s8, s9, s10, s11, s12, s13, s14, s15, s16, s17, s18, s19⟩
                  go_simp
                  with_reducible rfl
                 rotate_left
                 ·simp only [Act.put, List.setIfInBounds_toArray, List.set_cons_zero, List.set_cons_succ, i64_w, i32_w]
                  rfl
                 refine take_ (i := 16) (N := some 64) (v := ?_) (a' := ?_) #[true, true, true, true, true, true, true, true, true, true, true, true, true, true, true, true, true, false, false, false, false, true, true, true, false, false, false] rfl rfl (take_ofW HT_.out HW_.out (by kernel_rfl)) (fun _ _ _ h => h) (Or.inl ⟨by rfl, ?_⟩) hHeld ?_ ?_
                 rotate_left
                 ·rintro w' ⟨s0, s1, s2, s3, s4, s5, s6, s7, s8, s9, s10, s11, s12, s13, s14, s15, s16, s17, s18, s19⟩
                  go_simp
                  with_reducible rfl
                 rotate_left
                 ·simp only [Act.put, List.setIfInBounds_toArray, List.set_cons_zero, List.set_cons_succ, i64_w, i32_w]
                  rfl
                 refine pure_ (i := 17) (N := some 65) (v := ?_) (a' := ?_) #[true, true, true, true, true, true, true, true, true, true, true, true, true, true, true, true, true, true, false, false, false, true, true, true, false, false, false] rfl rfl (any_of HT_.out (by kernel_rfl)) (fun _ _ _ h => h) (Or.inl ⟨by rfl, ?_⟩) ?_ ?_
                 rotate_left
                 ·intro w'
                  go_simp
                  with_reducible rfl
                 rotate_left
                 ·simp only [Act.put, List.setIfInBounds_toArray, List.set_cons_zero, List.set_cons_succ, i64_w, i32_w]
                  rfl
                 refine pure_ (i := 18) (N := some 66) (v := ?_) (a' := ?_) #[true, true, true, true, true, true, true, true, true, true, true, true, true, true, true, true, true, true, true, false, false, true, true, true, false, false, false] rfl rfl (any_of HT_.out (by kernel_rfl)) (fun _ _ _ h => h) (Or.inl ⟨by rfl, ?_⟩) ?_ ?_
                 rotate_left
                 ·intro w'
                  go_simp
                  with_reducible rfl
                 rotate_left
                 ·simp only [Act.put, List.setIfInBounds_toArray, List.set_cons_zero, List.set_cons_succ, i64_w, i32_w]
                  rfl
                 refine take_ (i := 19) (N := some 67) (v := ?_) (a' := ?_) #[true, true, true, true, true, true, true, true, true, true, true, true, true, true, true, true, true, true, true, true, false, true, true, true, false, false, false] rfl rfl (take_ofW HT_.out HW_.out (by kernel_rfl)) (fun _ _ _ h => h) (Or.inl ⟨by rfl, ?_⟩) hHeld ?_ ?_
                 rotate_left
                 ·rintro w' ⟨s0, s1, s2, s3, s4, s5, s6, s7, s8, s9, s10, s11, s12, s13, s14, s15, s16, s17, s18, s19⟩
                  go_simp
                  with_reducible rfl
                 rotate_left
                 ·simp only [Act.put, List.setIfInBounds_toArray, List.set_cons_zero, List.set_cons_succ, i64_w, i32_w]
                  rfl
                 refine pure_ (i := 20) (N := some 68) (v := ?_) (a' := ?_) #[true, true, true, true, true, true, true, true, true, true, true, true, true, true, true, true, true, true, true, true, true, true, true, true, false, false, false] rfl rfl (any_of HT_.out (by kernel_rfl)) (fun _ _ _ h => h) (Or.inl ⟨by rfl, ?_⟩) ?_ ?_
                 rotate_left
                 ·intro w'
                  go_simp
                  with_reducible rfl
                 rotate_left
                 ·simp only [Act.put, List.setIfInBounds_toArray, List.set_cons_zero, List.set_cons_succ, i64_w, i32_w]
                  rfl
                 refine one_ (i := 24) (N := none) #[true, true, true, true, true, true, true, true, true, true, true, true, true, true, true, true, true, true, true, true, true, true, true, true, true, false, false] rfl rfl (one_of HT_.out (by kernel_rfl)) (by decide) (fun K hK => ?_)
                 have hs54 : w53.cell? ⟨gb164, 0, none⟩ = some (.int .i64 0) := (blk_cell BK164.out 0).trans rfl
                 have hfs54 := blk_frozen BK164.out 0
                 have hns54_1 := NB172_164.out
                 have hms54_1 := NB164_172.out
                 have hs55 : w53.cell? ⟨gb164, 1, none⟩ = some (.int .i64 0) := (blk_cell BK164.out 1).trans rfl
                 have hfs55 := blk_frozen BK164.out 1
                 have hns55_1 := NB172_164.out
                 have hms55_1 := NB164_172.out
                 have hs56 : w53.cell? ⟨gb164, 2, none⟩ = some (.int .i64 0) := (blk_cell BK164.out 2).trans rfl
                 have hfs56 := blk_frozen BK164.out 2
                 have hns56_1 := NB172_164.out
                 have hms56_1 := NB164_172.out
                 have hs57 : w53.cell? ⟨gb164, 3, none⟩ = some (.int .i64 0) := (blk_cell BK164.out 3).trans rfl
                 have hfs57 := blk_frozen BK164.out 3
                 have hns57_1 := NB172_164.out
                 have hms57_1 := NB164_172.out
                 refine skip_ (w1 := ?_) (by rfl) rfl ?_ ?_
                 rotate_left
                 ·go_simp
                  rfl
                 have nx_0 := Kd.own_blk (Kd.R_ne HO_173003.out BK164.out (by decide))
                 refine hK.out _ _ ⟨((cell_far (p := ⟨gb164, _, none⟩) NB172_164.out _).trans (((cell_far (p := ⟨gb164, _, none⟩) NB172_164.out _).trans (((cell_far (p := ⟨gb164, _, none⟩) NB172_164.out _).trans (((cell_far (p := ⟨gb164, _, none⟩) NB172_164.out _).trans (hHeld.1)))))))), ((cell_far (p := ⟨gb164, _, none⟩) NB172_164.out _).trans (((cell_far (p := ⟨gb164, _, none⟩) NB172_164.out _).trans (((cell_far (p := ⟨gb164, _, none⟩) NB172_164.out _).trans (((cell_far (p := ⟨gb164, _, none⟩) NB172_164.out _).trans (hHeld.2.1)))))))), ((cell_far (p := ⟨gb164, _, none⟩) NB172_164.out _).trans (((cell_far (p := ⟨gb164, _, none⟩) NB172_164.out _).trans (((cell_far (p := ⟨gb164, _, none⟩) NB172_164.out _).trans (((cell_far (p := ⟨gb164, _, none⟩) NB172_164.out _).trans (hHeld.2.2.1)))))))), ((cell_far (p := ⟨gb164, _, none⟩) NB172_164.out _).trans (((cell_far (p := ⟨gb164, _, none⟩) NB172_164.out _).trans (((cell_far (p := ⟨gb164, _, none⟩) NB172_164.out _).trans (((cell_far (p := ⟨gb164, _, none⟩) NB172_164.out _).trans (hHeld.2.2.2.1)))))))), ((cell_far (p := ⟨gb164, _, none⟩) (by exact nx_0) _).trans (((cell_far (p := ⟨gb164, _, none⟩) (by exact nx_0) _).trans (((cell_far (p := ⟨gb164, _, none⟩) (by exact nx_0) _).trans (((cell_far (p := ⟨gb164, _, none⟩) (by exact nx_0) _).trans (hHeld.2.2.2.2.1)))))))), ((cell_far (p := ⟨gb164, _, none⟩) (by exact nx_0) _).trans (((cell_far (p := ⟨gb164, _, none⟩) (by exact nx_0) _).trans (((cell_far (p := ⟨gb164, _, none⟩) (by exact nx_0) _).trans (((cell_far (p := ⟨gb164, _, none⟩) (by exact nx_0) _).trans (hHeld.2.2.2.2.2.1)))))))), ((cell_far (p := ⟨gb164, _, none⟩) (by exact nx_0) _).trans (((cell_far (p := ⟨gb164, _, none⟩) (by exact nx_0) _).trans (((cell_far (p := ⟨gb164, _, none⟩) (by exact nx_0) _).trans (((cell_far (p := ⟨gb164, _, none⟩) (by exact nx_0) _).trans (hHeld.2.2.2.2.2.2.1)))))))), ((cell_far (p := ⟨gb164, _, none⟩) (by exact nx_0) _).trans (((cell_far (p := ⟨gb164, _, none⟩) (by exact nx_0) _).trans (((cell_far (p := ⟨gb164, _, none⟩) (by exact nx_0) _).trans (((cell_far (p := ⟨gb164, _, none⟩) (by exact nx_0) _).trans (hHeld.2.2.2.2.2.2.2.1)))))))), ((cell_far (p := ⟨gb164, _, none⟩) (by exact nx_0) _).trans (((cell_far (p := ⟨gb164, _, none⟩) (by exact nx_0) _).trans (((cell_far (p := ⟨gb164, _, none⟩) (by exact nx_0) _).trans (((cell_far (p := ⟨gb164, _, none⟩) (by exact nx_0) _).trans (hHeld.2.2.2.2.2.2.2.2.1)))))))), ((cell_far (p := ⟨gb164, _, none⟩) (by exact nx_0) _).trans (((cell_far (p := ⟨gb164, _, none⟩) (by exact nx_0) _).trans (((cell_far (p := ⟨gb164, _, none⟩) (by exact nx_0) _).trans (((cell_far (p := ⟨gb164, _, none⟩) (by exact nx_0) _).trans (hHeld.2.2.2.2.2.2.2.2.2.1)))))))), ((cell_far (p := ⟨gb164, _, none⟩) (by exact nx_0) _).trans (((cell_far (p := ⟨gb164, _, none⟩) (by exact nx_0) _).trans (((cell_far (p := ⟨gb164, _, none⟩) (by exact nx_0) _).trans (((cell_far (p := ⟨gb164, _, none⟩) (by exact nx_0) _).trans (hHeld.2.2.2.2.2.2.2.2.2.2.1)))))))), ((cell_far (p := ⟨gb164, _, none⟩) (by exact nx_0) _).trans (((cell_far (p := ⟨gb164, _, none⟩) (by exact nx_0) _).trans (((cell_far (p := ⟨gb164, _, none⟩) (by exact nx_0) _).trans (((cell_far (p := ⟨gb164, _, none⟩) (by exact nx_0) _).trans (hHeld.2.2.2.2.2.2.2.2.2.2.2.1)))))))), ((cell_far (p := ⟨gb164, _, none⟩) (by exact nx_0) _).trans (((cell_far (p := ⟨gb164, _, none⟩) (by exact nx_0) _).trans (((cell_far (p := ⟨gb164, _, none⟩) (by exact nx_0) _).trans (((cell_far (p := ⟨gb164, _, none⟩) (by exact nx_0) _).trans (hHeld.2.2.2.2.2.2.2.2.2.2.2.2.1)))))))), ((cell_far (p := ⟨gb164, _, none⟩) (by exact nx_0) _).trans (((cell_far (p := ⟨gb164, _, none⟩) (by exact nx_0) _).trans (((cell_far (p := ⟨gb164, _, none⟩) (by exact nx_0) _).trans (((cell_far (p := ⟨gb164, _, none⟩) (by exact nx_0) _).trans (hHeld.2.2.2.2.2.2.2.2.2.2.2.2.2.1)))))))), ((cell_far (p := ⟨gb164, _, none⟩) (by exact nx_0) _).trans (((cell_far (p := ⟨gb164, _, none⟩) (by exact nx_0) _).trans (((cell_far (p := ⟨gb164, _, none⟩) (by exact nx_0) _).trans (((cell_far (p := ⟨gb164, _, none⟩) (by exact nx_0) _).trans (hHeld.2.2.2.2.2.2.2.2.2.2.2.2.2.2.1)))))))), ((cell_far (p := ⟨gb164, _, none⟩) (by exact nx_0) _).trans (((cell_far (p := ⟨gb164, _, none⟩) (by exact nx_0) _).trans (((cell_far (p := ⟨gb164, _, none⟩) (by exact nx_0) _).trans (((cell_far (p := ⟨gb164, _, none⟩) (by exact nx_0) _).trans (hHeld.2.2.2.2.2.2.2.2.2.2.2.2.2.2.2.1)))))))), ((cell_far (p := ⟨gb164, _, none⟩) (by exact nx_0) _).trans (((cell_far (p := ⟨gb164, _, none⟩) (by exact nx_0) _).trans (((cell_far (p := ⟨gb164, _, none⟩) (by exact nx_0) _).trans (((cell_far (p := ⟨gb164, _, none⟩) (by exact nx_0) _).trans (hHeld.2.2.2.2.2.2.2.2.2.2.2.2.2.2.2.2.1)))))))), ((cell_far (p := ⟨gb164, _, none⟩) (by exact nx_0) _).trans (((cell_far (p := ⟨gb164, _, none⟩) (by exact nx_0) _).trans (((cell_far (p := ⟨gb164, _, none⟩) (by exact nx_0) _).trans (((cell_far (p := ⟨gb164, _, none⟩) (by exact nx_0) _).trans (hHeld.2.2.2.2.2.2.2.2.2.2.2.2.2.2.2.2.2.1)))))))), ((cell_far (p := ⟨gb164, _, none⟩) (by exact nx_0) _).trans (((cell_far (p := ⟨gb164, _, none⟩) (by exact nx_0) _).trans (((cell_far (p := ⟨gb164, _, none⟩) (by exact nx_0) _).trans (((cell_far (p := ⟨gb164, _, none⟩) (by exact nx_0) _).trans (hHeld.2.2.2.2.2.2.2.2.2.2.2.2.2.2.2.2.2.2.1)))))))), ((cell_far (p := ⟨gb164, _, none⟩) (by exact nx_0) _).trans (((cell_far (p := ⟨gb164, _, none⟩) (by exact nx_0) _).trans (((cell_far (p := ⟨gb164, _, none⟩) (by exact nx_0) _).trans (((cell_far (p := ⟨gb164, _, none⟩) (by exact nx_0) _).trans (hHeld.2.2.2.2.2.2.2.2.2.2.2.2.2.2.2.2.2.2.2))))))))⟩ (fun hHeld => ?_)
                 clear hK K
                 refine pure_ (i := 25) (N := some 3) (v := ?_) (a' := ?_) #[true, true, true, true, true, true, true, true, true, true, true, true, true, true, true, true, true, true, true, true, true, true, true, true, true, true, false] rfl rfl (any_of HT_.out (by kernel_rfl)) (fun _ _ _ h => h) (Or.inl ⟨by rfl, ?_⟩) ?_ ?_
                 rotate_left
                 ·intro w'
                  go_simp
                  with_reducible rfl
                 rotate_left
                 ·simp only [Act.put, List.setIfInBounds_toArray, List.set_cons_zero, List.set_cons_succ, i64_w, i32_w]
                  rfl
                 refine pure_ (i := 26) (N := some 4) (v := ?_) (a' := ?_) #[true, true, true, true, true, true, true, true, true, true, true, true, true, true, true, true, true, true, true, true, true, true, true, true, true, true, true] rfl rfl (any_of HT_.out (by kernel_rfl)) (fun _ _ _ h => h) (Or.inl ⟨by rfl, ?_⟩) ?_ ?_
                 rotate_left
                 ·intro w'
                  go_simp
                  with_reducible rfl
                 rotate_left
                 ·simp only [Act.put, List.setIfInBounds_toArray, List.set_cons_zero, List.set_cons_succ, i64_w, i32_w]
                  rfl
                 refine done_ (done_of HT_.out (by kernel_rfl)) ?_
                 try go_wp2
                 refine bodyPost_ret (results_ctt rfl _ _ gb164 23 #[.int .i64 ((rd_T51 t168 0).f1), .int .i64 ((rd_T51 t168 1).f1), .int .i64 ((rd_T51 t168 2).f1), .int .i64 ((rd_T51 t168 3).f1)] (0, 0) _ rfl (rb (blk_put (cs := #[.int .i64 ((rd_T51 t168 0).f1), .int .i64 ((rd_T51 t168 1).f1), .int .i64 ((rd_T51 t168 2).f1), .int .i64 0]) (rb (blk_put (cs := #[.int .i64 ((rd_T51 t168 0).f1), .int .i64 ((rd_T51 t168 1).f1), .int .i64 0, .int .i64 0]) (rb (blk_put (cs := #[.int .i64 ((rd_T51 t168 0).f1), .int .i64 0, .int .i64 0, .int .i64 0]) (rb (blk_put (cs := #[.int .i64 0, .int .i64 0, .int .i64 0, .int .i64 0]) (rb BK164.out) 0 _ rfl)) 1 _ rfl)) 2 _ rfl)) 3 _ rfl)) Tryd.underlying23 rfl (by kernel_rfl)) rfl ?_
                 exact ⟨by first | rfl | (simp [errW_none, errW_some] <;> rfl) | (simp only [← hji5]; first | rfl | (simp [errW_none, errW_some] <;> rfl)) | (simp [*, errW_none, errW_some] <;> rfl), bb⟩
                ·rw [if_neg c46] at H
                 exact absurd H (by simp)
               ·rw [if_neg c45] at H
                exact absurd H (by simp)
              ·rw [if_neg c44] at H
               exact absurd H (by simp)
             ·rw [if_neg c43] at H
              exact absurd H (by simp)
            ·rw [if_neg c42] at H
             exact absurd H (by simp)
           ·rw [if_neg c41] at H
            exact absurd H (by simp)
         ·rw [if_neg c31] at H
          exact absurd H (by simp)
    ·rw [if_neg c9] at H
     have c9b0 : (t171 == 0) = false := beq_eq_false_iff_ne.mpr c9
     have c9b1 : (t171 != 0) = true := bne_iff_ne.mpr c9
     simp only [Option.some.injEq, Prod.mk.injEq] at H
     obtain ⟨rfl, rfl, rfl, rfl, rfl, rfl⟩ := H
     go_enter Tryd.func9, Tryd.ntmps9
     go_wp2_with (first | ((with_reducible refine gate_dst (N := 2) rfl ?_); (try (refine gate_guard (by rfl) ?_; dsimp only)); refine box_event ?hg (N := 2) ?hd (cs := #[.int .i64 0, .int .i64 0, .int .i64 0, .int .i64 0]) (t := 23) ?hr ?_; (case hd => rfl); (case hg => rfl); (case hr => first | (go_simp; done) | (go_simp; rfl)); intro gb164 hg w58 hbox hb; have n0_ := Aside0.mk (below_step bb hb); have n1_ := Aside0.mk (hbox); have n2_ := Aside0.mk ((by rw [hg]; exact (below_size bb) : w.heap.size ≤ gb164)); have n3_ := Aside0.mk ((by rw [hg]; exact (below_size bb) : w.heap.size ≤ gb164)); clear HB; have HB := n0_; have BK164 := n1_; have GW164 := n2_; have GE164 := n3_; clear n0_ n1_ n2_ n3_; clear hb hbox hg) | ((with_reducible refine gate_callee (f := 18) rfl ?_); refine goesL_ (some 18) rfl rfl Tryd.func18 (by kernel_rfl) rfl #[.string (a0.extract 0 ((ji5) : Int).toNat)] rfl (by (try simp only [List.map_toArray, List.map_cons, List.map_nil]); first | done | (simp only [hji5]; rfl) | rfl | (simp only [List.length_drop, List.length_take]; rfl)) ?_; (with_reducible refine (pack_Get.calls (a0.extract 0 ((ji5) : Int).toNat) t165 t166 t167 t168 t171 _ A8.out).mono ?_); rintro e w59 ⟨v169, rfl, ho0, hb⟩; refine ⟨_, rfl, ?_⟩; have n0_ := Aside0.mk (Kd.R_lower ho0 (below_size bb)); have n1_ := Aside0.mk (blk_below (rb BK164.out) hb); have n2_ := Aside0.mk (below_step bb hb); clear BK164; clear HB; have HO170 := n0_; have BK164 := n1_; have HB := n2_; clear n0_ n1_ n2_; (try clear hb); (try clear hb2); (try clear hk); (try clear hi); (try clear ho0)) | ((with_reducible refine gate_dst (N := 6) rfl ?_); (try (refine gate_guard (by rfl) ?_; dsimp only)); refine box_event ?hg (N := 6) ?hd (cs := #[.int .i64 0, .int .i64 0, .string (⟨#[]⟩ : ByteArray), .slice none 0 0]) (t := 51) ?hr ?_; (case hd => rfl); (case hg => rfl); (case hr => first | (go_simp; done) | (go_simp; rfl)); intro gb172 hg w60 hbox hb; have n0_ := Aside0.mk (Kd.R_below (Kd.R_elderB (kR HO170.out) gb172 (Nat.le_of_eq hg.symm)) hb); have n1_ := Aside0.mk (blk_below (rb BK164.out) hb); have n2_ := Aside0.mk (below_step bb hb); have n3_ := Aside0.mk (hbox); have n4_ := Aside0.mk ((by rw [hg]; exact (below_size bb) : w.heap.size ≤ gb172)); have n5_ := Aside0.mk ((by rw [hg]; exact (below_size bb) : w.heap.size ≤ gb172)); have n6_ := Aside0.mk ((by rw [hg]; exact Nat.ne_of_lt (blk_lt (rb BK164.out)) : gb164 ≠ gb172)); have n7_ := Aside0.mk ((by rw [hg]; exact Nat.ne_of_gt (blk_lt (rb BK164.out)) : gb172 ≠ gb164)); clear HO170; clear BK164; clear HB; have HO170 := n0_; have BK164 := n1_; have HB := n2_; have BK172 := n3_; have GW172 := n4_; have GE172 := n5_; have NB164_172 := n6_; have NB172_164 := n7_; clear n0_ n1_ n2_ n3_ n4_ n5_ n6_ n7_; clear hb hbox hg; have hnb61 := NB172_164.out; have hnc61 := NB164_172.out; have hcz62_0 : w60.cell? ⟨gb172, 0, none⟩ = some (.int .i64 0) := (blk_cell BK172.out 0).trans rfl; have hcz62_1 : w60.cell? ⟨gb172, 1, none⟩ = some (.int .i64 0) := (blk_cell BK172.out 1).trans rfl; have hcz62_2 : w60.cell? ⟨gb172, 2, none⟩ = some (.string (⟨#[]⟩ : ByteArray)) := (blk_cell BK172.out 2).trans rfl; have hcz62_3 : w60.cell? ⟨gb172, 3, none⟩ = some (.slice none 0 0) := (blk_cell BK172.out 3).trans rfl; have hfz62_0 := blk_frozen BK172.out 0; have hfz62_1 := blk_frozen BK172.out 1; have hfz62_2 := blk_frozen BK172.out 2; have hfz62_3 := blk_frozen BK172.out 3; obtain ⟨Ao63, co63, eo63⟩ := Kd.R_slice HO170.out; subst eo63; have hcz64_0 : w60.cell? ⟨gb164, 0, none⟩ = some (.int .i64 0) := (blk_cell BK164.out 0).trans rfl; have hcz64_1 : w60.cell? ⟨gb164, 1, none⟩ = some (.int .i64 0) := (blk_cell BK164.out 1).trans rfl; have hcz64_2 : w60.cell? ⟨gb164, 2, none⟩ = some (.int .i64 0) := (blk_cell BK164.out 2).trans rfl; have hcz64_3 : w60.cell? ⟨gb164, 3, none⟩ = some (.int .i64 0) := (blk_cell BK164.out 3).trans rfl; have hfz64_0 := blk_frozen BK164.out 0; have hfz64_1 := blk_frozen BK164.out 1; have hfz64_2 := blk_frozen BK164.out 2; have hfz64_3 := blk_frozen BK164.out 3))
     refine bodyPost_ret (results_ctt rfl _ _ gb164 23 #[.int .i64 0, .int .i64 0, .int .i64 0, .int .i64 0] (0, 0) _ rfl (rb (blk_put (cs := #[.int .i64 0, .int .i64 0, .int .i64 0, .int .i64 0]) (rb (blk_put (cs := #[.int .i64 0, .int .i64 0, .int .i64 0, .int .i64 0]) (rb (blk_put (cs := #[.int .i64 0, .int .i64 0, .int .i64 0, .int .i64 0]) (rb (blk_put (cs := #[.int .i64 0, .int .i64 0, .int .i64 0, .int .i64 0]) (rb (blk_far (rb (blk_far (rb (blk_far (rb (blk_far (rb BK164.out) NB164_172.out _)) NB164_172.out _)) NB164_172.out _)) NB164_172.out _)) 0 _ rfl)) 1 _ rfl)) 2 _ rfl)) 3 _ rfl)) Tryd.underlying23 rfl (by kernel_rfl)) rfl ?_
     exact ⟨by first | rfl | (simp [errW_none, errW_some] <;> rfl) | (simp only [← hji5]; first | rfl | (simp [errW_none, errW_some] <;> rfl)) | (simp [*, errW_none, errW_some] <;> rfl), bb⟩
   ·rw [if_neg c7] at H
    exact absurd H (by simp)
  ·rw [if_neg c6] at H
   exact absurd H (by simp)

end Go.Proofs.YtpbnfnaebdmagaaDoor.PT
