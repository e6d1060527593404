-- printed by a program of this session out of the translation; see NOTES.md
import Derived.Test.YtjicfkmpgogppaaPOx0
import Derived.Test.YtjicfkmpgogppaaPOx2
import Derived.Test.YtjicfkmpgogppaaPOx3
import Derived.Test.YtjicfkmpgogppaaRb
namespace Go.Proofs.Ytjicfkmpgogppaa.PO
open Go.RowKit Go.Proofs.YtjicfkmpgogppaaW.PrintWords Go.Proofs.YtjicfkmpgogppaaW.PrintLast Go.Proofs.YtjicfkmpgogppaaW.PrintMore Go.Proofs.YtjicfkmpgogppaaRb
attribute [local go_sem] max2_int min2_int max_two min_two max_three min_three max_four min_four   -- for this text's walks alone
set_option linter.unusedVariables false
set_option linter.unusedSimpArgs false

/-! ### op_Put: function 29 -/
def op_Put.f (k : Nat) (a0_0 : ByteArray) (a0_1 : Int) (l0_2 : List (S54)) : Option (ByteArray × Int) := (pack_Str.f a0_0).bind fun bt118 => ((pack_Num.f a0_1).bind fun bt124 => ((pack_All.f l0_2).bind fun bt130 => ((pack_All.f (([(⟨bt118.1, bt118.2.1, bt118.2.2.1, bt118.2.2.2⟩ : S54), (⟨bt124.1, bt124.2.1, bt124.2.2.1, bt124.2.2.2⟩ : S54), (⟨bt130.1, bt130.2.1, bt130.2.2.1, bt130.2.2.2⟩ : S54)] : List (S54)))).bind fun bt139 => ((pack_Put.f k bt139.1 bt139.2.1 bt139.2.2.1 bt139.2.2.2).bind fun bt145 => (if bt145.2 = 0 then (if (bt145.1.size : Int) > 4096 then (some ((⟨#[]⟩ : ByteArray), 5)) else (some (bt145.1, 0))) else (some ((⟨#[]⟩ : ByteArray), bt145.2)))))))
theorem op_Put.mono : ∀ a0 a1 a2 k, LeO (op_Put.f k a0 a1 a2) (op_Put.f (k + 1) a0 a1 a2) := by
 intro a0 a1 a2 k
 unfold op_Put.f
 repeat' first
   | (with_reducible exact pack_Put.mono _ _ _ _ _)
   | (with_reducible exact LeO.refl _)
   | (with_reducible exact LeO.none _)
   | (with_reducible refine LeO.ite ?_ ?_)
   | (with_reducible refine LeO.bind ?_ (fun _ => ?_))
   | exact pack_Put.mono _ _ _ _ _
   | exact LeO.none _
   | refine LeO.ite ?_ ?_
   | refine LeO.bind ?_ (fun _ => ?_)
def op_Put.T1 : Bool × List (List Nat × List Nat) := (true, [([], []), ([0], [0]), ([1], [1]), ([], []), ([3], [3]), ([4, 2], [4]), ([], []), ([6], [6]), ([7, 5], [7]), ([2, 5, 8], [2, 5, 8]), ([9, 8], [9]), ([10, 10], [10]), ([11], [11]), ([12], [12]), ([12], [12]), ([13, 11, 0, 1, 2, 3, 4, 5, 6, 7, 8, 9, 10, 11, 12, 13], [13]), ([14, 15, 0, 1, 2, 3, 4, 5, 6, 7, 8, 9, 10, 11, 12, 13, 14, 15], [14])])
def op_Put.B1 : List Nat := [0, 1, 3, 0, 8, 31, 0, 64, 255, 511, 1023, 2047, 4095, 8191, 8191, 16383, 65535]
theorem op_Put.tab1 : rtab .any (opsOf Try.f29 1) = op_Put.T1 := by kernel_rfl
theorem op_Put.bits1 : waitsOk op_Put.T1.2 op_Put.B1 = true := by kernel_rfl
set_option maxHeartbeats 8000000 in
set_option maxRecDepth 100000 in
theorem op_Put.calls (k : Nat) (a0_0 : ByteArray) (a0_1 : Int) (A0_2 : Option Addr) (c0_2 : Nat) (l0_2 : List (S54)) (r1 : ByteArray) (r2 : Int) (w : World) (hr0_2 : Kd.C k54 w A0_2 l0_2.length l0_2) (hc0_2 : l0_2.length ≤ c0_2) (h : op_Put.f k a0_0 a0_1 l0_2 = some (r1, r2)) :
  Calls Try.prog 29 #[.agg #[.string a0_0, .int .i64 a0_1, .slice A0_2 l0_2.length c0_2]] w fun e w' => e = .returned (.tuple #[.string r1, .int .i64 r2]) ∧ Below w.heap.size w w' := by
 have hu75 := Try.underlying75
 have HR0_2 := Aside0.mk hr0_2
 have HC0_2 := Aside0.mk hc0_2
 clear hr0_2 hc0_2
 have HB := Aside0.mk (Below.refl w.heap.size w)
 have H : ((pack_Str.f a0_0).bind fun bt118 => ((pack_Num.f a0_1).bind fun bt124 => ((pack_All.f l0_2).bind fun bt130 => ((pack_All.f (([(⟨bt118.1, bt118.2.1, bt118.2.2.1, bt118.2.2.2⟩ : S54), (⟨bt124.1, bt124.2.1, bt124.2.2.1, bt124.2.2.2⟩ : S54), (⟨bt130.1, bt130.2.1, bt130.2.2.1, bt130.2.2.2⟩ : S54)] : List (S54)))).bind fun bt139 => ((pack_Put.f k bt139.1 bt139.2.1 bt139.2.2.1 bt139.2.2.2).bind fun bt145 => (if bt145.2 = 0 then (if (bt145.1.size : Int) > 4096 then (some ((⟨#[]⟩ : ByteArray), 5)) else (some (bt145.1, 0))) else (some ((⟨#[]⟩ : ByteArray), bt145.2)))))))) = some (r1, r2) := h
 clear h
 replace H := Option.bind_eq_some_iff.mp H
 obtain ⟨⟨t118, t119, t120, t121⟩, A20, H⟩ := H
 replace H : ((pack_Num.f a0_1).bind fun bt124 => ((pack_All.f l0_2).bind fun bt130 => ((pack_All.f (([(⟨t118, t119, t120, t121⟩ : S54), (⟨bt124.1, bt124.2.1, bt124.2.2.1, bt124.2.2.2⟩ : S54), (⟨bt130.1, bt130.2.1, bt130.2.2.1, bt130.2.2.2⟩ : S54)] : List (S54)))).bind fun bt139 => ((pack_Put.f k bt139.1 bt139.2.1 bt139.2.2.1 bt139.2.2.2).bind fun bt145 => (if bt145.2 = 0 then (if (bt145.1.size : Int) > 4096 then (some ((⟨#[]⟩ : ByteArray), 5)) else (some (bt145.1, 0))) else (some ((⟨#[]⟩ : ByteArray), bt145.2))))))) = some (r1, r2) := H
 have A2 := Aside0.mk A20
 clear A20
 replace H := Option.bind_eq_some_iff.mp H
 obtain ⟨⟨t124, t125, t126, t127⟩, A30, H⟩ := H
 replace H : ((pack_All.f l0_2).bind fun bt130 => ((pack_All.f (([(⟨t118, t119, t120, t121⟩ : S54), (⟨t124, t125, t126, t127⟩ : S54), (⟨bt130.1, bt130.2.1, bt130.2.2.1, bt130.2.2.2⟩ : S54)] : List (S54)))).bind fun bt139 => ((pack_Put.f k bt139.1 bt139.2.1 bt139.2.2.1 bt139.2.2.2).bind fun bt145 => (if bt145.2 = 0 then (if (bt145.1.size : Int) > 4096 then (some ((⟨#[]⟩ : ByteArray), 5)) else (some (bt145.1, 0))) else (some ((⟨#[]⟩ : ByteArray), bt145.2)))))) = some (r1, r2) := H
 have A3 := Aside0.mk A30
 clear A30
 replace H := Option.bind_eq_some_iff.mp H
 obtain ⟨⟨t130, t131, t132, t133⟩, A40, H⟩ := H
 replace H : ((pack_All.f (([(⟨t118, t119, t120, t121⟩ : S54), (⟨t124, t125, t126, t127⟩ : S54), (⟨t130, t131, t132, t133⟩ : S54)] : List (S54)))).bind fun bt139 => ((pack_Put.f k bt139.1 bt139.2.1 bt139.2.2.1 bt139.2.2.2).bind fun bt145 => (if bt145.2 = 0 then (if (bt145.1.size : Int) > 4096 then (some ((⟨#[]⟩ : ByteArray), 5)) else (some (bt145.1, 0))) else (some ((⟨#[]⟩ : ByteArray), bt145.2))))) = some (r1, r2) := H
 have A4 := Aside0.mk A40
 clear A40
 obtain ⟨y136, hy136⟩ : ∃ y_ : List (S54), y_ = (([(⟨t118, t119, t120, t121⟩ : S54), (⟨t124, t125, t126, t127⟩ : S54), (⟨t130, t131, t132, t133⟩ : S54)] : List (S54))) := ⟨_, rfl⟩
 replace H : ((pack_All.f y136).bind fun bt139 => ((pack_Put.f k bt139.1 bt139.2.1 bt139.2.2.1 bt139.2.2.2).bind fun bt145 => (if bt145.2 = 0 then (if (bt145.1.size : Int) > 4096 then (some ((⟨#[]⟩ : ByteArray), 5)) else (some (bt145.1, 0))) else (some ((⟨#[]⟩ : ByteArray), bt145.2))))) = some (r1, r2) := by first | (rw [hy136]; with_reducible exact H) | (have H2_ := (Option.bind_some _ _).symm.trans H; rw [hy136]; with_reducible exact H2_) | (have H2_ := (Option.bind_some _ _).symm.trans H; with_reducible exact H2_) | with_reducible exact H | (rw [hy136]; exact H) | exact H
 have Ny136 := Aside0.mk hy136
 clear hy136
 replace H := Option.bind_eq_some_iff.mp H
 obtain ⟨⟨t139, t140, t141, t142⟩, A50, H⟩ := H
 replace H : ((pack_Put.f k t139 t140 t141 t142).bind fun bt145 => (if bt145.2 = 0 then (if (bt145.1.size : Int) > 4096 then (some ((⟨#[]⟩ : ByteArray), 5)) else (some (bt145.1, 0))) else (some ((⟨#[]⟩ : ByteArray), bt145.2)))) = some (r1, r2) := H
 have A5 := Aside0.mk A50
 clear A50
 replace H := Option.bind_eq_some_iff.mp H
 obtain ⟨⟨t145, t146⟩, A60, H⟩ := H
 replace H : (if t146 = 0 then (if (t145.size : Int) > 4096 then (some ((⟨#[]⟩ : ByteArray), 5)) else (some (t145, 0))) else (some ((⟨#[]⟩ : ByteArray), t146))) = some (r1, r2) := H
 have A6 := Aside0.mk A60
 clear A60
 by_cases c7 : t146 = 0
 ·rw [if_pos c7] at H
  have c7b0 : (t146 == 0) = true := beq_iff_eq.mpr c7
  have c7b1 : (t146 != 0) = false := bne_eq_false_iff_eq.mpr c7
  clear c7
  by_cases c8 : (t145.size : Int) > 4096
  ·rw [if_pos c8] at H
   have c8b0 : decide (4096 < (t145.size : Int)) = true := decide_eq_true c8
   have c8b1 : decide (4096 < t145.size) = true := decide_eq_true (by omega)
   clear c8
   simp only [Option.some.injEq, Prod.mk.injEq] at H
   obtain ⟨rfl, rfl⟩ := H
   go_enter Try.func29, Try.ntmps29
   try go_wp2_with (first | ((with_reducible refine gate_dst (N := 1) rfl ?_); refine box_event ?hg (N := 1) ?hd (cs := #[.string a0_0, .int .i64 a0_1, .slice A0_2 l0_2.length c0_2]) (t := 75) ?hr ?_; (case hd => rfl); (case hg => rfl); (case hr => first | (go_simp; done) | (go_simp; rfl)); intro gb117 hg w9 hbox hb; have n0_ := Aside0.mk (below_step bb hb); have n1_ := Aside0.mk (hbox); have n2_ := Aside0.mk ((by rw [hg]; exact (below_size bb) : w.heap.size ≤ gb117)); have n3_ := Aside0.mk ((by rw [hg]; exact (below_size bb) : w.heap.size ≤ gb117)); clear HB; have HB := n0_; have BK117 := n1_; have GW117 := n2_; have GE117 := n3_; clear n0_ n1_ n2_ n3_; clear hb hbox hg))
   have n0_ := Aside0.mk (blk_drew BK117.out)
   have n1_ := Aside0.mk (below_drew1 HB.out)
   clear BK117
   clear HB
   have BK117 := n0_
   have HB := n1_
   clear n0_ n1_
   refine start_ (n := 17) (S := fun w' => w'.cell? ⟨gb117, 0, none⟩ = some (.string a0_0) ∧ w'.cell? ⟨gb117, 1, none⟩ = some (.int .i64 a0_1) ∧ w'.cell? ⟨gb117, 2, none⟩ = some (.slice A0_2 l0_2.length c0_2)) (ds := []) #[false, false, false, false, false, false, false, false, false, false, false, false, false, false, false, false, false] (by kernel_rfl) rfl rfl ⟨(blk_cell BK117.out 0).trans rfl, (blk_cell BK117.out 1).trans rfl, (blk_cell BK117.out 2).trans rfl⟩ (fun hHeld => ?_); refine with_tabW op_Put.tab1 op_Put.bits1 (fun HT_ HW_ => ?_)
   generalize w9.drew = w10 at BK117 HB hHeld ⊢
   refine pure_ (i := 0) (N := some 7) (v := ?_) (a' := ?_) #[true, false, false, false, false, false, false, false, false, false, false, false, false, false, false, false, false] rfl rfl (any_of HT_.out (by kernel_rfl)) (fun _ _ _ h => h) (Or.inl ⟨by rfl, ?_⟩) ?_ ?_
   rotate_left
   ·intro w'
    go_simp
    with_reducible rfl
   rotate_left
   ·simp only [Act.put, List.setIfInBounds_toArray, List.set_cons_zero, List.set_cons_succ, i64_w, i32_w]
    rfl
   refine pure_ (i := 3) (N := some 10) (v := ?_) (a' := ?_) #[true, false, false, true, false, false, false, false, false, false, false, false, false, false, false, false, false] rfl rfl (any_of HT_.out (by kernel_rfl)) (fun _ _ _ h => h) (Or.inl ⟨by rfl, ?_⟩) ?_ ?_
   rotate_left
   ·intro w'
    go_simp
    with_reducible rfl
   rotate_left
   ·simp only [Act.put, List.setIfInBounds_toArray, List.set_cons_zero, List.set_cons_succ, i64_w, i32_w]
    rfl
   refine pure_ (i := 6) (N := some 13) (v := ?_) (a' := ?_) #[true, false, false, true, false, false, true, false, false, false, false, false, false, false, false, false, false] rfl rfl (any_of HT_.out (by kernel_rfl)) (fun _ _ _ h => h) (Or.inl ⟨by rfl, ?_⟩) ?_ ?_
   rotate_left
   ·intro w'
    go_simp
    with_reducible rfl
   rotate_left
   ·simp only [Act.put, List.setIfInBounds_toArray, List.set_cons_zero, List.set_cons_succ, i64_w, i32_w]
    rfl
   refine take_ (i := 1) (N := some 8) (v := ?_) (a' := ?_) #[true, true, false, true, false, false, true, false, false, false, false, false, false, false, false, false, false] rfl rfl (take_ofW HT_.out HW_.out (by kernel_rfl)) (fun _ _ _ h => h) (Or.inl ⟨by rfl, ?_⟩) hHeld ?_ ?_
   rotate_left
   ·rintro w' ⟨s0, s1, s2⟩
    go_simp
    with_reducible rfl
   rotate_left
   ·simp only [Act.put, List.setIfInBounds_toArray, List.set_cons_zero, List.set_cons_succ, i64_w, i32_w]
    rfl
   refine take_ (i := 4) (N := some 11) (v := ?_) (a' := ?_) #[true, true, false, true, true, false, true, false, false, false, false, false, false, false, false, false, false] rfl rfl (take_ofW HT_.out HW_.out (by kernel_rfl)) (fun _ _ _ h => h) (Or.inl ⟨by rfl, ?_⟩) hHeld ?_ ?_
   rotate_left
   ·rintro w' ⟨s0, s1, s2⟩
    go_simp
    with_reducible rfl
   rotate_left
   ·simp only [Act.put, List.setIfInBounds_toArray, List.set_cons_zero, List.set_cons_succ, i64_w, i32_w]
    rfl
   refine take_ (i := 7) (N := some 14) (v := ?_) (a' := ?_) #[true, true, false, true, true, false, true, true, false, false, false, false, false, false, false, false, false] rfl rfl (take_ofW HT_.out HW_.out (by kernel_rfl)) (fun _ _ _ h => h) (Or.inl ⟨by rfl, ?_⟩) hHeld ?_ ?_
   rotate_left
   ·rintro w' ⟨s0, s1, s2⟩
    go_simp
    with_reducible rfl
   rotate_left
   ·simp only [Act.put, List.setIfInBounds_toArray, List.set_cons_zero, List.set_cons_succ, i64_w, i32_w]
    rfl
   refine one_ (i := 2) (N := some 9) #[true, true, true, true, true, false, true, true, false, false, false, false, false, false, false, false, false] rfl rfl (one_of HT_.out (by kernel_rfl)) (by decide) (fun K hK => ?_)
   refine goes_ Try.func64 (by kernel_rfl) rfl #[.string a0_0] (by rfl) rfl rfl ag ?_
   with_reducible refine (pack_Str.calls a0_0 t118 t119 t120 t121 _ A2.out).mono ?_
   rintro e w11 ⟨v122, rfl, ho0, hb⟩
   refine ⟨_, rfl, ?_⟩
   have n0_ := Aside0.mk (Kd.N_lower (Kd.N_mono (ok' := fun k_ => k_ ≠ gb117) (Kd.R_N (Kd.R_bound ho0)) (fun k_ hk_ => (Kd.freshB (rb BK117.out) k_ hk_.2.1))) (below_size bb))
   have n1_ := Aside0.mk (blk_below (rb BK117.out) hb)
   have n2_ := Aside0.mk (below_step bb hb)
   clear BK117
   clear HB
   have HO123 := n0_
   have BK117 := n1_
   have HB := n2_
   clear n0_ n1_ n2_
   (try clear hb)
   (try clear hb2)
   (try clear hk)
   (try clear hi)
   (try clear ho0)
   refine hK.out _ _ ⟨(blk_cell BK117.out 0).trans rfl, (blk_cell BK117.out 1).trans rfl, (blk_cell BK117.out 2).trans rfl⟩ (fun hHeld => ?_)
   clear hK K
   refine norm_ (a' := ?_) ?_ ?_
   rotate_left
   ·show Act.put _ (some 9) _ = _
    simp only [Act.put, List.setIfInBounds_toArray, List.set_cons_zero, List.set_cons_succ, i64_w, i32_w]
    rfl
   refine one_ (i := 5) (N := some 12) #[true, true, true, true, true, true, true, true, false, false, false, false, false, false, false, false, false] rfl rfl (one_of HT_.out (by kernel_rfl)) (by decide) (fun K hK => ?_)
   refine goes_ Try.func48 (by kernel_rfl) rfl #[.int .i64 a0_1] (by rfl) rfl rfl ag ?_
   with_reducible refine (pack_Num.calls a0_1 t124 t125 t126 t127 _ A3.out).mono ?_
   rintro e w12 ⟨v128, rfl, ho0, hb⟩
   refine ⟨_, rfl, ?_⟩
   have n0_ := Aside0.mk (Kd.N_elder' (kN HO123.out) (by first | exact Kd.N_base ho0 | exact Kd.N_base (Kd.R_N ho0)) hb)
   have n1_ := Aside0.mk (Kd.N_lower (Kd.N_mono (ok' := fun k_ => some k_ ≠ (v122 : Value).ownBlock ∧ k_ ≠ gb117) (Kd.R_N (Kd.R_bound ho0)) (fun k_ hk_ => ⟨(Kd.fresh' (Kd.N_lt (kN HO123.out)) k_ hk_.2.1), (Kd.freshB (rb BK117.out) k_ hk_.2.1)⟩)) (below_size bb))
   have n2_ := Aside0.mk (blk_below (rb BK117.out) hb)
   have n3_ := Aside0.mk (below_step bb hb)
   clear HO123
   clear BK117
   clear HB
   have HO123 := n0_
   have HO129 := n1_
   have BK117 := n2_
   have HB := n3_
   clear n0_ n1_ n2_ n3_
   (try clear hb)
   (try clear hb2)
   (try clear hk)
   (try clear hi)
   (try clear ho0)
   refine hK.out _ _ ⟨(blk_cell BK117.out 0).trans rfl, (blk_cell BK117.out 1).trans rfl, (blk_cell BK117.out 2).trans rfl⟩ (fun hHeld => ?_)
   clear hK K
   refine norm_ (a' := ?_) ?_ ?_
   rotate_left
   ·show Act.put _ (some 12) _ = _
    simp only [Act.put, List.setIfInBounds_toArray, List.set_cons_zero, List.set_cons_succ, i64_w, i32_w]
    rfl
   refine one_ (i := 8) (N := some 15) #[true, true, true, true, true, true, true, true, true, false, false, false, false, false, false, false, false] rfl rfl (one_of HT_.out (by kernel_rfl)) (by decide) (fun K hK => ?_)
   refine goes_ Try.func40 (by kernel_rfl) rfl #[.slice A0_2 l0_2.length c0_2] (by rfl) rfl rfl ag ?_
   with_reducible refine (pack_All.calls (fun k_ => k_ < w.heap.size) _ _ l0_2 t130 t131 t132 t133 _ ?side1 A4.out).mono ?_
   (case side1 => exact Kd.V_mk HC0_2.out (Kd.F_below (Kd.C_F k54_heap HR0_2.out) bb))
   rintro e w13 ⟨v134, rfl, ho0, hb⟩
   refine ⟨_, rfl, ?_⟩
   have n0_ := Aside0.mk (Kd.N_elder' (kN HO123.out) (by first | exact Kd.N_base ho0 | exact Kd.N_base (Kd.R_N ho0)) hb)
   have n1_ := Aside0.mk (Kd.N_elder' (kN HO129.out) (by first | exact Kd.N_base ho0 | exact Kd.N_base (Kd.R_N ho0)) hb)
   have n2_ := Aside0.mk (Kd.N_lower (Kd.N_mono (ok' := fun k_ => some k_ ≠ (v122 : Value).ownBlock ∧ some k_ ≠ (v128 : Value).ownBlock ∧ k_ ≠ gb117) ho0 (fun k_ hk_ => ⟨Or.elim hk_ (fun hs_ => fun e_ => Nat.not_le.2 hs_ (Kd.N_base HO123.out k_ e_.symm)) (fun hn_ => (Kd.fresh' (Kd.N_lt (kN HO123.out)) k_ hn_)), Or.elim hk_ (fun hs_ => fun e_ => Nat.not_le.2 hs_ (Kd.N_base HO129.out k_ e_.symm)) (fun hn_ => (Kd.fresh' (Kd.N_lt (kN HO129.out)) k_ hn_)), Or.elim hk_ (fun hs_ => fun e_ => Nat.not_le.2 hs_ (by rw [e_]; exact GW117.out)) (fun hn_ => (Kd.freshB (rb BK117.out) k_ hn_))⟩)) (below_size bb))
   have n3_ := Aside0.mk (blk_below (rb BK117.out) hb)
   have n4_ := Aside0.mk (below_step bb hb)
   clear HO123
   clear HO129
   clear BK117
   clear HB
   have HO123 := n0_
   have HO129 := n1_
   have HO135 := n2_
   have BK117 := n3_
   have HB := n4_
   clear n0_ n1_ n2_ n3_ n4_
   (try clear hb)
   (try clear hb2)
   (try clear hk)
   (try clear hi)
   (try clear ho0)
   obtain ⟨Ao14, co14, eo14⟩ := Kd.N_slice HO123.out
   (first | subst eo14 | (injection eo14 with f1_ f2_ f3_; have f4_ := f1_.symm; have f5_ := f3_.symm; clear f1_ f2_ f3_; subst f4_; subst f5_))
   obtain ⟨Ao15, co15, eo15⟩ := Kd.N_slice HO129.out
   (first | subst eo15 | (injection eo15 with f1_ f2_ f3_; have f4_ := f1_.symm; have f5_ := f3_.symm; clear f1_ f2_ f3_; subst f4_; subst f5_))
   obtain ⟨Ao16, co16, eo16⟩ := Kd.N_slice HO135.out
   (first | subst eo16 | (injection eo16 with f1_ f2_ f3_; have f4_ := f1_.symm; have f5_ := f3_.symm; clear f1_ f2_ f3_; subst f4_; subst f5_))
   refine hK.out _ _ ⟨(blk_cell BK117.out 0).trans rfl, (blk_cell BK117.out 1).trans rfl, (blk_cell BK117.out 2).trans rfl⟩ (fun hHeld => ?_)
   clear hK K
   refine norm_ (a' := ?_) ?_ ?_
   rotate_left
   ·show Act.put _ (some 15) _ = _
    simp only [Act.put, List.setIfInBounds_toArray, List.set_cons_zero, List.set_cons_succ, i64_w, i32_w]
    rfl
   refine one_ (i := 9) (N := some 16) #[true, true, true, true, true, true, true, true, true, true, false, false, false, false, false, false, false] rfl rfl (one_of HT_.out (by kernel_rfl)) (by decide) (fun K hK => ?_)
   refine Kd.N_lit_step k54 _ 54 ?hg (N' := 16) ?hd (xs := ([(⟨t118, t119, t120, t121⟩ : S54), (⟨t124, t125, t126, t127⟩ : S54), (⟨t130, t131, t132, t133⟩ : S54)] : List (S54))) (inner := [.int .i64 t118, .int .i64 t119, .string t120, .slice Ao14 t121.length co14, .int .i64 t124, .int .i64 t125, .string t126, .slice Ao15 t127.length co15, .int .i64 t130, .int .i64 t131, .string t132, .slice Ao16 t133.length co16]) (ok := (fun k_ => k_ ≠ gb117)) (okp := (fun k_ => k_ ≠ gb117)) ?hr ?hp (fun _ hk => hk) ((show ∀ k_, w13.heap.size ≤ k_ → (fun k_ => k_ ≠ gb117) k_ from fun k_ hk => Kd.freshB (rb BK117.out) k_ hk) _ (Nat.le_refl _)) (Below.refl _ _) (Nat.le_refl _) (by simp) ?_; (case hd => rfl); (case hg => rfl); (case hr => first | (go_simp; done) | (go_simp; rfl)); (case hp => exact (Reps.c4 (show Kd.FK k54 _ _ (⟨t118, t119, t120, t121⟩ : S54) [.int .i64 t118, .int .i64 t119, .string t120, .slice Ao14 t121.length co14] from (k54_mkF _ _ (⟨t118, t119, t120, t121⟩ : S54) (Kd.N_reads' (Kd.N_mono (ok' := (fun k_ => k_ ≠ gb117)) (HO123.out) (fun k_ hk => hk.1.1))).2.1 (Kd.N_F (Kd.N_mono (ok' := (fun k_ => k_ ≠ gb117)) (HO123.out) (fun k_ hk => hk.1.1))))) (Reps.c4 (show Kd.FK k54 _ _ (⟨t124, t125, t126, t127⟩ : S54) [.int .i64 t124, .int .i64 t125, .string t126, .slice Ao15 t127.length co15] from (k54_mkF _ _ (⟨t124, t125, t126, t127⟩ : S54) (Kd.N_reads' (Kd.N_mono (ok' := (fun k_ => k_ ≠ gb117)) (HO129.out) (fun k_ hk => hk.1.2))).2.1 (Kd.N_F (Kd.N_mono (ok' := (fun k_ => k_ ≠ gb117)) (HO129.out) (fun k_ hk => hk.1.2))))) (Reps.c4 (show Kd.FK k54 _ _ (⟨t130, t131, t132, t133⟩ : S54) [.int .i64 t130, .int .i64 t131, .string t132, .slice Ao16 t133.length co16] from (k54_mkF _ _ (⟨t130, t131, t132, t133⟩ : S54) (Kd.N_reads' (Kd.N_mono (ok' := (fun k_ => k_ ≠ gb117)) (HO135.out) (fun k_ hk => hk.2.2))).2.1 (Kd.N_F (Kd.N_mono (ok' := (fun k_ => k_ ≠ gb117)) (HO135.out) (fun k_ hk => hk.2.2))))) (Reps.none _ _)))))
   intro v137 w17 ho18 hb hg_ hnew_
   clear hg_ hnew_
   (first | rw [← Ny136.out] at ho18 | (simp only [Int.reduceToNat] at ho18; rw [← Ny136.out] at ho18))
   have n0_ := Aside0.mk (Kd.N_lower ho18 (below_size bb))
   have n1_ := Aside0.mk (blk_below (rb BK117.out) hb)
   have n2_ := Aside0.mk (below_step bb hb)
   clear BK117
   clear HB
   clear HO123
   clear HO129
   clear HO135
   have HO138 := n0_
   have BK117 := n1_
   have HB := n2_
   clear n0_ n1_ n2_
   clear hb ho18
   obtain ⟨Ao19, co19, eo19⟩ := Kd.N_slice HO138.out
   (first | subst eo19 | (injection eo19 with f1_ f2_ f3_; have f4_ := f1_.symm; have f5_ := f3_.symm; clear f1_ f2_ f3_; subst f4_; subst f5_))
   refine hK.out _ _ ⟨(blk_cell BK117.out 0).trans rfl, (blk_cell BK117.out 1).trans rfl, (blk_cell BK117.out 2).trans rfl⟩ (fun hHeld => ?_)
   clear hK K
   refine norm_ (a' := ?_) ?_ ?_
   rotate_left
   ·show Act.put _ (some 16) _ = _
    simp only [Act.put, List.setIfInBounds_toArray, List.set_cons_zero, List.set_cons_succ, i64_w, i32_w]
    rfl
   refine one_ (i := 10) (N := some 17) #[true, true, true, true, true, true, true, true, true, true, true, false, false, false, false, false, false] rfl rfl (one_of HT_.out (by kernel_rfl)) (by decide) (fun K hK => ?_)
   refine goes_ Try.func40 (by kernel_rfl) rfl #[.slice Ao19 y136.length co19] (by rfl) rfl rfl ag ?_
   with_reducible refine (pack_All.calls (fun k_ => k_ ≠ gb117) _ _ y136 t139 t140 t141 t142 _ ?side1 A5.out).mono ?_
   (case side1 => exact Kd.N_V (HO138.out))
   rintro e w20 ⟨v143, rfl, ho0, hb⟩
   refine ⟨_, rfl, ?_⟩
   have n0_ := Aside0.mk (Kd.N_elder' (kN HO138.out) (by first | exact Kd.N_base ho0 | exact Kd.N_base (Kd.R_N ho0)) hb)
   have n1_ := Aside0.mk (Kd.N_lower (Kd.N_mono (ok' := fun k_ => k_ ≠ gb117) ho0 (fun k_ hk_ => Or.elim hk_ (fun hs_ => hs_) (fun hn_ => (Kd.freshB (rb BK117.out) k_ hn_)))) (below_size bb))
   have n2_ := Aside0.mk (blk_below (rb BK117.out) hb)
   have n3_ := Aside0.mk (below_step bb hb)
   clear HO138
   clear BK117
   clear HB
   have HO138 := n0_
   have HO144 := n1_
   have BK117 := n2_
   have HB := n3_
   clear n0_ n1_ n2_ n3_
   (try clear hb)
   (try clear hb2)
   (try clear hk)
   (try clear hi)
   (try clear ho0)
   obtain ⟨Ao21, co21, eo21⟩ := Kd.N_slice HO144.out
   (first | subst eo21 | (injection eo21 with f1_ f2_ f3_; have f4_ := f1_.symm; have f5_ := f3_.symm; clear f1_ f2_ f3_; subst f4_; subst f5_))
   refine hK.out _ _ ⟨(blk_cell BK117.out 0).trans rfl, (blk_cell BK117.out 1).trans rfl, (blk_cell BK117.out 2).trans rfl⟩ (fun hHeld => ?_)
   clear hK K
   refine norm_ (a' := ?_) ?_ ?_
   rotate_left
   ·show Act.put _ (some 17) _ = _
    simp only [Act.put, List.setIfInBounds_toArray, List.set_cons_zero, List.set_cons_succ, i64_w, i32_w]
    rfl
   refine one_ (i := 11) (N := some 18) #[true, true, true, true, true, true, true, true, true, true, true, true, false, false, false, false, false] rfl rfl (one_of HT_.out (by kernel_rfl)) (by decide) (fun K hK => ?_)
   refine goes_ Try.func70 (by kernel_rfl) rfl #[.agg #[.int .i64 t139, .int .i64 t140, .string t141, .slice Ao21 t142.length co21]] (by rfl) rfl rfl ag ?_
   with_reducible refine (pack_Put.calls k t139 t140 t141 _ _ t142 t145 t146 _ ?side1 ?side2 A6.out).mono ?_
   (case side1 => repeat (first | exact (Kd.N_reads' HO144.out).2.2 | (with_reducible refine Kd.C_alloc ?_ _) | (with_reducible refine Kd.C_drewN ?_ _) | (with_reducible refine Kd.C_drew ?_)))
   (case side2 => exact (Kd.N_reads' HO144.out).2.1)
   rintro e w22 ⟨rfl, hb⟩
   refine ⟨_, rfl, ?_⟩
   have n0_ := Aside0.mk (Kd.N_below (kN HO138.out) hb)
   have n1_ := Aside0.mk (Kd.N_below (kN HO144.out) hb)
   have n2_ := Aside0.mk (blk_below (rb BK117.out) hb)
   have n3_ := Aside0.mk (below_step bb hb)
   clear HO138
   clear HO144
   clear BK117
   clear HB
   have HO138 := n0_
   have HO144 := n1_
   have BK117 := n2_
   have HB := n3_
   clear n0_ n1_ n2_ n3_
   (try clear hb)
   (try clear hb2)
   (try clear hk)
   (try clear hi)
   refine hK.out _ _ ⟨(blk_cell BK117.out 0).trans rfl, (blk_cell BK117.out 1).trans rfl, (blk_cell BK117.out 2).trans rfl⟩ (fun hHeld => ?_)
   clear hK K
   refine norm_ (a' := ?_) ?_ ?_
   rotate_left
   ·show Act.put _ (some 18) _ = _
    simp only [Act.put, List.setIfInBounds_toArray, List.set_cons_zero, List.set_cons_succ, i64_w, i32_w]
    rfl
   refine pure_ (i := 12) (N := some 6) (v := ?_) (a' := ?_) #[true, true, true, true, true, true, true, true, true, true, true, true, true, false, false, false, false] rfl rfl (any_of HT_.out (by kernel_rfl)) (fun _ _ _ h => h) (Or.inl ⟨by rfl, ?_⟩) ?_ ?_
   rotate_left
   ·intro w'
    go_simp
    with_reducible rfl
   rotate_left
   ·simp only [Act.put, List.setIfInBounds_toArray, List.set_cons_zero, List.set_cons_succ, i64_w, i32_w]
    rfl
   refine pure_ (i := 13) (N := some 19) (v := ?_) (a' := ?_) #[true, true, true, true, true, true, true, true, true, true, true, true, true, true, false, false, false] rfl rfl (any_of HT_.out (by kernel_rfl)) (fun _ _ _ h => h) (Or.inl ⟨by rfl, ?_⟩) ?_ ?_
   rotate_left
   ·intro w'
    go_simp
    with_reducible rfl
   rotate_left
   ·simp only [Act.put, List.setIfInBounds_toArray, List.set_cons_zero, List.set_cons_succ, i64_w, i32_w]
    rfl
   refine pure_ (i := 14) (N := some 20) (v := ?_) (a' := ?_) #[true, true, true, true, true, true, true, true, true, true, true, true, true, true, true, false, false] rfl rfl (any_of HT_.out (by kernel_rfl)) (fun _ _ _ h => h) (Or.inl ⟨by rfl, ?_⟩) ?_ ?_
   rotate_left
   ·intro w'
    go_simp
    with_reducible rfl
   rotate_left
   ·simp only [Act.put, List.setIfInBounds_toArray, List.set_cons_zero, List.set_cons_succ, i64_w, i32_w]
    rfl
   refine pure_ (i := 15) (N := some 4) (v := ?_) (a' := ?_) #[true, true, true, true, true, true, true, true, true, true, true, true, true, true, true, true, false] rfl rfl (any_of HT_.out (by kernel_rfl)) (fun _ _ _ h => h) (Or.inl ⟨by rfl, ?_⟩) ?_ ?_
   rotate_left
   ·intro w'
    go_simp
    with_reducible rfl
   rotate_left
   ·simp only [Act.put, List.setIfInBounds_toArray, List.set_cons_zero, List.set_cons_succ, i64_w, i32_w]
    rfl
   refine pure_ (i := 16) (N := some 5) (v := ?_) (a' := ?_) #[true, true, true, true, true, true, true, true, true, true, true, true, true, true, true, true, true] rfl rfl (any_of HT_.out (by kernel_rfl)) (fun _ _ _ h => h) (Or.inl ⟨by rfl, ?_⟩) ?_ ?_
   rotate_left
   ·intro w'
    go_simp
    with_reducible rfl
   rotate_left
   ·simp only [Act.put, List.setIfInBounds_toArray, List.set_cons_zero, List.set_cons_succ, i64_w, i32_w]
    rfl
   refine done_ (done_of HT_.out (by kernel_rfl)) ?_
   try go_wp2
   go_ret2
   exact ⟨by first | rfl | (simp [errW_none, errW_some] <;> rfl) | (simp [*, errW_none, errW_some] <;> rfl), bb⟩
  ·rw [if_neg c8] at H
   have c8b0 : decide (4096 < (t145.size : Int)) = false := decide_eq_false c8
   have c8b1 : decide (4096 < t145.size) = false := decide_eq_false (by omega)
   clear c8
   simp only [Option.some.injEq, Prod.mk.injEq] at H
   obtain ⟨rfl, rfl⟩ := H
   go_enter Try.func29, Try.ntmps29
   try go_wp2_with (first | ((with_reducible refine gate_dst (N := 1) rfl ?_); refine box_event ?hg (N := 1) ?hd (cs := #[.string a0_0, .int .i64 a0_1, .slice A0_2 l0_2.length c0_2]) (t := 75) ?hr ?_; (case hd => rfl); (case hg => rfl); (case hr => first | (go_simp; done) | (go_simp; rfl)); intro gb117 hg w23 hbox hb; have n0_ := Aside0.mk (below_step bb hb); have n1_ := Aside0.mk (hbox); have n2_ := Aside0.mk ((by rw [hg]; exact (below_size bb) : w.heap.size ≤ gb117)); have n3_ := Aside0.mk ((by rw [hg]; exact (below_size bb) : w.heap.size ≤ gb117)); clear HB; have HB := n0_; have BK117 := n1_; have GW117 := n2_; have GE117 := n3_; clear n0_ n1_ n2_ n3_; clear hb hbox hg))
   have n0_ := Aside0.mk (blk_drew BK117.out)
   have n1_ := Aside0.mk (below_drew1 HB.out)
   clear BK117
   clear HB
   have BK117 := n0_
   have HB := n1_
   clear n0_ n1_
   refine start_ (n := 17) (S := fun w' => w'.cell? ⟨gb117, 0, none⟩ = some (.string a0_0) ∧ w'.cell? ⟨gb117, 1, none⟩ = some (.int .i64 a0_1) ∧ w'.cell? ⟨gb117, 2, none⟩ = some (.slice A0_2 l0_2.length c0_2)) (ds := []) #[false, false, false, false, false, false, false, false, false, false, false, false, false, false, false, false, false] (by kernel_rfl) rfl rfl ⟨(blk_cell BK117.out 0).trans rfl, (blk_cell BK117.out 1).trans rfl, (blk_cell BK117.out 2).trans rfl⟩ (fun hHeld => ?_); refine with_tabW op_Put.tab1 op_Put.bits1 (fun HT_ HW_ => ?_)
   generalize w23.drew = w24 at BK117 HB hHeld ⊢
   refine pure_ (i := 0) (N := some 7) (v := ?_) (a' := ?_) #[true, false, false, false, false, false, false, false, false, false, false, false, false, false, false, false, false] rfl rfl (any_of HT_.out (by kernel_rfl)) (fun _ _ _ h => h) (Or.inl ⟨by rfl, ?_⟩) ?_ ?_
   rotate_left
   ·intro w'
    go_simp
    with_reducible rfl
   rotate_left
   ·simp only [Act.put, List.setIfInBounds_toArray, List.set_cons_zero, List.set_cons_succ, i64_w, i32_w]
    rfl
   refine pure_ (i := 3) (N := some 10) (v := ?_) (a' := ?_) #[true, false, false, true, false, false, false, false, false, false, false, false, false, false, false, false, false] rfl rfl (any_of HT_.out (by kernel_rfl)) (fun _ _ _ h => h) (Or.inl ⟨by rfl, ?_⟩) ?_ ?_
   rotate_left
   ·intro w'
    go_simp
    with_reducible rfl
   rotate_left
   ·simp only [Act.put, List.setIfInBounds_toArray, List.set_cons_zero, List.set_cons_succ, i64_w, i32_w]
    rfl
   refine pure_ (i := 6) (N := some 13) (v := ?_) (a' := ?_) #[true, false, false, true, false, false, true, false, false, false, false, false, false, false, false, false, false] rfl rfl (any_of HT_.out (by kernel_rfl)) (fun _ _ _ h => h) (Or.inl ⟨by rfl, ?_⟩) ?_ ?_
   rotate_left
   ·intro w'
    go_simp
    with_reducible rfl
   rotate_left
   ·simp only [Act.put, List.setIfInBounds_toArray, List.set_cons_zero, List.set_cons_succ, i64_w, i32_w]
    rfl
   refine take_ (i := 1) (N := some 8) (v := ?_) (a' := ?_) #[true, true, false, true, false, false, true, false, false, false, false, false, false, false, false, false, false] rfl rfl (take_ofW HT_.out HW_.out (by kernel_rfl)) (fun _ _ _ h => h) (Or.inl ⟨by rfl, ?_⟩) hHeld ?_ ?_
   rotate_left
   ·rintro w' ⟨s0, s1, s2⟩
    go_simp
    with_reducible rfl
   rotate_left
   ·simp only [Act.put, List.setIfInBounds_toArray, List.set_cons_zero, List.set_cons_succ, i64_w, i32_w]
    rfl
   refine take_ (i := 4) (N := some 11) (v := ?_) (a' := ?_) #[true, true, false, true, true, false, true, false, false, false, false, false, false, false, false, false, false] rfl rfl (take_ofW HT_.out HW_.out (by kernel_rfl)) (fun _ _ _ h => h) (Or.inl ⟨by rfl, ?_⟩) hHeld ?_ ?_
   rotate_left
   ·rintro w' ⟨s0, s1, s2⟩
    go_simp
    with_reducible rfl
   rotate_left
   ·simp only [Act.put, List.setIfInBounds_toArray, List.set_cons_zero, List.set_cons_succ, i64_w, i32_w]
    rfl
   refine take_ (i := 7) (N := some 14) (v := ?_) (a' := ?_) #[true, true, false, true, true, false, true, true, false, false, false, false, false, false, false, false, false] rfl rfl (take_ofW HT_.out HW_.out (by kernel_rfl)) (fun _ _ _ h => h) (Or.inl ⟨by rfl, ?_⟩) hHeld ?_ ?_
   rotate_left
   ·rintro w' ⟨s0, s1, s2⟩
    go_simp
    with_reducible rfl
   rotate_left
   ·simp only [Act.put, List.setIfInBounds_toArray, List.set_cons_zero, List.set_cons_succ, i64_w, i32_w]
    rfl
   refine one_ (i := 2) (N := some 9) #[true, true, true, true, true, false, true, true, false, false, false, false, false, false, false, false, false] rfl rfl (one_of HT_.out (by kernel_rfl)) (by decide) (fun K hK => ?_)
   refine goes_ Try.func64 (by kernel_rfl) rfl #[.string a0_0] (by rfl) rfl rfl ag ?_
   with_reducible refine (pack_Str.calls a0_0 t118 t119 t120 t121 _ A2.out).mono ?_
   rintro e w25 ⟨v122, rfl, ho0, hb⟩
   refine ⟨_, rfl, ?_⟩
   have n0_ := Aside0.mk (Kd.N_lower (Kd.N_mono (ok' := fun k_ => k_ ≠ gb117) (Kd.R_N (Kd.R_bound ho0)) (fun k_ hk_ => (Kd.freshB (rb BK117.out) k_ hk_.2.1))) (below_size bb))
   have n1_ := Aside0.mk (blk_below (rb BK117.out) hb)
   have n2_ := Aside0.mk (below_step bb hb)
   clear BK117
   clear HB
   have HO123 := n0_
   have BK117 := n1_
   have HB := n2_
   clear n0_ n1_ n2_
   (try clear hb)
   (try clear hb2)
   (try clear hk)
   (try clear hi)
   (try clear ho0)
   refine hK.out _ _ ⟨(blk_cell BK117.out 0).trans rfl, (blk_cell BK117.out 1).trans rfl, (blk_cell BK117.out 2).trans rfl⟩ (fun hHeld => ?_)
   clear hK K
   refine norm_ (a' := ?_) ?_ ?_
   rotate_left
   ·show Act.put _ (some 9) _ = _
    simp only [Act.put, List.setIfInBounds_toArray, List.set_cons_zero, List.set_cons_succ, i64_w, i32_w]
    rfl
   refine one_ (i := 5) (N := some 12) #[true, true, true, true, true, true, true, true, false, false, false, false, false, false, false, false, false] rfl rfl (one_of HT_.out (by kernel_rfl)) (by decide) (fun K hK => ?_)
   refine goes_ Try.func48 (by kernel_rfl) rfl #[.int .i64 a0_1] (by rfl) rfl rfl ag ?_
   with_reducible refine (pack_Num.calls a0_1 t124 t125 t126 t127 _ A3.out).mono ?_
   rintro e w26 ⟨v128, rfl, ho0, hb⟩
   refine ⟨_, rfl, ?_⟩
   have n0_ := Aside0.mk (Kd.N_elder' (kN HO123.out) (by first | exact Kd.N_base ho0 | exact Kd.N_base (Kd.R_N ho0)) hb)
   have n1_ := Aside0.mk (Kd.N_lower (Kd.N_mono (ok' := fun k_ => some k_ ≠ (v122 : Value).ownBlock ∧ k_ ≠ gb117) (Kd.R_N (Kd.R_bound ho0)) (fun k_ hk_ => ⟨(Kd.fresh' (Kd.N_lt (kN HO123.out)) k_ hk_.2.1), (Kd.freshB (rb BK117.out) k_ hk_.2.1)⟩)) (below_size bb))
   have n2_ := Aside0.mk (blk_below (rb BK117.out) hb)
   have n3_ := Aside0.mk (below_step bb hb)
   clear HO123
   clear BK117
   clear HB
   have HO123 := n0_
   have HO129 := n1_
   have BK117 := n2_
   have HB := n3_
   clear n0_ n1_ n2_ n3_
   (try clear hb)
   (try clear hb2)
   (try clear hk)
   (try clear hi)
   (try clear ho0)
   refine hK.out _ _ ⟨(blk_cell BK117.out 0).trans rfl, (blk_cell BK117.out 1).trans rfl, (blk_cell BK117.out 2).trans rfl⟩ (fun hHeld => ?_)
   clear hK K
   refine norm_ (a' := ?_) ?_ ?_
   rotate_left
   ·show Act.put _ (some 12) _ = _
    simp only [Act.put, List.setIfInBounds_toArray, List.set_cons_zero, List.set_cons_succ, i64_w, i32_w]
    rfl
   refine one_ (i := 8) (N := some 15) #[true, true, true, true, true, true, true, true, true, false, false, false, false, false, false, false, false] rfl rfl (one_of HT_.out (by kernel_rfl)) (by decide) (fun K hK => ?_)
   refine goes_ Try.func40 (by kernel_rfl) rfl #[.slice A0_2 l0_2.length c0_2] (by rfl) rfl rfl ag ?_
   with_reducible refine (pack_All.calls (fun k_ => k_ < w.heap.size) _ _ l0_2 t130 t131 t132 t133 _ ?side1 A4.out).mono ?_
   (case side1 => exact Kd.V_mk HC0_2.out (Kd.F_below (Kd.C_F k54_heap HR0_2.out) bb))
   rintro e w27 ⟨v134, rfl, ho0, hb⟩
   refine ⟨_, rfl, ?_⟩
   have n0_ := Aside0.mk (Kd.N_elder' (kN HO123.out) (by first | exact Kd.N_base ho0 | exact Kd.N_base (Kd.R_N ho0)) hb)
   have n1_ := Aside0.mk (Kd.N_elder' (kN HO129.out) (by first | exact Kd.N_base ho0 | exact Kd.N_base (Kd.R_N ho0)) hb)
   have n2_ := Aside0.mk (Kd.N_lower (Kd.N_mono (ok' := fun k_ => some k_ ≠ (v122 : Value).ownBlock ∧ some k_ ≠ (v128 : Value).ownBlock ∧ k_ ≠ gb117) ho0 (fun k_ hk_ => ⟨Or.elim hk_ (fun hs_ => fun e_ => Nat.not_le.2 hs_ (Kd.N_base HO123.out k_ e_.symm)) (fun hn_ => (Kd.fresh' (Kd.N_lt (kN HO123.out)) k_ hn_)), Or.elim hk_ (fun hs_ => fun e_ => Nat.not_le.2 hs_ (Kd.N_base HO129.out k_ e_.symm)) (fun hn_ => (Kd.fresh' (Kd.N_lt (kN HO129.out)) k_ hn_)), Or.elim hk_ (fun hs_ => fun e_ => Nat.not_le.2 hs_ (by rw [e_]; exact GW117.out)) (fun hn_ => (Kd.freshB (rb BK117.out) k_ hn_))⟩)) (below_size bb))
   have n3_ := Aside0.mk (blk_below (rb BK117.out) hb)
   have n4_ := Aside0.mk (below_step bb hb)
   clear HO123
   clear HO129
   clear BK117
   clear HB
   have HO123 := n0_
   have HO129 := n1_
   have HO135 := n2_
   have BK117 := n3_
   have HB := n4_
   clear n0_ n1_ n2_ n3_ n4_
   (try clear hb)
   (try clear hb2)
   (try clear hk)
   (try clear hi)
   (try clear ho0)
   obtain ⟨Ao28, co28, eo28⟩ := Kd.N_slice HO123.out
   (first | subst eo28 | (injection eo28 with f1_ f2_ f3_; have f4_ := f1_.symm; have f5_ := f3_.symm; clear f1_ f2_ f3_; subst f4_; subst f5_))
   obtain ⟨Ao29, co29, eo29⟩ := Kd.N_slice HO129.out
   (first | subst eo29 | (injection eo29 with f1_ f2_ f3_; have f4_ := f1_.symm; have f5_ := f3_.symm; clear f1_ f2_ f3_; subst f4_; subst f5_))
   obtain ⟨Ao30, co30, eo30⟩ := Kd.N_slice HO135.out
   (first | subst eo30 | (injection eo30 with f1_ f2_ f3_; have f4_ := f1_.symm; have f5_ := f3_.symm; clear f1_ f2_ f3_; subst f4_; subst f5_))
   refine hK.out _ _ ⟨(blk_cell BK117.out 0).trans rfl, (blk_cell BK117.out 1).trans rfl, (blk_cell BK117.out 2).trans rfl⟩ (fun hHeld => ?_)
   clear hK K
   refine norm_ (a' := ?_) ?_ ?_
   rotate_left
   ·show Act.put _ (some 15) _ = _
    simp only [Act.put, List.setIfInBounds_toArray, List.set_cons_zero, List.set_cons_succ, i64_w, i32_w]
    rfl
   refine one_ (i := 9) (N := some 16) #[true, true, true, true, true, true, true, true, true, true, false, false, false, false, false, false, false] rfl rfl (one_of HT_.out (by kernel_rfl)) (by decide) (fun K hK => ?_)
   refine Kd.N_lit_step k54 _ 54 ?hg (N' := 16) ?hd (xs := ([(⟨t118, t119, t120, t121⟩ : S54), (⟨t124, t125, t126, t127⟩ : S54), (⟨t130, t131, t132, t133⟩ : S54)] : List (S54))) (inner := [.int .i64 t118, .int .i64 t119, .string t120, .slice Ao28 t121.length co28, .int .i64 t124, .int .i64 t125, .string t126, .slice Ao29 t127.length co29, .int .i64 t130, .int .i64 t131, .string t132, .slice Ao30 t133.length co30]) (ok := (fun k_ => k_ ≠ gb117)) (okp := (fun k_ => k_ ≠ gb117)) ?hr ?hp (fun _ hk => hk) ((show ∀ k_, w27.heap.size ≤ k_ → (fun k_ => k_ ≠ gb117) k_ from fun k_ hk => Kd.freshB (rb BK117.out) k_ hk) _ (Nat.le_refl _)) (Below.refl _ _) (Nat.le_refl _) (by simp) ?_; (case hd => rfl); (case hg => rfl); (case hr => first | (go_simp; done) | (go_simp; rfl)); (case hp => exact (Reps.c4 (show Kd.FK k54 _ _ (⟨t118, t119, t120, t121⟩ : S54) [.int .i64 t118, .int .i64 t119, .string t120, .slice Ao28 t121.length co28] from (k54_mkF _ _ (⟨t118, t119, t120, t121⟩ : S54) (Kd.N_reads' (Kd.N_mono (ok' := (fun k_ => k_ ≠ gb117)) (HO123.out) (fun k_ hk => hk.1.1))).2.1 (Kd.N_F (Kd.N_mono (ok' := (fun k_ => k_ ≠ gb117)) (HO123.out) (fun k_ hk => hk.1.1))))) (Reps.c4 (show Kd.FK k54 _ _ (⟨t124, t125, t126, t127⟩ : S54) [.int .i64 t124, .int .i64 t125, .string t126, .slice Ao29 t127.length co29] from (k54_mkF _ _ (⟨t124, t125, t126, t127⟩ : S54) (Kd.N_reads' (Kd.N_mono (ok' := (fun k_ => k_ ≠ gb117)) (HO129.out) (fun k_ hk => hk.1.2))).2.1 (Kd.N_F (Kd.N_mono (ok' := (fun k_ => k_ ≠ gb117)) (HO129.out) (fun k_ hk => hk.1.2))))) (Reps.c4 (show Kd.FK k54 _ _ (⟨t130, t131, t132, t133⟩ : S54) [.int .i64 t130, .int .i64 t131, .string t132, .slice Ao30 t133.length co30] from (k54_mkF _ _ (⟨t130, t131, t132, t133⟩ : S54) (Kd.N_reads' (Kd.N_mono (ok' := (fun k_ => k_ ≠ gb117)) (HO135.out) (fun k_ hk => hk.2.2))).2.1 (Kd.N_F (Kd.N_mono (ok' := (fun k_ => k_ ≠ gb117)) (HO135.out) (fun k_ hk => hk.2.2))))) (Reps.none _ _)))))
   intro v137 w31 ho32 hb hg_ hnew_
   clear hg_ hnew_
   (first | rw [← Ny136.out] at ho32 | (simp only [Int.reduceToNat] at ho32; rw [← Ny136.out] at ho32))
   have n0_ := Aside0.mk (Kd.N_lower ho32 (below_size bb))
   have n1_ := Aside0.mk (blk_below (rb BK117.out) hb)
   have n2_ := Aside0.mk (below_step bb hb)
   clear BK117
   clear HB
   clear HO123
   clear HO129
   clear HO135
   have HO138 := n0_
   have BK117 := n1_
   have HB := n2_
   clear n0_ n1_ n2_
   clear hb ho32
   obtain ⟨Ao33, co33, eo33⟩ := Kd.N_slice HO138.out
   (first | subst eo33 | (injection eo33 with f1_ f2_ f3_; have f4_ := f1_.symm; have f5_ := f3_.symm; clear f1_ f2_ f3_; subst f4_; subst f5_))
   refine hK.out _ _ ⟨(blk_cell BK117.out 0).trans rfl, (blk_cell BK117.out 1).trans rfl, (blk_cell BK117.out 2).trans rfl⟩ (fun hHeld => ?_)
   clear hK K
   refine norm_ (a' := ?_) ?_ ?_
   rotate_left
   ·show Act.put _ (some 16) _ = _
    simp only [Act.put, List.setIfInBounds_toArray, List.set_cons_zero, List.set_cons_succ, i64_w, i32_w]
    rfl
   refine one_ (i := 10) (N := some 17) #[true, true, true, true, true, true, true, true, true, true, true, false, false, false, false, false, false] rfl rfl (one_of HT_.out (by kernel_rfl)) (by decide) (fun K hK => ?_)
   refine goes_ Try.func40 (by kernel_rfl) rfl #[.slice Ao33 y136.length co33] (by rfl) rfl rfl ag ?_
   with_reducible refine (pack_All.calls (fun k_ => k_ ≠ gb117) _ _ y136 t139 t140 t141 t142 _ ?side1 A5.out).mono ?_
   (case side1 => exact Kd.N_V (HO138.out))
   rintro e w34 ⟨v143, rfl, ho0, hb⟩
   refine ⟨_, rfl, ?_⟩
   have n0_ := Aside0.mk (Kd.N_elder' (kN HO138.out) (by first | exact Kd.N_base ho0 | exact Kd.N_base (Kd.R_N ho0)) hb)
   have n1_ := Aside0.mk (Kd.N_lower (Kd.N_mono (ok' := fun k_ => k_ ≠ gb117) ho0 (fun k_ hk_ => Or.elim hk_ (fun hs_ => hs_) (fun hn_ => (Kd.freshB (rb BK117.out) k_ hn_)))) (below_size bb))
   have n2_ := Aside0.mk (blk_below (rb BK117.out) hb)
   have n3_ := Aside0.mk (below_step bb hb)
   clear HO138
   clear BK117
   clear HB
   have HO138 := n0_
   have HO144 := n1_
   have BK117 := n2_
   have HB := n3_
   clear n0_ n1_ n2_ n3_
   (try clear hb)
   (try clear hb2)
   (try clear hk)
   (try clear hi)
   (try clear ho0)
   obtain ⟨Ao35, co35, eo35⟩ := Kd.N_slice HO144.out
   (first | subst eo35 | (injection eo35 with f1_ f2_ f3_; have f4_ := f1_.symm; have f5_ := f3_.symm; clear f1_ f2_ f3_; subst f4_; subst f5_))
   refine hK.out _ _ ⟨(blk_cell BK117.out 0).trans rfl, (blk_cell BK117.out 1).trans rfl, (blk_cell BK117.out 2).trans rfl⟩ (fun hHeld => ?_)
   clear hK K
   refine norm_ (a' := ?_) ?_ ?_
   rotate_left
   ·show Act.put _ (some 17) _ = _
    simp only [Act.put, List.setIfInBounds_toArray, List.set_cons_zero, List.set_cons_succ, i64_w, i32_w]
    rfl
   refine one_ (i := 11) (N := some 18) #[true, true, true, true, true, true, true, true, true, true, true, true, false, false, false, false, false] rfl rfl (one_of HT_.out (by kernel_rfl)) (by decide) (fun K hK => ?_)
   refine goes_ Try.func70 (by kernel_rfl) rfl #[.agg #[.int .i64 t139, .int .i64 t140, .string t141, .slice Ao35 t142.length co35]] (by rfl) rfl rfl ag ?_
   with_reducible refine (pack_Put.calls k t139 t140 t141 _ _ t142 t145 t146 _ ?side1 ?side2 A6.out).mono ?_
   (case side1 => repeat (first | exact (Kd.N_reads' HO144.out).2.2 | (with_reducible refine Kd.C_alloc ?_ _) | (with_reducible refine Kd.C_drewN ?_ _) | (with_reducible refine Kd.C_drew ?_)))
   (case side2 => exact (Kd.N_reads' HO144.out).2.1)
   rintro e w36 ⟨rfl, hb⟩
   refine ⟨_, rfl, ?_⟩
   have n0_ := Aside0.mk (Kd.N_below (kN HO138.out) hb)
   have n1_ := Aside0.mk (Kd.N_below (kN HO144.out) hb)
   have n2_ := Aside0.mk (blk_below (rb BK117.out) hb)
   have n3_ := Aside0.mk (below_step bb hb)
   clear HO138
   clear HO144
   clear BK117
   clear HB
   have HO138 := n0_
   have HO144 := n1_
   have BK117 := n2_
   have HB := n3_
   clear n0_ n1_ n2_ n3_
   (try clear hb)
   (try clear hb2)
   (try clear hk)
   (try clear hi)
   refine hK.out _ _ ⟨(blk_cell BK117.out 0).trans rfl, (blk_cell BK117.out 1).trans rfl, (blk_cell BK117.out 2).trans rfl⟩ (fun hHeld => ?_)
   clear hK K
   refine norm_ (a' := ?_) ?_ ?_
   rotate_left
   ·show Act.put _ (some 18) _ = _
    simp only [Act.put, List.setIfInBounds_toArray, List.set_cons_zero, List.set_cons_succ, i64_w, i32_w]
    rfl
   refine pure_ (i := 12) (N := some 6) (v := ?_) (a' := ?_) #[true, true, true, true, true, true, true, true, true, true, true, true, true, false, false, false, false] rfl rfl (any_of HT_.out (by kernel_rfl)) (fun _ _ _ h => h) (Or.inl ⟨by rfl, ?_⟩) ?_ ?_
   rotate_left
   ·intro w'
    go_simp
    with_reducible rfl
   rotate_left
   ·simp only [Act.put, List.setIfInBounds_toArray, List.set_cons_zero, List.set_cons_succ, i64_w, i32_w]
    rfl
   refine pure_ (i := 13) (N := some 19) (v := ?_) (a' := ?_) #[true, true, true, true, true, true, true, true, true, true, true, true, true, true, false, false, false] rfl rfl (any_of HT_.out (by kernel_rfl)) (fun _ _ _ h => h) (Or.inl ⟨by rfl, ?_⟩) ?_ ?_
   rotate_left
   ·intro w'
    go_simp
    with_reducible rfl
   rotate_left
   ·simp only [Act.put, List.setIfInBounds_toArray, List.set_cons_zero, List.set_cons_succ, i64_w, i32_w]
    rfl
   refine pure_ (i := 14) (N := some 20) (v := ?_) (a' := ?_) #[true, true, true, true, true, true, true, true, true, true, true, true, true, true, true, false, false] rfl rfl (any_of HT_.out (by kernel_rfl)) (fun _ _ _ h => h) (Or.inl ⟨by rfl, ?_⟩) ?_ ?_
   rotate_left
   ·intro w'
    go_simp
    with_reducible rfl
   rotate_left
   ·simp only [Act.put, List.setIfInBounds_toArray, List.set_cons_zero, List.set_cons_succ, i64_w, i32_w]
    rfl
   refine pure_ (i := 15) (N := some 4) (v := ?_) (a' := ?_) #[true, true, true, true, true, true, true, true, true, true, true, true, true, true, true, true, false] rfl rfl (any_of HT_.out (by kernel_rfl)) (fun _ _ _ h => h) (Or.inl ⟨by rfl, ?_⟩) ?_ ?_
   rotate_left
   ·intro w'
    go_simp
    with_reducible rfl
   rotate_left
   ·simp only [Act.put, List.setIfInBounds_toArray, List.set_cons_zero, List.set_cons_succ, i64_w, i32_w]
    rfl
   refine pure_ (i := 16) (N := some 5) (v := ?_) (a' := ?_) #[true, true, true, true, true, true, true, true, true, true, true, true, true, true, true, true, true] rfl rfl (any_of HT_.out (by kernel_rfl)) (fun _ _ _ h => h) (Or.inl ⟨by rfl, ?_⟩) ?_ ?_
   rotate_left
   ·intro w'
    go_simp
    with_reducible rfl
   rotate_left
   ·simp only [Act.put, List.setIfInBounds_toArray, List.set_cons_zero, List.set_cons_succ, i64_w, i32_w]
    rfl
   refine done_ (done_of HT_.out (by kernel_rfl)) ?_
   try go_wp2
   go_ret2
   exact ⟨by first | rfl | (simp [errW_none, errW_some] <;> rfl) | (simp [*, errW_none, errW_some] <;> rfl), bb⟩
 ·rw [if_neg c7] at H
  have c7b0 : (t146 == 0) = false := beq_eq_false_iff_ne.mpr c7
  have c7b1 : (t146 != 0) = true := bne_iff_ne.mpr c7
  simp only [Option.some.injEq, Prod.mk.injEq] at H
  obtain ⟨rfl, rfl⟩ := H
  go_enter Try.func29, Try.ntmps29
  try go_wp2_with (first | ((with_reducible refine gate_dst (N := 1) rfl ?_); refine box_event ?hg (N := 1) ?hd (cs := #[.string a0_0, .int .i64 a0_1, .slice A0_2 l0_2.length c0_2]) (t := 75) ?hr ?_; (case hd => rfl); (case hg => rfl); (case hr => first | (go_simp; done) | (go_simp; rfl)); intro gb117 hg w37 hbox hb; have n0_ := Aside0.mk (below_step bb hb); have n1_ := Aside0.mk (hbox); have n2_ := Aside0.mk ((by rw [hg]; exact (below_size bb) : w.heap.size ≤ gb117)); have n3_ := Aside0.mk ((by rw [hg]; exact (below_size bb) : w.heap.size ≤ gb117)); clear HB; have HB := n0_; have BK117 := n1_; have GW117 := n2_; have GE117 := n3_; clear n0_ n1_ n2_ n3_; clear hb hbox hg))
  have n0_ := Aside0.mk (blk_drew BK117.out)
  have n1_ := Aside0.mk (below_drew1 HB.out)
  clear BK117
  clear HB
  have BK117 := n0_
  have HB := n1_
  clear n0_ n1_
  refine start_ (n := 17) (S := fun w' => w'.cell? ⟨gb117, 0, none⟩ = some (.string a0_0) ∧ w'.cell? ⟨gb117, 1, none⟩ = some (.int .i64 a0_1) ∧ w'.cell? ⟨gb117, 2, none⟩ = some (.slice A0_2 l0_2.length c0_2)) (ds := []) #[false, false, false, false, false, false, false, false, false, false, false, false, false, false, false, false, false] (by kernel_rfl) rfl rfl ⟨(blk_cell BK117.out 0).trans rfl, (blk_cell BK117.out 1).trans rfl, (blk_cell BK117.out 2).trans rfl⟩ (fun hHeld => ?_); refine with_tabW op_Put.tab1 op_Put.bits1 (fun HT_ HW_ => ?_)
  generalize w37.drew = w38 at BK117 HB hHeld ⊢
  refine pure_ (i := 0) (N := some 7) (v := ?_) (a' := ?_) #[true, false, false, false, false, false, false, false, false, false, false, false, false, false, false, false, false] rfl rfl (any_of HT_.out (by kernel_rfl)) (fun _ _ _ h => h) (Or.inl ⟨by rfl, ?_⟩) ?_ ?_
  rotate_left
  ·intro w'
   go_simp
   with_reducible rfl
  rotate_left
  ·simp only [Act.put, List.setIfInBounds_toArray, List.set_cons_zero, List.set_cons_succ, i64_w, i32_w]
   rfl
  refine pure_ (i := 3) (N := some 10) (v := ?_) (a' := ?_) #[true, false, false, true, false, false, false, false, false, false, false, false, false, false, false, false, false] rfl rfl (any_of HT_.out (by kernel_rfl)) (fun _ _ _ h => h) (Or.inl ⟨by rfl, ?_⟩) ?_ ?_
  rotate_left
  ·intro w'
   go_simp
   with_reducible rfl
  rotate_left
  ·simp only [Act.put, List.setIfInBounds_toArray, List.set_cons_zero, List.set_cons_succ, i64_w, i32_w]
   rfl
  refine pure_ (i := 6) (N := some 13) (v := ?_) (a' := ?_) #[true, false, false, true, false, false, true, false, false, false, false, false, false, false, false, false, false] rfl rfl (any_of HT_.out (by kernel_rfl)) (fun _ _ _ h => h) (Or.inl ⟨by rfl, ?_⟩) ?_ ?_
  rotate_left
  ·intro w'
   go_simp
   with_reducible rfl
  rotate_left
  ·simp only [Act.put, List.setIfInBounds_toArray, List.set_cons_zero, List.set_cons_succ, i64_w, i32_w]
   rfl
  refine take_ (i := 1) (N := some 8) (v := ?_) (a' := ?_) #[true, true, false, true, false, false, true, false, false, false, false, false, false, false, false, false, false] rfl rfl (take_ofW HT_.out HW_.out (by kernel_rfl)) (fun _ _ _ h => h) (Or.inl ⟨by rfl, ?_⟩) hHeld ?_ ?_
  rotate_left
  ·rintro w' ⟨s0, s1, s2⟩
   go_simp
   with_reducible rfl
  rotate_left
  ·simp only [Act.put, List.setIfInBounds_toArray, List.set_cons_zero, List.set_cons_succ, i64_w, i32_w]
   rfl
  refine take_ (i := 4) (N := some 11) (v := ?_) (a' := ?_) #[true, true, false, true, true, false, true, false, false, false, false, false, false, false, false, false, false] rfl rfl (take_ofW HT_.out HW_.out (by kernel_rfl)) (fun _ _ _ h => h) (Or.inl ⟨by rfl, ?_⟩) hHeld ?_ ?_
  rotate_left
  ·rintro w' ⟨s0, s1, s2⟩
   go_simp
   with_reducible rfl
  rotate_left
  ·simp only [Act.put, List.setIfInBounds_toArray, List.set_cons_zero, List.set_cons_succ, i64_w, i32_w]
   rfl
  refine take_ (i := 7) (N := some 14) (v := ?_) (a' := ?_) #[true, true, false, true, true, false, true, true, false, false, false, false, false, false, false, false, false] rfl rfl (take_ofW HT_.out HW_.out (by kernel_rfl)) (fun _ _ _ h => h) (Or.inl ⟨by rfl, ?_⟩) hHeld ?_ ?_
  rotate_left
  ·rintro w' ⟨s0, s1, s2⟩
   go_simp
   with_reducible rfl
  rotate_left
  ·simp only [Act.put, List.setIfInBounds_toArray, List.set_cons_zero, List.set_cons_succ, i64_w, i32_w]
   rfl
  refine one_ (i := 2) (N := some 9) #[true, true, true, true, true, false, true, true, false, false, false, false, false, false, false, false, false] rfl rfl (one_of HT_.out (by kernel_rfl)) (by decide) (fun K hK => ?_)
  refine goes_ Try.func64 (by kernel_rfl) rfl #[.string a0_0] (by rfl) rfl rfl ag ?_
  with_reducible refine (pack_Str.calls a0_0 t118 t119 t120 t121 _ A2.out).mono ?_
  rintro e w39 ⟨v122, rfl, ho0, hb⟩
  refine ⟨_, rfl, ?_⟩
  have n0_ := Aside0.mk (Kd.N_lower (Kd.N_mono (ok' := fun k_ => k_ ≠ gb117) (Kd.R_N (Kd.R_bound ho0)) (fun k_ hk_ => (Kd.freshB (rb BK117.out) k_ hk_.2.1))) (below_size bb))
  have n1_ := Aside0.mk (blk_below (rb BK117.out) hb)
  have n2_ := Aside0.mk (below_step bb hb)
  clear BK117
  clear HB
  have HO123 := n0_
  have BK117 := n1_
  have HB := n2_
  clear n0_ n1_ n2_
  (try clear hb)
  (try clear hb2)
  (try clear hk)
  (try clear hi)
  (try clear ho0)
  refine hK.out _ _ ⟨(blk_cell BK117.out 0).trans rfl, (blk_cell BK117.out 1).trans rfl, (blk_cell BK117.out 2).trans rfl⟩ (fun hHeld => ?_)
  clear hK K
  refine norm_ (a' := ?_) ?_ ?_
  rotate_left
  ·show Act.put _ (some 9) _ = _
   simp only [Act.put, List.setIfInBounds_toArray, List.set_cons_zero, List.set_cons_succ, i64_w, i32_w]
   rfl
  refine one_ (i := 5) (N := some 12) #[true, true, true, true, true, true, true, true, false, false, false, false, false, false, false, false, false] rfl rfl (one_of HT_.out (by kernel_rfl)) (by decide) (fun K hK => ?_)
  refine goes_ Try.func48 (by kernel_rfl) rfl #[.int .i64 a0_1] (by rfl) rfl rfl ag ?_
  with_reducible refine (pack_Num.calls a0_1 t124 t125 t126 t127 _ A3.out).mono ?_
  rintro e w40 ⟨v128, rfl, ho0, hb⟩
  refine ⟨_, rfl, ?_⟩
  have n0_ := Aside0.mk (Kd.N_elder' (kN HO123.out) (by first | exact Kd.N_base ho0 | exact Kd.N_base (Kd.R_N ho0)) hb)
  have n1_ := Aside0.mk (Kd.N_lower (Kd.N_mono (ok' := fun k_ => some k_ ≠ (v122 : Value).ownBlock ∧ k_ ≠ gb117) (Kd.R_N (Kd.R_bound ho0)) (fun k_ hk_ => ⟨(Kd.fresh' (Kd.N_lt (kN HO123.out)) k_ hk_.2.1), (Kd.freshB (rb BK117.out) k_ hk_.2.1)⟩)) (below_size bb))
  have n2_ := Aside0.mk (blk_below (rb BK117.out) hb)
  have n3_ := Aside0.mk (below_step bb hb)
  clear HO123
  clear BK117
  clear HB
  have HO123 := n0_
  have HO129 := n1_
  have BK117 := n2_
  have HB := n3_
  clear n0_ n1_ n2_ n3_
  (try clear hb)
  (try clear hb2)
  (try clear hk)
  (try clear hi)
  (try clear ho0)
  refine hK.out _ _ ⟨(blk_cell BK117.out 0).trans rfl, (blk_cell BK117.out 1).trans rfl, (blk_cell BK117.out 2).trans rfl⟩ (fun hHeld => ?_)
  clear hK K
  refine norm_ (a' := ?_) ?_ ?_
  rotate_left
  ·show Act.put _ (some 12) _ = _
   simp only [Act.put, List.setIfInBounds_toArray, List.set_cons_zero, List.set_cons_succ, i64_w, i32_w]
   rfl
  refine one_ (i := 8) (N := some 15) #[true, true, true, true, true, true, true, true, true, false, false, false, false, false, false, false, false] rfl rfl (one_of HT_.out (by kernel_rfl)) (by decide) (fun K hK => ?_)
  refine goes_ Try.func40 (by kernel_rfl) rfl #[.slice A0_2 l0_2.length c0_2] (by rfl) rfl rfl ag ?_
  with_reducible refine (pack_All.calls (fun k_ => k_ < w.heap.size) _ _ l0_2 t130 t131 t132 t133 _ ?side1 A4.out).mono ?_
  (case side1 => exact Kd.V_mk HC0_2.out (Kd.F_below (Kd.C_F k54_heap HR0_2.out) bb))
  rintro e w41 ⟨v134, rfl, ho0, hb⟩
  refine ⟨_, rfl, ?_⟩
  have n0_ := Aside0.mk (Kd.N_elder' (kN HO123.out) (by first | exact Kd.N_base ho0 | exact Kd.N_base (Kd.R_N ho0)) hb)
  have n1_ := Aside0.mk (Kd.N_elder' (kN HO129.out) (by first | exact Kd.N_base ho0 | exact Kd.N_base (Kd.R_N ho0)) hb)
  have n2_ := Aside0.mk (Kd.N_lower (Kd.N_mono (ok' := fun k_ => some k_ ≠ (v122 : Value).ownBlock ∧ some k_ ≠ (v128 : Value).ownBlock ∧ k_ ≠ gb117) ho0 (fun k_ hk_ => ⟨Or.elim hk_ (fun hs_ => fun e_ => Nat.not_le.2 hs_ (Kd.N_base HO123.out k_ e_.symm)) (fun hn_ => (Kd.fresh' (Kd.N_lt (kN HO123.out)) k_ hn_)), Or.elim hk_ (fun hs_ => fun e_ => Nat.not_le.2 hs_ (Kd.N_base HO129.out k_ e_.symm)) (fun hn_ => (Kd.fresh' (Kd.N_lt (kN HO129.out)) k_ hn_)), Or.elim hk_ (fun hs_ => fun e_ => Nat.not_le.2 hs_ (by rw [e_]; exact GW117.out)) (fun hn_ => (Kd.freshB (rb BK117.out) k_ hn_))⟩)) (below_size bb))
  have n3_ := Aside0.mk (blk_below (rb BK117.out) hb)
  have n4_ := Aside0.mk (below_step bb hb)
  clear HO123
  clear HO129
  clear BK117
  clear HB
  have HO123 := n0_
  have HO129 := n1_
  have HO135 := n2_
  have BK117 := n3_
  have HB := n4_
  clear n0_ n1_ n2_ n3_ n4_
  (try clear hb)
  (try clear hb2)
  (try clear hk)
  (try clear hi)
  (try clear ho0)
  obtain ⟨Ao42, co42, eo42⟩ := Kd.N_slice HO123.out
  (first | subst eo42 | (injection eo42 with f1_ f2_ f3_; have f4_ := f1_.symm; have f5_ := f3_.symm; clear f1_ f2_ f3_; subst f4_; subst f5_))
  obtain ⟨Ao43, co43, eo43⟩ := Kd.N_slice HO129.out
  (first | subst eo43 | (injection eo43 with f1_ f2_ f3_; have f4_ := f1_.symm; have f5_ := f3_.symm; clear f1_ f2_ f3_; subst f4_; subst f5_))
  obtain ⟨Ao44, co44, eo44⟩ := Kd.N_slice HO135.out
  (first | subst eo44 | (injection eo44 with f1_ f2_ f3_; have f4_ := f1_.symm; have f5_ := f3_.symm; clear f1_ f2_ f3_; subst f4_; subst f5_))
  refine hK.out _ _ ⟨(blk_cell BK117.out 0).trans rfl, (blk_cell BK117.out 1).trans rfl, (blk_cell BK117.out 2).trans rfl⟩ (fun hHeld => ?_)
  clear hK K
  refine norm_ (a' := ?_) ?_ ?_
  rotate_left
  ·show Act.put _ (some 15) _ = _
   simp only [Act.put, List.setIfInBounds_toArray, List.set_cons_zero, List.set_cons_succ, i64_w, i32_w]
   rfl
  refine one_ (i := 9) (N := some 16) #[true, true, true, true, true, true, true, true, true, true, false, false, false, false, false, false, false] rfl rfl (one_of HT_.out (by kernel_rfl)) (by decide) (fun K hK => ?_)
  refine Kd.N_lit_step k54 _ 54 ?hg (N' := 16) ?hd (xs := ([(⟨t118, t119, t120, t121⟩ : S54), (⟨t124, t125, t126, t127⟩ : S54), (⟨t130, t131, t132, t133⟩ : S54)] : List (S54))) (inner := [.int .i64 t118, .int .i64 t119, .string t120, .slice Ao42 t121.length co42, .int .i64 t124, .int .i64 t125, .string t126, .slice Ao43 t127.length co43, .int .i64 t130, .int .i64 t131, .string t132, .slice Ao44 t133.length co44]) (ok := (fun k_ => k_ ≠ gb117)) (okp := (fun k_ => k_ ≠ gb117)) ?hr ?hp (fun _ hk => hk) ((show ∀ k_, w41.heap.size ≤ k_ → (fun k_ => k_ ≠ gb117) k_ from fun k_ hk => Kd.freshB (rb BK117.out) k_ hk) _ (Nat.le_refl _)) (Below.refl _ _) (Nat.le_refl _) (by simp) ?_; (case hd => rfl); (case hg => rfl); (case hr => first | (go_simp; done) | (go_simp; rfl)); (case hp => exact (Reps.c4 (show Kd.FK k54 _ _ (⟨t118, t119, t120, t121⟩ : S54) [.int .i64 t118, .int .i64 t119, .string t120, .slice Ao42 t121.length co42] from (k54_mkF _ _ (⟨t118, t119, t120, t121⟩ : S54) (Kd.N_reads' (Kd.N_mono (ok' := (fun k_ => k_ ≠ gb117)) (HO123.out) (fun k_ hk => hk.1.1))).2.1 (Kd.N_F (Kd.N_mono (ok' := (fun k_ => k_ ≠ gb117)) (HO123.out) (fun k_ hk => hk.1.1))))) (Reps.c4 (show Kd.FK k54 _ _ (⟨t124, t125, t126, t127⟩ : S54) [.int .i64 t124, .int .i64 t125, .string t126, .slice Ao43 t127.length co43] from (k54_mkF _ _ (⟨t124, t125, t126, t127⟩ : S54) (Kd.N_reads' (Kd.N_mono (ok' := (fun k_ => k_ ≠ gb117)) (HO129.out) (fun k_ hk => hk.1.2))).2.1 (Kd.N_F (Kd.N_mono (ok' := (fun k_ => k_ ≠ gb117)) (HO129.out) (fun k_ hk => hk.1.2))))) (Reps.c4 (show Kd.FK k54 _ _ (⟨t130, t131, t132, t133⟩ : S54) [.int .i64 t130, .int .i64 t131, .string t132, .slice Ao44 t133.length co44] from (k54_mkF _ _ (⟨t130, t131, t132, t133⟩ : S54) (Kd.N_reads' (Kd.N_mono (ok' := (fun k_ => k_ ≠ gb117)) (HO135.out) (fun k_ hk => hk.2.2))).2.1 (Kd.N_F (Kd.N_mono (ok' := (fun k_ => k_ ≠ gb117)) (HO135.out) (fun k_ hk => hk.2.2))))) (Reps.none _ _)))))
  intro v137 w45 ho46 hb hg_ hnew_
  clear hg_ hnew_
  (first | rw [← Ny136.out] at ho46 | (simp only [Int.reduceToNat] at ho46; rw [← Ny136.out] at ho46))
  have n0_ := Aside0.mk (Kd.N_lower ho46 (below_size bb))
  have n1_ := Aside0.mk (blk_below (rb BK117.out) hb)
  have n2_ := Aside0.mk (below_step bb hb)
  clear BK117
  clear HB
  clear HO123
  clear HO129
  clear HO135
  have HO138 := n0_
  have BK117 := n1_
  have HB := n2_
  clear n0_ n1_ n2_
  clear hb ho46
  obtain ⟨Ao47, co47, eo47⟩ := Kd.N_slice HO138.out
  (first | subst eo47 | (injection eo47 with f1_ f2_ f3_; have f4_ := f1_.symm; have f5_ := f3_.symm; clear f1_ f2_ f3_; subst f4_; subst f5_))
  refine hK.out _ _ ⟨(blk_cell BK117.out 0).trans rfl, (blk_cell BK117.out 1).trans rfl, (blk_cell BK117.out 2).trans rfl⟩ (fun hHeld => ?_)
  clear hK K
  refine norm_ (a' := ?_) ?_ ?_
  rotate_left
  ·show Act.put _ (some 16) _ = _
   simp only [Act.put, List.setIfInBounds_toArray, List.set_cons_zero, List.set_cons_succ, i64_w, i32_w]
   rfl
  refine one_ (i := 10) (N := some 17) #[true, true, true, true, true, true, true, true, true, true, true, false, false, false, false, false, false] rfl rfl (one_of HT_.out (by kernel_rfl)) (by decide) (fun K hK => ?_)
  refine goes_ Try.func40 (by kernel_rfl) rfl #[.slice Ao47 y136.length co47] (by rfl) rfl rfl ag ?_
  with_reducible refine (pack_All.calls (fun k_ => k_ ≠ gb117) _ _ y136 t139 t140 t141 t142 _ ?side1 A5.out).mono ?_
  (case side1 => exact Kd.N_V (HO138.out))
  rintro e w48 ⟨v143, rfl, ho0, hb⟩
  refine ⟨_, rfl, ?_⟩
  have n0_ := Aside0.mk (Kd.N_elder' (kN HO138.out) (by first | exact Kd.N_base ho0 | exact Kd.N_base (Kd.R_N ho0)) hb)
  have n1_ := Aside0.mk (Kd.N_lower (Kd.N_mono (ok' := fun k_ => k_ ≠ gb117) ho0 (fun k_ hk_ => Or.elim hk_ (fun hs_ => hs_) (fun hn_ => (Kd.freshB (rb BK117.out) k_ hn_)))) (below_size bb))
  have n2_ := Aside0.mk (blk_below (rb BK117.out) hb)
  have n3_ := Aside0.mk (below_step bb hb)
  clear HO138
  clear BK117
  clear HB
  have HO138 := n0_
  have HO144 := n1_
  have BK117 := n2_
  have HB := n3_
  clear n0_ n1_ n2_ n3_
  (try clear hb)
  (try clear hb2)
  (try clear hk)
  (try clear hi)
  (try clear ho0)
  obtain ⟨Ao49, co49, eo49⟩ := Kd.N_slice HO144.out
  (first | subst eo49 | (injection eo49 with f1_ f2_ f3_; have f4_ := f1_.symm; have f5_ := f3_.symm; clear f1_ f2_ f3_; subst f4_; subst f5_))
  refine hK.out _ _ ⟨(blk_cell BK117.out 0).trans rfl, (blk_cell BK117.out 1).trans rfl, (blk_cell BK117.out 2).trans rfl⟩ (fun hHeld => ?_)
  clear hK K
  refine norm_ (a' := ?_) ?_ ?_
  rotate_left
  ·show Act.put _ (some 17) _ = _
   simp only [Act.put, List.setIfInBounds_toArray, List.set_cons_zero, List.set_cons_succ, i64_w, i32_w]
   rfl
  refine one_ (i := 11) (N := some 18) #[true, true, true, true, true, true, true, true, true, true, true, true, false, false, false, false, false] rfl rfl (one_of HT_.out (by kernel_rfl)) (by decide) (fun K hK => ?_)
  refine goes_ Try.func70 (by kernel_rfl) rfl #[.agg #[.int .i64 t139, .int .i64 t140, .string t141, .slice Ao49 t142.length co49]] (by rfl) rfl rfl ag ?_
  with_reducible refine (pack_Put.calls k t139 t140 t141 _ _ t142 t145 t146 _ ?side1 ?side2 A6.out).mono ?_
  (case side1 => repeat (first | exact (Kd.N_reads' HO144.out).2.2 | (with_reducible refine Kd.C_alloc ?_ _) | (with_reducible refine Kd.C_drewN ?_ _) | (with_reducible refine Kd.C_drew ?_)))
  (case side2 => exact (Kd.N_reads' HO144.out).2.1)
  rintro e w50 ⟨rfl, hb⟩
  refine ⟨_, rfl, ?_⟩
  have n0_ := Aside0.mk (Kd.N_below (kN HO138.out) hb)
  have n1_ := Aside0.mk (Kd.N_below (kN HO144.out) hb)
  have n2_ := Aside0.mk (blk_below (rb BK117.out) hb)
  have n3_ := Aside0.mk (below_step bb hb)
  clear HO138
  clear HO144
  clear BK117
  clear HB
  have HO138 := n0_
  have HO144 := n1_
  have BK117 := n2_
  have HB := n3_
  clear n0_ n1_ n2_ n3_
  (try clear hb)
  (try clear hb2)
  (try clear hk)
  (try clear hi)
  refine hK.out _ _ ⟨(blk_cell BK117.out 0).trans rfl, (blk_cell BK117.out 1).trans rfl, (blk_cell BK117.out 2).trans rfl⟩ (fun hHeld => ?_)
  clear hK K
  refine norm_ (a' := ?_) ?_ ?_
  rotate_left
  ·show Act.put _ (some 18) _ = _
   simp only [Act.put, List.setIfInBounds_toArray, List.set_cons_zero, List.set_cons_succ, i64_w, i32_w]
   rfl
  refine pure_ (i := 12) (N := some 6) (v := ?_) (a' := ?_) #[true, true, true, true, true, true, true, true, true, true, true, true, true, false, false, false, false] rfl rfl (any_of HT_.out (by kernel_rfl)) (fun _ _ _ h => h) (Or.inl ⟨by rfl, ?_⟩) ?_ ?_
  rotate_left
  ·intro w'
   go_simp
   with_reducible rfl
  rotate_left
  ·simp only [Act.put, List.setIfInBounds_toArray, List.set_cons_zero, List.set_cons_succ, i64_w, i32_w]
   rfl
  refine pure_ (i := 13) (N := some 19) (v := ?_) (a' := ?_) #[true, true, true, true, true, true, true, true, true, true, true, true, true, true, false, false, false] rfl rfl (any_of HT_.out (by kernel_rfl)) (fun _ _ _ h => h) (Or.inl ⟨by rfl, ?_⟩) ?_ ?_
  rotate_left
  ·intro w'
   go_simp
   with_reducible rfl
  rotate_left
  ·simp only [Act.put, List.setIfInBounds_toArray, List.set_cons_zero, List.set_cons_succ, i64_w, i32_w]
   rfl
  refine pure_ (i := 14) (N := some 20) (v := ?_) (a' := ?_) #[true, true, true, true, true, true, true, true, true, true, true, true, true, true, true, false, false] rfl rfl (any_of HT_.out (by kernel_rfl)) (fun _ _ _ h => h) (Or.inl ⟨by rfl, ?_⟩) ?_ ?_
  rotate_left
  ·intro w'
   go_simp
   with_reducible rfl
  rotate_left
  ·simp only [Act.put, List.setIfInBounds_toArray, List.set_cons_zero, List.set_cons_succ, i64_w, i32_w]
   rfl
  refine pure_ (i := 15) (N := some 4) (v := ?_) (a' := ?_) #[true, true, true, true, true, true, true, true, true, true, true, true, true, true, true, true, false] rfl rfl (any_of HT_.out (by kernel_rfl)) (fun _ _ _ h => h) (Or.inl ⟨by rfl, ?_⟩) ?_ ?_
  rotate_left
  ·intro w'
   go_simp
   with_reducible rfl
  rotate_left
  ·simp only [Act.put, List.setIfInBounds_toArray, List.set_cons_zero, List.set_cons_succ, i64_w, i32_w]
   rfl
  refine pure_ (i := 16) (N := some 5) (v := ?_) (a' := ?_) #[true, true, true, true, true, true, true, true, true, true, true, true, true, true, true, true, true] rfl rfl (any_of HT_.out (by kernel_rfl)) (fun _ _ _ h => h) (Or.inl ⟨by rfl, ?_⟩) ?_ ?_
  rotate_left
  ·intro w'
   go_simp
   with_reducible rfl
  rotate_left
  ·simp only [Act.put, List.setIfInBounds_toArray, List.set_cons_zero, List.set_cons_succ, i64_w, i32_w]
   rfl
  refine done_ (done_of HT_.out (by kernel_rfl)) ?_
  try go_wp2
  go_ret2
  exact ⟨by first | rfl | (simp [errW_none, errW_some] <;> rfl) | (simp [*, errW_none, errW_some] <;> rfl), bb⟩

end Go.Proofs.Ytjicfkmpgogppaa.PO
