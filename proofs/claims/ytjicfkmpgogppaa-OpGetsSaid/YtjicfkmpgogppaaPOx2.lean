-- printed by a program of this session out of the translation; see NOTES.md
import Derived.Test.YtjicfkmpgogppaaPOx0
import Derived.Test.YtjicfkmpgogppaaRb
namespace Go.Proofs.Ytjicfkmpgogppaa.PO
open Go.RowKit Go.Proofs.YtjicfkmpgogppaaW.PrintWords Go.Proofs.YtjicfkmpgogppaaW.PrintLast Go.Proofs.YtjicfkmpgogppaaW.PrintMore Go.Proofs.YtjicfkmpgogppaaRb
attribute [local go_sem] max2_int min2_int max_two min_two max_three min_three max_four min_four   -- for this text's walks alone
set_option linter.unusedVariables false
set_option linter.unusedSimpArgs false

/-! ### pack_Value_77: function 77 -/
def pack_Value_77.f (l0 : List (S54)) : Option ((List (S54))) := (some (([] : List (S54)) : List (S54))).bind fun y101 => (if y101.length + l0.length < 2513169434916 then (some (y101 ++ l0)) else (none))
set_option maxHeartbeats 8000000 in
set_option maxRecDepth 100000 in
theorem pack_Value_77.calls (P0_ : Nat → Prop) (A0 : Option Addr) (c0 : Nat) (l0 : List (S54)) (r : List (S54)) (w : World) (hs0 : Kd.V k54 54 w w.heap.size (fun k_ => P0_ k_) (.slice A0 l0.length c0) l0) (h : pack_Value_77.f l0 = some r) :
  Calls Try.prog 77 #[.slice A0 l0.length c0] w fun e w' => ∃ v0_ : Value, e = .returned (v0_) ∧ Kd.N k54 54 w' w.heap.size (fun k_ => (P0_ k_ ∨ w.heap.size ≤ k_)) v0_ r ∧ Below w.heap.size w w' := by
 have hq_ := fun w => Go.run_eql_slice_nil (P := Try.prog) w 52 54 A0 l0.length c0 Try.underlying52
 by_cases hA_ : A0 = none
 ·have hz_ := (Kd.V_reads' hs0).2.2
  obtain rfl : l0 = [] := by
   rcases Nat.eq_zero_or_pos l0.length with h0_ | h0_
   ·exact List.length_eq_zero_iff.mp h0_
   ·obtain ⟨ad_, had_, _⟩ := hz_.2.2 h0_; rw [hA_] at had_; cases had_
  obtain rfl : r = [] := by simpa [pack_Value_77.f] using h.symm
  subst hA_
  have hn_ : (none : Option Addr).isNone = true := rfl
  have hq2_ := fun w => Go.run_eql_slice_nil (P := Try.prog) w 52 54 none 0 c0 Try.underlying52
  clear hz_ h
  go_enter Try.func77, Try.ntmps77
  go_wp2
  go_ret
  exact ⟨_, rfl, Kd.N_nil _ _ _ _ _, Below.refl _ _⟩
 have hn_ : A0.isNone = false := by cases A0 with | none => exact absurd rfl hA_ | some _ => rfl
 clear hA_
 have HO0 := Aside0.mk (show Kd.V k54 54 w w.heap.size (fun k_ => (P0_ k_ ∨ w.heap.size ≤ k_)) (.slice A0 l0.length c0) l0 from Kd.V_mono hs0 (fun k_ hk => .inl hk))
 have HB := Aside0.mk (Below.refl w.heap.size w)
 have H : ((some (([] : List (S54)) : List (S54))).bind fun y101 => (if y101.length + l0.length < 2513169434916 then (some (y101 ++ l0)) else (none))) = some r := h
 clear h
 obtain ⟨y101, hy101⟩ : ∃ y_ : List (S54), y_ = (([] : List (S54))) := ⟨_, rfl⟩
 replace H : (if y101.length + l0.length < 2513169434916 then (some (y101 ++ l0)) else (none)) = some r := by first | (rw [hy101]; with_reducible exact H) | (have H2_ := (Option.bind_some _ _).symm.trans H; rw [hy101]; with_reducible exact H2_) | (have H2_ := (Option.bind_some _ _).symm.trans H; with_reducible exact H2_) | with_reducible exact H | (rw [hy101]; exact H) | exact H
 have Ny101 := Aside0.mk hy101
 clear hy101
 by_cases c2 : y101.length + l0.length < 2513169434916
 ·rw [if_pos c2] at H
  have LMc2 := Aside0.mk c2
  clear c2
  obtain ⟨y104, hy104⟩ : ∃ y_ : List (S54), y_ = (y101 ++ l0) := ⟨_, rfl⟩
  replace H : (some y104) = some r := by first | (rw [hy104]; with_reducible exact H) | (have H2_ := (Option.bind_some _ _).symm.trans H; rw [hy104]; with_reducible exact H2_) | (have H2_ := (Option.bind_some _ _).symm.trans H; with_reducible exact H2_) | with_reducible exact H | (rw [hy104]; exact H) | exact H
  have Ny104 := Aside0.mk hy104
  clear hy104
  obtain rfl := Option.some.inj H
  go_enter Try.func77, Try.ntmps77
  go_wp2_with (first | ((with_reducible refine gate_dst (N := 5) rfl ?_); refine Kd.N_lit k54 _ 54 ?hg (N' := 5) ?hd (xs := ([] : List (S54))) (inner := []) (ok := (fun k_ => (P0_ k_ ∨ w.heap.size ≤ k_))) (okp := (fun k_ => (P0_ k_ ∨ w.heap.size ≤ k_))) ?hr ?hp (fun _ hk => hk) ((show ∀ k_, w.heap.size ≤ k_ → (fun k_ => (P0_ k_ ∨ w.heap.size ≤ k_)) k_ from fun k_ hk => (.inr (Nat.le_trans (below_size bb) hk))) _ (Nat.le_refl _)) (Below.refl _ _) (Nat.le_refl _) (by simp) ?_; (case hd => rfl); (case hg => rfl); (case hr => first | (go_simp; done) | (go_simp; rfl)); (case hp => exact (Reps.none _ _)); intro v102 w3 ho4 hb hg_ hnew_; clear hg_ hnew_; (first | rw [← Ny101.out] at ho4 | (simp only [Int.reduceToNat] at ho4; rw [← Ny101.out] at ho4)); have n0_ := Aside0.mk (Kd.V_elder' (by (with_reducible repeat (first | apply Kd.V_alloc | apply Kd.V_drewN | apply Kd.V_drew)); exact HO0.out) (by first | exact Kd.N_base ho4 | exact Kd.N_base (Kd.R_N ho4)) hb); have n1_ := Aside0.mk (Kd.N_lower ho4 (below_size bb)); have n2_ := Aside0.mk (below_step bb hb); clear HO0; clear HB; have HO0 := n0_; have HO103 := n1_; have HB := n2_; clear n0_ n1_ n2_; clear hb ho4) | ((with_reducible refine gate_builtin (b := .append) (xs := #[.tmp 5, .tmp 6]) rfl ?_); at_builtin; refine Kd.N_append_rows k54 (w0 := w) w.heap.size rfl (.tmp 5) (.tmp 6) 52 54 (.agg #[(.int .i64 0), (.int .i64 0), (.string ⟨#[]⟩), (.slice none 0 0)]) 56 rfl Try.underlying52 info54 rfl (by decide) (by omega) v102 y101 l0 _ _ _ (fun k_ => (P0_ k_ ∨ w.heap.size ≤ k_)) (fun k_ => ((fun k_ => (P0_ k_ ∨ w.heap.size ≤ k_))) k_ ∧ some k_ ≠ (v102 : Value).ownBlock) rfl rfl ?aO ?aR (fun _ hk => hk) ?aF ?aB ?aS ?aL ?_; (case aR => exact (by skip; exact Kd.V_F (Kd.V_mono (ok' := (fun k_ => ((fun k_ => (P0_ k_ ∨ w.heap.size ≤ k_))) k_ ∧ some k_ ≠ (v102 : Value).ownBlock)) (HO0.out) (fun k_ hk => ⟨hk.1, hk.2⟩)))); (case aB => exact bb); (case aF => exact (fun k_ hk => (.inr (Nat.le_trans (below_size bb) hk)))); (case aO => exact (kN HO103.out)); (case aS => exact (below_size bb)); (case aL => have := LMc2.out; omega); intro v105 w5 ho hb hg hat; rw [← Ny104.out] at ho; have n0_ := Aside0.mk (Kd.V_afterv (ok := (fun k_ => (P0_ k_ ∨ w.heap.size ≤ k_))) (by (with_reducible repeat (first | apply Kd.V_alloc | apply Kd.V_drewN | apply Kd.V_drew)); exact HO0.out) hg hat); have n1_ := Aside0.mk (hb); have n2_ := Aside0.mk (ho); clear HO0; clear HB; clear HO103; have HO0 := n0_; have HB := n1_; have HO106 := n2_; clear n0_ n1_ n2_; clear ho hb hg hat))
  go_ret
  exact ⟨_, by first | rfl | (simp [errW_none, errW_some] <;> rfl) | (simp [*, errW_none, errW_some] <;> rfl), kN HO106.out, bb⟩
 ·rw [if_neg c2] at H
  exact absurd H (by simp)

/-! ### pack_All: function 40 -/
def pack_All.f (l0 : List (S54)) : Option (Int × Int × ByteArray × (List (S54))) := (pack_Value_77.f l0).bind fun t108 => (some (2, 0, (⟨#[]⟩ : ByteArray), t108))
set_option maxHeartbeats 8000000 in
set_option maxRecDepth 100000 in
theorem pack_All.calls (P0_ : Nat → Prop) (A0 : Option Addr) (c0 : Nat) (l0 : List (S54)) (r1 : Int) (r2 : Int) (r3 : ByteArray) (r4 : List (S54)) (w : World) (hs0 : Kd.V k54 54 w w.heap.size (fun k_ => P0_ k_) (.slice A0 l0.length c0) l0) (h : pack_All.f l0 = some (r1, r2, r3, r4)) :
  Calls Try.prog 40 #[.slice A0 l0.length c0] w fun e w' => ∃ v3_ : Value, e = .returned (.agg #[.int .i64 r1, .int .i64 r2, .string r3, v3_]) ∧ Kd.N k54 54 w' w.heap.size (fun k_ => (P0_ k_ ∨ w.heap.size ≤ k_)) v3_ r4 ∧ Below w.heap.size w w' := by
 have hu54 := Try.underlying54
 have HO0 := Aside0.mk (show Kd.V k54 54 w w.heap.size (fun k_ => (P0_ k_ ∨ w.heap.size ≤ k_)) (.slice A0 l0.length c0) l0 from Kd.V_mono hs0 (fun k_ hk => .inl hk))
 have HB := Aside0.mk (Below.refl w.heap.size w)
 have H : ((pack_Value_77.f l0).bind fun t108 => (some (2, 0, (⟨#[]⟩ : ByteArray), t108))) = some (r1, r2, r3, r4) := h
 clear h
 replace H := Option.bind_eq_some_iff.mp H
 obtain ⟨t108, A20, H⟩ := H
 replace H : (some (2, 0, (⟨#[]⟩ : ByteArray), t108)) = some (r1, r2, r3, r4) := H
 have A2 := Aside0.mk A20
 clear A20
 simp only [Option.some.injEq, Prod.mk.injEq] at H
 obtain ⟨rfl, rfl, rfl, rfl⟩ := H
 go_enter Try.func40, Try.ntmps40
 go_wp2_with (first | ((with_reducible refine gate_dst (N := 2) rfl ?_); refine box_event ?hg (N := 2) ?hd (cs := #[.int .i64 0, .int .i64 0, .string (⟨#[]⟩ : ByteArray), .slice none 0 0]) (t := 54) ?hr ?_; (case hd => rfl); (case hg => rfl); (case hr => first | (go_simp; done) | (go_simp; rfl)); intro gb107 hg w3 hbox hb; have n0_ := Aside0.mk (Kd.V_below (Kd.V_elderB (by (with_reducible repeat (first | apply Kd.V_alloc | apply Kd.V_drewN | apply Kd.V_drew)); exact HO0.out) gb107 (Nat.le_of_eq hg.symm)) hb); have n1_ := Aside0.mk (below_step bb hb); have n2_ := Aside0.mk (hbox); have n3_ := Aside0.mk ((by rw [hg]; exact (below_size bb) : w.heap.size ≤ gb107)); have n4_ := Aside0.mk ((by rw [hg]; exact (below_size bb) : w.heap.size ≤ gb107)); clear HO0; clear HB; have HO0 := n0_; have HB := n1_; have BK107 := n2_; have GW107 := n3_; have GE107 := n4_; clear n0_ n1_ n2_ n3_ n4_; clear hb hbox hg) | ((with_reducible refine gate_callee (f := 77) rfl ?_); refine goesL_ (some 4) rfl rfl Try.func77 (by kernel_rfl) rfl #[.slice A0 l0.length c0] rfl ag ?_; (with_reducible refine (pack_Value_77.calls (fun k_ => ((P0_ k_ ∨ w.heap.size ≤ k_) ∧ k_ ≠ gb107)) _ _ l0 t108 _ ?side1 A2.out).mono ?_); (case side1 => exact HO0.out); rintro e w4 ⟨v109, rfl, ho0, hb⟩; refine ⟨_, rfl, ?_⟩; have n0_ := Aside0.mk (Kd.V_elder' (by (with_reducible repeat (first | apply Kd.V_alloc | apply Kd.V_drewN | apply Kd.V_drew)); exact HO0.out) (by first | exact Kd.N_base ho0 | exact Kd.N_base (Kd.R_N ho0)) hb); have n1_ := Aside0.mk (Kd.N_lower (Kd.N_mono (ok' := fun k_ => (P0_ k_ ∨ w.heap.size ≤ k_) ∧ k_ ≠ gb107) ho0 (fun k_ hk_ => ⟨Or.elim hk_ (fun hs_ => hs_.1) (fun hn_ => (.inr (Nat.le_trans (below_size bb) hn_))), Or.elim hk_ (fun hs_ => hs_.2) (fun hn_ => (Kd.freshB (g := gb107) (o := .cells #[.int .i64 0, .int .i64 0, .string (⟨#[]⟩ : ByteArray), .slice none 0 0] 54 (0, 0)) (rb BK107.out) k_ hn_))⟩)) (below_size bb)); have n2_ := Aside0.mk (blk_below (g := gb107) (o := .cells #[.int .i64 0, .int .i64 0, .string (⟨#[]⟩ : ByteArray), .slice none 0 0] 54 (0, 0)) (rb BK107.out) hb); have n3_ := Aside0.mk (below_step bb hb); clear HO0; clear BK107; clear HB; have HO0 := n0_; have HO110 := n1_; have BK107 := n2_; have HB := n3_; clear n0_ n1_ n2_ n3_; (try clear hb); (try clear hb2); (try clear hk); (try clear hi); (try clear ho0); obtain ⟨Ao5, co5, eo5⟩ := Kd.N_slice HO110.out; subst eo5; have hcz6_0 : w4.cell? ⟨gb107, 0, none⟩ = some (.int .i64 0) := (blk_cell BK107.out 0).trans rfl; have hcz6_1 : w4.cell? ⟨gb107, 1, none⟩ = some (.int .i64 0) := (blk_cell BK107.out 1).trans rfl; have hcz6_2 : w4.cell? ⟨gb107, 2, none⟩ = some (.string (⟨#[]⟩ : ByteArray)) := (blk_cell BK107.out 2).trans rfl; have hcz6_3 : w4.cell? ⟨gb107, 3, none⟩ = some (.slice none 0 0) := (blk_cell BK107.out 3).trans rfl; have hfz6_0 := blk_frozen BK107.out 0; have hfz6_1 := blk_frozen BK107.out 1; have hfz6_2 := blk_frozen BK107.out 2; have hfz6_3 := blk_frozen BK107.out 3))
 refine bodyPost_ret (results_cell_row rfl _ _ gb107 54 #[.int .i64 2, .int .i64 0, .string (⟨#[]⟩ : ByteArray), .slice Ao5 t108.length co5] (0, 0) _ rfl (rb (blk_put (cs := #[.int .i64 2, .int .i64 0, .string (⟨#[]⟩ : ByteArray), .slice none 0 0]) (rb (blk_put (cs := #[.int .i64 2, .int .i64 0, .string (⟨#[]⟩ : ByteArray), .slice none 0 0]) (rb (blk_put (cs := #[.int .i64 2, .int .i64 0, .string (⟨#[]⟩ : ByteArray), .slice none 0 0]) (rb (blk_put (cs := #[.int .i64 0, .int .i64 0, .string (⟨#[]⟩ : ByteArray), .slice none 0 0]) (rb BK107.out) 0 _ rfl)) 1 _ rfl)) 2 _ rfl)) 3 _ rfl)) Try.underlying54 rfl (by kernel_rfl)) rfl ?_
 exact ⟨_, by first | rfl | (simp [errW_none, errW_some] <;> rfl) | (simp [*, errW_none, errW_some] <;> rfl), kN (Kd.N_mono (Kd.N_far (p := ⟨gb107, 3, none⟩) (Kd.N_far (p := ⟨gb107, 2, none⟩) (Kd.N_far (p := ⟨gb107, 1, none⟩) (Kd.N_far (p := ⟨gb107, 0, none⟩) (Kd.N_mono HO110.out (fun k_ hk => (⟨hk, hk.2⟩ : _ ∧ k_ ≠ gb107))) (fun _ hk => hk.2) (.int .i64 2)) (fun _ hk => hk.2) (.int .i64 0)) (fun _ hk => hk.2) (.string (⟨#[]⟩ : ByteArray))) (fun _ hk => hk.2) (.slice Ao5 t108.length co5)) (fun _ hk => hk.1.1)), bb⟩

/-! ### pack_Num: function 48 -/
def pack_Num.f (a0 : Int) : Option (Int × Int × ByteArray × (List (S54))) := some (0, a0, (⟨#[]⟩ : ByteArray), ([] : List (S54)))
set_option maxHeartbeats 8000000 in
set_option maxRecDepth 100000 in
theorem pack_Num.calls (a0 : Int) (r1 : Int) (r2 : Int) (r3 : ByteArray) (r4 : List (S54)) (w : World) (h : pack_Num.f a0 = some (r1, r2, r3, r4)) :
  Calls Try.prog 48 #[.int .i64 a0] w fun e w' => ∃ v3_ : Value, e = .returned (.agg #[.int .i64 r1, .int .i64 r2, .string r3, v3_]) ∧ Kd.R k54 54 w' w.heap.size (fun _ => True) v3_ r4 ∧ Below w.heap.size w w' := by
 have hu54 := Try.underlying54
 have HB := Aside0.mk (Below.refl w.heap.size w)
 have H : (some (0, a0, (⟨#[]⟩ : ByteArray), ([] : List (S54)))) = some (r1, r2, r3, r4) := h
 clear h
 simp only [Option.some.injEq, Prod.mk.injEq] at H
 obtain ⟨rfl, rfl, rfl, rfl⟩ := H
 go_enter Try.func48, Try.ntmps48
 go_wp2_with (first | ((with_reducible refine gate_dst (N := 2) rfl ?_); refine box_event ?hg (N := 2) ?hd (cs := #[.int .i64 0, .int .i64 0, .string (⟨#[]⟩ : ByteArray), .slice none 0 0]) (t := 54) ?hr ?_; (case hd => rfl); (case hg => rfl); (case hr => first | (go_simp; done) | (go_simp; rfl)); intro gb111 hg w2 hbox hb; have n0_ := Aside0.mk (below_step bb hb); have n1_ := Aside0.mk (hbox); have n2_ := Aside0.mk ((by rw [hg]; exact (below_size bb) : w.heap.size ≤ gb111)); have n3_ := Aside0.mk ((by rw [hg]; exact (below_size bb) : w.heap.size ≤ gb111)); clear HB; have HB := n0_; have BK111 := n1_; have GW111 := n2_; have GE111 := n3_; clear n0_ n1_ n2_ n3_; clear hb hbox hg; have hcz3_0 : w2.cell? ⟨gb111, 0, none⟩ = some (.int .i64 0) := (blk_cell BK111.out 0).trans rfl; have hcz3_1 : w2.cell? ⟨gb111, 1, none⟩ = some (.int .i64 0) := (blk_cell BK111.out 1).trans rfl; have hcz3_2 : w2.cell? ⟨gb111, 2, none⟩ = some (.string (⟨#[]⟩ : ByteArray)) := (blk_cell BK111.out 2).trans rfl; have hcz3_3 : w2.cell? ⟨gb111, 3, none⟩ = some (.slice none 0 0) := (blk_cell BK111.out 3).trans rfl; have hfz3_0 := blk_frozen BK111.out 0; have hfz3_1 := blk_frozen BK111.out 1; have hfz3_2 := blk_frozen BK111.out 2; have hfz3_3 := blk_frozen BK111.out 3))
 refine bodyPost_ret (results_cell_row rfl _ _ gb111 54 #[.int .i64 0, .int .i64 a0, .string (⟨#[]⟩ : ByteArray), .slice none 0 0] (0, 0) _ rfl (rb (blk_put (cs := #[.int .i64 0, .int .i64 a0, .string (⟨#[]⟩ : ByteArray), .slice none 0 0]) (rb (blk_put (cs := #[.int .i64 0, .int .i64 a0, .string (⟨#[]⟩ : ByteArray), .slice none 0 0]) (rb (blk_put (cs := #[.int .i64 0, .int .i64 0, .string (⟨#[]⟩ : ByteArray), .slice none 0 0]) (rb (blk_put (cs := #[.int .i64 0, .int .i64 0, .string (⟨#[]⟩ : ByteArray), .slice none 0 0]) (rb BK111.out) 0 _ rfl)) 1 _ rfl)) 2 _ rfl)) 3 _ rfl)) Try.underlying54 rfl (by kernel_rfl)) rfl ?_
 exact ⟨_, by first | rfl | (simp [errW_none, errW_some] <;> rfl) | (simp [*, errW_none, errW_some] <;> rfl), kn, bb⟩

/-! ### pack_Str: function 64 -/
def pack_Str.f (a0 : ByteArray) : Option (Int × Int × ByteArray × (List (S54))) := some (1, 0, a0, ([] : List (S54)))
set_option maxHeartbeats 8000000 in
set_option maxRecDepth 100000 in
theorem pack_Str.calls (a0 : ByteArray) (r1 : Int) (r2 : Int) (r3 : ByteArray) (r4 : List (S54)) (w : World) (h : pack_Str.f a0 = some (r1, r2, r3, r4)) :
  Calls Try.prog 64 #[.string a0] w fun e w' => ∃ v3_ : Value, e = .returned (.agg #[.int .i64 r1, .int .i64 r2, .string r3, v3_]) ∧ Kd.R k54 54 w' w.heap.size (fun _ => True) v3_ r4 ∧ Below w.heap.size w w' := by
 have hu54 := Try.underlying54
 have HB := Aside0.mk (Below.refl w.heap.size w)
 have H : (some (1, 0, a0, ([] : List (S54)))) = some (r1, r2, r3, r4) := h
 clear h
 simp only [Option.some.injEq, Prod.mk.injEq] at H
 obtain ⟨rfl, rfl, rfl, rfl⟩ := H
 go_enter Try.func64, Try.ntmps64
 go_wp2_with (first | ((with_reducible refine gate_dst (N := 2) rfl ?_); refine box_event ?hg (N := 2) ?hd (cs := #[.int .i64 0, .int .i64 0, .string (⟨#[]⟩ : ByteArray), .slice none 0 0]) (t := 54) ?hr ?_; (case hd => rfl); (case hg => rfl); (case hr => first | (go_simp; done) | (go_simp; rfl)); intro gb112 hg w2 hbox hb; have n0_ := Aside0.mk (below_step bb hb); have n1_ := Aside0.mk (hbox); have n2_ := Aside0.mk ((by rw [hg]; exact (below_size bb) : w.heap.size ≤ gb112)); have n3_ := Aside0.mk ((by rw [hg]; exact (below_size bb) : w.heap.size ≤ gb112)); clear HB; have HB := n0_; have BK112 := n1_; have GW112 := n2_; have GE112 := n3_; clear n0_ n1_ n2_ n3_; clear hb hbox hg; have hcz3_0 : w2.cell? ⟨gb112, 0, none⟩ = some (.int .i64 0) := (blk_cell BK112.out 0).trans rfl; have hcz3_1 : w2.cell? ⟨gb112, 1, none⟩ = some (.int .i64 0) := (blk_cell BK112.out 1).trans rfl; have hcz3_2 : w2.cell? ⟨gb112, 2, none⟩ = some (.string (⟨#[]⟩ : ByteArray)) := (blk_cell BK112.out 2).trans rfl; have hcz3_3 : w2.cell? ⟨gb112, 3, none⟩ = some (.slice none 0 0) := (blk_cell BK112.out 3).trans rfl; have hfz3_0 := blk_frozen BK112.out 0; have hfz3_1 := blk_frozen BK112.out 1; have hfz3_2 := blk_frozen BK112.out 2; have hfz3_3 := blk_frozen BK112.out 3))
 refine bodyPost_ret (results_cell_row rfl _ _ gb112 54 #[.int .i64 1, .int .i64 0, .string a0, .slice none 0 0] (0, 0) _ rfl (rb (blk_put (cs := #[.int .i64 1, .int .i64 0, .string a0, .slice none 0 0]) (rb (blk_put (cs := #[.int .i64 1, .int .i64 0, .string (⟨#[]⟩ : ByteArray), .slice none 0 0]) (rb (blk_put (cs := #[.int .i64 1, .int .i64 0, .string (⟨#[]⟩ : ByteArray), .slice none 0 0]) (rb (blk_put (cs := #[.int .i64 0, .int .i64 0, .string (⟨#[]⟩ : ByteArray), .slice none 0 0]) (rb BK112.out) 0 _ rfl)) 1 _ rfl)) 2 _ rfl)) 3 _ rfl)) Try.underlying54 rfl (by kernel_rfl)) rfl ?_
 exact ⟨_, by first | rfl | (simp [errW_none, errW_some] <;> rfl) | (simp [*, errW_none, errW_some] <;> rfl), kn, bb⟩

/-! ### words_Fold: function 101 -/
def words_Fold.f (a0 : Int) : Option (Int) := some (Go.bits .xor .u64 (IntKind.u64.wrap (wrap64 (a0 * 2))) (IntKind.u64.wrap (a0 / 9223372036854775808)))
set_option maxHeartbeats 8000000 in
set_option maxRecDepth 100000 in
theorem words_Fold.calls (a0 : Int) (r : Int) (w : World) (h : words_Fold.f a0 = some r) :
  Calls Try.prog 101 #[.int .i64 a0] w fun e w' => e = .returned (.int .u64 r) ∧ Drawn0 w w' := by
 have H : (some (Go.bits .xor .u64 (IntKind.u64.wrap (wrap64 (a0 * 2))) (IntKind.u64.wrap (a0 / 9223372036854775808)))) = some r := h
 clear h
 obtain rfl := Option.some.inj H
 go_enter Try.func101, Try.ntmps101
 go_wp2
 go_ret
 exact ⟨by first | rfl | (simp; done) | (simp [*]; done), by repeat (first | exact Drawn0.refl _ | apply Drawn0.step)⟩

-- NOT PRINTED: function 118 (abi_NoEscape)

-- NOT PRINTED: function 114 (strings_Builder_copyCheck)

-- NOT PRINTED: function 102 (strings_Builder_WriteString)

/-! ### words_Put: function 103 -/
def words_Put.l0 : Nat → Int → List Int → Int → Option (ByteArray)
 | 0, _, _, _ => none
 | k + 1, x1, x5, x6 => if x6 ≥ 0 then (if 0 ≤ (wrap64 (8 * x6)) then (if x5.length < 140737488355328 then (words_Put.l0 k x1 (x5 ++ [(shr .u64 x1 (wrap64 (8 * x6))) % 256]) (wrap64 (x6 - 1))) else (none)) else (none)) else (some (strOfNums x5))
def words_Put.f (k : Nat) (a0 : Int) (a1 : Int) : Option (ByteArray) := words_Put.l0 k a1 ([] : List Int) ((mx 0 (mn a0 8)) - 1)
theorem words_Put.mono_l : ∀ k, (∀ y0 y1 y2, LeO (words_Put.l0 k y0 y1 y2) (words_Put.l0 (k + 1) y0 y1 y2))
 | 0 => fun _ _ _ r h => by simp [words_Put.l0] at h
 | k + 1 => by
  have ih0 := words_Put.mono_l k
  ·intro y0 y1 y2
   unfold words_Put.l0
   repeat' first
   | (with_reducible exact ih0 _ _ _)
   | (with_reducible exact LeO.refl _)
   | (with_reducible exact LeO.none _)
   | (with_reducible refine LeO.ite ?_ ?_)
   | (with_reducible refine LeO.bind ?_ (fun _ => ?_))
   | exact ih0 _ _ _
   | exact LeO.none _
   | refine LeO.ite ?_ ?_
   | refine LeO.bind ?_ (fun _ => ?_)
theorem words_Put.mono : ∀ a0 a1 k, LeO (words_Put.f k a0 a1) (words_Put.f (k + 1) a0 a1) := by
 intro a0 a1 k
 have ih0 := words_Put.mono_l k
 unfold words_Put.f
 repeat' first
   | (with_reducible exact ih0 _ _ _)
   | (with_reducible exact LeO.refl _)
   | (with_reducible exact LeO.none _)
   | (with_reducible refine LeO.ite ?_ ?_)
   | (with_reducible refine LeO.bind ?_ (fun _ => ?_))
   | exact ih0 _ _ _
   | exact LeO.none _
   | refine LeO.ite ?_ ?_
   | refine LeO.bind ?_ (fun _ => ?_)
set_option maxHeartbeats 8000000 in
set_option maxRecDepth 100000 in
theorem words_Put.calls (k : Nat) (a0 : Int) (a1 : Int) (r : ByteArray) (w : World) (h : words_Put.f k a0 a1 = some r) :
  Calls Try.prog 103 #[.int .i64 a0, .int .u64 a1] w fun e w' => e = .returned (.string r) ∧ Below w.heap.size w w' := by
 have HB := Aside0.mk (Below.refl w.heap.size w)
 have H : (words_Put.l0 k a1 ([] : List Int) ((mx 0 (mn a0 8)) - 1)) = some r := h
 clear h
 obtain ⟨ji3, hji3⟩ : ∃ j_ : Int, (mn a0 8) = j_ := ⟨_, rfl⟩
 replace H : (words_Put.l0 k a1 ([] : List Int) ((mx 0 (ji3)) - 1)) = some r := by first | (rw [hji3] at H; exact H) | (simp only [hji3] at H ⊢; exact H)
 (try (have hji3h : ji3 ≤ 8 := by (rw [← hji3]; unfold mn; (repeat' split) <;> omega)))
 (try (have hji3g : ji3 ≤ 64 := by omega))
 have hji3_ : (if 8 < a0 then 8 else a0) = ji3 := hji3
 obtain ⟨ji4, hji4⟩ : ∃ j_ : Int, (mx 0 (ji3)) = j_ := ⟨_, rfl⟩
 replace H : (words_Put.l0 k a1 ([] : List Int) ((ji4) - 1)) = some r := by first | (rw [hji4] at H; exact H) | (simp only [hji4] at H ⊢; exact H)
 have hji4_ : (if 0 < (ji3) then (ji3) else 0) = ji4 := hji4
 have H' := Aside0.mk H
 clear H
 go_enter Try.func103, Try.ntmps103
 go_wp2
 go_loopg [5, 6] k (fun kq v5 v6 w' => ∃ (x5_1 : List Int) (x6_1 : Int), v6 = .int .i64 x6_1 ∧ Aside0 (words_Put.l0 kq a1 x5_1 x6_1 = some r) ∧ Aside0 (kq ≤ k) ∧ Aside0 (Kd.R (Kd.int .u8) 5 w' w.heap.size (fun _ => True) v5 x5_1) ∧ Aside0 (Below w.heap.size w w'))
 case atStart => exact ⟨(([] : List Int)), ((ji4) - 1), (by first | rfl | (simp; done) | (simp only [← hji4] <;> (first | rfl | simp)) | (simp [*]; done)), H', ⟨Nat.le_refl _⟩, ⟨kn⟩, ⟨bb⟩⟩
 case round =>
  clear H'
  try clear c1
  try clear p2
  obtain ⟨x5_1, x6_1, rfl, HA, HK1, HO_5, HB⟩ := hrel
  cases gk with
  | zero => exact absurd HA.out (by simp [words_Put.l0])
  | succ k1 =>
   have H := HA.out
   clear HA
   simp only [words_Put.l0] at H
   by_cases c5 : x6_1 ≥ 0
   ·rw [if_pos c5] at H
    have c5b0 : decide (0 ≤ x6_1) = true := decide_eq_true c5
    clear c5
    obtain ⟨ji6, hji6⟩ : ∃ j_ : Int, (wrap64 (8 * x6_1)) = j_ := ⟨_, rfl⟩
    replace H : (if 0 ≤ (ji6) then (if x5_1.length < 140737488355328 then (words_Put.l0 k1 a1 (x5_1 ++ [(shr .u64 a1 (ji6)) % 256]) (wrap64 (x6_1 - 1))) else (none)) else (none)) = some r := by first | (rw [hji6] at H; exact H) | (simp only [hji6] at H ⊢; exact H)
    have hji6w : (IntKind.i64.wrap (8 * x6_1)) = ji6 := (i64_w _).trans hji6
    by_cases c7 : 0 ≤ (ji6)
    ·rw [if_pos c7] at H
     have c7b0 := eq_true c7
     have c7b1 : decide (0 ≤ (ji6)) = true := decide_eq_true c7
     clear c7
     obtain ⟨ji8, hji8⟩ : ∃ j_ : Int, (shr .u64 a1 (ji6)) = j_ := ⟨_, rfl⟩
     replace H : (if x5_1.length < 140737488355328 then (words_Put.l0 k1 a1 (x5_1 ++ [(ji8) % 256]) (wrap64 (x6_1 - 1))) else (none)) = some r := by first | (rw [hji8] at H; exact H) | (simp only [hji8] at H ⊢; exact H)
     have hji8_ : (a1 / 2 ^ min (ji6).toNat 64) = ji8 := hji8
     have hji8z : (ji6) ≤ 64 → (a1 / 2 ^ (ji6).toNat) = ji8 := shr_small hji8
     by_cases c9 : x5_1.length < 140737488355328
     ·rw [if_pos c9] at H
      have LMc9 := Aside0.mk c9
      clear c9
      obtain ⟨y113, hy113⟩ : ∃ y_ : List Int, y_ = (x5_1 ++ [(ji8) % 256]) := ⟨_, rfl⟩
      replace H : (words_Put.l0 k1 a1 y113 (wrap64 (x6_1 - 1))) = some r := by first | (rw [hy113]; with_reducible exact H) | (have H2_ := (Option.bind_some _ _).symm.trans H; rw [hy113]; with_reducible exact H2_) | (have H2_ := (Option.bind_some _ _).symm.trans H; with_reducible exact H2_) | with_reducible exact H | (rw [hy113]; exact H) | exact H
      have Ny113 := Aside0.mk hy113
      clear hy113
      have H' := Aside0.mk H
      clear H
      go_wp2_with (first | ((with_reducible refine gate_builtin (b := .append) (xs := #[.tmp 15, .tmp 21]) rfl ?_); at_builtin; refine Kd.R_append (Kd.int .u8) (w0 := w) w.heap.size rfl (.tmp 15) (.tmp 21) 44 5 (.int .u8 0) 1 rfl Try.underlying44 info5 rfl (by decide) (by omega) u5 x5_1 ((ji8) % 256) [.int .u8 ((ji8) % 256)] (fun _ => True) (fun _ => False) rfl rfl ?aP (fun _ hk => hk.elim) ?aF ?aO ?aB ?aS ?aL ?_; (case aP => exact rfl); (case aB => exact bb); (case aF => exact (fun _ _ => trivial)); (case aO => exact (kR HO_5.out)); (case aS => exact (below_size bb)); (case aL => have := LMc9.out; omega); intro v114 w10 ho hb hg hat; rw [← Ny113.out] at ho; have n0_ := Aside0.mk (hb); have n1_ := Aside0.mk (ho); clear HB; clear HO_5; have HB := n0_; have HO115 := n1_; clear n0_ n1_; clear ho hb hg hat))
      go_roundg k1
      case measure => have := HK1.out; omega
      case rel => exact ⟨(y113), (wrap64 (x6_1 - 1)), (by first | rfl | (simp; done) | (simp [*]; done)), H', ⟨by have := HK1.out; omega⟩, ⟨kR HO115.out⟩, ⟨bb⟩⟩
     ·rw [if_neg c9] at H
      exact absurd H (by simp)
    ·rw [if_neg c7] at H
     exact absurd H (by simp)
   ·rw [if_neg c5] at H
    have c5b0 : decide (0 ≤ x6_1) = false := decide_eq_false c5
    clear c5
    obtain rfl := Option.some.inj H
    have hcv11 := own_string (P := Try.prog) Try.underlying44 Try.underlying5 Try.underlying9 (Kd.own_of_R HO_5.out)
    go_wp2
    go_ret
    exact ⟨by first | rfl | (simp [errW_none, errW_some] <;> rfl) | (simp only [← hji3, ← hji4]; first | rfl | (simp [errW_none, errW_some] <;> rfl)) | (simp [*, errW_none, errW_some] <;> rfl), bb⟩

/-! ### words_Text: function 104 -/
def words_Text.f (k : Nat) (a0 : ByteArray) : Option (ByteArray × Int) := if (a0.size : Int) > 65535 then (some ((⟨#[]⟩ : ByteArray), 5)) else ((words_Put.f k 2 (IntKind.u64.wrap ((a0.size : Int)))).bind fun t116 => (if t116.size + a0.size ≤ 9223372036854775807 then (some (t116 ++ a0, 0)) else (none)))
theorem words_Text.mono : ∀ a0 k, LeO (words_Text.f k a0) (words_Text.f (k + 1) a0) := by
 intro a0 k
 unfold words_Text.f
 repeat' first
   | (with_reducible exact words_Put.mono _ _ _)
   | (with_reducible exact LeO.refl _)
   | (with_reducible exact LeO.none _)
   | (with_reducible refine LeO.ite ?_ ?_)
   | (with_reducible refine LeO.bind ?_ (fun _ => ?_))
   | exact words_Put.mono _ _ _
   | exact LeO.none _
   | refine LeO.ite ?_ ?_
   | refine LeO.bind ?_ (fun _ => ?_)
set_option maxHeartbeats 8000000 in
set_option maxRecDepth 100000 in
theorem words_Text.calls (k : Nat) (a0 : ByteArray) (r1 : ByteArray) (r2 : Int) (w : World) (h : words_Text.f k a0 = some (r1, r2)) :
  Calls Try.prog 104 #[.string a0] w fun e w' => e = .returned (.tuple #[.string r1, .int .i64 r2]) ∧ Below w.heap.size w w' := by
 have HB := Aside0.mk (Below.refl w.heap.size w)
 have H : (if (a0.size : Int) > 65535 then (some ((⟨#[]⟩ : ByteArray), 5)) else ((words_Put.f k 2 (IntKind.u64.wrap ((a0.size : Int)))).bind fun t116 => (if t116.size + a0.size ≤ 9223372036854775807 then (some (t116 ++ a0, 0)) else (none)))) = some (r1, r2) := h
 clear h
 by_cases c2 : (a0.size : Int) > 65535
 ·rw [if_pos c2] at H
  have c2b0 : decide (65535 < (a0.size : Int)) = true := decide_eq_true c2
  have c2b1 : decide (65535 < a0.size) = true := decide_eq_true (by omega)
  clear c2
  simp only [Option.some.injEq, Prod.mk.injEq] at H
  obtain ⟨rfl, rfl⟩ := H
  go_enter Try.func104, Try.ntmps104
  go_wp2
  go_ret2
  exact ⟨by first | rfl | (simp [errW_none, errW_some] <;> rfl) | (simp [*, errW_none, errW_some] <;> rfl), bb⟩
 ·rw [if_neg c2] at H
  have c2b0 : decide (65535 < (a0.size : Int)) = false := decide_eq_false c2
  have c2b1 : decide (65535 < a0.size) = false := decide_eq_false (by omega)
  clear c2
  replace H := Option.bind_eq_some_iff.mp H
  obtain ⟨t116, A30, H⟩ := H
  replace H : (if t116.size + a0.size ≤ 9223372036854775807 then (some (t116 ++ a0, 0)) else (none)) = some (r1, r2) := H
  have A3 := Aside0.mk A30
  clear A30
  have hw_ : IntKind.u64.wrap ((a0.size : Int)) = (a0.size : Int) := by have hg_ := of_decide_eq_false c2b0; simp [IntKind.wrap, IntKind.bits, IntKind.signed]; omega
  rw [hw_] at A3
  clear hw_
  by_cases c4 : t116.size + a0.size ≤ 9223372036854775807
  ·rw [if_pos c4] at H
   have c4b0 := eq_true c4
   have c4b1 : decide (t116.size + a0.size ≤ 9223372036854775807) = true := decide_eq_true c4
   try have c4b2 : (9223372036854775807 < t116.size + a0.size) = False := eq_false (Nat.not_lt.2 c4)
   simp only [Option.some.injEq, Prod.mk.injEq] at H
   obtain ⟨rfl, rfl⟩ := H
   go_enter Try.func104, Try.ntmps104
   go_wp2_with (first | ((with_reducible refine gate_callee (f := 103) rfl ?_); refine goesL_ (some 10) rfl rfl Try.func103 (by kernel_rfl) rfl #[.int .i64 2, .int .u64 ((a0.size : Int))] rfl ag ?_; (with_reducible refine (words_Put.calls k 2 ((a0.size : Int)) t116 _ A3.out).mono ?_); rintro e w5 ⟨rfl, hb⟩; refine ⟨_, rfl, ?_⟩; have n0_ := Aside0.mk (below_step bb hb); clear HB; have HB := n0_; clear n0_; (try clear hb); (try clear hb2); (try clear hk); (try clear hi)))
   go_ret2
   exact ⟨by first | rfl | (simp [errW_none, errW_some] <;> rfl) | (simp [*, errW_none, errW_some] <;> rfl), bb⟩
  ·rw [if_neg c4] at H
   exact absurd H (by simp)

-- NOT PRINTED: function 94 (pack_put)

-- NOT PRINTED: function 95 (strings_Builder_String)

end Go.Proofs.Ytjicfkmpgogppaa.PO
