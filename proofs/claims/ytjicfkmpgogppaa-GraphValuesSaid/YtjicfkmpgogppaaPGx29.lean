-- printed by a program of this session out of the translation; see NOTES.md
import Derived.Test.YtjicfkmpgogppaaPGx0
import Derived.Test.YtjicfkmpgogppaaRb
namespace Go.Proofs.Ytjicfkmpgogppaa.PG
open Go.RowKit Go.Proofs.YtjicfkmpgogppaaW.PrintWords Go.Proofs.YtjicfkmpgogppaaW.PrintLast Go.Proofs.YtjicfkmpgogppaaW.PrintMore Go.Proofs.YtjicfkmpgogppaaRb
attribute [local go_sem] max2_int min2_int max_two min_two max_three min_three max_four min_four   -- for this text's walks alone
set_option linter.unusedVariables false
set_option linter.unusedSimpArgs false

/-! ### pack_Value_77: function 77 -/
def pack_Value_77.f (l0 : List (S54)) : Option ((List (S54))) := (some (([] : List (S54)) : List (S54))).bind fun y316 => (if y316.length + l0.length < 2513169434916 then (some (y316 ++ l0)) else (none))
set_option maxHeartbeats 8000000 in
set_option maxRecDepth 100000 in
theorem pack_Value_77.calls (P0_ : Nat → Prop) (A0 : Option Addr) (c0 : Nat) (l0 : List (S54)) (r : List (S54)) (w : World) (hs0 : Kd.V k54 54 w w.heap.size (fun k_ => P0_ k_) (.slice A0 l0.length c0) l0) (h : pack_Value_77.f l0 = some r) :
  Calls Try.prog 77 #[.slice A0 l0.length c0] w fun e w' => ∃ v0_ : Value, e = .returned (v0_) ∧ Kd.N k54 54 w' w.heap.size (fun k_ => (P0_ k_ ∨ w.heap.size ≤ k_)) v0_ r ∧ Below w.heap.size w w' := by
 have hq_ := fun w => Go.run_eql_slice_nil (P := Try.prog) w 52 54 A0 l0.length c0 Try.underlying52
 by_cases hA_ : A0 = none
 ·have hz_ := (Kd.V_reads' hs0).2.2
  obtain rfl : l0 = [] := by
   rcases Nat.eq_zero_or_pos l0.length with h0_ | h0_
   ·exact List.length_eq_zero_iff.mp h0_
   ·obtain ⟨ad_, had_, _⟩ := hz_.2.2 h0_; rw [hA_] at had_; cases had_
  obtain rfl : r = [] := by simpa [pack_Value_77.f] using h.symm
  subst hA_
  have hn_ : (none : Option Addr).isNone = true := rfl
  have hq2_ := fun w => Go.run_eql_slice_nil (P := Try.prog) w 52 54 none 0 c0 Try.underlying52
  clear hz_ h
  go_enter Try.func77, Try.ntmps77
  go_wp2
  go_ret
  exact ⟨_, rfl, Kd.N_nil _ _ _ _ _, Below.refl _ _⟩
 have hn_ : A0.isNone = false := by cases A0 with | none => exact absurd rfl hA_ | some _ => rfl
 clear hA_
 have HO0 := Aside0.mk (show Kd.V k54 54 w w.heap.size (fun k_ => (P0_ k_ ∨ w.heap.size ≤ k_)) (.slice A0 l0.length c0) l0 from Kd.V_mono hs0 (fun k_ hk => .inl hk))
 have HB := Aside0.mk (Below.refl w.heap.size w)
 have H : ((some (([] : List (S54)) : List (S54))).bind fun y316 => (if y316.length + l0.length < 2513169434916 then (some (y316 ++ l0)) else (none))) = some r := h
 clear h
 obtain ⟨y316, hy316⟩ : ∃ y_ : List (S54), y_ = (([] : List (S54))) := ⟨_, rfl⟩
 replace H : (if y316.length + l0.length < 2513169434916 then (some (y316 ++ l0)) else (none)) = some r := by first | (rw [hy316]; with_reducible exact H) | (have H2_ := (Option.bind_some _ _).symm.trans H; rw [hy316]; with_reducible exact H2_) | (have H2_ := (Option.bind_some _ _).symm.trans H; with_reducible exact H2_) | with_reducible exact H | (rw [hy316]; exact H) | exact H
 have Ny316 := Aside0.mk hy316
 clear hy316
 by_cases c2 : y316.length + l0.length < 2513169434916
 ·rw [if_pos c2] at H
  have LMc2 := Aside0.mk c2
  clear c2
  obtain ⟨y319, hy319⟩ : ∃ y_ : List (S54), y_ = (y316 ++ l0) := ⟨_, rfl⟩
  replace H : (some y319) = some r := by first | (rw [hy319]; with_reducible exact H) | (have H2_ := (Option.bind_some _ _).symm.trans H; rw [hy319]; with_reducible exact H2_) | (have H2_ := (Option.bind_some _ _).symm.trans H; with_reducible exact H2_) | with_reducible exact H | (rw [hy319]; exact H) | exact H
  have Ny319 := Aside0.mk hy319
  clear hy319
  obtain rfl := Option.some.inj H
  go_enter Try.func77, Try.ntmps77
  go_wp2_with (first | ((with_reducible refine gate_dst (N := 5) rfl ?_); refine Kd.N_lit k54 _ 54 ?hg (N' := 5) ?hd (xs := ([] : List (S54))) (inner := []) (ok := (fun k_ => (P0_ k_ ∨ w.heap.size ≤ k_))) (okp := (fun k_ => (P0_ k_ ∨ w.heap.size ≤ k_))) ?hr ?hp (fun _ hk => hk) ((show ∀ k_, w.heap.size ≤ k_ → (fun k_ => (P0_ k_ ∨ w.heap.size ≤ k_)) k_ from fun k_ hk => (.inr (Nat.le_trans (below_size bb) hk))) _ (Nat.le_refl _)) (Below.refl _ _) (Nat.le_refl _) (by simp) ?_; (case hd => rfl); (case hg => rfl); (case hr => first | (go_simp; done) | (go_simp; rfl)); (case hp => exact (Reps.none _ _)); intro v317 w3 ho4 hb hg_ hnew_; clear hg_ hnew_; (first | rw [← Ny316.out] at ho4 | (simp only [Int.reduceToNat] at ho4; rw [← Ny316.out] at ho4)); have n0_ := Aside0.mk (Kd.V_elder' (by (with_reducible repeat (first | apply Kd.V_alloc | apply Kd.V_drewN | apply Kd.V_drew)); exact HO0.out) (by first | exact Kd.N_base ho4 | exact Kd.N_base (Kd.R_N ho4) | exact Kd.N_base (Kd.S_N ho4)) hb); have n1_ := Aside0.mk (Kd.N_lower ho4 (below_size bb)); have n2_ := Aside0.mk (below_step bb hb); clear HO0; clear HB; have HO0 := n0_; have HO318 := n1_; have HB := n2_; clear n0_ n1_ n2_; clear hb ho4) | ((with_reducible refine gate_builtin (b := .append) (xs := #[.tmp 5, .tmp 6]) rfl ?_); at_builtin; refine Kd.N_append_rows k54 (w0 := w) w.heap.size rfl (.tmp 5) (.tmp 6) 52 54 (.agg #[(.int .i64 0), (.int .i64 0), (.string ⟨#[]⟩), (.slice none 0 0)]) 56 rfl Try.underlying52 info54 rfl (by decide) (by omega) v317 y316 l0 _ _ _ (fun k_ => (P0_ k_ ∨ w.heap.size ≤ k_)) (fun k_ => ((fun k_ => (P0_ k_ ∨ w.heap.size ≤ k_))) k_ ∧ some k_ ≠ (v317 : Value).ownBlock) rfl rfl ?aO ?aR (fun _ hk => hk) ?aF ?aB ?aS ?aL ?_; (case aR => exact (by skip; exact Kd.V_F (Kd.V_mono (ok' := (fun k_ => ((fun k_ => (P0_ k_ ∨ w.heap.size ≤ k_))) k_ ∧ some k_ ≠ (v317 : Value).ownBlock)) (HO0.out) (fun k_ hk => ⟨hk.1, hk.2⟩)))); (case aB => exact bb); (case aF => exact (fun k_ hk => (.inr (Nat.le_trans (below_size bb) hk)))); (case aO => exact (kN HO318.out)); (case aS => exact (below_size bb)); (case aL => have := LMc2.out; omega); intro v320 w5 ho hb hg hat; rw [← Ny319.out] at ho; have n0_ := Aside0.mk (Kd.V_afterv (ok := (fun k_ => (P0_ k_ ∨ w.heap.size ≤ k_))) (by (with_reducible repeat (first | apply Kd.V_alloc | apply Kd.V_drewN | apply Kd.V_drew)); exact HO0.out) hg hat); have n1_ := Aside0.mk (hb); have n2_ := Aside0.mk (ho); clear HO0; clear HB; clear HO318; have HO0 := n0_; have HB := n1_; have HO321 := n2_; clear n0_ n1_ n2_; clear ho hb hg hat))
  go_ret
  exact ⟨_, by first | rfl | (simp [errW_none, errW_some] <;> rfl) | (simp [*, errW_none, errW_some] <;> rfl), kN HO321.out, bb⟩
 ·rw [if_neg c2] at H
  exact absurd H (by simp)

/-! ### pack_All: function 40 -/
def pack_All.f (l0 : List (S54)) : Option (Int × Int × ByteArray × (List (S54))) := (pack_Value_77.f l0).bind fun t323 => (some (2, 0, (⟨#[]⟩ : ByteArray), t323))
set_option maxHeartbeats 8000000 in
set_option maxRecDepth 100000 in
theorem pack_All.calls (P0_ : Nat → Prop) (A0 : Option Addr) (c0 : Nat) (l0 : List (S54)) (r1 : Int) (r2 : Int) (r3 : ByteArray) (r4 : List (S54)) (w : World) (hs0 : Kd.V k54 54 w w.heap.size (fun k_ => P0_ k_) (.slice A0 l0.length c0) l0) (h : pack_All.f l0 = some (r1, r2, r3, r4)) :
  Calls Try.prog 40 #[.slice A0 l0.length c0] w fun e w' => ∃ v3_ : Value, e = .returned (.agg #[.int .i64 r1, .int .i64 r2, .string r3, v3_]) ∧ Kd.N k54 54 w' w.heap.size (fun k_ => (P0_ k_ ∨ w.heap.size ≤ k_)) v3_ r4 ∧ Below w.heap.size w w' := by
 have hu54 := Try.underlying54
 have HO0 := Aside0.mk (show Kd.V k54 54 w w.heap.size (fun k_ => (P0_ k_ ∨ w.heap.size ≤ k_)) (.slice A0 l0.length c0) l0 from Kd.V_mono hs0 (fun k_ hk => .inl hk))
 have HB := Aside0.mk (Below.refl w.heap.size w)
 have H : ((pack_Value_77.f l0).bind fun t323 => (some (2, 0, (⟨#[]⟩ : ByteArray), t323))) = some (r1, r2, r3, r4) := h
 clear h
 replace H := Option.bind_eq_some_iff.mp H
 obtain ⟨t323, A20, H⟩ := H
 replace H : (some (2, 0, (⟨#[]⟩ : ByteArray), t323)) = some (r1, r2, r3, r4) := H
 have A2 := Aside0.mk A20
 clear A20
 simp only [Option.some.injEq, Prod.mk.injEq] at H
 obtain ⟨rfl, rfl, rfl, rfl⟩ := H
 go_enter Try.func40, Try.ntmps40
 go_wp2_with (first | ((with_reducible refine gate_dst (N := 2) rfl ?_); refine box_event ?hg (N := 2) ?hd (cs := #[.int .i64 0, .int .i64 0, .string (⟨#[]⟩ : ByteArray), .slice none 0 0]) (t := 54) ?hr ?_; (case hd => rfl); (case hg => rfl); (case hr => first | (go_simp; done) | (go_simp; rfl)); intro gb322 hg w3 hbox hb; have n0_ := Aside0.mk (Kd.V_below (Kd.V_elderB (by (with_reducible repeat (first | apply Kd.V_alloc | apply Kd.V_drewN | apply Kd.V_drew)); exact HO0.out) gb322 (Nat.le_of_eq hg.symm)) hb); have n1_ := Aside0.mk (below_step bb hb); have n2_ := Aside0.mk (hbox); have n3_ := Aside0.mk ((by rw [hg]; exact (below_size bb) : w.heap.size ≤ gb322)); have n4_ := Aside0.mk ((by rw [hg]; exact (below_size bb) : w.heap.size ≤ gb322)); clear HO0; clear HB; have HO0 := n0_; have HB := n1_; have BK322 := n2_; have GW322 := n3_; have GE322 := n4_; clear n0_ n1_ n2_ n3_ n4_; clear hb hbox hg) | ((with_reducible refine gate_callee (f := 77) rfl ?_); refine goesL_ (some 4) rfl rfl Try.func77 (by kernel_rfl) rfl #[.slice A0 l0.length c0] rfl ag ?_; (with_reducible refine (pack_Value_77.calls (fun k_ => ((P0_ k_ ∨ w.heap.size ≤ k_) ∧ k_ ≠ gb322)) _ _ l0 t323 _ ?side1 A2.out).mono ?_); (case side1 => exact HO0.out); rintro e w4 ⟨v324, rfl, ho0, hb⟩; refine ⟨_, rfl, ?_⟩; have n0_ := Aside0.mk (Kd.V_elder' (by (with_reducible repeat (first | apply Kd.V_alloc | apply Kd.V_drewN | apply Kd.V_drew)); exact HO0.out) (by first | exact Kd.N_base ho0 | exact Kd.N_base (Kd.R_N ho0) | exact Kd.N_base (Kd.S_N ho0)) hb); have n1_ := Aside0.mk (Kd.N_lower (Kd.N_mono (ok' := fun k_ => (P0_ k_ ∨ w.heap.size ≤ k_) ∧ k_ ≠ gb322) ho0 (fun k_ hk_ => ⟨Or.elim hk_ (fun hs_ => hs_.1) (fun hn_ => (.inr (Nat.le_trans (below_size bb) hn_))), Or.elim hk_ (fun hs_ => hs_.2) (fun hn_ => (Kd.freshB (g := gb322) (o := .cells #[.int .i64 0, .int .i64 0, .string (⟨#[]⟩ : ByteArray), .slice none 0 0] 54 (0, 0)) (rb BK322.out) k_ hn_))⟩)) (below_size bb)); have n2_ := Aside0.mk (blk_below (g := gb322) (o := .cells #[.int .i64 0, .int .i64 0, .string (⟨#[]⟩ : ByteArray), .slice none 0 0] 54 (0, 0)) (rb BK322.out) hb); have n3_ := Aside0.mk (below_step bb hb); clear HO0; clear BK322; clear HB; have HO0 := n0_; have HO325 := n1_; have BK322 := n2_; have HB := n3_; clear n0_ n1_ n2_ n3_; (try clear hb); (try clear hb2); (try clear hk); (try clear hi); (try clear ho0); obtain ⟨Ao5, co5, eo5⟩ := Kd.N_slice HO325.out; subst eo5; have hcz6_0 : w4.cell? ⟨gb322, 0, none⟩ = some (.int .i64 0) := (blk_cell BK322.out 0).trans rfl; have hcz6_1 : w4.cell? ⟨gb322, 1, none⟩ = some (.int .i64 0) := (blk_cell BK322.out 1).trans rfl; have hcz6_2 : w4.cell? ⟨gb322, 2, none⟩ = some (.string (⟨#[]⟩ : ByteArray)) := (blk_cell BK322.out 2).trans rfl; have hcz6_3 : w4.cell? ⟨gb322, 3, none⟩ = some (.slice none 0 0) := (blk_cell BK322.out 3).trans rfl; have hfz6_0 := blk_frozen BK322.out 0; have hfz6_1 := blk_frozen BK322.out 1; have hfz6_2 := blk_frozen BK322.out 2; have hfz6_3 := blk_frozen BK322.out 3))
 refine bodyPost_ret (results_cell_row rfl _ _ gb322 54 #[.int .i64 2, .int .i64 0, .string (⟨#[]⟩ : ByteArray), .slice Ao5 t323.length co5] (0, 0) _ rfl (rb (blk_put (cs := #[.int .i64 2, .int .i64 0, .string (⟨#[]⟩ : ByteArray), .slice none 0 0]) (rb (blk_put (cs := #[.int .i64 2, .int .i64 0, .string (⟨#[]⟩ : ByteArray), .slice none 0 0]) (rb (blk_put (cs := #[.int .i64 2, .int .i64 0, .string (⟨#[]⟩ : ByteArray), .slice none 0 0]) (rb (blk_put (cs := #[.int .i64 0, .int .i64 0, .string (⟨#[]⟩ : ByteArray), .slice none 0 0]) (rb BK322.out) 0 _ rfl)) 1 _ rfl)) 2 _ rfl)) 3 _ rfl)) Try.underlying54 rfl (by kernel_rfl)) rfl ?_
 exact ⟨_, by first | rfl | (simp [errW_none, errW_some] <;> rfl) | (simp [*, errW_none, errW_some] <;> rfl), kN (Kd.N_mono (Kd.N_far (p := ⟨gb322, 3, none⟩) (Kd.N_far (p := ⟨gb322, 2, none⟩) (Kd.N_far (p := ⟨gb322, 1, none⟩) (Kd.N_far (p := ⟨gb322, 0, none⟩) (Kd.N_mono HO325.out (fun k_ hk => (⟨hk, hk.2⟩ : _ ∧ k_ ≠ gb322))) (fun _ hk => hk.2) (.int .i64 2)) (fun _ hk => hk.2) (.int .i64 0)) (fun _ hk => hk.2) (.string (⟨#[]⟩ : ByteArray))) (fun _ hk => hk.2) (.slice Ao5 t323.length co5)) (fun _ hk => hk.1.1)), bb⟩

/-! ### pack_Num: function 48 -/
def pack_Num.f (a0 : Int) : Option (Int × Int × ByteArray × (List (S54))) := some (0, a0, (⟨#[]⟩ : ByteArray), ([] : List (S54)))
set_option maxHeartbeats 8000000 in
set_option maxRecDepth 100000 in
theorem pack_Num.calls (a0 : Int) (r1 : Int) (r2 : Int) (r3 : ByteArray) (r4 : List (S54)) (w : World) (h : pack_Num.f a0 = some (r1, r2, r3, r4)) :
  Calls Try.prog 48 #[.int .i64 a0] w fun e w' => ∃ v3_ : Value, e = .returned (.agg #[.int .i64 r1, .int .i64 r2, .string r3, v3_]) ∧ Kd.R k54 54 w' w.heap.size (fun _ => True) v3_ r4 ∧ Below w.heap.size w w' := by
 have hu54 := Try.underlying54
 have HB := Aside0.mk (Below.refl w.heap.size w)
 have H : (some (0, a0, (⟨#[]⟩ : ByteArray), ([] : List (S54)))) = some (r1, r2, r3, r4) := h
 clear h
 simp only [Option.some.injEq, Prod.mk.injEq] at H
 obtain ⟨rfl, rfl, rfl, rfl⟩ := H
 go_enter Try.func48, Try.ntmps48
 go_wp2_with (first | ((with_reducible refine gate_dst (N := 2) rfl ?_); refine box_event ?hg (N := 2) ?hd (cs := #[.int .i64 0, .int .i64 0, .string (⟨#[]⟩ : ByteArray), .slice none 0 0]) (t := 54) ?hr ?_; (case hd => rfl); (case hg => rfl); (case hr => first | (go_simp; done) | (go_simp; rfl)); intro gb326 hg w2 hbox hb; have n0_ := Aside0.mk (below_step bb hb); have n1_ := Aside0.mk (hbox); have n2_ := Aside0.mk ((by rw [hg]; exact (below_size bb) : w.heap.size ≤ gb326)); have n3_ := Aside0.mk ((by rw [hg]; exact (below_size bb) : w.heap.size ≤ gb326)); clear HB; have HB := n0_; have BK326 := n1_; have GW326 := n2_; have GE326 := n3_; clear n0_ n1_ n2_ n3_; clear hb hbox hg; have hcz3_0 : w2.cell? ⟨gb326, 0, none⟩ = some (.int .i64 0) := (blk_cell BK326.out 0).trans rfl; have hcz3_1 : w2.cell? ⟨gb326, 1, none⟩ = some (.int .i64 0) := (blk_cell BK326.out 1).trans rfl; have hcz3_2 : w2.cell? ⟨gb326, 2, none⟩ = some (.string (⟨#[]⟩ : ByteArray)) := (blk_cell BK326.out 2).trans rfl; have hcz3_3 : w2.cell? ⟨gb326, 3, none⟩ = some (.slice none 0 0) := (blk_cell BK326.out 3).trans rfl; have hfz3_0 := blk_frozen BK326.out 0; have hfz3_1 := blk_frozen BK326.out 1; have hfz3_2 := blk_frozen BK326.out 2; have hfz3_3 := blk_frozen BK326.out 3))
 refine bodyPost_ret (results_cell_row rfl _ _ gb326 54 #[.int .i64 0, .int .i64 a0, .string (⟨#[]⟩ : ByteArray), .slice none 0 0] (0, 0) _ rfl (rb (blk_put (cs := #[.int .i64 0, .int .i64 a0, .string (⟨#[]⟩ : ByteArray), .slice none 0 0]) (rb (blk_put (cs := #[.int .i64 0, .int .i64 a0, .string (⟨#[]⟩ : ByteArray), .slice none 0 0]) (rb (blk_put (cs := #[.int .i64 0, .int .i64 0, .string (⟨#[]⟩ : ByteArray), .slice none 0 0]) (rb (blk_put (cs := #[.int .i64 0, .int .i64 0, .string (⟨#[]⟩ : ByteArray), .slice none 0 0]) (rb BK326.out) 0 _ rfl)) 1 _ rfl)) 2 _ rfl)) 3 _ rfl)) Try.underlying54 rfl (by kernel_rfl)) rfl ?_
 exact ⟨_, by first | rfl | (simp [errW_none, errW_some] <;> rfl) | (simp [*, errW_none, errW_some] <;> rfl), kn, bb⟩

/-! ### pack_Str: function 64 -/
def pack_Str.f (a0 : ByteArray) : Option (Int × Int × ByteArray × (List (S54))) := some (1, 0, a0, ([] : List (S54)))
set_option maxHeartbeats 8000000 in
set_option maxRecDepth 100000 in
theorem pack_Str.calls (a0 : ByteArray) (r1 : Int) (r2 : Int) (r3 : ByteArray) (r4 : List (S54)) (w : World) (h : pack_Str.f a0 = some (r1, r2, r3, r4)) :
  Calls Try.prog 64 #[.string a0] w fun e w' => ∃ v3_ : Value, e = .returned (.agg #[.int .i64 r1, .int .i64 r2, .string r3, v3_]) ∧ Kd.R k54 54 w' w.heap.size (fun _ => True) v3_ r4 ∧ Below w.heap.size w w' := by
 have hu54 := Try.underlying54
 have HB := Aside0.mk (Below.refl w.heap.size w)
 have H : (some (1, 0, a0, ([] : List (S54)))) = some (r1, r2, r3, r4) := h
 clear h
 simp only [Option.some.injEq, Prod.mk.injEq] at H
 obtain ⟨rfl, rfl, rfl, rfl⟩ := H
 go_enter Try.func64, Try.ntmps64
 go_wp2_with (first | ((with_reducible refine gate_dst (N := 2) rfl ?_); refine box_event ?hg (N := 2) ?hd (cs := #[.int .i64 0, .int .i64 0, .string (⟨#[]⟩ : ByteArray), .slice none 0 0]) (t := 54) ?hr ?_; (case hd => rfl); (case hg => rfl); (case hr => first | (go_simp; done) | (go_simp; rfl)); intro gb327 hg w2 hbox hb; have n0_ := Aside0.mk (below_step bb hb); have n1_ := Aside0.mk (hbox); have n2_ := Aside0.mk ((by rw [hg]; exact (below_size bb) : w.heap.size ≤ gb327)); have n3_ := Aside0.mk ((by rw [hg]; exact (below_size bb) : w.heap.size ≤ gb327)); clear HB; have HB := n0_; have BK327 := n1_; have GW327 := n2_; have GE327 := n3_; clear n0_ n1_ n2_ n3_; clear hb hbox hg; have hcz3_0 : w2.cell? ⟨gb327, 0, none⟩ = some (.int .i64 0) := (blk_cell BK327.out 0).trans rfl; have hcz3_1 : w2.cell? ⟨gb327, 1, none⟩ = some (.int .i64 0) := (blk_cell BK327.out 1).trans rfl; have hcz3_2 : w2.cell? ⟨gb327, 2, none⟩ = some (.string (⟨#[]⟩ : ByteArray)) := (blk_cell BK327.out 2).trans rfl; have hcz3_3 : w2.cell? ⟨gb327, 3, none⟩ = some (.slice none 0 0) := (blk_cell BK327.out 3).trans rfl; have hfz3_0 := blk_frozen BK327.out 0; have hfz3_1 := blk_frozen BK327.out 1; have hfz3_2 := blk_frozen BK327.out 2; have hfz3_3 := blk_frozen BK327.out 3))
 refine bodyPost_ret (results_cell_row rfl _ _ gb327 54 #[.int .i64 1, .int .i64 0, .string a0, .slice none 0 0] (0, 0) _ rfl (rb (blk_put (cs := #[.int .i64 1, .int .i64 0, .string a0, .slice none 0 0]) (rb (blk_put (cs := #[.int .i64 1, .int .i64 0, .string (⟨#[]⟩ : ByteArray), .slice none 0 0]) (rb (blk_put (cs := #[.int .i64 1, .int .i64 0, .string (⟨#[]⟩ : ByteArray), .slice none 0 0]) (rb (blk_put (cs := #[.int .i64 0, .int .i64 0, .string (⟨#[]⟩ : ByteArray), .slice none 0 0]) (rb BK327.out) 0 _ rfl)) 1 _ rfl)) 2 _ rfl)) 3 _ rfl)) Try.underlying54 rfl (by kernel_rfl)) rfl ?_
 exact ⟨_, by first | rfl | (simp [errW_none, errW_some] <;> rfl) | (simp [*, errW_none, errW_some] <;> rfl), kn, bb⟩

end Go.Proofs.Ytjicfkmpgogppaa.PG
