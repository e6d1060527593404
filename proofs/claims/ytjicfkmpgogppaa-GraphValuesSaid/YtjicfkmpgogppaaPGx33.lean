-- printed by a program of this session out of the translation; see NOTES.md
import Derived.Test.YtjicfkmpgogppaaPGx0
import Derived.Test.YtjicfkmpgogppaaPGx1
import Derived.Test.YtjicfkmpgogppaaPGx17
import Derived.Test.YtjicfkmpgogppaaPGx22
import Derived.Test.YtjicfkmpgogppaaPGx25
import Derived.Test.YtjicfkmpgogppaaPGx27
import Derived.Test.YtjicfkmpgogppaaPGx28
import Derived.Test.YtjicfkmpgogppaaPGx30
import Derived.Test.YtjicfkmpgogppaaPGx32
import Derived.Test.YtjicfkmpgogppaaRb
namespace Go.Proofs.Ytjicfkmpgogppaa.PG
open Go.RowKit Go.Proofs.YtjicfkmpgogppaaW.PrintWords Go.Proofs.YtjicfkmpgogppaaW.PrintLast Go.Proofs.YtjicfkmpgogppaaW.PrintMore Go.Proofs.YtjicfkmpgogppaaRb
attribute [local go_sem] max2_int min2_int max_two min_two max_three min_three max_four min_four   -- for this text's walks alone
set_option linter.unusedVariables false
set_option linter.unusedSimpArgs false

/-! ### precinctlaw12_GraphValues: function 6 -/
def precinctlaw12_GraphValues.f (k : Nat) (a0_0 : ByteArray) (l0_1 : List (S124)) (l1 : List (S137)) : Option (Bool) := (precinctlaw12_flows.f a0_0 l0_1).bind fun bt415 => ((precinctlaw12_build.f l1).bind fun bt425 => ((graph_Read.f k bt425.1 bt425.2.1 bt425.2.2.1 bt425.2.2.2.1).bind fun bt439 => ((precinctref12_Read.f bt425.2.2.2.2.1 bt425.2.2.2.2.2.1 bt425.2.2.2.2.2.2.1 bt425.2.2.2.2.2.2.2).bind fun bt445 => ((precinctlaw12_wakes.f).bind fun t451 => (if t451 = true then ((graph_Value.f k bt415.1 bt415.2.1).bind fun bt452 => ((precinctref12_Value.f bt415.2.2.1 bt415.2.2.2).bind fun bt458 => ((precinctlaw12_same.f k bt452.1 bt452.2.1 bt452.2.2.1 bt452.2.2.2 bt458.1 bt458.2.1 bt458.2.2.1 bt458.2.2.2).bind fun t464 => (if t464 = true then (if bt439.2.2 = bt445.2.2 then ((graph_Value.f k bt439.1 bt439.2.1).bind fun bt465 => ((precinctref12_Value.f bt445.1 bt445.2.1).bind fun bt471 => ((precinctlaw12_same.f k bt465.1 bt465.2.1 bt465.2.2.1 bt465.2.2.2 bt471.1 bt471.2.1 bt471.2.2.1 bt471.2.2.2).bind fun t477 => (some t477)))) else (some false)) else (some false))))) else (some false))))))
theorem precinctlaw12_GraphValues.mono : ∀ a0 a1 a2 k, LeO (precinctlaw12_GraphValues.f k a0 a1 a2) (precinctlaw12_GraphValues.f (k + 1) a0 a1 a2) := by
 intro a0 a1 a2 k
 unfold precinctlaw12_GraphValues.f
 repeat' first
   | (with_reducible exact graph_Read.mono _ _ _ _ _)
   | (with_reducible exact graph_Value.mono _ _ _)
   | (with_reducible exact precinctlaw12_same.mono _ _ _ _ _ _ _ _ _)
   | (with_reducible exact LeO.refl _)
   | (with_reducible exact LeO.none _)
   | (with_reducible refine LeO.ite ?_ ?_)
   | (with_reducible refine LeO.bind ?_ (fun _ => ?_))
   | exact graph_Read.mono _ _ _ _ _
   | exact graph_Value.mono _ _ _
   | exact precinctlaw12_same.mono _ _ _ _ _ _ _ _ _
   | exact LeO.none _
   | refine LeO.ite ?_ ?_
   | refine LeO.bind ?_ (fun _ => ?_)
def precinctlaw12_GraphValues.T5 : Bool × List (List Nat × List Nat) := (true, [([], []), ([0, 0], [0]), ([1], [1]), ([2, 1, 1], [1, 2]), ([1], [1]), ([4, 3, 1], [1, 4]), ([3, 5, 5, 1], [1, 3, 5]), ([1, 6], [1, 6]), ([7, 6], [7]), ([8], [8]), ([8], [8]), ([9, 10, 8], [8, 9, 10]), ([8, 11], [8, 11]), ([12, 8], [12]), ([13], [13]), ([14, 13, 13], [13, 14]), ([13], [13]), ([16, 15, 13], [13, 16]), ([15, 17, 17, 13], [13, 15, 17]), ([13, 18], [13, 18]), ([19, 18, 0, 1, 2, 3, 4, 5, 6, 7, 8, 9, 10, 11, 12, 13, 14, 15, 16, 17, 18, 19], [19])])
def precinctlaw12_GraphValues.B5 : List Nat := [0, 1, 3, 7, 3, 31, 63, 127, 255, 511, 511, 2047, 4095, 8191, 16383, 32767, 16383, 131071, 262143, 524287, 1048575]
theorem precinctlaw12_GraphValues.tab5 : rtab .any (opsOf Try.f6 5) = precinctlaw12_GraphValues.T5 := by kernel_rfl
theorem precinctlaw12_GraphValues.bits5 : waitsOk precinctlaw12_GraphValues.T5.2 precinctlaw12_GraphValues.B5 = true := by kernel_rfl
set_option maxHeartbeats 8000000 in
set_option maxRecDepth 100000 in
theorem precinctlaw12_GraphValues.calls (k : Nat) (a0_0 : ByteArray) (A0_1 : Option Addr) (c0_1 : Nat) (l0_1 : List (S124)) (A1 : Option Addr) (c1 : Nat) (l1 : List (S137)) (r : Bool) (w : World) (hr0_1 : Kd.C k124 w A0_1 l0_1.length l0_1) (hc0_1 : l0_1.length ≤ c0_1) (hr1 : Kd.C k137 w A1 l1.length l1) (hc1 : l1.length ≤ c1) (hT_ : Aside0 (r = true)) (h : precinctlaw12_GraphValues.f k a0_0 l0_1 l1 = some r) :
  Calls Try.prog 6 #[.agg #[.string a0_0, .slice A0_1 l0_1.length c0_1], .slice A1 l1.length c1] w fun e w' => e = .returned (.bool r) ∧ Below w.heap.size w w' := by
 have hu24 := Try.underlying24
 have hu27 := Try.underlying27
 have hu30 := Try.underlying30
 have hu54 := Try.underlying54
 have hu57 := Try.underlying57
 have HR0_1 := Aside0.mk hr0_1
 have HC0_1 := Aside0.mk hc0_1
 clear hr0_1 hc0_1
 have HR1 := Aside0.mk hr1
 have HC1 := Aside0.mk hc1
 clear hr1 hc1
 have HB := Aside0.mk (Below.refl w.heap.size w)
 have H : ((precinctlaw12_flows.f a0_0 l0_1).bind fun bt415 => ((precinctlaw12_build.f l1).bind fun bt425 => ((graph_Read.f k bt425.1 bt425.2.1 bt425.2.2.1 bt425.2.2.2.1).bind fun bt439 => ((precinctref12_Read.f bt425.2.2.2.2.1 bt425.2.2.2.2.2.1 bt425.2.2.2.2.2.2.1 bt425.2.2.2.2.2.2.2).bind fun bt445 => ((precinctlaw12_wakes.f).bind fun t451 => (if t451 = true then ((graph_Value.f k bt415.1 bt415.2.1).bind fun bt452 => ((precinctref12_Value.f bt415.2.2.1 bt415.2.2.2).bind fun bt458 => ((precinctlaw12_same.f k bt452.1 bt452.2.1 bt452.2.2.1 bt452.2.2.2 bt458.1 bt458.2.1 bt458.2.2.1 bt458.2.2.2).bind fun t464 => (if t464 = true then (if bt439.2.2 = bt445.2.2 then ((graph_Value.f k bt439.1 bt439.2.1).bind fun bt465 => ((precinctref12_Value.f bt445.1 bt445.2.1).bind fun bt471 => ((precinctlaw12_same.f k bt465.1 bt465.2.1 bt465.2.2.1 bt465.2.2.2 bt471.1 bt471.2.1 bt471.2.2.1 bt471.2.2.2).bind fun t477 => (some t477)))) else (some false)) else (some false))))) else (some false))))))) = some r := h
 clear h
 replace H := Option.bind_eq_some_iff.mp H
 obtain ⟨⟨t415, t416, t419, t420⟩, A30, H⟩ := H
 replace H : ((precinctlaw12_build.f l1).bind fun bt425 => ((graph_Read.f k bt425.1 bt425.2.1 bt425.2.2.1 bt425.2.2.2.1).bind fun bt439 => ((precinctref12_Read.f bt425.2.2.2.2.1 bt425.2.2.2.2.2.1 bt425.2.2.2.2.2.2.1 bt425.2.2.2.2.2.2.2).bind fun bt445 => ((precinctlaw12_wakes.f).bind fun t451 => (if t451 = true then ((graph_Value.f k t415 t416).bind fun bt452 => ((precinctref12_Value.f t419 t420).bind fun bt458 => ((precinctlaw12_same.f k bt452.1 bt452.2.1 bt452.2.2.1 bt452.2.2.2 bt458.1 bt458.2.1 bt458.2.2.1 bt458.2.2.2).bind fun t464 => (if t464 = true then (if bt439.2.2 = bt445.2.2 then ((graph_Value.f k bt439.1 bt439.2.1).bind fun bt465 => ((precinctref12_Value.f bt445.1 bt445.2.1).bind fun bt471 => ((precinctlaw12_same.f k bt465.1 bt465.2.1 bt465.2.2.1 bt465.2.2.2 bt471.1 bt471.2.1 bt471.2.2.1 bt471.2.2.2).bind fun t477 => (some t477)))) else (some false)) else (some false))))) else (some false)))))) = some r := H
 have A3 := Aside0.mk A30
 clear A30
 replace H := Option.bind_eq_some_iff.mp H
 obtain ⟨⟨t425, t426, t427, t428, t431, t432, t433, t434⟩, A40, H⟩ := H
 replace H : ((graph_Read.f k t425 t426 t427 t428).bind fun bt439 => ((precinctref12_Read.f t431 t432 t433 t434).bind fun bt445 => ((precinctlaw12_wakes.f).bind fun t451 => (if t451 = true then ((graph_Value.f k t415 t416).bind fun bt452 => ((precinctref12_Value.f t419 t420).bind fun bt458 => ((precinctlaw12_same.f k bt452.1 bt452.2.1 bt452.2.2.1 bt452.2.2.2 bt458.1 bt458.2.1 bt458.2.2.1 bt458.2.2.2).bind fun t464 => (if t464 = true then (if bt439.2.2 = bt445.2.2 then ((graph_Value.f k bt439.1 bt439.2.1).bind fun bt465 => ((precinctref12_Value.f bt445.1 bt445.2.1).bind fun bt471 => ((precinctlaw12_same.f k bt465.1 bt465.2.1 bt465.2.2.1 bt465.2.2.2 bt471.1 bt471.2.1 bt471.2.2.1 bt471.2.2.2).bind fun t477 => (some t477)))) else (some false)) else (some false))))) else (some false))))) = some r := H
 have A4 := Aside0.mk A40
 clear A40
 replace H := Option.bind_eq_some_iff.mp H
 obtain ⟨⟨t439, t440, t443⟩, A50, H⟩ := H
 replace H : ((precinctref12_Read.f t431 t432 t433 t434).bind fun bt445 => ((precinctlaw12_wakes.f).bind fun t451 => (if t451 = true then ((graph_Value.f k t415 t416).bind fun bt452 => ((precinctref12_Value.f t419 t420).bind fun bt458 => ((precinctlaw12_same.f k bt452.1 bt452.2.1 bt452.2.2.1 bt452.2.2.2 bt458.1 bt458.2.1 bt458.2.2.1 bt458.2.2.2).bind fun t464 => (if t464 = true then (if t443 = bt445.2.2 then ((graph_Value.f k t439 t440).bind fun bt465 => ((precinctref12_Value.f bt445.1 bt445.2.1).bind fun bt471 => ((precinctlaw12_same.f k bt465.1 bt465.2.1 bt465.2.2.1 bt465.2.2.2 bt471.1 bt471.2.1 bt471.2.2.1 bt471.2.2.2).bind fun t477 => (some t477)))) else (some false)) else (some false))))) else (some false)))) = some r := H
 have A5 := Aside0.mk A50
 clear A50
 replace H := Option.bind_eq_some_iff.mp H
 obtain ⟨⟨t445, t446, t449⟩, A60, H⟩ := H
 replace H : ((precinctlaw12_wakes.f).bind fun t451 => (if t451 = true then ((graph_Value.f k t415 t416).bind fun bt452 => ((precinctref12_Value.f t419 t420).bind fun bt458 => ((precinctlaw12_same.f k bt452.1 bt452.2.1 bt452.2.2.1 bt452.2.2.2 bt458.1 bt458.2.1 bt458.2.2.1 bt458.2.2.2).bind fun t464 => (if t464 = true then (if t443 = t449 then ((graph_Value.f k t439 t440).bind fun bt465 => ((precinctref12_Value.f t445 t446).bind fun bt471 => ((precinctlaw12_same.f k bt465.1 bt465.2.1 bt465.2.2.1 bt465.2.2.2 bt471.1 bt471.2.1 bt471.2.2.1 bt471.2.2.2).bind fun t477 => (some t477)))) else (some false)) else (some false))))) else (some false))) = some r := H
 have A6 := Aside0.mk A60
 clear A60
 replace H := Option.bind_eq_some_iff.mp H
 obtain ⟨t451, A70, H⟩ := H
 replace H : (if t451 = true then ((graph_Value.f k t415 t416).bind fun bt452 => ((precinctref12_Value.f t419 t420).bind fun bt458 => ((precinctlaw12_same.f k bt452.1 bt452.2.1 bt452.2.2.1 bt452.2.2.2 bt458.1 bt458.2.1 bt458.2.2.1 bt458.2.2.2).bind fun t464 => (if t464 = true then (if t443 = t449 then ((graph_Value.f k t439 t440).bind fun bt465 => ((precinctref12_Value.f t445 t446).bind fun bt471 => ((precinctlaw12_same.f k bt465.1 bt465.2.1 bt465.2.2.1 bt465.2.2.2 bt471.1 bt471.2.1 bt471.2.2.1 bt471.2.2.2).bind fun t477 => (some t477)))) else (some false)) else (some false))))) else (some false)) = some r := H
 have A7 := Aside0.mk A70
 clear A70
 by_cases c8 : t451 = true
 ·subst c8
  have H1 : ((graph_Value.f k t415 t416).bind fun bt452 => ((precinctref12_Value.f t419 t420).bind fun bt458 => ((precinctlaw12_same.f k bt452.1 bt452.2.1 bt452.2.2.1 bt452.2.2.2 bt458.1 bt458.2.1 bt458.2.2.1 bt458.2.2.2).bind fun t464 => (if t464 = true then (if t443 = t449 then ((graph_Value.f k t439 t440).bind fun bt465 => ((precinctref12_Value.f t445 t446).bind fun bt471 => ((precinctlaw12_same.f k bt465.1 bt465.2.1 bt465.2.2.1 bt465.2.2.2 bt471.1 bt471.2.1 bt471.2.2.1 bt471.2.2.2).bind fun t477 => (some t477)))) else (some false)) else (some false))))) = some r := by rw [if_pos rfl] at H; exact H
  clear H
  have H := H1
  clear H1
  replace H := Option.bind_eq_some_iff.mp H
  obtain ⟨⟨t452, t453, t454, t455⟩, A90, H⟩ := H
  replace H : ((precinctref12_Value.f t419 t420).bind fun bt458 => ((precinctlaw12_same.f k t452 t453 t454 t455 bt458.1 bt458.2.1 bt458.2.2.1 bt458.2.2.2).bind fun t464 => (if t464 = true then (if t443 = t449 then ((graph_Value.f k t439 t440).bind fun bt465 => ((precinctref12_Value.f t445 t446).bind fun bt471 => ((precinctlaw12_same.f k bt465.1 bt465.2.1 bt465.2.2.1 bt465.2.2.2 bt471.1 bt471.2.1 bt471.2.2.1 bt471.2.2.2).bind fun t477 => (some t477)))) else (some false)) else (some false)))) = some r := H
  have A9 := Aside0.mk A90
  clear A90
  replace H := Option.bind_eq_some_iff.mp H
  obtain ⟨⟨t458, t459, t460, t461⟩, A100, H⟩ := H
  replace H : ((precinctlaw12_same.f k t452 t453 t454 t455 t458 t459 t460 t461).bind fun t464 => (if t464 = true then (if t443 = t449 then ((graph_Value.f k t439 t440).bind fun bt465 => ((precinctref12_Value.f t445 t446).bind fun bt471 => ((precinctlaw12_same.f k bt465.1 bt465.2.1 bt465.2.2.1 bt465.2.2.2 bt471.1 bt471.2.1 bt471.2.2.1 bt471.2.2.2).bind fun t477 => (some t477)))) else (some false)) else (some false))) = some r := H
  have A10 := Aside0.mk A100
  clear A100
  replace H := Option.bind_eq_some_iff.mp H
  obtain ⟨t464, A110, H⟩ := H
  replace H : (if t464 = true then (if t443 = t449 then ((graph_Value.f k t439 t440).bind fun bt465 => ((precinctref12_Value.f t445 t446).bind fun bt471 => ((precinctlaw12_same.f k bt465.1 bt465.2.1 bt465.2.2.1 bt465.2.2.2 bt471.1 bt471.2.1 bt471.2.2.1 bt471.2.2.2).bind fun t477 => (some t477)))) else (some false)) else (some false)) = some r := H
  have A11 := Aside0.mk A110
  clear A110
  by_cases c12 : t464 = true
  ·subst c12
   have H1 : (if t443 = t449 then ((graph_Value.f k t439 t440).bind fun bt465 => ((precinctref12_Value.f t445 t446).bind fun bt471 => ((precinctlaw12_same.f k bt465.1 bt465.2.1 bt465.2.2.1 bt465.2.2.2 bt471.1 bt471.2.1 bt471.2.2.1 bt471.2.2.2).bind fun t477 => (some t477)))) else (some false)) = some r := by rw [if_pos rfl] at H; exact H
   clear H
   have H := H1
   clear H1
   by_cases c13 : t443 = t449
   ·rw [if_pos c13] at H
    have c13b0 : (t443 == t449) = true := beq_iff_eq.mpr c13
    have c13b1 : (t443 != t449) = false := bne_eq_false_iff_eq.mpr c13
    clear c13
    replace H := Option.bind_eq_some_iff.mp H
    obtain ⟨⟨t465, t466, t467, t468⟩, A140, H⟩ := H
    replace H : ((precinctref12_Value.f t445 t446).bind fun bt471 => ((precinctlaw12_same.f k t465 t466 t467 t468 bt471.1 bt471.2.1 bt471.2.2.1 bt471.2.2.2).bind fun t477 => (some t477))) = some r := H
    have A14 := Aside0.mk A140
    clear A140
    replace H := Option.bind_eq_some_iff.mp H
    obtain ⟨⟨t471, t472, t473, t474⟩, A150, H⟩ := H
    replace H : ((precinctlaw12_same.f k t465 t466 t467 t468 t471 t472 t473 t474).bind fun t477 => (some t477)) = some r := H
    have A15 := Aside0.mk A150
    clear A150
    replace H := Option.bind_eq_some_iff.mp H
    obtain ⟨t477, A160, H⟩ := H
    replace H : (some t477) = some r := H
    have A16 := Aside0.mk A160
    clear A160
    obtain rfl := Option.some.inj H
    go_enter Try.func6, Try.ntmps6
    try go_wp2_with (first | ((with_reducible refine gate_dst (N := 2) rfl ?_); refine box_event ?hg (N := 2) ?hd (cs := #[.string a0_0, .slice A0_1 l0_1.length c0_1]) (t := 24) ?hr ?_; (case hd => rfl); (case hg => rfl); (case hr => first | (go_simp; done) | (go_simp; rfl)); intro gb414 hg w17 hbox hb; have n0_ := Aside0.mk (below_step bb hb); have n1_ := Aside0.mk (hbox); have n2_ := Aside0.mk ((by rw [hg]; exact (below_size bb) : w.heap.size ≤ gb414)); have n3_ := Aside0.mk ((by rw [hg]; exact (below_size bb) : w.heap.size ≤ gb414)); clear HB; have HB := n0_; have BK414 := n1_; have GW414 := n2_; have GE414 := n3_; clear n0_ n1_ n2_ n3_; clear hb hbox hg; have hcz18_0 : w17.cell? ⟨gb414, 0, none⟩ = some (.string a0_0) := (blk_cell BK414.out 0).trans rfl; have hcz18_1 : w17.cell? ⟨gb414, 1, none⟩ = some (.slice A0_1 l0_1.length c0_1) := (blk_cell BK414.out 1).trans rfl; have hfz18_0 := blk_frozen BK414.out 0; have hfz18_1 := blk_frozen BK414.out 1) | ((with_reducible refine gate_callee (f := 14) rfl ?_); refine goesL_ (some 15) rfl rfl Try.func14 (by kernel_rfl) rfl #[.agg #[.string a0_0, .slice A0_1 l0_1.length c0_1]] rfl ag ?_; (with_reducible refine (precinctlaw12_flows.calls a0_0 _ _ l0_1 t415 t416 t419 t420 _ ?side1 ?side2 A3.out).mono ?_); (case side1 => repeat (first | exact (Kd.C_below HR0_1.out HB.out) | (with_reducible refine Kd.C_alloc ?_ _) | (with_reducible refine Kd.C_drewN ?_ _) | (with_reducible refine Kd.C_drew ?_))); (case side2 => exact HC0_1.out); rintro e w19 ⟨v417, v421, rfl, ho0, ho1, hb⟩; refine ⟨_, rfl, ?_⟩; have n0_ := Aside0.mk (Kd.N_lower (Kd.N_mono (ok' := fun k_ => some k_ ≠ (v421 : Value).ownBlock ∧ k_ ≠ gb414) (Kd.S_N (Kd.S_bound (Kd.S_apart' ho0 (Kd.S_typed ho1) (by decide)))) (fun k_ hk_ => ⟨hk_.1.2, (Kd.freshB (rb BK414.out) k_ hk_.2.1)⟩)) (below_size bb)); have n1_ := Aside0.mk (Kd.N_lower (Kd.N_mono (ok' := fun k_ => some k_ ≠ (v417 : Value).ownBlock ∧ k_ ≠ gb414) (Kd.S_N (Kd.S_bound (Kd.S_apart' ho1 (Kd.S_typed ho0) (by decide)))) (fun k_ hk_ => ⟨hk_.1.2, (Kd.freshB (rb BK414.out) k_ hk_.2.1)⟩)) (below_size bb)); have n2_ := Aside0.mk (blk_below (rb BK414.out) hb); have n3_ := Aside0.mk (below_step bb hb); clear BK414; clear HB; have HO418 := n0_; have HO422 := n1_; have BK414 := n2_; have HB := n3_; clear n0_ n1_ n2_ n3_; (try clear hb); (try clear hb2); (try clear hk); (try clear hi); (try clear ho0); (try clear ho1)) | ((with_reducible refine gate_dst (N := 5) rfl ?_); refine box_event ?hg (N := 5) ?hd (cs := #[.string (⟨#[]⟩ : ByteArray), .slice none 0 0]) (t := 27) ?hr ?_; (case hd => rfl); (case hg => rfl); (case hr => first | (go_simp; done) | (go_simp; rfl)); intro gb423 hg w20 hbox hb; have n0_ := Aside0.mk (Kd.N_below (Kd.N_elderB (kN HO418.out) gb423 (Nat.le_of_eq hg.symm)) hb); have n1_ := Aside0.mk (Kd.N_below (Kd.N_elderB (kN HO422.out) gb423 (Nat.le_of_eq hg.symm)) hb); have n2_ := Aside0.mk (blk_below (rb BK414.out) hb); have n3_ := Aside0.mk (below_step bb hb); have n4_ := Aside0.mk (hbox); have n5_ := Aside0.mk ((by rw [hg]; exact (below_size bb) : w.heap.size ≤ gb423)); have n6_ := Aside0.mk ((by rw [hg]; exact (below_size bb) : w.heap.size ≤ gb423)); have n7_ := Aside0.mk ((by rw [hg]; exact Nat.ne_of_lt (blk_lt (rb BK414.out)) : gb414 ≠ gb423)); have n8_ := Aside0.mk ((by rw [hg]; exact Nat.ne_of_gt (blk_lt (rb BK414.out)) : gb423 ≠ gb414)); clear HO418; clear HO422; clear BK414; clear HB; have HO418 := n0_; have HO422 := n1_; have BK414 := n2_; have HB := n3_; have BK423 := n4_; have GW423 := n5_; have GE423 := n6_; have NB414_423 := n7_; have NB423_414 := n8_; clear n0_ n1_ n2_ n3_ n4_ n5_ n6_ n7_ n8_; clear hb hbox hg) | ((with_reducible refine gate_dst (N := 6) rfl ?_); refine box_event ?hg (N := 6) ?hd (cs := #[.string (⟨#[]⟩ : ByteArray), .slice none 0 0]) (t := 30) ?hr ?_; (case hd => rfl); (case hg => rfl); (case hr => first | (go_simp; done) | (go_simp; rfl)); intro gb424 hg w21 hbox hb; have n0_ := Aside0.mk (Kd.N_below (Kd.N_elderB (kN HO418.out) gb424 (Nat.le_of_eq hg.symm)) hb); have n1_ := Aside0.mk (Kd.N_below (Kd.N_elderB (kN HO422.out) gb424 (Nat.le_of_eq hg.symm)) hb); have n2_ := Aside0.mk (blk_below (rb BK414.out) hb); have n3_ := Aside0.mk (blk_below (g := gb423) (o := .cells #[.string (⟨#[]⟩ : ByteArray), .slice none 0 0] 27 (0, 0)) (rb BK423.out) hb); have n4_ := Aside0.mk (below_step bb hb); have n5_ := Aside0.mk (hbox); have n6_ := Aside0.mk ((by rw [hg]; exact (below_size bb) : w.heap.size ≤ gb424)); have n7_ := Aside0.mk ((by rw [hg]; exact (below_size bb) : w.heap.size ≤ gb424)); have n8_ := Aside0.mk ((by rw [hg]; exact Nat.ne_of_lt (blk_lt (rb BK414.out)) : gb414 ≠ gb424)); have n9_ := Aside0.mk ((by rw [hg]; exact Nat.ne_of_gt (blk_lt (rb BK414.out)) : gb424 ≠ gb414)); have n10_ := Aside0.mk ((by rw [hg]; exact Nat.ne_of_lt (blk_lt (g := gb423) (o := .cells #[.string (⟨#[]⟩ : ByteArray), .slice none 0 0] 27 (0, 0)) (rb BK423.out)) : gb423 ≠ gb424)); have n11_ := Aside0.mk ((by rw [hg]; exact Nat.ne_of_gt (blk_lt (g := gb423) (o := .cells #[.string (⟨#[]⟩ : ByteArray), .slice none 0 0] 27 (0, 0)) (rb BK423.out)) : gb424 ≠ gb423)); clear HO418; clear HO422; clear BK414; clear BK423; clear HB; have HO418 := n0_; have HO422 := n1_; have BK414 := n2_; have BK423 := n3_; have HB := n4_; have BK424 := n5_; have GW424 := n6_; have GE424 := n7_; have NB414_424 := n8_; have NB424_414 := n9_; have NB423_424 := n10_; have NB424_423 := n11_; clear n0_ n1_ n2_ n3_ n4_ n5_ n6_ n7_ n8_ n9_ n10_ n11_; clear hb hbox hg; have hnb22 := NB423_414.out; have hnc22 := NB414_423.out; have hnb23 := NB423_424.out; have hnc23 := NB424_423.out; have hcz24_0 : w21.cell? ⟨gb423, 0, none⟩ = some (.string (⟨#[]⟩ : ByteArray)) := (blk_cell BK423.out 0).trans rfl; have hcz24_1 : w21.cell? ⟨gb423, 1, none⟩ = some (.slice none 0 0) := (blk_cell BK423.out 1).trans rfl; have hfz24_0 := blk_frozen BK423.out 0; have hfz24_1 := blk_frozen BK423.out 1; obtain ⟨Ao25, co25, eo25⟩ := Kd.N_slice HO418.out; subst eo25; have hnb26 := NB424_414.out; have hnc26 := NB414_424.out; have hcz27_0 : w21.cell? ⟨gb424, 0, none⟩ = some (.string (⟨#[]⟩ : ByteArray)) := (blk_cell BK424.out 0).trans rfl; have hcz27_1 : w21.cell? ⟨gb424, 1, none⟩ = some (.slice none 0 0) := (blk_cell BK424.out 1).trans rfl; have hfz27_0 := blk_frozen BK424.out 0; have hfz27_1 := blk_frozen BK424.out 1; obtain ⟨Ao28, co28, eo28⟩ := Kd.N_slice HO422.out; subst eo28) | ((with_reducible refine gate_callee (f := 21) rfl ?_); refine goesL_ (some 20) rfl rfl Try.func21 (by kernel_rfl) rfl #[.slice A1 l1.length c1] rfl ag ?_; (with_reducible refine (precinctlaw12_build.calls _ _ l1 t425 t426 t427 t428 t431 t432 t433 t434 _ ?side1 ?side2 A4.out).mono ?_); (case side1 => exact Kd.C_below HR1.out bb); (case side2 => exact HC1.out); rintro e w29 ⟨v429, v435, rfl, ho0, ho1, hb⟩; refine ⟨_, rfl, ?_⟩; have n0_ := Aside0.mk (Kd.N_mono (Kd.N_told (Kd.N_told (Kd.N_old (kN ((Kd.N_mono (Kd.N_mono (Kd.N_far (p := ⟨gb424, 1, none⟩) (Kd.N_far (p := ⟨gb424, 0, none⟩) (Kd.N_far (p := ⟨gb423, 1, none⟩) (Kd.N_far (p := ⟨gb423, 0, none⟩) (Kd.N_mono (Kd.N_mono HO418.out (fun k_ hk => (⟨hk, hk.1.2⟩ : _ ∧ k_ ≠ gb423))) (fun k_ hk => (⟨hk, hk.1.2⟩ : _ ∧ k_ ≠ gb424))) (fun _ hk => hk.1.2) (.string t415)) (fun _ hk => hk.1.2) (.slice Ao25 t416.length co25)) (fun _ hk => hk.2) (.string t419)) (fun _ hk => hk.2) (.slice Ao28 t420.length co28)) (fun _ h_ => h_.1)) (fun _ h_ => h_.1)))) hb) (by first | exact Kd.N_base ho0 | exact Kd.N_base (Kd.R_N ho0) | exact Kd.N_base (Kd.S_N ho0))) (by first | exact Kd.N_base ho1 | exact Kd.N_base (Kd.R_N ho1) | exact Kd.N_base (Kd.S_N ho1))) (fun _ h_ => h_.1)); have n1_ := Aside0.mk (Kd.N_mono (Kd.N_told (Kd.N_told (Kd.N_old (kN ((Kd.N_mono (Kd.N_mono (Kd.N_far (p := ⟨gb424, 1, none⟩) (Kd.N_far (p := ⟨gb424, 0, none⟩) (Kd.N_far (p := ⟨gb423, 1, none⟩) (Kd.N_far (p := ⟨gb423, 0, none⟩) (Kd.N_mono (Kd.N_mono HO422.out (fun k_ hk => (⟨hk, hk.1.2⟩ : _ ∧ k_ ≠ gb423))) (fun k_ hk => (⟨hk, hk.1.2⟩ : _ ∧ k_ ≠ gb424))) (fun _ hk => hk.1.2) (.string t415)) (fun _ hk => hk.1.2) (.slice Ao25 t416.length co25)) (fun _ hk => hk.2) (.string t419)) (fun _ hk => hk.2) (.slice Ao28 t420.length co28)) (fun _ h_ => h_.1)) (fun _ h_ => h_.1)))) hb) (by first | exact Kd.N_base ho0 | exact Kd.N_base (Kd.R_N ho0) | exact Kd.N_base (Kd.S_N ho0))) (by first | exact Kd.N_base ho1 | exact Kd.N_base (Kd.R_N ho1) | exact Kd.N_base (Kd.S_N ho1))) (fun _ h_ => h_.1)); have n2_ := Aside0.mk (Kd.N_lower (Kd.N_mono (ok' := fun k_ => some k_ ≠ (v435 : Value).ownBlock ∧ some k_ ≠ (.slice Ao25 t416.length co25 : Value).ownBlock ∧ some k_ ≠ (.slice Ao28 t420.length co28 : Value).ownBlock ∧ k_ ≠ gb414 ∧ k_ ≠ gb423 ∧ k_ ≠ gb424) (Kd.R_N (Kd.R_bound (Kd.R_apart' ho0 (Kd.R_typed ho1) (by decide)))) (fun k_ hk_ => ⟨hk_.1.2, (Kd.fresh' (Kd.N_lt (kN ((Kd.N_mono (Kd.N_mono (Kd.N_far (p := ⟨gb424, 1, none⟩) (Kd.N_far (p := ⟨gb424, 0, none⟩) (Kd.N_far (p := ⟨gb423, 1, none⟩) (Kd.N_far (p := ⟨gb423, 0, none⟩) (Kd.N_mono (Kd.N_mono HO418.out (fun k_ hk => (⟨hk, hk.1.2⟩ : _ ∧ k_ ≠ gb423))) (fun k_ hk => (⟨hk, hk.1.2⟩ : _ ∧ k_ ≠ gb424))) (fun _ hk => hk.1.2) (.string t415)) (fun _ hk => hk.1.2) (.slice Ao25 t416.length co25)) (fun _ hk => hk.2) (.string t419)) (fun _ hk => hk.2) (.slice Ao28 t420.length co28)) (fun _ h_ => h_.1)) (fun _ h_ => h_.1))))) k_ hk_.2.1), (Kd.fresh' (Kd.N_lt (kN ((Kd.N_mono (Kd.N_mono (Kd.N_far (p := ⟨gb424, 1, none⟩) (Kd.N_far (p := ⟨gb424, 0, none⟩) (Kd.N_far (p := ⟨gb423, 1, none⟩) (Kd.N_far (p := ⟨gb423, 0, none⟩) (Kd.N_mono (Kd.N_mono HO422.out (fun k_ hk => (⟨hk, hk.1.2⟩ : _ ∧ k_ ≠ gb423))) (fun k_ hk => (⟨hk, hk.1.2⟩ : _ ∧ k_ ≠ gb424))) (fun _ hk => hk.1.2) (.string t415)) (fun _ hk => hk.1.2) (.slice Ao25 t416.length co25)) (fun _ hk => hk.2) (.string t419)) (fun _ hk => hk.2) (.slice Ao28 t420.length co28)) (fun _ h_ => h_.1)) (fun _ h_ => h_.1))))) k_ hk_.2.1), (Kd.freshB (rb (blk_far (rb (blk_far (rb (blk_far (rb (blk_far (rb BK414.out) NB414_423.out _)) NB414_423.out _)) NB414_424.out _)) NB414_424.out _)) k_ hk_.2.1), (Kd.freshB (rb (blk_far (rb (blk_far (rb (blk_put (cs := #[.string t415, .slice none 0 0]) (rb (blk_put (cs := #[.string (⟨#[]⟩ : ByteArray), .slice none 0 0]) (rb BK423.out) 0 _ rfl)) 1 _ rfl)) NB423_424.out _)) NB423_424.out _)) k_ hk_.2.1), (Kd.freshB (rb (blk_put (cs := #[.string t419, .slice none 0 0]) (rb (blk_put (cs := #[.string (⟨#[]⟩ : ByteArray), .slice none 0 0]) (rb (blk_far (rb (blk_far (rb BK424.out) NB424_423.out _)) NB424_423.out _)) 0 _ rfl)) 1 _ rfl)) k_ hk_.2.1)⟩)) (below_size bb)); have n3_ := Aside0.mk (Kd.N_lower (Kd.N_mono (ok' := fun k_ => some k_ ≠ (v429 : Value).ownBlock ∧ some k_ ≠ (.slice Ao25 t416.length co25 : Value).ownBlock ∧ some k_ ≠ (.slice Ao28 t420.length co28 : Value).ownBlock ∧ k_ ≠ gb414 ∧ k_ ≠ gb423 ∧ k_ ≠ gb424) (Kd.R_N (Kd.R_bound (Kd.R_apart' ho1 (Kd.R_typed ho0) (by decide)))) (fun k_ hk_ => ⟨hk_.1.2, (Kd.fresh' (Kd.N_lt (kN ((Kd.N_mono (Kd.N_mono (Kd.N_far (p := ⟨gb424, 1, none⟩) (Kd.N_far (p := ⟨gb424, 0, none⟩) (Kd.N_far (p := ⟨gb423, 1, none⟩) (Kd.N_far (p := ⟨gb423, 0, none⟩) (Kd.N_mono (Kd.N_mono HO418.out (fun k_ hk => (⟨hk, hk.1.2⟩ : _ ∧ k_ ≠ gb423))) (fun k_ hk => (⟨hk, hk.1.2⟩ : _ ∧ k_ ≠ gb424))) (fun _ hk => hk.1.2) (.string t415)) (fun _ hk => hk.1.2) (.slice Ao25 t416.length co25)) (fun _ hk => hk.2) (.string t419)) (fun _ hk => hk.2) (.slice Ao28 t420.length co28)) (fun _ h_ => h_.1)) (fun _ h_ => h_.1))))) k_ hk_.2.1), (Kd.fresh' (Kd.N_lt (kN ((Kd.N_mono (Kd.N_mono (Kd.N_far (p := ⟨gb424, 1, none⟩) (Kd.N_far (p := ⟨gb424, 0, none⟩) (Kd.N_far (p := ⟨gb423, 1, none⟩) (Kd.N_far (p := ⟨gb423, 0, none⟩) (Kd.N_mono (Kd.N_mono HO422.out (fun k_ hk => (⟨hk, hk.1.2⟩ : _ ∧ k_ ≠ gb423))) (fun k_ hk => (⟨hk, hk.1.2⟩ : _ ∧ k_ ≠ gb424))) (fun _ hk => hk.1.2) (.string t415)) (fun _ hk => hk.1.2) (.slice Ao25 t416.length co25)) (fun _ hk => hk.2) (.string t419)) (fun _ hk => hk.2) (.slice Ao28 t420.length co28)) (fun _ h_ => h_.1)) (fun _ h_ => h_.1))))) k_ hk_.2.1), (Kd.freshB (rb (blk_far (rb (blk_far (rb (blk_far (rb (blk_far (rb BK414.out) NB414_423.out _)) NB414_423.out _)) NB414_424.out _)) NB414_424.out _)) k_ hk_.2.1), (Kd.freshB (rb (blk_far (rb (blk_far (rb (blk_put (cs := #[.string t415, .slice none 0 0]) (rb (blk_put (cs := #[.string (⟨#[]⟩ : ByteArray), .slice none 0 0]) (rb BK423.out) 0 _ rfl)) 1 _ rfl)) NB423_424.out _)) NB423_424.out _)) k_ hk_.2.1), (Kd.freshB (rb (blk_put (cs := #[.string t419, .slice none 0 0]) (rb (blk_put (cs := #[.string (⟨#[]⟩ : ByteArray), .slice none 0 0]) (rb (blk_far (rb (blk_far (rb BK424.out) NB424_423.out _)) NB424_423.out _)) 0 _ rfl)) 1 _ rfl)) k_ hk_.2.1)⟩)) (below_size bb)); have n4_ := Aside0.mk (blk_below (rb (blk_far (rb (blk_far (rb (blk_far (rb (blk_far (rb BK414.out) NB414_423.out _)) NB414_423.out _)) NB414_424.out _)) NB414_424.out _)) hb); have n5_ := Aside0.mk (blk_below (rb (blk_far (rb (blk_far (rb (blk_put (cs := #[.string t415, .slice none 0 0]) (rb (blk_put (cs := #[.string (⟨#[]⟩ : ByteArray), .slice none 0 0]) (rb BK423.out) 0 _ rfl)) 1 _ rfl)) NB423_424.out _)) NB423_424.out _)) hb); have n6_ := Aside0.mk (blk_below (rb (blk_put (cs := #[.string t419, .slice none 0 0]) (rb (blk_put (cs := #[.string (⟨#[]⟩ : ByteArray), .slice none 0 0]) (rb (blk_far (rb (blk_far (rb BK424.out) NB424_423.out _)) NB424_423.out _)) 0 _ rfl)) 1 _ rfl)) hb); have n7_ := Aside0.mk (below_step bb hb); clear HO418; clear HO422; clear BK414; clear BK423; clear BK424; clear HB; have HO418 := n0_; have HO422 := n1_; have HO430 := n2_; have HO436 := n3_; have BK414 := n4_; have BK423 := n5_; have BK424 := n6_; have HB := n7_; clear n0_ n1_ n2_ n3_ n4_ n5_ n6_ n7_; (try clear hb); (try clear hb2); (try clear hk); (try clear hi); (try clear ho0); (try clear ho1)) | ((with_reducible refine gate_dst (N := 7) rfl ?_); refine box_event ?hg (N := 7) ?hd (cs := #[.int .i64 0, .int .i64 0, .string (⟨#[]⟩ : ByteArray), .slice none 0 0]) (t := 54) ?hr ?_; (case hd => rfl); (case hg => rfl); (case hr => first | (go_simp; done) | (go_simp; rfl)); intro gb437 hg w30 hbox hb; have n0_ := Aside0.mk (Kd.N_below (Kd.N_elderB (kN HO418.out) gb437 (Nat.le_of_eq hg.symm)) hb); have n1_ := Aside0.mk (Kd.N_below (Kd.N_elderB (kN HO422.out) gb437 (Nat.le_of_eq hg.symm)) hb); have n2_ := Aside0.mk (Kd.N_below (Kd.N_elderB (kN HO430.out) gb437 (Nat.le_of_eq hg.symm)) hb); have n3_ := Aside0.mk (Kd.N_below (Kd.N_elderB (kN HO436.out) gb437 (Nat.le_of_eq hg.symm)) hb); have n4_ := Aside0.mk (blk_below (rb BK414.out) hb); have n5_ := Aside0.mk (blk_below (rb BK423.out) hb); have n6_ := Aside0.mk (blk_below (rb BK424.out) hb); have n7_ := Aside0.mk (below_step bb hb); have n8_ := Aside0.mk (hbox); have n9_ := Aside0.mk ((by rw [hg]; exact (below_size bb) : w.heap.size ≤ gb437)); have n10_ := Aside0.mk ((by rw [hg]; exact (below_size bb) : w.heap.size ≤ gb437)); have n11_ := Aside0.mk ((by rw [hg]; exact Nat.ne_of_lt (blk_lt (rb BK414.out)) : gb414 ≠ gb437)); have n12_ := Aside0.mk ((by rw [hg]; exact Nat.ne_of_gt (blk_lt (rb BK414.out)) : gb437 ≠ gb414)); have n13_ := Aside0.mk ((by rw [hg]; exact Nat.ne_of_lt (blk_lt (rb BK423.out)) : gb423 ≠ gb437)); have n14_ := Aside0.mk ((by rw [hg]; exact Nat.ne_of_gt (blk_lt (rb BK423.out)) : gb437 ≠ gb423)); have n15_ := Aside0.mk ((by rw [hg]; exact Nat.ne_of_lt (blk_lt (rb BK424.out)) : gb424 ≠ gb437)); have n16_ := Aside0.mk ((by rw [hg]; exact Nat.ne_of_gt (blk_lt (rb BK424.out)) : gb437 ≠ gb424)); clear HO418; clear HO422; clear HO430; clear HO436; clear BK414; clear BK423; clear BK424; clear HB; have HO418 := n0_; have HO422 := n1_; have HO430 := n2_; have HO436 := n3_; have BK414 := n4_; have BK423 := n5_; have BK424 := n6_; have HB := n7_; have BK437 := n8_; have GW437 := n9_; have GE437 := n10_; have NB414_437 := n11_; have NB437_414 := n12_; have NB423_437 := n13_; have NB437_423 := n14_; have NB424_437 := n15_; have NB437_424 := n16_; clear n0_ n1_ n2_ n3_ n4_ n5_ n6_ n7_ n8_ n9_ n10_ n11_ n12_ n13_ n14_ n15_ n16_; clear hb hbox hg) | ((with_reducible refine gate_dst (N := 8) rfl ?_); refine box_event ?hg (N := 8) ?hd (cs := #[.int .i64 0, .int .i64 0, .string (⟨#[]⟩ : ByteArray), .slice none 0 0]) (t := 57) ?hr ?_; (case hd => rfl); (case hg => rfl); (case hr => first | (go_simp; done) | (go_simp; rfl)); intro gb438 hg w31 hbox hb; have n0_ := Aside0.mk (Kd.N_below (Kd.N_elderB (kN HO418.out) gb438 (Nat.le_of_eq hg.symm)) hb); have n1_ := Aside0.mk (Kd.N_below (Kd.N_elderB (kN HO422.out) gb438 (Nat.le_of_eq hg.symm)) hb); have n2_ := Aside0.mk (Kd.N_below (Kd.N_elderB (kN HO430.out) gb438 (Nat.le_of_eq hg.symm)) hb); have n3_ := Aside0.mk (Kd.N_below (Kd.N_elderB (kN HO436.out) gb438 (Nat.le_of_eq hg.symm)) hb); have n4_ := Aside0.mk (blk_below (rb BK414.out) hb); have n5_ := Aside0.mk (blk_below (rb BK423.out) hb); have n6_ := Aside0.mk (blk_below (rb BK424.out) hb); have n7_ := Aside0.mk (blk_below (g := gb437) (o := .cells #[.int .i64 0, .int .i64 0, .string (⟨#[]⟩ : ByteArray), .slice none 0 0] 54 (0, 0)) (rb BK437.out) hb); have n8_ := Aside0.mk (below_step bb hb); have n9_ := Aside0.mk (hbox); have n10_ := Aside0.mk ((by rw [hg]; exact (below_size bb) : w.heap.size ≤ gb438)); have n11_ := Aside0.mk ((by rw [hg]; exact (below_size bb) : w.heap.size ≤ gb438)); have n12_ := Aside0.mk ((by rw [hg]; exact Nat.ne_of_lt (blk_lt (rb BK414.out)) : gb414 ≠ gb438)); have n13_ := Aside0.mk ((by rw [hg]; exact Nat.ne_of_gt (blk_lt (rb BK414.out)) : gb438 ≠ gb414)); have n14_ := Aside0.mk ((by rw [hg]; exact Nat.ne_of_lt (blk_lt (rb BK423.out)) : gb423 ≠ gb438)); have n15_ := Aside0.mk ((by rw [hg]; exact Nat.ne_of_gt (blk_lt (rb BK423.out)) : gb438 ≠ gb423)); have n16_ := Aside0.mk ((by rw [hg]; exact Nat.ne_of_lt (blk_lt (rb BK424.out)) : gb424 ≠ gb438)); have n17_ := Aside0.mk ((by rw [hg]; exact Nat.ne_of_gt (blk_lt (rb BK424.out)) : gb438 ≠ gb424)); have n18_ := Aside0.mk ((by rw [hg]; exact Nat.ne_of_lt (blk_lt (g := gb437) (o := .cells #[.int .i64 0, .int .i64 0, .string (⟨#[]⟩ : ByteArray), .slice none 0 0] 54 (0, 0)) (rb BK437.out)) : gb437 ≠ gb438)); have n19_ := Aside0.mk ((by rw [hg]; exact Nat.ne_of_gt (blk_lt (g := gb437) (o := .cells #[.int .i64 0, .int .i64 0, .string (⟨#[]⟩ : ByteArray), .slice none 0 0] 54 (0, 0)) (rb BK437.out)) : gb438 ≠ gb437)); clear HO418; clear HO422; clear HO430; clear HO436; clear BK414; clear BK423; clear BK424; clear BK437; clear HB; have HO418 := n0_; have HO422 := n1_; have HO430 := n2_; have HO436 := n3_; have BK414 := n4_; have BK423 := n5_; have BK424 := n6_; have BK437 := n7_; have HB := n8_; have BK438 := n9_; have GW438 := n10_; have GE438 := n11_; have NB414_438 := n12_; have NB438_414 := n13_; have NB423_438 := n14_; have NB438_423 := n15_; have NB424_438 := n16_; have NB438_424 := n17_; have NB437_438 := n18_; have NB438_437 := n19_; clear n0_ n1_ n2_ n3_ n4_ n5_ n6_ n7_ n8_ n9_ n10_ n11_ n12_ n13_ n14_ n15_ n16_ n17_ n18_ n19_; clear hb hbox hg; have hnb32 := NB437_414.out; have hnc32 := NB414_437.out; have hnb33 := NB437_423.out; have hnc33 := NB423_437.out; have hnb34 := NB437_424.out; have hnc34 := NB424_437.out; have hnb35 := NB437_438.out; have hnc35 := NB438_437.out; have hcz36_0 : w31.cell? ⟨gb437, 0, none⟩ = some (.int .i64 0) := (blk_cell BK437.out 0).trans rfl; have hcz36_1 : w31.cell? ⟨gb437, 1, none⟩ = some (.int .i64 0) := (blk_cell BK437.out 1).trans rfl; have hcz36_2 : w31.cell? ⟨gb437, 2, none⟩ = some (.string (⟨#[]⟩ : ByteArray)) := (blk_cell BK437.out 2).trans rfl; have hcz36_3 : w31.cell? ⟨gb437, 3, none⟩ = some (.slice none 0 0) := (blk_cell BK437.out 3).trans rfl; have hfz36_0 := blk_frozen BK437.out 0; have hfz36_1 := blk_frozen BK437.out 1; have hfz36_2 := blk_frozen BK437.out 2; have hfz36_3 := blk_frozen BK437.out 3; obtain ⟨Ao37, co37, eo37⟩ := Kd.N_slice HO430.out; subst eo37; have hnb38 := NB438_414.out; have hnc38 := NB414_438.out; have hnb39 := NB438_423.out; have hnc39 := NB423_438.out; have hnb40 := NB438_424.out; have hnc40 := NB424_438.out; have hcz41_0 : w31.cell? ⟨gb438, 0, none⟩ = some (.int .i64 0) := (blk_cell BK438.out 0).trans rfl; have hcz41_1 : w31.cell? ⟨gb438, 1, none⟩ = some (.int .i64 0) := (blk_cell BK438.out 1).trans rfl; have hcz41_2 : w31.cell? ⟨gb438, 2, none⟩ = some (.string (⟨#[]⟩ : ByteArray)) := (blk_cell BK438.out 2).trans rfl; have hcz41_3 : w31.cell? ⟨gb438, 3, none⟩ = some (.slice none 0 0) := (blk_cell BK438.out 3).trans rfl; have hfz41_0 := blk_frozen BK438.out 0; have hfz41_1 := blk_frozen BK438.out 1; have hfz41_2 := blk_frozen BK438.out 2; have hfz41_3 := blk_frozen BK438.out 3; obtain ⟨Ao42, co42, eo42⟩ := Kd.N_slice HO436.out; subst eo42) | ((with_reducible refine gate_callee (f := 22) rfl ?_); refine goesL_ (some 25) rfl rfl Try.func22 (by kernel_rfl) rfl #[.agg #[.int .i64 t425, .int .i64 t426, .string t427, .slice Ao37 t428.length co37]] rfl ag ?_; (with_reducible refine (graph_Read.calls k t425 t426 t427 _ _ t428 t439 t440 t443 _ ?side1 ?side2 A5.out).mono ?_); (case side1 => refine (Kd.N_reads' (e := 54) (base := w.heap.size) (ok := fun k_ => (((some k_ ≠ (.slice Ao42 t434.length co42 : Value).ownBlock ∧ (some k_ ≠ (.slice Ao25 t416.length co25 : Value).ownBlock ∧ (some k_ ≠ (.slice Ao28 t420.length co28 : Value).ownBlock ∧ (k_ ≠ gb414 ∧ (k_ ≠ gb423 ∧ k_ ≠ gb424))))) ∧ k_ ≠ gb437) ∧ k_ ≠ gb438)) (n := t428.length) (c := co37) ?_).2.2; exact (kN ((Kd.N_mono (Kd.N_mono (Kd.N_far (p := ⟨gb438, 3, none⟩) (Kd.N_far (p := ⟨gb438, 2, none⟩) (Kd.N_far (p := ⟨gb438, 1, none⟩) (Kd.N_far (p := ⟨gb438, 0, none⟩) (Kd.N_far (p := ⟨gb437, 3, none⟩) (Kd.N_far (p := ⟨gb437, 2, none⟩) (Kd.N_far (p := ⟨gb437, 1, none⟩) (Kd.N_far (p := ⟨gb437, 0, none⟩) (Kd.N_mono (Kd.N_mono HO430.out (fun k_ hk => (⟨hk, hk.1.2⟩ : _ ∧ k_ ≠ gb437))) (fun k_ hk => (⟨hk, hk.1.2⟩ : _ ∧ k_ ≠ gb438))) (fun _ hk => hk.1.2) (.int .i64 t425)) (fun _ hk => hk.1.2) (.int .i64 t426)) (fun _ hk => hk.1.2) (.string t427)) (fun _ hk => hk.1.2) (.slice Ao37 t428.length co37)) (fun _ hk => hk.2) (.int .i64 t431)) (fun _ hk => hk.2) (.int .i64 t432)) (fun _ hk => hk.2) (.string t433)) (fun _ hk => hk.2) (.slice Ao42 t434.length co42)) (fun _ h_ => h_.1)) (fun _ h_ => h_.1))))); (case side2 => exact (Kd.N_reads' HO430.out).2.1); rintro e w43 ⟨v441, rfl, ho0, hb⟩; refine ⟨_, rfl, ?_⟩; have n0_ := Aside0.mk (Kd.N_elder' (kN ((Kd.N_mono (Kd.N_mono (Kd.N_far (p := ⟨gb438, 3, none⟩) (Kd.N_far (p := ⟨gb438, 2, none⟩) (Kd.N_far (p := ⟨gb438, 1, none⟩) (Kd.N_far (p := ⟨gb438, 0, none⟩) (Kd.N_far (p := ⟨gb437, 3, none⟩) (Kd.N_far (p := ⟨gb437, 2, none⟩) (Kd.N_far (p := ⟨gb437, 1, none⟩) (Kd.N_far (p := ⟨gb437, 0, none⟩) (Kd.N_mono (Kd.N_mono HO418.out (fun k_ hk => (⟨hk, hk.1.2⟩ : _ ∧ k_ ≠ gb437))) (fun k_ hk => (⟨hk, hk.1.2⟩ : _ ∧ k_ ≠ gb438))) (fun _ hk => hk.1.2) (.int .i64 t425)) (fun _ hk => hk.1.2) (.int .i64 t426)) (fun _ hk => hk.1.2) (.string t427)) (fun _ hk => hk.1.2) (.slice Ao37 t428.length co37)) (fun _ hk => hk.2) (.int .i64 t431)) (fun _ hk => hk.2) (.int .i64 t432)) (fun _ hk => hk.2) (.string t433)) (fun _ hk => hk.2) (.slice Ao42 t434.length co42)) (fun _ h_ => h_.1)) (fun _ h_ => h_.1)))) (by first | exact Kd.N_base ho0 | exact Kd.N_base (Kd.R_N ho0) | exact Kd.N_base (Kd.S_N ho0)) hb); have n1_ := Aside0.mk (Kd.N_elder' (kN ((Kd.N_mono (Kd.N_mono (Kd.N_far (p := ⟨gb438, 3, none⟩) (Kd.N_far (p := ⟨gb438, 2, none⟩) (Kd.N_far (p := ⟨gb438, 1, none⟩) (Kd.N_far (p := ⟨gb438, 0, none⟩) (Kd.N_far (p := ⟨gb437, 3, none⟩) (Kd.N_far (p := ⟨gb437, 2, none⟩) (Kd.N_far (p := ⟨gb437, 1, none⟩) (Kd.N_far (p := ⟨gb437, 0, none⟩) (Kd.N_mono (Kd.N_mono HO422.out (fun k_ hk => (⟨hk, hk.1.2⟩ : _ ∧ k_ ≠ gb437))) (fun k_ hk => (⟨hk, hk.1.2⟩ : _ ∧ k_ ≠ gb438))) (fun _ hk => hk.1.2) (.int .i64 t425)) (fun _ hk => hk.1.2) (.int .i64 t426)) (fun _ hk => hk.1.2) (.string t427)) (fun _ hk => hk.1.2) (.slice Ao37 t428.length co37)) (fun _ hk => hk.2) (.int .i64 t431)) (fun _ hk => hk.2) (.int .i64 t432)) (fun _ hk => hk.2) (.string t433)) (fun _ hk => hk.2) (.slice Ao42 t434.length co42)) (fun _ h_ => h_.1)) (fun _ h_ => h_.1)))) (by first | exact Kd.N_base ho0 | exact Kd.N_base (Kd.R_N ho0) | exact Kd.N_base (Kd.S_N ho0)) hb); have n2_ := Aside0.mk (Kd.N_elder' (kN ((Kd.N_mono (Kd.N_mono (Kd.N_far (p := ⟨gb438, 3, none⟩) (Kd.N_far (p := ⟨gb438, 2, none⟩) (Kd.N_far (p := ⟨gb438, 1, none⟩) (Kd.N_far (p := ⟨gb438, 0, none⟩) (Kd.N_far (p := ⟨gb437, 3, none⟩) (Kd.N_far (p := ⟨gb437, 2, none⟩) (Kd.N_far (p := ⟨gb437, 1, none⟩) (Kd.N_far (p := ⟨gb437, 0, none⟩) (Kd.N_mono (Kd.N_mono HO430.out (fun k_ hk => (⟨hk, hk.1.2⟩ : _ ∧ k_ ≠ gb437))) (fun k_ hk => (⟨hk, hk.1.2⟩ : _ ∧ k_ ≠ gb438))) (fun _ hk => hk.1.2) (.int .i64 t425)) (fun _ hk => hk.1.2) (.int .i64 t426)) (fun _ hk => hk.1.2) (.string t427)) (fun _ hk => hk.1.2) (.slice Ao37 t428.length co37)) (fun _ hk => hk.2) (.int .i64 t431)) (fun _ hk => hk.2) (.int .i64 t432)) (fun _ hk => hk.2) (.string t433)) (fun _ hk => hk.2) (.slice Ao42 t434.length co42)) (fun _ h_ => h_.1)) (fun _ h_ => h_.1)))) (by first | exact Kd.N_base ho0 | exact Kd.N_base (Kd.R_N ho0) | exact Kd.N_base (Kd.S_N ho0)) hb); have n3_ := Aside0.mk (Kd.N_elder' (kN ((Kd.N_mono (Kd.N_mono (Kd.N_far (p := ⟨gb438, 3, none⟩) (Kd.N_far (p := ⟨gb438, 2, none⟩) (Kd.N_far (p := ⟨gb438, 1, none⟩) (Kd.N_far (p := ⟨gb438, 0, none⟩) (Kd.N_far (p := ⟨gb437, 3, none⟩) (Kd.N_far (p := ⟨gb437, 2, none⟩) (Kd.N_far (p := ⟨gb437, 1, none⟩) (Kd.N_far (p := ⟨gb437, 0, none⟩) (Kd.N_mono (Kd.N_mono HO436.out (fun k_ hk => (⟨hk, hk.1.2⟩ : _ ∧ k_ ≠ gb437))) (fun k_ hk => (⟨hk, hk.1.2⟩ : _ ∧ k_ ≠ gb438))) (fun _ hk => hk.1.2) (.int .i64 t425)) (fun _ hk => hk.1.2) (.int .i64 t426)) (fun _ hk => hk.1.2) (.string t427)) (fun _ hk => hk.1.2) (.slice Ao37 t428.length co37)) (fun _ hk => hk.2) (.int .i64 t431)) (fun _ hk => hk.2) (.int .i64 t432)) (fun _ hk => hk.2) (.string t433)) (fun _ hk => hk.2) (.slice Ao42 t434.length co42)) (fun _ h_ => h_.1)) (fun _ h_ => h_.1)))) (by first | exact Kd.N_base ho0 | exact Kd.N_base (Kd.R_N ho0) | exact Kd.N_base (Kd.S_N ho0)) hb); have n4_ := Aside0.mk (Kd.N_lower (Kd.N_mono (ok' := fun k_ => some k_ ≠ (.slice Ao25 t416.length co25 : Value).ownBlock ∧ some k_ ≠ (.slice Ao28 t420.length co28 : Value).ownBlock ∧ some k_ ≠ (.slice Ao37 t428.length co37 : Value).ownBlock ∧ some k_ ≠ (.slice Ao42 t434.length co42 : Value).ownBlock ∧ k_ ≠ gb414 ∧ k_ ≠ gb423 ∧ k_ ≠ gb424 ∧ k_ ≠ gb437 ∧ k_ ≠ gb438) (Kd.S_N (Kd.S_bound ho0)) (fun k_ hk_ => ⟨(Kd.fresh' (Kd.N_lt (kN ((Kd.N_mono (Kd.N_mono (Kd.N_far (p := ⟨gb438, 3, none⟩) (Kd.N_far (p := ⟨gb438, 2, none⟩) (Kd.N_far (p := ⟨gb438, 1, none⟩) (Kd.N_far (p := ⟨gb438, 0, none⟩) (Kd.N_far (p := ⟨gb437, 3, none⟩) (Kd.N_far (p := ⟨gb437, 2, none⟩) (Kd.N_far (p := ⟨gb437, 1, none⟩) (Kd.N_far (p := ⟨gb437, 0, none⟩) (Kd.N_mono (Kd.N_mono HO418.out (fun k_ hk => (⟨hk, hk.1.2⟩ : _ ∧ k_ ≠ gb437))) (fun k_ hk => (⟨hk, hk.1.2⟩ : _ ∧ k_ ≠ gb438))) (fun _ hk => hk.1.2) (.int .i64 t425)) (fun _ hk => hk.1.2) (.int .i64 t426)) (fun _ hk => hk.1.2) (.string t427)) (fun _ hk => hk.1.2) (.slice Ao37 t428.length co37)) (fun _ hk => hk.2) (.int .i64 t431)) (fun _ hk => hk.2) (.int .i64 t432)) (fun _ hk => hk.2) (.string t433)) (fun _ hk => hk.2) (.slice Ao42 t434.length co42)) (fun _ h_ => h_.1)) (fun _ h_ => h_.1))))) k_ hk_.2.1), (Kd.fresh' (Kd.N_lt (kN ((Kd.N_mono (Kd.N_mono (Kd.N_far (p := ⟨gb438, 3, none⟩) (Kd.N_far (p := ⟨gb438, 2, none⟩) (Kd.N_far (p := ⟨gb438, 1, none⟩) (Kd.N_far (p := ⟨gb438, 0, none⟩) (Kd.N_far (p := ⟨gb437, 3, none⟩) (Kd.N_far (p := ⟨gb437, 2, none⟩) (Kd.N_far (p := ⟨gb437, 1, none⟩) (Kd.N_far (p := ⟨gb437, 0, none⟩) (Kd.N_mono (Kd.N_mono HO422.out (fun k_ hk => (⟨hk, hk.1.2⟩ : _ ∧ k_ ≠ gb437))) (fun k_ hk => (⟨hk, hk.1.2⟩ : _ ∧ k_ ≠ gb438))) (fun _ hk => hk.1.2) (.int .i64 t425)) (fun _ hk => hk.1.2) (.int .i64 t426)) (fun _ hk => hk.1.2) (.string t427)) (fun _ hk => hk.1.2) (.slice Ao37 t428.length co37)) (fun _ hk => hk.2) (.int .i64 t431)) (fun _ hk => hk.2) (.int .i64 t432)) (fun _ hk => hk.2) (.string t433)) (fun _ hk => hk.2) (.slice Ao42 t434.length co42)) (fun _ h_ => h_.1)) (fun _ h_ => h_.1))))) k_ hk_.2.1), (Kd.fresh' (Kd.N_lt (kN ((Kd.N_mono (Kd.N_mono (Kd.N_far (p := ⟨gb438, 3, none⟩) (Kd.N_far (p := ⟨gb438, 2, none⟩) (Kd.N_far (p := ⟨gb438, 1, none⟩) (Kd.N_far (p := ⟨gb438, 0, none⟩) (Kd.N_far (p := ⟨gb437, 3, none⟩) (Kd.N_far (p := ⟨gb437, 2, none⟩) (Kd.N_far (p := ⟨gb437, 1, none⟩) (Kd.N_far (p := ⟨gb437, 0, none⟩) (Kd.N_mono (Kd.N_mono HO430.out (fun k_ hk => (⟨hk, hk.1.2⟩ : _ ∧ k_ ≠ gb437))) (fun k_ hk => (⟨hk, hk.1.2⟩ : _ ∧ k_ ≠ gb438))) (fun _ hk => hk.1.2) (.int .i64 t425)) (fun _ hk => hk.1.2) (.int .i64 t426)) (fun _ hk => hk.1.2) (.string t427)) (fun _ hk => hk.1.2) (.slice Ao37 t428.length co37)) (fun _ hk => hk.2) (.int .i64 t431)) (fun _ hk => hk.2) (.int .i64 t432)) (fun _ hk => hk.2) (.string t433)) (fun _ hk => hk.2) (.slice Ao42 t434.length co42)) (fun _ h_ => h_.1)) (fun _ h_ => h_.1))))) k_ hk_.2.1), (Kd.fresh' (Kd.N_lt (kN ((Kd.N_mono (Kd.N_mono (Kd.N_far (p := ⟨gb438, 3, none⟩) (Kd.N_far (p := ⟨gb438, 2, none⟩) (Kd.N_far (p := ⟨gb438, 1, none⟩) (Kd.N_far (p := ⟨gb438, 0, none⟩) (Kd.N_far (p := ⟨gb437, 3, none⟩) (Kd.N_far (p := ⟨gb437, 2, none⟩) (Kd.N_far (p := ⟨gb437, 1, none⟩) (Kd.N_far (p := ⟨gb437, 0, none⟩) (Kd.N_mono (Kd.N_mono HO436.out (fun k_ hk => (⟨hk, hk.1.2⟩ : _ ∧ k_ ≠ gb437))) (fun k_ hk => (⟨hk, hk.1.2⟩ : _ ∧ k_ ≠ gb438))) (fun _ hk => hk.1.2) (.int .i64 t425)) (fun _ hk => hk.1.2) (.int .i64 t426)) (fun _ hk => hk.1.2) (.string t427)) (fun _ hk => hk.1.2) (.slice Ao37 t428.length co37)) (fun _ hk => hk.2) (.int .i64 t431)) (fun _ hk => hk.2) (.int .i64 t432)) (fun _ hk => hk.2) (.string t433)) (fun _ hk => hk.2) (.slice Ao42 t434.length co42)) (fun _ h_ => h_.1)) (fun _ h_ => h_.1))))) k_ hk_.2.1), (Kd.freshB (rb (blk_far (rb (blk_far (rb (blk_far (rb (blk_far (rb (blk_far (rb (blk_far (rb (blk_far (rb (blk_far (rb BK414.out) NB414_437.out _)) NB414_437.out _)) NB414_437.out _)) NB414_437.out _)) NB414_438.out _)) NB414_438.out _)) NB414_438.out _)) NB414_438.out _)) k_ hk_.2.1), (Kd.freshB (rb (blk_far (rb (blk_far (rb (blk_far (rb (blk_far (rb (blk_far (rb (blk_far (rb (blk_far (rb (blk_far (rb BK423.out) NB423_437.out _)) NB423_437.out _)) NB423_437.out _)) NB423_437.out _)) NB423_438.out _)) NB423_438.out _)) NB423_438.out _)) NB423_438.out _)) k_ hk_.2.1), (Kd.freshB (rb (blk_far (rb (blk_far (rb (blk_far (rb (blk_far (rb (blk_far (rb (blk_far (rb (blk_far (rb (blk_far (rb BK424.out) NB424_437.out _)) NB424_437.out _)) NB424_437.out _)) NB424_437.out _)) NB424_438.out _)) NB424_438.out _)) NB424_438.out _)) NB424_438.out _)) k_ hk_.2.1), (Kd.freshB (rb (blk_far (rb (blk_far (rb (blk_far (rb (blk_far (rb (blk_put (cs := #[.int .i64 t425, .int .i64 t426, .string t427, .slice none 0 0]) (rb (blk_put (cs := #[.int .i64 t425, .int .i64 t426, .string (⟨#[]⟩ : ByteArray), .slice none 0 0]) (rb (blk_put (cs := #[.int .i64 t425, .int .i64 0, .string (⟨#[]⟩ : ByteArray), .slice none 0 0]) (rb (blk_put (cs := #[.int .i64 0, .int .i64 0, .string (⟨#[]⟩ : ByteArray), .slice none 0 0]) (rb BK437.out) 0 _ rfl)) 1 _ rfl)) 2 _ rfl)) 3 _ rfl)) NB437_438.out _)) NB437_438.out _)) NB437_438.out _)) NB437_438.out _)) k_ hk_.2.1), (Kd.freshB (rb (blk_put (cs := #[.int .i64 t431, .int .i64 t432, .string t433, .slice none 0 0]) (rb (blk_put (cs := #[.int .i64 t431, .int .i64 t432, .string (⟨#[]⟩ : ByteArray), .slice none 0 0]) (rb (blk_put (cs := #[.int .i64 t431, .int .i64 0, .string (⟨#[]⟩ : ByteArray), .slice none 0 0]) (rb (blk_put (cs := #[.int .i64 0, .int .i64 0, .string (⟨#[]⟩ : ByteArray), .slice none 0 0]) (rb (blk_far (rb (blk_far (rb (blk_far (rb (blk_far (rb BK438.out) NB438_437.out _)) NB438_437.out _)) NB438_437.out _)) NB438_437.out _)) 0 _ rfl)) 1 _ rfl)) 2 _ rfl)) 3 _ rfl)) k_ hk_.2.1)⟩)) (below_size bb)); have n5_ := Aside0.mk (blk_below (rb (blk_far (rb (blk_far (rb (blk_far (rb (blk_far (rb (blk_far (rb (blk_far (rb (blk_far (rb (blk_far (rb BK414.out) NB414_437.out _)) NB414_437.out _)) NB414_437.out _)) NB414_437.out _)) NB414_438.out _)) NB414_438.out _)) NB414_438.out _)) NB414_438.out _)) hb); have n6_ := Aside0.mk (blk_below (rb (blk_far (rb (blk_far (rb (blk_far (rb (blk_far (rb (blk_far (rb (blk_far (rb (blk_far (rb (blk_far (rb BK423.out) NB423_437.out _)) NB423_437.out _)) NB423_437.out _)) NB423_437.out _)) NB423_438.out _)) NB423_438.out _)) NB423_438.out _)) NB423_438.out _)) hb); have n7_ := Aside0.mk (blk_below (rb (blk_far (rb (blk_far (rb (blk_far (rb (blk_far (rb (blk_far (rb (blk_far (rb (blk_far (rb (blk_far (rb BK424.out) NB424_437.out _)) NB424_437.out _)) NB424_437.out _)) NB424_437.out _)) NB424_438.out _)) NB424_438.out _)) NB424_438.out _)) NB424_438.out _)) hb); have n8_ := Aside0.mk (blk_below (rb (blk_far (rb (blk_far (rb (blk_far (rb (blk_far (rb (blk_put (cs := #[.int .i64 t425, .int .i64 t426, .string t427, .slice none 0 0]) (rb (blk_put (cs := #[.int .i64 t425, .int .i64 t426, .string (⟨#[]⟩ : ByteArray), .slice none 0 0]) (rb (blk_put (cs := #[.int .i64 t425, .int .i64 0, .string (⟨#[]⟩ : ByteArray), .slice none 0 0]) (rb (blk_put (cs := #[.int .i64 0, .int .i64 0, .string (⟨#[]⟩ : ByteArray), .slice none 0 0]) (rb BK437.out) 0 _ rfl)) 1 _ rfl)) 2 _ rfl)) 3 _ rfl)) NB437_438.out _)) NB437_438.out _)) NB437_438.out _)) NB437_438.out _)) hb); have n9_ := Aside0.mk (blk_below (rb (blk_put (cs := #[.int .i64 t431, .int .i64 t432, .string t433, .slice none 0 0]) (rb (blk_put (cs := #[.int .i64 t431, .int .i64 t432, .string (⟨#[]⟩ : ByteArray), .slice none 0 0]) (rb (blk_put (cs := #[.int .i64 t431, .int .i64 0, .string (⟨#[]⟩ : ByteArray), .slice none 0 0]) (rb (blk_put (cs := #[.int .i64 0, .int .i64 0, .string (⟨#[]⟩ : ByteArray), .slice none 0 0]) (rb (blk_far (rb (blk_far (rb (blk_far (rb (blk_far (rb BK438.out) NB438_437.out _)) NB438_437.out _)) NB438_437.out _)) NB438_437.out _)) 0 _ rfl)) 1 _ rfl)) 2 _ rfl)) 3 _ rfl)) hb); have n10_ := Aside0.mk (below_step bb hb); clear HO418; clear HO422; clear HO430; clear HO436; clear BK414; clear BK423; clear BK424; clear BK437; clear BK438; clear HB; have HO418 := n0_; have HO422 := n1_; have HO430 := n2_; have HO436 := n3_; have HO442 := n4_; have BK414 := n5_; have BK423 := n6_; have BK424 := n7_; have BK437 := n8_; have BK438 := n9_; have HB := n10_; clear n0_ n1_ n2_ n3_ n4_ n5_ n6_ n7_ n8_ n9_ n10_; (try clear hb); (try clear hb2); (try clear hk); (try clear hi); (try clear ho0)) | ((with_reducible refine gate_dst (N := 9) rfl ?_); refine box_event ?hg (N := 9) ?hd (cs := #[.string (⟨#[]⟩ : ByteArray), .slice none 0 0]) (t := 27) ?hr ?_; (case hd => rfl); (case hg => rfl); (case hr => first | (go_simp; done) | (go_simp; rfl)); intro gb444 hg w44 hbox hb; have n0_ := Aside0.mk (Kd.N_below (Kd.N_elderB (kN HO418.out) gb444 (Nat.le_of_eq hg.symm)) hb); have n1_ := Aside0.mk (Kd.N_below (Kd.N_elderB (kN HO422.out) gb444 (Nat.le_of_eq hg.symm)) hb); have n2_ := Aside0.mk (Kd.N_below (Kd.N_elderB (kN HO430.out) gb444 (Nat.le_of_eq hg.symm)) hb); have n3_ := Aside0.mk (Kd.N_below (Kd.N_elderB (kN HO436.out) gb444 (Nat.le_of_eq hg.symm)) hb); have n4_ := Aside0.mk (Kd.N_below (Kd.N_elderB (kN HO442.out) gb444 (Nat.le_of_eq hg.symm)) hb); have n5_ := Aside0.mk (blk_below (rb BK414.out) hb); have n6_ := Aside0.mk (blk_below (rb BK423.out) hb); have n7_ := Aside0.mk (blk_below (rb BK424.out) hb); have n8_ := Aside0.mk (blk_below (rb BK437.out) hb); have n9_ := Aside0.mk (blk_below (rb BK438.out) hb); have n10_ := Aside0.mk (below_step bb hb); have n11_ := Aside0.mk (hbox); have n12_ := Aside0.mk ((by rw [hg]; exact (below_size bb) : w.heap.size ≤ gb444)); have n13_ := Aside0.mk ((by rw [hg]; exact (below_size bb) : w.heap.size ≤ gb444)); have n14_ := Aside0.mk ((by rw [hg]; exact Nat.ne_of_lt (blk_lt (rb BK414.out)) : gb414 ≠ gb444)); have n15_ := Aside0.mk ((by rw [hg]; exact Nat.ne_of_gt (blk_lt (rb BK414.out)) : gb444 ≠ gb414)); have n16_ := Aside0.mk ((by rw [hg]; exact Nat.ne_of_lt (blk_lt (rb BK423.out)) : gb423 ≠ gb444)); have n17_ := Aside0.mk ((by rw [hg]; exact Nat.ne_of_gt (blk_lt (rb BK423.out)) : gb444 ≠ gb423)); have n18_ := Aside0.mk ((by rw [hg]; exact Nat.ne_of_lt (blk_lt (rb BK424.out)) : gb424 ≠ gb444)); have n19_ := Aside0.mk ((by rw [hg]; exact Nat.ne_of_gt (blk_lt (rb BK424.out)) : gb444 ≠ gb424)); have n20_ := Aside0.mk ((by rw [hg]; exact Nat.ne_of_lt (blk_lt (rb BK437.out)) : gb437 ≠ gb444)); have n21_ := Aside0.mk ((by rw [hg]; exact Nat.ne_of_gt (blk_lt (rb BK437.out)) : gb444 ≠ gb437)); have n22_ := Aside0.mk ((by rw [hg]; exact Nat.ne_of_lt (blk_lt (rb BK438.out)) : gb438 ≠ gb444)); have n23_ := Aside0.mk ((by rw [hg]; exact Nat.ne_of_gt (blk_lt (rb BK438.out)) : gb444 ≠ gb438)); clear HO418; clear HO422; clear HO430; clear HO436; clear HO442; clear BK414; clear BK423; clear BK424; clear BK437; clear BK438; clear HB; have HO418 := n0_; have HO422 := n1_; have HO430 := n2_; have HO436 := n3_; have HO442 := n4_; have BK414 := n5_; have BK423 := n6_; have BK424 := n7_; have BK437 := n8_; have BK438 := n9_; have HB := n10_; have BK444 := n11_; have GW444 := n12_; have GE444 := n13_; have NB414_444 := n14_; have NB444_414 := n15_; have NB423_444 := n16_; have NB444_423 := n17_; have NB424_444 := n18_; have NB444_424 := n19_; have NB437_444 := n20_; have NB444_437 := n21_; have NB438_444 := n22_; have NB444_438 := n23_; clear n0_ n1_ n2_ n3_ n4_ n5_ n6_ n7_ n8_ n9_ n10_ n11_ n12_ n13_ n14_ n15_ n16_ n17_ n18_ n19_ n20_ n21_ n22_ n23_; clear hb hbox hg; have hnb45 := NB444_414.out; have hnc45 := NB414_444.out; have hnb46 := NB444_423.out; have hnc46 := NB423_444.out; have hnb47 := NB444_424.out; have hnc47 := NB424_444.out; have hnb48 := NB444_437.out; have hnc48 := NB437_444.out; have hnb49 := NB444_438.out; have hnc49 := NB438_444.out; have hcz50_0 : w44.cell? ⟨gb444, 0, none⟩ = some (.string (⟨#[]⟩ : ByteArray)) := (blk_cell BK444.out 0).trans rfl; have hcz50_1 : w44.cell? ⟨gb444, 1, none⟩ = some (.slice none 0 0) := (blk_cell BK444.out 1).trans rfl; have hfz50_0 := blk_frozen BK444.out 0; have hfz50_1 := blk_frozen BK444.out 1; obtain ⟨Ao51, co51, eo51⟩ := Kd.N_slice HO442.out; subst eo51; have hcz52_0 : w44.cell? ⟨gb438, 0, none⟩ = some (.int .i64 t431) := (blk_cell BK438.out 0).trans rfl; have hcz52_1 : w44.cell? ⟨gb438, 1, none⟩ = some (.int .i64 t432) := (blk_cell BK438.out 1).trans rfl; have hcz52_2 : w44.cell? ⟨gb438, 2, none⟩ = some (.string t433) := (blk_cell BK438.out 2).trans rfl; have hcz52_3 : w44.cell? ⟨gb438, 3, none⟩ = some (.slice Ao42 t434.length co42) := (blk_cell BK438.out 3).trans rfl; have hfz52_0 := blk_frozen BK438.out 0; have hfz52_1 := blk_frozen BK438.out 1; have hfz52_2 := blk_frozen BK438.out 2; have hfz52_3 := blk_frozen BK438.out 3) | ((with_reducible refine gate_callee (f := 23) rfl ?_); refine goesL_ (some 30) rfl rfl Try.func23 (by kernel_rfl) rfl #[.agg #[.int .i64 t431, .int .i64 t432, .string t433, .slice Ao42 t434.length co42]] rfl ag ?_; (with_reducible refine (precinctref12_Read.calls t431 t432 t433 _ _ t434 t445 t446 t449 _ ?side1 ?side2 A6.out).mono ?_); (case side1 => refine (Kd.N_reads' (e := 57) (base := w.heap.size) (ok := fun k_ => (((((some k_ ≠ (.slice Ao37 t428.length co37 : Value).ownBlock ∧ (some k_ ≠ (.slice Ao25 t416.length co25 : Value).ownBlock ∧ (some k_ ≠ (.slice Ao28 t420.length co28 : Value).ownBlock ∧ (k_ ≠ gb414 ∧ (k_ ≠ gb423 ∧ k_ ≠ gb424))))) ∧ k_ ≠ gb437) ∧ k_ ≠ gb438) ∧ some k_ ≠ (.slice Ao51 t440.length co51 : Value).ownBlock) ∧ k_ ≠ gb444)) (n := t434.length) (c := co42) ?_).2.2; exact (kN ((Kd.N_mono (Kd.N_far (p := ⟨gb444, 1, none⟩) (Kd.N_far (p := ⟨gb444, 0, none⟩) (Kd.N_mono HO436.out (fun k_ hk => (⟨hk, hk.2⟩ : _ ∧ k_ ≠ gb444))) (fun _ hk => hk.2) (.string t439)) (fun _ hk => hk.2) (.slice Ao51 t440.length co51)) (fun _ h_ => h_.1))))); (case side2 => exact (Kd.N_reads' HO436.out).2.1); rintro e w53 ⟨v447, rfl, ho0, hb⟩; refine ⟨_, rfl, ?_⟩; have n0_ := Aside0.mk (Kd.N_below (kN ((Kd.N_mono (Kd.N_far (p := ⟨gb444, 1, none⟩) (Kd.N_far (p := ⟨gb444, 0, none⟩) (Kd.N_mono HO418.out (fun k_ hk => (⟨hk, hk.2⟩ : _ ∧ k_ ≠ gb444))) (fun _ hk => hk.2) (.string t439)) (fun _ hk => hk.2) (.slice Ao51 t440.length co51)) (fun _ h_ => h_.1)))) hb); have n1_ := Aside0.mk (Kd.N_below (kN ((Kd.N_mono (Kd.N_far (p := ⟨gb444, 1, none⟩) (Kd.N_far (p := ⟨gb444, 0, none⟩) (Kd.N_mono HO422.out (fun k_ hk => (⟨hk, hk.2⟩ : _ ∧ k_ ≠ gb444))) (fun _ hk => hk.2) (.string t439)) (fun _ hk => hk.2) (.slice Ao51 t440.length co51)) (fun _ h_ => h_.1)))) hb); have n2_ := Aside0.mk (Kd.N_below (kN ((Kd.N_mono (Kd.N_far (p := ⟨gb444, 1, none⟩) (Kd.N_far (p := ⟨gb444, 0, none⟩) (Kd.N_mono HO430.out (fun k_ hk => (⟨hk, hk.2⟩ : _ ∧ k_ ≠ gb444))) (fun _ hk => hk.2) (.string t439)) (fun _ hk => hk.2) (.slice Ao51 t440.length co51)) (fun _ h_ => h_.1)))) hb); have n3_ := Aside0.mk (Kd.N_below (kN ((Kd.N_mono (Kd.N_far (p := ⟨gb444, 1, none⟩) (Kd.N_far (p := ⟨gb444, 0, none⟩) (Kd.N_mono HO436.out (fun k_ hk => (⟨hk, hk.2⟩ : _ ∧ k_ ≠ gb444))) (fun _ hk => hk.2) (.string t439)) (fun _ hk => hk.2) (.slice Ao51 t440.length co51)) (fun _ h_ => h_.1)))) hb); have n4_ := Aside0.mk (Kd.N_below (kN ((Kd.N_mono (Kd.N_far (p := ⟨gb444, 1, none⟩) (Kd.N_far (p := ⟨gb444, 0, none⟩) (Kd.N_mono HO442.out (fun k_ hk => (⟨hk, hk.2⟩ : _ ∧ k_ ≠ gb444))) (fun _ hk => hk.2) (.string t439)) (fun _ hk => hk.2) (.slice Ao51 t440.length co51)) (fun _ h_ => h_.1)))) hb); have n5_ := Aside0.mk (Kd.V_lower (Kd.V_mono (ok' := fun k_ => some k_ ≠ (.slice Ao25 t416.length co25 : Value).ownBlock ∧ some k_ ≠ (.slice Ao28 t420.length co28 : Value).ownBlock ∧ some k_ ≠ (.slice Ao37 t428.length co37 : Value).ownBlock ∧ some k_ ≠ (.slice Ao42 t434.length co42 : Value).ownBlock ∧ some k_ ≠ (.slice Ao51 t440.length co51 : Value).ownBlock ∧ k_ ≠ gb414 ∧ k_ ≠ gb423 ∧ k_ ≠ gb424 ∧ k_ ≠ gb437 ∧ k_ ≠ gb438 ∧ k_ ≠ gb444) ho0 (fun k_ hk_ => ⟨(Kd.fresh' (Kd.N_lt (kN ((Kd.N_mono (Kd.N_far (p := ⟨gb444, 1, none⟩) (Kd.N_far (p := ⟨gb444, 0, none⟩) (Kd.N_mono HO418.out (fun k_ hk => (⟨hk, hk.2⟩ : _ ∧ k_ ≠ gb444))) (fun _ hk => hk.2) (.string t439)) (fun _ hk => hk.2) (.slice Ao51 t440.length co51)) (fun _ h_ => h_.1))))) k_ hk_), (Kd.fresh' (Kd.N_lt (kN ((Kd.N_mono (Kd.N_far (p := ⟨gb444, 1, none⟩) (Kd.N_far (p := ⟨gb444, 0, none⟩) (Kd.N_mono HO422.out (fun k_ hk => (⟨hk, hk.2⟩ : _ ∧ k_ ≠ gb444))) (fun _ hk => hk.2) (.string t439)) (fun _ hk => hk.2) (.slice Ao51 t440.length co51)) (fun _ h_ => h_.1))))) k_ hk_), (Kd.fresh' (Kd.N_lt (kN ((Kd.N_mono (Kd.N_far (p := ⟨gb444, 1, none⟩) (Kd.N_far (p := ⟨gb444, 0, none⟩) (Kd.N_mono HO430.out (fun k_ hk => (⟨hk, hk.2⟩ : _ ∧ k_ ≠ gb444))) (fun _ hk => hk.2) (.string t439)) (fun _ hk => hk.2) (.slice Ao51 t440.length co51)) (fun _ h_ => h_.1))))) k_ hk_), (Kd.fresh' (Kd.N_lt (kN ((Kd.N_mono (Kd.N_far (p := ⟨gb444, 1, none⟩) (Kd.N_far (p := ⟨gb444, 0, none⟩) (Kd.N_mono HO436.out (fun k_ hk => (⟨hk, hk.2⟩ : _ ∧ k_ ≠ gb444))) (fun _ hk => hk.2) (.string t439)) (fun _ hk => hk.2) (.slice Ao51 t440.length co51)) (fun _ h_ => h_.1))))) k_ hk_), (Kd.fresh' (Kd.N_lt (kN ((Kd.N_mono (Kd.N_far (p := ⟨gb444, 1, none⟩) (Kd.N_far (p := ⟨gb444, 0, none⟩) (Kd.N_mono HO442.out (fun k_ hk => (⟨hk, hk.2⟩ : _ ∧ k_ ≠ gb444))) (fun _ hk => hk.2) (.string t439)) (fun _ hk => hk.2) (.slice Ao51 t440.length co51)) (fun _ h_ => h_.1))))) k_ hk_), (Kd.freshB (rb (blk_far (rb (blk_far (rb BK414.out) NB414_444.out _)) NB414_444.out _)) k_ hk_), (Kd.freshB (rb (blk_far (rb (blk_far (rb BK423.out) NB423_444.out _)) NB423_444.out _)) k_ hk_), (Kd.freshB (rb (blk_far (rb (blk_far (rb BK424.out) NB424_444.out _)) NB424_444.out _)) k_ hk_), (Kd.freshB (rb (blk_far (rb (blk_far (rb BK437.out) NB437_444.out _)) NB437_444.out _)) k_ hk_), (Kd.freshB (rb (blk_far (rb (blk_far (rb BK438.out) NB438_444.out _)) NB438_444.out _)) k_ hk_), (Kd.freshB (rb (blk_put (cs := #[.string t439, .slice none 0 0]) (rb (blk_put (cs := #[.string (⟨#[]⟩ : ByteArray), .slice none 0 0]) (rb BK444.out) 0 _ rfl)) 1 _ rfl)) k_ hk_)⟩)) (below_size bb)); have n6_ := Aside0.mk (blk_below (rb (blk_far (rb (blk_far (rb BK414.out) NB414_444.out _)) NB414_444.out _)) hb); have n7_ := Aside0.mk (blk_below (rb (blk_far (rb (blk_far (rb BK423.out) NB423_444.out _)) NB423_444.out _)) hb); have n8_ := Aside0.mk (blk_below (rb (blk_far (rb (blk_far (rb BK424.out) NB424_444.out _)) NB424_444.out _)) hb); have n9_ := Aside0.mk (blk_below (rb (blk_far (rb (blk_far (rb BK437.out) NB437_444.out _)) NB437_444.out _)) hb); have n10_ := Aside0.mk (blk_below (rb (blk_far (rb (blk_far (rb BK438.out) NB438_444.out _)) NB438_444.out _)) hb); have n11_ := Aside0.mk (blk_below (rb (blk_put (cs := #[.string t439, .slice none 0 0]) (rb (blk_put (cs := #[.string (⟨#[]⟩ : ByteArray), .slice none 0 0]) (rb BK444.out) 0 _ rfl)) 1 _ rfl)) hb); have n12_ := Aside0.mk (below_step bb hb); clear HO418; clear HO422; clear HO430; clear HO436; clear HO442; clear BK414; clear BK423; clear BK424; clear BK437; clear BK438; clear BK444; clear HB; have HO418 := n0_; have HO422 := n1_; have HO430 := n2_; have HO436 := n3_; have HO442 := n4_; have HO448 := n5_; have BK414 := n6_; have BK423 := n7_; have BK424 := n8_; have BK437 := n9_; have BK438 := n10_; have BK444 := n11_; have HB := n12_; clear n0_ n1_ n2_ n3_ n4_ n5_ n6_ n7_ n8_ n9_ n10_ n11_ n12_; (try clear hb); (try clear hb2); (try clear hk); (try clear hi); (try clear ho0)) | ((with_reducible refine gate_dst (N := 11) rfl ?_); refine box_event ?hg (N := 11) ?hd (cs := #[.string (⟨#[]⟩ : ByteArray), .slice none 0 0]) (t := 30) ?hr ?_; (case hd => rfl); (case hg => rfl); (case hr => first | (go_simp; done) | (go_simp; rfl)); intro gb450 hg w54 hbox hb; have n0_ := Aside0.mk (Kd.N_below (Kd.N_elderB (kN HO418.out) gb450 (Nat.le_of_eq hg.symm)) hb); have n1_ := Aside0.mk (Kd.N_below (Kd.N_elderB (kN HO422.out) gb450 (Nat.le_of_eq hg.symm)) hb); have n2_ := Aside0.mk (Kd.N_below (Kd.N_elderB (kN HO430.out) gb450 (Nat.le_of_eq hg.symm)) hb); have n3_ := Aside0.mk (Kd.N_below (Kd.N_elderB (kN HO436.out) gb450 (Nat.le_of_eq hg.symm)) hb); have n4_ := Aside0.mk (Kd.N_below (Kd.N_elderB (kN HO442.out) gb450 (Nat.le_of_eq hg.symm)) hb); have n5_ := Aside0.mk (Kd.V_below (Kd.V_elderB (by (with_reducible repeat (first | apply Kd.V_alloc | apply Kd.V_drewN | apply Kd.V_drew)); exact HO448.out) gb450 (Nat.le_of_eq hg.symm)) hb); have n6_ := Aside0.mk (blk_below (rb BK414.out) hb); have n7_ := Aside0.mk (blk_below (rb BK423.out) hb); have n8_ := Aside0.mk (blk_below (rb BK424.out) hb); have n9_ := Aside0.mk (blk_below (rb BK437.out) hb); have n10_ := Aside0.mk (blk_below (rb BK438.out) hb); have n11_ := Aside0.mk (blk_below (rb BK444.out) hb); have n12_ := Aside0.mk (below_step bb hb); have n13_ := Aside0.mk (hbox); have n14_ := Aside0.mk ((by rw [hg]; exact (below_size bb) : w.heap.size ≤ gb450)); have n15_ := Aside0.mk ((by rw [hg]; exact (below_size bb) : w.heap.size ≤ gb450)); have n16_ := Aside0.mk ((by rw [hg]; exact Nat.ne_of_lt (blk_lt (rb BK414.out)) : gb414 ≠ gb450)); have n17_ := Aside0.mk ((by rw [hg]; exact Nat.ne_of_gt (blk_lt (rb BK414.out)) : gb450 ≠ gb414)); have n18_ := Aside0.mk ((by rw [hg]; exact Nat.ne_of_lt (blk_lt (rb BK423.out)) : gb423 ≠ gb450)); have n19_ := Aside0.mk ((by rw [hg]; exact Nat.ne_of_gt (blk_lt (rb BK423.out)) : gb450 ≠ gb423)); have n20_ := Aside0.mk ((by rw [hg]; exact Nat.ne_of_lt (blk_lt (rb BK424.out)) : gb424 ≠ gb450)); have n21_ := Aside0.mk ((by rw [hg]; exact Nat.ne_of_gt (blk_lt (rb BK424.out)) : gb450 ≠ gb424)); have n22_ := Aside0.mk ((by rw [hg]; exact Nat.ne_of_lt (blk_lt (rb BK437.out)) : gb437 ≠ gb450)); have n23_ := Aside0.mk ((by rw [hg]; exact Nat.ne_of_gt (blk_lt (rb BK437.out)) : gb450 ≠ gb437)); have n24_ := Aside0.mk ((by rw [hg]; exact Nat.ne_of_lt (blk_lt (rb BK438.out)) : gb438 ≠ gb450)); have n25_ := Aside0.mk ((by rw [hg]; exact Nat.ne_of_gt (blk_lt (rb BK438.out)) : gb450 ≠ gb438)); have n26_ := Aside0.mk ((by rw [hg]; exact Nat.ne_of_lt (blk_lt (rb BK444.out)) : gb444 ≠ gb450)); have n27_ := Aside0.mk ((by rw [hg]; exact Nat.ne_of_gt (blk_lt (rb BK444.out)) : gb450 ≠ gb444)); clear HO418; clear HO422; clear HO430; clear HO436; clear HO442; clear HO448; clear BK414; clear BK423; clear BK424; clear BK437; clear BK438; clear BK444; clear HB; have HO418 := n0_; have HO422 := n1_; have HO430 := n2_; have HO436 := n3_; have HO442 := n4_; have HO448 := n5_; have BK414 := n6_; have BK423 := n7_; have BK424 := n8_; have BK437 := n9_; have BK438 := n10_; have BK444 := n11_; have HB := n12_; have BK450 := n13_; have GW450 := n14_; have GE450 := n15_; have NB414_450 := n16_; have NB450_414 := n17_; have NB423_450 := n18_; have NB450_423 := n19_; have NB424_450 := n20_; have NB450_424 := n21_; have NB437_450 := n22_; have NB450_437 := n23_; have NB438_450 := n24_; have NB450_438 := n25_; have NB444_450 := n26_; have NB450_444 := n27_; clear n0_ n1_ n2_ n3_ n4_ n5_ n6_ n7_ n8_ n9_ n10_ n11_ n12_ n13_ n14_ n15_ n16_ n17_ n18_ n19_ n20_ n21_ n22_ n23_ n24_ n25_ n26_ n27_; clear hb hbox hg; have hnb55 := NB450_414.out; have hnc55 := NB414_450.out; have hnb56 := NB450_423.out; have hnc56 := NB423_450.out; have hnb57 := NB450_424.out; have hnc57 := NB424_450.out; have hnb58 := NB450_437.out; have hnc58 := NB437_450.out; have hnb59 := NB450_438.out; have hnc59 := NB438_450.out; have hnb60 := NB450_444.out; have hnc60 := NB444_450.out; have hcz61_0 : w54.cell? ⟨gb450, 0, none⟩ = some (.string (⟨#[]⟩ : ByteArray)) := (blk_cell BK450.out 0).trans rfl; have hcz61_1 : w54.cell? ⟨gb450, 1, none⟩ = some (.slice none 0 0) := (blk_cell BK450.out 1).trans rfl; have hfz61_0 := blk_frozen BK450.out 0; have hfz61_1 := blk_frozen BK450.out 1; obtain ⟨Ao62, co62, eo62⟩ := Kd.V_slice HO448.out; subst eo62))
    have n0_ : Aside0 (Kd.N k48 48 ((w54.setCell ⟨gb450, 0, none⟩ (.string t445)).setCell ⟨gb450, 1, none⟩ (.slice Ao62 t446.length co62)) w.heap.size (fun k_ => some k_ ≠ (.slice Ao28 t420.length co28 : Value).ownBlock ∧ some k_ ≠ (.slice Ao37 t428.length co37 : Value).ownBlock ∧ some k_ ≠ (.slice Ao42 t434.length co42 : Value).ownBlock ∧ some k_ ≠ (.slice Ao51 t440.length co51 : Value).ownBlock ∧ k_ ≠ gb414 ∧ k_ ≠ gb423 ∧ k_ ≠ gb424 ∧ k_ ≠ gb437 ∧ k_ ≠ gb438 ∧ k_ ≠ gb444 ∧ k_ ≠ gb450) (.slice Ao25 t416.length co25) t416) := ⟨kN (Kd.N_mono (Kd.N_far (p := ⟨gb450, 1, none⟩) (Kd.N_far (p := ⟨gb450, 0, none⟩) (Kd.N_mono HO418.out (fun k_ hk => (⟨hk, hk.2⟩ : _ ∧ k_ ≠ gb450))) (fun _ hk => hk.2) (.string t445)) (fun _ hk => hk.2) (.slice Ao62 t446.length co62)) (fun _ hk => ⟨hk.1.1.1.1.1.1.1.1.1.1.1, ⟨hk.1.1.1.1.1.1.1.2, ⟨hk.1.1.1.1.1.1.2, ⟨hk.1.1.1.2, ⟨hk.1.1.1.1.1.1.1.1.1.1.2, ⟨hk.1.1.1.1.1.1.1.1.1.2, ⟨hk.1.1.1.1.1.1.1.1.2, ⟨hk.1.1.1.1.1.2, ⟨hk.1.1.1.1.2, ⟨hk.1.1.2, hk.1.2⟩⟩⟩⟩⟩⟩⟩⟩⟩⟩))⟩
    have n1_ : Aside0 (Kd.N k125 125 ((w54.setCell ⟨gb450, 0, none⟩ (.string t445)).setCell ⟨gb450, 1, none⟩ (.slice Ao62 t446.length co62)) w.heap.size (fun k_ => some k_ ≠ (.slice Ao25 t416.length co25 : Value).ownBlock ∧ some k_ ≠ (.slice Ao37 t428.length co37 : Value).ownBlock ∧ some k_ ≠ (.slice Ao42 t434.length co42 : Value).ownBlock ∧ some k_ ≠ (.slice Ao51 t440.length co51 : Value).ownBlock ∧ k_ ≠ gb414 ∧ k_ ≠ gb423 ∧ k_ ≠ gb424 ∧ k_ ≠ gb437 ∧ k_ ≠ gb438 ∧ k_ ≠ gb444 ∧ k_ ≠ gb450) (.slice Ao28 t420.length co28) t420) := ⟨kN (Kd.N_mono (Kd.N_far (p := ⟨gb450, 1, none⟩) (Kd.N_far (p := ⟨gb450, 0, none⟩) (Kd.N_mono HO422.out (fun k_ hk => (⟨hk, hk.2⟩ : _ ∧ k_ ≠ gb450))) (fun _ hk => hk.2) (.string t445)) (fun _ hk => hk.2) (.slice Ao62 t446.length co62)) (fun _ hk => ⟨hk.1.1.1.1.1.1.1.1.1.1.1, ⟨hk.1.1.1.1.1.1.1.2, ⟨hk.1.1.1.1.1.1.2, ⟨hk.1.1.1.2, ⟨hk.1.1.1.1.1.1.1.1.1.1.2, ⟨hk.1.1.1.1.1.1.1.1.1.2, ⟨hk.1.1.1.1.1.1.1.1.2, ⟨hk.1.1.1.1.1.2, ⟨hk.1.1.1.1.2, ⟨hk.1.1.2, hk.1.2⟩⟩⟩⟩⟩⟩⟩⟩⟩⟩))⟩
    have n2_ : Aside0 (Kd.N k54 54 ((w54.setCell ⟨gb450, 0, none⟩ (.string t445)).setCell ⟨gb450, 1, none⟩ (.slice Ao62 t446.length co62)) w.heap.size (fun k_ => some k_ ≠ (.slice Ao25 t416.length co25 : Value).ownBlock ∧ some k_ ≠ (.slice Ao28 t420.length co28 : Value).ownBlock ∧ some k_ ≠ (.slice Ao42 t434.length co42 : Value).ownBlock ∧ some k_ ≠ (.slice Ao51 t440.length co51 : Value).ownBlock ∧ k_ ≠ gb414 ∧ k_ ≠ gb423 ∧ k_ ≠ gb424 ∧ k_ ≠ gb437 ∧ k_ ≠ gb438 ∧ k_ ≠ gb444 ∧ k_ ≠ gb450) (.slice Ao37 t428.length co37) t428) := ⟨kN (Kd.N_mono (Kd.N_far (p := ⟨gb450, 1, none⟩) (Kd.N_far (p := ⟨gb450, 0, none⟩) (Kd.N_mono HO430.out (fun k_ hk => (⟨hk, hk.2⟩ : _ ∧ k_ ≠ gb450))) (fun _ hk => hk.2) (.string t445)) (fun _ hk => hk.2) (.slice Ao62 t446.length co62)) (fun _ hk => ⟨hk.1.1.1.1.1.1.2.1, ⟨hk.1.1.1.1.1.1.2.2.1, ⟨hk.1.1.1.1.1.1.1, ⟨hk.1.1.1.2, ⟨hk.1.1.1.1.1.1.2.2.2.1, ⟨hk.1.1.1.1.1.1.2.2.2.2.1, ⟨hk.1.1.1.1.1.1.2.2.2.2.2, ⟨hk.1.1.1.1.1.2, ⟨hk.1.1.1.1.2, ⟨hk.1.1.2, hk.1.2⟩⟩⟩⟩⟩⟩⟩⟩⟩⟩))⟩
    have n3_ : Aside0 (Kd.N k57 57 ((w54.setCell ⟨gb450, 0, none⟩ (.string t445)).setCell ⟨gb450, 1, none⟩ (.slice Ao62 t446.length co62)) w.heap.size (fun k_ => some k_ ≠ (.slice Ao25 t416.length co25 : Value).ownBlock ∧ some k_ ≠ (.slice Ao28 t420.length co28 : Value).ownBlock ∧ some k_ ≠ (.slice Ao37 t428.length co37 : Value).ownBlock ∧ some k_ ≠ (.slice Ao51 t440.length co51 : Value).ownBlock ∧ k_ ≠ gb414 ∧ k_ ≠ gb423 ∧ k_ ≠ gb424 ∧ k_ ≠ gb437 ∧ k_ ≠ gb438 ∧ k_ ≠ gb444 ∧ k_ ≠ gb450) (.slice Ao42 t434.length co42) t434) := ⟨kN (Kd.N_mono (Kd.N_far (p := ⟨gb450, 1, none⟩) (Kd.N_far (p := ⟨gb450, 0, none⟩) (Kd.N_mono HO436.out (fun k_ hk => (⟨hk, hk.2⟩ : _ ∧ k_ ≠ gb450))) (fun _ hk => hk.2) (.string t445)) (fun _ hk => hk.2) (.slice Ao62 t446.length co62)) (fun _ hk => ⟨hk.1.1.1.1.1.1.2.1, ⟨hk.1.1.1.1.1.1.2.2.1, ⟨hk.1.1.1.1.1.1.1, ⟨hk.1.1.1.2, ⟨hk.1.1.1.1.1.1.2.2.2.1, ⟨hk.1.1.1.1.1.1.2.2.2.2.1, ⟨hk.1.1.1.1.1.1.2.2.2.2.2, ⟨hk.1.1.1.1.1.2, ⟨hk.1.1.1.1.2, ⟨hk.1.1.2, hk.1.2⟩⟩⟩⟩⟩⟩⟩⟩⟩⟩))⟩
    have n4_ : Aside0 (Kd.N k48 48 ((w54.setCell ⟨gb450, 0, none⟩ (.string t445)).setCell ⟨gb450, 1, none⟩ (.slice Ao62 t446.length co62)) w.heap.size (fun k_ => some k_ ≠ (.slice Ao25 t416.length co25 : Value).ownBlock ∧ some k_ ≠ (.slice Ao28 t420.length co28 : Value).ownBlock ∧ some k_ ≠ (.slice Ao37 t428.length co37 : Value).ownBlock ∧ some k_ ≠ (.slice Ao42 t434.length co42 : Value).ownBlock ∧ k_ ≠ gb414 ∧ k_ ≠ gb423 ∧ k_ ≠ gb424 ∧ k_ ≠ gb437 ∧ k_ ≠ gb438 ∧ k_ ≠ gb444 ∧ k_ ≠ gb450) (.slice Ao51 t440.length co51) t440) := ⟨kN (Kd.N_mono (Kd.N_far (p := ⟨gb450, 1, none⟩) (Kd.N_far (p := ⟨gb450, 0, none⟩) (Kd.N_mono HO442.out (fun k_ hk => (⟨hk, hk.2⟩ : _ ∧ k_ ≠ gb450))) (fun _ hk => hk.2) (.string t445)) (fun _ hk => hk.2) (.slice Ao62 t446.length co62)) (fun _ hk => ⟨hk.1.1.1.1, ⟨hk.1.1.1.2.1, ⟨hk.1.1.1.2.2.1, ⟨hk.1.1.1.2.2.2.1, ⟨hk.1.1.1.2.2.2.2.1, ⟨hk.1.1.1.2.2.2.2.2.1, ⟨hk.1.1.1.2.2.2.2.2.2.1, ⟨hk.1.1.1.2.2.2.2.2.2.2.1, ⟨hk.1.1.1.2.2.2.2.2.2.2.2, ⟨hk.1.1.2, hk.1.2⟩⟩⟩⟩⟩⟩⟩⟩⟩⟩))⟩
    have n5_ : Aside0 (Kd.V k125 125 ((w54.setCell ⟨gb450, 0, none⟩ (.string t445)).setCell ⟨gb450, 1, none⟩ (.slice Ao62 t446.length co62)) w.heap.size (fun k_ => some k_ ≠ (.slice Ao25 t416.length co25 : Value).ownBlock ∧ some k_ ≠ (.slice Ao28 t420.length co28 : Value).ownBlock ∧ some k_ ≠ (.slice Ao37 t428.length co37 : Value).ownBlock ∧ some k_ ≠ (.slice Ao42 t434.length co42 : Value).ownBlock ∧ some k_ ≠ (.slice Ao51 t440.length co51 : Value).ownBlock ∧ k_ ≠ gb414 ∧ k_ ≠ gb423 ∧ k_ ≠ gb424 ∧ k_ ≠ gb437 ∧ k_ ≠ gb438 ∧ k_ ≠ gb444 ∧ k_ ≠ gb450) (.slice Ao62 t446.length co62) t446) := ⟨by (with_reducible repeat (first | apply Kd.V_alloc | apply Kd.V_drewN | apply Kd.V_drew)); exact Kd.V_mono (Kd.V_far (p := ⟨gb450, 1, none⟩) (Kd.V_far (p := ⟨gb450, 0, none⟩) (Kd.V_mono HO448.out (fun k_ hk => (⟨hk, hk.2⟩ : _ ∧ k_ ≠ gb450))) (fun _ hk => hk.2) (.string t445)) (fun _ hk => hk.2) (.slice Ao62 t446.length co62)) (fun _ hk => ⟨hk.1.1.1, ⟨hk.1.1.2.1, ⟨hk.1.1.2.2.1, ⟨hk.1.1.2.2.2.1, ⟨hk.1.1.2.2.2.2.1, ⟨hk.1.1.2.2.2.2.2.1, ⟨hk.1.1.2.2.2.2.2.2.1, ⟨hk.1.1.2.2.2.2.2.2.2.1, ⟨hk.1.1.2.2.2.2.2.2.2.2.1, ⟨hk.1.1.2.2.2.2.2.2.2.2.2.1, ⟨hk.1.1.2.2.2.2.2.2.2.2.2.2, hk.1.2⟩⟩⟩⟩⟩⟩⟩⟩⟩⟩⟩)⟩
    have n6_ : Aside0 (((w54.setCell ⟨gb450, 0, none⟩ (.string t445)).setCell ⟨gb450, 1, none⟩ (.slice Ao62 t446.length co62)).heap[gb414]? = some (.cells #[.string a0_0, .slice A0_1 l0_1.length c0_1] 24 (0, 0))) := ⟨by (with_reducible repeat (first | refine blk_drewN ?_ _ | refine blk_drew ?_ | refine blk_alloc ?_ _)); refine blk_far ?_ NB414_450.out _; (with_reducible repeat (first | refine blk_drewN ?_ _ | refine blk_drew ?_ | refine blk_alloc ?_ _)); refine blk_far ?_ NB414_450.out _; (with_reducible repeat (first | refine blk_drewN ?_ _ | refine blk_drew ?_ | refine blk_alloc ?_ _)); exact BK414.out⟩
    have n7_ : Aside0 (((w54.setCell ⟨gb450, 0, none⟩ (.string t445)).setCell ⟨gb450, 1, none⟩ (.slice Ao62 t446.length co62)).heap[gb423]? = some (.cells #[.string t415, .slice Ao25 t416.length co25] 27 (0, 0))) := ⟨by (with_reducible repeat (first | refine blk_drewN ?_ _ | refine blk_drew ?_ | refine blk_alloc ?_ _)); refine blk_far ?_ NB423_450.out _; (with_reducible repeat (first | refine blk_drewN ?_ _ | refine blk_drew ?_ | refine blk_alloc ?_ _)); refine blk_far ?_ NB423_450.out _; (with_reducible repeat (first | refine blk_drewN ?_ _ | refine blk_drew ?_ | refine blk_alloc ?_ _)); exact BK423.out⟩
    have n8_ : Aside0 (((w54.setCell ⟨gb450, 0, none⟩ (.string t445)).setCell ⟨gb450, 1, none⟩ (.slice Ao62 t446.length co62)).heap[gb424]? = some (.cells #[.string t419, .slice Ao28 t420.length co28] 30 (0, 0))) := ⟨by (with_reducible repeat (first | refine blk_drewN ?_ _ | refine blk_drew ?_ | refine blk_alloc ?_ _)); refine blk_far ?_ NB424_450.out _; (with_reducible repeat (first | refine blk_drewN ?_ _ | refine blk_drew ?_ | refine blk_alloc ?_ _)); refine blk_far ?_ NB424_450.out _; (with_reducible repeat (first | refine blk_drewN ?_ _ | refine blk_drew ?_ | refine blk_alloc ?_ _)); exact BK424.out⟩
    have n9_ : Aside0 (((w54.setCell ⟨gb450, 0, none⟩ (.string t445)).setCell ⟨gb450, 1, none⟩ (.slice Ao62 t446.length co62)).heap[gb437]? = some (.cells #[.int .i64 t425, .int .i64 t426, .string t427, .slice Ao37 t428.length co37] 54 (0, 0))) := ⟨by (with_reducible repeat (first | refine blk_drewN ?_ _ | refine blk_drew ?_ | refine blk_alloc ?_ _)); refine blk_far ?_ NB437_450.out _; (with_reducible repeat (first | refine blk_drewN ?_ _ | refine blk_drew ?_ | refine blk_alloc ?_ _)); refine blk_far ?_ NB437_450.out _; (with_reducible repeat (first | refine blk_drewN ?_ _ | refine blk_drew ?_ | refine blk_alloc ?_ _)); exact BK437.out⟩
    have n10_ : Aside0 (((w54.setCell ⟨gb450, 0, none⟩ (.string t445)).setCell ⟨gb450, 1, none⟩ (.slice Ao62 t446.length co62)).heap[gb438]? = some (.cells #[.int .i64 t431, .int .i64 t432, .string t433, .slice Ao42 t434.length co42] 57 (0, 0))) := ⟨by (with_reducible repeat (first | refine blk_drewN ?_ _ | refine blk_drew ?_ | refine blk_alloc ?_ _)); refine blk_far ?_ NB438_450.out _; (with_reducible repeat (first | refine blk_drewN ?_ _ | refine blk_drew ?_ | refine blk_alloc ?_ _)); refine blk_far ?_ NB438_450.out _; (with_reducible repeat (first | refine blk_drewN ?_ _ | refine blk_drew ?_ | refine blk_alloc ?_ _)); exact BK438.out⟩
    have n11_ : Aside0 (((w54.setCell ⟨gb450, 0, none⟩ (.string t445)).setCell ⟨gb450, 1, none⟩ (.slice Ao62 t446.length co62)).heap[gb444]? = some (.cells #[.string t439, .slice Ao51 t440.length co51] 27 (0, 0))) := ⟨by (with_reducible repeat (first | refine blk_drewN ?_ _ | refine blk_drew ?_ | refine blk_alloc ?_ _)); refine blk_far ?_ NB444_450.out _; (with_reducible repeat (first | refine blk_drewN ?_ _ | refine blk_drew ?_ | refine blk_alloc ?_ _)); refine blk_far ?_ NB444_450.out _; (with_reducible repeat (first | refine blk_drewN ?_ _ | refine blk_drew ?_ | refine blk_alloc ?_ _)); exact BK444.out⟩
    have n12_ : Aside0 (((w54.setCell ⟨gb450, 0, none⟩ (.string t445)).setCell ⟨gb450, 1, none⟩ (.slice Ao62 t446.length co62)).heap[gb450]? = some (.cells #[.string t445, .slice Ao62 t446.length co62] 30 (0, 0))) := ⟨by (with_reducible repeat (first | refine blk_drewN ?_ _ | refine blk_drew ?_ | refine blk_alloc ?_ _)); refine blk_put (cs := #[.string t445, .slice none 0 0]) ?_ 1 _ rfl; (with_reducible repeat (first | refine blk_drewN ?_ _ | refine blk_drew ?_ | refine blk_alloc ?_ _)); refine blk_put (cs := #[.string (⟨#[]⟩ : ByteArray), .slice none 0 0]) ?_ 0 _ rfl; (with_reducible repeat (first | refine blk_drewN ?_ _ | refine blk_drew ?_ | refine blk_alloc ?_ _)); exact BK450.out⟩
    have n13_ : Aside0 (Below w.heap.size w ((w54.setCell ⟨gb450, 0, none⟩ (.string t445)).setCell ⟨gb450, 1, none⟩ (.slice Ao62 t446.length co62))) := ⟨bb⟩
    (try clear HO418)
    (try clear HO422)
    (try clear HO430)
    (try clear HO436)
    (try clear HO442)
    (try clear HO448)
    (try clear BK414)
    (try clear BK423)
    (try clear BK424)
    (try clear BK437)
    (try clear BK438)
    (try clear BK444)
    (try clear BK450)
    (try clear HB)
    generalize ((w54.setCell ⟨gb450, 0, none⟩ (.string t445)).setCell ⟨gb450, 1, none⟩ (.slice Ao62 t446.length co62)) = w63 at n0_ n1_ n2_ n3_ n4_ n5_ n6_ n7_ n8_ n9_ n10_ n11_ n12_ n13_ ⊢
    have HO418 := n0_
    have HO422 := n1_
    have HO430 := n2_
    have HO436 := n3_
    have HO442 := n4_
    have HO448 := n5_
    have BK414 := n6_
    have BK423 := n7_
    have BK424 := n8_
    have BK437 := n9_
    have BK438 := n10_
    have BK444 := n11_
    have BK450 := n12_
    have HB := n13_
    clear n0_ n1_ n2_ n3_ n4_ n5_ n6_ n7_ n8_ n9_ n10_ n11_ n12_ n13_
    have n0_ := Aside0.mk (Kd.N_drew HO418.out)
    have n1_ := Aside0.mk (Kd.N_drew HO422.out)
    have n2_ := Aside0.mk (Kd.N_drew HO430.out)
    have n3_ := Aside0.mk (Kd.N_drew HO436.out)
    have n4_ := Aside0.mk (Kd.N_drew HO442.out)
    have n5_ := Aside0.mk (Kd.V_drew HO448.out)
    have n6_ := Aside0.mk (blk_drew BK414.out)
    have n7_ := Aside0.mk (blk_drew BK423.out)
    have n8_ := Aside0.mk (blk_drew BK424.out)
    have n9_ := Aside0.mk (blk_drew BK437.out)
    have n10_ := Aside0.mk (blk_drew BK438.out)
    have n11_ := Aside0.mk (blk_drew BK444.out)
    have n12_ := Aside0.mk (blk_drew BK450.out)
    have n13_ := Aside0.mk (below_drew1 HB.out)
    clear HO418
    clear HO422
    clear HO430
    clear HO436
    clear HO442
    clear HO448
    clear BK414
    clear BK423
    clear BK424
    clear BK437
    clear BK438
    clear BK444
    clear BK450
    clear HB
    have HO418 := n0_
    have HO422 := n1_
    have HO430 := n2_
    have HO436 := n3_
    have HO442 := n4_
    have HO448 := n5_
    have BK414 := n6_
    have BK423 := n7_
    have BK424 := n8_
    have BK437 := n9_
    have BK438 := n10_
    have BK444 := n11_
    have BK450 := n12_
    have HB := n13_
    clear n0_ n1_ n2_ n3_ n4_ n5_ n6_ n7_ n8_ n9_ n10_ n11_ n12_ n13_
    refine start_ (n := 21) (S := fun w' => w'.cell? ⟨gb423, 0, none⟩ = some (.string t415) ∧ w'.cell? ⟨gb423, 1, none⟩ = some (.slice Ao25 t416.length co25) ∧ w'.cell? ⟨gb424, 0, none⟩ = some (.string t419) ∧ w'.cell? ⟨gb424, 1, none⟩ = some (.slice Ao28 t420.length co28) ∧ w'.cell? ⟨gb444, 0, none⟩ = some (.string t439) ∧ w'.cell? ⟨gb444, 1, none⟩ = some (.slice Ao51 t440.length co51) ∧ w'.cell? ⟨gb450, 0, none⟩ = some (.string t445) ∧ w'.cell? ⟨gb450, 1, none⟩ = some (.slice Ao62 t446.length co62)) (ds := []) #[false, false, false, false, false, false, false, false, false, false, false, false, false, false, false, false, false, false, false, false, false] (by kernel_rfl) rfl rfl ⟨(blk_cell BK423.out 0).trans rfl, (blk_cell BK423.out 1).trans rfl, (blk_cell BK424.out 0).trans rfl, (blk_cell BK424.out 1).trans rfl, (blk_cell BK444.out 0).trans rfl, (blk_cell BK444.out 1).trans rfl, (blk_cell BK450.out 0).trans rfl, (blk_cell BK450.out 1).trans rfl⟩ (fun hHeld => ?_); refine with_tabW precinctlaw12_GraphValues.tab5 precinctlaw12_GraphValues.bits5 (fun HT_ HW_ => ?_)
    generalize w63.drew = w64 at HO418 HO422 HO430 HO436 HO442 HO448 BK414 BK423 BK424 BK437 BK438 BK444 BK450 HB hHeld ⊢
    refine one_ (i := 0) (N := some 33) #[true, false, false, false, false, false, false, false, false, false, false, false, false, false, false, false, false, false, false, false, false] rfl rfl (one_of HT_.out (by kernel_rfl)) (by decide) (fun K hK => ?_)
    refine goes_ Try.func17 (by kernel_rfl) rfl #[] (by rfl) rfl rfl ag ?_
    with_reducible refine (precinctlaw12_wakes.calls  true _ A7.out).mono ?_
    rintro e w65 ⟨rfl, hb⟩
    refine ⟨_, rfl, ?_⟩
    have n0_ := Aside0.mk (Kd.N_below (kN HO418.out) hb)
    have n1_ := Aside0.mk (Kd.N_below (kN HO422.out) hb)
    have n2_ := Aside0.mk (Kd.N_below (kN HO430.out) hb)
    have n3_ := Aside0.mk (Kd.N_below (kN HO436.out) hb)
    have n4_ := Aside0.mk (Kd.N_below (kN HO442.out) hb)
    have n5_ := Aside0.mk (Kd.V_below (by (with_reducible repeat (first | apply Kd.V_alloc | apply Kd.V_drewN | apply Kd.V_drew)); exact HO448.out) hb)
    have n6_ := Aside0.mk (blk_below (rb BK414.out) hb)
    have n7_ := Aside0.mk (blk_below (rb BK423.out) hb)
    have n8_ := Aside0.mk (blk_below (rb BK424.out) hb)
    have n9_ := Aside0.mk (blk_below (rb BK437.out) hb)
    have n10_ := Aside0.mk (blk_below (rb BK438.out) hb)
    have n11_ := Aside0.mk (blk_below (rb BK444.out) hb)
    have n12_ := Aside0.mk (blk_below (rb BK450.out) hb)
    have n13_ := Aside0.mk (below_step bb hb)
    clear HO418
    clear HO422
    clear HO430
    clear HO436
    clear HO442
    clear HO448
    clear BK414
    clear BK423
    clear BK424
    clear BK437
    clear BK438
    clear BK444
    clear BK450
    clear HB
    have HO418 := n0_
    have HO422 := n1_
    have HO430 := n2_
    have HO436 := n3_
    have HO442 := n4_
    have HO448 := n5_
    have BK414 := n6_
    have BK423 := n7_
    have BK424 := n8_
    have BK437 := n9_
    have BK438 := n10_
    have BK444 := n11_
    have BK450 := n12_
    have HB := n13_
    clear n0_ n1_ n2_ n3_ n4_ n5_ n6_ n7_ n8_ n9_ n10_ n11_ n12_ n13_
    (try clear hb)
    (try clear hb2)
    (try clear hk)
    (try clear hi)
    refine hK.out _ _ ⟨(blk_cell BK423.out 0).trans rfl, (blk_cell BK423.out 1).trans rfl, (blk_cell BK424.out 0).trans rfl, (blk_cell BK424.out 1).trans rfl, (blk_cell BK444.out 0).trans rfl, (blk_cell BK444.out 1).trans rfl, (blk_cell BK450.out 0).trans rfl, (blk_cell BK450.out 1).trans rfl⟩ (fun hHeld => ?_)
    clear hK K
    refine norm_ (a' := ?_) ?_ ?_
    rotate_left
    ·show Act.put _ (some 33) _ = _
     simp only [Act.put, List.setIfInBounds_toArray, List.set_cons_zero, List.set_cons_succ, i64_w, i32_w]
     rfl
    refine pure_ (i := 1) (N := some 34) (v := ?_) (a' := ?_) #[true, true, false, false, false, false, false, false, false, false, false, false, false, false, false, false, false, false, false, false, false] rfl rfl (any_of HT_.out (by kernel_rfl)) (fun _ _ _ h => h) (Or.inl ⟨by rfl, ?_⟩) ?_ ?_
    rotate_left
    ·intro w'
     go_simp
     with_reducible rfl
    rotate_left
    ·simp only [Act.put, List.setIfInBounds_toArray, List.set_cons_zero, List.set_cons_succ, i64_w, i32_w]
     rfl
    refine take_ (i := 2) (N := some 35) (v := ?_) (a' := ?_) #[true, true, true, false, false, false, false, false, false, false, false, false, false, false, false, false, false, false, false, false, false] rfl rfl (take_ofW HT_.out HW_.out (by kernel_rfl)) (fun _ _ _ h => h) (Or.inl ⟨by rfl, ?_⟩) hHeld ?_ ?_
    rotate_left
    ·rintro w' ⟨s0, s1, s2, s3, s4, s5, s6, s7⟩
     go_simp
     with_reducible rfl
    rotate_left
    ·simp only [Act.put, List.setIfInBounds_toArray, List.set_cons_zero, List.set_cons_succ, i64_w, i32_w]
     rfl
    refine take_ (i := 4) (N := some 37) (v := ?_) (a' := ?_) #[true, true, true, false, true, false, false, false, false, false, false, false, false, false, false, false, false, false, false, false, false] rfl rfl (take_ofW HT_.out HW_.out (by kernel_rfl)) (fun _ _ _ h => h) (Or.inl ⟨by rfl, ?_⟩) hHeld ?_ ?_
    rotate_left
    ·rintro w' ⟨s0, s1, s2, s3, s4, s5, s6, s7⟩
     go_simp
     with_reducible rfl
    rotate_left
    ·simp only [Act.put, List.setIfInBounds_toArray, List.set_cons_zero, List.set_cons_succ, i64_w, i32_w]
     rfl
    refine one_ (i := 3) (N := some 36) #[true, true, true, true, true, false, false, false, false, false, false, false, false, false, false, false, false, false, false, false, false] rfl rfl (one_of HT_.out (by kernel_rfl)) (by decide) (fun K hK => ?_)
    refine goes_ Try.func25 (by kernel_rfl) rfl #[.agg #[.string t415, .slice Ao25 t416.length co25]] (by rfl) rfl rfl ag ?_
    with_reducible refine (graph_Value.calls k t415 _ _ t416 t452 t453 t454 t455 _ ?side1 ?side2 A9.out).mono ?_
    (case side1 => repeat (first | exact (Kd.N_reads' HO418.out).2.2 | (with_reducible refine Kd.C_alloc ?_ _) | (with_reducible refine Kd.C_drewN ?_ _) | (with_reducible refine Kd.C_drew ?_)))
    (case side2 => exact (Kd.N_reads' HO418.out).2.1)
    rintro e w66 ⟨v456, rfl, ho0, hb⟩
    refine ⟨_, rfl, ?_⟩
    have n0_ := Aside0.mk (Kd.N_elder' (kN HO418.out) (by first | exact Kd.N_base ho0 | exact Kd.N_base (Kd.R_N ho0) | exact Kd.N_base (Kd.S_N ho0)) hb)
    have n1_ := Aside0.mk (Kd.N_elder' (kN HO422.out) (by first | exact Kd.N_base ho0 | exact Kd.N_base (Kd.R_N ho0) | exact Kd.N_base (Kd.S_N ho0)) hb)
    have n2_ := Aside0.mk (Kd.N_elder' (kN HO430.out) (by first | exact Kd.N_base ho0 | exact Kd.N_base (Kd.R_N ho0) | exact Kd.N_base (Kd.S_N ho0)) hb)
    have n3_ := Aside0.mk (Kd.N_elder' (kN HO436.out) (by first | exact Kd.N_base ho0 | exact Kd.N_base (Kd.R_N ho0) | exact Kd.N_base (Kd.S_N ho0)) hb)
    have n4_ := Aside0.mk (Kd.N_elder' (kN HO442.out) (by first | exact Kd.N_base ho0 | exact Kd.N_base (Kd.R_N ho0) | exact Kd.N_base (Kd.S_N ho0)) hb)
    have n5_ := Aside0.mk (Kd.V_elder' (by (with_reducible repeat (first | apply Kd.V_alloc | apply Kd.V_drewN | apply Kd.V_drew)); exact HO448.out) (by first | exact Kd.N_base ho0 | exact Kd.N_base (Kd.R_N ho0) | exact Kd.N_base (Kd.S_N ho0)) hb)
    have n6_ := Aside0.mk (Kd.N_lower (Kd.N_mono (ok' := fun k_ => some k_ ≠ (.slice Ao25 t416.length co25 : Value).ownBlock ∧ some k_ ≠ (.slice Ao28 t420.length co28 : Value).ownBlock ∧ some k_ ≠ (.slice Ao37 t428.length co37 : Value).ownBlock ∧ some k_ ≠ (.slice Ao42 t434.length co42 : Value).ownBlock ∧ some k_ ≠ (.slice Ao51 t440.length co51 : Value).ownBlock ∧ k_ ≠ gb414 ∧ k_ ≠ gb423 ∧ k_ ≠ gb424 ∧ k_ ≠ gb437 ∧ k_ ≠ gb438 ∧ k_ ≠ gb444 ∧ k_ ≠ gb450) ho0 (fun k_ hk_ => ⟨(Kd.fresh' (Kd.N_lt (kN HO418.out)) k_ hk_), (Kd.fresh' (Kd.N_lt (kN HO422.out)) k_ hk_), (Kd.fresh' (Kd.N_lt (kN HO430.out)) k_ hk_), (Kd.fresh' (Kd.N_lt (kN HO436.out)) k_ hk_), (Kd.fresh' (Kd.N_lt (kN HO442.out)) k_ hk_), (Kd.freshB (rb BK414.out) k_ hk_), (Kd.freshB (rb BK423.out) k_ hk_), (Kd.freshB (rb BK424.out) k_ hk_), (Kd.freshB (rb BK437.out) k_ hk_), (Kd.freshB (rb BK438.out) k_ hk_), (Kd.freshB (rb BK444.out) k_ hk_), (Kd.freshB (rb BK450.out) k_ hk_)⟩)) (below_size bb))
    have n7_ := Aside0.mk (blk_below (rb BK414.out) hb)
    have n8_ := Aside0.mk (blk_below (rb BK423.out) hb)
    have n9_ := Aside0.mk (blk_below (rb BK424.out) hb)
    have n10_ := Aside0.mk (blk_below (rb BK437.out) hb)
    have n11_ := Aside0.mk (blk_below (rb BK438.out) hb)
    have n12_ := Aside0.mk (blk_below (rb BK444.out) hb)
    have n13_ := Aside0.mk (blk_below (rb BK450.out) hb)
    have n14_ := Aside0.mk (below_step bb hb)
    clear HO418
    clear HO422
    clear HO430
    clear HO436
    clear HO442
    clear HO448
    clear BK414
    clear BK423
    clear BK424
    clear BK437
    clear BK438
    clear BK444
    clear BK450
    clear HB
    have HO418 := n0_
    have HO422 := n1_
    have HO430 := n2_
    have HO436 := n3_
    have HO442 := n4_
    have HO448 := n5_
    have HO457 := n6_
    have BK414 := n7_
    have BK423 := n8_
    have BK424 := n9_
    have BK437 := n10_
    have BK438 := n11_
    have BK444 := n12_
    have BK450 := n13_
    have HB := n14_
    clear n0_ n1_ n2_ n3_ n4_ n5_ n6_ n7_ n8_ n9_ n10_ n11_ n12_ n13_ n14_
    (try clear hb)
    (try clear hb2)
    (try clear hk)
    (try clear hi)
    (try clear ho0)
    refine hK.out _ _ ⟨(blk_cell BK423.out 0).trans rfl, (blk_cell BK423.out 1).trans rfl, (blk_cell BK424.out 0).trans rfl, (blk_cell BK424.out 1).trans rfl, (blk_cell BK444.out 0).trans rfl, (blk_cell BK444.out 1).trans rfl, (blk_cell BK450.out 0).trans rfl, (blk_cell BK450.out 1).trans rfl⟩ (fun hHeld => ?_)
    clear hK K
    refine norm_ (a' := ?_) ?_ ?_
    rotate_left
    ·show Act.put _ (some 36) _ = _
     simp only [Act.put, List.setIfInBounds_toArray, List.set_cons_zero, List.set_cons_succ, i64_w, i32_w]
     rfl
    refine one_ (i := 5) (N := some 38) #[true, true, true, true, true, true, false, false, false, false, false, false, false, false, false, false, false, false, false, false, false] rfl rfl (one_of HT_.out (by kernel_rfl)) (by decide) (fun K hK => ?_)
    refine goes_ Try.func26 (by kernel_rfl) rfl #[.agg #[.string t419, .slice Ao28 t420.length co28]] (by rfl) rfl rfl ag ?_
    with_reducible refine (precinctref12_Value.calls t419 _ _ t420 t458 t459 t460 t461 _ ?side1 ?side2 A10.out).mono ?_
    (case side1 => repeat (first | exact (Kd.N_reads' HO422.out).2.2 | (with_reducible refine Kd.C_alloc ?_ _) | (with_reducible refine Kd.C_drewN ?_ _) | (with_reducible refine Kd.C_drew ?_)))
    (case side2 => exact (Kd.N_reads' HO422.out).2.1)
    rintro e w67 ⟨v462, rfl, ho0, hb⟩
    refine ⟨_, rfl, ?_⟩
    have n0_ := Aside0.mk (Kd.N_below (kN HO418.out) hb)
    have n1_ := Aside0.mk (Kd.N_below (kN HO422.out) hb)
    have n2_ := Aside0.mk (Kd.N_below (kN HO430.out) hb)
    have n3_ := Aside0.mk (Kd.N_below (kN HO436.out) hb)
    have n4_ := Aside0.mk (Kd.N_below (kN HO442.out) hb)
    have n5_ := Aside0.mk (Kd.V_below (by (with_reducible repeat (first | apply Kd.V_alloc | apply Kd.V_drewN | apply Kd.V_drew)); exact HO448.out) hb)
    have n6_ := Aside0.mk (Kd.N_below (kN HO457.out) hb)
    have n7_ := Aside0.mk (Kd.V_lower (Kd.V_mono (ok' := fun k_ => some k_ ≠ (.slice Ao25 t416.length co25 : Value).ownBlock ∧ some k_ ≠ (.slice Ao28 t420.length co28 : Value).ownBlock ∧ some k_ ≠ (.slice Ao37 t428.length co37 : Value).ownBlock ∧ some k_ ≠ (.slice Ao42 t434.length co42 : Value).ownBlock ∧ some k_ ≠ (.slice Ao51 t440.length co51 : Value).ownBlock ∧ some k_ ≠ (v456 : Value).ownBlock ∧ k_ ≠ gb414 ∧ k_ ≠ gb423 ∧ k_ ≠ gb424 ∧ k_ ≠ gb437 ∧ k_ ≠ gb438 ∧ k_ ≠ gb444 ∧ k_ ≠ gb450) ho0 (fun k_ hk_ => ⟨(Kd.fresh' (Kd.N_lt (kN HO418.out)) k_ hk_), (Kd.fresh' (Kd.N_lt (kN HO422.out)) k_ hk_), (Kd.fresh' (Kd.N_lt (kN HO430.out)) k_ hk_), (Kd.fresh' (Kd.N_lt (kN HO436.out)) k_ hk_), (Kd.fresh' (Kd.N_lt (kN HO442.out)) k_ hk_), (Kd.fresh' (Kd.N_lt (kN HO457.out)) k_ hk_), (Kd.freshB (rb BK414.out) k_ hk_), (Kd.freshB (rb BK423.out) k_ hk_), (Kd.freshB (rb BK424.out) k_ hk_), (Kd.freshB (rb BK437.out) k_ hk_), (Kd.freshB (rb BK438.out) k_ hk_), (Kd.freshB (rb BK444.out) k_ hk_), (Kd.freshB (rb BK450.out) k_ hk_)⟩)) (below_size bb))
    have n8_ := Aside0.mk (blk_below (rb BK414.out) hb)
    have n9_ := Aside0.mk (blk_below (rb BK423.out) hb)
    have n10_ := Aside0.mk (blk_below (rb BK424.out) hb)
    have n11_ := Aside0.mk (blk_below (rb BK437.out) hb)
    have n12_ := Aside0.mk (blk_below (rb BK438.out) hb)
    have n13_ := Aside0.mk (blk_below (rb BK444.out) hb)
    have n14_ := Aside0.mk (blk_below (rb BK450.out) hb)
    have n15_ := Aside0.mk (below_step bb hb)
    clear HO418
    clear HO422
    clear HO430
    clear HO436
    clear HO442
    clear HO448
    clear HO457
    clear BK414
    clear BK423
    clear BK424
    clear BK437
    clear BK438
    clear BK444
    clear BK450
    clear HB
    have HO418 := n0_
    have HO422 := n1_
    have HO430 := n2_
    have HO436 := n3_
    have HO442 := n4_
    have HO448 := n5_
    have HO457 := n6_
    have HO463 := n7_
    have BK414 := n8_
    have BK423 := n9_
    have BK424 := n10_
    have BK437 := n11_
    have BK438 := n12_
    have BK444 := n13_
    have BK450 := n14_
    have HB := n15_
    clear n0_ n1_ n2_ n3_ n4_ n5_ n6_ n7_ n8_ n9_ n10_ n11_ n12_ n13_ n14_ n15_
    (try clear hb)
    (try clear hb2)
    (try clear hk)
    (try clear hi)
    (try clear ho0)
    obtain ⟨Ao68, co68, eo68⟩ := Kd.N_slice HO457.out
    (first | subst eo68 | (injection eo68 with f1_ f2_ f3_; have f4_ := f1_.symm; have f5_ := f3_.symm; clear f1_ f2_ f3_; subst f4_; subst f5_))
    obtain ⟨Ao69, co69, eo69⟩ := Kd.V_slice HO463.out
    (first | subst eo69 | (injection eo69 with f1_ f2_ f3_; have f4_ := f1_.symm; have f5_ := f3_.symm; clear f1_ f2_ f3_; subst f4_; subst f5_))
    refine hK.out _ _ ⟨(blk_cell BK423.out 0).trans rfl, (blk_cell BK423.out 1).trans rfl, (blk_cell BK424.out 0).trans rfl, (blk_cell BK424.out 1).trans rfl, (blk_cell BK444.out 0).trans rfl, (blk_cell BK444.out 1).trans rfl, (blk_cell BK450.out 0).trans rfl, (blk_cell BK450.out 1).trans rfl⟩ (fun hHeld => ?_)
    clear hK K
    refine norm_ (a' := ?_) ?_ ?_
    rotate_left
    ·show Act.put _ (some 38) _ = _
     simp only [Act.put, List.setIfInBounds_toArray, List.set_cons_zero, List.set_cons_succ, i64_w, i32_w]
     rfl
    refine one_ (i := 6) (N := some 39) #[true, true, true, true, true, true, true, false, false, false, false, false, false, false, false, false, false, false, false, false, false] rfl rfl (one_of HT_.out (by kernel_rfl)) (by decide) (fun K hK => ?_)
    refine goes_ Try.func24 (by kernel_rfl) rfl #[.agg #[.int .i64 t452, .int .i64 t453, .string t454, .slice Ao68 t455.length co68], .agg #[.int .i64 t458, .int .i64 t459, .string t460, .slice Ao69 t461.length co69]] (by rfl) rfl rfl ag ?_
    with_reducible refine (precinctlaw12_same.calls k t452 t453 t454 _ _ t455 t458 t459 t460 _ _ t461 true _ ?side1 ?side2 ?side3 ?side4 A11.out).mono ?_
    (case side1 => repeat (first | exact (Kd.N_reads' HO457.out).2.2 | (with_reducible refine Kd.C_alloc ?_ _) | (with_reducible refine Kd.C_drewN ?_ _) | (with_reducible refine Kd.C_drew ?_)))
    (case side2 => exact (Kd.N_reads' HO457.out).2.1)
    (case side3 => repeat (first | exact (Kd.V_reads' HO463.out).2.2 | (with_reducible refine Kd.C_alloc ?_ _) | (with_reducible refine Kd.C_drewN ?_ _) | (with_reducible refine Kd.C_drew ?_)))
    (case side4 => exact (Kd.V_reads' HO463.out).2.1)
    rintro e w70 ⟨rfl, hb⟩
    refine ⟨_, rfl, ?_⟩
    have n0_ := Aside0.mk (Kd.N_below (kN HO418.out) hb)
    have n1_ := Aside0.mk (Kd.N_below (kN HO422.out) hb)
    have n2_ := Aside0.mk (Kd.N_below (kN HO430.out) hb)
    have n3_ := Aside0.mk (Kd.N_below (kN HO436.out) hb)
    have n4_ := Aside0.mk (Kd.N_below (kN HO442.out) hb)
    have n5_ := Aside0.mk (Kd.V_below (by (with_reducible repeat (first | apply Kd.V_alloc | apply Kd.V_drewN | apply Kd.V_drew)); exact HO448.out) hb)
    have n6_ := Aside0.mk (Kd.N_below (kN HO457.out) hb)
    have n7_ := Aside0.mk (Kd.V_below (by (with_reducible repeat (first | apply Kd.V_alloc | apply Kd.V_drewN | apply Kd.V_drew)); exact HO463.out) hb)
    have n8_ := Aside0.mk (blk_below (rb BK414.out) hb)
    have n9_ := Aside0.mk (blk_below (rb BK423.out) hb)
    have n10_ := Aside0.mk (blk_below (rb BK424.out) hb)
    have n11_ := Aside0.mk (blk_below (rb BK437.out) hb)
    have n12_ := Aside0.mk (blk_below (rb BK438.out) hb)
    have n13_ := Aside0.mk (blk_below (rb BK444.out) hb)
    have n14_ := Aside0.mk (blk_below (rb BK450.out) hb)
    have n15_ := Aside0.mk (below_step bb hb)
    clear HO418
    clear HO422
    clear HO430
    clear HO436
    clear HO442
    clear HO448
    clear HO457
    clear HO463
    clear BK414
    clear BK423
    clear BK424
    clear BK437
    clear BK438
    clear BK444
    clear BK450
    clear HB
    have HO418 := n0_
    have HO422 := n1_
    have HO430 := n2_
    have HO436 := n3_
    have HO442 := n4_
    have HO448 := n5_
    have HO457 := n6_
    have HO463 := n7_
    have BK414 := n8_
    have BK423 := n9_
    have BK424 := n10_
    have BK437 := n11_
    have BK438 := n12_
    have BK444 := n13_
    have BK450 := n14_
    have HB := n15_
    clear n0_ n1_ n2_ n3_ n4_ n5_ n6_ n7_ n8_ n9_ n10_ n11_ n12_ n13_ n14_ n15_
    (try clear hb)
    (try clear hb2)
    (try clear hk)
    (try clear hi)
    refine hK.out _ _ ⟨(blk_cell BK423.out 0).trans rfl, (blk_cell BK423.out 1).trans rfl, (blk_cell BK424.out 0).trans rfl, (blk_cell BK424.out 1).trans rfl, (blk_cell BK444.out 0).trans rfl, (blk_cell BK444.out 1).trans rfl, (blk_cell BK450.out 0).trans rfl, (blk_cell BK450.out 1).trans rfl⟩ (fun hHeld => ?_)
    clear hK K
    refine norm_ (a' := ?_) ?_ ?_
    rotate_left
    ·show Act.put _ (some 39) _ = _
     simp only [Act.put, List.setIfInBounds_toArray, List.set_cons_zero, List.set_cons_succ, i64_w, i32_w]
     rfl
    refine pure_ (i := 7) (N := some 40) (v := ?_) (a' := ?_) #[true, true, true, true, true, true, true, true, false, false, false, false, false, false, false, false, false, false, false, false, false] rfl rfl (any_of HT_.out (by kernel_rfl)) (fun _ _ _ h => h) (Or.inl ⟨by rfl, ?_⟩) ?_ ?_
    rotate_left
    ·intro w'
     go_simp
     with_reducible rfl
    rotate_left
    ·simp only [Act.put, List.setIfInBounds_toArray, List.set_cons_zero, List.set_cons_succ, i64_w, i32_w]
     rfl
    refine pure_ (i := 8) (N := some 41) (v := ?_) (a' := ?_) #[true, true, true, true, true, true, true, true, true, false, false, false, false, false, false, false, false, false, false, false, false] rfl rfl (any_of HT_.out (by kernel_rfl)) (fun _ _ _ h => h) (Or.inl ⟨by rfl, ?_⟩) ?_ ?_
    rotate_left
    ·intro w'
     go_simp
     with_reducible rfl
    rotate_left
    ·simp only [Act.put, List.setIfInBounds_toArray, List.set_cons_zero, List.set_cons_succ, i64_w, i32_w]
     rfl
    refine pure_ (i := 9) (N := some 42) (v := ?_) (a' := ?_) #[true, true, true, true, true, true, true, true, true, true, false, false, false, false, false, false, false, false, false, false, false] rfl rfl (any_of HT_.out (by kernel_rfl)) (fun _ _ _ h => h) (Or.inl ⟨by rfl, ?_⟩) ?_ ?_
    rotate_left
    ·intro w'
     go_simp
     with_reducible rfl
    rotate_left
    ·simp only [Act.put, List.setIfInBounds_toArray, List.set_cons_zero, List.set_cons_succ, i64_w, i32_w]
     rfl
    refine pure_ (i := 10) (N := some 43) (v := ?_) (a' := ?_) #[true, true, true, true, true, true, true, true, true, true, true, false, false, false, false, false, false, false, false, false, false] rfl rfl (any_of HT_.out (by kernel_rfl)) (fun _ _ _ h => h) (Or.inl ⟨by rfl, ?_⟩) ?_ ?_
    rotate_left
    ·intro w'
     go_simp
     with_reducible rfl
    rotate_left
    ·simp only [Act.put, List.setIfInBounds_toArray, List.set_cons_zero, List.set_cons_succ, i64_w, i32_w]
     rfl
    refine pure_ (i := 11) (N := some 44) (v := ?_) (a' := ?_) #[true, true, true, true, true, true, true, true, true, true, true, true, false, false, false, false, false, false, false, false, false] rfl rfl (any_of HT_.out (by kernel_rfl)) (fun _ _ _ h => h) (Or.inl ⟨by rfl, ?_⟩) ?_ ?_
    rotate_left
    ·intro w'
     go_simp
     with_reducible rfl
    rotate_left
    ·simp only [Act.put, List.setIfInBounds_toArray, List.set_cons_zero, List.set_cons_succ, i64_w, i32_w]
     rfl
    refine pure_ (i := 12) (N := some 45) (v := ?_) (a' := ?_) #[true, true, true, true, true, true, true, true, true, true, true, true, true, false, false, false, false, false, false, false, false] rfl rfl (any_of HT_.out (by kernel_rfl)) (fun _ _ _ h => h) (Or.inl ⟨by rfl, ?_⟩) ?_ ?_
    rotate_left
    ·intro w'
     go_simp
     with_reducible rfl
    rotate_left
    ·simp only [Act.put, List.setIfInBounds_toArray, List.set_cons_zero, List.set_cons_succ, i64_w, i32_w]
     rfl
    refine pure_ (i := 13) (N := some 46) (v := ?_) (a' := ?_) #[true, true, true, true, true, true, true, true, true, true, true, true, true, true, false, false, false, false, false, false, false] rfl rfl (any_of HT_.out (by kernel_rfl)) (fun _ _ _ h => h) (Or.inl ⟨by rfl, ?_⟩) ?_ ?_
    rotate_left
    ·intro w'
     go_simp
     with_reducible rfl
    rotate_left
    ·simp only [Act.put, List.setIfInBounds_toArray, List.set_cons_zero, List.set_cons_succ, i64_w, i32_w]
     rfl
    refine take_ (i := 14) (N := some 47) (v := ?_) (a' := ?_) #[true, true, true, true, true, true, true, true, true, true, true, true, true, true, true, false, false, false, false, false, false] rfl rfl (take_ofW HT_.out HW_.out (by kernel_rfl)) (fun _ _ _ h => h) (Or.inl ⟨by rfl, ?_⟩) hHeld ?_ ?_
    rotate_left
    ·rintro w' ⟨s0, s1, s2, s3, s4, s5, s6, s7⟩
     go_simp
     with_reducible rfl
    rotate_left
    ·simp only [Act.put, List.setIfInBounds_toArray, List.set_cons_zero, List.set_cons_succ, i64_w, i32_w]
     rfl
    refine take_ (i := 16) (N := some 49) (v := ?_) (a' := ?_) #[true, true, true, true, true, true, true, true, true, true, true, true, true, true, true, false, true, false, false, false, false] rfl rfl (take_ofW HT_.out HW_.out (by kernel_rfl)) (fun _ _ _ h => h) (Or.inl ⟨by rfl, ?_⟩) hHeld ?_ ?_
    rotate_left
    ·rintro w' ⟨s0, s1, s2, s3, s4, s5, s6, s7⟩
     go_simp
     with_reducible rfl
    rotate_left
    ·simp only [Act.put, List.setIfInBounds_toArray, List.set_cons_zero, List.set_cons_succ, i64_w, i32_w]
     rfl
    refine one_ (i := 15) (N := some 48) #[true, true, true, true, true, true, true, true, true, true, true, true, true, true, true, true, true, false, false, false, false] rfl rfl (one_of HT_.out (by kernel_rfl)) (by decide) (fun K hK => ?_)
    refine goes_ Try.func25 (by kernel_rfl) rfl #[.agg #[.string t439, .slice Ao51 t440.length co51]] (by rfl) rfl rfl ag ?_
    with_reducible refine (graph_Value.calls k t439 _ _ t440 t465 t466 t467 t468 _ ?side1 ?side2 A14.out).mono ?_
    (case side1 => repeat (first | exact (Kd.N_reads' HO442.out).2.2 | (with_reducible refine Kd.C_alloc ?_ _) | (with_reducible refine Kd.C_drewN ?_ _) | (with_reducible refine Kd.C_drew ?_)))
    (case side2 => exact (Kd.N_reads' HO442.out).2.1)
    rintro e w71 ⟨v469, rfl, ho0, hb⟩
    refine ⟨_, rfl, ?_⟩
    have n0_ := Aside0.mk (Kd.N_elder' (kN HO418.out) (by first | exact Kd.N_base ho0 | exact Kd.N_base (Kd.R_N ho0) | exact Kd.N_base (Kd.S_N ho0)) hb)
    have n1_ := Aside0.mk (Kd.N_elder' (kN HO422.out) (by first | exact Kd.N_base ho0 | exact Kd.N_base (Kd.R_N ho0) | exact Kd.N_base (Kd.S_N ho0)) hb)
    have n2_ := Aside0.mk (Kd.N_elder' (kN HO430.out) (by first | exact Kd.N_base ho0 | exact Kd.N_base (Kd.R_N ho0) | exact Kd.N_base (Kd.S_N ho0)) hb)
    have n3_ := Aside0.mk (Kd.N_elder' (kN HO436.out) (by first | exact Kd.N_base ho0 | exact Kd.N_base (Kd.R_N ho0) | exact Kd.N_base (Kd.S_N ho0)) hb)
    have n4_ := Aside0.mk (Kd.N_elder' (kN HO442.out) (by first | exact Kd.N_base ho0 | exact Kd.N_base (Kd.R_N ho0) | exact Kd.N_base (Kd.S_N ho0)) hb)
    have n5_ := Aside0.mk (Kd.V_elder' (by (with_reducible repeat (first | apply Kd.V_alloc | apply Kd.V_drewN | apply Kd.V_drew)); exact HO448.out) (by first | exact Kd.N_base ho0 | exact Kd.N_base (Kd.R_N ho0) | exact Kd.N_base (Kd.S_N ho0)) hb)
    have n6_ := Aside0.mk (Kd.N_elder' (kN HO457.out) (by first | exact Kd.N_base ho0 | exact Kd.N_base (Kd.R_N ho0) | exact Kd.N_base (Kd.S_N ho0)) hb)
    have n7_ := Aside0.mk (Kd.V_elder' (by (with_reducible repeat (first | apply Kd.V_alloc | apply Kd.V_drewN | apply Kd.V_drew)); exact HO463.out) (by first | exact Kd.N_base ho0 | exact Kd.N_base (Kd.R_N ho0) | exact Kd.N_base (Kd.S_N ho0)) hb)
    have n8_ := Aside0.mk (Kd.N_lower (Kd.N_mono (ok' := fun k_ => some k_ ≠ (.slice Ao25 t416.length co25 : Value).ownBlock ∧ some k_ ≠ (.slice Ao28 t420.length co28 : Value).ownBlock ∧ some k_ ≠ (.slice Ao37 t428.length co37 : Value).ownBlock ∧ some k_ ≠ (.slice Ao42 t434.length co42 : Value).ownBlock ∧ some k_ ≠ (.slice Ao51 t440.length co51 : Value).ownBlock ∧ some k_ ≠ (.slice Ao68 t455.length co68 : Value).ownBlock ∧ k_ ≠ gb414 ∧ k_ ≠ gb423 ∧ k_ ≠ gb424 ∧ k_ ≠ gb437 ∧ k_ ≠ gb438 ∧ k_ ≠ gb444 ∧ k_ ≠ gb450) ho0 (fun k_ hk_ => ⟨(Kd.fresh' (Kd.N_lt (kN HO418.out)) k_ hk_), (Kd.fresh' (Kd.N_lt (kN HO422.out)) k_ hk_), (Kd.fresh' (Kd.N_lt (kN HO430.out)) k_ hk_), (Kd.fresh' (Kd.N_lt (kN HO436.out)) k_ hk_), (Kd.fresh' (Kd.N_lt (kN HO442.out)) k_ hk_), (Kd.fresh' (Kd.N_lt (kN HO457.out)) k_ hk_), (Kd.freshB (rb BK414.out) k_ hk_), (Kd.freshB (rb BK423.out) k_ hk_), (Kd.freshB (rb BK424.out) k_ hk_), (Kd.freshB (rb BK437.out) k_ hk_), (Kd.freshB (rb BK438.out) k_ hk_), (Kd.freshB (rb BK444.out) k_ hk_), (Kd.freshB (rb BK450.out) k_ hk_)⟩)) (below_size bb))
    have n9_ := Aside0.mk (blk_below (rb BK414.out) hb)
    have n10_ := Aside0.mk (blk_below (rb BK423.out) hb)
    have n11_ := Aside0.mk (blk_below (rb BK424.out) hb)
    have n12_ := Aside0.mk (blk_below (rb BK437.out) hb)
    have n13_ := Aside0.mk (blk_below (rb BK438.out) hb)
    have n14_ := Aside0.mk (blk_below (rb BK444.out) hb)
    have n15_ := Aside0.mk (blk_below (rb BK450.out) hb)
    have n16_ := Aside0.mk (below_step bb hb)
    clear HO418
    clear HO422
    clear HO430
    clear HO436
    clear HO442
    clear HO448
    clear HO457
    clear HO463
    clear BK414
    clear BK423
    clear BK424
    clear BK437
    clear BK438
    clear BK444
    clear BK450
    clear HB
    have HO418 := n0_
    have HO422 := n1_
    have HO430 := n2_
    have HO436 := n3_
    have HO442 := n4_
    have HO448 := n5_
    have HO457 := n6_
    have HO463 := n7_
    have HO470 := n8_
    have BK414 := n9_
    have BK423 := n10_
    have BK424 := n11_
    have BK437 := n12_
    have BK438 := n13_
    have BK444 := n14_
    have BK450 := n15_
    have HB := n16_
    clear n0_ n1_ n2_ n3_ n4_ n5_ n6_ n7_ n8_ n9_ n10_ n11_ n12_ n13_ n14_ n15_ n16_
    (try clear hb)
    (try clear hb2)
    (try clear hk)
    (try clear hi)
    (try clear ho0)
    refine hK.out _ _ ⟨(blk_cell BK423.out 0).trans rfl, (blk_cell BK423.out 1).trans rfl, (blk_cell BK424.out 0).trans rfl, (blk_cell BK424.out 1).trans rfl, (blk_cell BK444.out 0).trans rfl, (blk_cell BK444.out 1).trans rfl, (blk_cell BK450.out 0).trans rfl, (blk_cell BK450.out 1).trans rfl⟩ (fun hHeld => ?_)
    clear hK K
    refine norm_ (a' := ?_) ?_ ?_
    rotate_left
    ·show Act.put _ (some 48) _ = _
     simp only [Act.put, List.setIfInBounds_toArray, List.set_cons_zero, List.set_cons_succ, i64_w, i32_w]
     rfl
    refine one_ (i := 17) (N := some 50) #[true, true, true, true, true, true, true, true, true, true, true, true, true, true, true, true, true, true, false, false, false] rfl rfl (one_of HT_.out (by kernel_rfl)) (by decide) (fun K hK => ?_)
    refine goes_ Try.func26 (by kernel_rfl) rfl #[.agg #[.string t445, .slice Ao62 t446.length co62]] (by rfl) rfl rfl ag ?_
    with_reducible refine (precinctref12_Value.calls t445 _ _ t446 t471 t472 t473 t474 _ ?side1 ?side2 A15.out).mono ?_
    (case side1 => repeat (first | exact (Kd.V_reads' HO448.out).2.2 | (with_reducible refine Kd.C_alloc ?_ _) | (with_reducible refine Kd.C_drewN ?_ _) | (with_reducible refine Kd.C_drew ?_)))
    (case side2 => exact (Kd.V_reads' HO448.out).2.1)
    rintro e w72 ⟨v475, rfl, ho0, hb⟩
    refine ⟨_, rfl, ?_⟩
    have n0_ := Aside0.mk (Kd.N_below (kN HO418.out) hb)
    have n1_ := Aside0.mk (Kd.N_below (kN HO422.out) hb)
    have n2_ := Aside0.mk (Kd.N_below (kN HO430.out) hb)
    have n3_ := Aside0.mk (Kd.N_below (kN HO436.out) hb)
    have n4_ := Aside0.mk (Kd.N_below (kN HO442.out) hb)
    have n5_ := Aside0.mk (Kd.V_below (by (with_reducible repeat (first | apply Kd.V_alloc | apply Kd.V_drewN | apply Kd.V_drew)); exact HO448.out) hb)
    have n6_ := Aside0.mk (Kd.N_below (kN HO457.out) hb)
    have n7_ := Aside0.mk (Kd.V_below (by (with_reducible repeat (first | apply Kd.V_alloc | apply Kd.V_drewN | apply Kd.V_drew)); exact HO463.out) hb)
    have n8_ := Aside0.mk (Kd.N_below (kN HO470.out) hb)
    have n9_ := Aside0.mk (Kd.V_lower (Kd.V_mono (ok' := fun k_ => some k_ ≠ (.slice Ao25 t416.length co25 : Value).ownBlock ∧ some k_ ≠ (.slice Ao28 t420.length co28 : Value).ownBlock ∧ some k_ ≠ (.slice Ao37 t428.length co37 : Value).ownBlock ∧ some k_ ≠ (.slice Ao42 t434.length co42 : Value).ownBlock ∧ some k_ ≠ (.slice Ao51 t440.length co51 : Value).ownBlock ∧ some k_ ≠ (.slice Ao68 t455.length co68 : Value).ownBlock ∧ some k_ ≠ (v469 : Value).ownBlock ∧ k_ ≠ gb414 ∧ k_ ≠ gb423 ∧ k_ ≠ gb424 ∧ k_ ≠ gb437 ∧ k_ ≠ gb438 ∧ k_ ≠ gb444 ∧ k_ ≠ gb450) ho0 (fun k_ hk_ => ⟨(Kd.fresh' (Kd.N_lt (kN HO418.out)) k_ hk_), (Kd.fresh' (Kd.N_lt (kN HO422.out)) k_ hk_), (Kd.fresh' (Kd.N_lt (kN HO430.out)) k_ hk_), (Kd.fresh' (Kd.N_lt (kN HO436.out)) k_ hk_), (Kd.fresh' (Kd.N_lt (kN HO442.out)) k_ hk_), (Kd.fresh' (Kd.N_lt (kN HO457.out)) k_ hk_), (Kd.fresh' (Kd.N_lt (kN HO470.out)) k_ hk_), (Kd.freshB (rb BK414.out) k_ hk_), (Kd.freshB (rb BK423.out) k_ hk_), (Kd.freshB (rb BK424.out) k_ hk_), (Kd.freshB (rb BK437.out) k_ hk_), (Kd.freshB (rb BK438.out) k_ hk_), (Kd.freshB (rb BK444.out) k_ hk_), (Kd.freshB (rb BK450.out) k_ hk_)⟩)) (below_size bb))
    have n10_ := Aside0.mk (blk_below (rb BK414.out) hb)
    have n11_ := Aside0.mk (blk_below (rb BK423.out) hb)
    have n12_ := Aside0.mk (blk_below (rb BK424.out) hb)
    have n13_ := Aside0.mk (blk_below (rb BK437.out) hb)
    have n14_ := Aside0.mk (blk_below (rb BK438.out) hb)
    have n15_ := Aside0.mk (blk_below (rb BK444.out) hb)
    have n16_ := Aside0.mk (blk_below (rb BK450.out) hb)
    have n17_ := Aside0.mk (below_step bb hb)
    clear HO418
    clear HO422
    clear HO430
    clear HO436
    clear HO442
    clear HO448
    clear HO457
    clear HO463
    clear HO470
    clear BK414
    clear BK423
    clear BK424
    clear BK437
    clear BK438
    clear BK444
    clear BK450
    clear HB
    have HO418 := n0_
    have HO422 := n1_
    have HO430 := n2_
    have HO436 := n3_
    have HO442 := n4_
    have HO448 := n5_
    have HO457 := n6_
    have HO463 := n7_
    have HO470 := n8_
    have HO476 := n9_
    have BK414 := n10_
    have BK423 := n11_
    have BK424 := n12_
    have BK437 := n13_
    have BK438 := n14_
    have BK444 := n15_
    have BK450 := n16_
    have HB := n17_
    clear n0_ n1_ n2_ n3_ n4_ n5_ n6_ n7_ n8_ n9_ n10_ n11_ n12_ n13_ n14_ n15_ n16_ n17_
    (try clear hb)
    (try clear hb2)
    (try clear hk)
    (try clear hi)
    (try clear ho0)
    obtain ⟨Ao73, co73, eo73⟩ := Kd.N_slice HO470.out
    (first | subst eo73 | (injection eo73 with f1_ f2_ f3_; have f4_ := f1_.symm; have f5_ := f3_.symm; clear f1_ f2_ f3_; subst f4_; subst f5_))
    obtain ⟨Ao74, co74, eo74⟩ := Kd.V_slice HO476.out
    (first | subst eo74 | (injection eo74 with f1_ f2_ f3_; have f4_ := f1_.symm; have f5_ := f3_.symm; clear f1_ f2_ f3_; subst f4_; subst f5_))
    refine hK.out _ _ ⟨(blk_cell BK423.out 0).trans rfl, (blk_cell BK423.out 1).trans rfl, (blk_cell BK424.out 0).trans rfl, (blk_cell BK424.out 1).trans rfl, (blk_cell BK444.out 0).trans rfl, (blk_cell BK444.out 1).trans rfl, (blk_cell BK450.out 0).trans rfl, (blk_cell BK450.out 1).trans rfl⟩ (fun hHeld => ?_)
    clear hK K
    refine norm_ (a' := ?_) ?_ ?_
    rotate_left
    ·show Act.put _ (some 50) _ = _
     simp only [Act.put, List.setIfInBounds_toArray, List.set_cons_zero, List.set_cons_succ, i64_w, i32_w]
     rfl
    refine one_ (i := 18) (N := some 51) #[true, true, true, true, true, true, true, true, true, true, true, true, true, true, true, true, true, true, true, false, false] rfl rfl (one_of HT_.out (by kernel_rfl)) (by decide) (fun K hK => ?_)
    refine goes_ Try.func24 (by kernel_rfl) rfl #[.agg #[.int .i64 t465, .int .i64 t466, .string t467, .slice Ao73 t468.length co73], .agg #[.int .i64 t471, .int .i64 t472, .string t473, .slice Ao74 t474.length co74]] (by rfl) rfl rfl ag ?_
    with_reducible refine (precinctlaw12_same.calls k t465 t466 t467 _ _ t468 t471 t472 t473 _ _ t474 t477 _ ?side1 ?side2 ?side3 ?side4 A16.out).mono ?_
    (case side1 => repeat (first | exact (Kd.N_reads' HO470.out).2.2 | (with_reducible refine Kd.C_alloc ?_ _) | (with_reducible refine Kd.C_drewN ?_ _) | (with_reducible refine Kd.C_drew ?_)))
    (case side2 => exact (Kd.N_reads' HO470.out).2.1)
    (case side3 => repeat (first | exact (Kd.V_reads' HO476.out).2.2 | (with_reducible refine Kd.C_alloc ?_ _) | (with_reducible refine Kd.C_drewN ?_ _) | (with_reducible refine Kd.C_drew ?_)))
    (case side4 => exact (Kd.V_reads' HO476.out).2.1)
    rintro e w75 ⟨rfl, hb⟩
    refine ⟨_, rfl, ?_⟩
    have n0_ := Aside0.mk (Kd.N_below (kN HO418.out) hb)
    have n1_ := Aside0.mk (Kd.N_below (kN HO422.out) hb)
    have n2_ := Aside0.mk (Kd.N_below (kN HO430.out) hb)
    have n3_ := Aside0.mk (Kd.N_below (kN HO436.out) hb)
    have n4_ := Aside0.mk (Kd.N_below (kN HO442.out) hb)
    have n5_ := Aside0.mk (Kd.V_below (by (with_reducible repeat (first | apply Kd.V_alloc | apply Kd.V_drewN | apply Kd.V_drew)); exact HO448.out) hb)
    have n6_ := Aside0.mk (Kd.N_below (kN HO457.out) hb)
    have n7_ := Aside0.mk (Kd.V_below (by (with_reducible repeat (first | apply Kd.V_alloc | apply Kd.V_drewN | apply Kd.V_drew)); exact HO463.out) hb)
    have n8_ := Aside0.mk (Kd.N_below (kN HO470.out) hb)
    have n9_ := Aside0.mk (Kd.V_below (by (with_reducible repeat (first | apply Kd.V_alloc | apply Kd.V_drewN | apply Kd.V_drew)); exact HO476.out) hb)
    have n10_ := Aside0.mk (blk_below (rb BK414.out) hb)
    have n11_ := Aside0.mk (blk_below (rb BK423.out) hb)
    have n12_ := Aside0.mk (blk_below (rb BK424.out) hb)
    have n13_ := Aside0.mk (blk_below (rb BK437.out) hb)
    have n14_ := Aside0.mk (blk_below (rb BK438.out) hb)
    have n15_ := Aside0.mk (blk_below (rb BK444.out) hb)
    have n16_ := Aside0.mk (blk_below (rb BK450.out) hb)
    have n17_ := Aside0.mk (below_step bb hb)
    clear HO418
    clear HO422
    clear HO430
    clear HO436
    clear HO442
    clear HO448
    clear HO457
    clear HO463
    clear HO470
    clear HO476
    clear BK414
    clear BK423
    clear BK424
    clear BK437
    clear BK438
    clear BK444
    clear BK450
    clear HB
    have HO418 := n0_
    have HO422 := n1_
    have HO430 := n2_
    have HO436 := n3_
    have HO442 := n4_
    have HO448 := n5_
    have HO457 := n6_
    have HO463 := n7_
    have HO470 := n8_
    have HO476 := n9_
    have BK414 := n10_
    have BK423 := n11_
    have BK424 := n12_
    have BK437 := n13_
    have BK438 := n14_
    have BK444 := n15_
    have BK450 := n16_
    have HB := n17_
    clear n0_ n1_ n2_ n3_ n4_ n5_ n6_ n7_ n8_ n9_ n10_ n11_ n12_ n13_ n14_ n15_ n16_ n17_
    (try clear hb)
    (try clear hb2)
    (try clear hk)
    (try clear hi)
    refine hK.out _ _ ⟨(blk_cell BK423.out 0).trans rfl, (blk_cell BK423.out 1).trans rfl, (blk_cell BK424.out 0).trans rfl, (blk_cell BK424.out 1).trans rfl, (blk_cell BK444.out 0).trans rfl, (blk_cell BK444.out 1).trans rfl, (blk_cell BK450.out 0).trans rfl, (blk_cell BK450.out 1).trans rfl⟩ (fun hHeld => ?_)
    clear hK K
    refine norm_ (a' := ?_) ?_ ?_
    rotate_left
    ·show Act.put _ (some 51) _ = _
     simp only [Act.put, List.setIfInBounds_toArray, List.set_cons_zero, List.set_cons_succ, i64_w, i32_w]
     rfl
    refine pure_ (i := 19) (N := some 52) (v := ?_) (a' := ?_) #[true, true, true, true, true, true, true, true, true, true, true, true, true, true, true, true, true, true, true, true, false] rfl rfl (any_of HT_.out (by kernel_rfl)) (fun _ _ _ h => h) (Or.inl ⟨by rfl, ?_⟩) ?_ ?_
    rotate_left
    ·intro w'
     go_simp
     with_reducible rfl
    rotate_left
    ·simp only [Act.put, List.setIfInBounds_toArray, List.set_cons_zero, List.set_cons_succ, i64_w, i32_w]
     rfl
    refine pure_ (i := 20) (N := some 4) (v := ?_) (a' := ?_) #[true, true, true, true, true, true, true, true, true, true, true, true, true, true, true, true, true, true, true, true, true] rfl rfl (any_of HT_.out (by kernel_rfl)) (fun _ _ _ h => h) (Or.inl ⟨by rfl, ?_⟩) ?_ ?_
    rotate_left
    ·intro w'
     go_simp
     with_reducible rfl
    rotate_left
    ·simp only [Act.put, List.setIfInBounds_toArray, List.set_cons_zero, List.set_cons_succ, i64_w, i32_w]
     rfl
    refine done_ (done_of HT_.out (by kernel_rfl)) ?_
    try go_wp2
    go_ret
    exact ⟨by first | rfl | (simp [errW_none, errW_some] <;> rfl) | (simp [*, errW_none, errW_some] <;> rfl), bb⟩
   ·rw [if_neg c13] at H
    have c13b0 : (t443 == t449) = false := beq_eq_false_iff_ne.mpr c13
    have c13b1 : (t443 != t449) = true := bne_iff_ne.mpr c13
    exact absurd ((Option.some.inj H).trans hT_.out) (by decide)
  ·replace c12 := Bool.eq_false_iff.mpr c12
   subst c12
   have H1 : (some false) = some r := by rw [if_neg (show ¬ (false = true) by decide)] at H; exact H
   clear H
   have H := H1
   clear H1
   exact absurd ((Option.some.inj H).trans hT_.out) (by decide)
 ·replace c8 := Bool.eq_false_iff.mpr c8
  subst c8
  have H1 : (some false) = some r := by rw [if_neg (show ¬ (false = true) by decide)] at H; exact H
  clear H
  have H := H1
  clear H1
  exact absurd ((Option.some.inj H).trans hT_.out) (by decide)

end Go.Proofs.Ytjicfkmpgogppaa.PG
