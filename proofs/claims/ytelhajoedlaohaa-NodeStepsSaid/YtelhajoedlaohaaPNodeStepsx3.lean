-- printed by a program of this session out of the translation; see NOTES.md
import Derived.Test.YtelhajoedlaohaaPNodeStepsx0
import Derived.Test.YtelhajoedlaohaaPNodeStepsx1
import Derived.Test.YtelhajoedlaohaaPNodeStepsx2
import Derived.Test.YtelhajoedlaohaaRb
namespace Go.Proofs.Ytelhajoedlaohaa.PNodeSteps
open Go.RowKit Go.Proofs.YtelhajoedlaohaaW.PrintWords Go.Proofs.YtelhajoedlaohaaW.PrintLast Go.Proofs.YtelhajoedlaohaaW.PrintMore Go.Proofs.YtelhajoedlaohaaRb
attribute [local go_sem] max2_int min2_int max_two min_two max_three min_three max_four min_four   -- for this text's walks alone
set_option linter.unusedVariables false
set_option linter.unusedSimpArgs false

/-! ### precinctlaw14_NodeSteps: function 7 -/
mutual
def precinctlaw14_NodeSteps.j0 : Nat → Bool → Int → Int → Int → Int → Bool → Int → Int → Int → Int → Int → Int → Int → Int → Option (Bool)
  | 0, _, _, _, _, _, _, _, _, _, _, _, _, _, _ => none
  | k + 1, x55, x216000, x216001, x216002, x216003, x216004, x221000, x221001, x221002, x221003, x222000, x222001, x222002, x222003 => if x55 = true then (some false) else ((node_State_Skip.f x221000 x221001 x221002 x221003 x216000).bind fun bt238 => ((precinctref14_Skip.f x222000 x222001 x222002 x222003 x216000).bind fun bt243 => (if bt238.2.2.2.2 = bt243.2.2.2.2 then ((precinctlaw14_is.f bt238.1 bt238.2.1 bt238.2.2.1 bt238.2.2.2.1 bt243.1 bt243.2.1 bt243.2.2.1 bt243.2.2.2.1).bind fun t248 => (precinctlaw14_NodeSteps.j1 k (!t248) x216000 x216001 x216002 x216003 x216004 x221000 x221001 x221002 x221003 x222000 x222001 x222002 x222003)) else (precinctlaw14_NodeSteps.j1 k true x216000 x216001 x216002 x216003 x216004 x221000 x221001 x221002 x221003 x222000 x222001 x222002 x222003))))
def precinctlaw14_NodeSteps.j1 : Nat → Bool → Int → Int → Int → Int → Bool → Int → Int → Int → Int → Int → Int → Int → Int → Option (Bool)
  | 0, _, _, _, _, _, _, _, _, _, _, _, _, _, _ => none
  | k + 1, x78, x216000, x216001, x216002, x216003, x216004, x221000, x221001, x221002, x221003, x222000, x222001, x222002, x222003 => if x78 = true then (some false) else ((node_State_Lease.f x221000 x221001 x221002 x221003 x216000 x216001).bind fun bt249 => ((precinctref14_Lease.f x222000 x222001 x222002 x222003 x216000 x216001).bind fun bt254 => (if bt249.2.2.2.2 = bt254.2.2.2.2 then ((precinctlaw14_is.f bt249.1 bt249.2.1 bt249.2.2.1 bt249.2.2.2.1 bt254.1 bt254.2.1 bt254.2.2.1 bt254.2.2.2.1).bind fun t259 => (precinctlaw14_NodeSteps.j2 k (!t259) x216000 x216001 x216002 x216003 x216004 x221000 x221001 x221002 x221003 x222000 x222001 x222002 x222003)) else (precinctlaw14_NodeSteps.j2 k true x216000 x216001 x216002 x216003 x216004 x221000 x221001 x221002 x221003 x222000 x222001 x222002 x222003))))
def precinctlaw14_NodeSteps.j2 : Nat → Bool → Int → Int → Int → Int → Bool → Int → Int → Int → Int → Int → Int → Int → Int → Option (Bool)
  | 0, _, _, _, _, _, _, _, _, _, _, _, _, _, _ => none
  | k + 1, x105, x216000, x216001, x216002, x216003, x216004, x221000, x221001, x221002, x221003, x222000, x222001, x222002, x222003 => if x105 = true then (some false) else ((node_State_Answer.f k x221000 x221001 x221002 x221003 x216000 x216004).bind fun bt260 => ((precinctref14_Answer.f k x222000 x222001 x222002 x222003 x216000 x216004).bind fun bt265 => (if bt260.2.2.2.2 = bt265.2.2.2.2 then ((precinctlaw14_is.f bt260.1 bt260.2.1 bt260.2.2.1 bt260.2.2.2.1 bt265.1 bt265.2.1 bt265.2.2.1 bt265.2.2.2.1).bind fun t270 => (some t270)) else (some false))))
end
def precinctlaw14_NodeSteps.f (k : Nat) (a0_0 : Int) (a0_1 : Int) (a0_2 : Int) (a0_3 : Int) (a1_0 : Int) (a1_1 : Int) (a1_2 : Int) (a1_3 : Int) (a1_4 : Bool) : Option (Bool) := (precinctlaw14_made.f a0_0 a0_1 a0_2 a0_3).bind fun bt216 => ((node_State_Wake.f bt216.1 bt216.2.1 bt216.2.2.1 bt216.2.2.2 a1_0 a1_1 a1_4).bind fun bt222 => ((precinctref14_Wake.f a0_0 a0_1 a0_2 a0_3 a1_0 a1_1 a1_4).bind fun bt228 => ((precinctlaw14_wakes.f k).bind fun t234 => (if t234 = true then ((node_State_Over.f bt216.1 bt216.2.1 bt216.2.2.1 bt216.2.2.2).bind fun t235 => ((precinctref14_Over.f a0_0 a0_1 a0_2 a0_3).bind fun t236 => (if (t235 != t236) = true then (precinctlaw14_NodeSteps.j0 k true a1_0 a1_1 a1_2 a1_3 a1_4 bt216.1 bt216.2.1 bt216.2.2.1 bt216.2.2.2 a0_0 a0_1 a0_2 a0_3) else (if bt222.2.2.2.2 = bt228.2.2.2.2 then ((precinctlaw14_is.f bt222.1 bt222.2.1 bt222.2.2.1 bt222.2.2.2.1 bt228.1 bt228.2.1 bt228.2.2.1 bt228.2.2.2.1).bind fun t237 => (precinctlaw14_NodeSteps.j0 k (!t237) a1_0 a1_1 a1_2 a1_3 a1_4 bt216.1 bt216.2.1 bt216.2.2.1 bt216.2.2.2 a0_0 a0_1 a0_2 a0_3)) else (precinctlaw14_NodeSteps.j0 k true a1_0 a1_1 a1_2 a1_3 a1_4 bt216.1 bt216.2.1 bt216.2.2.1 bt216.2.2.2 a0_0 a0_1 a0_2 a0_3))))) else (precinctlaw14_NodeSteps.j0 k true a1_0 a1_1 a1_2 a1_3 a1_4 bt216.1 bt216.2.1 bt216.2.2.1 bt216.2.2.2 a0_0 a0_1 a0_2 a0_3)))))
theorem precinctlaw14_NodeSteps.mono_l : ∀ k, (∀ y0 y1 y2 y3 y4 y5 y6 y7 y8 y9 y10 y11 y12 y13, LeO (precinctlaw14_NodeSteps.j0 k y0 y1 y2 y3 y4 y5 y6 y7 y8 y9 y10 y11 y12 y13) (precinctlaw14_NodeSteps.j0 (k + 1) y0 y1 y2 y3 y4 y5 y6 y7 y8 y9 y10 y11 y12 y13)) ∧ (∀ y0 y1 y2 y3 y4 y5 y6 y7 y8 y9 y10 y11 y12 y13, LeO (precinctlaw14_NodeSteps.j1 k y0 y1 y2 y3 y4 y5 y6 y7 y8 y9 y10 y11 y12 y13) (precinctlaw14_NodeSteps.j1 (k + 1) y0 y1 y2 y3 y4 y5 y6 y7 y8 y9 y10 y11 y12 y13)) ∧ (∀ y0 y1 y2 y3 y4 y5 y6 y7 y8 y9 y10 y11 y12 y13, LeO (precinctlaw14_NodeSteps.j2 k y0 y1 y2 y3 y4 y5 y6 y7 y8 y9 y10 y11 y12 y13) (precinctlaw14_NodeSteps.j2 (k + 1) y0 y1 y2 y3 y4 y5 y6 y7 y8 y9 y10 y11 y12 y13))
  | 0 => ⟨fun _ _ _ _ _ _ _ _ _ _ _ _ _ _ r h => by simp [precinctlaw14_NodeSteps.j0] at h, fun _ _ _ _ _ _ _ _ _ _ _ _ _ _ r h => by simp [precinctlaw14_NodeSteps.j1] at h, fun _ _ _ _ _ _ _ _ _ _ _ _ _ _ r h => by simp [precinctlaw14_NodeSteps.j2] at h⟩
  | k + 1 => by
    obtain ⟨ih0, ih1, ih2⟩ := precinctlaw14_NodeSteps.mono_l k
    refine ⟨?_, ?_, ?_⟩
    · intro y0 y1 y2 y3 y4 y5 y6 y7 y8 y9 y10 y11 y12 y13
      unfold precinctlaw14_NodeSteps.j0
      repeat' first
      | (with_reducible exact ih0 _ _ _ _ _ _ _ _ _ _ _ _ _ _)
      | (with_reducible exact ih1 _ _ _ _ _ _ _ _ _ _ _ _ _ _)
      | (with_reducible exact ih2 _ _ _ _ _ _ _ _ _ _ _ _ _ _)
      | (with_reducible exact node_State_Answer.mono _ _ _ _ _ _ _)
      | (with_reducible exact precinctlaw14_wakes.mono _)
      | (with_reducible exact precinctref14_Answer.mono _ _ _ _ _ _ _)
      | (with_reducible exact LeO.refl _)
      | (with_reducible exact LeO.none _)
      | (with_reducible refine LeO.ite ?_ ?_)
      | (with_reducible refine LeO.bind ?_ (fun _ => ?_))
      | exact ih0 _ _ _ _ _ _ _ _ _ _ _ _ _ _
      | exact ih1 _ _ _ _ _ _ _ _ _ _ _ _ _ _
      | exact ih2 _ _ _ _ _ _ _ _ _ _ _ _ _ _
      | exact node_State_Answer.mono _ _ _ _ _ _ _
      | exact precinctlaw14_wakes.mono _
      | exact precinctref14_Answer.mono _ _ _ _ _ _ _
      | exact LeO.none _
      | refine LeO.ite ?_ ?_
      | refine LeO.bind ?_ (fun _ => ?_)
    · intro y0 y1 y2 y3 y4 y5 y6 y7 y8 y9 y10 y11 y12 y13
      unfold precinctlaw14_NodeSteps.j1
      repeat' first
      | (with_reducible exact ih0 _ _ _ _ _ _ _ _ _ _ _ _ _ _)
      | (with_reducible exact ih1 _ _ _ _ _ _ _ _ _ _ _ _ _ _)
      | (with_reducible exact ih2 _ _ _ _ _ _ _ _ _ _ _ _ _ _)
      | (with_reducible exact node_State_Answer.mono _ _ _ _ _ _ _)
      | (with_reducible exact precinctlaw14_wakes.mono _)
      | (with_reducible exact precinctref14_Answer.mono _ _ _ _ _ _ _)
      | (with_reducible exact LeO.refl _)
      | (with_reducible exact LeO.none _)
      | (with_reducible refine LeO.ite ?_ ?_)
      | (with_reducible refine LeO.bind ?_ (fun _ => ?_))
      | exact ih0 _ _ _ _ _ _ _ _ _ _ _ _ _ _
      | exact ih1 _ _ _ _ _ _ _ _ _ _ _ _ _ _
      | exact ih2 _ _ _ _ _ _ _ _ _ _ _ _ _ _
      | exact node_State_Answer.mono _ _ _ _ _ _ _
      | exact precinctlaw14_wakes.mono _
      | exact precinctref14_Answer.mono _ _ _ _ _ _ _
      | exact LeO.none _
      | refine LeO.ite ?_ ?_
      | refine LeO.bind ?_ (fun _ => ?_)
    · intro y0 y1 y2 y3 y4 y5 y6 y7 y8 y9 y10 y11 y12 y13
      unfold precinctlaw14_NodeSteps.j2
      repeat' first
      | (with_reducible exact ih0 _ _ _ _ _ _ _ _ _ _ _ _ _ _)
      | (with_reducible exact ih1 _ _ _ _ _ _ _ _ _ _ _ _ _ _)
      | (with_reducible exact ih2 _ _ _ _ _ _ _ _ _ _ _ _ _ _)
      | (with_reducible exact node_State_Answer.mono _ _ _ _ _ _ _)
      | (with_reducible exact precinctlaw14_wakes.mono _)
      | (with_reducible exact precinctref14_Answer.mono _ _ _ _ _ _ _)
      | (with_reducible exact LeO.refl _)
      | (with_reducible exact LeO.none _)
      | (with_reducible refine LeO.ite ?_ ?_)
      | (with_reducible refine LeO.bind ?_ (fun _ => ?_))
      | exact ih0 _ _ _ _ _ _ _ _ _ _ _ _ _ _
      | exact ih1 _ _ _ _ _ _ _ _ _ _ _ _ _ _
      | exact ih2 _ _ _ _ _ _ _ _ _ _ _ _ _ _
      | exact node_State_Answer.mono _ _ _ _ _ _ _
      | exact precinctlaw14_wakes.mono _
      | exact precinctref14_Answer.mono _ _ _ _ _ _ _
      | exact LeO.none _
      | refine LeO.ite ?_ ?_
      | refine LeO.bind ?_ (fun _ => ?_)
theorem precinctlaw14_NodeSteps.mono : ∀ a0 a1 a2 a3 a4 a5 a6 a7 a8 k, LeO (precinctlaw14_NodeSteps.f k a0 a1 a2 a3 a4 a5 a6 a7 a8) (precinctlaw14_NodeSteps.f (k + 1) a0 a1 a2 a3 a4 a5 a6 a7 a8) := by
  intro a0 a1 a2 a3 a4 a5 a6 a7 a8 k
  obtain ⟨ih0, ih1, ih2⟩ := precinctlaw14_NodeSteps.mono_l k
  unfold precinctlaw14_NodeSteps.f
  repeat' first
      | (with_reducible exact ih0 _ _ _ _ _ _ _ _ _ _ _ _ _ _)
      | (with_reducible exact ih1 _ _ _ _ _ _ _ _ _ _ _ _ _ _)
      | (with_reducible exact ih2 _ _ _ _ _ _ _ _ _ _ _ _ _ _)
      | (with_reducible exact node_State_Answer.mono _ _ _ _ _ _ _)
      | (with_reducible exact precinctlaw14_wakes.mono _)
      | (with_reducible exact precinctref14_Answer.mono _ _ _ _ _ _ _)
      | (with_reducible exact LeO.refl _)
      | (with_reducible exact LeO.none _)
      | (with_reducible refine LeO.ite ?_ ?_)
      | (with_reducible refine LeO.bind ?_ (fun _ => ?_))
      | exact ih0 _ _ _ _ _ _ _ _ _ _ _ _ _ _
      | exact ih1 _ _ _ _ _ _ _ _ _ _ _ _ _ _
      | exact ih2 _ _ _ _ _ _ _ _ _ _ _ _ _ _
      | exact node_State_Answer.mono _ _ _ _ _ _ _
      | exact precinctlaw14_wakes.mono _
      | exact precinctref14_Answer.mono _ _ _ _ _ _ _
      | exact LeO.none _
      | refine LeO.ite ?_ ?_
      | refine LeO.bind ?_ (fun _ => ?_)
def precinctlaw14_NodeSteps.T4 : Bool × List (List Nat × List Nat) := (true, [([], []), ([0], [0]), ([1, 0], [1]), ([2], [2]), ([3, 2, 2], [2, 3]), ([2], [2]), ([5, 4, 2], [2, 5]), ([4, 6, 2], [2, 4, 6]), ([2, 7], [2, 7]), ([8, 6], [8]), ([9], [9]), ([9], [9]), ([10, 11, 9], [9, 10, 11]), ([9, 12], [9, 12]), ([13, 9], [13]), ([14], [14]), ([14], [14]), ([15, 16, 14, 14], [14, 15, 16]), ([17, 14], [14, 17]), ([14, 18], [14, 18])])
def precinctlaw14_NodeSteps.B4 : List Nat := [0, 1, 3, 7, 15, 7, 63, 127, 255, 511, 1023, 1023, 4095, 8191, 16383, 32767, 32767, 131071, 262143, 524287]
theorem precinctlaw14_NodeSteps.tab4 : rtab .any (opsOf Try.f7 4) = precinctlaw14_NodeSteps.T4 := by kernel_rfl
theorem precinctlaw14_NodeSteps.bits4 : waitsOk precinctlaw14_NodeSteps.T4.2 precinctlaw14_NodeSteps.B4 = true := by kernel_rfl
set_option maxHeartbeats 8000000 in
set_option maxRecDepth 100000 in
theorem precinctlaw14_NodeSteps.calls (k : Nat) (a0_0 : Int) (a0_1 : Int) (a0_2 : Int) (a0_3 : Int) (a1_0 : Int) (a1_1 : Int) (a1_2 : Int) (a1_3 : Int) (a1_4 : Bool) (r : Bool) (w : World) (hT_ : Aside0 (r = true)) (h : precinctlaw14_NodeSteps.f k a0_0 a0_1 a0_2 a0_3 a1_0 a1_1 a1_2 a1_3 a1_4 = some r) :
    Calls Try.prog 7 #[.agg #[.int .i64 a0_0, .int .i64 a0_1, .int .i64 a0_2, .int .i64 a0_3], .agg #[.int .i64 a1_0, .int .i64 a1_1, .int .i64 a1_2, .int .i64 a1_3, .bool a1_4]] w fun e w' => e = .returned (.bool r) ∧ Below w.heap.size w w' := by
  have hu26 := Try.underlying26
  have hu28 := Try.underlying28
  have hu32 := Try.underlying32
  have hu37 := Try.underlying37
  have HB := Aside0.mk (Below.refl w.heap.size w)
  have H : ((precinctlaw14_made.f a0_0 a0_1 a0_2 a0_3).bind fun bt216 => ((node_State_Wake.f bt216.1 bt216.2.1 bt216.2.2.1 bt216.2.2.2 a1_0 a1_1 a1_4).bind fun bt222 => ((precinctref14_Wake.f a0_0 a0_1 a0_2 a0_3 a1_0 a1_1 a1_4).bind fun bt228 => ((precinctlaw14_wakes.f k).bind fun t234 => (if t234 = true then ((node_State_Over.f bt216.1 bt216.2.1 bt216.2.2.1 bt216.2.2.2).bind fun t235 => ((precinctref14_Over.f a0_0 a0_1 a0_2 a0_3).bind fun t236 => (if (t235 != t236) = true then (precinctlaw14_NodeSteps.j0 k true a1_0 a1_1 a1_2 a1_3 a1_4 bt216.1 bt216.2.1 bt216.2.2.1 bt216.2.2.2 a0_0 a0_1 a0_2 a0_3) else (if bt222.2.2.2.2 = bt228.2.2.2.2 then ((precinctlaw14_is.f bt222.1 bt222.2.1 bt222.2.2.1 bt222.2.2.2.1 bt228.1 bt228.2.1 bt228.2.2.1 bt228.2.2.2.1).bind fun t237 => (precinctlaw14_NodeSteps.j0 k (!t237) a1_0 a1_1 a1_2 a1_3 a1_4 bt216.1 bt216.2.1 bt216.2.2.1 bt216.2.2.2 a0_0 a0_1 a0_2 a0_3)) else (precinctlaw14_NodeSteps.j0 k true a1_0 a1_1 a1_2 a1_3 a1_4 bt216.1 bt216.2.1 bt216.2.2.1 bt216.2.2.2 a0_0 a0_1 a0_2 a0_3))))) else (precinctlaw14_NodeSteps.j0 k true a1_0 a1_1 a1_2 a1_3 a1_4 bt216.1 bt216.2.1 bt216.2.2.1 bt216.2.2.2 a0_0 a0_1 a0_2 a0_3)))))) = some r := h
  clear h
  replace H := Option.bind_eq_some_iff.mp H
  obtain ⟨⟨t216, t217, t218, t219⟩, A30, H⟩ := H
  replace H : ((node_State_Wake.f t216 t217 t218 t219 a1_0 a1_1 a1_4).bind fun bt222 => ((precinctref14_Wake.f a0_0 a0_1 a0_2 a0_3 a1_0 a1_1 a1_4).bind fun bt228 => ((precinctlaw14_wakes.f k).bind fun t234 => (if t234 = true then ((node_State_Over.f t216 t217 t218 t219).bind fun t235 => ((precinctref14_Over.f a0_0 a0_1 a0_2 a0_3).bind fun t236 => (if (t235 != t236) = true then (precinctlaw14_NodeSteps.j0 k true a1_0 a1_1 a1_2 a1_3 a1_4 t216 t217 t218 t219 a0_0 a0_1 a0_2 a0_3) else (if bt222.2.2.2.2 = bt228.2.2.2.2 then ((precinctlaw14_is.f bt222.1 bt222.2.1 bt222.2.2.1 bt222.2.2.2.1 bt228.1 bt228.2.1 bt228.2.2.1 bt228.2.2.2.1).bind fun t237 => (precinctlaw14_NodeSteps.j0 k (!t237) a1_0 a1_1 a1_2 a1_3 a1_4 t216 t217 t218 t219 a0_0 a0_1 a0_2 a0_3)) else (precinctlaw14_NodeSteps.j0 k true a1_0 a1_1 a1_2 a1_3 a1_4 t216 t217 t218 t219 a0_0 a0_1 a0_2 a0_3))))) else (precinctlaw14_NodeSteps.j0 k true a1_0 a1_1 a1_2 a1_3 a1_4 t216 t217 t218 t219 a0_0 a0_1 a0_2 a0_3))))) = some r := H
  have A3 := Aside0.mk A30
  clear A30
  replace H := Option.bind_eq_some_iff.mp H
  obtain ⟨⟨t222, t223, t224, t225, t226⟩, A40, H⟩ := H
  replace H : ((precinctref14_Wake.f a0_0 a0_1 a0_2 a0_3 a1_0 a1_1 a1_4).bind fun bt228 => ((precinctlaw14_wakes.f k).bind fun t234 => (if t234 = true then ((node_State_Over.f t216 t217 t218 t219).bind fun t235 => ((precinctref14_Over.f a0_0 a0_1 a0_2 a0_3).bind fun t236 => (if (t235 != t236) = true then (precinctlaw14_NodeSteps.j0 k true a1_0 a1_1 a1_2 a1_3 a1_4 t216 t217 t218 t219 a0_0 a0_1 a0_2 a0_3) else (if t226 = bt228.2.2.2.2 then ((precinctlaw14_is.f t222 t223 t224 t225 bt228.1 bt228.2.1 bt228.2.2.1 bt228.2.2.2.1).bind fun t237 => (precinctlaw14_NodeSteps.j0 k (!t237) a1_0 a1_1 a1_2 a1_3 a1_4 t216 t217 t218 t219 a0_0 a0_1 a0_2 a0_3)) else (precinctlaw14_NodeSteps.j0 k true a1_0 a1_1 a1_2 a1_3 a1_4 t216 t217 t218 t219 a0_0 a0_1 a0_2 a0_3))))) else (precinctlaw14_NodeSteps.j0 k true a1_0 a1_1 a1_2 a1_3 a1_4 t216 t217 t218 t219 a0_0 a0_1 a0_2 a0_3)))) = some r := H
  have A4 := Aside0.mk A40
  clear A40
  replace H := Option.bind_eq_some_iff.mp H
  obtain ⟨⟨t228, t229, t230, t231, t232⟩, A50, H⟩ := H
  replace H : ((precinctlaw14_wakes.f k).bind fun t234 => (if t234 = true then ((node_State_Over.f t216 t217 t218 t219).bind fun t235 => ((precinctref14_Over.f a0_0 a0_1 a0_2 a0_3).bind fun t236 => (if (t235 != t236) = true then (precinctlaw14_NodeSteps.j0 k true a1_0 a1_1 a1_2 a1_3 a1_4 t216 t217 t218 t219 a0_0 a0_1 a0_2 a0_3) else (if t226 = t232 then ((precinctlaw14_is.f t222 t223 t224 t225 t228 t229 t230 t231).bind fun t237 => (precinctlaw14_NodeSteps.j0 k (!t237) a1_0 a1_1 a1_2 a1_3 a1_4 t216 t217 t218 t219 a0_0 a0_1 a0_2 a0_3)) else (precinctlaw14_NodeSteps.j0 k true a1_0 a1_1 a1_2 a1_3 a1_4 t216 t217 t218 t219 a0_0 a0_1 a0_2 a0_3))))) else (precinctlaw14_NodeSteps.j0 k true a1_0 a1_1 a1_2 a1_3 a1_4 t216 t217 t218 t219 a0_0 a0_1 a0_2 a0_3))) = some r := H
  have A5 := Aside0.mk A50
  clear A50
  have HC6 := Aside0.mk H
  clear H
  go_enter Try.func7, Try.ntmps7
  try go_wp2_with (first | ((with_reducible refine gate_dst (N := 2) rfl ?_); refine box_event ?hg (N := 2) ?hd (cs := #[.int .i64 a0_0, .int .i64 a0_1, .int .i64 a0_2, .int .i64 a0_3]) (t := 26) ?hr ?_; (case hd => rfl); (case hg => rfl); (case hr => first | (go_simp; done) | (go_simp; rfl)); intro gb214 hg w7 hbox hb; have n0_ := Aside0.mk (below_step (by repeat (first | (with_reducible first | exact HB.out | apply below_alloc | apply pw_below_drewN | apply below_drew1) | exact HB.out)) hb); have n1_ := Aside0.mk (hbox); have n2_ := Aside0.mk ((by rw [hg]; exact (below_size (by repeat (first | (with_reducible first | exact HB.out | apply below_alloc | apply pw_below_drewN | apply below_drew1) | exact HB.out))) : w.heap.size ≤ gb214)); have n3_ := Aside0.mk ((by rw [hg]; exact (below_size (by repeat (first | (with_reducible first | exact HB.out | apply below_alloc | apply pw_below_drewN | apply below_drew1) | exact HB.out))) : w.heap.size ≤ gb214)); clear HB; have HB := n0_; have BK214 := n1_; have GW214 := n2_; have GE214 := n3_; clear n0_ n1_ n2_ n3_; clear hb hbox hg) | ((with_reducible refine gate_dst (N := 3) rfl ?_); refine box_event ?hg (N := 3) ?hd (cs := #[.int .i64 a1_0, .int .i64 a1_1, .int .i64 a1_2, .int .i64 a1_3, .bool a1_4]) (t := 28) ?hr ?_; (case hd => rfl); (case hg => rfl); (case hr => first | (go_simp; done) | (go_simp; rfl)); intro gb215 hg w8 hbox hb; have n0_ := Aside0.mk (blk_below (rb BK214.out) hb); have n1_ := Aside0.mk (below_step (by repeat (first | (with_reducible first | exact HB.out | apply below_alloc | apply pw_below_drewN | apply below_drew1 | refine below_set ?_ GE214.out) | exact HB.out)) hb); have n2_ := Aside0.mk (hbox); have n3_ := Aside0.mk ((by rw [hg]; exact (below_size (by repeat (first | (with_reducible first | exact HB.out | apply below_alloc | apply pw_below_drewN | apply below_drew1 | refine below_set ?_ GE214.out) | exact HB.out))) : w.heap.size ≤ gb215)); have n4_ := Aside0.mk ((by rw [hg]; exact (below_size (by repeat (first | (with_reducible first | exact HB.out | apply below_alloc | apply pw_below_drewN | apply below_drew1 | refine below_set ?_ GE214.out) | exact HB.out))) : w.heap.size ≤ gb215)); have n5_ := Aside0.mk ((by rw [hg]; exact Nat.ne_of_lt (blk_lt (rb BK214.out)) : gb214 ≠ gb215)); have n6_ := Aside0.mk ((by rw [hg]; exact Nat.ne_of_gt (blk_lt (rb BK214.out)) : gb215 ≠ gb214)); clear BK214; clear HB; have BK214 := n0_; have HB := n1_; have BK215 := n2_; have GW215 := n3_; have GE215 := n4_; have NB214_215 := n5_; have NB215_214 := n6_; clear n0_ n1_ n2_ n3_ n4_ n5_ n6_; clear hb hbox hg))
  have n0_ := Aside0.mk (blk_drew BK214.out)
  have n1_ := Aside0.mk (blk_drew BK215.out)
  have n2_ := Aside0.mk (below_drew1 HB.out)
  clear BK214
  clear BK215
  clear HB
  have BK214 := n0_
  have BK215 := n1_
  have HB := n2_
  clear n0_ n1_ n2_
  refine start_ (n := 7) (S := fun w' => w'.cell? ⟨gb214, 0, none⟩ = some (.int .i64 a0_0) ∧ w'.cell? ⟨gb214, 1, none⟩ = some (.int .i64 a0_1) ∧ w'.cell? ⟨gb214, 2, none⟩ = some (.int .i64 a0_2) ∧ w'.cell? ⟨gb214, 3, none⟩ = some (.int .i64 a0_3)) (ds := []) #[false, false, false, false, false, false, false] (by kernel_rfl) rfl rfl ⟨(blk_cell BK214.out 0).trans rfl, (blk_cell BK214.out 1).trans rfl, (blk_cell BK214.out 2).trans rfl, (blk_cell BK214.out 3).trans rfl⟩ (fun hHeld => ?_)
  generalize w8.drew = w9 at BK214 BK215 HB hHeld ⊢
  refine take_ (i := 0) (N := some 11) (v := ?_) (a' := ?_) #[true, false, false, false, false, false, false] rfl rfl (by kernel_rfl) (fun _ _ _ h => h) (Or.inl ⟨by rfl, ?_⟩) hHeld ?_ ?_
  rotate_left
  · rintro w' ⟨s0, s1, s2, s3⟩
    go_simp
    with_reducible rfl
  rotate_left
  · simp only [Act.put, List.setIfInBounds_toArray, List.set_cons_zero, List.set_cons_succ, i64_w, i32_w]
    rfl
  refine take_ (i := 2) (N := some 13) (v := ?_) (a' := ?_) #[true, false, true, false, false, false, false] rfl rfl (by kernel_rfl) (fun _ _ _ h => h) (Or.inl ⟨by rfl, ?_⟩) hHeld ?_ ?_
  rotate_left
  · rintro w' ⟨s0, s1, s2, s3⟩
    go_simp
    with_reducible rfl
  rotate_left
  · simp only [Act.put, List.setIfInBounds_toArray, List.set_cons_zero, List.set_cons_succ, i64_w, i32_w]
    rfl
  refine join_ (σ := Nat × Nat) 2 #[true, true, true, true, true, false, false] (fun s_ => [(12, .agg #[.int .i64 t216, .int .i64 t217, .int .i64 t218, .int .i64 t219]), (5, .pointer (some ⟨s_.1, 0, none⟩)), (6, .pointer (some ⟨s_.2, 0, none⟩))]) (fun s_ w' => (w'.cell? ⟨gb214, 0, none⟩ = some (.int .i64 a0_0) ∧ w'.cell? ⟨gb214, 1, none⟩ = some (.int .i64 a0_1) ∧ w'.cell? ⟨gb214, 2, none⟩ = some (.int .i64 a0_2) ∧ w'.cell? ⟨gb214, 3, none⟩ = some (.int .i64 a0_3)) ∧ (w'.heap[gb214]? = some (.cells #[.int .i64 a0_0, .int .i64 a0_1, .int .i64 a0_2, .int .i64 a0_3] 26 (0, 0))) ∧ (w'.heap[gb215]? = some (.cells #[.int .i64 a1_0, .int .i64 a1_1, .int .i64 a1_2, .int .i64 a1_3, .bool a1_4] 28 (0, 0))) ∧ (w'.heap[s_.1]? = some (.cells #[.int .i64 0, .int .i64 0, .int .i64 0, .int .i64 0] 32 (0, 0))) ∧ (w'.heap[s_.2]? = some (.cells #[.int .i64 0, .int .i64 0, .int .i64 0, .int .i64 0] 37 (0, 0))) ∧ (w.heap.size ≤ s_.1) ∧ (w.heap.size ≤ s_.1) ∧ (gb214 ≠ s_.1) ∧ (s_.1 ≠ gb214) ∧ (gb215 ≠ s_.1) ∧ (s_.1 ≠ gb215) ∧ (s_.2 ≠ s_.1) ∧ (s_.1 ≠ s_.2) ∧ (w.heap.size ≤ s_.2) ∧ (w.heap.size ≤ s_.2) ∧ (gb214 ≠ s_.2) ∧ (s_.2 ≠ gb214) ∧ (gb215 ≠ s_.2) ∧ (s_.2 ≠ gb215) ∧ (Below w.heap.size w w')) ?_ ?_
  rotate_left
  · intro hJ1_3_4
    refine join_ (σ := Nat) 3 #[true, true, true, true, false, false, false] (fun s_ => [(12, .agg #[.int .i64 t216, .int .i64 t217, .int .i64 t218, .int .i64 t219]), (5, .pointer (some ⟨s_, 0, none⟩))]) (fun s_ w' => (w'.cell? ⟨gb214, 0, none⟩ = some (.int .i64 a0_0) ∧ w'.cell? ⟨gb214, 1, none⟩ = some (.int .i64 a0_1) ∧ w'.cell? ⟨gb214, 2, none⟩ = some (.int .i64 a0_2) ∧ w'.cell? ⟨gb214, 3, none⟩ = some (.int .i64 a0_3)) ∧ (w'.heap[gb214]? = some (.cells #[.int .i64 a0_0, .int .i64 a0_1, .int .i64 a0_2, .int .i64 a0_3] 26 (0, 0))) ∧ (w'.heap[gb215]? = some (.cells #[.int .i64 a1_0, .int .i64 a1_1, .int .i64 a1_2, .int .i64 a1_3, .bool a1_4] 28 (0, 0))) ∧ (w'.heap[s_]? = some (.cells #[.int .i64 0, .int .i64 0, .int .i64 0, .int .i64 0] 32 (0, 0))) ∧ (w.heap.size ≤ s_) ∧ (w.heap.size ≤ s_) ∧ (gb214 ≠ s_) ∧ (s_ ≠ gb214) ∧ (gb215 ≠ s_) ∧ (s_ ≠ gb215) ∧ (Below w.heap.size w w')) ?_ ?_
    rotate_left
    · intro hJ1_3
      refine join_ (σ := Nat) 3 #[true, true, true, false, true, false, false] (fun s_ => [(12, .agg #[.int .i64 t216, .int .i64 t217, .int .i64 t218, .int .i64 t219]), (6, .pointer (some ⟨s_, 0, none⟩))]) (fun s_ w' => (w'.cell? ⟨gb214, 0, none⟩ = some (.int .i64 a0_0) ∧ w'.cell? ⟨gb214, 1, none⟩ = some (.int .i64 a0_1) ∧ w'.cell? ⟨gb214, 2, none⟩ = some (.int .i64 a0_2) ∧ w'.cell? ⟨gb214, 3, none⟩ = some (.int .i64 a0_3)) ∧ (w'.heap[gb214]? = some (.cells #[.int .i64 a0_0, .int .i64 a0_1, .int .i64 a0_2, .int .i64 a0_3] 26 (0, 0))) ∧ (w'.heap[gb215]? = some (.cells #[.int .i64 a1_0, .int .i64 a1_1, .int .i64 a1_2, .int .i64 a1_3, .bool a1_4] 28 (0, 0))) ∧ (w'.heap[s_]? = some (.cells #[.int .i64 0, .int .i64 0, .int .i64 0, .int .i64 0] 37 (0, 0))) ∧ (w.heap.size ≤ s_) ∧ (w.heap.size ≤ s_) ∧ (gb214 ≠ s_) ∧ (s_ ≠ gb214) ∧ (gb215 ≠ s_) ∧ (s_ ≠ gb215) ∧ (Below w.heap.size w w')) ?_ ?_
      rotate_left
      · intro hJ1_4
        refine join_ (σ := Nat × Nat) 3 #[true, false, true, true, true, false, false] (fun s_ => [(5, .pointer (some ⟨s_.1, 0, none⟩)), (6, .pointer (some ⟨s_.2, 0, none⟩))]) (fun s_ w' => (w'.cell? ⟨gb214, 0, none⟩ = some (.int .i64 a0_0) ∧ w'.cell? ⟨gb214, 1, none⟩ = some (.int .i64 a0_1) ∧ w'.cell? ⟨gb214, 2, none⟩ = some (.int .i64 a0_2) ∧ w'.cell? ⟨gb214, 3, none⟩ = some (.int .i64 a0_3)) ∧ (w'.heap[gb214]? = some (.cells #[.int .i64 a0_0, .int .i64 a0_1, .int .i64 a0_2, .int .i64 a0_3] 26 (0, 0))) ∧ (w'.heap[gb215]? = some (.cells #[.int .i64 a1_0, .int .i64 a1_1, .int .i64 a1_2, .int .i64 a1_3, .bool a1_4] 28 (0, 0))) ∧ (w'.heap[s_.1]? = some (.cells #[.int .i64 0, .int .i64 0, .int .i64 0, .int .i64 0] 32 (0, 0))) ∧ (w'.heap[s_.2]? = some (.cells #[.int .i64 0, .int .i64 0, .int .i64 0, .int .i64 0] 37 (0, 0))) ∧ (w.heap.size ≤ s_.1) ∧ (w.heap.size ≤ s_.1) ∧ (gb214 ≠ s_.1) ∧ (s_.1 ≠ gb214) ∧ (gb215 ≠ s_.1) ∧ (s_.1 ≠ gb215) ∧ (s_.2 ≠ s_.1) ∧ (s_.1 ≠ s_.2) ∧ (w.heap.size ≤ s_.2) ∧ (w.heap.size ≤ s_.2) ∧ (gb214 ≠ s_.2) ∧ (s_.2 ≠ gb214) ∧ (gb215 ≠ s_.2) ∧ (s_.2 ≠ gb215) ∧ (Below w.heap.size w w')) ?_ ?_
        rotate_left
        · intro hJ3_4
          refine join_ (σ := Unit) 4 #[true, true, true, false, false, false, false] (fun s_ => [(12, .agg #[.int .i64 t216, .int .i64 t217, .int .i64 t218, .int .i64 t219])]) (fun s_ w' => (w'.cell? ⟨gb214, 0, none⟩ = some (.int .i64 a0_0) ∧ w'.cell? ⟨gb214, 1, none⟩ = some (.int .i64 a0_1) ∧ w'.cell? ⟨gb214, 2, none⟩ = some (.int .i64 a0_2) ∧ w'.cell? ⟨gb214, 3, none⟩ = some (.int .i64 a0_3)) ∧ (w'.heap[gb214]? = some (.cells #[.int .i64 a0_0, .int .i64 a0_1, .int .i64 a0_2, .int .i64 a0_3] 26 (0, 0))) ∧ (w'.heap[gb215]? = some (.cells #[.int .i64 a1_0, .int .i64 a1_1, .int .i64 a1_2, .int .i64 a1_3, .bool a1_4] 28 (0, 0))) ∧ (Below w.heap.size w w')) ?_ ?_
          rotate_left
          · intro hJ1
            refine join_ (σ := Nat) 4 #[true, false, true, true, false, false, false] (fun s_ => [(5, .pointer (some ⟨s_, 0, none⟩))]) (fun s_ w' => (w'.cell? ⟨gb214, 0, none⟩ = some (.int .i64 a0_0) ∧ w'.cell? ⟨gb214, 1, none⟩ = some (.int .i64 a0_1) ∧ w'.cell? ⟨gb214, 2, none⟩ = some (.int .i64 a0_2) ∧ w'.cell? ⟨gb214, 3, none⟩ = some (.int .i64 a0_3)) ∧ (w'.heap[gb214]? = some (.cells #[.int .i64 a0_0, .int .i64 a0_1, .int .i64 a0_2, .int .i64 a0_3] 26 (0, 0))) ∧ (w'.heap[gb215]? = some (.cells #[.int .i64 a1_0, .int .i64 a1_1, .int .i64 a1_2, .int .i64 a1_3, .bool a1_4] 28 (0, 0))) ∧ (w'.heap[s_]? = some (.cells #[.int .i64 0, .int .i64 0, .int .i64 0, .int .i64 0] 32 (0, 0))) ∧ (w.heap.size ≤ s_) ∧ (w.heap.size ≤ s_) ∧ (gb214 ≠ s_) ∧ (s_ ≠ gb214) ∧ (gb215 ≠ s_) ∧ (s_ ≠ gb215) ∧ (Below w.heap.size w w')) ?_ ?_
            rotate_left
            · intro hJ3
              refine join_ (σ := Nat) 4 #[true, false, true, false, true, false, false] (fun s_ => [(6, .pointer (some ⟨s_, 0, none⟩))]) (fun s_ w' => (w'.cell? ⟨gb214, 0, none⟩ = some (.int .i64 a0_0) ∧ w'.cell? ⟨gb214, 1, none⟩ = some (.int .i64 a0_1) ∧ w'.cell? ⟨gb214, 2, none⟩ = some (.int .i64 a0_2) ∧ w'.cell? ⟨gb214, 3, none⟩ = some (.int .i64 a0_3)) ∧ (w'.heap[gb214]? = some (.cells #[.int .i64 a0_0, .int .i64 a0_1, .int .i64 a0_2, .int .i64 a0_3] 26 (0, 0))) ∧ (w'.heap[gb215]? = some (.cells #[.int .i64 a1_0, .int .i64 a1_1, .int .i64 a1_2, .int .i64 a1_3, .bool a1_4] 28 (0, 0))) ∧ (w'.heap[s_]? = some (.cells #[.int .i64 0, .int .i64 0, .int .i64 0, .int .i64 0] 37 (0, 0))) ∧ (w.heap.size ≤ s_) ∧ (w.heap.size ≤ s_) ∧ (gb214 ≠ s_) ∧ (s_ ≠ gb214) ∧ (gb215 ≠ s_) ∧ (s_ ≠ gb215) ∧ (Below w.heap.size w w')) ?_ ?_
              rotate_left
              · intro hJ4
                refine three_ (i := 1) (j := 3) (k := 4) (Ni := some 12) (Nj := some 5) (Nk := some 6) #[true, true, true, false, false, false, false] #[true, false, true, true, false, false, false] #[true, false, true, false, true, false, false] rfl rfl rfl rfl rfl rfl (by kernel_rfl) (by decide) (by decide) (by decide) (fun K hK => ?_) (fun K hK => ?_) (fun K hK => ?_)
                · skip
                  refine goes_ Try.func12 (by kernel_rfl) rfl #[.agg #[.int .i64 a0_0, .int .i64 a0_1, .int .i64 a0_2, .int .i64 a0_3]] (by rfl) rfl rfl (by (try simp only [List.map_toArray, List.map_cons, List.map_nil]); first | done | rfl | (simp only [List.length_drop, List.length_take]; rfl)) ?_
                  with_reducible refine (precinctlaw14_made.calls a0_0 a0_1 a0_2 a0_3 t216 t217 t218 t219 _ A3.out).mono ?_
                  rintro e w10 ⟨rfl, hb⟩
                  refine ⟨_, rfl, ?_⟩
                  have n0_ := Aside0.mk (blk_below (rb BK214.out) hb)
                  have n1_ := Aside0.mk (blk_below (rb BK215.out) hb)
                  have n2_ := Aside0.mk (below_step (by repeat (first | (with_reducible first | exact HB.out | apply below_alloc | apply pw_below_drewN | apply below_drew1 | refine below_set ?_ GE214.out | refine below_set ?_ GE215.out) | exact HB.out)) hb)
                  clear BK214
                  clear BK215
                  clear HB
                  have BK214 := n0_
                  have BK215 := n1_
                  have HB := n2_
                  clear n0_ n1_ n2_
                  (try clear hb)
                  (try clear hb2)
                  (try clear hk)
                  (try clear hi)
                  refine hK.out _ _ ⟨(blk_cell BK214.out 0).trans rfl, (blk_cell BK214.out 1).trans rfl, (blk_cell BK214.out 2).trans rfl, (blk_cell BK214.out 3).trans rfl⟩ (fun hHeld => ?_)
                  clear hK K
                  refine norm_ (a' := ?_) ?_ ?_
                  rotate_left
                  · show Act.put _ (some 12) _ = _
                    simp only [Act.put, List.setIfInBounds_toArray, List.set_cons_zero, List.set_cons_succ, i64_w, i32_w]
                    rfl
                  exact norm_ (by first | (simp only [putAll, Act.put, List.setIfInBounds_toArray, List.set_cons_zero, List.set_cons_succ]; done) | (simp only [putAll, Act.put, List.setIfInBounds_toArray, List.set_cons_zero, List.set_cons_succ]; rfl)) (hJ1 () _ ⟨hHeld, (rb BK214.out), (rb BK215.out), (by repeat (first | (with_reducible first | exact HB.out | apply below_alloc | apply pw_below_drewN | apply below_drew1 | refine below_set ?_ GE214.out | refine below_set ?_ GE215.out) | exact HB.out))⟩)
                · skip
                  refine box_step ?hg (N := 5) ?hd (cs := #[.int .i64 0, .int .i64 0, .int .i64 0, .int .i64 0]) (t := 32) ?hr ?_; (case hd => rfl); (case hg => rfl); (case hr => first | (go_simp; done) | (go_simp; rfl))
                  intro gb220 hg w10 hbox hb
                  have n0_ := Aside0.mk (blk_below (rb BK214.out) hb)
                  have n1_ := Aside0.mk (blk_below (rb BK215.out) hb)
                  have n2_ := Aside0.mk (below_step (by repeat (first | (with_reducible first | exact HB.out | apply below_alloc | apply pw_below_drewN | apply below_drew1 | refine below_set ?_ GE214.out | refine below_set ?_ GE215.out) | exact HB.out)) hb)
                  have n3_ := Aside0.mk (hbox)
                  have n4_ := Aside0.mk ((by rw [hg]; exact (below_size (by repeat (first | (with_reducible first | exact HB.out | apply below_alloc | apply pw_below_drewN | apply below_drew1 | refine below_set ?_ GE214.out | refine below_set ?_ GE215.out) | exact HB.out))) : w.heap.size ≤ gb220))
                  have n5_ := Aside0.mk ((by rw [hg]; exact (below_size (by repeat (first | (with_reducible first | exact HB.out | apply below_alloc | apply pw_below_drewN | apply below_drew1 | refine below_set ?_ GE214.out | refine below_set ?_ GE215.out) | exact HB.out))) : w.heap.size ≤ gb220))
                  have n6_ := Aside0.mk ((by rw [hg]; exact Nat.ne_of_lt (blk_lt (rb BK214.out)) : gb214 ≠ gb220))
                  have n7_ := Aside0.mk ((by rw [hg]; exact Nat.ne_of_gt (blk_lt (rb BK214.out)) : gb220 ≠ gb214))
                  have n8_ := Aside0.mk ((by rw [hg]; exact Nat.ne_of_lt (blk_lt (rb BK215.out)) : gb215 ≠ gb220))
                  have n9_ := Aside0.mk ((by rw [hg]; exact Nat.ne_of_gt (blk_lt (rb BK215.out)) : gb220 ≠ gb215))
                  clear BK214
                  clear BK215
                  clear HB
                  have BK214 := n0_
                  have BK215 := n1_
                  have HB := n2_
                  have BK220 := n3_
                  have GW220 := n4_
                  have GE220 := n5_
                  have NB214_220 := n6_
                  have NB220_214 := n7_
                  have NB215_220 := n8_
                  have NB220_215 := n9_
                  clear n0_ n1_ n2_ n3_ n4_ n5_ n6_ n7_ n8_ n9_
                  clear hb hbox hg
                  refine hK.out _ _ ⟨(blk_cell BK214.out 0).trans rfl, (blk_cell BK214.out 1).trans rfl, (blk_cell BK214.out 2).trans rfl, (blk_cell BK214.out 3).trans rfl⟩ (fun hHeld => ?_)
                  clear hK K
                  refine norm_ (a' := ?_) ?_ ?_
                  rotate_left
                  · show Act.put _ (some 5) _ = _
                    simp only [Act.put, List.setIfInBounds_toArray, List.set_cons_zero, List.set_cons_succ, i64_w, i32_w]
                    rfl
                  exact norm_ (by first | (simp only [putAll, Act.put, List.setIfInBounds_toArray, List.set_cons_zero, List.set_cons_succ]; done) | (simp only [putAll, Act.put, List.setIfInBounds_toArray, List.set_cons_zero, List.set_cons_succ]; rfl)) (hJ3 (gb220) _ ⟨hHeld, (rb BK214.out), (rb BK215.out), (rb BK220.out), GW220.out, GE220.out, NB214_220.out, NB220_214.out, NB215_220.out, NB220_215.out, (by repeat (first | (with_reducible first | exact HB.out | apply below_alloc | apply pw_below_drewN | apply below_drew1 | refine below_set ?_ GE214.out | refine below_set ?_ GE215.out | refine below_set ?_ GE220.out) | exact HB.out))⟩)
                · skip
                  refine box_step ?hg (N := 6) ?hd (cs := #[.int .i64 0, .int .i64 0, .int .i64 0, .int .i64 0]) (t := 37) ?hr ?_; (case hd => rfl); (case hg => rfl); (case hr => first | (go_simp; done) | (go_simp; rfl))
                  intro gb221 hg w10 hbox hb
                  have n0_ := Aside0.mk (blk_below (rb BK214.out) hb)
                  have n1_ := Aside0.mk (blk_below (rb BK215.out) hb)
                  have n2_ := Aside0.mk (below_step (by repeat (first | (with_reducible first | exact HB.out | apply below_alloc | apply pw_below_drewN | apply below_drew1 | refine below_set ?_ GE214.out | refine below_set ?_ GE215.out) | exact HB.out)) hb)
                  have n3_ := Aside0.mk (hbox)
                  have n4_ := Aside0.mk ((by rw [hg]; exact (below_size (by repeat (first | (with_reducible first | exact HB.out | apply below_alloc | apply pw_below_drewN | apply below_drew1 | refine below_set ?_ GE214.out | refine below_set ?_ GE215.out) | exact HB.out))) : w.heap.size ≤ gb221))
                  have n5_ := Aside0.mk ((by rw [hg]; exact (below_size (by repeat (first | (with_reducible first | exact HB.out | apply below_alloc | apply pw_below_drewN | apply below_drew1 | refine below_set ?_ GE214.out | refine below_set ?_ GE215.out) | exact HB.out))) : w.heap.size ≤ gb221))
                  have n6_ := Aside0.mk ((by rw [hg]; exact Nat.ne_of_lt (blk_lt (rb BK214.out)) : gb214 ≠ gb221))
                  have n7_ := Aside0.mk ((by rw [hg]; exact Nat.ne_of_gt (blk_lt (rb BK214.out)) : gb221 ≠ gb214))
                  have n8_ := Aside0.mk ((by rw [hg]; exact Nat.ne_of_lt (blk_lt (rb BK215.out)) : gb215 ≠ gb221))
                  have n9_ := Aside0.mk ((by rw [hg]; exact Nat.ne_of_gt (blk_lt (rb BK215.out)) : gb221 ≠ gb215))
                  clear BK214
                  clear BK215
                  clear HB
                  have BK214 := n0_
                  have BK215 := n1_
                  have HB := n2_
                  have BK221 := n3_
                  have GW221 := n4_
                  have GE221 := n5_
                  have NB214_221 := n6_
                  have NB221_214 := n7_
                  have NB215_221 := n8_
                  have NB221_215 := n9_
                  clear n0_ n1_ n2_ n3_ n4_ n5_ n6_ n7_ n8_ n9_
                  clear hb hbox hg
                  refine hK.out _ _ ⟨(blk_cell BK214.out 0).trans rfl, (blk_cell BK214.out 1).trans rfl, (blk_cell BK214.out 2).trans rfl, (blk_cell BK214.out 3).trans rfl⟩ (fun hHeld => ?_)
                  clear hK K
                  refine norm_ (a' := ?_) ?_ ?_
                  rotate_left
                  · show Act.put _ (some 6) _ = _
                    simp only [Act.put, List.setIfInBounds_toArray, List.set_cons_zero, List.set_cons_succ, i64_w, i32_w]
                    rfl
                  exact norm_ (by first | (simp only [putAll, Act.put, List.setIfInBounds_toArray, List.set_cons_zero, List.set_cons_succ]; done) | (simp only [putAll, Act.put, List.setIfInBounds_toArray, List.set_cons_zero, List.set_cons_succ]; rfl)) (hJ4 (gb221) _ ⟨hHeld, (rb BK214.out), (rb BK215.out), (rb BK221.out), GW221.out, GE221.out, NB214_221.out, NB221_214.out, NB215_221.out, NB221_215.out, (by repeat (first | (with_reducible first | exact HB.out | apply below_alloc | apply pw_below_drewN | apply below_drew1 | refine below_set ?_ GE214.out | refine below_set ?_ GE215.out | refine below_set ?_ GE221.out) | exact HB.out))⟩)
              · skip
                rintro gb221 w11 ⟨hS_, h0_, h1_, h2_, h3_, h4_, h5_, h6_, h7_, h8_, h9_⟩
                have n0_ : Aside0 (w11.heap[gb214]? = some (.cells #[.int .i64 a0_0, .int .i64 a0_1, .int .i64 a0_2, .int .i64 a0_3] 26 (0, 0))) := ⟨h0_⟩
                have n1_ : Aside0 (w11.heap[gb215]? = some (.cells #[.int .i64 a1_0, .int .i64 a1_1, .int .i64 a1_2, .int .i64 a1_3, .bool a1_4] 28 (0, 0))) := ⟨h1_⟩
                have n2_ : Aside0 (w11.heap[gb221]? = some (.cells #[.int .i64 0, .int .i64 0, .int .i64 0, .int .i64 0] 37 (0, 0))) := ⟨h2_⟩
                have n3_ : Aside0 (w.heap.size ≤ gb221) := ⟨h3_⟩
                have n4_ : Aside0 (w.heap.size ≤ gb221) := ⟨h4_⟩
                have n5_ : Aside0 (gb214 ≠ gb221) := ⟨h5_⟩
                have n6_ : Aside0 (gb221 ≠ gb214) := ⟨h6_⟩
                have n7_ : Aside0 (gb215 ≠ gb221) := ⟨h7_⟩
                have n8_ : Aside0 (gb221 ≠ gb215) := ⟨h8_⟩
                have n9_ : Aside0 (Below w.heap.size w w11) := ⟨h9_⟩
                clear BK214
                clear BK215
                clear HB
                clear h0_ h1_ h2_ h3_ h4_ h5_ h6_ h7_ h8_ h9_
                have BK214 := n0_
                have BK215 := n1_
                have BK221 := n2_
                have GW221 := n3_
                have GE221 := n4_
                have NB214_221 := n5_
                have NB221_214 := n6_
                have NB215_221 := n7_
                have NB221_215 := n8_
                have HB := n9_
                clear n0_ n1_ n2_ n3_ n4_ n5_ n6_ n7_ n8_ n9_
                have hHeld : w11.cell? ⟨gb214, 0, none⟩ = some (.int .i64 a0_0) ∧ w11.cell? ⟨gb214, 1, none⟩ = some (.int .i64 a0_1) ∧ w11.cell? ⟨gb214, 2, none⟩ = some (.int .i64 a0_2) ∧ w11.cell? ⟨gb214, 3, none⟩ = some (.int .i64 a0_3) := hS_
                refine norm_ (a' := ?_) ?_ ?_
                rotate_left
                · simp only [putAll, Act.put, List.setIfInBounds_toArray, List.set_cons_zero, List.set_cons_succ]
                  rfl
                refine two_ (i := 1) (j := 3) (Ni := some 12) (Nj := some 5) #[true, true, true, false, true, false, false] #[true, false, true, true, true, false, false] rfl rfl rfl rfl (by kernel_rfl) (by decide) (by decide) (fun K hK => ?_) (fun K hK => ?_)
                · skip
                  refine goes_ Try.func12 (by kernel_rfl) rfl #[.agg #[.int .i64 a0_0, .int .i64 a0_1, .int .i64 a0_2, .int .i64 a0_3]] (by rfl) rfl rfl (by (try simp only [List.map_toArray, List.map_cons, List.map_nil]); first | done | rfl | (simp only [List.length_drop, List.length_take]; rfl)) ?_
                  with_reducible refine (precinctlaw14_made.calls a0_0 a0_1 a0_2 a0_3 t216 t217 t218 t219 _ A3.out).mono ?_
                  rintro e w12 ⟨rfl, hb⟩
                  refine ⟨_, rfl, ?_⟩
                  have n0_ := Aside0.mk (blk_below (rb BK214.out) hb)
                  have n1_ := Aside0.mk (blk_below (rb BK215.out) hb)
                  have n2_ := Aside0.mk (blk_below (rb BK221.out) hb)
                  have n3_ := Aside0.mk (below_step (by repeat (first | (with_reducible first | exact HB.out | apply below_alloc | apply pw_below_drewN | apply below_drew1 | refine below_set ?_ GE214.out | refine below_set ?_ GE215.out | refine below_set ?_ GE221.out) | exact HB.out)) hb)
                  clear BK214
                  clear BK215
                  clear BK221
                  clear HB
                  have BK214 := n0_
                  have BK215 := n1_
                  have BK221 := n2_
                  have HB := n3_
                  clear n0_ n1_ n2_ n3_
                  (try clear hb)
                  (try clear hb2)
                  (try clear hk)
                  (try clear hi)
                  refine hK.out _ _ ⟨(blk_cell BK214.out 0).trans rfl, (blk_cell BK214.out 1).trans rfl, (blk_cell BK214.out 2).trans rfl, (blk_cell BK214.out 3).trans rfl⟩ (fun hHeld => ?_)
                  clear hK K
                  refine norm_ (a' := ?_) ?_ ?_
                  rotate_left
                  · show Act.put _ (some 12) _ = _
                    simp only [Act.put, List.setIfInBounds_toArray, List.set_cons_zero, List.set_cons_succ, i64_w, i32_w]
                    rfl
                  exact norm_ (by first | (simp only [putAll, Act.put, List.setIfInBounds_toArray, List.set_cons_zero, List.set_cons_succ]; done) | (simp only [putAll, Act.put, List.setIfInBounds_toArray, List.set_cons_zero, List.set_cons_succ]; rfl)) (hJ1_4 (gb221) _ ⟨hHeld, (rb BK214.out), (rb BK215.out), (rb BK221.out), GW221.out, GE221.out, NB214_221.out, NB221_214.out, NB215_221.out, NB221_215.out, (by repeat (first | (with_reducible first | exact HB.out | apply below_alloc | apply pw_below_drewN | apply below_drew1 | refine below_set ?_ GE214.out | refine below_set ?_ GE215.out | refine below_set ?_ GE221.out) | exact HB.out))⟩)
                · skip
                  refine box_step ?hg (N := 5) ?hd (cs := #[.int .i64 0, .int .i64 0, .int .i64 0, .int .i64 0]) (t := 32) ?hr ?_; (case hd => rfl); (case hg => rfl); (case hr => first | (go_simp; done) | (go_simp; rfl))
                  intro gb220 hg w12 hbox hb
                  have n0_ := Aside0.mk (blk_below (rb BK214.out) hb)
                  have n1_ := Aside0.mk (blk_below (rb BK215.out) hb)
                  have n2_ := Aside0.mk (blk_below (rb BK221.out) hb)
                  have n3_ := Aside0.mk (below_step (by repeat (first | (with_reducible first | exact HB.out | apply below_alloc | apply pw_below_drewN | apply below_drew1 | refine below_set ?_ GE214.out | refine below_set ?_ GE215.out | refine below_set ?_ GE221.out) | exact HB.out)) hb)
                  have n4_ := Aside0.mk (hbox)
                  have n5_ := Aside0.mk ((by rw [hg]; exact (below_size (by repeat (first | (with_reducible first | exact HB.out | apply below_alloc | apply pw_below_drewN | apply below_drew1 | refine below_set ?_ GE214.out | refine below_set ?_ GE215.out | refine below_set ?_ GE221.out) | exact HB.out))) : w.heap.size ≤ gb220))
                  have n6_ := Aside0.mk ((by rw [hg]; exact (below_size (by repeat (first | (with_reducible first | exact HB.out | apply below_alloc | apply pw_below_drewN | apply below_drew1 | refine below_set ?_ GE214.out | refine below_set ?_ GE215.out | refine below_set ?_ GE221.out) | exact HB.out))) : w.heap.size ≤ gb220))
                  have n7_ := Aside0.mk ((by rw [hg]; exact Nat.ne_of_lt (blk_lt (rb BK214.out)) : gb214 ≠ gb220))
                  have n8_ := Aside0.mk ((by rw [hg]; exact Nat.ne_of_gt (blk_lt (rb BK214.out)) : gb220 ≠ gb214))
                  have n9_ := Aside0.mk ((by rw [hg]; exact Nat.ne_of_lt (blk_lt (rb BK215.out)) : gb215 ≠ gb220))
                  have n10_ := Aside0.mk ((by rw [hg]; exact Nat.ne_of_gt (blk_lt (rb BK215.out)) : gb220 ≠ gb215))
                  have n11_ := Aside0.mk ((by rw [hg]; exact Nat.ne_of_lt (blk_lt (rb BK221.out)) : gb221 ≠ gb220))
                  have n12_ := Aside0.mk ((by rw [hg]; exact Nat.ne_of_gt (blk_lt (rb BK221.out)) : gb220 ≠ gb221))
                  clear BK214
                  clear BK215
                  clear BK221
                  clear HB
                  have BK214 := n0_
                  have BK215 := n1_
                  have BK221 := n2_
                  have HB := n3_
                  have BK220 := n4_
                  have GW220 := n5_
                  have GE220 := n6_
                  have NB214_220 := n7_
                  have NB220_214 := n8_
                  have NB215_220 := n9_
                  have NB220_215 := n10_
                  have NB221_220 := n11_
                  have NB220_221 := n12_
                  clear n0_ n1_ n2_ n3_ n4_ n5_ n6_ n7_ n8_ n9_ n10_ n11_ n12_
                  clear hb hbox hg
                  refine hK.out _ _ ⟨(blk_cell BK214.out 0).trans rfl, (blk_cell BK214.out 1).trans rfl, (blk_cell BK214.out 2).trans rfl, (blk_cell BK214.out 3).trans rfl⟩ (fun hHeld => ?_)
                  clear hK K
                  refine norm_ (a' := ?_) ?_ ?_
                  rotate_left
                  · show Act.put _ (some 5) _ = _
                    simp only [Act.put, List.setIfInBounds_toArray, List.set_cons_zero, List.set_cons_succ, i64_w, i32_w]
                    rfl
                  exact norm_ (by first | (simp only [putAll, Act.put, List.setIfInBounds_toArray, List.set_cons_zero, List.set_cons_succ]; done) | (simp only [putAll, Act.put, List.setIfInBounds_toArray, List.set_cons_zero, List.set_cons_succ]; rfl)) (hJ3_4 (gb220, gb221) _ ⟨hHeld, (rb BK214.out), (rb BK215.out), (rb BK220.out), (rb BK221.out), GW220.out, GE220.out, NB214_220.out, NB220_214.out, NB215_220.out, NB220_215.out, NB221_220.out, NB220_221.out, GW221.out, GE221.out, NB214_221.out, NB221_214.out, NB215_221.out, NB221_215.out, (by repeat (first | (with_reducible first | exact HB.out | apply below_alloc | apply pw_below_drewN | apply below_drew1 | refine below_set ?_ GE214.out | refine below_set ?_ GE215.out | refine below_set ?_ GE221.out | refine below_set ?_ GE220.out) | exact HB.out))⟩)
            · skip
              rintro gb220 w11 ⟨hS_, h0_, h1_, h2_, h3_, h4_, h5_, h6_, h7_, h8_, h9_⟩
              have n0_ : Aside0 (w11.heap[gb214]? = some (.cells #[.int .i64 a0_0, .int .i64 a0_1, .int .i64 a0_2, .int .i64 a0_3] 26 (0, 0))) := ⟨h0_⟩
              have n1_ : Aside0 (w11.heap[gb215]? = some (.cells #[.int .i64 a1_0, .int .i64 a1_1, .int .i64 a1_2, .int .i64 a1_3, .bool a1_4] 28 (0, 0))) := ⟨h1_⟩
              have n2_ : Aside0 (w11.heap[gb220]? = some (.cells #[.int .i64 0, .int .i64 0, .int .i64 0, .int .i64 0] 32 (0, 0))) := ⟨h2_⟩
              have n3_ : Aside0 (w.heap.size ≤ gb220) := ⟨h3_⟩
              have n4_ : Aside0 (w.heap.size ≤ gb220) := ⟨h4_⟩
              have n5_ : Aside0 (gb214 ≠ gb220) := ⟨h5_⟩
              have n6_ : Aside0 (gb220 ≠ gb214) := ⟨h6_⟩
              have n7_ : Aside0 (gb215 ≠ gb220) := ⟨h7_⟩
              have n8_ : Aside0 (gb220 ≠ gb215) := ⟨h8_⟩
              have n9_ : Aside0 (Below w.heap.size w w11) := ⟨h9_⟩
              clear BK214
              clear BK215
              clear HB
              clear h0_ h1_ h2_ h3_ h4_ h5_ h6_ h7_ h8_ h9_
              have BK214 := n0_
              have BK215 := n1_
              have BK220 := n2_
              have GW220 := n3_
              have GE220 := n4_
              have NB214_220 := n5_
              have NB220_214 := n6_
              have NB215_220 := n7_
              have NB220_215 := n8_
              have HB := n9_
              clear n0_ n1_ n2_ n3_ n4_ n5_ n6_ n7_ n8_ n9_
              have hHeld : w11.cell? ⟨gb214, 0, none⟩ = some (.int .i64 a0_0) ∧ w11.cell? ⟨gb214, 1, none⟩ = some (.int .i64 a0_1) ∧ w11.cell? ⟨gb214, 2, none⟩ = some (.int .i64 a0_2) ∧ w11.cell? ⟨gb214, 3, none⟩ = some (.int .i64 a0_3) := hS_
              refine norm_ (a' := ?_) ?_ ?_
              rotate_left
              · simp only [putAll, Act.put, List.setIfInBounds_toArray, List.set_cons_zero, List.set_cons_succ]
                rfl
              refine two_ (i := 1) (j := 4) (Ni := some 12) (Nj := some 6) #[true, true, true, true, false, false, false] #[true, false, true, true, true, false, false] rfl rfl rfl rfl (by kernel_rfl) (by decide) (by decide) (fun K hK => ?_) (fun K hK => ?_)
              · skip
                refine goes_ Try.func12 (by kernel_rfl) rfl #[.agg #[.int .i64 a0_0, .int .i64 a0_1, .int .i64 a0_2, .int .i64 a0_3]] (by rfl) rfl rfl (by (try simp only [List.map_toArray, List.map_cons, List.map_nil]); first | done | rfl | (simp only [List.length_drop, List.length_take]; rfl)) ?_
                with_reducible refine (precinctlaw14_made.calls a0_0 a0_1 a0_2 a0_3 t216 t217 t218 t219 _ A3.out).mono ?_
                rintro e w12 ⟨rfl, hb⟩
                refine ⟨_, rfl, ?_⟩
                have n0_ := Aside0.mk (blk_below (rb BK214.out) hb)
                have n1_ := Aside0.mk (blk_below (rb BK215.out) hb)
                have n2_ := Aside0.mk (blk_below (rb BK220.out) hb)
                have n3_ := Aside0.mk (below_step (by repeat (first | (with_reducible first | exact HB.out | apply below_alloc | apply pw_below_drewN | apply below_drew1 | refine below_set ?_ GE214.out | refine below_set ?_ GE215.out | refine below_set ?_ GE220.out) | exact HB.out)) hb)
                clear BK214
                clear BK215
                clear BK220
                clear HB
                have BK214 := n0_
                have BK215 := n1_
                have BK220 := n2_
                have HB := n3_
                clear n0_ n1_ n2_ n3_
                (try clear hb)
                (try clear hb2)
                (try clear hk)
                (try clear hi)
                refine hK.out _ _ ⟨(blk_cell BK214.out 0).trans rfl, (blk_cell BK214.out 1).trans rfl, (blk_cell BK214.out 2).trans rfl, (blk_cell BK214.out 3).trans rfl⟩ (fun hHeld => ?_)
                clear hK K
                refine norm_ (a' := ?_) ?_ ?_
                rotate_left
                · show Act.put _ (some 12) _ = _
                  simp only [Act.put, List.setIfInBounds_toArray, List.set_cons_zero, List.set_cons_succ, i64_w, i32_w]
                  rfl
                exact norm_ (by first | (simp only [putAll, Act.put, List.setIfInBounds_toArray, List.set_cons_zero, List.set_cons_succ]; done) | (simp only [putAll, Act.put, List.setIfInBounds_toArray, List.set_cons_zero, List.set_cons_succ]; rfl)) (hJ1_3 (gb220) _ ⟨hHeld, (rb BK214.out), (rb BK215.out), (rb BK220.out), GW220.out, GE220.out, NB214_220.out, NB220_214.out, NB215_220.out, NB220_215.out, (by repeat (first | (with_reducible first | exact HB.out | apply below_alloc | apply pw_below_drewN | apply below_drew1 | refine below_set ?_ GE214.out | refine below_set ?_ GE215.out | refine below_set ?_ GE220.out) | exact HB.out))⟩)
              · skip
                refine box_step ?hg (N := 6) ?hd (cs := #[.int .i64 0, .int .i64 0, .int .i64 0, .int .i64 0]) (t := 37) ?hr ?_; (case hd => rfl); (case hg => rfl); (case hr => first | (go_simp; done) | (go_simp; rfl))
                intro gb221 hg w12 hbox hb
                have n0_ := Aside0.mk (blk_below (rb BK214.out) hb)
                have n1_ := Aside0.mk (blk_below (rb BK215.out) hb)
                have n2_ := Aside0.mk (blk_below (rb BK220.out) hb)
                have n3_ := Aside0.mk (below_step (by repeat (first | (with_reducible first | exact HB.out | apply below_alloc | apply pw_below_drewN | apply below_drew1 | refine below_set ?_ GE214.out | refine below_set ?_ GE215.out | refine below_set ?_ GE220.out) | exact HB.out)) hb)
                have n4_ := Aside0.mk (hbox)
                have n5_ := Aside0.mk ((by rw [hg]; exact (below_size (by repeat (first | (with_reducible first | exact HB.out | apply below_alloc | apply pw_below_drewN | apply below_drew1 | refine below_set ?_ GE214.out | refine below_set ?_ GE215.out | refine below_set ?_ GE220.out) | exact HB.out))) : w.heap.size ≤ gb221))
                have n6_ := Aside0.mk ((by rw [hg]; exact (below_size (by repeat (first | (with_reducible first | exact HB.out | apply below_alloc | apply pw_below_drewN | apply below_drew1 | refine below_set ?_ GE214.out | refine below_set ?_ GE215.out | refine below_set ?_ GE220.out) | exact HB.out))) : w.heap.size ≤ gb221))
                have n7_ := Aside0.mk ((by rw [hg]; exact Nat.ne_of_lt (blk_lt (rb BK214.out)) : gb214 ≠ gb221))
                have n8_ := Aside0.mk ((by rw [hg]; exact Nat.ne_of_gt (blk_lt (rb BK214.out)) : gb221 ≠ gb214))
                have n9_ := Aside0.mk ((by rw [hg]; exact Nat.ne_of_lt (blk_lt (rb BK215.out)) : gb215 ≠ gb221))
                have n10_ := Aside0.mk ((by rw [hg]; exact Nat.ne_of_gt (blk_lt (rb BK215.out)) : gb221 ≠ gb215))
                have n11_ := Aside0.mk ((by rw [hg]; exact Nat.ne_of_lt (blk_lt (rb BK220.out)) : gb220 ≠ gb221))
                have n12_ := Aside0.mk ((by rw [hg]; exact Nat.ne_of_gt (blk_lt (rb BK220.out)) : gb221 ≠ gb220))
                clear BK214
                clear BK215
                clear BK220
                clear HB
                have BK214 := n0_
                have BK215 := n1_
                have BK220 := n2_
                have HB := n3_
                have BK221 := n4_
                have GW221 := n5_
                have GE221 := n6_
                have NB214_221 := n7_
                have NB221_214 := n8_
                have NB215_221 := n9_
                have NB221_215 := n10_
                have NB220_221 := n11_
                have NB221_220 := n12_
                clear n0_ n1_ n2_ n3_ n4_ n5_ n6_ n7_ n8_ n9_ n10_ n11_ n12_
                clear hb hbox hg
                refine hK.out _ _ ⟨(blk_cell BK214.out 0).trans rfl, (blk_cell BK214.out 1).trans rfl, (blk_cell BK214.out 2).trans rfl, (blk_cell BK214.out 3).trans rfl⟩ (fun hHeld => ?_)
                clear hK K
                refine norm_ (a' := ?_) ?_ ?_
                rotate_left
                · show Act.put _ (some 6) _ = _
                  simp only [Act.put, List.setIfInBounds_toArray, List.set_cons_zero, List.set_cons_succ, i64_w, i32_w]
                  rfl
                exact norm_ (by first | (simp only [putAll, Act.put, List.setIfInBounds_toArray, List.set_cons_zero, List.set_cons_succ]; done) | (simp only [putAll, Act.put, List.setIfInBounds_toArray, List.set_cons_zero, List.set_cons_succ]; rfl)) (hJ3_4 (gb220, gb221) _ ⟨hHeld, (rb BK214.out), (rb BK215.out), (rb BK220.out), (rb BK221.out), GW220.out, GE220.out, NB214_220.out, NB220_214.out, NB215_220.out, NB220_215.out, NB221_220.out, NB220_221.out, GW221.out, GE221.out, NB214_221.out, NB221_214.out, NB215_221.out, NB221_215.out, (by repeat (first | (with_reducible first | exact HB.out | apply below_alloc | apply pw_below_drewN | apply below_drew1 | refine below_set ?_ GE214.out | refine below_set ?_ GE215.out | refine below_set ?_ GE220.out | refine below_set ?_ GE221.out) | exact HB.out))⟩)
          · skip
            rintro _ w11 ⟨hS_, h0_, h1_, h2_⟩
            have n0_ : Aside0 (w11.heap[gb214]? = some (.cells #[.int .i64 a0_0, .int .i64 a0_1, .int .i64 a0_2, .int .i64 a0_3] 26 (0, 0))) := ⟨h0_⟩
            have n1_ : Aside0 (w11.heap[gb215]? = some (.cells #[.int .i64 a1_0, .int .i64 a1_1, .int .i64 a1_2, .int .i64 a1_3, .bool a1_4] 28 (0, 0))) := ⟨h1_⟩
            have n2_ : Aside0 (Below w.heap.size w w11) := ⟨h2_⟩
            clear BK214
            clear BK215
            clear HB
            clear h0_ h1_ h2_
            have BK214 := n0_
            have BK215 := n1_
            have HB := n2_
            clear n0_ n1_ n2_
            have hHeld : w11.cell? ⟨gb214, 0, none⟩ = some (.int .i64 a0_0) ∧ w11.cell? ⟨gb214, 1, none⟩ = some (.int .i64 a0_1) ∧ w11.cell? ⟨gb214, 2, none⟩ = some (.int .i64 a0_2) ∧ w11.cell? ⟨gb214, 3, none⟩ = some (.int .i64 a0_3) := hS_
            refine norm_ (a' := ?_) ?_ ?_
            rotate_left
            · simp only [putAll, Act.put, List.setIfInBounds_toArray, List.set_cons_zero, List.set_cons_succ]
              rfl
            refine two_ (i := 3) (j := 4) (Ni := some 5) (Nj := some 6) #[true, true, true, true, false, false, false] #[true, true, true, false, true, false, false] rfl rfl rfl rfl (by kernel_rfl) (by decide) (by decide) (fun K hK => ?_) (fun K hK => ?_)
            · skip
              refine box_step ?hg (N := 5) ?hd (cs := #[.int .i64 0, .int .i64 0, .int .i64 0, .int .i64 0]) (t := 32) ?hr ?_; (case hd => rfl); (case hg => rfl); (case hr => first | (go_simp; done) | (go_simp; rfl))
              intro gb220 hg w12 hbox hb
              have n0_ := Aside0.mk (blk_below (rb BK214.out) hb)
              have n1_ := Aside0.mk (blk_below (rb BK215.out) hb)
              have n2_ := Aside0.mk (below_step (by repeat (first | (with_reducible first | exact HB.out | apply below_alloc | apply pw_below_drewN | apply below_drew1 | refine below_set ?_ GE214.out | refine below_set ?_ GE215.out) | exact HB.out)) hb)
              have n3_ := Aside0.mk (hbox)
              have n4_ := Aside0.mk ((by rw [hg]; exact (below_size (by repeat (first | (with_reducible first | exact HB.out | apply below_alloc | apply pw_below_drewN | apply below_drew1 | refine below_set ?_ GE214.out | refine below_set ?_ GE215.out) | exact HB.out))) : w.heap.size ≤ gb220))
              have n5_ := Aside0.mk ((by rw [hg]; exact (below_size (by repeat (first | (with_reducible first | exact HB.out | apply below_alloc | apply pw_below_drewN | apply below_drew1 | refine below_set ?_ GE214.out | refine below_set ?_ GE215.out) | exact HB.out))) : w.heap.size ≤ gb220))
              have n6_ := Aside0.mk ((by rw [hg]; exact Nat.ne_of_lt (blk_lt (rb BK214.out)) : gb214 ≠ gb220))
              have n7_ := Aside0.mk ((by rw [hg]; exact Nat.ne_of_gt (blk_lt (rb BK214.out)) : gb220 ≠ gb214))
              have n8_ := Aside0.mk ((by rw [hg]; exact Nat.ne_of_lt (blk_lt (rb BK215.out)) : gb215 ≠ gb220))
              have n9_ := Aside0.mk ((by rw [hg]; exact Nat.ne_of_gt (blk_lt (rb BK215.out)) : gb220 ≠ gb215))
              clear BK214
              clear BK215
              clear HB
              have BK214 := n0_
              have BK215 := n1_
              have HB := n2_
              have BK220 := n3_
              have GW220 := n4_
              have GE220 := n5_
              have NB214_220 := n6_
              have NB220_214 := n7_
              have NB215_220 := n8_
              have NB220_215 := n9_
              clear n0_ n1_ n2_ n3_ n4_ n5_ n6_ n7_ n8_ n9_
              clear hb hbox hg
              refine hK.out _ _ ⟨(blk_cell BK214.out 0).trans rfl, (blk_cell BK214.out 1).trans rfl, (blk_cell BK214.out 2).trans rfl, (blk_cell BK214.out 3).trans rfl⟩ (fun hHeld => ?_)
              clear hK K
              refine norm_ (a' := ?_) ?_ ?_
              rotate_left
              · show Act.put _ (some 5) _ = _
                simp only [Act.put, List.setIfInBounds_toArray, List.set_cons_zero, List.set_cons_succ, i64_w, i32_w]
                rfl
              exact norm_ (by first | (simp only [putAll, Act.put, List.setIfInBounds_toArray, List.set_cons_zero, List.set_cons_succ]; done) | (simp only [putAll, Act.put, List.setIfInBounds_toArray, List.set_cons_zero, List.set_cons_succ]; rfl)) (hJ1_3 (gb220) _ ⟨hHeld, (rb BK214.out), (rb BK215.out), (rb BK220.out), GW220.out, GE220.out, NB214_220.out, NB220_214.out, NB215_220.out, NB220_215.out, (by repeat (first | (with_reducible first | exact HB.out | apply below_alloc | apply pw_below_drewN | apply below_drew1 | refine below_set ?_ GE214.out | refine below_set ?_ GE215.out | refine below_set ?_ GE220.out) | exact HB.out))⟩)
            · skip
              refine box_step ?hg (N := 6) ?hd (cs := #[.int .i64 0, .int .i64 0, .int .i64 0, .int .i64 0]) (t := 37) ?hr ?_; (case hd => rfl); (case hg => rfl); (case hr => first | (go_simp; done) | (go_simp; rfl))
              intro gb221 hg w12 hbox hb
              have n0_ := Aside0.mk (blk_below (rb BK214.out) hb)
              have n1_ := Aside0.mk (blk_below (rb BK215.out) hb)
              have n2_ := Aside0.mk (below_step (by repeat (first | (with_reducible first | exact HB.out | apply below_alloc | apply pw_below_drewN | apply below_drew1 | refine below_set ?_ GE214.out | refine below_set ?_ GE215.out) | exact HB.out)) hb)
              have n3_ := Aside0.mk (hbox)
              have n4_ := Aside0.mk ((by rw [hg]; exact (below_size (by repeat (first | (with_reducible first | exact HB.out | apply below_alloc | apply pw_below_drewN | apply below_drew1 | refine below_set ?_ GE214.out | refine below_set ?_ GE215.out) | exact HB.out))) : w.heap.size ≤ gb221))
              have n5_ := Aside0.mk ((by rw [hg]; exact (below_size (by repeat (first | (with_reducible first | exact HB.out | apply below_alloc | apply pw_below_drewN | apply below_drew1 | refine below_set ?_ GE214.out | refine below_set ?_ GE215.out) | exact HB.out))) : w.heap.size ≤ gb221))
              have n6_ := Aside0.mk ((by rw [hg]; exact Nat.ne_of_lt (blk_lt (rb BK214.out)) : gb214 ≠ gb221))
              have n7_ := Aside0.mk ((by rw [hg]; exact Nat.ne_of_gt (blk_lt (rb BK214.out)) : gb221 ≠ gb214))
              have n8_ := Aside0.mk ((by rw [hg]; exact Nat.ne_of_lt (blk_lt (rb BK215.out)) : gb215 ≠ gb221))
              have n9_ := Aside0.mk ((by rw [hg]; exact Nat.ne_of_gt (blk_lt (rb BK215.out)) : gb221 ≠ gb215))
              clear BK214
              clear BK215
              clear HB
              have BK214 := n0_
              have BK215 := n1_
              have HB := n2_
              have BK221 := n3_
              have GW221 := n4_
              have GE221 := n5_
              have NB214_221 := n6_
              have NB221_214 := n7_
              have NB215_221 := n8_
              have NB221_215 := n9_
              clear n0_ n1_ n2_ n3_ n4_ n5_ n6_ n7_ n8_ n9_
              clear hb hbox hg
              refine hK.out _ _ ⟨(blk_cell BK214.out 0).trans rfl, (blk_cell BK214.out 1).trans rfl, (blk_cell BK214.out 2).trans rfl, (blk_cell BK214.out 3).trans rfl⟩ (fun hHeld => ?_)
              clear hK K
              refine norm_ (a' := ?_) ?_ ?_
              rotate_left
              · show Act.put _ (some 6) _ = _
                simp only [Act.put, List.setIfInBounds_toArray, List.set_cons_zero, List.set_cons_succ, i64_w, i32_w]
                rfl
              exact norm_ (by first | (simp only [putAll, Act.put, List.setIfInBounds_toArray, List.set_cons_zero, List.set_cons_succ]; done) | (simp only [putAll, Act.put, List.setIfInBounds_toArray, List.set_cons_zero, List.set_cons_succ]; rfl)) (hJ1_4 (gb221) _ ⟨hHeld, (rb BK214.out), (rb BK215.out), (rb BK221.out), GW221.out, GE221.out, NB214_221.out, NB221_214.out, NB215_221.out, NB221_215.out, (by repeat (first | (with_reducible first | exact HB.out | apply below_alloc | apply pw_below_drewN | apply below_drew1 | refine below_set ?_ GE214.out | refine below_set ?_ GE215.out | refine below_set ?_ GE221.out) | exact HB.out))⟩)
        · skip
          rintro ⟨gb220, gb221⟩ w12 ⟨hS_, h0_, h1_, h2_, h3_, h4_, h5_, h6_, h7_, h8_, h9_, h10_, h11_, h12_, h13_, h14_, h15_, h16_, h17_, h18_⟩
          have n0_ : Aside0 (w12.heap[gb214]? = some (.cells #[.int .i64 a0_0, .int .i64 a0_1, .int .i64 a0_2, .int .i64 a0_3] 26 (0, 0))) := ⟨h0_⟩
          have n1_ : Aside0 (w12.heap[gb215]? = some (.cells #[.int .i64 a1_0, .int .i64 a1_1, .int .i64 a1_2, .int .i64 a1_3, .bool a1_4] 28 (0, 0))) := ⟨h1_⟩
          have n2_ : Aside0 (w12.heap[gb220]? = some (.cells #[.int .i64 0, .int .i64 0, .int .i64 0, .int .i64 0] 32 (0, 0))) := ⟨h2_⟩
          have n3_ : Aside0 (w12.heap[gb221]? = some (.cells #[.int .i64 0, .int .i64 0, .int .i64 0, .int .i64 0] 37 (0, 0))) := ⟨h3_⟩
          have n4_ : Aside0 (w.heap.size ≤ gb220) := ⟨h4_⟩
          have n5_ : Aside0 (w.heap.size ≤ gb220) := ⟨h5_⟩
          have n6_ : Aside0 (gb214 ≠ gb220) := ⟨h6_⟩
          have n7_ : Aside0 (gb220 ≠ gb214) := ⟨h7_⟩
          have n8_ : Aside0 (gb215 ≠ gb220) := ⟨h8_⟩
          have n9_ : Aside0 (gb220 ≠ gb215) := ⟨h9_⟩
          have n10_ : Aside0 (gb221 ≠ gb220) := ⟨h10_⟩
          have n11_ : Aside0 (gb220 ≠ gb221) := ⟨h11_⟩
          have n12_ : Aside0 (w.heap.size ≤ gb221) := ⟨h12_⟩
          have n13_ : Aside0 (w.heap.size ≤ gb221) := ⟨h13_⟩
          have n14_ : Aside0 (gb214 ≠ gb221) := ⟨h14_⟩
          have n15_ : Aside0 (gb221 ≠ gb214) := ⟨h15_⟩
          have n16_ : Aside0 (gb215 ≠ gb221) := ⟨h16_⟩
          have n17_ : Aside0 (gb221 ≠ gb215) := ⟨h17_⟩
          have n18_ : Aside0 (Below w.heap.size w w12) := ⟨h18_⟩
          clear BK214
          clear BK215
          clear HB
          clear h0_ h1_ h2_ h3_ h4_ h5_ h6_ h7_ h8_ h9_ h10_ h11_ h12_ h13_ h14_ h15_ h16_ h17_ h18_
          have BK214 := n0_
          have BK215 := n1_
          have BK220 := n2_
          have BK221 := n3_
          have GW220 := n4_
          have GE220 := n5_
          have NB214_220 := n6_
          have NB220_214 := n7_
          have NB215_220 := n8_
          have NB220_215 := n9_
          have NB221_220 := n10_
          have NB220_221 := n11_
          have GW221 := n12_
          have GE221 := n13_
          have NB214_221 := n14_
          have NB221_214 := n15_
          have NB215_221 := n16_
          have NB221_215 := n17_
          have HB := n18_
          clear n0_ n1_ n2_ n3_ n4_ n5_ n6_ n7_ n8_ n9_ n10_ n11_ n12_ n13_ n14_ n15_ n16_ n17_ n18_
          have hHeld : w12.cell? ⟨gb214, 0, none⟩ = some (.int .i64 a0_0) ∧ w12.cell? ⟨gb214, 1, none⟩ = some (.int .i64 a0_1) ∧ w12.cell? ⟨gb214, 2, none⟩ = some (.int .i64 a0_2) ∧ w12.cell? ⟨gb214, 3, none⟩ = some (.int .i64 a0_3) := hS_
          refine norm_ (a' := ?_) ?_ ?_
          rotate_left
          · simp only [putAll, Act.put, List.setIfInBounds_toArray, List.set_cons_zero, List.set_cons_succ]
            rfl
          refine one_ (i := 1) (N := some 12) #[true, true, true, true, true, false, false] rfl rfl (by kernel_rfl) (by decide) (fun K hK => ?_)
          refine goes_ Try.func12 (by kernel_rfl) rfl #[.agg #[.int .i64 a0_0, .int .i64 a0_1, .int .i64 a0_2, .int .i64 a0_3]] (by rfl) rfl rfl (by (try simp only [List.map_toArray, List.map_cons, List.map_nil]); first | done | rfl | (simp only [List.length_drop, List.length_take]; rfl)) ?_
          with_reducible refine (precinctlaw14_made.calls a0_0 a0_1 a0_2 a0_3 t216 t217 t218 t219 _ A3.out).mono ?_
          rintro e w13 ⟨rfl, hb⟩
          refine ⟨_, rfl, ?_⟩
          have n0_ := Aside0.mk (blk_below (rb BK214.out) hb)
          have n1_ := Aside0.mk (blk_below (rb BK215.out) hb)
          have n2_ := Aside0.mk (blk_below (rb BK220.out) hb)
          have n3_ := Aside0.mk (blk_below (rb BK221.out) hb)
          have n4_ := Aside0.mk (below_step (by repeat (first | (with_reducible first | exact HB.out | apply below_alloc | apply pw_below_drewN | apply below_drew1 | refine below_set ?_ GE214.out | refine below_set ?_ GE215.out | refine below_set ?_ GE220.out | refine below_set ?_ GE221.out) | exact HB.out)) hb)
          clear BK214
          clear BK215
          clear BK220
          clear BK221
          clear HB
          have BK214 := n0_
          have BK215 := n1_
          have BK220 := n2_
          have BK221 := n3_
          have HB := n4_
          clear n0_ n1_ n2_ n3_ n4_
          (try clear hb)
          (try clear hb2)
          (try clear hk)
          (try clear hi)
          refine hK.out _ _ ⟨(blk_cell BK214.out 0).trans rfl, (blk_cell BK214.out 1).trans rfl, (blk_cell BK214.out 2).trans rfl, (blk_cell BK214.out 3).trans rfl⟩ (fun hHeld => ?_)
          clear hK K
          refine norm_ (a' := ?_) ?_ ?_
          rotate_left
          · show Act.put _ (some 12) _ = _
            simp only [Act.put, List.setIfInBounds_toArray, List.set_cons_zero, List.set_cons_succ, i64_w, i32_w]
            rfl
          exact norm_ (by first | (simp only [putAll, Act.put, List.setIfInBounds_toArray, List.set_cons_zero, List.set_cons_succ]; done) | (simp only [putAll, Act.put, List.setIfInBounds_toArray, List.set_cons_zero, List.set_cons_succ]; rfl)) (hJ1_3_4 (gb220, gb221) _ ⟨hHeld, (rb BK214.out), (rb BK215.out), (rb BK220.out), (rb BK221.out), GW220.out, GE220.out, NB214_220.out, NB220_214.out, NB215_220.out, NB220_215.out, NB221_220.out, NB220_221.out, GW221.out, GE221.out, NB214_221.out, NB221_214.out, NB215_221.out, NB221_215.out, (by repeat (first | (with_reducible first | exact HB.out | apply below_alloc | apply pw_below_drewN | apply below_drew1 | refine below_set ?_ GE214.out | refine below_set ?_ GE215.out | refine below_set ?_ GE220.out | refine below_set ?_ GE221.out) | exact HB.out))⟩)
      · skip
        rintro gb221 w12 ⟨hS_, h0_, h1_, h2_, h3_, h4_, h5_, h6_, h7_, h8_, h9_⟩
        have n0_ : Aside0 (w12.heap[gb214]? = some (.cells #[.int .i64 a0_0, .int .i64 a0_1, .int .i64 a0_2, .int .i64 a0_3] 26 (0, 0))) := ⟨h0_⟩
        have n1_ : Aside0 (w12.heap[gb215]? = some (.cells #[.int .i64 a1_0, .int .i64 a1_1, .int .i64 a1_2, .int .i64 a1_3, .bool a1_4] 28 (0, 0))) := ⟨h1_⟩
        have n2_ : Aside0 (w12.heap[gb221]? = some (.cells #[.int .i64 0, .int .i64 0, .int .i64 0, .int .i64 0] 37 (0, 0))) := ⟨h2_⟩
        have n3_ : Aside0 (w.heap.size ≤ gb221) := ⟨h3_⟩
        have n4_ : Aside0 (w.heap.size ≤ gb221) := ⟨h4_⟩
        have n5_ : Aside0 (gb214 ≠ gb221) := ⟨h5_⟩
        have n6_ : Aside0 (gb221 ≠ gb214) := ⟨h6_⟩
        have n7_ : Aside0 (gb215 ≠ gb221) := ⟨h7_⟩
        have n8_ : Aside0 (gb221 ≠ gb215) := ⟨h8_⟩
        have n9_ : Aside0 (Below w.heap.size w w12) := ⟨h9_⟩
        clear BK214
        clear BK215
        clear HB
        clear h0_ h1_ h2_ h3_ h4_ h5_ h6_ h7_ h8_ h9_
        have BK214 := n0_
        have BK215 := n1_
        have BK221 := n2_
        have GW221 := n3_
        have GE221 := n4_
        have NB214_221 := n5_
        have NB221_214 := n6_
        have NB215_221 := n7_
        have NB221_215 := n8_
        have HB := n9_
        clear n0_ n1_ n2_ n3_ n4_ n5_ n6_ n7_ n8_ n9_
        have hHeld : w12.cell? ⟨gb214, 0, none⟩ = some (.int .i64 a0_0) ∧ w12.cell? ⟨gb214, 1, none⟩ = some (.int .i64 a0_1) ∧ w12.cell? ⟨gb214, 2, none⟩ = some (.int .i64 a0_2) ∧ w12.cell? ⟨gb214, 3, none⟩ = some (.int .i64 a0_3) := hS_
        refine norm_ (a' := ?_) ?_ ?_
        rotate_left
        · simp only [putAll, Act.put, List.setIfInBounds_toArray, List.set_cons_zero, List.set_cons_succ]
          rfl
        refine one_ (i := 3) (N := some 5) #[true, true, true, true, true, false, false] rfl rfl (by kernel_rfl) (by decide) (fun K hK => ?_)
        refine box_step ?hg (N := 5) ?hd (cs := #[.int .i64 0, .int .i64 0, .int .i64 0, .int .i64 0]) (t := 32) ?hr ?_; (case hd => rfl); (case hg => rfl); (case hr => first | (go_simp; done) | (go_simp; rfl))
        intro gb220 hg w13 hbox hb
        have n0_ := Aside0.mk (blk_below (rb BK214.out) hb)
        have n1_ := Aside0.mk (blk_below (rb BK215.out) hb)
        have n2_ := Aside0.mk (blk_below (rb BK221.out) hb)
        have n3_ := Aside0.mk (below_step (by repeat (first | (with_reducible first | exact HB.out | apply below_alloc | apply pw_below_drewN | apply below_drew1 | refine below_set ?_ GE214.out | refine below_set ?_ GE215.out | refine below_set ?_ GE221.out) | exact HB.out)) hb)
        have n4_ := Aside0.mk (hbox)
        have n5_ := Aside0.mk ((by rw [hg]; exact (below_size (by repeat (first | (with_reducible first | exact HB.out | apply below_alloc | apply pw_below_drewN | apply below_drew1 | refine below_set ?_ GE214.out | refine below_set ?_ GE215.out | refine below_set ?_ GE221.out) | exact HB.out))) : w.heap.size ≤ gb220))
        have n6_ := Aside0.mk ((by rw [hg]; exact (below_size (by repeat (first | (with_reducible first | exact HB.out | apply below_alloc | apply pw_below_drewN | apply below_drew1 | refine below_set ?_ GE214.out | refine below_set ?_ GE215.out | refine below_set ?_ GE221.out) | exact HB.out))) : w.heap.size ≤ gb220))
        have n7_ := Aside0.mk ((by rw [hg]; exact Nat.ne_of_lt (blk_lt (rb BK214.out)) : gb214 ≠ gb220))
        have n8_ := Aside0.mk ((by rw [hg]; exact Nat.ne_of_gt (blk_lt (rb BK214.out)) : gb220 ≠ gb214))
        have n9_ := Aside0.mk ((by rw [hg]; exact Nat.ne_of_lt (blk_lt (rb BK215.out)) : gb215 ≠ gb220))
        have n10_ := Aside0.mk ((by rw [hg]; exact Nat.ne_of_gt (blk_lt (rb BK215.out)) : gb220 ≠ gb215))
        have n11_ := Aside0.mk ((by rw [hg]; exact Nat.ne_of_lt (blk_lt (rb BK221.out)) : gb221 ≠ gb220))
        have n12_ := Aside0.mk ((by rw [hg]; exact Nat.ne_of_gt (blk_lt (rb BK221.out)) : gb220 ≠ gb221))
        clear BK214
        clear BK215
        clear BK221
        clear HB
        have BK214 := n0_
        have BK215 := n1_
        have BK221 := n2_
        have HB := n3_
        have BK220 := n4_
        have GW220 := n5_
        have GE220 := n6_
        have NB214_220 := n7_
        have NB220_214 := n8_
        have NB215_220 := n9_
        have NB220_215 := n10_
        have NB221_220 := n11_
        have NB220_221 := n12_
        clear n0_ n1_ n2_ n3_ n4_ n5_ n6_ n7_ n8_ n9_ n10_ n11_ n12_
        clear hb hbox hg
        refine hK.out _ _ ⟨(blk_cell BK214.out 0).trans rfl, (blk_cell BK214.out 1).trans rfl, (blk_cell BK214.out 2).trans rfl, (blk_cell BK214.out 3).trans rfl⟩ (fun hHeld => ?_)
        clear hK K
        refine norm_ (a' := ?_) ?_ ?_
        rotate_left
        · show Act.put _ (some 5) _ = _
          simp only [Act.put, List.setIfInBounds_toArray, List.set_cons_zero, List.set_cons_succ, i64_w, i32_w]
          rfl
        exact norm_ (by first | (simp only [putAll, Act.put, List.setIfInBounds_toArray, List.set_cons_zero, List.set_cons_succ]; done) | (simp only [putAll, Act.put, List.setIfInBounds_toArray, List.set_cons_zero, List.set_cons_succ]; rfl)) (hJ1_3_4 (gb220, gb221) _ ⟨hHeld, (rb BK214.out), (rb BK215.out), (rb BK220.out), (rb BK221.out), GW220.out, GE220.out, NB214_220.out, NB220_214.out, NB215_220.out, NB220_215.out, NB221_220.out, NB220_221.out, GW221.out, GE221.out, NB214_221.out, NB221_214.out, NB215_221.out, NB221_215.out, (by repeat (first | (with_reducible first | exact HB.out | apply below_alloc | apply pw_below_drewN | apply below_drew1 | refine below_set ?_ GE214.out | refine below_set ?_ GE215.out | refine below_set ?_ GE221.out | refine below_set ?_ GE220.out) | exact HB.out))⟩)
    · skip
      rintro gb220 w12 ⟨hS_, h0_, h1_, h2_, h3_, h4_, h5_, h6_, h7_, h8_, h9_⟩
      have n0_ : Aside0 (w12.heap[gb214]? = some (.cells #[.int .i64 a0_0, .int .i64 a0_1, .int .i64 a0_2, .int .i64 a0_3] 26 (0, 0))) := ⟨h0_⟩
      have n1_ : Aside0 (w12.heap[gb215]? = some (.cells #[.int .i64 a1_0, .int .i64 a1_1, .int .i64 a1_2, .int .i64 a1_3, .bool a1_4] 28 (0, 0))) := ⟨h1_⟩
      have n2_ : Aside0 (w12.heap[gb220]? = some (.cells #[.int .i64 0, .int .i64 0, .int .i64 0, .int .i64 0] 32 (0, 0))) := ⟨h2_⟩
      have n3_ : Aside0 (w.heap.size ≤ gb220) := ⟨h3_⟩
      have n4_ : Aside0 (w.heap.size ≤ gb220) := ⟨h4_⟩
      have n5_ : Aside0 (gb214 ≠ gb220) := ⟨h5_⟩
      have n6_ : Aside0 (gb220 ≠ gb214) := ⟨h6_⟩
      have n7_ : Aside0 (gb215 ≠ gb220) := ⟨h7_⟩
      have n8_ : Aside0 (gb220 ≠ gb215) := ⟨h8_⟩
      have n9_ : Aside0 (Below w.heap.size w w12) := ⟨h9_⟩
      clear BK214
      clear BK215
      clear HB
      clear h0_ h1_ h2_ h3_ h4_ h5_ h6_ h7_ h8_ h9_
      have BK214 := n0_
      have BK215 := n1_
      have BK220 := n2_
      have GW220 := n3_
      have GE220 := n4_
      have NB214_220 := n5_
      have NB220_214 := n6_
      have NB215_220 := n7_
      have NB220_215 := n8_
      have HB := n9_
      clear n0_ n1_ n2_ n3_ n4_ n5_ n6_ n7_ n8_ n9_
      have hHeld : w12.cell? ⟨gb214, 0, none⟩ = some (.int .i64 a0_0) ∧ w12.cell? ⟨gb214, 1, none⟩ = some (.int .i64 a0_1) ∧ w12.cell? ⟨gb214, 2, none⟩ = some (.int .i64 a0_2) ∧ w12.cell? ⟨gb214, 3, none⟩ = some (.int .i64 a0_3) := hS_
      refine norm_ (a' := ?_) ?_ ?_
      rotate_left
      · simp only [putAll, Act.put, List.setIfInBounds_toArray, List.set_cons_zero, List.set_cons_succ]
        rfl
      refine one_ (i := 4) (N := some 6) #[true, true, true, true, true, false, false] rfl rfl (by kernel_rfl) (by decide) (fun K hK => ?_)
      refine box_step ?hg (N := 6) ?hd (cs := #[.int .i64 0, .int .i64 0, .int .i64 0, .int .i64 0]) (t := 37) ?hr ?_; (case hd => rfl); (case hg => rfl); (case hr => first | (go_simp; done) | (go_simp; rfl))
      intro gb221 hg w13 hbox hb
      have n0_ := Aside0.mk (blk_below (rb BK214.out) hb)
      have n1_ := Aside0.mk (blk_below (rb BK215.out) hb)
      have n2_ := Aside0.mk (blk_below (rb BK220.out) hb)
      have n3_ := Aside0.mk (below_step (by repeat (first | (with_reducible first | exact HB.out | apply below_alloc | apply pw_below_drewN | apply below_drew1 | refine below_set ?_ GE214.out | refine below_set ?_ GE215.out | refine below_set ?_ GE220.out) | exact HB.out)) hb)
      have n4_ := Aside0.mk (hbox)
      have n5_ := Aside0.mk ((by rw [hg]; exact (below_size (by repeat (first | (with_reducible first | exact HB.out | apply below_alloc | apply pw_below_drewN | apply below_drew1 | refine below_set ?_ GE214.out | refine below_set ?_ GE215.out | refine below_set ?_ GE220.out) | exact HB.out))) : w.heap.size ≤ gb221))
      have n6_ := Aside0.mk ((by rw [hg]; exact (below_size (by repeat (first | (with_reducible first | exact HB.out | apply below_alloc | apply pw_below_drewN | apply below_drew1 | refine below_set ?_ GE214.out | refine below_set ?_ GE215.out | refine below_set ?_ GE220.out) | exact HB.out))) : w.heap.size ≤ gb221))
      have n7_ := Aside0.mk ((by rw [hg]; exact Nat.ne_of_lt (blk_lt (rb BK214.out)) : gb214 ≠ gb221))
      have n8_ := Aside0.mk ((by rw [hg]; exact Nat.ne_of_gt (blk_lt (rb BK214.out)) : gb221 ≠ gb214))
      have n9_ := Aside0.mk ((by rw [hg]; exact Nat.ne_of_lt (blk_lt (rb BK215.out)) : gb215 ≠ gb221))
      have n10_ := Aside0.mk ((by rw [hg]; exact Nat.ne_of_gt (blk_lt (rb BK215.out)) : gb221 ≠ gb215))
      have n11_ := Aside0.mk ((by rw [hg]; exact Nat.ne_of_lt (blk_lt (rb BK220.out)) : gb220 ≠ gb221))
      have n12_ := Aside0.mk ((by rw [hg]; exact Nat.ne_of_gt (blk_lt (rb BK220.out)) : gb221 ≠ gb220))
      clear BK214
      clear BK215
      clear BK220
      clear HB
      have BK214 := n0_
      have BK215 := n1_
      have BK220 := n2_
      have HB := n3_
      have BK221 := n4_
      have GW221 := n5_
      have GE221 := n6_
      have NB214_221 := n7_
      have NB221_214 := n8_
      have NB215_221 := n9_
      have NB221_215 := n10_
      have NB220_221 := n11_
      have NB221_220 := n12_
      clear n0_ n1_ n2_ n3_ n4_ n5_ n6_ n7_ n8_ n9_ n10_ n11_ n12_
      clear hb hbox hg
      refine hK.out _ _ ⟨(blk_cell BK214.out 0).trans rfl, (blk_cell BK214.out 1).trans rfl, (blk_cell BK214.out 2).trans rfl, (blk_cell BK214.out 3).trans rfl⟩ (fun hHeld => ?_)
      clear hK K
      refine norm_ (a' := ?_) ?_ ?_
      rotate_left
      · show Act.put _ (some 6) _ = _
        simp only [Act.put, List.setIfInBounds_toArray, List.set_cons_zero, List.set_cons_succ, i64_w, i32_w]
        rfl
      exact norm_ (by first | (simp only [putAll, Act.put, List.setIfInBounds_toArray, List.set_cons_zero, List.set_cons_succ]; done) | (simp only [putAll, Act.put, List.setIfInBounds_toArray, List.set_cons_zero, List.set_cons_succ]; rfl)) (hJ1_3_4 (gb220, gb221) _ ⟨hHeld, (rb BK214.out), (rb BK215.out), (rb BK220.out), (rb BK221.out), GW220.out, GE220.out, NB214_220.out, NB220_214.out, NB215_220.out, NB220_215.out, NB221_220.out, NB220_221.out, GW221.out, GE221.out, NB214_221.out, NB221_214.out, NB215_221.out, NB221_215.out, (by repeat (first | (with_reducible first | exact HB.out | apply below_alloc | apply pw_below_drewN | apply below_drew1 | refine below_set ?_ GE214.out | refine below_set ?_ GE215.out | refine below_set ?_ GE220.out | refine below_set ?_ GE221.out) | exact HB.out))⟩)
  rintro ⟨gb220, gb221⟩ w13 ⟨hS_, h0_, h1_, h2_, h3_, h4_, h5_, h6_, h7_, h8_, h9_, h10_, h11_, h12_, h13_, h14_, h15_, h16_, h17_, h18_⟩
  have n0_ : Aside0 (w13.heap[gb214]? = some (.cells #[.int .i64 a0_0, .int .i64 a0_1, .int .i64 a0_2, .int .i64 a0_3] 26 (0, 0))) := ⟨h0_⟩
  have n1_ : Aside0 (w13.heap[gb215]? = some (.cells #[.int .i64 a1_0, .int .i64 a1_1, .int .i64 a1_2, .int .i64 a1_3, .bool a1_4] 28 (0, 0))) := ⟨h1_⟩
  have n2_ : Aside0 (w13.heap[gb220]? = some (.cells #[.int .i64 0, .int .i64 0, .int .i64 0, .int .i64 0] 32 (0, 0))) := ⟨h2_⟩
  have n3_ : Aside0 (w13.heap[gb221]? = some (.cells #[.int .i64 0, .int .i64 0, .int .i64 0, .int .i64 0] 37 (0, 0))) := ⟨h3_⟩
  have n4_ : Aside0 (w.heap.size ≤ gb220) := ⟨h4_⟩
  have n5_ : Aside0 (w.heap.size ≤ gb220) := ⟨h5_⟩
  have n6_ : Aside0 (gb214 ≠ gb220) := ⟨h6_⟩
  have n7_ : Aside0 (gb220 ≠ gb214) := ⟨h7_⟩
  have n8_ : Aside0 (gb215 ≠ gb220) := ⟨h8_⟩
  have n9_ : Aside0 (gb220 ≠ gb215) := ⟨h9_⟩
  have n10_ : Aside0 (gb221 ≠ gb220) := ⟨h10_⟩
  have n11_ : Aside0 (gb220 ≠ gb221) := ⟨h11_⟩
  have n12_ : Aside0 (w.heap.size ≤ gb221) := ⟨h12_⟩
  have n13_ : Aside0 (w.heap.size ≤ gb221) := ⟨h13_⟩
  have n14_ : Aside0 (gb214 ≠ gb221) := ⟨h14_⟩
  have n15_ : Aside0 (gb221 ≠ gb214) := ⟨h15_⟩
  have n16_ : Aside0 (gb215 ≠ gb221) := ⟨h16_⟩
  have n17_ : Aside0 (gb221 ≠ gb215) := ⟨h17_⟩
  have n18_ : Aside0 (Below w.heap.size w w13) := ⟨h18_⟩
  clear BK214
  clear BK215
  clear HB
  clear h0_ h1_ h2_ h3_ h4_ h5_ h6_ h7_ h8_ h9_ h10_ h11_ h12_ h13_ h14_ h15_ h16_ h17_ h18_
  have BK214 := n0_
  have BK215 := n1_
  have BK220 := n2_
  have BK221 := n3_
  have GW220 := n4_
  have GE220 := n5_
  have NB214_220 := n6_
  have NB220_214 := n7_
  have NB215_220 := n8_
  have NB220_215 := n9_
  have NB221_220 := n10_
  have NB220_221 := n11_
  have GW221 := n12_
  have GE221 := n13_
  have NB214_221 := n14_
  have NB221_214 := n15_
  have NB215_221 := n16_
  have NB221_215 := n17_
  have HB := n18_
  clear n0_ n1_ n2_ n3_ n4_ n5_ n6_ n7_ n8_ n9_ n10_ n11_ n12_ n13_ n14_ n15_ n16_ n17_ n18_
  have hHeld : w13.cell? ⟨gb214, 0, none⟩ = some (.int .i64 a0_0) ∧ w13.cell? ⟨gb214, 1, none⟩ = some (.int .i64 a0_1) ∧ w13.cell? ⟨gb214, 2, none⟩ = some (.int .i64 a0_2) ∧ w13.cell? ⟨gb214, 3, none⟩ = some (.int .i64 a0_3) := hS_
  refine norm_ (a' := ?_) ?_ ?_
  rotate_left
  · simp only [putAll, Act.put, List.setIfInBounds_toArray, List.set_cons_zero, List.set_cons_succ]
    rfl
  refine one_ (i := 5) (N := none) #[true, true, true, true, true, true, false] rfl rfl (by kernel_rfl) (by decide) (fun K hK => ?_)
  have hs14 : w13.cell? ⟨gb220, 0, none⟩ = some (.int .i64 0) := (blk_cell BK220.out 0).trans rfl
  have hfs14 := blk_frozen BK220.out 0
  have hns14_0 := NB214_220.out
  have hns14_1 := NB215_220.out
  have hns14_3 := NB221_220.out
  have hms14_0 := NB220_214.out
  have hms14_1 := NB220_215.out
  have hms14_3 := NB220_221.out
  have hs15 : w13.cell? ⟨gb220, 1, none⟩ = some (.int .i64 0) := (blk_cell BK220.out 1).trans rfl
  have hfs15 := blk_frozen BK220.out 1
  have hns15_0 := NB214_220.out
  have hns15_1 := NB215_220.out
  have hns15_3 := NB221_220.out
  have hms15_0 := NB220_214.out
  have hms15_1 := NB220_215.out
  have hms15_3 := NB220_221.out
  have hs16 : w13.cell? ⟨gb220, 2, none⟩ = some (.int .i64 0) := (blk_cell BK220.out 2).trans rfl
  have hfs16 := blk_frozen BK220.out 2
  have hns16_0 := NB214_220.out
  have hns16_1 := NB215_220.out
  have hns16_3 := NB221_220.out
  have hms16_0 := NB220_214.out
  have hms16_1 := NB220_215.out
  have hms16_3 := NB220_221.out
  have hs17 : w13.cell? ⟨gb220, 3, none⟩ = some (.int .i64 0) := (blk_cell BK220.out 3).trans rfl
  have hfs17 := blk_frozen BK220.out 3
  have hns17_0 := NB214_220.out
  have hns17_1 := NB215_220.out
  have hns17_3 := NB221_220.out
  have hms17_0 := NB220_214.out
  have hms17_1 := NB220_215.out
  have hms17_3 := NB220_221.out
  refine skip_ (w1 := ?_) (by rfl) rfl ?_ ?_
  rotate_left
  · go_simp
    rfl
  refine hK.out _ _ ⟨((cell_far (p := ⟨gb220, _, none⟩) NB214_220.out _).trans (((cell_far (p := ⟨gb220, _, none⟩) NB214_220.out _).trans (((cell_far (p := ⟨gb220, _, none⟩) NB214_220.out _).trans (((cell_far (p := ⟨gb220, _, none⟩) NB214_220.out _).trans (hHeld.1)))))))), ((cell_far (p := ⟨gb220, _, none⟩) NB214_220.out _).trans (((cell_far (p := ⟨gb220, _, none⟩) NB214_220.out _).trans (((cell_far (p := ⟨gb220, _, none⟩) NB214_220.out _).trans (((cell_far (p := ⟨gb220, _, none⟩) NB214_220.out _).trans (hHeld.2.1)))))))), ((cell_far (p := ⟨gb220, _, none⟩) NB214_220.out _).trans (((cell_far (p := ⟨gb220, _, none⟩) NB214_220.out _).trans (((cell_far (p := ⟨gb220, _, none⟩) NB214_220.out _).trans (((cell_far (p := ⟨gb220, _, none⟩) NB214_220.out _).trans (hHeld.2.2.1)))))))), ((cell_far (p := ⟨gb220, _, none⟩) NB214_220.out _).trans (((cell_far (p := ⟨gb220, _, none⟩) NB214_220.out _).trans (((cell_far (p := ⟨gb220, _, none⟩) NB214_220.out _).trans (((cell_far (p := ⟨gb220, _, none⟩) NB214_220.out _).trans (hHeld.2.2.2))))))))⟩ (fun hHeld => ?_)
  clear hK K
  refine one_ (i := 6) (N := none) #[true, true, true, true, true, true, true] rfl rfl (by kernel_rfl) (by decide) (fun K hK => ?_)
  have hs18 : w13.cell? ⟨gb221, 0, none⟩ = some (.int .i64 0) := (blk_cell BK221.out 0).trans rfl
  have hfs18 := blk_frozen BK221.out 0
  have hns18_0 := NB214_221.out
  have hns18_1 := NB215_221.out
  have hns18_2 := NB220_221.out
  have hms18_0 := NB221_214.out
  have hms18_1 := NB221_215.out
  have hms18_2 := NB221_220.out
  have hs19 : w13.cell? ⟨gb221, 1, none⟩ = some (.int .i64 0) := (blk_cell BK221.out 1).trans rfl
  have hfs19 := blk_frozen BK221.out 1
  have hns19_0 := NB214_221.out
  have hns19_1 := NB215_221.out
  have hns19_2 := NB220_221.out
  have hms19_0 := NB221_214.out
  have hms19_1 := NB221_215.out
  have hms19_2 := NB221_220.out
  have hs20 : w13.cell? ⟨gb221, 2, none⟩ = some (.int .i64 0) := (blk_cell BK221.out 2).trans rfl
  have hfs20 := blk_frozen BK221.out 2
  have hns20_0 := NB214_221.out
  have hns20_1 := NB215_221.out
  have hns20_2 := NB220_221.out
  have hms20_0 := NB221_214.out
  have hms20_1 := NB221_215.out
  have hms20_2 := NB221_220.out
  have hs21 : w13.cell? ⟨gb221, 3, none⟩ = some (.int .i64 0) := (blk_cell BK221.out 3).trans rfl
  have hfs21 := blk_frozen BK221.out 3
  have hns21_0 := NB214_221.out
  have hns21_1 := NB215_221.out
  have hns21_2 := NB220_221.out
  have hms21_0 := NB221_214.out
  have hms21_1 := NB221_215.out
  have hms21_2 := NB221_220.out
  refine skip_ (w1 := ?_) (by rfl) rfl ?_ ?_
  rotate_left
  · go_simp
    rfl
  refine hK.out _ _ ⟨((cell_far (p := ⟨gb221, _, none⟩) NB214_221.out _).trans (((cell_far (p := ⟨gb221, _, none⟩) NB214_221.out _).trans (((cell_far (p := ⟨gb221, _, none⟩) NB214_221.out _).trans (((cell_far (p := ⟨gb221, _, none⟩) NB214_221.out _).trans (hHeld.1)))))))), ((cell_far (p := ⟨gb221, _, none⟩) NB214_221.out _).trans (((cell_far (p := ⟨gb221, _, none⟩) NB214_221.out _).trans (((cell_far (p := ⟨gb221, _, none⟩) NB214_221.out _).trans (((cell_far (p := ⟨gb221, _, none⟩) NB214_221.out _).trans (hHeld.2.1)))))))), ((cell_far (p := ⟨gb221, _, none⟩) NB214_221.out _).trans (((cell_far (p := ⟨gb221, _, none⟩) NB214_221.out _).trans (((cell_far (p := ⟨gb221, _, none⟩) NB214_221.out _).trans (((cell_far (p := ⟨gb221, _, none⟩) NB214_221.out _).trans (hHeld.2.2.1)))))))), ((cell_far (p := ⟨gb221, _, none⟩) NB214_221.out _).trans (((cell_far (p := ⟨gb221, _, none⟩) NB214_221.out _).trans (((cell_far (p := ⟨gb221, _, none⟩) NB214_221.out _).trans (((cell_far (p := ⟨gb221, _, none⟩) NB214_221.out _).trans (hHeld.2.2.2))))))))⟩ (fun hHeld => ?_)
  clear hK K
  refine done_ (by kernel_rfl) ?_
  have hnb22 := NB220_214.out
  have hnc22 := NB214_220.out
  have hnb23 := NB220_215.out
  have hnc23 := NB215_220.out
  have hnb24 := NB220_221.out
  have hnc24 := NB221_220.out
  have hcz25_0 : w13.cell? ⟨gb220, 0, none⟩ = some (.int .i64 0) := (blk_cell BK220.out 0).trans rfl
  have hcz25_1 : w13.cell? ⟨gb220, 1, none⟩ = some (.int .i64 0) := (blk_cell BK220.out 1).trans rfl
  have hcz25_2 : w13.cell? ⟨gb220, 2, none⟩ = some (.int .i64 0) := (blk_cell BK220.out 2).trans rfl
  have hcz25_3 : w13.cell? ⟨gb220, 3, none⟩ = some (.int .i64 0) := (blk_cell BK220.out 3).trans rfl
  have hfz25_0 := blk_frozen BK220.out 0
  have hfz25_1 := blk_frozen BK220.out 1
  have hfz25_2 := blk_frozen BK220.out 2
  have hfz25_3 := blk_frozen BK220.out 3
  have hnb26 := NB215_214.out
  have hnc26 := NB214_215.out
  have hnb27 := NB215_221.out
  have hnc27 := NB221_215.out
  have hcz28_0 : w13.cell? ⟨gb215, 0, none⟩ = some (.int .i64 a1_0) := (blk_cell BK215.out 0).trans rfl
  have hcz28_1 : w13.cell? ⟨gb215, 1, none⟩ = some (.int .i64 a1_1) := (blk_cell BK215.out 1).trans rfl
  have hcz28_2 : w13.cell? ⟨gb215, 2, none⟩ = some (.int .i64 a1_2) := (blk_cell BK215.out 2).trans rfl
  have hcz28_3 : w13.cell? ⟨gb215, 3, none⟩ = some (.int .i64 a1_3) := (blk_cell BK215.out 3).trans rfl
  have hcz28_4 : w13.cell? ⟨gb215, 4, none⟩ = some (.bool a1_4) := (blk_cell BK215.out 4).trans rfl
  have hfz28_0 := blk_frozen BK215.out 0
  have hfz28_1 := blk_frozen BK215.out 1
  have hfz28_2 := blk_frozen BK215.out 2
  have hfz28_3 := blk_frozen BK215.out 3
  have hfz28_4 := blk_frozen BK215.out 4
  go_upto_region 4 with (first | ((with_reducible refine gate_callee (f := 19) rfl ?_); refine goesL_ (some 22) rfl rfl Try.func19 (by kernel_rfl) rfl #[.agg #[.int .i64 t216, .int .i64 t217, .int .i64 t218, .int .i64 t219], .int .i64 a1_0, .int .i64 a1_1, .bool a1_4] rfl (by (try simp only [List.map_toArray, List.map_cons, List.map_nil]); first | done | rfl | (simp only [List.length_drop, List.length_take]; rfl)) ?_; (with_reducible refine (node_State_Wake.calls t216 t217 t218 t219 a1_0 a1_1 a1_4 t222 t223 t224 t225 t226 _ A4.out).mono ?_); rintro e w29 ⟨rfl, hb⟩; refine ⟨_, rfl, ?_⟩; have n0_ := Aside0.mk (blk_below (rb (blk_far (rb (blk_far (rb (blk_far (rb (blk_far (rb (blk_far (rb (blk_far (rb (blk_far (rb (blk_far (rb BK214.out) NB214_220.out _)) NB214_220.out _)) NB214_220.out _)) NB214_220.out _)) NB214_221.out _)) NB214_221.out _)) NB214_221.out _)) NB214_221.out _)) hb); have n1_ := Aside0.mk (blk_below (rb (blk_far (rb (blk_far (rb (blk_far (rb (blk_far (rb (blk_far (rb (blk_far (rb (blk_far (rb (blk_far (rb BK215.out) NB215_220.out _)) NB215_220.out _)) NB215_220.out _)) NB215_220.out _)) NB215_221.out _)) NB215_221.out _)) NB215_221.out _)) NB215_221.out _)) hb); have n2_ := Aside0.mk (blk_below (rb (blk_far (rb (blk_far (rb (blk_far (rb (blk_far (rb (blk_put (cs := #[.int .i64 t216, .int .i64 t217, .int .i64 t218, .int .i64 0]) (rb (blk_put (cs := #[.int .i64 t216, .int .i64 t217, .int .i64 0, .int .i64 0]) (rb (blk_put (cs := #[.int .i64 t216, .int .i64 0, .int .i64 0, .int .i64 0]) (rb (blk_put (cs := #[.int .i64 0, .int .i64 0, .int .i64 0, .int .i64 0]) (rb BK220.out) 0 _ rfl)) 1 _ rfl)) 2 _ rfl)) 3 _ rfl)) NB220_221.out _)) NB220_221.out _)) NB220_221.out _)) NB220_221.out _)) hb); have n3_ := Aside0.mk (blk_below (rb (blk_put (cs := #[.int .i64 a0_0, .int .i64 a0_1, .int .i64 a0_2, .int .i64 0]) (rb (blk_put (cs := #[.int .i64 a0_0, .int .i64 a0_1, .int .i64 0, .int .i64 0]) (rb (blk_put (cs := #[.int .i64 a0_0, .int .i64 0, .int .i64 0, .int .i64 0]) (rb (blk_put (cs := #[.int .i64 0, .int .i64 0, .int .i64 0, .int .i64 0]) (rb (blk_far (rb (blk_far (rb (blk_far (rb (blk_far (rb BK221.out) NB221_220.out _)) NB221_220.out _)) NB221_220.out _)) NB221_220.out _)) 0 _ rfl)) 1 _ rfl)) 2 _ rfl)) 3 _ rfl)) hb); have n4_ := Aside0.mk (below_step (by repeat (first | (with_reducible first | exact HB.out | apply below_alloc | apply pw_below_drewN | apply below_drew1 | refine below_set ?_ GE214.out | refine below_set ?_ GE215.out | refine below_set ?_ GE220.out | refine below_set ?_ GE221.out) | exact HB.out)) hb); clear BK214; clear BK215; clear BK220; clear BK221; clear HB; have BK214 := n0_; have BK215 := n1_; have BK220 := n2_; have BK221 := n3_; have HB := n4_; clear n0_ n1_ n2_ n3_ n4_; (try clear hb); (try clear hb2); (try clear hk); (try clear hi)) | ((with_reducible refine gate_dst (N := 7) rfl ?_); refine box_event ?hg (N := 7) ?hd (cs := #[.int .i64 0, .int .i64 0, .int .i64 0, .int .i64 0]) (t := 32) ?hr ?_; (case hd => rfl); (case hg => rfl); (case hr => first | (go_simp; done) | (go_simp; rfl)); intro gb227 hg w30 hbox hb; have n0_ := Aside0.mk (blk_below (rb BK214.out) hb); have n1_ := Aside0.mk (blk_below (rb BK215.out) hb); have n2_ := Aside0.mk (blk_below (rb BK220.out) hb); have n3_ := Aside0.mk (blk_below (rb BK221.out) hb); have n4_ := Aside0.mk (below_step (by repeat (first | (with_reducible first | exact HB.out | apply below_alloc | apply pw_below_drewN | apply below_drew1 | refine below_set ?_ GE214.out | refine below_set ?_ GE215.out | refine below_set ?_ GE220.out | refine below_set ?_ GE221.out) | exact HB.out)) hb); have n5_ := Aside0.mk (hbox); have n6_ := Aside0.mk ((by rw [hg]; exact (below_size (by repeat (first | (with_reducible first | exact HB.out | apply below_alloc | apply pw_below_drewN | apply below_drew1 | refine below_set ?_ GE214.out | refine below_set ?_ GE215.out | refine below_set ?_ GE220.out | refine below_set ?_ GE221.out) | exact HB.out))) : w.heap.size ≤ gb227)); have n7_ := Aside0.mk ((by rw [hg]; exact (below_size (by repeat (first | (with_reducible first | exact HB.out | apply below_alloc | apply pw_below_drewN | apply below_drew1 | refine below_set ?_ GE214.out | refine below_set ?_ GE215.out | refine below_set ?_ GE220.out | refine below_set ?_ GE221.out) | exact HB.out))) : w.heap.size ≤ gb227)); have n8_ := Aside0.mk ((by rw [hg]; exact Nat.ne_of_lt (blk_lt (rb BK214.out)) : gb214 ≠ gb227)); have n9_ := Aside0.mk ((by rw [hg]; exact Nat.ne_of_gt (blk_lt (rb BK214.out)) : gb227 ≠ gb214)); have n10_ := Aside0.mk ((by rw [hg]; exact Nat.ne_of_lt (blk_lt (rb BK215.out)) : gb215 ≠ gb227)); have n11_ := Aside0.mk ((by rw [hg]; exact Nat.ne_of_gt (blk_lt (rb BK215.out)) : gb227 ≠ gb215)); have n12_ := Aside0.mk ((by rw [hg]; exact Nat.ne_of_lt (blk_lt (rb BK220.out)) : gb220 ≠ gb227)); have n13_ := Aside0.mk ((by rw [hg]; exact Nat.ne_of_gt (blk_lt (rb BK220.out)) : gb227 ≠ gb220)); have n14_ := Aside0.mk ((by rw [hg]; exact Nat.ne_of_lt (blk_lt (rb BK221.out)) : gb221 ≠ gb227)); have n15_ := Aside0.mk ((by rw [hg]; exact Nat.ne_of_gt (blk_lt (rb BK221.out)) : gb227 ≠ gb221)); clear BK214; clear BK215; clear BK220; clear BK221; clear HB; have BK214 := n0_; have BK215 := n1_; have BK220 := n2_; have BK221 := n3_; have HB := n4_; have BK227 := n5_; have GW227 := n6_; have GE227 := n7_; have NB214_227 := n8_; have NB227_214 := n9_; have NB215_227 := n10_; have NB227_215 := n11_; have NB220_227 := n12_; have NB227_220 := n13_; have NB221_227 := n14_; have NB227_221 := n15_; clear n0_ n1_ n2_ n3_ n4_ n5_ n6_ n7_ n8_ n9_ n10_ n11_ n12_ n13_ n14_ n15_; clear hb hbox hg; have hnb31 := NB227_214.out; have hnc31 := NB214_227.out; have hnb32 := NB227_215.out; have hnc32 := NB215_227.out; have hnb33 := NB227_220.out; have hnc33 := NB220_227.out; have hnb34 := NB227_221.out; have hnc34 := NB221_227.out; have hcz35_0 : w30.cell? ⟨gb227, 0, none⟩ = some (.int .i64 0) := (blk_cell BK227.out 0).trans rfl; have hcz35_1 : w30.cell? ⟨gb227, 1, none⟩ = some (.int .i64 0) := (blk_cell BK227.out 1).trans rfl; have hcz35_2 : w30.cell? ⟨gb227, 2, none⟩ = some (.int .i64 0) := (blk_cell BK227.out 2).trans rfl; have hcz35_3 : w30.cell? ⟨gb227, 3, none⟩ = some (.int .i64 0) := (blk_cell BK227.out 3).trans rfl; have hfz35_0 := blk_frozen BK227.out 0; have hfz35_1 := blk_frozen BK227.out 1; have hfz35_2 := blk_frozen BK227.out 2; have hfz35_3 := blk_frozen BK227.out 3; have hnb36 := NB221_214.out; have hnc36 := NB214_221.out; have hcz37_0 : w30.cell? ⟨gb221, 0, none⟩ = some (.int .i64 a0_0) := (blk_cell BK221.out 0).trans rfl; have hcz37_1 : w30.cell? ⟨gb221, 1, none⟩ = some (.int .i64 a0_1) := (blk_cell BK221.out 1).trans rfl; have hcz37_2 : w30.cell? ⟨gb221, 2, none⟩ = some (.int .i64 a0_2) := (blk_cell BK221.out 2).trans rfl; have hcz37_3 : w30.cell? ⟨gb221, 3, none⟩ = some (.int .i64 a0_3) := (blk_cell BK221.out 3).trans rfl; have hfz37_0 := blk_frozen BK221.out 0; have hfz37_1 := blk_frozen BK221.out 1; have hfz37_2 := blk_frozen BK221.out 2; have hfz37_3 := blk_frozen BK221.out 3; have hcz38_0 : w30.cell? ⟨gb215, 0, none⟩ = some (.int .i64 a1_0) := (blk_cell BK215.out 0).trans rfl; have hcz38_1 : w30.cell? ⟨gb215, 1, none⟩ = some (.int .i64 a1_1) := (blk_cell BK215.out 1).trans rfl; have hcz38_2 : w30.cell? ⟨gb215, 2, none⟩ = some (.int .i64 a1_2) := (blk_cell BK215.out 2).trans rfl; have hcz38_3 : w30.cell? ⟨gb215, 3, none⟩ = some (.int .i64 a1_3) := (blk_cell BK215.out 3).trans rfl; have hcz38_4 : w30.cell? ⟨gb215, 4, none⟩ = some (.bool a1_4) := (blk_cell BK215.out 4).trans rfl; have hfz38_0 := blk_frozen BK215.out 0; have hfz38_1 := blk_frozen BK215.out 1; have hfz38_2 := blk_frozen BK215.out 2; have hfz38_3 := blk_frozen BK215.out 3; have hfz38_4 := blk_frozen BK215.out 4) | ((with_reducible refine gate_callee (f := 22) rfl ?_); refine goesL_ (some 33) rfl rfl Try.func22 (by kernel_rfl) rfl #[.agg #[.int .i64 a0_0, .int .i64 a0_1, .int .i64 a0_2, .int .i64 a0_3], .int .i64 a1_0, .int .i64 a1_1, .bool a1_4] rfl (by (try simp only [List.map_toArray, List.map_cons, List.map_nil]); first | done | rfl | (simp only [List.length_drop, List.length_take]; rfl)) ?_; (with_reducible refine (precinctref14_Wake.calls a0_0 a0_1 a0_2 a0_3 a1_0 a1_1 a1_4 t228 t229 t230 t231 t232 _ A5.out).mono ?_); rintro e w39 ⟨rfl, hb⟩; refine ⟨_, rfl, ?_⟩; have n0_ := Aside0.mk (blk_below (rb (blk_far (rb (blk_far (rb (blk_far (rb (blk_far (rb BK214.out) NB214_227.out _)) NB214_227.out _)) NB214_227.out _)) NB214_227.out _)) hb); have n1_ := Aside0.mk (blk_below (rb (blk_far (rb (blk_far (rb (blk_far (rb (blk_far (rb BK215.out) NB215_227.out _)) NB215_227.out _)) NB215_227.out _)) NB215_227.out _)) hb); have n2_ := Aside0.mk (blk_below (rb (blk_far (rb (blk_far (rb (blk_far (rb (blk_far (rb BK220.out) NB220_227.out _)) NB220_227.out _)) NB220_227.out _)) NB220_227.out _)) hb); have n3_ := Aside0.mk (blk_below (rb (blk_far (rb (blk_far (rb (blk_far (rb (blk_far (rb BK221.out) NB221_227.out _)) NB221_227.out _)) NB221_227.out _)) NB221_227.out _)) hb); have n4_ := Aside0.mk (blk_below (rb (blk_put (cs := #[.int .i64 t222, .int .i64 t223, .int .i64 t224, .int .i64 0]) (rb (blk_put (cs := #[.int .i64 t222, .int .i64 t223, .int .i64 0, .int .i64 0]) (rb (blk_put (cs := #[.int .i64 t222, .int .i64 0, .int .i64 0, .int .i64 0]) (rb (blk_put (cs := #[.int .i64 0, .int .i64 0, .int .i64 0, .int .i64 0]) (rb BK227.out) 0 _ rfl)) 1 _ rfl)) 2 _ rfl)) 3 _ rfl)) hb); have n5_ := Aside0.mk (below_step (by repeat (first | (with_reducible first | exact HB.out | apply below_alloc | apply pw_below_drewN | apply below_drew1 | refine below_set ?_ GE214.out | refine below_set ?_ GE215.out | refine below_set ?_ GE220.out | refine below_set ?_ GE221.out | refine below_set ?_ GE227.out) | exact HB.out)) hb); clear BK214; clear BK215; clear BK220; clear BK221; clear BK227; clear HB; have BK214 := n0_; have BK215 := n1_; have BK220 := n2_; have BK221 := n3_; have BK227 := n4_; have HB := n5_; clear n0_ n1_ n2_ n3_ n4_ n5_; (try clear hb); (try clear hb2); (try clear hk); (try clear hi)) | ((with_reducible refine gate_dst (N := 9) rfl ?_); refine box_event ?hg (N := 9) ?hd (cs := #[.int .i64 0, .int .i64 0, .int .i64 0, .int .i64 0]) (t := 37) ?hr ?_; (case hd => rfl); (case hg => rfl); (case hr => first | (go_simp; done) | (go_simp; rfl)); intro gb233 hg w40 hbox hb; have n0_ := Aside0.mk (blk_below (rb BK214.out) hb); have n1_ := Aside0.mk (blk_below (rb BK215.out) hb); have n2_ := Aside0.mk (blk_below (rb BK220.out) hb); have n3_ := Aside0.mk (blk_below (rb BK221.out) hb); have n4_ := Aside0.mk (blk_below (rb BK227.out) hb); have n5_ := Aside0.mk (below_step (by repeat (first | (with_reducible first | exact HB.out | apply below_alloc | apply pw_below_drewN | apply below_drew1 | refine below_set ?_ GE214.out | refine below_set ?_ GE215.out | refine below_set ?_ GE220.out | refine below_set ?_ GE221.out | refine below_set ?_ GE227.out) | exact HB.out)) hb); have n6_ := Aside0.mk (hbox); have n7_ := Aside0.mk ((by rw [hg]; exact (below_size (by repeat (first | (with_reducible first | exact HB.out | apply below_alloc | apply pw_below_drewN | apply below_drew1 | refine below_set ?_ GE214.out | refine below_set ?_ GE215.out | refine below_set ?_ GE220.out | refine below_set ?_ GE221.out | refine below_set ?_ GE227.out) | exact HB.out))) : w.heap.size ≤ gb233)); have n8_ := Aside0.mk ((by rw [hg]; exact (below_size (by repeat (first | (with_reducible first | exact HB.out | apply below_alloc | apply pw_below_drewN | apply below_drew1 | refine below_set ?_ GE214.out | refine below_set ?_ GE215.out | refine below_set ?_ GE220.out | refine below_set ?_ GE221.out | refine below_set ?_ GE227.out) | exact HB.out))) : w.heap.size ≤ gb233)); have n9_ := Aside0.mk ((by rw [hg]; exact Nat.ne_of_lt (blk_lt (rb BK214.out)) : gb214 ≠ gb233)); have n10_ := Aside0.mk ((by rw [hg]; exact Nat.ne_of_gt (blk_lt (rb BK214.out)) : gb233 ≠ gb214)); have n11_ := Aside0.mk ((by rw [hg]; exact Nat.ne_of_lt (blk_lt (rb BK215.out)) : gb215 ≠ gb233)); have n12_ := Aside0.mk ((by rw [hg]; exact Nat.ne_of_gt (blk_lt (rb BK215.out)) : gb233 ≠ gb215)); have n13_ := Aside0.mk ((by rw [hg]; exact Nat.ne_of_lt (blk_lt (rb BK220.out)) : gb220 ≠ gb233)); have n14_ := Aside0.mk ((by rw [hg]; exact Nat.ne_of_gt (blk_lt (rb BK220.out)) : gb233 ≠ gb220)); have n15_ := Aside0.mk ((by rw [hg]; exact Nat.ne_of_lt (blk_lt (rb BK221.out)) : gb221 ≠ gb233)); have n16_ := Aside0.mk ((by rw [hg]; exact Nat.ne_of_gt (blk_lt (rb BK221.out)) : gb233 ≠ gb221)); have n17_ := Aside0.mk ((by rw [hg]; exact Nat.ne_of_lt (blk_lt (rb BK227.out)) : gb227 ≠ gb233)); have n18_ := Aside0.mk ((by rw [hg]; exact Nat.ne_of_gt (blk_lt (rb BK227.out)) : gb233 ≠ gb227)); clear BK214; clear BK215; clear BK220; clear BK221; clear BK227; clear HB; have BK214 := n0_; have BK215 := n1_; have BK220 := n2_; have BK221 := n3_; have BK227 := n4_; have HB := n5_; have BK233 := n6_; have GW233 := n7_; have GE233 := n8_; have NB214_233 := n9_; have NB233_214 := n10_; have NB215_233 := n11_; have NB233_215 := n12_; have NB220_233 := n13_; have NB233_220 := n14_; have NB221_233 := n15_; have NB233_221 := n16_; have NB227_233 := n17_; have NB233_227 := n18_; clear n0_ n1_ n2_ n3_ n4_ n5_ n6_ n7_ n8_ n9_ n10_ n11_ n12_ n13_ n14_ n15_ n16_ n17_ n18_; clear hb hbox hg; have hnb41 := NB233_214.out; have hnc41 := NB214_233.out; have hnb42 := NB233_215.out; have hnc42 := NB215_233.out; have hnb43 := NB233_220.out; have hnc43 := NB220_233.out; have hnb44 := NB233_221.out; have hnc44 := NB221_233.out; have hnb45 := NB233_227.out; have hnc45 := NB227_233.out; have hcz46_0 : w40.cell? ⟨gb233, 0, none⟩ = some (.int .i64 0) := (blk_cell BK233.out 0).trans rfl; have hcz46_1 : w40.cell? ⟨gb233, 1, none⟩ = some (.int .i64 0) := (blk_cell BK233.out 1).trans rfl; have hcz46_2 : w40.cell? ⟨gb233, 2, none⟩ = some (.int .i64 0) := (blk_cell BK233.out 2).trans rfl; have hcz46_3 : w40.cell? ⟨gb233, 3, none⟩ = some (.int .i64 0) := (blk_cell BK233.out 3).trans rfl; have hfz46_0 := blk_frozen BK233.out 0; have hfz46_1 := blk_frozen BK233.out 1; have hfz46_2 := blk_frozen BK233.out 2; have hfz46_3 := blk_frozen BK233.out 3))
  (try simp only [Act.put, List.setIfInBounds_toArray, List.set_cons_zero, List.set_cons_succ])
  go_cut [55] (fun v55 wc => ∃ (kq : Nat) (x55_5 : Bool), v55 = .bool x55_5 ∧ Aside0 (precinctlaw14_NodeSteps.j0 kq x55_5 a1_0 a1_1 a1_2 a1_3 a1_4 t216 t217 t218 t219 a0_0 a0_1 a0_2 a0_3 = some r) ∧ Aside0 (kq ≤ k) ∧ Aside0 (wc.heap[gb214]? = some (.cells #[.int .i64 a0_0, .int .i64 a0_1, .int .i64 a0_2, .int .i64 a0_3] 26 (0, 0))) ∧ Aside0 (wc.heap[gb215]? = some (.cells #[.int .i64 a1_0, .int .i64 a1_1, .int .i64 a1_2, .int .i64 a1_3, .bool a1_4] 28 (0, 0))) ∧ Aside0 (wc.heap[gb220]? = some (.cells #[.int .i64 t216, .int .i64 t217, .int .i64 t218, .int .i64 t219] 32 (0, 0))) ∧ Aside0 (wc.heap[gb221]? = some (.cells #[.int .i64 a0_0, .int .i64 a0_1, .int .i64 a0_2, .int .i64 a0_3] 37 (0, 0))) ∧ Aside0 (wc.heap[gb227]? = some (.cells #[.int .i64 t222, .int .i64 t223, .int .i64 t224, .int .i64 t225] 32 (0, 0))) ∧ Aside0 (wc.heap[gb233]? = some (.cells #[.int .i64 t228, .int .i64 t229, .int .i64 t230, .int .i64 t231] 37 (0, 0))) ∧ Aside0 (Below w.heap.size w wc))
  case first =>
    have H := HC6.out
    clear HC6
    replace H := Option.bind_eq_some_iff.mp H
    obtain ⟨t234, A470, H⟩ := H
    replace H : (if t234 = true then ((node_State_Over.f t216 t217 t218 t219).bind fun t235 => ((precinctref14_Over.f a0_0 a0_1 a0_2 a0_3).bind fun t236 => (if (t235 != t236) = true then (precinctlaw14_NodeSteps.j0 k true a1_0 a1_1 a1_2 a1_3 a1_4 t216 t217 t218 t219 a0_0 a0_1 a0_2 a0_3) else (if t226 = t232 then ((precinctlaw14_is.f t222 t223 t224 t225 t228 t229 t230 t231).bind fun t237 => (precinctlaw14_NodeSteps.j0 k (!t237) a1_0 a1_1 a1_2 a1_3 a1_4 t216 t217 t218 t219 a0_0 a0_1 a0_2 a0_3)) else (precinctlaw14_NodeSteps.j0 k true a1_0 a1_1 a1_2 a1_3 a1_4 t216 t217 t218 t219 a0_0 a0_1 a0_2 a0_3))))) else (precinctlaw14_NodeSteps.j0 k true a1_0 a1_1 a1_2 a1_3 a1_4 t216 t217 t218 t219 a0_0 a0_1 a0_2 a0_3)) = some r := H
    have A47 := Aside0.mk A470
    clear A470
    by_cases c48 : t234 = true
    · subst c48
      have H1 : ((node_State_Over.f t216 t217 t218 t219).bind fun t235 => ((precinctref14_Over.f a0_0 a0_1 a0_2 a0_3).bind fun t236 => (if (t235 != t236) = true then (precinctlaw14_NodeSteps.j0 k true a1_0 a1_1 a1_2 a1_3 a1_4 t216 t217 t218 t219 a0_0 a0_1 a0_2 a0_3) else (if t226 = t232 then ((precinctlaw14_is.f t222 t223 t224 t225 t228 t229 t230 t231).bind fun t237 => (precinctlaw14_NodeSteps.j0 k (!t237) a1_0 a1_1 a1_2 a1_3 a1_4 t216 t217 t218 t219 a0_0 a0_1 a0_2 a0_3)) else (precinctlaw14_NodeSteps.j0 k true a1_0 a1_1 a1_2 a1_3 a1_4 t216 t217 t218 t219 a0_0 a0_1 a0_2 a0_3))))) = some r := by rw [if_pos rfl] at H; exact H
      clear H
      have H := H1
      clear H1
      replace H := Option.bind_eq_some_iff.mp H
      obtain ⟨t235, A490, H⟩ := H
      replace H : ((precinctref14_Over.f a0_0 a0_1 a0_2 a0_3).bind fun t236 => (if (t235 != t236) = true then (precinctlaw14_NodeSteps.j0 k true a1_0 a1_1 a1_2 a1_3 a1_4 t216 t217 t218 t219 a0_0 a0_1 a0_2 a0_3) else (if t226 = t232 then ((precinctlaw14_is.f t222 t223 t224 t225 t228 t229 t230 t231).bind fun t237 => (precinctlaw14_NodeSteps.j0 k (!t237) a1_0 a1_1 a1_2 a1_3 a1_4 t216 t217 t218 t219 a0_0 a0_1 a0_2 a0_3)) else (precinctlaw14_NodeSteps.j0 k true a1_0 a1_1 a1_2 a1_3 a1_4 t216 t217 t218 t219 a0_0 a0_1 a0_2 a0_3)))) = some r := H
      have A49 := Aside0.mk A490
      clear A490
      replace H := Option.bind_eq_some_iff.mp H
      obtain ⟨t236, A500, H⟩ := H
      replace H : (if (t235 != t236) = true then (precinctlaw14_NodeSteps.j0 k true a1_0 a1_1 a1_2 a1_3 a1_4 t216 t217 t218 t219 a0_0 a0_1 a0_2 a0_3) else (if t226 = t232 then ((precinctlaw14_is.f t222 t223 t224 t225 t228 t229 t230 t231).bind fun t237 => (precinctlaw14_NodeSteps.j0 k (!t237) a1_0 a1_1 a1_2 a1_3 a1_4 t216 t217 t218 t219 a0_0 a0_1 a0_2 a0_3)) else (precinctlaw14_NodeSteps.j0 k true a1_0 a1_1 a1_2 a1_3 a1_4 t216 t217 t218 t219 a0_0 a0_1 a0_2 a0_3))) = some r := H
      have A50 := Aside0.mk A500
      clear A500
      by_cases c51 : (t235 != t236) = true
      · rw [if_pos c51] at H
        have c51b0 : (t235 != t236) = true := c51
        (try (have c51b1 : decide (t235 = t236) = false := by simpa using c51))
        (try (have c51b2 : (t235 == t236) = false := by simpa using c51))
        (try (have c51b3 : ¬ (t235 = t236) := by simpa using c51))
        clear c51
        (first | rw [c51b0] | (simp only [i64_w, i32_w]; rw [c51b0]) | skip)
        have H' := Aside0.mk H
        clear H
        try go_wp2
        have n0_ : Aside0 (((((w40.setCell ⟨gb233, 0, none⟩ (.int .i64 t228)).setCell ⟨gb233, 1, none⟩ (.int .i64 t229)).setCell ⟨gb233, 2, none⟩ (.int .i64 t230)).setCell ⟨gb233, 3, none⟩ (.int .i64 t231)).heap[gb214]? = some (.cells #[.int .i64 a0_0, .int .i64 a0_1, .int .i64 a0_2, .int .i64 a0_3] 26 (0, 0))) := ⟨by (with_reducible repeat (first | refine blk_drewN ?_ _ | refine blk_drew ?_ | refine blk_alloc ?_ _)); refine blk_far ?_ NB214_233.out _; (with_reducible repeat (first | refine blk_drewN ?_ _ | refine blk_drew ?_ | refine blk_alloc ?_ _)); refine blk_far ?_ NB214_233.out _; (with_reducible repeat (first | refine blk_drewN ?_ _ | refine blk_drew ?_ | refine blk_alloc ?_ _)); refine blk_far ?_ NB214_233.out _; (with_reducible repeat (first | refine blk_drewN ?_ _ | refine blk_drew ?_ | refine blk_alloc ?_ _)); refine blk_far ?_ NB214_233.out _; (with_reducible repeat (first | refine blk_drewN ?_ _ | refine blk_drew ?_ | refine blk_alloc ?_ _)); exact BK214.out⟩
        have n1_ : Aside0 (((((w40.setCell ⟨gb233, 0, none⟩ (.int .i64 t228)).setCell ⟨gb233, 1, none⟩ (.int .i64 t229)).setCell ⟨gb233, 2, none⟩ (.int .i64 t230)).setCell ⟨gb233, 3, none⟩ (.int .i64 t231)).heap[gb215]? = some (.cells #[.int .i64 a1_0, .int .i64 a1_1, .int .i64 a1_2, .int .i64 a1_3, .bool a1_4] 28 (0, 0))) := ⟨by (with_reducible repeat (first | refine blk_drewN ?_ _ | refine blk_drew ?_ | refine blk_alloc ?_ _)); refine blk_far ?_ NB215_233.out _; (with_reducible repeat (first | refine blk_drewN ?_ _ | refine blk_drew ?_ | refine blk_alloc ?_ _)); refine blk_far ?_ NB215_233.out _; (with_reducible repeat (first | refine blk_drewN ?_ _ | refine blk_drew ?_ | refine blk_alloc ?_ _)); refine blk_far ?_ NB215_233.out _; (with_reducible repeat (first | refine blk_drewN ?_ _ | refine blk_drew ?_ | refine blk_alloc ?_ _)); refine blk_far ?_ NB215_233.out _; (with_reducible repeat (first | refine blk_drewN ?_ _ | refine blk_drew ?_ | refine blk_alloc ?_ _)); exact BK215.out⟩
        have n2_ : Aside0 (((((w40.setCell ⟨gb233, 0, none⟩ (.int .i64 t228)).setCell ⟨gb233, 1, none⟩ (.int .i64 t229)).setCell ⟨gb233, 2, none⟩ (.int .i64 t230)).setCell ⟨gb233, 3, none⟩ (.int .i64 t231)).heap[gb220]? = some (.cells #[.int .i64 t216, .int .i64 t217, .int .i64 t218, .int .i64 t219] 32 (0, 0))) := ⟨by (with_reducible repeat (first | refine blk_drewN ?_ _ | refine blk_drew ?_ | refine blk_alloc ?_ _)); refine blk_far ?_ NB220_233.out _; (with_reducible repeat (first | refine blk_drewN ?_ _ | refine blk_drew ?_ | refine blk_alloc ?_ _)); refine blk_far ?_ NB220_233.out _; (with_reducible repeat (first | refine blk_drewN ?_ _ | refine blk_drew ?_ | refine blk_alloc ?_ _)); refine blk_far ?_ NB220_233.out _; (with_reducible repeat (first | refine blk_drewN ?_ _ | refine blk_drew ?_ | refine blk_alloc ?_ _)); refine blk_far ?_ NB220_233.out _; (with_reducible repeat (first | refine blk_drewN ?_ _ | refine blk_drew ?_ | refine blk_alloc ?_ _)); exact BK220.out⟩
        have n3_ : Aside0 (((((w40.setCell ⟨gb233, 0, none⟩ (.int .i64 t228)).setCell ⟨gb233, 1, none⟩ (.int .i64 t229)).setCell ⟨gb233, 2, none⟩ (.int .i64 t230)).setCell ⟨gb233, 3, none⟩ (.int .i64 t231)).heap[gb221]? = some (.cells #[.int .i64 a0_0, .int .i64 a0_1, .int .i64 a0_2, .int .i64 a0_3] 37 (0, 0))) := ⟨by (with_reducible repeat (first | refine blk_drewN ?_ _ | refine blk_drew ?_ | refine blk_alloc ?_ _)); refine blk_far ?_ NB221_233.out _; (with_reducible repeat (first | refine blk_drewN ?_ _ | refine blk_drew ?_ | refine blk_alloc ?_ _)); refine blk_far ?_ NB221_233.out _; (with_reducible repeat (first | refine blk_drewN ?_ _ | refine blk_drew ?_ | refine blk_alloc ?_ _)); refine blk_far ?_ NB221_233.out _; (with_reducible repeat (first | refine blk_drewN ?_ _ | refine blk_drew ?_ | refine blk_alloc ?_ _)); refine blk_far ?_ NB221_233.out _; (with_reducible repeat (first | refine blk_drewN ?_ _ | refine blk_drew ?_ | refine blk_alloc ?_ _)); exact BK221.out⟩
        have n4_ : Aside0 (((((w40.setCell ⟨gb233, 0, none⟩ (.int .i64 t228)).setCell ⟨gb233, 1, none⟩ (.int .i64 t229)).setCell ⟨gb233, 2, none⟩ (.int .i64 t230)).setCell ⟨gb233, 3, none⟩ (.int .i64 t231)).heap[gb227]? = some (.cells #[.int .i64 t222, .int .i64 t223, .int .i64 t224, .int .i64 t225] 32 (0, 0))) := ⟨by (with_reducible repeat (first | refine blk_drewN ?_ _ | refine blk_drew ?_ | refine blk_alloc ?_ _)); refine blk_far ?_ NB227_233.out _; (with_reducible repeat (first | refine blk_drewN ?_ _ | refine blk_drew ?_ | refine blk_alloc ?_ _)); refine blk_far ?_ NB227_233.out _; (with_reducible repeat (first | refine blk_drewN ?_ _ | refine blk_drew ?_ | refine blk_alloc ?_ _)); refine blk_far ?_ NB227_233.out _; (with_reducible repeat (first | refine blk_drewN ?_ _ | refine blk_drew ?_ | refine blk_alloc ?_ _)); refine blk_far ?_ NB227_233.out _; (with_reducible repeat (first | refine blk_drewN ?_ _ | refine blk_drew ?_ | refine blk_alloc ?_ _)); exact BK227.out⟩
        have n5_ : Aside0 (((((w40.setCell ⟨gb233, 0, none⟩ (.int .i64 t228)).setCell ⟨gb233, 1, none⟩ (.int .i64 t229)).setCell ⟨gb233, 2, none⟩ (.int .i64 t230)).setCell ⟨gb233, 3, none⟩ (.int .i64 t231)).heap[gb233]? = some (.cells #[.int .i64 t228, .int .i64 t229, .int .i64 t230, .int .i64 t231] 37 (0, 0))) := ⟨by (with_reducible repeat (first | refine blk_drewN ?_ _ | refine blk_drew ?_ | refine blk_alloc ?_ _)); refine blk_put (cs := #[.int .i64 t228, .int .i64 t229, .int .i64 t230, .int .i64 0]) ?_ 3 _ rfl; (with_reducible repeat (first | refine blk_drewN ?_ _ | refine blk_drew ?_ | refine blk_alloc ?_ _)); refine blk_put (cs := #[.int .i64 t228, .int .i64 t229, .int .i64 0, .int .i64 0]) ?_ 2 _ rfl; (with_reducible repeat (first | refine blk_drewN ?_ _ | refine blk_drew ?_ | refine blk_alloc ?_ _)); refine blk_put (cs := #[.int .i64 t228, .int .i64 0, .int .i64 0, .int .i64 0]) ?_ 1 _ rfl; (with_reducible repeat (first | refine blk_drewN ?_ _ | refine blk_drew ?_ | refine blk_alloc ?_ _)); refine blk_put (cs := #[.int .i64 0, .int .i64 0, .int .i64 0, .int .i64 0]) ?_ 0 _ rfl; (with_reducible repeat (first | refine blk_drewN ?_ _ | refine blk_drew ?_ | refine blk_alloc ?_ _)); exact BK233.out⟩
        have n6_ : Aside0 (Below w.heap.size w ((((w40.setCell ⟨gb233, 0, none⟩ (.int .i64 t228)).setCell ⟨gb233, 1, none⟩ (.int .i64 t229)).setCell ⟨gb233, 2, none⟩ (.int .i64 t230)).setCell ⟨gb233, 3, none⟩ (.int .i64 t231))) := ⟨by repeat (first | (with_reducible first | exact HB.out | apply below_alloc | apply pw_below_drewN | apply below_drew1 | refine below_set ?_ GE214.out | refine below_set ?_ GE215.out | refine below_set ?_ GE220.out | refine below_set ?_ GE221.out | refine below_set ?_ GE227.out | refine below_set ?_ GE233.out) | exact HB.out)⟩
        (try clear BK214)
        (try clear BK215)
        (try clear BK220)
        (try clear BK221)
        (try clear BK227)
        (try clear BK233)
        (try clear HB)
        generalize ((((w40.setCell ⟨gb233, 0, none⟩ (.int .i64 t228)).setCell ⟨gb233, 1, none⟩ (.int .i64 t229)).setCell ⟨gb233, 2, none⟩ (.int .i64 t230)).setCell ⟨gb233, 3, none⟩ (.int .i64 t231)) = w52 at n0_ n1_ n2_ n3_ n4_ n5_ n6_ ⊢
        have BK214 := n0_
        have BK215 := n1_
        have BK220 := n2_
        have BK221 := n3_
        have BK227 := n4_
        have BK233 := n5_
        have HB := n6_
        clear n0_ n1_ n2_ n3_ n4_ n5_ n6_
        have n0_ := Aside0.mk (blk_drew BK214.out)
        have n1_ := Aside0.mk (blk_drew BK215.out)
        have n2_ := Aside0.mk (blk_drew BK220.out)
        have n3_ := Aside0.mk (blk_drew BK221.out)
        have n4_ := Aside0.mk (blk_drew BK227.out)
        have n5_ := Aside0.mk (blk_drew BK233.out)
        have n6_ := Aside0.mk (below_drew1 HB.out)
        clear BK214
        clear BK215
        clear BK220
        clear BK221
        clear BK227
        clear BK233
        clear HB
        have BK214 := n0_
        have BK215 := n1_
        have BK220 := n2_
        have BK221 := n3_
        have BK227 := n4_
        have BK233 := n5_
        have HB := n6_
        clear n0_ n1_ n2_ n3_ n4_ n5_ n6_
        refine start_ (n := 20) (S := fun w' => w'.cell? ⟨gb220, 0, none⟩ = some (.int .i64 t216) ∧ w'.cell? ⟨gb220, 1, none⟩ = some (.int .i64 t217) ∧ w'.cell? ⟨gb220, 2, none⟩ = some (.int .i64 t218) ∧ w'.cell? ⟨gb220, 3, none⟩ = some (.int .i64 t219) ∧ w'.cell? ⟨gb221, 0, none⟩ = some (.int .i64 a0_0) ∧ w'.cell? ⟨gb221, 1, none⟩ = some (.int .i64 a0_1) ∧ w'.cell? ⟨gb221, 2, none⟩ = some (.int .i64 a0_2) ∧ w'.cell? ⟨gb221, 3, none⟩ = some (.int .i64 a0_3)) (ds := []) #[false, false, false, false, false, false, false, false, false, false, false, false, false, false, false, false, false, false, false, false] (by kernel_rfl) rfl rfl ⟨(blk_cell BK220.out 0).trans rfl, (blk_cell BK220.out 1).trans rfl, (blk_cell BK220.out 2).trans rfl, (blk_cell BK220.out 3).trans rfl, (blk_cell BK221.out 0).trans rfl, (blk_cell BK221.out 1).trans rfl, (blk_cell BK221.out 2).trans rfl, (blk_cell BK221.out 3).trans rfl⟩ (fun hHeld => ?_); refine with_tabW precinctlaw14_NodeSteps.tab4 precinctlaw14_NodeSteps.bits4 (fun HT_ HW_ => ?_)
        generalize w52.drew = w53 at BK214 BK215 BK220 BK221 BK227 BK233 HB hHeld ⊢
        refine one_ (i := 0) (N := some 36) #[true, false, false, false, false, false, false, false, false, false, false, false, false, false, false, false, false, false, false, false] rfl rfl (one_of HT_.out (by kernel_rfl)) (by decide) (fun K hK => ?_)
        refine goes_ Try.func16 (by kernel_rfl) rfl #[] (by rfl) rfl rfl (by (try simp only [List.map_toArray, List.map_cons, List.map_nil]); first | done | rfl | (simp only [List.length_drop, List.length_take]; rfl)) ?_
        with_reducible refine (precinctlaw14_wakes.calls k  true _ A47.out).mono ?_
        rintro e w54 ⟨rfl, hb⟩
        refine ⟨_, rfl, ?_⟩
        have n0_ := Aside0.mk (blk_below (rb BK214.out) hb)
        have n1_ := Aside0.mk (blk_below (rb BK215.out) hb)
        have n2_ := Aside0.mk (blk_below (rb BK220.out) hb)
        have n3_ := Aside0.mk (blk_below (rb BK221.out) hb)
        have n4_ := Aside0.mk (blk_below (rb BK227.out) hb)
        have n5_ := Aside0.mk (blk_below (rb BK233.out) hb)
        have n6_ := Aside0.mk (below_step (by repeat (first | (with_reducible first | exact HB.out | apply below_alloc | apply pw_below_drewN | apply below_drew1 | refine below_set ?_ GE214.out | refine below_set ?_ GE215.out | refine below_set ?_ GE220.out | refine below_set ?_ GE221.out | refine below_set ?_ GE227.out | refine below_set ?_ GE233.out) | exact HB.out)) hb)
        clear BK214
        clear BK215
        clear BK220
        clear BK221
        clear BK227
        clear BK233
        clear HB
        have BK214 := n0_
        have BK215 := n1_
        have BK220 := n2_
        have BK221 := n3_
        have BK227 := n4_
        have BK233 := n5_
        have HB := n6_
        clear n0_ n1_ n2_ n3_ n4_ n5_ n6_
        (try clear hb)
        (try clear hb2)
        (try clear hk)
        (try clear hi)
        refine hK.out _ _ ⟨(blk_cell BK220.out 0).trans rfl, (blk_cell BK220.out 1).trans rfl, (blk_cell BK220.out 2).trans rfl, (blk_cell BK220.out 3).trans rfl, (blk_cell BK221.out 0).trans rfl, (blk_cell BK221.out 1).trans rfl, (blk_cell BK221.out 2).trans rfl, (blk_cell BK221.out 3).trans rfl⟩ (fun hHeld => ?_)
        clear hK K
        refine norm_ (a' := ?_) ?_ ?_
        rotate_left
        · show Act.put _ (some 36) _ = _
          simp only [Act.put, List.setIfInBounds_toArray, List.set_cons_zero, List.set_cons_succ, i64_w, i32_w]
          rfl
        refine pure_ (i := 1) (N := some 37) (v := ?_) (a' := ?_) #[true, true, false, false, false, false, false, false, false, false, false, false, false, false, false, false, false, false, false, false] rfl rfl (any_of HT_.out (by kernel_rfl)) (fun _ _ _ h => h) (Or.inl ⟨by rfl, ?_⟩) ?_ ?_
        rotate_left
        · intro w'
          go_simp
          with_reducible rfl
        rotate_left
        · simp only [Act.put, List.setIfInBounds_toArray, List.set_cons_zero, List.set_cons_succ, i64_w, i32_w]
          rfl
        refine pure_ (i := 2) (N := some 38) (v := ?_) (a' := ?_) #[true, true, true, false, false, false, false, false, false, false, false, false, false, false, false, false, false, false, false, false] rfl rfl (any_of HT_.out (by kernel_rfl)) (fun _ _ _ h => h) (Or.inl ⟨by rfl, ?_⟩) ?_ ?_
        rotate_left
        · intro w'
          go_simp
          with_reducible rfl
        rotate_left
        · simp only [Act.put, List.setIfInBounds_toArray, List.set_cons_zero, List.set_cons_succ, i64_w, i32_w]
          rfl
        refine take_ (i := 3) (N := some 39) (v := ?_) (a' := ?_) #[true, true, true, true, false, false, false, false, false, false, false, false, false, false, false, false, false, false, false, false] rfl rfl (take_ofW HT_.out HW_.out (by kernel_rfl)) (fun _ _ _ h => h) (Or.inl ⟨by rfl, ?_⟩) hHeld ?_ ?_
        rotate_left
        · rintro w' ⟨s0, s1, s2, s3, s4, s5, s6, s7⟩
          go_simp
          with_reducible rfl
        rotate_left
        · simp only [Act.put, List.setIfInBounds_toArray, List.set_cons_zero, List.set_cons_succ, i64_w, i32_w]
          rfl
        refine take_ (i := 5) (N := some 41) (v := ?_) (a' := ?_) #[true, true, true, true, false, true, false, false, false, false, false, false, false, false, false, false, false, false, false, false] rfl rfl (take_ofW HT_.out HW_.out (by kernel_rfl)) (fun _ _ _ h => h) (Or.inl ⟨by rfl, ?_⟩) hHeld ?_ ?_
        rotate_left
        · rintro w' ⟨s0, s1, s2, s3, s4, s5, s6, s7⟩
          go_simp
          with_reducible rfl
        rotate_left
        · simp only [Act.put, List.setIfInBounds_toArray, List.set_cons_zero, List.set_cons_succ, i64_w, i32_w]
          rfl
        refine one_ (i := 4) (N := some 40) #[true, true, true, true, true, true, false, false, false, false, false, false, false, false, false, false, false, false, false, false] rfl rfl (one_of HT_.out (by kernel_rfl)) (by decide) (fun K hK => ?_)
        refine goes_ Try.func21 (by kernel_rfl) rfl #[.agg #[.int .i64 t216, .int .i64 t217, .int .i64 t218, .int .i64 t219]] (by rfl) rfl rfl (by (try simp only [List.map_toArray, List.map_cons, List.map_nil]); first | done | rfl | (simp only [List.length_drop, List.length_take]; rfl)) ?_
        with_reducible refine (node_State_Over.calls t216 t217 t218 t219 t235 _ A49.out).mono ?_
        rintro e w55 ⟨rfl, hb⟩
        refine ⟨_, rfl, ?_⟩
        have n0_ := Aside0.mk (blk_below (rb BK214.out) hb)
        have n1_ := Aside0.mk (blk_below (rb BK215.out) hb)
        have n2_ := Aside0.mk (blk_below (rb BK220.out) hb)
        have n3_ := Aside0.mk (blk_below (rb BK221.out) hb)
        have n4_ := Aside0.mk (blk_below (rb BK227.out) hb)
        have n5_ := Aside0.mk (blk_below (rb BK233.out) hb)
        have n6_ := Aside0.mk (below_step (by repeat (first | (with_reducible first | exact HB.out | apply below_alloc | apply pw_below_drewN | apply below_drew1 | refine below_set ?_ GE214.out | refine below_set ?_ GE215.out | refine below_set ?_ GE220.out | refine below_set ?_ GE221.out | refine below_set ?_ GE227.out | refine below_set ?_ GE233.out) | exact HB.out)) hb)
        clear BK214
        clear BK215
        clear BK220
        clear BK221
        clear BK227
        clear BK233
        clear HB
        have BK214 := n0_
        have BK215 := n1_
        have BK220 := n2_
        have BK221 := n3_
        have BK227 := n4_
        have BK233 := n5_
        have HB := n6_
        clear n0_ n1_ n2_ n3_ n4_ n5_ n6_
        (try clear hb)
        (try clear hb2)
        (try clear hk)
        (try clear hi)
        refine hK.out _ _ ⟨(blk_cell BK220.out 0).trans rfl, (blk_cell BK220.out 1).trans rfl, (blk_cell BK220.out 2).trans rfl, (blk_cell BK220.out 3).trans rfl, (blk_cell BK221.out 0).trans rfl, (blk_cell BK221.out 1).trans rfl, (blk_cell BK221.out 2).trans rfl, (blk_cell BK221.out 3).trans rfl⟩ (fun hHeld => ?_)
        clear hK K
        refine norm_ (a' := ?_) ?_ ?_
        rotate_left
        · show Act.put _ (some 40) _ = _
          simp only [Act.put, List.setIfInBounds_toArray, List.set_cons_zero, List.set_cons_succ, i64_w, i32_w]
          rfl
        refine one_ (i := 6) (N := some 42) #[true, true, true, true, true, true, true, false, false, false, false, false, false, false, false, false, false, false, false, false] rfl rfl (one_of HT_.out (by kernel_rfl)) (by decide) (fun K hK => ?_)
        refine goes_ Try.func23 (by kernel_rfl) rfl #[.agg #[.int .i64 a0_0, .int .i64 a0_1, .int .i64 a0_2, .int .i64 a0_3]] (by rfl) rfl rfl (by (try simp only [List.map_toArray, List.map_cons, List.map_nil]); first | done | rfl | (simp only [List.length_drop, List.length_take]; rfl)) ?_
        with_reducible refine (precinctref14_Over.calls a0_0 a0_1 a0_2 a0_3 t236 _ A50.out).mono ?_
        rintro e w56 ⟨rfl, hb⟩
        refine ⟨_, rfl, ?_⟩
        have n0_ := Aside0.mk (blk_below (rb BK214.out) hb)
        have n1_ := Aside0.mk (blk_below (rb BK215.out) hb)
        have n2_ := Aside0.mk (blk_below (rb BK220.out) hb)
        have n3_ := Aside0.mk (blk_below (rb BK221.out) hb)
        have n4_ := Aside0.mk (blk_below (rb BK227.out) hb)
        have n5_ := Aside0.mk (blk_below (rb BK233.out) hb)
        have n6_ := Aside0.mk (below_step (by repeat (first | (with_reducible first | exact HB.out | apply below_alloc | apply pw_below_drewN | apply below_drew1 | refine below_set ?_ GE214.out | refine below_set ?_ GE215.out | refine below_set ?_ GE220.out | refine below_set ?_ GE221.out | refine below_set ?_ GE227.out | refine below_set ?_ GE233.out) | exact HB.out)) hb)
        clear BK214
        clear BK215
        clear BK220
        clear BK221
        clear BK227
        clear BK233
        clear HB
        have BK214 := n0_
        have BK215 := n1_
        have BK220 := n2_
        have BK221 := n3_
        have BK227 := n4_
        have BK233 := n5_
        have HB := n6_
        clear n0_ n1_ n2_ n3_ n4_ n5_ n6_
        (try clear hb)
        (try clear hb2)
        (try clear hk)
        (try clear hi)
        refine hK.out _ _ ⟨(blk_cell BK220.out 0).trans rfl, (blk_cell BK220.out 1).trans rfl, (blk_cell BK220.out 2).trans rfl, (blk_cell BK220.out 3).trans rfl, (blk_cell BK221.out 0).trans rfl, (blk_cell BK221.out 1).trans rfl, (blk_cell BK221.out 2).trans rfl, (blk_cell BK221.out 3).trans rfl⟩ (fun hHeld => ?_)
        clear hK K
        refine norm_ (a' := ?_) ?_ ?_
        rotate_left
        · show Act.put _ (some 42) _ = _
          simp only [Act.put, List.setIfInBounds_toArray, List.set_cons_zero, List.set_cons_succ, i64_w, i32_w]
          rfl
        refine pure_ (i := 7) (N := some 43) (v := ?_) (a' := ?_) #[true, true, true, true, true, true, true, true, false, false, false, false, false, false, false, false, false, false, false, false] rfl rfl (any_of HT_.out (by kernel_rfl)) (fun _ _ _ h => h) (Or.inl ⟨by rfl, ?_⟩) ?_ ?_
        rotate_left
        · intro w'
          go_simp
          with_reducible rfl
        rotate_left
        · simp only [Act.put, List.setIfInBounds_toArray, List.set_cons_zero, List.set_cons_succ, i64_w, i32_w]
          rfl
        refine pure_ (i := 8) (N := some 44) (v := ?_) (a' := ?_) #[true, true, true, true, true, true, true, true, true, false, false, false, false, false, false, false, false, false, false, false] rfl rfl (any_of HT_.out (by kernel_rfl)) (fun _ _ _ h => h) (Or.inl ⟨by rfl, ?_⟩) ?_ ?_
        rotate_left
        · intro w'
          go_simp
          with_reducible rfl
        rotate_left
        · simp only [Act.put, List.setIfInBounds_toArray, List.set_cons_zero, List.set_cons_succ, i64_w, i32_w]
          rfl
        refine pure_ (i := 9) (N := some 45) (v := ?_) (a' := ?_) #[true, true, true, true, true, true, true, true, true, true, false, false, false, false, false, false, false, false, false, false] rfl rfl (any_of HT_.out (by kernel_rfl)) (fun _ _ _ h => h) (Or.inl ⟨by rfl, ?_⟩) ?_ ?_
        rotate_left
        · intro w'
          go_simp
          with_reducible rfl
        rotate_left
        · simp only [Act.put, List.setIfInBounds_toArray, List.set_cons_zero, List.set_cons_succ, i64_w, i32_w]
          rfl
        refine pure_ (i := 10) (N := some 46) (v := undef) (a' := ?_) #[true, true, true, true, true, true, true, true, true, true, true, false, false, false, false, false, false, false, false, false] rfl rfl (any_of HT_.out (by kernel_rfl)) (fun _ _ _ h => h) (Or.inr ⟨by rfl, rfl⟩) ?_ ?_
        rotate_left
        · simp only [Act.put, List.setIfInBounds_toArray, List.set_cons_zero, List.set_cons_succ, i64_w, i32_w]
          rfl
        refine pure_ (i := 11) (N := some 47) (v := undef) (a' := ?_) #[true, true, true, true, true, true, true, true, true, true, true, true, false, false, false, false, false, false, false, false] rfl rfl (any_of HT_.out (by kernel_rfl)) (fun _ _ _ h => h) (Or.inr ⟨by rfl, rfl⟩) ?_ ?_
        rotate_left
        · simp only [Act.put, List.setIfInBounds_toArray, List.set_cons_zero, List.set_cons_succ, i64_w, i32_w]
          rfl
        refine pure_ (i := 12) (N := some 48) (v := undef) (a' := ?_) #[true, true, true, true, true, true, true, true, true, true, true, true, true, false, false, false, false, false, false, false] rfl rfl (any_of HT_.out (by kernel_rfl)) (fun _ _ _ h => h) (Or.inr ⟨by rfl, rfl⟩) ?_ ?_
        rotate_left
        · simp only [Act.put, List.setIfInBounds_toArray, List.set_cons_zero, List.set_cons_succ, i64_w, i32_w]
          rfl
        refine pure_ (i := 13) (N := some 49) (v := ?_) (a' := ?_) #[true, true, true, true, true, true, true, true, true, true, true, true, true, true, false, false, false, false, false, false] rfl rfl (any_of HT_.out (by kernel_rfl)) (fun _ _ _ h => h) (Or.inl ⟨by rfl, ?_⟩) ?_ ?_
        rotate_left
        · intro w'
          go_simp
          with_reducible rfl
        rotate_left
        · simp only [Act.put, List.setIfInBounds_toArray, List.set_cons_zero, List.set_cons_succ, i64_w, i32_w]
          rfl
        refine pure_ (i := 14) (N := some 50) (v := ?_) (a' := ?_) #[true, true, true, true, true, true, true, true, true, true, true, true, true, true, true, false, false, false, false, false] rfl rfl (any_of HT_.out (by kernel_rfl)) (fun _ _ _ h => h) (Or.inl ⟨by rfl, ?_⟩) ?_ ?_
        rotate_left
        · intro w'
          go_simp
          with_reducible rfl
        rotate_left
        · simp only [Act.put, List.setIfInBounds_toArray, List.set_cons_zero, List.set_cons_succ, i64_w, i32_w]
          rfl
        refine pure_ (i := 15) (N := some 51) (v := undef) (a' := ?_) #[true, true, true, true, true, true, true, true, true, true, true, true, true, true, true, true, false, false, false, false] rfl rfl (any_of HT_.out (by kernel_rfl)) (fun _ _ _ h => h) (Or.inr ⟨by rfl, rfl⟩) ?_ ?_
        rotate_left
        · simp only [Act.put, List.setIfInBounds_toArray, List.set_cons_zero, List.set_cons_succ, i64_w, i32_w]
          rfl
        refine pure_ (i := 16) (N := some 52) (v := undef) (a' := ?_) #[true, true, true, true, true, true, true, true, true, true, true, true, true, true, true, true, true, false, false, false] rfl rfl (any_of HT_.out (by kernel_rfl)) (fun _ _ _ h => h) (Or.inr ⟨by rfl, rfl⟩) ?_ ?_
        rotate_left
        · simp only [Act.put, List.setIfInBounds_toArray, List.set_cons_zero, List.set_cons_succ, i64_w, i32_w]
          rfl
        refine pure_ (i := 17) (N := some 53) (v := undef) (a' := ?_) #[true, true, true, true, true, true, true, true, true, true, true, true, true, true, true, true, true, true, false, false] rfl rfl (any_of HT_.out (by kernel_rfl)) (fun _ _ _ h => h) (Or.inr ⟨by rfl, rfl⟩) ?_ ?_
        rotate_left
        · simp only [Act.put, List.setIfInBounds_toArray, List.set_cons_zero, List.set_cons_succ, i64_w, i32_w]
          rfl
        refine pure_ (i := 18) (N := some 54) (v := undef) (a' := ?_) #[true, true, true, true, true, true, true, true, true, true, true, true, true, true, true, true, true, true, true, false] rfl rfl (any_of HT_.out (by kernel_rfl)) (fun _ _ _ h => h) (Or.inr ⟨by rfl, rfl⟩) ?_ ?_
        rotate_left
        · simp only [Act.put, List.setIfInBounds_toArray, List.set_cons_zero, List.set_cons_succ, i64_w, i32_w]
          rfl
        refine pure_ (i := 19) (N := some 55) (v := ?_) (a' := ?_) #[true, true, true, true, true, true, true, true, true, true, true, true, true, true, true, true, true, true, true, true] rfl rfl (any_of HT_.out (by kernel_rfl)) (fun _ _ _ h => h) (Or.inl ⟨by rfl, ?_⟩) ?_ ?_
        rotate_left
        · intro w'
          go_simp
          with_reducible rfl
        rotate_left
        · simp only [Act.put, List.setIfInBounds_toArray, List.set_cons_zero, List.set_cons_succ, i64_w, i32_w]
          rfl
        refine done_ (done_of HT_.out (by kernel_rfl)) ?_
        try go_wp2
        go_meet
        case rel => exact ⟨_, (true), (by first | rfl | (simp; done) | (simp [*]; done)), H', ⟨by first | omega | exact Nat.le_refl _⟩, ⟨by (with_reducible repeat (first | refine blk_drewN ?_ _ | refine blk_drew ?_ | refine blk_alloc ?_ _)); exact BK214.out⟩, ⟨by (with_reducible repeat (first | refine blk_drewN ?_ _ | refine blk_drew ?_ | refine blk_alloc ?_ _)); exact BK215.out⟩, ⟨by (with_reducible repeat (first | refine blk_drewN ?_ _ | refine blk_drew ?_ | refine blk_alloc ?_ _)); exact BK220.out⟩, ⟨by (with_reducible repeat (first | refine blk_drewN ?_ _ | refine blk_drew ?_ | refine blk_alloc ?_ _)); exact BK221.out⟩, ⟨by (with_reducible repeat (first | refine blk_drewN ?_ _ | refine blk_drew ?_ | refine blk_alloc ?_ _)); exact BK227.out⟩, ⟨by (with_reducible repeat (first | refine blk_drewN ?_ _ | refine blk_drew ?_ | refine blk_alloc ?_ _)); exact BK233.out⟩, ⟨by repeat (first | (with_reducible first | exact HB.out | apply below_alloc | apply pw_below_drewN | apply below_drew1 | refine below_set ?_ GE214.out | refine below_set ?_ GE215.out | refine below_set ?_ GE220.out | refine below_set ?_ GE221.out | refine below_set ?_ GE227.out | refine below_set ?_ GE233.out) | exact HB.out)⟩⟩
      · rw [if_neg c51] at H
        have c51b0 : (t235 != t236) = false := by simpa using c51
        (try (have c51b1 : decide (t235 = t236) = true := by simpa using c51))
        (try (have c51b2 : (t235 == t236) = true := by simpa using c51))
        clear c51
        (first | rw [c51b0] | (simp only [i64_w, i32_w]; rw [c51b0]) | skip)
        by_cases c57 : t226 = t232
        · rw [if_pos c57] at H
          have c57b0 : (t226 == t232) = true := beq_iff_eq.mpr c57
          have c57b1 : (t226 != t232) = false := bne_eq_false_iff_eq.mpr c57
          clear c57
          replace H := Option.bind_eq_some_iff.mp H
          obtain ⟨t237, A580, H⟩ := H
          replace H : (precinctlaw14_NodeSteps.j0 k (!t237) a1_0 a1_1 a1_2 a1_3 a1_4 t216 t217 t218 t219 a0_0 a0_1 a0_2 a0_3) = some r := H
          have A58 := Aside0.mk A580
          clear A580
          have H' := Aside0.mk H
          clear H
          try go_wp2
          have n0_ : Aside0 (((((w40.setCell ⟨gb233, 0, none⟩ (.int .i64 t228)).setCell ⟨gb233, 1, none⟩ (.int .i64 t229)).setCell ⟨gb233, 2, none⟩ (.int .i64 t230)).setCell ⟨gb233, 3, none⟩ (.int .i64 t231)).heap[gb214]? = some (.cells #[.int .i64 a0_0, .int .i64 a0_1, .int .i64 a0_2, .int .i64 a0_3] 26 (0, 0))) := ⟨by (with_reducible repeat (first | refine blk_drewN ?_ _ | refine blk_drew ?_ | refine blk_alloc ?_ _)); refine blk_far ?_ NB214_233.out _; (with_reducible repeat (first | refine blk_drewN ?_ _ | refine blk_drew ?_ | refine blk_alloc ?_ _)); refine blk_far ?_ NB214_233.out _; (with_reducible repeat (first | refine blk_drewN ?_ _ | refine blk_drew ?_ | refine blk_alloc ?_ _)); refine blk_far ?_ NB214_233.out _; (with_reducible repeat (first | refine blk_drewN ?_ _ | refine blk_drew ?_ | refine blk_alloc ?_ _)); refine blk_far ?_ NB214_233.out _; (with_reducible repeat (first | refine blk_drewN ?_ _ | refine blk_drew ?_ | refine blk_alloc ?_ _)); exact BK214.out⟩
          have n1_ : Aside0 (((((w40.setCell ⟨gb233, 0, none⟩ (.int .i64 t228)).setCell ⟨gb233, 1, none⟩ (.int .i64 t229)).setCell ⟨gb233, 2, none⟩ (.int .i64 t230)).setCell ⟨gb233, 3, none⟩ (.int .i64 t231)).heap[gb215]? = some (.cells #[.int .i64 a1_0, .int .i64 a1_1, .int .i64 a1_2, .int .i64 a1_3, .bool a1_4] 28 (0, 0))) := ⟨by (with_reducible repeat (first | refine blk_drewN ?_ _ | refine blk_drew ?_ | refine blk_alloc ?_ _)); refine blk_far ?_ NB215_233.out _; (with_reducible repeat (first | refine blk_drewN ?_ _ | refine blk_drew ?_ | refine blk_alloc ?_ _)); refine blk_far ?_ NB215_233.out _; (with_reducible repeat (first | refine blk_drewN ?_ _ | refine blk_drew ?_ | refine blk_alloc ?_ _)); refine blk_far ?_ NB215_233.out _; (with_reducible repeat (first | refine blk_drewN ?_ _ | refine blk_drew ?_ | refine blk_alloc ?_ _)); refine blk_far ?_ NB215_233.out _; (with_reducible repeat (first | refine blk_drewN ?_ _ | refine blk_drew ?_ | refine blk_alloc ?_ _)); exact BK215.out⟩
          have n2_ : Aside0 (((((w40.setCell ⟨gb233, 0, none⟩ (.int .i64 t228)).setCell ⟨gb233, 1, none⟩ (.int .i64 t229)).setCell ⟨gb233, 2, none⟩ (.int .i64 t230)).setCell ⟨gb233, 3, none⟩ (.int .i64 t231)).heap[gb220]? = some (.cells #[.int .i64 t216, .int .i64 t217, .int .i64 t218, .int .i64 t219] 32 (0, 0))) := ⟨by (with_reducible repeat (first | refine blk_drewN ?_ _ | refine blk_drew ?_ | refine blk_alloc ?_ _)); refine blk_far ?_ NB220_233.out _; (with_reducible repeat (first | refine blk_drewN ?_ _ | refine blk_drew ?_ | refine blk_alloc ?_ _)); refine blk_far ?_ NB220_233.out _; (with_reducible repeat (first | refine blk_drewN ?_ _ | refine blk_drew ?_ | refine blk_alloc ?_ _)); refine blk_far ?_ NB220_233.out _; (with_reducible repeat (first | refine blk_drewN ?_ _ | refine blk_drew ?_ | refine blk_alloc ?_ _)); refine blk_far ?_ NB220_233.out _; (with_reducible repeat (first | refine blk_drewN ?_ _ | refine blk_drew ?_ | refine blk_alloc ?_ _)); exact BK220.out⟩
          have n3_ : Aside0 (((((w40.setCell ⟨gb233, 0, none⟩ (.int .i64 t228)).setCell ⟨gb233, 1, none⟩ (.int .i64 t229)).setCell ⟨gb233, 2, none⟩ (.int .i64 t230)).setCell ⟨gb233, 3, none⟩ (.int .i64 t231)).heap[gb221]? = some (.cells #[.int .i64 a0_0, .int .i64 a0_1, .int .i64 a0_2, .int .i64 a0_3] 37 (0, 0))) := ⟨by (with_reducible repeat (first | refine blk_drewN ?_ _ | refine blk_drew ?_ | refine blk_alloc ?_ _)); refine blk_far ?_ NB221_233.out _; (with_reducible repeat (first | refine blk_drewN ?_ _ | refine blk_drew ?_ | refine blk_alloc ?_ _)); refine blk_far ?_ NB221_233.out _; (with_reducible repeat (first | refine blk_drewN ?_ _ | refine blk_drew ?_ | refine blk_alloc ?_ _)); refine blk_far ?_ NB221_233.out _; (with_reducible repeat (first | refine blk_drewN ?_ _ | refine blk_drew ?_ | refine blk_alloc ?_ _)); refine blk_far ?_ NB221_233.out _; (with_reducible repeat (first | refine blk_drewN ?_ _ | refine blk_drew ?_ | refine blk_alloc ?_ _)); exact BK221.out⟩
          have n4_ : Aside0 (((((w40.setCell ⟨gb233, 0, none⟩ (.int .i64 t228)).setCell ⟨gb233, 1, none⟩ (.int .i64 t229)).setCell ⟨gb233, 2, none⟩ (.int .i64 t230)).setCell ⟨gb233, 3, none⟩ (.int .i64 t231)).heap[gb227]? = some (.cells #[.int .i64 t222, .int .i64 t223, .int .i64 t224, .int .i64 t225] 32 (0, 0))) := ⟨by (with_reducible repeat (first | refine blk_drewN ?_ _ | refine blk_drew ?_ | refine blk_alloc ?_ _)); refine blk_far ?_ NB227_233.out _; (with_reducible repeat (first | refine blk_drewN ?_ _ | refine blk_drew ?_ | refine blk_alloc ?_ _)); refine blk_far ?_ NB227_233.out _; (with_reducible repeat (first | refine blk_drewN ?_ _ | refine blk_drew ?_ | refine blk_alloc ?_ _)); refine blk_far ?_ NB227_233.out _; (with_reducible repeat (first | refine blk_drewN ?_ _ | refine blk_drew ?_ | refine blk_alloc ?_ _)); refine blk_far ?_ NB227_233.out _; (with_reducible repeat (first | refine blk_drewN ?_ _ | refine blk_drew ?_ | refine blk_alloc ?_ _)); exact BK227.out⟩
          have n5_ : Aside0 (((((w40.setCell ⟨gb233, 0, none⟩ (.int .i64 t228)).setCell ⟨gb233, 1, none⟩ (.int .i64 t229)).setCell ⟨gb233, 2, none⟩ (.int .i64 t230)).setCell ⟨gb233, 3, none⟩ (.int .i64 t231)).heap[gb233]? = some (.cells #[.int .i64 t228, .int .i64 t229, .int .i64 t230, .int .i64 t231] 37 (0, 0))) := ⟨by (with_reducible repeat (first | refine blk_drewN ?_ _ | refine blk_drew ?_ | refine blk_alloc ?_ _)); refine blk_put (cs := #[.int .i64 t228, .int .i64 t229, .int .i64 t230, .int .i64 0]) ?_ 3 _ rfl; (with_reducible repeat (first | refine blk_drewN ?_ _ | refine blk_drew ?_ | refine blk_alloc ?_ _)); refine blk_put (cs := #[.int .i64 t228, .int .i64 t229, .int .i64 0, .int .i64 0]) ?_ 2 _ rfl; (with_reducible repeat (first | refine blk_drewN ?_ _ | refine blk_drew ?_ | refine blk_alloc ?_ _)); refine blk_put (cs := #[.int .i64 t228, .int .i64 0, .int .i64 0, .int .i64 0]) ?_ 1 _ rfl; (with_reducible repeat (first | refine blk_drewN ?_ _ | refine blk_drew ?_ | refine blk_alloc ?_ _)); refine blk_put (cs := #[.int .i64 0, .int .i64 0, .int .i64 0, .int .i64 0]) ?_ 0 _ rfl; (with_reducible repeat (first | refine blk_drewN ?_ _ | refine blk_drew ?_ | refine blk_alloc ?_ _)); exact BK233.out⟩
          have n6_ : Aside0 (Below w.heap.size w ((((w40.setCell ⟨gb233, 0, none⟩ (.int .i64 t228)).setCell ⟨gb233, 1, none⟩ (.int .i64 t229)).setCell ⟨gb233, 2, none⟩ (.int .i64 t230)).setCell ⟨gb233, 3, none⟩ (.int .i64 t231))) := ⟨by repeat (first | (with_reducible first | exact HB.out | apply below_alloc | apply pw_below_drewN | apply below_drew1 | refine below_set ?_ GE214.out | refine below_set ?_ GE215.out | refine below_set ?_ GE220.out | refine below_set ?_ GE221.out | refine below_set ?_ GE227.out | refine below_set ?_ GE233.out) | exact HB.out)⟩
          (try clear BK214)
          (try clear BK215)
          (try clear BK220)
          (try clear BK221)
          (try clear BK227)
          (try clear BK233)
          (try clear HB)
          generalize ((((w40.setCell ⟨gb233, 0, none⟩ (.int .i64 t228)).setCell ⟨gb233, 1, none⟩ (.int .i64 t229)).setCell ⟨gb233, 2, none⟩ (.int .i64 t230)).setCell ⟨gb233, 3, none⟩ (.int .i64 t231)) = w59 at n0_ n1_ n2_ n3_ n4_ n5_ n6_ ⊢
          have BK214 := n0_
          have BK215 := n1_
          have BK220 := n2_
          have BK221 := n3_
          have BK227 := n4_
          have BK233 := n5_
          have HB := n6_
          clear n0_ n1_ n2_ n3_ n4_ n5_ n6_
          have n0_ := Aside0.mk (blk_drew BK214.out)
          have n1_ := Aside0.mk (blk_drew BK215.out)
          have n2_ := Aside0.mk (blk_drew BK220.out)
          have n3_ := Aside0.mk (blk_drew BK221.out)
          have n4_ := Aside0.mk (blk_drew BK227.out)
          have n5_ := Aside0.mk (blk_drew BK233.out)
          have n6_ := Aside0.mk (below_drew1 HB.out)
          clear BK214
          clear BK215
          clear BK220
          clear BK221
          clear BK227
          clear BK233
          clear HB
          have BK214 := n0_
          have BK215 := n1_
          have BK220 := n2_
          have BK221 := n3_
          have BK227 := n4_
          have BK233 := n5_
          have HB := n6_
          clear n0_ n1_ n2_ n3_ n4_ n5_ n6_
          refine start_ (n := 20) (S := fun w' => w'.cell? ⟨gb220, 0, none⟩ = some (.int .i64 t216) ∧ w'.cell? ⟨gb220, 1, none⟩ = some (.int .i64 t217) ∧ w'.cell? ⟨gb220, 2, none⟩ = some (.int .i64 t218) ∧ w'.cell? ⟨gb220, 3, none⟩ = some (.int .i64 t219) ∧ w'.cell? ⟨gb221, 0, none⟩ = some (.int .i64 a0_0) ∧ w'.cell? ⟨gb221, 1, none⟩ = some (.int .i64 a0_1) ∧ w'.cell? ⟨gb221, 2, none⟩ = some (.int .i64 a0_2) ∧ w'.cell? ⟨gb221, 3, none⟩ = some (.int .i64 a0_3) ∧ w'.cell? ⟨gb227, 0, none⟩ = some (.int .i64 t222) ∧ w'.cell? ⟨gb227, 1, none⟩ = some (.int .i64 t223) ∧ w'.cell? ⟨gb227, 2, none⟩ = some (.int .i64 t224) ∧ w'.cell? ⟨gb227, 3, none⟩ = some (.int .i64 t225) ∧ w'.cell? ⟨gb233, 0, none⟩ = some (.int .i64 t228) ∧ w'.cell? ⟨gb233, 1, none⟩ = some (.int .i64 t229) ∧ w'.cell? ⟨gb233, 2, none⟩ = some (.int .i64 t230) ∧ w'.cell? ⟨gb233, 3, none⟩ = some (.int .i64 t231)) (ds := []) #[false, false, false, false, false, false, false, false, false, false, false, false, false, false, false, false, false, false, false, false] (by kernel_rfl) rfl rfl ⟨(blk_cell BK220.out 0).trans rfl, (blk_cell BK220.out 1).trans rfl, (blk_cell BK220.out 2).trans rfl, (blk_cell BK220.out 3).trans rfl, (blk_cell BK221.out 0).trans rfl, (blk_cell BK221.out 1).trans rfl, (blk_cell BK221.out 2).trans rfl, (blk_cell BK221.out 3).trans rfl, (blk_cell BK227.out 0).trans rfl, (blk_cell BK227.out 1).trans rfl, (blk_cell BK227.out 2).trans rfl, (blk_cell BK227.out 3).trans rfl, (blk_cell BK233.out 0).trans rfl, (blk_cell BK233.out 1).trans rfl, (blk_cell BK233.out 2).trans rfl, (blk_cell BK233.out 3).trans rfl⟩ (fun hHeld => ?_); refine with_tabW precinctlaw14_NodeSteps.tab4 precinctlaw14_NodeSteps.bits4 (fun HT_ HW_ => ?_)
          generalize w59.drew = w60 at BK214 BK215 BK220 BK221 BK227 BK233 HB hHeld ⊢
          refine one_ (i := 0) (N := some 36) #[true, false, false, false, false, false, false, false, false, false, false, false, false, false, false, false, false, false, false, false] rfl rfl (one_of HT_.out (by kernel_rfl)) (by decide) (fun K hK => ?_)
          refine goes_ Try.func16 (by kernel_rfl) rfl #[] (by rfl) rfl rfl (by (try simp only [List.map_toArray, List.map_cons, List.map_nil]); first | done | rfl | (simp only [List.length_drop, List.length_take]; rfl)) ?_
          with_reducible refine (precinctlaw14_wakes.calls k  true _ A47.out).mono ?_
          rintro e w61 ⟨rfl, hb⟩
          refine ⟨_, rfl, ?_⟩
          have n0_ := Aside0.mk (blk_below (rb BK214.out) hb)
          have n1_ := Aside0.mk (blk_below (rb BK215.out) hb)
          have n2_ := Aside0.mk (blk_below (rb BK220.out) hb)
          have n3_ := Aside0.mk (blk_below (rb BK221.out) hb)
          have n4_ := Aside0.mk (blk_below (rb BK227.out) hb)
          have n5_ := Aside0.mk (blk_below (rb BK233.out) hb)
          have n6_ := Aside0.mk (below_step (by repeat (first | (with_reducible first | exact HB.out | apply below_alloc | apply pw_below_drewN | apply below_drew1 | refine below_set ?_ GE214.out | refine below_set ?_ GE215.out | refine below_set ?_ GE220.out | refine below_set ?_ GE221.out | refine below_set ?_ GE227.out | refine below_set ?_ GE233.out) | exact HB.out)) hb)
          clear BK214
          clear BK215
          clear BK220
          clear BK221
          clear BK227
          clear BK233
          clear HB
          have BK214 := n0_
          have BK215 := n1_
          have BK220 := n2_
          have BK221 := n3_
          have BK227 := n4_
          have BK233 := n5_
          have HB := n6_
          clear n0_ n1_ n2_ n3_ n4_ n5_ n6_
          (try clear hb)
          (try clear hb2)
          (try clear hk)
          (try clear hi)
          refine hK.out _ _ ⟨(blk_cell BK220.out 0).trans rfl, (blk_cell BK220.out 1).trans rfl, (blk_cell BK220.out 2).trans rfl, (blk_cell BK220.out 3).trans rfl, (blk_cell BK221.out 0).trans rfl, (blk_cell BK221.out 1).trans rfl, (blk_cell BK221.out 2).trans rfl, (blk_cell BK221.out 3).trans rfl, (blk_cell BK227.out 0).trans rfl, (blk_cell BK227.out 1).trans rfl, (blk_cell BK227.out 2).trans rfl, (blk_cell BK227.out 3).trans rfl, (blk_cell BK233.out 0).trans rfl, (blk_cell BK233.out 1).trans rfl, (blk_cell BK233.out 2).trans rfl, (blk_cell BK233.out 3).trans rfl⟩ (fun hHeld => ?_)
          clear hK K
          refine norm_ (a' := ?_) ?_ ?_
          rotate_left
          · show Act.put _ (some 36) _ = _
            simp only [Act.put, List.setIfInBounds_toArray, List.set_cons_zero, List.set_cons_succ, i64_w, i32_w]
            rfl
          refine pure_ (i := 1) (N := some 37) (v := ?_) (a' := ?_) #[true, true, false, false, false, false, false, false, false, false, false, false, false, false, false, false, false, false, false, false] rfl rfl (any_of HT_.out (by kernel_rfl)) (fun _ _ _ h => h) (Or.inl ⟨by rfl, ?_⟩) ?_ ?_
          rotate_left
          · intro w'
            go_simp
            with_reducible rfl
          rotate_left
          · simp only [Act.put, List.setIfInBounds_toArray, List.set_cons_zero, List.set_cons_succ, i64_w, i32_w]
            rfl
          refine pure_ (i := 2) (N := some 38) (v := ?_) (a' := ?_) #[true, true, true, false, false, false, false, false, false, false, false, false, false, false, false, false, false, false, false, false] rfl rfl (any_of HT_.out (by kernel_rfl)) (fun _ _ _ h => h) (Or.inl ⟨by rfl, ?_⟩) ?_ ?_
          rotate_left
          · intro w'
            go_simp
            with_reducible rfl
          rotate_left
          · simp only [Act.put, List.setIfInBounds_toArray, List.set_cons_zero, List.set_cons_succ, i64_w, i32_w]
            rfl
          refine take_ (i := 3) (N := some 39) (v := ?_) (a' := ?_) #[true, true, true, true, false, false, false, false, false, false, false, false, false, false, false, false, false, false, false, false] rfl rfl (take_ofW HT_.out HW_.out (by kernel_rfl)) (fun _ _ _ h => h) (Or.inl ⟨by rfl, ?_⟩) hHeld ?_ ?_
          rotate_left
          · rintro w' ⟨s0, s1, s2, s3, s4, s5, s6, s7, s8, s9, s10, s11, s12, s13, s14, s15⟩
            go_simp
            with_reducible rfl
          rotate_left
          · simp only [Act.put, List.setIfInBounds_toArray, List.set_cons_zero, List.set_cons_succ, i64_w, i32_w]
            rfl
          refine take_ (i := 5) (N := some 41) (v := ?_) (a' := ?_) #[true, true, true, true, false, true, false, false, false, false, false, false, false, false, false, false, false, false, false, false] rfl rfl (take_ofW HT_.out HW_.out (by kernel_rfl)) (fun _ _ _ h => h) (Or.inl ⟨by rfl, ?_⟩) hHeld ?_ ?_
          rotate_left
          · rintro w' ⟨s0, s1, s2, s3, s4, s5, s6, s7, s8, s9, s10, s11, s12, s13, s14, s15⟩
            go_simp
            with_reducible rfl
          rotate_left
          · simp only [Act.put, List.setIfInBounds_toArray, List.set_cons_zero, List.set_cons_succ, i64_w, i32_w]
            rfl
          refine one_ (i := 4) (N := some 40) #[true, true, true, true, true, true, false, false, false, false, false, false, false, false, false, false, false, false, false, false] rfl rfl (one_of HT_.out (by kernel_rfl)) (by decide) (fun K hK => ?_)
          refine goes_ Try.func21 (by kernel_rfl) rfl #[.agg #[.int .i64 t216, .int .i64 t217, .int .i64 t218, .int .i64 t219]] (by rfl) rfl rfl (by (try simp only [List.map_toArray, List.map_cons, List.map_nil]); first | done | rfl | (simp only [List.length_drop, List.length_take]; rfl)) ?_
          with_reducible refine (node_State_Over.calls t216 t217 t218 t219 t235 _ A49.out).mono ?_
          rintro e w62 ⟨rfl, hb⟩
          refine ⟨_, rfl, ?_⟩
          have n0_ := Aside0.mk (blk_below (rb BK214.out) hb)
          have n1_ := Aside0.mk (blk_below (rb BK215.out) hb)
          have n2_ := Aside0.mk (blk_below (rb BK220.out) hb)
          have n3_ := Aside0.mk (blk_below (rb BK221.out) hb)
          have n4_ := Aside0.mk (blk_below (rb BK227.out) hb)
          have n5_ := Aside0.mk (blk_below (rb BK233.out) hb)
          have n6_ := Aside0.mk (below_step (by repeat (first | (with_reducible first | exact HB.out | apply below_alloc | apply pw_below_drewN | apply below_drew1 | refine below_set ?_ GE214.out | refine below_set ?_ GE215.out | refine below_set ?_ GE220.out | refine below_set ?_ GE221.out | refine below_set ?_ GE227.out | refine below_set ?_ GE233.out) | exact HB.out)) hb)
          clear BK214
          clear BK215
          clear BK220
          clear BK221
          clear BK227
          clear BK233
          clear HB
          have BK214 := n0_
          have BK215 := n1_
          have BK220 := n2_
          have BK221 := n3_
          have BK227 := n4_
          have BK233 := n5_
          have HB := n6_
          clear n0_ n1_ n2_ n3_ n4_ n5_ n6_
          (try clear hb)
          (try clear hb2)
          (try clear hk)
          (try clear hi)
          refine hK.out _ _ ⟨(blk_cell BK220.out 0).trans rfl, (blk_cell BK220.out 1).trans rfl, (blk_cell BK220.out 2).trans rfl, (blk_cell BK220.out 3).trans rfl, (blk_cell BK221.out 0).trans rfl, (blk_cell BK221.out 1).trans rfl, (blk_cell BK221.out 2).trans rfl, (blk_cell BK221.out 3).trans rfl, (blk_cell BK227.out 0).trans rfl, (blk_cell BK227.out 1).trans rfl, (blk_cell BK227.out 2).trans rfl, (blk_cell BK227.out 3).trans rfl, (blk_cell BK233.out 0).trans rfl, (blk_cell BK233.out 1).trans rfl, (blk_cell BK233.out 2).trans rfl, (blk_cell BK233.out 3).trans rfl⟩ (fun hHeld => ?_)
          clear hK K
          refine norm_ (a' := ?_) ?_ ?_
          rotate_left
          · show Act.put _ (some 40) _ = _
            simp only [Act.put, List.setIfInBounds_toArray, List.set_cons_zero, List.set_cons_succ, i64_w, i32_w]
            rfl
          refine one_ (i := 6) (N := some 42) #[true, true, true, true, true, true, true, false, false, false, false, false, false, false, false, false, false, false, false, false] rfl rfl (one_of HT_.out (by kernel_rfl)) (by decide) (fun K hK => ?_)
          refine goes_ Try.func23 (by kernel_rfl) rfl #[.agg #[.int .i64 a0_0, .int .i64 a0_1, .int .i64 a0_2, .int .i64 a0_3]] (by rfl) rfl rfl (by (try simp only [List.map_toArray, List.map_cons, List.map_nil]); first | done | rfl | (simp only [List.length_drop, List.length_take]; rfl)) ?_
          with_reducible refine (precinctref14_Over.calls a0_0 a0_1 a0_2 a0_3 t236 _ A50.out).mono ?_
          rintro e w63 ⟨rfl, hb⟩
          refine ⟨_, rfl, ?_⟩
          have n0_ := Aside0.mk (blk_below (rb BK214.out) hb)
          have n1_ := Aside0.mk (blk_below (rb BK215.out) hb)
          have n2_ := Aside0.mk (blk_below (rb BK220.out) hb)
          have n3_ := Aside0.mk (blk_below (rb BK221.out) hb)
          have n4_ := Aside0.mk (blk_below (rb BK227.out) hb)
          have n5_ := Aside0.mk (blk_below (rb BK233.out) hb)
          have n6_ := Aside0.mk (below_step (by repeat (first | (with_reducible first | exact HB.out | apply below_alloc | apply pw_below_drewN | apply below_drew1 | refine below_set ?_ GE214.out | refine below_set ?_ GE215.out | refine below_set ?_ GE220.out | refine below_set ?_ GE221.out | refine below_set ?_ GE227.out | refine below_set ?_ GE233.out) | exact HB.out)) hb)
          clear BK214
          clear BK215
          clear BK220
          clear BK221
          clear BK227
          clear BK233
          clear HB
          have BK214 := n0_
          have BK215 := n1_
          have BK220 := n2_
          have BK221 := n3_
          have BK227 := n4_
          have BK233 := n5_
          have HB := n6_
          clear n0_ n1_ n2_ n3_ n4_ n5_ n6_
          (try clear hb)
          (try clear hb2)
          (try clear hk)
          (try clear hi)
          refine hK.out _ _ ⟨(blk_cell BK220.out 0).trans rfl, (blk_cell BK220.out 1).trans rfl, (blk_cell BK220.out 2).trans rfl, (blk_cell BK220.out 3).trans rfl, (blk_cell BK221.out 0).trans rfl, (blk_cell BK221.out 1).trans rfl, (blk_cell BK221.out 2).trans rfl, (blk_cell BK221.out 3).trans rfl, (blk_cell BK227.out 0).trans rfl, (blk_cell BK227.out 1).trans rfl, (blk_cell BK227.out 2).trans rfl, (blk_cell BK227.out 3).trans rfl, (blk_cell BK233.out 0).trans rfl, (blk_cell BK233.out 1).trans rfl, (blk_cell BK233.out 2).trans rfl, (blk_cell BK233.out 3).trans rfl⟩ (fun hHeld => ?_)
          clear hK K
          refine norm_ (a' := ?_) ?_ ?_
          rotate_left
          · show Act.put _ (some 42) _ = _
            simp only [Act.put, List.setIfInBounds_toArray, List.set_cons_zero, List.set_cons_succ, i64_w, i32_w]
            rfl
          refine pure_ (i := 7) (N := some 43) (v := ?_) (a' := ?_) #[true, true, true, true, true, true, true, true, false, false, false, false, false, false, false, false, false, false, false, false] rfl rfl (any_of HT_.out (by kernel_rfl)) (fun _ _ _ h => h) (Or.inl ⟨by rfl, ?_⟩) ?_ ?_
          rotate_left
          · intro w'
            go_simp
            with_reducible rfl
          rotate_left
          · simp only [Act.put, List.setIfInBounds_toArray, List.set_cons_zero, List.set_cons_succ, i64_w, i32_w]
            rfl
          refine pure_ (i := 8) (N := some 44) (v := ?_) (a' := ?_) #[true, true, true, true, true, true, true, true, true, false, false, false, false, false, false, false, false, false, false, false] rfl rfl (any_of HT_.out (by kernel_rfl)) (fun _ _ _ h => h) (Or.inl ⟨by rfl, ?_⟩) ?_ ?_
          rotate_left
          · intro w'
            go_simp
            with_reducible rfl
          rotate_left
          · simp only [Act.put, List.setIfInBounds_toArray, List.set_cons_zero, List.set_cons_succ, i64_w, i32_w]
            rfl
          refine pure_ (i := 9) (N := some 45) (v := ?_) (a' := ?_) #[true, true, true, true, true, true, true, true, true, true, false, false, false, false, false, false, false, false, false, false] rfl rfl (any_of HT_.out (by kernel_rfl)) (fun _ _ _ h => h) (Or.inl ⟨by rfl, ?_⟩) ?_ ?_
          rotate_left
          · intro w'
            go_simp
            with_reducible rfl
          rotate_left
          · simp only [Act.put, List.setIfInBounds_toArray, List.set_cons_zero, List.set_cons_succ, i64_w, i32_w]
            rfl
          refine pure_ (i := 10) (N := some 46) (v := ?_) (a' := ?_) #[true, true, true, true, true, true, true, true, true, true, true, false, false, false, false, false, false, false, false, false] rfl rfl (any_of HT_.out (by kernel_rfl)) (fun _ _ _ h => h) (Or.inl ⟨by rfl, ?_⟩) ?_ ?_
          rotate_left
          · intro w'
            go_simp
            with_reducible rfl
          rotate_left
          · simp only [Act.put, List.setIfInBounds_toArray, List.set_cons_zero, List.set_cons_succ, i64_w, i32_w]
            rfl
          refine pure_ (i := 11) (N := some 47) (v := ?_) (a' := ?_) #[true, true, true, true, true, true, true, true, true, true, true, true, false, false, false, false, false, false, false, false] rfl rfl (any_of HT_.out (by kernel_rfl)) (fun _ _ _ h => h) (Or.inl ⟨by rfl, ?_⟩) ?_ ?_
          rotate_left
          · intro w'
            go_simp
            with_reducible rfl
          rotate_left
          · simp only [Act.put, List.setIfInBounds_toArray, List.set_cons_zero, List.set_cons_succ, i64_w, i32_w]
            rfl
          refine pure_ (i := 12) (N := some 48) (v := ?_) (a' := ?_) #[true, true, true, true, true, true, true, true, true, true, true, true, true, false, false, false, false, false, false, false] rfl rfl (any_of HT_.out (by kernel_rfl)) (fun _ _ _ h => h) (Or.inl ⟨by rfl, ?_⟩) ?_ ?_
          rotate_left
          · intro w'
            go_simp
            with_reducible rfl
          rotate_left
          · simp only [Act.put, List.setIfInBounds_toArray, List.set_cons_zero, List.set_cons_succ, i64_w, i32_w]
            rfl
          refine pure_ (i := 13) (N := some 49) (v := ?_) (a' := ?_) #[true, true, true, true, true, true, true, true, true, true, true, true, true, true, false, false, false, false, false, false] rfl rfl (any_of HT_.out (by kernel_rfl)) (fun _ _ _ h => h) (Or.inl ⟨by rfl, ?_⟩) ?_ ?_
          rotate_left
          · intro w'
            go_simp
            with_reducible rfl
          rotate_left
          · simp only [Act.put, List.setIfInBounds_toArray, List.set_cons_zero, List.set_cons_succ, i64_w, i32_w]
            rfl
          refine pure_ (i := 14) (N := some 50) (v := ?_) (a' := ?_) #[true, true, true, true, true, true, true, true, true, true, true, true, true, true, true, false, false, false, false, false] rfl rfl (any_of HT_.out (by kernel_rfl)) (fun _ _ _ h => h) (Or.inl ⟨by rfl, ?_⟩) ?_ ?_
          rotate_left
          · intro w'
            go_simp
            with_reducible rfl
          rotate_left
          · simp only [Act.put, List.setIfInBounds_toArray, List.set_cons_zero, List.set_cons_succ, i64_w, i32_w]
            rfl
          refine take_ (i := 15) (N := some 51) (v := ?_) (a' := ?_) #[true, true, true, true, true, true, true, true, true, true, true, true, true, true, true, true, false, false, false, false] rfl rfl (take_ofW HT_.out HW_.out (by kernel_rfl)) (fun _ _ _ h => h) (Or.inl ⟨by rfl, ?_⟩) hHeld ?_ ?_
          rotate_left
          · rintro w' ⟨s0, s1, s2, s3, s4, s5, s6, s7, s8, s9, s10, s11, s12, s13, s14, s15⟩
            go_simp
            with_reducible rfl
          rotate_left
          · simp only [Act.put, List.setIfInBounds_toArray, List.set_cons_zero, List.set_cons_succ, i64_w, i32_w]
            rfl
          refine take_ (i := 16) (N := some 52) (v := ?_) (a' := ?_) #[true, true, true, true, true, true, true, true, true, true, true, true, true, true, true, true, true, false, false, false] rfl rfl (take_ofW HT_.out HW_.out (by kernel_rfl)) (fun _ _ _ h => h) (Or.inl ⟨by rfl, ?_⟩) hHeld ?_ ?_
          rotate_left
          · rintro w' ⟨s0, s1, s2, s3, s4, s5, s6, s7, s8, s9, s10, s11, s12, s13, s14, s15⟩
            go_simp
            with_reducible rfl
          rotate_left
          · simp only [Act.put, List.setIfInBounds_toArray, List.set_cons_zero, List.set_cons_succ, i64_w, i32_w]
            rfl
          refine one_ (i := 17) (N := some 53) #[true, true, true, true, true, true, true, true, true, true, true, true, true, true, true, true, true, true, false, false] rfl rfl (one_of HT_.out (by kernel_rfl)) (by decide) (fun K hK => ?_)
          refine goes_ Try.func15 (by kernel_rfl) rfl #[.agg #[.int .i64 t222, .int .i64 t223, .int .i64 t224, .int .i64 t225], .agg #[.int .i64 t228, .int .i64 t229, .int .i64 t230, .int .i64 t231]] (by rfl) rfl rfl (by (try simp only [List.map_toArray, List.map_cons, List.map_nil]); first | done | rfl | (simp only [List.length_drop, List.length_take]; rfl)) ?_
          with_reducible refine (precinctlaw14_is.calls t222 t223 t224 t225 t228 t229 t230 t231 t237 _ A58.out).mono ?_
          rintro e w64 ⟨rfl, hb⟩
          refine ⟨_, rfl, ?_⟩
          have n0_ := Aside0.mk (blk_below (rb BK214.out) hb)
          have n1_ := Aside0.mk (blk_below (rb BK215.out) hb)
          have n2_ := Aside0.mk (blk_below (rb BK220.out) hb)
          have n3_ := Aside0.mk (blk_below (rb BK221.out) hb)
          have n4_ := Aside0.mk (blk_below (rb BK227.out) hb)
          have n5_ := Aside0.mk (blk_below (rb BK233.out) hb)
          have n6_ := Aside0.mk (below_step (by repeat (first | (with_reducible first | exact HB.out | apply below_alloc | apply pw_below_drewN | apply below_drew1 | refine below_set ?_ GE214.out | refine below_set ?_ GE215.out | refine below_set ?_ GE220.out | refine below_set ?_ GE221.out | refine below_set ?_ GE227.out | refine below_set ?_ GE233.out) | exact HB.out)) hb)
          clear BK214
          clear BK215
          clear BK220
          clear BK221
          clear BK227
          clear BK233
          clear HB
          have BK214 := n0_
          have BK215 := n1_
          have BK220 := n2_
          have BK221 := n3_
          have BK227 := n4_
          have BK233 := n5_
          have HB := n6_
          clear n0_ n1_ n2_ n3_ n4_ n5_ n6_
          (try clear hb)
          (try clear hb2)
          (try clear hk)
          (try clear hi)
          refine hK.out _ _ ⟨(blk_cell BK220.out 0).trans rfl, (blk_cell BK220.out 1).trans rfl, (blk_cell BK220.out 2).trans rfl, (blk_cell BK220.out 3).trans rfl, (blk_cell BK221.out 0).trans rfl, (blk_cell BK221.out 1).trans rfl, (blk_cell BK221.out 2).trans rfl, (blk_cell BK221.out 3).trans rfl, (blk_cell BK227.out 0).trans rfl, (blk_cell BK227.out 1).trans rfl, (blk_cell BK227.out 2).trans rfl, (blk_cell BK227.out 3).trans rfl, (blk_cell BK233.out 0).trans rfl, (blk_cell BK233.out 1).trans rfl, (blk_cell BK233.out 2).trans rfl, (blk_cell BK233.out 3).trans rfl⟩ (fun hHeld => ?_)
          clear hK K
          refine norm_ (a' := ?_) ?_ ?_
          rotate_left
          · show Act.put _ (some 53) _ = _
            simp only [Act.put, List.setIfInBounds_toArray, List.set_cons_zero, List.set_cons_succ, i64_w, i32_w]
            rfl
          refine pure_ (i := 18) (N := some 54) (v := ?_) (a' := ?_) #[true, true, true, true, true, true, true, true, true, true, true, true, true, true, true, true, true, true, true, false] rfl rfl (any_of HT_.out (by kernel_rfl)) (fun _ _ _ h => h) (Or.inl ⟨by rfl, ?_⟩) ?_ ?_
          rotate_left
          · intro w'
            go_simp
            with_reducible rfl
          rotate_left
          · simp only [Act.put, List.setIfInBounds_toArray, List.set_cons_zero, List.set_cons_succ, i64_w, i32_w]
            rfl
          refine pure_ (i := 19) (N := some 55) (v := ?_) (a' := ?_) #[true, true, true, true, true, true, true, true, true, true, true, true, true, true, true, true, true, true, true, true] rfl rfl (any_of HT_.out (by kernel_rfl)) (fun _ _ _ h => h) (Or.inl ⟨by rfl, ?_⟩) ?_ ?_
          rotate_left
          · intro w'
            go_simp
            with_reducible rfl
          rotate_left
          · simp only [Act.put, List.setIfInBounds_toArray, List.set_cons_zero, List.set_cons_succ, i64_w, i32_w]
            rfl
          refine done_ (done_of HT_.out (by kernel_rfl)) ?_
          try go_wp2
          go_meet
          case rel => exact ⟨_, (!t237), (by first | rfl | (simp; done) | (simp [*]; done)), H', ⟨by first | omega | exact Nat.le_refl _⟩, ⟨by (with_reducible repeat (first | refine blk_drewN ?_ _ | refine blk_drew ?_ | refine blk_alloc ?_ _)); exact BK214.out⟩, ⟨by (with_reducible repeat (first | refine blk_drewN ?_ _ | refine blk_drew ?_ | refine blk_alloc ?_ _)); exact BK215.out⟩, ⟨by (with_reducible repeat (first | refine blk_drewN ?_ _ | refine blk_drew ?_ | refine blk_alloc ?_ _)); exact BK220.out⟩, ⟨by (with_reducible repeat (first | refine blk_drewN ?_ _ | refine blk_drew ?_ | refine blk_alloc ?_ _)); exact BK221.out⟩, ⟨by (with_reducible repeat (first | refine blk_drewN ?_ _ | refine blk_drew ?_ | refine blk_alloc ?_ _)); exact BK227.out⟩, ⟨by (with_reducible repeat (first | refine blk_drewN ?_ _ | refine blk_drew ?_ | refine blk_alloc ?_ _)); exact BK233.out⟩, ⟨by repeat (first | (with_reducible first | exact HB.out | apply below_alloc | apply pw_below_drewN | apply below_drew1 | refine below_set ?_ GE214.out | refine below_set ?_ GE215.out | refine below_set ?_ GE220.out | refine below_set ?_ GE221.out | refine below_set ?_ GE227.out | refine below_set ?_ GE233.out) | exact HB.out)⟩⟩
        · rw [if_neg c57] at H
          have c57b0 : (t226 == t232) = false := beq_eq_false_iff_ne.mpr c57
          have c57b1 : (t226 != t232) = true := bne_iff_ne.mpr c57
          have H' := Aside0.mk H
          clear H
          try go_wp2
          have n0_ : Aside0 (((((w40.setCell ⟨gb233, 0, none⟩ (.int .i64 t228)).setCell ⟨gb233, 1, none⟩ (.int .i64 t229)).setCell ⟨gb233, 2, none⟩ (.int .i64 t230)).setCell ⟨gb233, 3, none⟩ (.int .i64 t231)).heap[gb214]? = some (.cells #[.int .i64 a0_0, .int .i64 a0_1, .int .i64 a0_2, .int .i64 a0_3] 26 (0, 0))) := ⟨by (with_reducible repeat (first | refine blk_drewN ?_ _ | refine blk_drew ?_ | refine blk_alloc ?_ _)); refine blk_far ?_ NB214_233.out _; (with_reducible repeat (first | refine blk_drewN ?_ _ | refine blk_drew ?_ | refine blk_alloc ?_ _)); refine blk_far ?_ NB214_233.out _; (with_reducible repeat (first | refine blk_drewN ?_ _ | refine blk_drew ?_ | refine blk_alloc ?_ _)); refine blk_far ?_ NB214_233.out _; (with_reducible repeat (first | refine blk_drewN ?_ _ | refine blk_drew ?_ | refine blk_alloc ?_ _)); refine blk_far ?_ NB214_233.out _; (with_reducible repeat (first | refine blk_drewN ?_ _ | refine blk_drew ?_ | refine blk_alloc ?_ _)); exact BK214.out⟩
          have n1_ : Aside0 (((((w40.setCell ⟨gb233, 0, none⟩ (.int .i64 t228)).setCell ⟨gb233, 1, none⟩ (.int .i64 t229)).setCell ⟨gb233, 2, none⟩ (.int .i64 t230)).setCell ⟨gb233, 3, none⟩ (.int .i64 t231)).heap[gb215]? = some (.cells #[.int .i64 a1_0, .int .i64 a1_1, .int .i64 a1_2, .int .i64 a1_3, .bool a1_4] 28 (0, 0))) := ⟨by (with_reducible repeat (first | refine blk_drewN ?_ _ | refine blk_drew ?_ | refine blk_alloc ?_ _)); refine blk_far ?_ NB215_233.out _; (with_reducible repeat (first | refine blk_drewN ?_ _ | refine blk_drew ?_ | refine blk_alloc ?_ _)); refine blk_far ?_ NB215_233.out _; (with_reducible repeat (first | refine blk_drewN ?_ _ | refine blk_drew ?_ | refine blk_alloc ?_ _)); refine blk_far ?_ NB215_233.out _; (with_reducible repeat (first | refine blk_drewN ?_ _ | refine blk_drew ?_ | refine blk_alloc ?_ _)); refine blk_far ?_ NB215_233.out _; (with_reducible repeat (first | refine blk_drewN ?_ _ | refine blk_drew ?_ | refine blk_alloc ?_ _)); exact BK215.out⟩
          have n2_ : Aside0 (((((w40.setCell ⟨gb233, 0, none⟩ (.int .i64 t228)).setCell ⟨gb233, 1, none⟩ (.int .i64 t229)).setCell ⟨gb233, 2, none⟩ (.int .i64 t230)).setCell ⟨gb233, 3, none⟩ (.int .i64 t231)).heap[gb220]? = some (.cells #[.int .i64 t216, .int .i64 t217, .int .i64 t218, .int .i64 t219] 32 (0, 0))) := ⟨by (with_reducible repeat (first | refine blk_drewN ?_ _ | refine blk_drew ?_ | refine blk_alloc ?_ _)); refine blk_far ?_ NB220_233.out _; (with_reducible repeat (first | refine blk_drewN ?_ _ | refine blk_drew ?_ | refine blk_alloc ?_ _)); refine blk_far ?_ NB220_233.out _; (with_reducible repeat (first | refine blk_drewN ?_ _ | refine blk_drew ?_ | refine blk_alloc ?_ _)); refine blk_far ?_ NB220_233.out _; (with_reducible repeat (first | refine blk_drewN ?_ _ | refine blk_drew ?_ | refine blk_alloc ?_ _)); refine blk_far ?_ NB220_233.out _; (with_reducible repeat (first | refine blk_drewN ?_ _ | refine blk_drew ?_ | refine blk_alloc ?_ _)); exact BK220.out⟩
          have n3_ : Aside0 (((((w40.setCell ⟨gb233, 0, none⟩ (.int .i64 t228)).setCell ⟨gb233, 1, none⟩ (.int .i64 t229)).setCell ⟨gb233, 2, none⟩ (.int .i64 t230)).setCell ⟨gb233, 3, none⟩ (.int .i64 t231)).heap[gb221]? = some (.cells #[.int .i64 a0_0, .int .i64 a0_1, .int .i64 a0_2, .int .i64 a0_3] 37 (0, 0))) := ⟨by (with_reducible repeat (first | refine blk_drewN ?_ _ | refine blk_drew ?_ | refine blk_alloc ?_ _)); refine blk_far ?_ NB221_233.out _; (with_reducible repeat (first | refine blk_drewN ?_ _ | refine blk_drew ?_ | refine blk_alloc ?_ _)); refine blk_far ?_ NB221_233.out _; (with_reducible repeat (first | refine blk_drewN ?_ _ | refine blk_drew ?_ | refine blk_alloc ?_ _)); refine blk_far ?_ NB221_233.out _; (with_reducible repeat (first | refine blk_drewN ?_ _ | refine blk_drew ?_ | refine blk_alloc ?_ _)); refine blk_far ?_ NB221_233.out _; (with_reducible repeat (first | refine blk_drewN ?_ _ | refine blk_drew ?_ | refine blk_alloc ?_ _)); exact BK221.out⟩
          have n4_ : Aside0 (((((w40.setCell ⟨gb233, 0, none⟩ (.int .i64 t228)).setCell ⟨gb233, 1, none⟩ (.int .i64 t229)).setCell ⟨gb233, 2, none⟩ (.int .i64 t230)).setCell ⟨gb233, 3, none⟩ (.int .i64 t231)).heap[gb227]? = some (.cells #[.int .i64 t222, .int .i64 t223, .int .i64 t224, .int .i64 t225] 32 (0, 0))) := ⟨by (with_reducible repeat (first | refine blk_drewN ?_ _ | refine blk_drew ?_ | refine blk_alloc ?_ _)); refine blk_far ?_ NB227_233.out _; (with_reducible repeat (first | refine blk_drewN ?_ _ | refine blk_drew ?_ | refine blk_alloc ?_ _)); refine blk_far ?_ NB227_233.out _; (with_reducible repeat (first | refine blk_drewN ?_ _ | refine blk_drew ?_ | refine blk_alloc ?_ _)); refine blk_far ?_ NB227_233.out _; (with_reducible repeat (first | refine blk_drewN ?_ _ | refine blk_drew ?_ | refine blk_alloc ?_ _)); refine blk_far ?_ NB227_233.out _; (with_reducible repeat (first | refine blk_drewN ?_ _ | refine blk_drew ?_ | refine blk_alloc ?_ _)); exact BK227.out⟩
          have n5_ : Aside0 (((((w40.setCell ⟨gb233, 0, none⟩ (.int .i64 t228)).setCell ⟨gb233, 1, none⟩ (.int .i64 t229)).setCell ⟨gb233, 2, none⟩ (.int .i64 t230)).setCell ⟨gb233, 3, none⟩ (.int .i64 t231)).heap[gb233]? = some (.cells #[.int .i64 t228, .int .i64 t229, .int .i64 t230, .int .i64 t231] 37 (0, 0))) := ⟨by (with_reducible repeat (first | refine blk_drewN ?_ _ | refine blk_drew ?_ | refine blk_alloc ?_ _)); refine blk_put (cs := #[.int .i64 t228, .int .i64 t229, .int .i64 t230, .int .i64 0]) ?_ 3 _ rfl; (with_reducible repeat (first | refine blk_drewN ?_ _ | refine blk_drew ?_ | refine blk_alloc ?_ _)); refine blk_put (cs := #[.int .i64 t228, .int .i64 t229, .int .i64 0, .int .i64 0]) ?_ 2 _ rfl; (with_reducible repeat (first | refine blk_drewN ?_ _ | refine blk_drew ?_ | refine blk_alloc ?_ _)); refine blk_put (cs := #[.int .i64 t228, .int .i64 0, .int .i64 0, .int .i64 0]) ?_ 1 _ rfl; (with_reducible repeat (first | refine blk_drewN ?_ _ | refine blk_drew ?_ | refine blk_alloc ?_ _)); refine blk_put (cs := #[.int .i64 0, .int .i64 0, .int .i64 0, .int .i64 0]) ?_ 0 _ rfl; (with_reducible repeat (first | refine blk_drewN ?_ _ | refine blk_drew ?_ | refine blk_alloc ?_ _)); exact BK233.out⟩
          have n6_ : Aside0 (Below w.heap.size w ((((w40.setCell ⟨gb233, 0, none⟩ (.int .i64 t228)).setCell ⟨gb233, 1, none⟩ (.int .i64 t229)).setCell ⟨gb233, 2, none⟩ (.int .i64 t230)).setCell ⟨gb233, 3, none⟩ (.int .i64 t231))) := ⟨by repeat (first | (with_reducible first | exact HB.out | apply below_alloc | apply pw_below_drewN | apply below_drew1 | refine below_set ?_ GE214.out | refine below_set ?_ GE215.out | refine below_set ?_ GE220.out | refine below_set ?_ GE221.out | refine below_set ?_ GE227.out | refine below_set ?_ GE233.out) | exact HB.out)⟩
          (try clear BK214)
          (try clear BK215)
          (try clear BK220)
          (try clear BK221)
          (try clear BK227)
          (try clear BK233)
          (try clear HB)
          generalize ((((w40.setCell ⟨gb233, 0, none⟩ (.int .i64 t228)).setCell ⟨gb233, 1, none⟩ (.int .i64 t229)).setCell ⟨gb233, 2, none⟩ (.int .i64 t230)).setCell ⟨gb233, 3, none⟩ (.int .i64 t231)) = w65 at n0_ n1_ n2_ n3_ n4_ n5_ n6_ ⊢
          have BK214 := n0_
          have BK215 := n1_
          have BK220 := n2_
          have BK221 := n3_
          have BK227 := n4_
          have BK233 := n5_
          have HB := n6_
          clear n0_ n1_ n2_ n3_ n4_ n5_ n6_
          have n0_ := Aside0.mk (blk_drew BK214.out)
          have n1_ := Aside0.mk (blk_drew BK215.out)
          have n2_ := Aside0.mk (blk_drew BK220.out)
          have n3_ := Aside0.mk (blk_drew BK221.out)
          have n4_ := Aside0.mk (blk_drew BK227.out)
          have n5_ := Aside0.mk (blk_drew BK233.out)
          have n6_ := Aside0.mk (below_drew1 HB.out)
          clear BK214
          clear BK215
          clear BK220
          clear BK221
          clear BK227
          clear BK233
          clear HB
          have BK214 := n0_
          have BK215 := n1_
          have BK220 := n2_
          have BK221 := n3_
          have BK227 := n4_
          have BK233 := n5_
          have HB := n6_
          clear n0_ n1_ n2_ n3_ n4_ n5_ n6_
          refine start_ (n := 20) (S := fun w' => w'.cell? ⟨gb220, 0, none⟩ = some (.int .i64 t216) ∧ w'.cell? ⟨gb220, 1, none⟩ = some (.int .i64 t217) ∧ w'.cell? ⟨gb220, 2, none⟩ = some (.int .i64 t218) ∧ w'.cell? ⟨gb220, 3, none⟩ = some (.int .i64 t219) ∧ w'.cell? ⟨gb221, 0, none⟩ = some (.int .i64 a0_0) ∧ w'.cell? ⟨gb221, 1, none⟩ = some (.int .i64 a0_1) ∧ w'.cell? ⟨gb221, 2, none⟩ = some (.int .i64 a0_2) ∧ w'.cell? ⟨gb221, 3, none⟩ = some (.int .i64 a0_3)) (ds := []) #[false, false, false, false, false, false, false, false, false, false, false, false, false, false, false, false, false, false, false, false] (by kernel_rfl) rfl rfl ⟨(blk_cell BK220.out 0).trans rfl, (blk_cell BK220.out 1).trans rfl, (blk_cell BK220.out 2).trans rfl, (blk_cell BK220.out 3).trans rfl, (blk_cell BK221.out 0).trans rfl, (blk_cell BK221.out 1).trans rfl, (blk_cell BK221.out 2).trans rfl, (blk_cell BK221.out 3).trans rfl⟩ (fun hHeld => ?_); refine with_tabW precinctlaw14_NodeSteps.tab4 precinctlaw14_NodeSteps.bits4 (fun HT_ HW_ => ?_)
          generalize w65.drew = w66 at BK214 BK215 BK220 BK221 BK227 BK233 HB hHeld ⊢
          refine one_ (i := 0) (N := some 36) #[true, false, false, false, false, false, false, false, false, false, false, false, false, false, false, false, false, false, false, false] rfl rfl (one_of HT_.out (by kernel_rfl)) (by decide) (fun K hK => ?_)
          refine goes_ Try.func16 (by kernel_rfl) rfl #[] (by rfl) rfl rfl (by (try simp only [List.map_toArray, List.map_cons, List.map_nil]); first | done | rfl | (simp only [List.length_drop, List.length_take]; rfl)) ?_
          with_reducible refine (precinctlaw14_wakes.calls k  true _ A47.out).mono ?_
          rintro e w67 ⟨rfl, hb⟩
          refine ⟨_, rfl, ?_⟩
          have n0_ := Aside0.mk (blk_below (rb BK214.out) hb)
          have n1_ := Aside0.mk (blk_below (rb BK215.out) hb)
          have n2_ := Aside0.mk (blk_below (rb BK220.out) hb)
          have n3_ := Aside0.mk (blk_below (rb BK221.out) hb)
          have n4_ := Aside0.mk (blk_below (rb BK227.out) hb)
          have n5_ := Aside0.mk (blk_below (rb BK233.out) hb)
          have n6_ := Aside0.mk (below_step (by repeat (first | (with_reducible first | exact HB.out | apply below_alloc | apply pw_below_drewN | apply below_drew1 | refine below_set ?_ GE214.out | refine below_set ?_ GE215.out | refine below_set ?_ GE220.out | refine below_set ?_ GE221.out | refine below_set ?_ GE227.out | refine below_set ?_ GE233.out) | exact HB.out)) hb)
          clear BK214
          clear BK215
          clear BK220
          clear BK221
          clear BK227
          clear BK233
          clear HB
          have BK214 := n0_
          have BK215 := n1_
          have BK220 := n2_
          have BK221 := n3_
          have BK227 := n4_
          have BK233 := n5_
          have HB := n6_
          clear n0_ n1_ n2_ n3_ n4_ n5_ n6_
          (try clear hb)
          (try clear hb2)
          (try clear hk)
          (try clear hi)
          refine hK.out _ _ ⟨(blk_cell BK220.out 0).trans rfl, (blk_cell BK220.out 1).trans rfl, (blk_cell BK220.out 2).trans rfl, (blk_cell BK220.out 3).trans rfl, (blk_cell BK221.out 0).trans rfl, (blk_cell BK221.out 1).trans rfl, (blk_cell BK221.out 2).trans rfl, (blk_cell BK221.out 3).trans rfl⟩ (fun hHeld => ?_)
          clear hK K
          refine norm_ (a' := ?_) ?_ ?_
          rotate_left
          · show Act.put _ (some 36) _ = _
            simp only [Act.put, List.setIfInBounds_toArray, List.set_cons_zero, List.set_cons_succ, i64_w, i32_w]
            rfl
          refine pure_ (i := 1) (N := some 37) (v := ?_) (a' := ?_) #[true, true, false, false, false, false, false, false, false, false, false, false, false, false, false, false, false, false, false, false] rfl rfl (any_of HT_.out (by kernel_rfl)) (fun _ _ _ h => h) (Or.inl ⟨by rfl, ?_⟩) ?_ ?_
          rotate_left
          · intro w'
            go_simp
            with_reducible rfl
          rotate_left
          · simp only [Act.put, List.setIfInBounds_toArray, List.set_cons_zero, List.set_cons_succ, i64_w, i32_w]
            rfl
          refine pure_ (i := 2) (N := some 38) (v := ?_) (a' := ?_) #[true, true, true, false, false, false, false, false, false, false, false, false, false, false, false, false, false, false, false, false] rfl rfl (any_of HT_.out (by kernel_rfl)) (fun _ _ _ h => h) (Or.inl ⟨by rfl, ?_⟩) ?_ ?_
          rotate_left
          · intro w'
            go_simp
            with_reducible rfl
          rotate_left
          · simp only [Act.put, List.setIfInBounds_toArray, List.set_cons_zero, List.set_cons_succ, i64_w, i32_w]
            rfl
          refine take_ (i := 3) (N := some 39) (v := ?_) (a' := ?_) #[true, true, true, true, false, false, false, false, false, false, false, false, false, false, false, false, false, false, false, false] rfl rfl (take_ofW HT_.out HW_.out (by kernel_rfl)) (fun _ _ _ h => h) (Or.inl ⟨by rfl, ?_⟩) hHeld ?_ ?_
          rotate_left
          · rintro w' ⟨s0, s1, s2, s3, s4, s5, s6, s7⟩
            go_simp
            with_reducible rfl
          rotate_left
          · simp only [Act.put, List.setIfInBounds_toArray, List.set_cons_zero, List.set_cons_succ, i64_w, i32_w]
            rfl
          refine take_ (i := 5) (N := some 41) (v := ?_) (a' := ?_) #[true, true, true, true, false, true, false, false, false, false, false, false, false, false, false, false, false, false, false, false] rfl rfl (take_ofW HT_.out HW_.out (by kernel_rfl)) (fun _ _ _ h => h) (Or.inl ⟨by rfl, ?_⟩) hHeld ?_ ?_
          rotate_left
          · rintro w' ⟨s0, s1, s2, s3, s4, s5, s6, s7⟩
            go_simp
            with_reducible rfl
          rotate_left
          · simp only [Act.put, List.setIfInBounds_toArray, List.set_cons_zero, List.set_cons_succ, i64_w, i32_w]
            rfl
          refine one_ (i := 4) (N := some 40) #[true, true, true, true, true, true, false, false, false, false, false, false, false, false, false, false, false, false, false, false] rfl rfl (one_of HT_.out (by kernel_rfl)) (by decide) (fun K hK => ?_)
          refine goes_ Try.func21 (by kernel_rfl) rfl #[.agg #[.int .i64 t216, .int .i64 t217, .int .i64 t218, .int .i64 t219]] (by rfl) rfl rfl (by (try simp only [List.map_toArray, List.map_cons, List.map_nil]); first | done | rfl | (simp only [List.length_drop, List.length_take]; rfl)) ?_
          with_reducible refine (node_State_Over.calls t216 t217 t218 t219 t235 _ A49.out).mono ?_
          rintro e w68 ⟨rfl, hb⟩
          refine ⟨_, rfl, ?_⟩
          have n0_ := Aside0.mk (blk_below (rb BK214.out) hb)
          have n1_ := Aside0.mk (blk_below (rb BK215.out) hb)
          have n2_ := Aside0.mk (blk_below (rb BK220.out) hb)
          have n3_ := Aside0.mk (blk_below (rb BK221.out) hb)
          have n4_ := Aside0.mk (blk_below (rb BK227.out) hb)
          have n5_ := Aside0.mk (blk_below (rb BK233.out) hb)
          have n6_ := Aside0.mk (below_step (by repeat (first | (with_reducible first | exact HB.out | apply below_alloc | apply pw_below_drewN | apply below_drew1 | refine below_set ?_ GE214.out | refine below_set ?_ GE215.out | refine below_set ?_ GE220.out | refine below_set ?_ GE221.out | refine below_set ?_ GE227.out | refine below_set ?_ GE233.out) | exact HB.out)) hb)
          clear BK214
          clear BK215
          clear BK220
          clear BK221
          clear BK227
          clear BK233
          clear HB
          have BK214 := n0_
          have BK215 := n1_
          have BK220 := n2_
          have BK221 := n3_
          have BK227 := n4_
          have BK233 := n5_
          have HB := n6_
          clear n0_ n1_ n2_ n3_ n4_ n5_ n6_
          (try clear hb)
          (try clear hb2)
          (try clear hk)
          (try clear hi)
          refine hK.out _ _ ⟨(blk_cell BK220.out 0).trans rfl, (blk_cell BK220.out 1).trans rfl, (blk_cell BK220.out 2).trans rfl, (blk_cell BK220.out 3).trans rfl, (blk_cell BK221.out 0).trans rfl, (blk_cell BK221.out 1).trans rfl, (blk_cell BK221.out 2).trans rfl, (blk_cell BK221.out 3).trans rfl⟩ (fun hHeld => ?_)
          clear hK K
          refine norm_ (a' := ?_) ?_ ?_
          rotate_left
          · show Act.put _ (some 40) _ = _
            simp only [Act.put, List.setIfInBounds_toArray, List.set_cons_zero, List.set_cons_succ, i64_w, i32_w]
            rfl
          refine one_ (i := 6) (N := some 42) #[true, true, true, true, true, true, true, false, false, false, false, false, false, false, false, false, false, false, false, false] rfl rfl (one_of HT_.out (by kernel_rfl)) (by decide) (fun K hK => ?_)
          refine goes_ Try.func23 (by kernel_rfl) rfl #[.agg #[.int .i64 a0_0, .int .i64 a0_1, .int .i64 a0_2, .int .i64 a0_3]] (by rfl) rfl rfl (by (try simp only [List.map_toArray, List.map_cons, List.map_nil]); first | done | rfl | (simp only [List.length_drop, List.length_take]; rfl)) ?_
          with_reducible refine (precinctref14_Over.calls a0_0 a0_1 a0_2 a0_3 t236 _ A50.out).mono ?_
          rintro e w69 ⟨rfl, hb⟩
          refine ⟨_, rfl, ?_⟩
          have n0_ := Aside0.mk (blk_below (rb BK214.out) hb)
          have n1_ := Aside0.mk (blk_below (rb BK215.out) hb)
          have n2_ := Aside0.mk (blk_below (rb BK220.out) hb)
          have n3_ := Aside0.mk (blk_below (rb BK221.out) hb)
          have n4_ := Aside0.mk (blk_below (rb BK227.out) hb)
          have n5_ := Aside0.mk (blk_below (rb BK233.out) hb)
          have n6_ := Aside0.mk (below_step (by repeat (first | (with_reducible first | exact HB.out | apply below_alloc | apply pw_below_drewN | apply below_drew1 | refine below_set ?_ GE214.out | refine below_set ?_ GE215.out | refine below_set ?_ GE220.out | refine below_set ?_ GE221.out | refine below_set ?_ GE227.out | refine below_set ?_ GE233.out) | exact HB.out)) hb)
          clear BK214
          clear BK215
          clear BK220
          clear BK221
          clear BK227
          clear BK233
          clear HB
          have BK214 := n0_
          have BK215 := n1_
          have BK220 := n2_
          have BK221 := n3_
          have BK227 := n4_
          have BK233 := n5_
          have HB := n6_
          clear n0_ n1_ n2_ n3_ n4_ n5_ n6_
          (try clear hb)
          (try clear hb2)
          (try clear hk)
          (try clear hi)
          refine hK.out _ _ ⟨(blk_cell BK220.out 0).trans rfl, (blk_cell BK220.out 1).trans rfl, (blk_cell BK220.out 2).trans rfl, (blk_cell BK220.out 3).trans rfl, (blk_cell BK221.out 0).trans rfl, (blk_cell BK221.out 1).trans rfl, (blk_cell BK221.out 2).trans rfl, (blk_cell BK221.out 3).trans rfl⟩ (fun hHeld => ?_)
          clear hK K
          refine norm_ (a' := ?_) ?_ ?_
          rotate_left
          · show Act.put _ (some 42) _ = _
            simp only [Act.put, List.setIfInBounds_toArray, List.set_cons_zero, List.set_cons_succ, i64_w, i32_w]
            rfl
          refine pure_ (i := 7) (N := some 43) (v := ?_) (a' := ?_) #[true, true, true, true, true, true, true, true, false, false, false, false, false, false, false, false, false, false, false, false] rfl rfl (any_of HT_.out (by kernel_rfl)) (fun _ _ _ h => h) (Or.inl ⟨by rfl, ?_⟩) ?_ ?_
          rotate_left
          · intro w'
            go_simp
            with_reducible rfl
          rotate_left
          · simp only [Act.put, List.setIfInBounds_toArray, List.set_cons_zero, List.set_cons_succ, i64_w, i32_w]
            rfl
          refine pure_ (i := 8) (N := some 44) (v := ?_) (a' := ?_) #[true, true, true, true, true, true, true, true, true, false, false, false, false, false, false, false, false, false, false, false] rfl rfl (any_of HT_.out (by kernel_rfl)) (fun _ _ _ h => h) (Or.inl ⟨by rfl, ?_⟩) ?_ ?_
          rotate_left
          · intro w'
            go_simp
            with_reducible rfl
          rotate_left
          · simp only [Act.put, List.setIfInBounds_toArray, List.set_cons_zero, List.set_cons_succ, i64_w, i32_w]
            rfl
          refine pure_ (i := 9) (N := some 45) (v := ?_) (a' := ?_) #[true, true, true, true, true, true, true, true, true, true, false, false, false, false, false, false, false, false, false, false] rfl rfl (any_of HT_.out (by kernel_rfl)) (fun _ _ _ h => h) (Or.inl ⟨by rfl, ?_⟩) ?_ ?_
          rotate_left
          · intro w'
            go_simp
            with_reducible rfl
          rotate_left
          · simp only [Act.put, List.setIfInBounds_toArray, List.set_cons_zero, List.set_cons_succ, i64_w, i32_w]
            rfl
          refine pure_ (i := 10) (N := some 46) (v := ?_) (a' := ?_) #[true, true, true, true, true, true, true, true, true, true, true, false, false, false, false, false, false, false, false, false] rfl rfl (any_of HT_.out (by kernel_rfl)) (fun _ _ _ h => h) (Or.inl ⟨by rfl, ?_⟩) ?_ ?_
          rotate_left
          · intro w'
            go_simp
            with_reducible rfl
          rotate_left
          · simp only [Act.put, List.setIfInBounds_toArray, List.set_cons_zero, List.set_cons_succ, i64_w, i32_w]
            rfl
          refine pure_ (i := 11) (N := some 47) (v := ?_) (a' := ?_) #[true, true, true, true, true, true, true, true, true, true, true, true, false, false, false, false, false, false, false, false] rfl rfl (any_of HT_.out (by kernel_rfl)) (fun _ _ _ h => h) (Or.inl ⟨by rfl, ?_⟩) ?_ ?_
          rotate_left
          · intro w'
            go_simp
            with_reducible rfl
          rotate_left
          · simp only [Act.put, List.setIfInBounds_toArray, List.set_cons_zero, List.set_cons_succ, i64_w, i32_w]
            rfl
          refine pure_ (i := 12) (N := some 48) (v := ?_) (a' := ?_) #[true, true, true, true, true, true, true, true, true, true, true, true, true, false, false, false, false, false, false, false] rfl rfl (any_of HT_.out (by kernel_rfl)) (fun _ _ _ h => h) (Or.inl ⟨by rfl, ?_⟩) ?_ ?_
          rotate_left
          · intro w'
            go_simp
            with_reducible rfl
          rotate_left
          · simp only [Act.put, List.setIfInBounds_toArray, List.set_cons_zero, List.set_cons_succ, i64_w, i32_w]
            rfl
          refine pure_ (i := 13) (N := some 49) (v := ?_) (a' := ?_) #[true, true, true, true, true, true, true, true, true, true, true, true, true, true, false, false, false, false, false, false] rfl rfl (any_of HT_.out (by kernel_rfl)) (fun _ _ _ h => h) (Or.inl ⟨by rfl, ?_⟩) ?_ ?_
          rotate_left
          · intro w'
            go_simp
            with_reducible rfl
          rotate_left
          · simp only [Act.put, List.setIfInBounds_toArray, List.set_cons_zero, List.set_cons_succ, i64_w, i32_w]
            rfl
          refine pure_ (i := 14) (N := some 50) (v := ?_) (a' := ?_) #[true, true, true, true, true, true, true, true, true, true, true, true, true, true, true, false, false, false, false, false] rfl rfl (any_of HT_.out (by kernel_rfl)) (fun _ _ _ h => h) (Or.inl ⟨by rfl, ?_⟩) ?_ ?_
          rotate_left
          · intro w'
            go_simp
            with_reducible rfl
          rotate_left
          · simp only [Act.put, List.setIfInBounds_toArray, List.set_cons_zero, List.set_cons_succ, i64_w, i32_w]
            rfl
          refine pure_ (i := 15) (N := some 51) (v := undef) (a' := ?_) #[true, true, true, true, true, true, true, true, true, true, true, true, true, true, true, true, false, false, false, false] rfl rfl (any_of HT_.out (by kernel_rfl)) (fun _ _ _ h => h) (Or.inr ⟨by rfl, rfl⟩) ?_ ?_
          rotate_left
          · simp only [Act.put, List.setIfInBounds_toArray, List.set_cons_zero, List.set_cons_succ, i64_w, i32_w]
            rfl
          refine pure_ (i := 16) (N := some 52) (v := undef) (a' := ?_) #[true, true, true, true, true, true, true, true, true, true, true, true, true, true, true, true, true, false, false, false] rfl rfl (any_of HT_.out (by kernel_rfl)) (fun _ _ _ h => h) (Or.inr ⟨by rfl, rfl⟩) ?_ ?_
          rotate_left
          · simp only [Act.put, List.setIfInBounds_toArray, List.set_cons_zero, List.set_cons_succ, i64_w, i32_w]
            rfl
          refine pure_ (i := 17) (N := some 53) (v := undef) (a' := ?_) #[true, true, true, true, true, true, true, true, true, true, true, true, true, true, true, true, true, true, false, false] rfl rfl (any_of HT_.out (by kernel_rfl)) (fun _ _ _ h => h) (Or.inr ⟨by rfl, rfl⟩) ?_ ?_
          rotate_left
          · simp only [Act.put, List.setIfInBounds_toArray, List.set_cons_zero, List.set_cons_succ, i64_w, i32_w]
            rfl
          refine pure_ (i := 18) (N := some 54) (v := undef) (a' := ?_) #[true, true, true, true, true, true, true, true, true, true, true, true, true, true, true, true, true, true, true, false] rfl rfl (any_of HT_.out (by kernel_rfl)) (fun _ _ _ h => h) (Or.inr ⟨by rfl, rfl⟩) ?_ ?_
          rotate_left
          · simp only [Act.put, List.setIfInBounds_toArray, List.set_cons_zero, List.set_cons_succ, i64_w, i32_w]
            rfl
          refine pure_ (i := 19) (N := some 55) (v := ?_) (a' := ?_) #[true, true, true, true, true, true, true, true, true, true, true, true, true, true, true, true, true, true, true, true] rfl rfl (any_of HT_.out (by kernel_rfl)) (fun _ _ _ h => h) (Or.inl ⟨by rfl, ?_⟩) ?_ ?_
          rotate_left
          · intro w'
            go_simp
            with_reducible rfl
          rotate_left
          · simp only [Act.put, List.setIfInBounds_toArray, List.set_cons_zero, List.set_cons_succ, i64_w, i32_w]
            rfl
          refine done_ (done_of HT_.out (by kernel_rfl)) ?_
          try go_wp2
          go_meet
          case rel => exact ⟨_, (true), (by first | rfl | (simp; done) | (simp [*]; done)), H', ⟨by first | omega | exact Nat.le_refl _⟩, ⟨by (with_reducible repeat (first | refine blk_drewN ?_ _ | refine blk_drew ?_ | refine blk_alloc ?_ _)); exact BK214.out⟩, ⟨by (with_reducible repeat (first | refine blk_drewN ?_ _ | refine blk_drew ?_ | refine blk_alloc ?_ _)); exact BK215.out⟩, ⟨by (with_reducible repeat (first | refine blk_drewN ?_ _ | refine blk_drew ?_ | refine blk_alloc ?_ _)); exact BK220.out⟩, ⟨by (with_reducible repeat (first | refine blk_drewN ?_ _ | refine blk_drew ?_ | refine blk_alloc ?_ _)); exact BK221.out⟩, ⟨by (with_reducible repeat (first | refine blk_drewN ?_ _ | refine blk_drew ?_ | refine blk_alloc ?_ _)); exact BK227.out⟩, ⟨by (with_reducible repeat (first | refine blk_drewN ?_ _ | refine blk_drew ?_ | refine blk_alloc ?_ _)); exact BK233.out⟩, ⟨by repeat (first | (with_reducible first | exact HB.out | apply below_alloc | apply pw_below_drewN | apply below_drew1 | refine below_set ?_ GE214.out | refine below_set ?_ GE215.out | refine below_set ?_ GE220.out | refine below_set ?_ GE221.out | refine below_set ?_ GE227.out | refine below_set ?_ GE233.out) | exact HB.out)⟩⟩
    · replace c48 := Bool.eq_false_iff.mpr c48
      subst c48
      have H1 : (precinctlaw14_NodeSteps.j0 k true a1_0 a1_1 a1_2 a1_3 a1_4 t216 t217 t218 t219 a0_0 a0_1 a0_2 a0_3) = some r := by rw [if_neg (show ¬ (false = true) by decide)] at H; exact H
      clear H
      have H := H1
      clear H1
      have H' := Aside0.mk H
      clear H
      try go_wp2
      have n0_ : Aside0 (((((w40.setCell ⟨gb233, 0, none⟩ (.int .i64 t228)).setCell ⟨gb233, 1, none⟩ (.int .i64 t229)).setCell ⟨gb233, 2, none⟩ (.int .i64 t230)).setCell ⟨gb233, 3, none⟩ (.int .i64 t231)).heap[gb214]? = some (.cells #[.int .i64 a0_0, .int .i64 a0_1, .int .i64 a0_2, .int .i64 a0_3] 26 (0, 0))) := ⟨by (with_reducible repeat (first | refine blk_drewN ?_ _ | refine blk_drew ?_ | refine blk_alloc ?_ _)); refine blk_far ?_ NB214_233.out _; (with_reducible repeat (first | refine blk_drewN ?_ _ | refine blk_drew ?_ | refine blk_alloc ?_ _)); refine blk_far ?_ NB214_233.out _; (with_reducible repeat (first | refine blk_drewN ?_ _ | refine blk_drew ?_ | refine blk_alloc ?_ _)); refine blk_far ?_ NB214_233.out _; (with_reducible repeat (first | refine blk_drewN ?_ _ | refine blk_drew ?_ | refine blk_alloc ?_ _)); refine blk_far ?_ NB214_233.out _; (with_reducible repeat (first | refine blk_drewN ?_ _ | refine blk_drew ?_ | refine blk_alloc ?_ _)); exact BK214.out⟩
      have n1_ : Aside0 (((((w40.setCell ⟨gb233, 0, none⟩ (.int .i64 t228)).setCell ⟨gb233, 1, none⟩ (.int .i64 t229)).setCell ⟨gb233, 2, none⟩ (.int .i64 t230)).setCell ⟨gb233, 3, none⟩ (.int .i64 t231)).heap[gb215]? = some (.cells #[.int .i64 a1_0, .int .i64 a1_1, .int .i64 a1_2, .int .i64 a1_3, .bool a1_4] 28 (0, 0))) := ⟨by (with_reducible repeat (first | refine blk_drewN ?_ _ | refine blk_drew ?_ | refine blk_alloc ?_ _)); refine blk_far ?_ NB215_233.out _; (with_reducible repeat (first | refine blk_drewN ?_ _ | refine blk_drew ?_ | refine blk_alloc ?_ _)); refine blk_far ?_ NB215_233.out _; (with_reducible repeat (first | refine blk_drewN ?_ _ | refine blk_drew ?_ | refine blk_alloc ?_ _)); refine blk_far ?_ NB215_233.out _; (with_reducible repeat (first | refine blk_drewN ?_ _ | refine blk_drew ?_ | refine blk_alloc ?_ _)); refine blk_far ?_ NB215_233.out _; (with_reducible repeat (first | refine blk_drewN ?_ _ | refine blk_drew ?_ | refine blk_alloc ?_ _)); exact BK215.out⟩
      have n2_ : Aside0 (((((w40.setCell ⟨gb233, 0, none⟩ (.int .i64 t228)).setCell ⟨gb233, 1, none⟩ (.int .i64 t229)).setCell ⟨gb233, 2, none⟩ (.int .i64 t230)).setCell ⟨gb233, 3, none⟩ (.int .i64 t231)).heap[gb220]? = some (.cells #[.int .i64 t216, .int .i64 t217, .int .i64 t218, .int .i64 t219] 32 (0, 0))) := ⟨by (with_reducible repeat (first | refine blk_drewN ?_ _ | refine blk_drew ?_ | refine blk_alloc ?_ _)); refine blk_far ?_ NB220_233.out _; (with_reducible repeat (first | refine blk_drewN ?_ _ | refine blk_drew ?_ | refine blk_alloc ?_ _)); refine blk_far ?_ NB220_233.out _; (with_reducible repeat (first | refine blk_drewN ?_ _ | refine blk_drew ?_ | refine blk_alloc ?_ _)); refine blk_far ?_ NB220_233.out _; (with_reducible repeat (first | refine blk_drewN ?_ _ | refine blk_drew ?_ | refine blk_alloc ?_ _)); refine blk_far ?_ NB220_233.out _; (with_reducible repeat (first | refine blk_drewN ?_ _ | refine blk_drew ?_ | refine blk_alloc ?_ _)); exact BK220.out⟩
      have n3_ : Aside0 (((((w40.setCell ⟨gb233, 0, none⟩ (.int .i64 t228)).setCell ⟨gb233, 1, none⟩ (.int .i64 t229)).setCell ⟨gb233, 2, none⟩ (.int .i64 t230)).setCell ⟨gb233, 3, none⟩ (.int .i64 t231)).heap[gb221]? = some (.cells #[.int .i64 a0_0, .int .i64 a0_1, .int .i64 a0_2, .int .i64 a0_3] 37 (0, 0))) := ⟨by (with_reducible repeat (first | refine blk_drewN ?_ _ | refine blk_drew ?_ | refine blk_alloc ?_ _)); refine blk_far ?_ NB221_233.out _; (with_reducible repeat (first | refine blk_drewN ?_ _ | refine blk_drew ?_ | refine blk_alloc ?_ _)); refine blk_far ?_ NB221_233.out _; (with_reducible repeat (first | refine blk_drewN ?_ _ | refine blk_drew ?_ | refine blk_alloc ?_ _)); refine blk_far ?_ NB221_233.out _; (with_reducible repeat (first | refine blk_drewN ?_ _ | refine blk_drew ?_ | refine blk_alloc ?_ _)); refine blk_far ?_ NB221_233.out _; (with_reducible repeat (first | refine blk_drewN ?_ _ | refine blk_drew ?_ | refine blk_alloc ?_ _)); exact BK221.out⟩
      have n4_ : Aside0 (((((w40.setCell ⟨gb233, 0, none⟩ (.int .i64 t228)).setCell ⟨gb233, 1, none⟩ (.int .i64 t229)).setCell ⟨gb233, 2, none⟩ (.int .i64 t230)).setCell ⟨gb233, 3, none⟩ (.int .i64 t231)).heap[gb227]? = some (.cells #[.int .i64 t222, .int .i64 t223, .int .i64 t224, .int .i64 t225] 32 (0, 0))) := ⟨by (with_reducible repeat (first | refine blk_drewN ?_ _ | refine blk_drew ?_ | refine blk_alloc ?_ _)); refine blk_far ?_ NB227_233.out _; (with_reducible repeat (first | refine blk_drewN ?_ _ | refine blk_drew ?_ | refine blk_alloc ?_ _)); refine blk_far ?_ NB227_233.out _; (with_reducible repeat (first | refine blk_drewN ?_ _ | refine blk_drew ?_ | refine blk_alloc ?_ _)); refine blk_far ?_ NB227_233.out _; (with_reducible repeat (first | refine blk_drewN ?_ _ | refine blk_drew ?_ | refine blk_alloc ?_ _)); refine blk_far ?_ NB227_233.out _; (with_reducible repeat (first | refine blk_drewN ?_ _ | refine blk_drew ?_ | refine blk_alloc ?_ _)); exact BK227.out⟩
      have n5_ : Aside0 (((((w40.setCell ⟨gb233, 0, none⟩ (.int .i64 t228)).setCell ⟨gb233, 1, none⟩ (.int .i64 t229)).setCell ⟨gb233, 2, none⟩ (.int .i64 t230)).setCell ⟨gb233, 3, none⟩ (.int .i64 t231)).heap[gb233]? = some (.cells #[.int .i64 t228, .int .i64 t229, .int .i64 t230, .int .i64 t231] 37 (0, 0))) := ⟨by (with_reducible repeat (first | refine blk_drewN ?_ _ | refine blk_drew ?_ | refine blk_alloc ?_ _)); refine blk_put (cs := #[.int .i64 t228, .int .i64 t229, .int .i64 t230, .int .i64 0]) ?_ 3 _ rfl; (with_reducible repeat (first | refine blk_drewN ?_ _ | refine blk_drew ?_ | refine blk_alloc ?_ _)); refine blk_put (cs := #[.int .i64 t228, .int .i64 t229, .int .i64 0, .int .i64 0]) ?_ 2 _ rfl; (with_reducible repeat (first | refine blk_drewN ?_ _ | refine blk_drew ?_ | refine blk_alloc ?_ _)); refine blk_put (cs := #[.int .i64 t228, .int .i64 0, .int .i64 0, .int .i64 0]) ?_ 1 _ rfl; (with_reducible repeat (first | refine blk_drewN ?_ _ | refine blk_drew ?_ | refine blk_alloc ?_ _)); refine blk_put (cs := #[.int .i64 0, .int .i64 0, .int .i64 0, .int .i64 0]) ?_ 0 _ rfl; (with_reducible repeat (first | refine blk_drewN ?_ _ | refine blk_drew ?_ | refine blk_alloc ?_ _)); exact BK233.out⟩
      have n6_ : Aside0 (Below w.heap.size w ((((w40.setCell ⟨gb233, 0, none⟩ (.int .i64 t228)).setCell ⟨gb233, 1, none⟩ (.int .i64 t229)).setCell ⟨gb233, 2, none⟩ (.int .i64 t230)).setCell ⟨gb233, 3, none⟩ (.int .i64 t231))) := ⟨by repeat (first | (with_reducible first | exact HB.out | apply below_alloc | apply pw_below_drewN | apply below_drew1 | refine below_set ?_ GE214.out | refine below_set ?_ GE215.out | refine below_set ?_ GE220.out | refine below_set ?_ GE221.out | refine below_set ?_ GE227.out | refine below_set ?_ GE233.out) | exact HB.out)⟩
      (try clear BK214)
      (try clear BK215)
      (try clear BK220)
      (try clear BK221)
      (try clear BK227)
      (try clear BK233)
      (try clear HB)
      generalize ((((w40.setCell ⟨gb233, 0, none⟩ (.int .i64 t228)).setCell ⟨gb233, 1, none⟩ (.int .i64 t229)).setCell ⟨gb233, 2, none⟩ (.int .i64 t230)).setCell ⟨gb233, 3, none⟩ (.int .i64 t231)) = w70 at n0_ n1_ n2_ n3_ n4_ n5_ n6_ ⊢
      have BK214 := n0_
      have BK215 := n1_
      have BK220 := n2_
      have BK221 := n3_
      have BK227 := n4_
      have BK233 := n5_
      have HB := n6_
      clear n0_ n1_ n2_ n3_ n4_ n5_ n6_
      have n0_ := Aside0.mk (blk_drew BK214.out)
      have n1_ := Aside0.mk (blk_drew BK215.out)
      have n2_ := Aside0.mk (blk_drew BK220.out)
      have n3_ := Aside0.mk (blk_drew BK221.out)
      have n4_ := Aside0.mk (blk_drew BK227.out)
      have n5_ := Aside0.mk (blk_drew BK233.out)
      have n6_ := Aside0.mk (below_drew1 HB.out)
      clear BK214
      clear BK215
      clear BK220
      clear BK221
      clear BK227
      clear BK233
      clear HB
      have BK214 := n0_
      have BK215 := n1_
      have BK220 := n2_
      have BK221 := n3_
      have BK227 := n4_
      have BK233 := n5_
      have HB := n6_
      clear n0_ n1_ n2_ n3_ n4_ n5_ n6_
      refine start_ (n := 20) (S := fun w' => True) (ds := []) #[false, false, false, false, false, false, false, false, false, false, false, false, false, false, false, false, false, false, false, false] (by kernel_rfl) rfl rfl trivial (fun hHeld => ?_); refine with_tabW precinctlaw14_NodeSteps.tab4 precinctlaw14_NodeSteps.bits4 (fun HT_ HW_ => ?_)
      generalize w70.drew = w71 at BK214 BK215 BK220 BK221 BK227 BK233 HB hHeld ⊢
      refine one_ (i := 0) (N := some 36) #[true, false, false, false, false, false, false, false, false, false, false, false, false, false, false, false, false, false, false, false] rfl rfl (one_of HT_.out (by kernel_rfl)) (by decide) (fun K hK => ?_)
      refine goes_ Try.func16 (by kernel_rfl) rfl #[] (by rfl) rfl rfl (by (try simp only [List.map_toArray, List.map_cons, List.map_nil]); first | done | rfl | (simp only [List.length_drop, List.length_take]; rfl)) ?_
      with_reducible refine (precinctlaw14_wakes.calls k  false _ A47.out).mono ?_
      rintro e w72 ⟨rfl, hb⟩
      refine ⟨_, rfl, ?_⟩
      have n0_ := Aside0.mk (blk_below (rb BK214.out) hb)
      have n1_ := Aside0.mk (blk_below (rb BK215.out) hb)
      have n2_ := Aside0.mk (blk_below (rb BK220.out) hb)
      have n3_ := Aside0.mk (blk_below (rb BK221.out) hb)
      have n4_ := Aside0.mk (blk_below (rb BK227.out) hb)
      have n5_ := Aside0.mk (blk_below (rb BK233.out) hb)
      have n6_ := Aside0.mk (below_step (by repeat (first | (with_reducible first | exact HB.out | apply below_alloc | apply pw_below_drewN | apply below_drew1 | refine below_set ?_ GE214.out | refine below_set ?_ GE215.out | refine below_set ?_ GE220.out | refine below_set ?_ GE221.out | refine below_set ?_ GE227.out | refine below_set ?_ GE233.out) | exact HB.out)) hb)
      clear BK214
      clear BK215
      clear BK220
      clear BK221
      clear BK227
      clear BK233
      clear HB
      have BK214 := n0_
      have BK215 := n1_
      have BK220 := n2_
      have BK221 := n3_
      have BK227 := n4_
      have BK233 := n5_
      have HB := n6_
      clear n0_ n1_ n2_ n3_ n4_ n5_ n6_
      (try clear hb)
      (try clear hb2)
      (try clear hk)
      (try clear hi)
      refine hK.out _ _ trivial (fun hHeld => ?_)
      clear hK K
      refine norm_ (a' := ?_) ?_ ?_
      rotate_left
      · show Act.put _ (some 36) _ = _
        simp only [Act.put, List.setIfInBounds_toArray, List.set_cons_zero, List.set_cons_succ, i64_w, i32_w]
        rfl
      refine pure_ (i := 1) (N := some 37) (v := ?_) (a' := ?_) #[true, true, false, false, false, false, false, false, false, false, false, false, false, false, false, false, false, false, false, false] rfl rfl (any_of HT_.out (by kernel_rfl)) (fun _ _ _ h => h) (Or.inl ⟨by rfl, ?_⟩) ?_ ?_
      rotate_left
      · intro w'
        go_simp
        with_reducible rfl
      rotate_left
      · simp only [Act.put, List.setIfInBounds_toArray, List.set_cons_zero, List.set_cons_succ, i64_w, i32_w]
        rfl
      refine pure_ (i := 2) (N := some 38) (v := ?_) (a' := ?_) #[true, true, true, false, false, false, false, false, false, false, false, false, false, false, false, false, false, false, false, false] rfl rfl (any_of HT_.out (by kernel_rfl)) (fun _ _ _ h => h) (Or.inl ⟨by rfl, ?_⟩) ?_ ?_
      rotate_left
      · intro w'
        go_simp
        with_reducible rfl
      rotate_left
      · simp only [Act.put, List.setIfInBounds_toArray, List.set_cons_zero, List.set_cons_succ, i64_w, i32_w]
        rfl
      refine pure_ (i := 3) (N := some 39) (v := undef) (a' := ?_) #[true, true, true, true, false, false, false, false, false, false, false, false, false, false, false, false, false, false, false, false] rfl rfl (any_of HT_.out (by kernel_rfl)) (fun _ _ _ h => h) (Or.inr ⟨by rfl, rfl⟩) ?_ ?_
      rotate_left
      · simp only [Act.put, List.setIfInBounds_toArray, List.set_cons_zero, List.set_cons_succ, i64_w, i32_w]
        rfl
      refine pure_ (i := 4) (N := some 40) (v := undef) (a' := ?_) #[true, true, true, true, true, false, false, false, false, false, false, false, false, false, false, false, false, false, false, false] rfl rfl (any_of HT_.out (by kernel_rfl)) (fun _ _ _ h => h) (Or.inr ⟨by rfl, rfl⟩) ?_ ?_
      rotate_left
      · simp only [Act.put, List.setIfInBounds_toArray, List.set_cons_zero, List.set_cons_succ, i64_w, i32_w]
        rfl
      refine pure_ (i := 5) (N := some 41) (v := undef) (a' := ?_) #[true, true, true, true, true, true, false, false, false, false, false, false, false, false, false, false, false, false, false, false] rfl rfl (any_of HT_.out (by kernel_rfl)) (fun _ _ _ h => h) (Or.inr ⟨by rfl, rfl⟩) ?_ ?_
      rotate_left
      · simp only [Act.put, List.setIfInBounds_toArray, List.set_cons_zero, List.set_cons_succ, i64_w, i32_w]
        rfl
      refine pure_ (i := 6) (N := some 42) (v := undef) (a' := ?_) #[true, true, true, true, true, true, true, false, false, false, false, false, false, false, false, false, false, false, false, false] rfl rfl (any_of HT_.out (by kernel_rfl)) (fun _ _ _ h => h) (Or.inr ⟨by rfl, rfl⟩) ?_ ?_
      rotate_left
      · simp only [Act.put, List.setIfInBounds_toArray, List.set_cons_zero, List.set_cons_succ, i64_w, i32_w]
        rfl
      refine pure_ (i := 7) (N := some 43) (v := undef) (a' := ?_) #[true, true, true, true, true, true, true, true, false, false, false, false, false, false, false, false, false, false, false, false] rfl rfl (any_of HT_.out (by kernel_rfl)) (fun _ _ _ h => h) (Or.inr ⟨by rfl, rfl⟩) ?_ ?_
      rotate_left
      · simp only [Act.put, List.setIfInBounds_toArray, List.set_cons_zero, List.set_cons_succ, i64_w, i32_w]
        rfl
      refine pure_ (i := 8) (N := some 44) (v := ?_) (a' := ?_) #[true, true, true, true, true, true, true, true, true, false, false, false, false, false, false, false, false, false, false, false] rfl rfl (any_of HT_.out (by kernel_rfl)) (fun _ _ _ h => h) (Or.inl ⟨by rfl, ?_⟩) ?_ ?_
      rotate_left
      · intro w'
        go_simp
        with_reducible rfl
      rotate_left
      · simp only [Act.put, List.setIfInBounds_toArray, List.set_cons_zero, List.set_cons_succ, i64_w, i32_w]
        rfl
      refine pure_ (i := 9) (N := some 45) (v := ?_) (a' := ?_) #[true, true, true, true, true, true, true, true, true, true, false, false, false, false, false, false, false, false, false, false] rfl rfl (any_of HT_.out (by kernel_rfl)) (fun _ _ _ h => h) (Or.inl ⟨by rfl, ?_⟩) ?_ ?_
      rotate_left
      · intro w'
        go_simp
        with_reducible rfl
      rotate_left
      · simp only [Act.put, List.setIfInBounds_toArray, List.set_cons_zero, List.set_cons_succ, i64_w, i32_w]
        rfl
      refine pure_ (i := 10) (N := some 46) (v := undef) (a' := ?_) #[true, true, true, true, true, true, true, true, true, true, true, false, false, false, false, false, false, false, false, false] rfl rfl (any_of HT_.out (by kernel_rfl)) (fun _ _ _ h => h) (Or.inr ⟨by rfl, rfl⟩) ?_ ?_
      rotate_left
      · simp only [Act.put, List.setIfInBounds_toArray, List.set_cons_zero, List.set_cons_succ, i64_w, i32_w]
        rfl
      refine pure_ (i := 11) (N := some 47) (v := undef) (a' := ?_) #[true, true, true, true, true, true, true, true, true, true, true, true, false, false, false, false, false, false, false, false] rfl rfl (any_of HT_.out (by kernel_rfl)) (fun _ _ _ h => h) (Or.inr ⟨by rfl, rfl⟩) ?_ ?_
      rotate_left
      · simp only [Act.put, List.setIfInBounds_toArray, List.set_cons_zero, List.set_cons_succ, i64_w, i32_w]
        rfl
      refine pure_ (i := 12) (N := some 48) (v := undef) (a' := ?_) #[true, true, true, true, true, true, true, true, true, true, true, true, true, false, false, false, false, false, false, false] rfl rfl (any_of HT_.out (by kernel_rfl)) (fun _ _ _ h => h) (Or.inr ⟨by rfl, rfl⟩) ?_ ?_
      rotate_left
      · simp only [Act.put, List.setIfInBounds_toArray, List.set_cons_zero, List.set_cons_succ, i64_w, i32_w]
        rfl
      refine pure_ (i := 13) (N := some 49) (v := ?_) (a' := ?_) #[true, true, true, true, true, true, true, true, true, true, true, true, true, true, false, false, false, false, false, false] rfl rfl (any_of HT_.out (by kernel_rfl)) (fun _ _ _ h => h) (Or.inl ⟨by rfl, ?_⟩) ?_ ?_
      rotate_left
      · intro w'
        go_simp
        with_reducible rfl
      rotate_left
      · simp only [Act.put, List.setIfInBounds_toArray, List.set_cons_zero, List.set_cons_succ, i64_w, i32_w]
        rfl
      refine pure_ (i := 14) (N := some 50) (v := ?_) (a' := ?_) #[true, true, true, true, true, true, true, true, true, true, true, true, true, true, true, false, false, false, false, false] rfl rfl (any_of HT_.out (by kernel_rfl)) (fun _ _ _ h => h) (Or.inl ⟨by rfl, ?_⟩) ?_ ?_
      rotate_left
      · intro w'
        go_simp
        with_reducible rfl
      rotate_left
      · simp only [Act.put, List.setIfInBounds_toArray, List.set_cons_zero, List.set_cons_succ, i64_w, i32_w]
        rfl
      refine pure_ (i := 15) (N := some 51) (v := undef) (a' := ?_) #[true, true, true, true, true, true, true, true, true, true, true, true, true, true, true, true, false, false, false, false] rfl rfl (any_of HT_.out (by kernel_rfl)) (fun _ _ _ h => h) (Or.inr ⟨by rfl, rfl⟩) ?_ ?_
      rotate_left
      · simp only [Act.put, List.setIfInBounds_toArray, List.set_cons_zero, List.set_cons_succ, i64_w, i32_w]
        rfl
      refine pure_ (i := 16) (N := some 52) (v := undef) (a' := ?_) #[true, true, true, true, true, true, true, true, true, true, true, true, true, true, true, true, true, false, false, false] rfl rfl (any_of HT_.out (by kernel_rfl)) (fun _ _ _ h => h) (Or.inr ⟨by rfl, rfl⟩) ?_ ?_
      rotate_left
      · simp only [Act.put, List.setIfInBounds_toArray, List.set_cons_zero, List.set_cons_succ, i64_w, i32_w]
        rfl
      refine pure_ (i := 17) (N := some 53) (v := undef) (a' := ?_) #[true, true, true, true, true, true, true, true, true, true, true, true, true, true, true, true, true, true, false, false] rfl rfl (any_of HT_.out (by kernel_rfl)) (fun _ _ _ h => h) (Or.inr ⟨by rfl, rfl⟩) ?_ ?_
      rotate_left
      · simp only [Act.put, List.setIfInBounds_toArray, List.set_cons_zero, List.set_cons_succ, i64_w, i32_w]
        rfl
      refine pure_ (i := 18) (N := some 54) (v := undef) (a' := ?_) #[true, true, true, true, true, true, true, true, true, true, true, true, true, true, true, true, true, true, true, false] rfl rfl (any_of HT_.out (by kernel_rfl)) (fun _ _ _ h => h) (Or.inr ⟨by rfl, rfl⟩) ?_ ?_
      rotate_left
      · simp only [Act.put, List.setIfInBounds_toArray, List.set_cons_zero, List.set_cons_succ, i64_w, i32_w]
        rfl
      refine pure_ (i := 19) (N := some 55) (v := ?_) (a' := ?_) #[true, true, true, true, true, true, true, true, true, true, true, true, true, true, true, true, true, true, true, true] rfl rfl (any_of HT_.out (by kernel_rfl)) (fun _ _ _ h => h) (Or.inl ⟨by rfl, ?_⟩) ?_ ?_
      rotate_left
      · intro w'
        go_simp
        with_reducible rfl
      rotate_left
      · simp only [Act.put, List.setIfInBounds_toArray, List.set_cons_zero, List.set_cons_succ, i64_w, i32_w]
        rfl
      refine done_ (done_of HT_.out (by kernel_rfl)) ?_
      try go_wp2
      go_meet
      case rel => exact ⟨_, (true), (by first | rfl | (simp; done) | (simp [*]; done)), H', ⟨by first | omega | exact Nat.le_refl _⟩, ⟨by (with_reducible repeat (first | refine blk_drewN ?_ _ | refine blk_drew ?_ | refine blk_alloc ?_ _)); exact BK214.out⟩, ⟨by (with_reducible repeat (first | refine blk_drewN ?_ _ | refine blk_drew ?_ | refine blk_alloc ?_ _)); exact BK215.out⟩, ⟨by (with_reducible repeat (first | refine blk_drewN ?_ _ | refine blk_drew ?_ | refine blk_alloc ?_ _)); exact BK220.out⟩, ⟨by (with_reducible repeat (first | refine blk_drewN ?_ _ | refine blk_drew ?_ | refine blk_alloc ?_ _)); exact BK221.out⟩, ⟨by (with_reducible repeat (first | refine blk_drewN ?_ _ | refine blk_drew ?_ | refine blk_alloc ?_ _)); exact BK227.out⟩, ⟨by (with_reducible repeat (first | refine blk_drewN ?_ _ | refine blk_drew ?_ | refine blk_alloc ?_ _)); exact BK233.out⟩, ⟨by repeat (first | (with_reducible first | exact HB.out | apply below_alloc | apply pw_below_drewN | apply below_drew1 | refine below_set ?_ GE214.out | refine below_set ?_ GE215.out | refine below_set ?_ GE220.out | refine below_set ?_ GE221.out | refine below_set ?_ GE227.out | refine below_set ?_ GE233.out) | exact HB.out)⟩⟩
  case rest =>
    clear HC6
    try clear c1
    try clear c2
    try clear p2
    try clear c4
    try clear c5
    try clear c15
    try clear c16
    try clear c21
    try clear c23
    try clear c48
    try clear c57
    try clear c57b0
    try clear c57b1
    obtain ⟨kq, x55_5, rfl, HA, HJ5, BK214, BK215, BK220, BK221, BK227, BK233, HB⟩ := hcut
    cases kq with
    | zero => exact absurd HA.out (by simp [precinctlaw14_NodeSteps.j0])
    | succ kj5 =>
      have H := HA.out
      clear HA
      simp only [precinctlaw14_NodeSteps.j0] at H
      by_cases c73 : x55_5 = true
      · subst c73
        have H1 : (some false) = some r := by rw [if_pos rfl] at H; exact H
        clear H
        have H := H1
        clear H1
        exact absurd ((Option.some.inj H).trans hT_.out) (by decide)
      · replace c73 := Bool.eq_false_iff.mpr c73
        subst c73
        have H1 : ((node_State_Skip.f t216 t217 t218 t219 a1_0).bind fun bt238 => ((precinctref14_Skip.f a0_0 a0_1 a0_2 a0_3 a1_0).bind fun bt243 => (if bt238.2.2.2.2 = bt243.2.2.2.2 then ((precinctlaw14_is.f bt238.1 bt238.2.1 bt238.2.2.1 bt238.2.2.2.1 bt243.1 bt243.2.1 bt243.2.2.1 bt243.2.2.2.1).bind fun t248 => (precinctlaw14_NodeSteps.j1 kj5 (!t248) a1_0 a1_1 a1_2 a1_3 a1_4 t216 t217 t218 t219 a0_0 a0_1 a0_2 a0_3)) else (precinctlaw14_NodeSteps.j1 kj5 true a1_0 a1_1 a1_2 a1_3 a1_4 t216 t217 t218 t219 a0_0 a0_1 a0_2 a0_3)))) = some r := by rw [if_neg (show ¬ (false = true) by decide)] at H; exact H
        clear H
        have H := H1
        clear H1
        replace H := Option.bind_eq_some_iff.mp H
        obtain ⟨⟨t238, t239, t240, t241, t242⟩, A740, H⟩ := H
        replace H : ((precinctref14_Skip.f a0_0 a0_1 a0_2 a0_3 a1_0).bind fun bt243 => (if t242 = bt243.2.2.2.2 then ((precinctlaw14_is.f t238 t239 t240 t241 bt243.1 bt243.2.1 bt243.2.2.1 bt243.2.2.2.1).bind fun t248 => (precinctlaw14_NodeSteps.j1 kj5 (!t248) a1_0 a1_1 a1_2 a1_3 a1_4 t216 t217 t218 t219 a0_0 a0_1 a0_2 a0_3)) else (precinctlaw14_NodeSteps.j1 kj5 true a1_0 a1_1 a1_2 a1_3 a1_4 t216 t217 t218 t219 a0_0 a0_1 a0_2 a0_3))) = some r := H
        have A74 := Aside0.mk A740
        clear A740
        replace H := Option.bind_eq_some_iff.mp H
        obtain ⟨⟨t243, t244, t245, t246, t247⟩, A750, H⟩ := H
        replace H : (if t242 = t247 then ((precinctlaw14_is.f t238 t239 t240 t241 t243 t244 t245 t246).bind fun t248 => (precinctlaw14_NodeSteps.j1 kj5 (!t248) a1_0 a1_1 a1_2 a1_3 a1_4 t216 t217 t218 t219 a0_0 a0_1 a0_2 a0_3)) else (precinctlaw14_NodeSteps.j1 kj5 true a1_0 a1_1 a1_2 a1_3 a1_4 t216 t217 t218 t219 a0_0 a0_1 a0_2 a0_3)) = some r := H
        have A75 := Aside0.mk A750
        clear A750
        have HC76 := Aside0.mk H
        clear H
        have hnb77 := NB220_214.out
        have hnc77 := NB214_220.out
        have hnb78 := NB220_215.out
        have hnc78 := NB215_220.out
        have hnb79 := NB220_221.out
        have hnc79 := NB221_220.out
        have hnb80 := NB220_227.out
        have hnc80 := NB227_220.out
        have hnb81 := NB220_233.out
        have hnc81 := NB233_220.out
        have hcz82_0 : wc.cell? ⟨gb220, 0, none⟩ = some (.int .i64 t216) := (blk_cell BK220.out 0).trans rfl
        have hcz82_1 : wc.cell? ⟨gb220, 1, none⟩ = some (.int .i64 t217) := (blk_cell BK220.out 1).trans rfl
        have hcz82_2 : wc.cell? ⟨gb220, 2, none⟩ = some (.int .i64 t218) := (blk_cell BK220.out 2).trans rfl
        have hcz82_3 : wc.cell? ⟨gb220, 3, none⟩ = some (.int .i64 t219) := (blk_cell BK220.out 3).trans rfl
        have hfz82_0 := blk_frozen BK220.out 0
        have hfz82_1 := blk_frozen BK220.out 1
        have hfz82_2 := blk_frozen BK220.out 2
        have hfz82_3 := blk_frozen BK220.out 3
        have hnb83 := NB215_214.out
        have hnc83 := NB214_215.out
        have hnb84 := NB215_221.out
        have hnc84 := NB221_215.out
        have hnb85 := NB215_227.out
        have hnc85 := NB227_215.out
        have hnb86 := NB215_233.out
        have hnc86 := NB233_215.out
        have hcz87_0 : wc.cell? ⟨gb215, 0, none⟩ = some (.int .i64 a1_0) := (blk_cell BK215.out 0).trans rfl
        have hcz87_1 : wc.cell? ⟨gb215, 1, none⟩ = some (.int .i64 a1_1) := (blk_cell BK215.out 1).trans rfl
        have hcz87_2 : wc.cell? ⟨gb215, 2, none⟩ = some (.int .i64 a1_2) := (blk_cell BK215.out 2).trans rfl
        have hcz87_3 : wc.cell? ⟨gb215, 3, none⟩ = some (.int .i64 a1_3) := (blk_cell BK215.out 3).trans rfl
        have hcz87_4 : wc.cell? ⟨gb215, 4, none⟩ = some (.bool a1_4) := (blk_cell BK215.out 4).trans rfl
        have hfz87_0 := blk_frozen BK215.out 0
        have hfz87_1 := blk_frozen BK215.out 1
        have hfz87_2 := blk_frozen BK215.out 2
        have hfz87_3 := blk_frozen BK215.out 3
        have hfz87_4 := blk_frozen BK215.out 4
        go_upto_region 8 with (first | ((with_reducible refine gate_callee (f := 24) rfl ?_); refine goesL_ (some 60) rfl rfl Try.func24 (by kernel_rfl) rfl #[.agg #[.int .i64 t216, .int .i64 t217, .int .i64 t218, .int .i64 t219], .int .i64 a1_0] rfl (by (try simp only [List.map_toArray, List.map_cons, List.map_nil]); first | done | rfl | (simp only [List.length_drop, List.length_take]; rfl)) ?_; (with_reducible refine (node_State_Skip.calls t216 t217 t218 t219 a1_0 t238 t239 t240 t241 t242 _ A74.out).mono ?_); rintro e w88 ⟨rfl, hb⟩; refine ⟨_, rfl, ?_⟩; have n0_ := Aside0.mk (blk_below (rb BK214.out) hb); have n1_ := Aside0.mk (blk_below (rb BK215.out) hb); have n2_ := Aside0.mk (blk_below (rb BK220.out) hb); have n3_ := Aside0.mk (blk_below (rb BK221.out) hb); have n4_ := Aside0.mk (blk_below (rb BK227.out) hb); have n5_ := Aside0.mk (blk_below (rb BK233.out) hb); have n6_ := Aside0.mk (below_step (by repeat (first | (with_reducible first | exact HB.out | apply below_alloc | apply pw_below_drewN | apply below_drew1 | refine below_set ?_ GE214.out | refine below_set ?_ GE215.out | refine below_set ?_ GE220.out | refine below_set ?_ GE221.out | refine below_set ?_ GE227.out | refine below_set ?_ GE233.out) | exact HB.out)) hb); clear BK214; clear BK215; clear BK220; clear BK221; clear BK227; clear BK233; clear HB; have BK214 := n0_; have BK215 := n1_; have BK220 := n2_; have BK221 := n3_; have BK227 := n4_; have BK233 := n5_; have HB := n6_; clear n0_ n1_ n2_ n3_ n4_ n5_ n6_; (try clear hb); (try clear hb2); (try clear hk); (try clear hi); have hnb89 := NB227_214.out; have hnc89 := NB214_227.out; have hnb90 := NB227_221.out; have hnc90 := NB221_227.out; have hnb91 := NB227_233.out; have hnc91 := NB233_227.out; have hcz92_0 : w88.cell? ⟨gb227, 0, none⟩ = some (.int .i64 t222) := (blk_cell BK227.out 0).trans rfl; have hcz92_1 : w88.cell? ⟨gb227, 1, none⟩ = some (.int .i64 t223) := (blk_cell BK227.out 1).trans rfl; have hcz92_2 : w88.cell? ⟨gb227, 2, none⟩ = some (.int .i64 t224) := (blk_cell BK227.out 2).trans rfl; have hcz92_3 : w88.cell? ⟨gb227, 3, none⟩ = some (.int .i64 t225) := (blk_cell BK227.out 3).trans rfl; have hfz92_0 := blk_frozen BK227.out 0; have hfz92_1 := blk_frozen BK227.out 1; have hfz92_2 := blk_frozen BK227.out 2; have hfz92_3 := blk_frozen BK227.out 3; have hnb93 := NB221_214.out; have hnc93 := NB214_221.out; have hnb94 := NB221_233.out; have hnc94 := NB233_221.out; have hcz95_0 : w88.cell? ⟨gb221, 0, none⟩ = some (.int .i64 a0_0) := (blk_cell BK221.out 0).trans rfl; have hcz95_1 : w88.cell? ⟨gb221, 1, none⟩ = some (.int .i64 a0_1) := (blk_cell BK221.out 1).trans rfl; have hcz95_2 : w88.cell? ⟨gb221, 2, none⟩ = some (.int .i64 a0_2) := (blk_cell BK221.out 2).trans rfl; have hcz95_3 : w88.cell? ⟨gb221, 3, none⟩ = some (.int .i64 a0_3) := (blk_cell BK221.out 3).trans rfl; have hfz95_0 := blk_frozen BK221.out 0; have hfz95_1 := blk_frozen BK221.out 1; have hfz95_2 := blk_frozen BK221.out 2; have hfz95_3 := blk_frozen BK221.out 3; have hcz96_0 : w88.cell? ⟨gb215, 0, none⟩ = some (.int .i64 a1_0) := (blk_cell BK215.out 0).trans rfl; have hcz96_1 : w88.cell? ⟨gb215, 1, none⟩ = some (.int .i64 a1_1) := (blk_cell BK215.out 1).trans rfl; have hcz96_2 : w88.cell? ⟨gb215, 2, none⟩ = some (.int .i64 a1_2) := (blk_cell BK215.out 2).trans rfl; have hcz96_3 : w88.cell? ⟨gb215, 3, none⟩ = some (.int .i64 a1_3) := (blk_cell BK215.out 3).trans rfl; have hcz96_4 : w88.cell? ⟨gb215, 4, none⟩ = some (.bool a1_4) := (blk_cell BK215.out 4).trans rfl; have hfz96_0 := blk_frozen BK215.out 0; have hfz96_1 := blk_frozen BK215.out 1; have hfz96_2 := blk_frozen BK215.out 2; have hfz96_3 := blk_frozen BK215.out 3; have hfz96_4 := blk_frozen BK215.out 4) | ((with_reducible refine gate_callee (f := 25) rfl ?_); refine goesL_ (some 67) rfl rfl Try.func25 (by kernel_rfl) rfl #[.agg #[.int .i64 a0_0, .int .i64 a0_1, .int .i64 a0_2, .int .i64 a0_3], .int .i64 a1_0] rfl (by (try simp only [List.map_toArray, List.map_cons, List.map_nil]); first | done | rfl | (simp only [List.length_drop, List.length_take]; rfl)) ?_; (with_reducible refine (precinctref14_Skip.calls a0_0 a0_1 a0_2 a0_3 a1_0 t243 t244 t245 t246 t247 _ A75.out).mono ?_); rintro e w97 ⟨rfl, hb⟩; refine ⟨_, rfl, ?_⟩; have n0_ := Aside0.mk (blk_below (rb (blk_far (rb (blk_far (rb (blk_far (rb (blk_far (rb BK214.out) NB214_227.out _)) NB214_227.out _)) NB214_227.out _)) NB214_227.out _)) hb); have n1_ := Aside0.mk (blk_below (rb (blk_far (rb (blk_far (rb (blk_far (rb (blk_far (rb BK215.out) NB215_227.out _)) NB215_227.out _)) NB215_227.out _)) NB215_227.out _)) hb); have n2_ := Aside0.mk (blk_below (rb (blk_far (rb (blk_far (rb (blk_far (rb (blk_far (rb BK220.out) NB220_227.out _)) NB220_227.out _)) NB220_227.out _)) NB220_227.out _)) hb); have n3_ := Aside0.mk (blk_below (rb (blk_far (rb (blk_far (rb (blk_far (rb (blk_far (rb BK221.out) NB221_227.out _)) NB221_227.out _)) NB221_227.out _)) NB221_227.out _)) hb); have n4_ := Aside0.mk (blk_below (rb (blk_put (cs := #[.int .i64 t238, .int .i64 t239, .int .i64 t240, .int .i64 t225]) (rb (blk_put (cs := #[.int .i64 t238, .int .i64 t239, .int .i64 t224, .int .i64 t225]) (rb (blk_put (cs := #[.int .i64 t238, .int .i64 t223, .int .i64 t224, .int .i64 t225]) (rb (blk_put (cs := #[.int .i64 t222, .int .i64 t223, .int .i64 t224, .int .i64 t225]) (rb BK227.out) 0 _ rfl)) 1 _ rfl)) 2 _ rfl)) 3 _ rfl)) hb); have n5_ := Aside0.mk (blk_below (rb (blk_far (rb (blk_far (rb (blk_far (rb (blk_far (rb BK233.out) NB233_227.out _)) NB233_227.out _)) NB233_227.out _)) NB233_227.out _)) hb); have n6_ := Aside0.mk (below_step (by repeat (first | (with_reducible first | exact HB.out | apply below_alloc | apply pw_below_drewN | apply below_drew1 | refine below_set ?_ GE214.out | refine below_set ?_ GE215.out | refine below_set ?_ GE220.out | refine below_set ?_ GE221.out | refine below_set ?_ GE227.out | refine below_set ?_ GE233.out) | exact HB.out)) hb); clear BK214; clear BK215; clear BK220; clear BK221; clear BK227; clear BK233; clear HB; have BK214 := n0_; have BK215 := n1_; have BK220 := n2_; have BK221 := n3_; have BK227 := n4_; have BK233 := n5_; have HB := n6_; clear n0_ n1_ n2_ n3_ n4_ n5_ n6_; (try clear hb); (try clear hb2); (try clear hk); (try clear hi); have hnb98 := NB233_214.out; have hnc98 := NB214_233.out; have hcz99_0 : w97.cell? ⟨gb233, 0, none⟩ = some (.int .i64 t228) := (blk_cell BK233.out 0).trans rfl; have hcz99_1 : w97.cell? ⟨gb233, 1, none⟩ = some (.int .i64 t229) := (blk_cell BK233.out 1).trans rfl; have hcz99_2 : w97.cell? ⟨gb233, 2, none⟩ = some (.int .i64 t230) := (blk_cell BK233.out 2).trans rfl; have hcz99_3 : w97.cell? ⟨gb233, 3, none⟩ = some (.int .i64 t231) := (blk_cell BK233.out 3).trans rfl; have hfz99_0 := blk_frozen BK233.out 0; have hfz99_1 := blk_frozen BK233.out 1; have hfz99_2 := blk_frozen BK233.out 2; have hfz99_3 := blk_frozen BK233.out 3))
        (try simp only [Act.put, List.setIfInBounds_toArray, List.set_cons_zero, List.set_cons_succ])
        go_cut [78] (fun v78 wc => ∃ (kq : Nat) (x78_75 : Bool), v78 = .bool x78_75 ∧ Aside0 (precinctlaw14_NodeSteps.j1 kq x78_75 a1_0 a1_1 a1_2 a1_3 a1_4 t216 t217 t218 t219 a0_0 a0_1 a0_2 a0_3 = some r) ∧ Aside0 (kq ≤ kj5) ∧ Aside0 (wc.heap[gb214]? = some (.cells #[.int .i64 a0_0, .int .i64 a0_1, .int .i64 a0_2, .int .i64 a0_3] 26 (0, 0))) ∧ Aside0 (wc.heap[gb215]? = some (.cells #[.int .i64 a1_0, .int .i64 a1_1, .int .i64 a1_2, .int .i64 a1_3, .bool a1_4] 28 (0, 0))) ∧ Aside0 (wc.heap[gb220]? = some (.cells #[.int .i64 t216, .int .i64 t217, .int .i64 t218, .int .i64 t219] 32 (0, 0))) ∧ Aside0 (wc.heap[gb221]? = some (.cells #[.int .i64 a0_0, .int .i64 a0_1, .int .i64 a0_2, .int .i64 a0_3] 37 (0, 0))) ∧ Aside0 (wc.heap[gb227]? = some (.cells #[.int .i64 t238, .int .i64 t239, .int .i64 t240, .int .i64 t241] 32 (0, 0))) ∧ Aside0 (wc.heap[gb233]? = some (.cells #[.int .i64 t243, .int .i64 t244, .int .i64 t245, .int .i64 t246] 37 (0, 0))) ∧ Aside0 (Below w.heap.size w wc))
        case first =>
          have H := HC76.out
          clear HC76
          by_cases c100 : t242 = t247
          · rw [if_pos c100] at H
            have c100b0 : (t242 == t247) = true := beq_iff_eq.mpr c100
            have c100b1 : (t242 != t247) = false := bne_eq_false_iff_eq.mpr c100
            clear c100
            (first | rw [c100b0] | (simp only [i64_w, i32_w]; rw [c100b0]) | skip)
            replace H := Option.bind_eq_some_iff.mp H
            obtain ⟨t248, A1010, H⟩ := H
            replace H : (precinctlaw14_NodeSteps.j1 kj5 (!t248) a1_0 a1_1 a1_2 a1_3 a1_4 t216 t217 t218 t219 a0_0 a0_1 a0_2 a0_3) = some r := H
            have A101 := Aside0.mk A1010
            clear A1010
            have H' := Aside0.mk H
            clear H
            have hnb102 := NB227_214.out
            have hnc102 := NB214_227.out
            have hnb103 := NB227_215.out
            have hnc103 := NB215_227.out
            have hnb104 := NB227_220.out
            have hnc104 := NB220_227.out
            have hnb105 := NB227_221.out
            have hnc105 := NB221_227.out
            have hnb106 := NB227_233.out
            have hnc106 := NB233_227.out
            have hcz107_0 : w97.cell? ⟨gb227, 0, none⟩ = some (.int .i64 t238) := (blk_cell BK227.out 0).trans rfl
            have hcz107_1 : w97.cell? ⟨gb227, 1, none⟩ = some (.int .i64 t239) := (blk_cell BK227.out 1).trans rfl
            have hcz107_2 : w97.cell? ⟨gb227, 2, none⟩ = some (.int .i64 t240) := (blk_cell BK227.out 2).trans rfl
            have hcz107_3 : w97.cell? ⟨gb227, 3, none⟩ = some (.int .i64 t241) := (blk_cell BK227.out 3).trans rfl
            have hfz107_0 := blk_frozen BK227.out 0
            have hfz107_1 := blk_frozen BK227.out 1
            have hfz107_2 := blk_frozen BK227.out 2
            have hfz107_3 := blk_frozen BK227.out 3
            have hnb108 := NB233_214.out
            have hnc108 := NB214_233.out
            have hnb109 := NB233_215.out
            have hnc109 := NB215_233.out
            have hnb110 := NB233_220.out
            have hnc110 := NB220_233.out
            have hnb111 := NB233_221.out
            have hnc111 := NB221_233.out
            have hcz112_0 : w97.cell? ⟨gb233, 0, none⟩ = some (.int .i64 t228) := (blk_cell BK233.out 0).trans rfl
            have hcz112_1 : w97.cell? ⟨gb233, 1, none⟩ = some (.int .i64 t229) := (blk_cell BK233.out 1).trans rfl
            have hcz112_2 : w97.cell? ⟨gb233, 2, none⟩ = some (.int .i64 t230) := (blk_cell BK233.out 2).trans rfl
            have hcz112_3 : w97.cell? ⟨gb233, 3, none⟩ = some (.int .i64 t231) := (blk_cell BK233.out 3).trans rfl
            have hfz112_0 := blk_frozen BK233.out 0
            have hfz112_1 := blk_frozen BK233.out 1
            have hfz112_2 := blk_frozen BK233.out 2
            have hfz112_3 := blk_frozen BK233.out 3
            go_wp2_with (first | (go_at_call 15; (with_reducible refine (precinctlaw14_is.calls t238 t239 t240 t241 t243 t244 t245 t246 t248 _ A101.out).mono ?_); rintro e w113 ⟨rfl, hb⟩; have n0_ := Aside0.mk (blk_below (rb (blk_far (rb (blk_far (rb (blk_far (rb (blk_far (rb BK214.out) NB214_233.out _)) NB214_233.out _)) NB214_233.out _)) NB214_233.out _)) hb); have n1_ := Aside0.mk (blk_below (rb (blk_far (rb (blk_far (rb (blk_far (rb (blk_far (rb BK215.out) NB215_233.out _)) NB215_233.out _)) NB215_233.out _)) NB215_233.out _)) hb); have n2_ := Aside0.mk (blk_below (rb (blk_far (rb (blk_far (rb (blk_far (rb (blk_far (rb BK220.out) NB220_233.out _)) NB220_233.out _)) NB220_233.out _)) NB220_233.out _)) hb); have n3_ := Aside0.mk (blk_below (rb (blk_far (rb (blk_far (rb (blk_far (rb (blk_far (rb BK221.out) NB221_233.out _)) NB221_233.out _)) NB221_233.out _)) NB221_233.out _)) hb); have n4_ := Aside0.mk (blk_below (rb (blk_far (rb (blk_far (rb (blk_far (rb (blk_far (rb BK227.out) NB227_233.out _)) NB227_233.out _)) NB227_233.out _)) NB227_233.out _)) hb); have n5_ := Aside0.mk (blk_below (rb (blk_put (cs := #[.int .i64 t243, .int .i64 t244, .int .i64 t245, .int .i64 t231]) (rb (blk_put (cs := #[.int .i64 t243, .int .i64 t244, .int .i64 t230, .int .i64 t231]) (rb (blk_put (cs := #[.int .i64 t243, .int .i64 t229, .int .i64 t230, .int .i64 t231]) (rb (blk_put (cs := #[.int .i64 t228, .int .i64 t229, .int .i64 t230, .int .i64 t231]) (rb BK233.out) 0 _ rfl)) 1 _ rfl)) 2 _ rfl)) 3 _ rfl)) hb); have n6_ := Aside0.mk (below_step (by repeat (first | (with_reducible first | exact HB.out | apply below_alloc | apply pw_below_drewN | apply below_drew1 | refine below_set ?_ GE214.out | refine below_set ?_ GE215.out | refine below_set ?_ GE220.out | refine below_set ?_ GE221.out | refine below_set ?_ GE227.out | refine below_set ?_ GE233.out) | exact HB.out)) hb); clear BK214; clear BK215; clear BK220; clear BK221; clear BK227; clear BK233; clear HB; have BK214 := n0_; have BK215 := n1_; have BK220 := n2_; have BK221 := n3_; have BK227 := n4_; have BK233 := n5_; have HB := n6_; clear n0_ n1_ n2_ n3_ n4_ n5_ n6_; (try clear hb); (try clear hb2); (try clear hk); (try clear hi)))
            go_meet
            case rel => exact ⟨_, (!t248), (by first | rfl | (simp; done) | (simp [*]; done)), H', ⟨by have := HJ5.out; first | omega | exact Nat.le_refl _⟩, ⟨by (with_reducible repeat (first | refine blk_drewN ?_ _ | refine blk_drew ?_ | refine blk_alloc ?_ _)); exact BK214.out⟩, ⟨by (with_reducible repeat (first | refine blk_drewN ?_ _ | refine blk_drew ?_ | refine blk_alloc ?_ _)); exact BK215.out⟩, ⟨by (with_reducible repeat (first | refine blk_drewN ?_ _ | refine blk_drew ?_ | refine blk_alloc ?_ _)); exact BK220.out⟩, ⟨by (with_reducible repeat (first | refine blk_drewN ?_ _ | refine blk_drew ?_ | refine blk_alloc ?_ _)); exact BK221.out⟩, ⟨by (with_reducible repeat (first | refine blk_drewN ?_ _ | refine blk_drew ?_ | refine blk_alloc ?_ _)); exact BK227.out⟩, ⟨by (with_reducible repeat (first | refine blk_drewN ?_ _ | refine blk_drew ?_ | refine blk_alloc ?_ _)); exact BK233.out⟩, ⟨by repeat (first | (with_reducible first | exact HB.out | apply below_alloc | apply pw_below_drewN | apply below_drew1 | refine below_set ?_ GE214.out | refine below_set ?_ GE215.out | refine below_set ?_ GE220.out | refine below_set ?_ GE221.out | refine below_set ?_ GE227.out | refine below_set ?_ GE233.out) | exact HB.out)⟩⟩
          · rw [if_neg c100] at H
            have c100b0 : (t242 == t247) = false := beq_eq_false_iff_ne.mpr c100
            have c100b1 : (t242 != t247) = true := bne_iff_ne.mpr c100
            (first | rw [c100b0] | (simp only [i64_w, i32_w]; rw [c100b0]) | skip)
            have H' := Aside0.mk H
            clear H
            go_wp2
            go_meet
            case rel => exact ⟨_, (true), (by first | rfl | (simp; done) | (simp [*]; done)), H', ⟨by have := HJ5.out; first | omega | exact Nat.le_refl _⟩, ⟨by (with_reducible repeat (first | refine blk_drewN ?_ _ | refine blk_drew ?_ | refine blk_alloc ?_ _)); refine blk_far ?_ NB214_233.out _; (with_reducible repeat (first | refine blk_drewN ?_ _ | refine blk_drew ?_ | refine blk_alloc ?_ _)); refine blk_far ?_ NB214_233.out _; (with_reducible repeat (first | refine blk_drewN ?_ _ | refine blk_drew ?_ | refine blk_alloc ?_ _)); refine blk_far ?_ NB214_233.out _; (with_reducible repeat (first | refine blk_drewN ?_ _ | refine blk_drew ?_ | refine blk_alloc ?_ _)); refine blk_far ?_ NB214_233.out _; (with_reducible repeat (first | refine blk_drewN ?_ _ | refine blk_drew ?_ | refine blk_alloc ?_ _)); exact BK214.out⟩, ⟨by (with_reducible repeat (first | refine blk_drewN ?_ _ | refine blk_drew ?_ | refine blk_alloc ?_ _)); refine blk_far ?_ NB215_233.out _; (with_reducible repeat (first | refine blk_drewN ?_ _ | refine blk_drew ?_ | refine blk_alloc ?_ _)); refine blk_far ?_ NB215_233.out _; (with_reducible repeat (first | refine blk_drewN ?_ _ | refine blk_drew ?_ | refine blk_alloc ?_ _)); refine blk_far ?_ NB215_233.out _; (with_reducible repeat (first | refine blk_drewN ?_ _ | refine blk_drew ?_ | refine blk_alloc ?_ _)); refine blk_far ?_ NB215_233.out _; (with_reducible repeat (first | refine blk_drewN ?_ _ | refine blk_drew ?_ | refine blk_alloc ?_ _)); exact BK215.out⟩, ⟨by (with_reducible repeat (first | refine blk_drewN ?_ _ | refine blk_drew ?_ | refine blk_alloc ?_ _)); refine blk_far ?_ NB220_233.out _; (with_reducible repeat (first | refine blk_drewN ?_ _ | refine blk_drew ?_ | refine blk_alloc ?_ _)); refine blk_far ?_ NB220_233.out _; (with_reducible repeat (first | refine blk_drewN ?_ _ | refine blk_drew ?_ | refine blk_alloc ?_ _)); refine blk_far ?_ NB220_233.out _; (with_reducible repeat (first | refine blk_drewN ?_ _ | refine blk_drew ?_ | refine blk_alloc ?_ _)); refine blk_far ?_ NB220_233.out _; (with_reducible repeat (first | refine blk_drewN ?_ _ | refine blk_drew ?_ | refine blk_alloc ?_ _)); exact BK220.out⟩, ⟨by (with_reducible repeat (first | refine blk_drewN ?_ _ | refine blk_drew ?_ | refine blk_alloc ?_ _)); refine blk_far ?_ NB221_233.out _; (with_reducible repeat (first | refine blk_drewN ?_ _ | refine blk_drew ?_ | refine blk_alloc ?_ _)); refine blk_far ?_ NB221_233.out _; (with_reducible repeat (first | refine blk_drewN ?_ _ | refine blk_drew ?_ | refine blk_alloc ?_ _)); refine blk_far ?_ NB221_233.out _; (with_reducible repeat (first | refine blk_drewN ?_ _ | refine blk_drew ?_ | refine blk_alloc ?_ _)); refine blk_far ?_ NB221_233.out _; (with_reducible repeat (first | refine blk_drewN ?_ _ | refine blk_drew ?_ | refine blk_alloc ?_ _)); exact BK221.out⟩, ⟨by (with_reducible repeat (first | refine blk_drewN ?_ _ | refine blk_drew ?_ | refine blk_alloc ?_ _)); refine blk_far ?_ NB227_233.out _; (with_reducible repeat (first | refine blk_drewN ?_ _ | refine blk_drew ?_ | refine blk_alloc ?_ _)); refine blk_far ?_ NB227_233.out _; (with_reducible repeat (first | refine blk_drewN ?_ _ | refine blk_drew ?_ | refine blk_alloc ?_ _)); refine blk_far ?_ NB227_233.out _; (with_reducible repeat (first | refine blk_drewN ?_ _ | refine blk_drew ?_ | refine blk_alloc ?_ _)); refine blk_far ?_ NB227_233.out _; (with_reducible repeat (first | refine blk_drewN ?_ _ | refine blk_drew ?_ | refine blk_alloc ?_ _)); exact BK227.out⟩, ⟨by (with_reducible repeat (first | refine blk_drewN ?_ _ | refine blk_drew ?_ | refine blk_alloc ?_ _)); refine blk_put (cs := #[.int .i64 t243, .int .i64 t244, .int .i64 t245, .int .i64 t231]) ?_ 3 _ rfl; (with_reducible repeat (first | refine blk_drewN ?_ _ | refine blk_drew ?_ | refine blk_alloc ?_ _)); refine blk_put (cs := #[.int .i64 t243, .int .i64 t244, .int .i64 t230, .int .i64 t231]) ?_ 2 _ rfl; (with_reducible repeat (first | refine blk_drewN ?_ _ | refine blk_drew ?_ | refine blk_alloc ?_ _)); refine blk_put (cs := #[.int .i64 t243, .int .i64 t229, .int .i64 t230, .int .i64 t231]) ?_ 1 _ rfl; (with_reducible repeat (first | refine blk_drewN ?_ _ | refine blk_drew ?_ | refine blk_alloc ?_ _)); refine blk_put (cs := #[.int .i64 t228, .int .i64 t229, .int .i64 t230, .int .i64 t231]) ?_ 0 _ rfl; (with_reducible repeat (first | refine blk_drewN ?_ _ | refine blk_drew ?_ | refine blk_alloc ?_ _)); exact BK233.out⟩, ⟨by repeat (first | (with_reducible first | exact HB.out | apply below_alloc | apply pw_below_drewN | apply below_drew1 | refine below_set ?_ GE214.out | refine below_set ?_ GE215.out | refine below_set ?_ GE220.out | refine below_set ?_ GE221.out | refine below_set ?_ GE227.out | refine below_set ?_ GE233.out) | exact HB.out)⟩⟩
        case rest =>
          clear HC76
          try clear c1
          try clear c2
          try clear p2
          try clear c4
          try clear c5
          try clear c7
          try clear c8
          try clear c9
          try clear c10
          try clear c11
          try clear c15
          try clear c16
          try clear c21
          try clear c23
          try clear c24
          try clear c25
          try clear c48
          try clear c57
          try clear c57b0
          try clear c57b1
          try clear c73
          try clear c77
          try clear c78
          try clear c79
          try clear c80
          try clear c81
          try clear c83
          try clear c84
          try clear c85
          try clear c86
          try clear c89
          try clear c90
          try clear c91
          try clear c93
          try clear c94
          try clear c98
          try clear c100
          try clear c100b0
          try clear c100b1
          try clear c102
          try clear c103
          try clear c104
          try clear c105
          try clear c106
          try clear c108
          try clear c109
          try clear c110
          try clear c111
          try clear hcz107_0
          try clear hcz107_1
          try clear hcz107_2
          try clear hcz107_3
          try clear hcz112_0
          try clear hcz112_1
          try clear hcz112_2
          try clear hcz112_3
          try clear hcz82_0
          try clear hcz82_1
          try clear hcz82_2
          try clear hcz82_3
          try clear hcz87_0
          try clear hcz87_1
          try clear hcz87_2
          try clear hcz87_3
          try clear hcz87_4
          try clear hcz92_0
          try clear hcz92_1
          try clear hcz92_2
          try clear hcz92_3
          try clear hcz95_0
          try clear hcz95_1
          try clear hcz95_2
          try clear hcz95_3
          try clear hcz96_0
          try clear hcz96_1
          try clear hcz96_2
          try clear hcz96_3
          try clear hcz96_4
          try clear hcz99_0
          try clear hcz99_1
          try clear hcz99_2
          try clear hcz99_3
          try clear hfz107_0
          try clear hfz107_1
          try clear hfz107_2
          try clear hfz107_3
          try clear hfz112_0
          try clear hfz112_1
          try clear hfz112_2
          try clear hfz112_3
          try clear hfz82_0
          try clear hfz82_1
          try clear hfz82_2
          try clear hfz82_3
          try clear hfz87_0
          try clear hfz87_1
          try clear hfz87_2
          try clear hfz87_3
          try clear hfz87_4
          try clear hfz92_0
          try clear hfz92_1
          try clear hfz92_2
          try clear hfz92_3
          try clear hfz95_0
          try clear hfz95_1
          try clear hfz95_2
          try clear hfz95_3
          try clear hfz96_0
          try clear hfz96_1
          try clear hfz96_2
          try clear hfz96_3
          try clear hfz96_4
          try clear hfz99_0
          try clear hfz99_1
          try clear hfz99_2
          try clear hfz99_3
          try clear p2
          obtain ⟨kq, x78_75, rfl, HA, HJ75, BK214, BK215, BK220, BK221, BK227, BK233, HB⟩ := hcut
          cases kq with
          | zero => exact absurd HA.out (by simp [precinctlaw14_NodeSteps.j1])
          | succ kj75 =>
            have H := HA.out
            clear HA
            simp only [precinctlaw14_NodeSteps.j1] at H
            by_cases c114 : x78_75 = true
            · subst c114
              have H1 : (some false) = some r := by rw [if_pos rfl] at H; exact H
              clear H
              have H := H1
              clear H1
              exact absurd ((Option.some.inj H).trans hT_.out) (by decide)
            · replace c114 := Bool.eq_false_iff.mpr c114
              subst c114
              have H1 : ((node_State_Lease.f t216 t217 t218 t219 a1_0 a1_1).bind fun bt249 => ((precinctref14_Lease.f a0_0 a0_1 a0_2 a0_3 a1_0 a1_1).bind fun bt254 => (if bt249.2.2.2.2 = bt254.2.2.2.2 then ((precinctlaw14_is.f bt249.1 bt249.2.1 bt249.2.2.1 bt249.2.2.2.1 bt254.1 bt254.2.1 bt254.2.2.1 bt254.2.2.2.1).bind fun t259 => (precinctlaw14_NodeSteps.j2 kj75 (!t259) a1_0 a1_1 a1_2 a1_3 a1_4 t216 t217 t218 t219 a0_0 a0_1 a0_2 a0_3)) else (precinctlaw14_NodeSteps.j2 kj75 true a1_0 a1_1 a1_2 a1_3 a1_4 t216 t217 t218 t219 a0_0 a0_1 a0_2 a0_3)))) = some r := by rw [if_neg (show ¬ (false = true) by decide)] at H; exact H
              clear H
              have H := H1
              clear H1
              replace H := Option.bind_eq_some_iff.mp H
              obtain ⟨⟨t249, t250, t251, t252, t253⟩, A1150, H⟩ := H
              replace H : ((precinctref14_Lease.f a0_0 a0_1 a0_2 a0_3 a1_0 a1_1).bind fun bt254 => (if t253 = bt254.2.2.2.2 then ((precinctlaw14_is.f t249 t250 t251 t252 bt254.1 bt254.2.1 bt254.2.2.1 bt254.2.2.2.1).bind fun t259 => (precinctlaw14_NodeSteps.j2 kj75 (!t259) a1_0 a1_1 a1_2 a1_3 a1_4 t216 t217 t218 t219 a0_0 a0_1 a0_2 a0_3)) else (precinctlaw14_NodeSteps.j2 kj75 true a1_0 a1_1 a1_2 a1_3 a1_4 t216 t217 t218 t219 a0_0 a0_1 a0_2 a0_3))) = some r := H
              have A115 := Aside0.mk A1150
              clear A1150
              replace H := Option.bind_eq_some_iff.mp H
              obtain ⟨⟨t254, t255, t256, t257, t258⟩, A1160, H⟩ := H
              replace H : (if t253 = t258 then ((precinctlaw14_is.f t249 t250 t251 t252 t254 t255 t256 t257).bind fun t259 => (precinctlaw14_NodeSteps.j2 kj75 (!t259) a1_0 a1_1 a1_2 a1_3 a1_4 t216 t217 t218 t219 a0_0 a0_1 a0_2 a0_3)) else (precinctlaw14_NodeSteps.j2 kj75 true a1_0 a1_1 a1_2 a1_3 a1_4 t216 t217 t218 t219 a0_0 a0_1 a0_2 a0_3)) = some r := H
              have A116 := Aside0.mk A1160
              clear A1160
              have HC117 := Aside0.mk H
              clear H
              have hnb118 := NB220_214.out
              have hnc118 := NB214_220.out
              have hnb119 := NB220_215.out
              have hnc119 := NB215_220.out
              have hnb120 := NB220_221.out
              have hnc120 := NB221_220.out
              have hnb121 := NB220_227.out
              have hnc121 := NB227_220.out
              have hnb122 := NB220_233.out
              have hnc122 := NB233_220.out
              have hcz123_0 : wc.cell? ⟨gb220, 0, none⟩ = some (.int .i64 t216) := (blk_cell BK220.out 0).trans rfl
              have hcz123_1 : wc.cell? ⟨gb220, 1, none⟩ = some (.int .i64 t217) := (blk_cell BK220.out 1).trans rfl
              have hcz123_2 : wc.cell? ⟨gb220, 2, none⟩ = some (.int .i64 t218) := (blk_cell BK220.out 2).trans rfl
              have hcz123_3 : wc.cell? ⟨gb220, 3, none⟩ = some (.int .i64 t219) := (blk_cell BK220.out 3).trans rfl
              have hfz123_0 := blk_frozen BK220.out 0
              have hfz123_1 := blk_frozen BK220.out 1
              have hfz123_2 := blk_frozen BK220.out 2
              have hfz123_3 := blk_frozen BK220.out 3
              have hnb124 := NB215_214.out
              have hnc124 := NB214_215.out
              have hnb125 := NB215_221.out
              have hnc125 := NB221_215.out
              have hnb126 := NB215_227.out
              have hnc126 := NB227_215.out
              have hnb127 := NB215_233.out
              have hnc127 := NB233_215.out
              have hcz128_0 : wc.cell? ⟨gb215, 0, none⟩ = some (.int .i64 a1_0) := (blk_cell BK215.out 0).trans rfl
              have hcz128_1 : wc.cell? ⟨gb215, 1, none⟩ = some (.int .i64 a1_1) := (blk_cell BK215.out 1).trans rfl
              have hcz128_2 : wc.cell? ⟨gb215, 2, none⟩ = some (.int .i64 a1_2) := (blk_cell BK215.out 2).trans rfl
              have hcz128_3 : wc.cell? ⟨gb215, 3, none⟩ = some (.int .i64 a1_3) := (blk_cell BK215.out 3).trans rfl
              have hcz128_4 : wc.cell? ⟨gb215, 4, none⟩ = some (.bool a1_4) := (blk_cell BK215.out 4).trans rfl
              have hfz128_0 := blk_frozen BK215.out 0
              have hfz128_1 := blk_frozen BK215.out 1
              have hfz128_2 := blk_frozen BK215.out 2
              have hfz128_3 := blk_frozen BK215.out 3
              have hfz128_4 := blk_frozen BK215.out 4
              go_upto_region 12 with (first | ((with_reducible refine gate_callee (f := 20) rfl ?_); refine goesL_ (some 85) rfl rfl Try.func20 (by kernel_rfl) rfl #[.agg #[.int .i64 t216, .int .i64 t217, .int .i64 t218, .int .i64 t219], .int .i64 a1_0, .int .i64 a1_1] rfl (by (try simp only [List.map_toArray, List.map_cons, List.map_nil]); first | done | rfl | (simp only [List.length_drop, List.length_take]; rfl)) ?_; (with_reducible refine (node_State_Lease.calls t216 t217 t218 t219 a1_0 a1_1 t249 t250 t251 t252 t253 _ A115.out).mono ?_); rintro e w129 ⟨rfl, hb⟩; refine ⟨_, rfl, ?_⟩; have n0_ := Aside0.mk (blk_below (rb BK214.out) hb); have n1_ := Aside0.mk (blk_below (rb BK215.out) hb); have n2_ := Aside0.mk (blk_below (rb BK220.out) hb); have n3_ := Aside0.mk (blk_below (rb BK221.out) hb); have n4_ := Aside0.mk (blk_below (rb BK227.out) hb); have n5_ := Aside0.mk (blk_below (rb BK233.out) hb); have n6_ := Aside0.mk (below_step (by repeat (first | (with_reducible first | exact HB.out | apply below_alloc | apply pw_below_drewN | apply below_drew1 | refine below_set ?_ GE214.out | refine below_set ?_ GE215.out | refine below_set ?_ GE220.out | refine below_set ?_ GE221.out | refine below_set ?_ GE227.out | refine below_set ?_ GE233.out) | exact HB.out)) hb); clear BK214; clear BK215; clear BK220; clear BK221; clear BK227; clear BK233; clear HB; have BK214 := n0_; have BK215 := n1_; have BK220 := n2_; have BK221 := n3_; have BK227 := n4_; have BK233 := n5_; have HB := n6_; clear n0_ n1_ n2_ n3_ n4_ n5_ n6_; (try clear hb); (try clear hb2); (try clear hk); (try clear hi); have hnb130 := NB227_214.out; have hnc130 := NB214_227.out; have hnb131 := NB227_221.out; have hnc131 := NB221_227.out; have hnb132 := NB227_233.out; have hnc132 := NB233_227.out; have hcz133_0 : w129.cell? ⟨gb227, 0, none⟩ = some (.int .i64 t238) := (blk_cell BK227.out 0).trans rfl; have hcz133_1 : w129.cell? ⟨gb227, 1, none⟩ = some (.int .i64 t239) := (blk_cell BK227.out 1).trans rfl; have hcz133_2 : w129.cell? ⟨gb227, 2, none⟩ = some (.int .i64 t240) := (blk_cell BK227.out 2).trans rfl; have hcz133_3 : w129.cell? ⟨gb227, 3, none⟩ = some (.int .i64 t241) := (blk_cell BK227.out 3).trans rfl; have hfz133_0 := blk_frozen BK227.out 0; have hfz133_1 := blk_frozen BK227.out 1; have hfz133_2 := blk_frozen BK227.out 2; have hfz133_3 := blk_frozen BK227.out 3; have hnb134 := NB221_214.out; have hnc134 := NB214_221.out; have hnb135 := NB221_233.out; have hnc135 := NB233_221.out; have hcz136_0 : w129.cell? ⟨gb221, 0, none⟩ = some (.int .i64 a0_0) := (blk_cell BK221.out 0).trans rfl; have hcz136_1 : w129.cell? ⟨gb221, 1, none⟩ = some (.int .i64 a0_1) := (blk_cell BK221.out 1).trans rfl; have hcz136_2 : w129.cell? ⟨gb221, 2, none⟩ = some (.int .i64 a0_2) := (blk_cell BK221.out 2).trans rfl; have hcz136_3 : w129.cell? ⟨gb221, 3, none⟩ = some (.int .i64 a0_3) := (blk_cell BK221.out 3).trans rfl; have hfz136_0 := blk_frozen BK221.out 0; have hfz136_1 := blk_frozen BK221.out 1; have hfz136_2 := blk_frozen BK221.out 2; have hfz136_3 := blk_frozen BK221.out 3; have hcz137_0 : w129.cell? ⟨gb215, 0, none⟩ = some (.int .i64 a1_0) := (blk_cell BK215.out 0).trans rfl; have hcz137_1 : w129.cell? ⟨gb215, 1, none⟩ = some (.int .i64 a1_1) := (blk_cell BK215.out 1).trans rfl; have hcz137_2 : w129.cell? ⟨gb215, 2, none⟩ = some (.int .i64 a1_2) := (blk_cell BK215.out 2).trans rfl; have hcz137_3 : w129.cell? ⟨gb215, 3, none⟩ = some (.int .i64 a1_3) := (blk_cell BK215.out 3).trans rfl; have hcz137_4 : w129.cell? ⟨gb215, 4, none⟩ = some (.bool a1_4) := (blk_cell BK215.out 4).trans rfl; have hfz137_0 := blk_frozen BK215.out 0; have hfz137_1 := blk_frozen BK215.out 1; have hfz137_2 := blk_frozen BK215.out 2; have hfz137_3 := blk_frozen BK215.out 3; have hfz137_4 := blk_frozen BK215.out 4) | ((with_reducible refine gate_callee (f := 26) rfl ?_); refine goesL_ (some 94) rfl rfl Try.func26 (by kernel_rfl) rfl #[.agg #[.int .i64 a0_0, .int .i64 a0_1, .int .i64 a0_2, .int .i64 a0_3], .int .i64 a1_0, .int .i64 a1_1] rfl (by (try simp only [List.map_toArray, List.map_cons, List.map_nil]); first | done | rfl | (simp only [List.length_drop, List.length_take]; rfl)) ?_; (with_reducible refine (precinctref14_Lease.calls a0_0 a0_1 a0_2 a0_3 a1_0 a1_1 t254 t255 t256 t257 t258 _ A116.out).mono ?_); rintro e w138 ⟨rfl, hb⟩; refine ⟨_, rfl, ?_⟩; have n0_ := Aside0.mk (blk_below (rb (blk_far (rb (blk_far (rb (blk_far (rb (blk_far (rb BK214.out) NB214_227.out _)) NB214_227.out _)) NB214_227.out _)) NB214_227.out _)) hb); have n1_ := Aside0.mk (blk_below (rb (blk_far (rb (blk_far (rb (blk_far (rb (blk_far (rb BK215.out) NB215_227.out _)) NB215_227.out _)) NB215_227.out _)) NB215_227.out _)) hb); have n2_ := Aside0.mk (blk_below (rb (blk_far (rb (blk_far (rb (blk_far (rb (blk_far (rb BK220.out) NB220_227.out _)) NB220_227.out _)) NB220_227.out _)) NB220_227.out _)) hb); have n3_ := Aside0.mk (blk_below (rb (blk_far (rb (blk_far (rb (blk_far (rb (blk_far (rb BK221.out) NB221_227.out _)) NB221_227.out _)) NB221_227.out _)) NB221_227.out _)) hb); have n4_ := Aside0.mk (blk_below (rb (blk_put (cs := #[.int .i64 t249, .int .i64 t250, .int .i64 t251, .int .i64 t241]) (rb (blk_put (cs := #[.int .i64 t249, .int .i64 t250, .int .i64 t240, .int .i64 t241]) (rb (blk_put (cs := #[.int .i64 t249, .int .i64 t239, .int .i64 t240, .int .i64 t241]) (rb (blk_put (cs := #[.int .i64 t238, .int .i64 t239, .int .i64 t240, .int .i64 t241]) (rb BK227.out) 0 _ rfl)) 1 _ rfl)) 2 _ rfl)) 3 _ rfl)) hb); have n5_ := Aside0.mk (blk_below (rb (blk_far (rb (blk_far (rb (blk_far (rb (blk_far (rb BK233.out) NB233_227.out _)) NB233_227.out _)) NB233_227.out _)) NB233_227.out _)) hb); have n6_ := Aside0.mk (below_step (by repeat (first | (with_reducible first | exact HB.out | apply below_alloc | apply pw_below_drewN | apply below_drew1 | refine below_set ?_ GE214.out | refine below_set ?_ GE215.out | refine below_set ?_ GE220.out | refine below_set ?_ GE221.out | refine below_set ?_ GE227.out | refine below_set ?_ GE233.out) | exact HB.out)) hb); clear BK214; clear BK215; clear BK220; clear BK221; clear BK227; clear BK233; clear HB; have BK214 := n0_; have BK215 := n1_; have BK220 := n2_; have BK221 := n3_; have BK227 := n4_; have BK233 := n5_; have HB := n6_; clear n0_ n1_ n2_ n3_ n4_ n5_ n6_; (try clear hb); (try clear hb2); (try clear hk); (try clear hi); have hnb139 := NB233_214.out; have hnc139 := NB214_233.out; have hcz140_0 : w138.cell? ⟨gb233, 0, none⟩ = some (.int .i64 t243) := (blk_cell BK233.out 0).trans rfl; have hcz140_1 : w138.cell? ⟨gb233, 1, none⟩ = some (.int .i64 t244) := (blk_cell BK233.out 1).trans rfl; have hcz140_2 : w138.cell? ⟨gb233, 2, none⟩ = some (.int .i64 t245) := (blk_cell BK233.out 2).trans rfl; have hcz140_3 : w138.cell? ⟨gb233, 3, none⟩ = some (.int .i64 t246) := (blk_cell BK233.out 3).trans rfl; have hfz140_0 := blk_frozen BK233.out 0; have hfz140_1 := blk_frozen BK233.out 1; have hfz140_2 := blk_frozen BK233.out 2; have hfz140_3 := blk_frozen BK233.out 3))
              (try simp only [Act.put, List.setIfInBounds_toArray, List.set_cons_zero, List.set_cons_succ])
              go_cut [105] (fun v105 wc => ∃ (kq : Nat) (x105_116 : Bool), v105 = .bool x105_116 ∧ Aside0 (precinctlaw14_NodeSteps.j2 kq x105_116 a1_0 a1_1 a1_2 a1_3 a1_4 t216 t217 t218 t219 a0_0 a0_1 a0_2 a0_3 = some r) ∧ Aside0 (kq ≤ kj75) ∧ Aside0 (wc.heap[gb214]? = some (.cells #[.int .i64 a0_0, .int .i64 a0_1, .int .i64 a0_2, .int .i64 a0_3] 26 (0, 0))) ∧ Aside0 (wc.heap[gb215]? = some (.cells #[.int .i64 a1_0, .int .i64 a1_1, .int .i64 a1_2, .int .i64 a1_3, .bool a1_4] 28 (0, 0))) ∧ Aside0 (wc.heap[gb220]? = some (.cells #[.int .i64 t216, .int .i64 t217, .int .i64 t218, .int .i64 t219] 32 (0, 0))) ∧ Aside0 (wc.heap[gb221]? = some (.cells #[.int .i64 a0_0, .int .i64 a0_1, .int .i64 a0_2, .int .i64 a0_3] 37 (0, 0))) ∧ Aside0 (wc.heap[gb227]? = some (.cells #[.int .i64 t249, .int .i64 t250, .int .i64 t251, .int .i64 t252] 32 (0, 0))) ∧ Aside0 (wc.heap[gb233]? = some (.cells #[.int .i64 t254, .int .i64 t255, .int .i64 t256, .int .i64 t257] 37 (0, 0))) ∧ Aside0 (Below w.heap.size w wc))
              case first =>
                have H := HC117.out
                clear HC117
                by_cases c141 : t253 = t258
                · rw [if_pos c141] at H
                  have c141b0 : (t253 == t258) = true := beq_iff_eq.mpr c141
                  have c141b1 : (t253 != t258) = false := bne_eq_false_iff_eq.mpr c141
                  clear c141
                  (first | rw [c141b0] | (simp only [i64_w, i32_w]; rw [c141b0]) | skip)
                  replace H := Option.bind_eq_some_iff.mp H
                  obtain ⟨t259, A1420, H⟩ := H
                  replace H : (precinctlaw14_NodeSteps.j2 kj75 (!t259) a1_0 a1_1 a1_2 a1_3 a1_4 t216 t217 t218 t219 a0_0 a0_1 a0_2 a0_3) = some r := H
                  have A142 := Aside0.mk A1420
                  clear A1420
                  have H' := Aside0.mk H
                  clear H
                  have hnb143 := NB227_214.out
                  have hnc143 := NB214_227.out
                  have hnb144 := NB227_215.out
                  have hnc144 := NB215_227.out
                  have hnb145 := NB227_220.out
                  have hnc145 := NB220_227.out
                  have hnb146 := NB227_221.out
                  have hnc146 := NB221_227.out
                  have hnb147 := NB227_233.out
                  have hnc147 := NB233_227.out
                  have hcz148_0 : w138.cell? ⟨gb227, 0, none⟩ = some (.int .i64 t249) := (blk_cell BK227.out 0).trans rfl
                  have hcz148_1 : w138.cell? ⟨gb227, 1, none⟩ = some (.int .i64 t250) := (blk_cell BK227.out 1).trans rfl
                  have hcz148_2 : w138.cell? ⟨gb227, 2, none⟩ = some (.int .i64 t251) := (blk_cell BK227.out 2).trans rfl
                  have hcz148_3 : w138.cell? ⟨gb227, 3, none⟩ = some (.int .i64 t252) := (blk_cell BK227.out 3).trans rfl
                  have hfz148_0 := blk_frozen BK227.out 0
                  have hfz148_1 := blk_frozen BK227.out 1
                  have hfz148_2 := blk_frozen BK227.out 2
                  have hfz148_3 := blk_frozen BK227.out 3
                  have hnb149 := NB233_214.out
                  have hnc149 := NB214_233.out
                  have hnb150 := NB233_215.out
                  have hnc150 := NB215_233.out
                  have hnb151 := NB233_220.out
                  have hnc151 := NB220_233.out
                  have hnb152 := NB233_221.out
                  have hnc152 := NB221_233.out
                  have hcz153_0 : w138.cell? ⟨gb233, 0, none⟩ = some (.int .i64 t243) := (blk_cell BK233.out 0).trans rfl
                  have hcz153_1 : w138.cell? ⟨gb233, 1, none⟩ = some (.int .i64 t244) := (blk_cell BK233.out 1).trans rfl
                  have hcz153_2 : w138.cell? ⟨gb233, 2, none⟩ = some (.int .i64 t245) := (blk_cell BK233.out 2).trans rfl
                  have hcz153_3 : w138.cell? ⟨gb233, 3, none⟩ = some (.int .i64 t246) := (blk_cell BK233.out 3).trans rfl
                  have hfz153_0 := blk_frozen BK233.out 0
                  have hfz153_1 := blk_frozen BK233.out 1
                  have hfz153_2 := blk_frozen BK233.out 2
                  have hfz153_3 := blk_frozen BK233.out 3
                  go_wp2_with (first | (go_at_call 15; (with_reducible refine (precinctlaw14_is.calls t249 t250 t251 t252 t254 t255 t256 t257 t259 _ A142.out).mono ?_); rintro e w154 ⟨rfl, hb⟩; have n0_ := Aside0.mk (blk_below (rb (blk_far (rb (blk_far (rb (blk_far (rb (blk_far (rb BK214.out) NB214_233.out _)) NB214_233.out _)) NB214_233.out _)) NB214_233.out _)) hb); have n1_ := Aside0.mk (blk_below (rb (blk_far (rb (blk_far (rb (blk_far (rb (blk_far (rb BK215.out) NB215_233.out _)) NB215_233.out _)) NB215_233.out _)) NB215_233.out _)) hb); have n2_ := Aside0.mk (blk_below (rb (blk_far (rb (blk_far (rb (blk_far (rb (blk_far (rb BK220.out) NB220_233.out _)) NB220_233.out _)) NB220_233.out _)) NB220_233.out _)) hb); have n3_ := Aside0.mk (blk_below (rb (blk_far (rb (blk_far (rb (blk_far (rb (blk_far (rb BK221.out) NB221_233.out _)) NB221_233.out _)) NB221_233.out _)) NB221_233.out _)) hb); have n4_ := Aside0.mk (blk_below (rb (blk_far (rb (blk_far (rb (blk_far (rb (blk_far (rb BK227.out) NB227_233.out _)) NB227_233.out _)) NB227_233.out _)) NB227_233.out _)) hb); have n5_ := Aside0.mk (blk_below (rb (blk_put (cs := #[.int .i64 t254, .int .i64 t255, .int .i64 t256, .int .i64 t246]) (rb (blk_put (cs := #[.int .i64 t254, .int .i64 t255, .int .i64 t245, .int .i64 t246]) (rb (blk_put (cs := #[.int .i64 t254, .int .i64 t244, .int .i64 t245, .int .i64 t246]) (rb (blk_put (cs := #[.int .i64 t243, .int .i64 t244, .int .i64 t245, .int .i64 t246]) (rb BK233.out) 0 _ rfl)) 1 _ rfl)) 2 _ rfl)) 3 _ rfl)) hb); have n6_ := Aside0.mk (below_step (by repeat (first | (with_reducible first | exact HB.out | apply below_alloc | apply pw_below_drewN | apply below_drew1 | refine below_set ?_ GE214.out | refine below_set ?_ GE215.out | refine below_set ?_ GE220.out | refine below_set ?_ GE221.out | refine below_set ?_ GE227.out | refine below_set ?_ GE233.out) | exact HB.out)) hb); clear BK214; clear BK215; clear BK220; clear BK221; clear BK227; clear BK233; clear HB; have BK214 := n0_; have BK215 := n1_; have BK220 := n2_; have BK221 := n3_; have BK227 := n4_; have BK233 := n5_; have HB := n6_; clear n0_ n1_ n2_ n3_ n4_ n5_ n6_; (try clear hb); (try clear hb2); (try clear hk); (try clear hi)))
                  go_meet
                  case rel => exact ⟨_, (!t259), (by first | rfl | (simp; done) | (simp [*]; done)), H', ⟨by have := HJ5.out; have := HJ75.out; first | omega | exact Nat.le_refl _⟩, ⟨by (with_reducible repeat (first | refine blk_drewN ?_ _ | refine blk_drew ?_ | refine blk_alloc ?_ _)); exact BK214.out⟩, ⟨by (with_reducible repeat (first | refine blk_drewN ?_ _ | refine blk_drew ?_ | refine blk_alloc ?_ _)); exact BK215.out⟩, ⟨by (with_reducible repeat (first | refine blk_drewN ?_ _ | refine blk_drew ?_ | refine blk_alloc ?_ _)); exact BK220.out⟩, ⟨by (with_reducible repeat (first | refine blk_drewN ?_ _ | refine blk_drew ?_ | refine blk_alloc ?_ _)); exact BK221.out⟩, ⟨by (with_reducible repeat (first | refine blk_drewN ?_ _ | refine blk_drew ?_ | refine blk_alloc ?_ _)); exact BK227.out⟩, ⟨by (with_reducible repeat (first | refine blk_drewN ?_ _ | refine blk_drew ?_ | refine blk_alloc ?_ _)); exact BK233.out⟩, ⟨by repeat (first | (with_reducible first | exact HB.out | apply below_alloc | apply pw_below_drewN | apply below_drew1 | refine below_set ?_ GE214.out | refine below_set ?_ GE215.out | refine below_set ?_ GE220.out | refine below_set ?_ GE221.out | refine below_set ?_ GE227.out | refine below_set ?_ GE233.out) | exact HB.out)⟩⟩
                · rw [if_neg c141] at H
                  have c141b0 : (t253 == t258) = false := beq_eq_false_iff_ne.mpr c141
                  have c141b1 : (t253 != t258) = true := bne_iff_ne.mpr c141
                  (first | rw [c141b0] | (simp only [i64_w, i32_w]; rw [c141b0]) | skip)
                  have H' := Aside0.mk H
                  clear H
                  go_wp2
                  go_meet
                  case rel => exact ⟨_, (true), (by first | rfl | (simp; done) | (simp [*]; done)), H', ⟨by have := HJ5.out; have := HJ75.out; first | omega | exact Nat.le_refl _⟩, ⟨by (with_reducible repeat (first | refine blk_drewN ?_ _ | refine blk_drew ?_ | refine blk_alloc ?_ _)); refine blk_far ?_ NB214_233.out _; (with_reducible repeat (first | refine blk_drewN ?_ _ | refine blk_drew ?_ | refine blk_alloc ?_ _)); refine blk_far ?_ NB214_233.out _; (with_reducible repeat (first | refine blk_drewN ?_ _ | refine blk_drew ?_ | refine blk_alloc ?_ _)); refine blk_far ?_ NB214_233.out _; (with_reducible repeat (first | refine blk_drewN ?_ _ | refine blk_drew ?_ | refine blk_alloc ?_ _)); refine blk_far ?_ NB214_233.out _; (with_reducible repeat (first | refine blk_drewN ?_ _ | refine blk_drew ?_ | refine blk_alloc ?_ _)); exact BK214.out⟩, ⟨by (with_reducible repeat (first | refine blk_drewN ?_ _ | refine blk_drew ?_ | refine blk_alloc ?_ _)); refine blk_far ?_ NB215_233.out _; (with_reducible repeat (first | refine blk_drewN ?_ _ | refine blk_drew ?_ | refine blk_alloc ?_ _)); refine blk_far ?_ NB215_233.out _; (with_reducible repeat (first | refine blk_drewN ?_ _ | refine blk_drew ?_ | refine blk_alloc ?_ _)); refine blk_far ?_ NB215_233.out _; (with_reducible repeat (first | refine blk_drewN ?_ _ | refine blk_drew ?_ | refine blk_alloc ?_ _)); refine blk_far ?_ NB215_233.out _; (with_reducible repeat (first | refine blk_drewN ?_ _ | refine blk_drew ?_ | refine blk_alloc ?_ _)); exact BK215.out⟩, ⟨by (with_reducible repeat (first | refine blk_drewN ?_ _ | refine blk_drew ?_ | refine blk_alloc ?_ _)); refine blk_far ?_ NB220_233.out _; (with_reducible repeat (first | refine blk_drewN ?_ _ | refine blk_drew ?_ | refine blk_alloc ?_ _)); refine blk_far ?_ NB220_233.out _; (with_reducible repeat (first | refine blk_drewN ?_ _ | refine blk_drew ?_ | refine blk_alloc ?_ _)); refine blk_far ?_ NB220_233.out _; (with_reducible repeat (first | refine blk_drewN ?_ _ | refine blk_drew ?_ | refine blk_alloc ?_ _)); refine blk_far ?_ NB220_233.out _; (with_reducible repeat (first | refine blk_drewN ?_ _ | refine blk_drew ?_ | refine blk_alloc ?_ _)); exact BK220.out⟩, ⟨by (with_reducible repeat (first | refine blk_drewN ?_ _ | refine blk_drew ?_ | refine blk_alloc ?_ _)); refine blk_far ?_ NB221_233.out _; (with_reducible repeat (first | refine blk_drewN ?_ _ | refine blk_drew ?_ | refine blk_alloc ?_ _)); refine blk_far ?_ NB221_233.out _; (with_reducible repeat (first | refine blk_drewN ?_ _ | refine blk_drew ?_ | refine blk_alloc ?_ _)); refine blk_far ?_ NB221_233.out _; (with_reducible repeat (first | refine blk_drewN ?_ _ | refine blk_drew ?_ | refine blk_alloc ?_ _)); refine blk_far ?_ NB221_233.out _; (with_reducible repeat (first | refine blk_drewN ?_ _ | refine blk_drew ?_ | refine blk_alloc ?_ _)); exact BK221.out⟩, ⟨by (with_reducible repeat (first | refine blk_drewN ?_ _ | refine blk_drew ?_ | refine blk_alloc ?_ _)); refine blk_far ?_ NB227_233.out _; (with_reducible repeat (first | refine blk_drewN ?_ _ | refine blk_drew ?_ | refine blk_alloc ?_ _)); refine blk_far ?_ NB227_233.out _; (with_reducible repeat (first | refine blk_drewN ?_ _ | refine blk_drew ?_ | refine blk_alloc ?_ _)); refine blk_far ?_ NB227_233.out _; (with_reducible repeat (first | refine blk_drewN ?_ _ | refine blk_drew ?_ | refine blk_alloc ?_ _)); refine blk_far ?_ NB227_233.out _; (with_reducible repeat (first | refine blk_drewN ?_ _ | refine blk_drew ?_ | refine blk_alloc ?_ _)); exact BK227.out⟩, ⟨by (with_reducible repeat (first | refine blk_drewN ?_ _ | refine blk_drew ?_ | refine blk_alloc ?_ _)); refine blk_put (cs := #[.int .i64 t254, .int .i64 t255, .int .i64 t256, .int .i64 t246]) ?_ 3 _ rfl; (with_reducible repeat (first | refine blk_drewN ?_ _ | refine blk_drew ?_ | refine blk_alloc ?_ _)); refine blk_put (cs := #[.int .i64 t254, .int .i64 t255, .int .i64 t245, .int .i64 t246]) ?_ 2 _ rfl; (with_reducible repeat (first | refine blk_drewN ?_ _ | refine blk_drew ?_ | refine blk_alloc ?_ _)); refine blk_put (cs := #[.int .i64 t254, .int .i64 t244, .int .i64 t245, .int .i64 t246]) ?_ 1 _ rfl; (with_reducible repeat (first | refine blk_drewN ?_ _ | refine blk_drew ?_ | refine blk_alloc ?_ _)); refine blk_put (cs := #[.int .i64 t243, .int .i64 t244, .int .i64 t245, .int .i64 t246]) ?_ 0 _ rfl; (with_reducible repeat (first | refine blk_drewN ?_ _ | refine blk_drew ?_ | refine blk_alloc ?_ _)); exact BK233.out⟩, ⟨by repeat (first | (with_reducible first | exact HB.out | apply below_alloc | apply pw_below_drewN | apply below_drew1 | refine below_set ?_ GE214.out | refine below_set ?_ GE215.out | refine below_set ?_ GE220.out | refine below_set ?_ GE221.out | refine below_set ?_ GE227.out | refine below_set ?_ GE233.out) | exact HB.out)⟩⟩
              case rest =>
                clear HC117
                try clear c1
                try clear c2
                try clear p2
                try clear c4
                try clear c5
                try clear c7
                try clear c8
                try clear c9
                try clear c10
                try clear c11
                try clear c12
                try clear c13
                try clear c14
                try clear c15
                try clear c16
                try clear c20
                try clear c21
                try clear c23
                try clear c24
                try clear c25
                try clear c26
                try clear c48
                try clear c57
                try clear c57b0
                try clear c57b1
                try clear c73
                try clear c77
                try clear c78
                try clear c79
                try clear c80
                try clear c81
                try clear c83
                try clear c84
                try clear c85
                try clear c86
                try clear c89
                try clear c90
                try clear c91
                try clear c93
                try clear c94
                try clear c98
                try clear c100
                try clear c100b0
                try clear c100b1
                try clear c102
                try clear c103
                try clear c104
                try clear c105
                try clear c106
                try clear c108
                try clear c109
                try clear c110
                try clear c111
                try clear c114
                try clear c118
                try clear c119
                try clear c120
                try clear c121
                try clear c122
                try clear c124
                try clear c125
                try clear c126
                try clear c127
                try clear c130
                try clear c131
                try clear c132
                try clear c134
                try clear c135
                try clear c139
                try clear c141
                try clear c141b0
                try clear c141b1
                try clear c143
                try clear c144
                try clear c145
                try clear c146
                try clear c147
                try clear c149
                try clear c150
                try clear c151
                try clear c152
                try clear hcz107_0
                try clear hcz107_1
                try clear hcz107_2
                try clear hcz107_3
                try clear hcz112_0
                try clear hcz112_1
                try clear hcz112_2
                try clear hcz112_3
                try clear hcz123_0
                try clear hcz123_1
                try clear hcz123_2
                try clear hcz123_3
                try clear hcz128_0
                try clear hcz128_1
                try clear hcz128_2
                try clear hcz128_3
                try clear hcz128_4
                try clear hcz133_0
                try clear hcz133_1
                try clear hcz133_2
                try clear hcz133_3
                try clear hcz136_0
                try clear hcz136_1
                try clear hcz136_2
                try clear hcz136_3
                try clear hcz137_0
                try clear hcz137_1
                try clear hcz137_2
                try clear hcz137_3
                try clear hcz137_4
                try clear hcz140_0
                try clear hcz140_1
                try clear hcz140_2
                try clear hcz140_3
                try clear hcz148_0
                try clear hcz148_1
                try clear hcz148_2
                try clear hcz148_3
                try clear hcz153_0
                try clear hcz153_1
                try clear hcz153_2
                try clear hcz153_3
                try clear hcz82_0
                try clear hcz82_1
                try clear hcz82_2
                try clear hcz82_3
                try clear hcz87_0
                try clear hcz87_1
                try clear hcz87_2
                try clear hcz87_3
                try clear hcz87_4
                try clear hcz92_0
                try clear hcz92_1
                try clear hcz92_2
                try clear hcz92_3
                try clear hcz95_0
                try clear hcz95_1
                try clear hcz95_2
                try clear hcz95_3
                try clear hcz96_0
                try clear hcz96_1
                try clear hcz96_2
                try clear hcz96_3
                try clear hcz96_4
                try clear hcz99_0
                try clear hcz99_1
                try clear hcz99_2
                try clear hcz99_3
                try clear hfz107_0
                try clear hfz107_1
                try clear hfz107_2
                try clear hfz107_3
                try clear hfz112_0
                try clear hfz112_1
                try clear hfz112_2
                try clear hfz112_3
                try clear hfz123_0
                try clear hfz123_1
                try clear hfz123_2
                try clear hfz123_3
                try clear hfz128_0
                try clear hfz128_1
                try clear hfz128_2
                try clear hfz128_3
                try clear hfz128_4
                try clear hfz133_0
                try clear hfz133_1
                try clear hfz133_2
                try clear hfz133_3
                try clear hfz136_0
                try clear hfz136_1
                try clear hfz136_2
                try clear hfz136_3
                try clear hfz137_0
                try clear hfz137_1
                try clear hfz137_2
                try clear hfz137_3
                try clear hfz137_4
                try clear hfz140_0
                try clear hfz140_1
                try clear hfz140_2
                try clear hfz140_3
                try clear hfz148_0
                try clear hfz148_1
                try clear hfz148_2
                try clear hfz148_3
                try clear hfz153_0
                try clear hfz153_1
                try clear hfz153_2
                try clear hfz153_3
                try clear hfz82_0
                try clear hfz82_1
                try clear hfz82_2
                try clear hfz82_3
                try clear hfz87_0
                try clear hfz87_1
                try clear hfz87_2
                try clear hfz87_3
                try clear hfz87_4
                try clear hfz92_0
                try clear hfz92_1
                try clear hfz92_2
                try clear hfz92_3
                try clear hfz95_0
                try clear hfz95_1
                try clear hfz95_2
                try clear hfz95_3
                try clear hfz96_0
                try clear hfz96_1
                try clear hfz96_2
                try clear hfz96_3
                try clear hfz96_4
                try clear hfz99_0
                try clear hfz99_1
                try clear hfz99_2
                try clear hfz99_3
                try clear p2
                obtain ⟨kq, x105_116, rfl, HA, HJ116, BK214, BK215, BK220, BK221, BK227, BK233, HB⟩ := hcut
                cases kq with
                | zero => exact absurd HA.out (by simp [precinctlaw14_NodeSteps.j2])
                | succ kj116 =>
                  have H := HA.out
                  clear HA
                  simp only [precinctlaw14_NodeSteps.j2] at H
                  by_cases c155 : x105_116 = true
                  · subst c155
                    have H1 : (some false) = some r := by rw [if_pos rfl] at H; exact H
                    clear H
                    have H := H1
                    clear H1
                    exact absurd ((Option.some.inj H).trans hT_.out) (by decide)
                  · replace c155 := Bool.eq_false_iff.mpr c155
                    subst c155
                    have H1 : ((node_State_Answer.f kj116 t216 t217 t218 t219 a1_0 a1_4).bind fun bt260 => ((precinctref14_Answer.f kj116 a0_0 a0_1 a0_2 a0_3 a1_0 a1_4).bind fun bt265 => (if bt260.2.2.2.2 = bt265.2.2.2.2 then ((precinctlaw14_is.f bt260.1 bt260.2.1 bt260.2.2.1 bt260.2.2.2.1 bt265.1 bt265.2.1 bt265.2.2.1 bt265.2.2.2.1).bind fun t270 => (some t270)) else (some false)))) = some r := by rw [if_neg (show ¬ (false = true) by decide)] at H; exact H
                    clear H
                    have H := H1
                    clear H1
                    replace H := Option.bind_eq_some_iff.mp H
                    obtain ⟨⟨t260, t261, t262, t263, t264⟩, A1560, H⟩ := H
                    replace H : ((precinctref14_Answer.f kj116 a0_0 a0_1 a0_2 a0_3 a1_0 a1_4).bind fun bt265 => (if t264 = bt265.2.2.2.2 then ((precinctlaw14_is.f t260 t261 t262 t263 bt265.1 bt265.2.1 bt265.2.2.1 bt265.2.2.2.1).bind fun t270 => (some t270)) else (some false))) = some r := H
                    have A156 := Aside0.mk A1560
                    clear A1560
                    replace H := Option.bind_eq_some_iff.mp H
                    obtain ⟨⟨t265, t266, t267, t268, t269⟩, A1570, H⟩ := H
                    replace H : (if t264 = t269 then ((precinctlaw14_is.f t260 t261 t262 t263 t265 t266 t267 t268).bind fun t270 => (some t270)) else (some false)) = some r := H
                    have A157 := Aside0.mk A1570
                    clear A1570
                    by_cases c158 : t264 = t269
                    · rw [if_pos c158] at H
                      have c158b0 : (t264 == t269) = true := beq_iff_eq.mpr c158
                      have c158b1 : (t264 != t269) = false := bne_eq_false_iff_eq.mpr c158
                      clear c158
                      replace H := Option.bind_eq_some_iff.mp H
                      obtain ⟨t270, A1590, H⟩ := H
                      replace H : (some t270) = some r := H
                      have A159 := Aside0.mk A1590
                      clear A1590
                      obtain rfl := Option.some.inj H
                      have hnb160 := NB220_214.out
                      have hnc160 := NB214_220.out
                      have hnb161 := NB220_215.out
                      have hnc161 := NB215_220.out
                      have hnb162 := NB220_221.out
                      have hnc162 := NB221_220.out
                      have hnb163 := NB220_227.out
                      have hnc163 := NB227_220.out
                      have hnb164 := NB220_233.out
                      have hnc164 := NB233_220.out
                      have hcz165_0 : wc.cell? ⟨gb220, 0, none⟩ = some (.int .i64 t216) := (blk_cell BK220.out 0).trans rfl
                      have hcz165_1 : wc.cell? ⟨gb220, 1, none⟩ = some (.int .i64 t217) := (blk_cell BK220.out 1).trans rfl
                      have hcz165_2 : wc.cell? ⟨gb220, 2, none⟩ = some (.int .i64 t218) := (blk_cell BK220.out 2).trans rfl
                      have hcz165_3 : wc.cell? ⟨gb220, 3, none⟩ = some (.int .i64 t219) := (blk_cell BK220.out 3).trans rfl
                      have hfz165_0 := blk_frozen BK220.out 0
                      have hfz165_1 := blk_frozen BK220.out 1
                      have hfz165_2 := blk_frozen BK220.out 2
                      have hfz165_3 := blk_frozen BK220.out 3
                      have hnb166 := NB215_214.out
                      have hnc166 := NB214_215.out
                      have hnb167 := NB215_221.out
                      have hnc167 := NB221_215.out
                      have hnb168 := NB215_227.out
                      have hnc168 := NB227_215.out
                      have hnb169 := NB215_233.out
                      have hnc169 := NB233_215.out
                      have hcz170_0 : wc.cell? ⟨gb215, 0, none⟩ = some (.int .i64 a1_0) := (blk_cell BK215.out 0).trans rfl
                      have hcz170_1 : wc.cell? ⟨gb215, 1, none⟩ = some (.int .i64 a1_1) := (blk_cell BK215.out 1).trans rfl
                      have hcz170_2 : wc.cell? ⟨gb215, 2, none⟩ = some (.int .i64 a1_2) := (blk_cell BK215.out 2).trans rfl
                      have hcz170_3 : wc.cell? ⟨gb215, 3, none⟩ = some (.int .i64 a1_3) := (blk_cell BK215.out 3).trans rfl
                      have hcz170_4 : wc.cell? ⟨gb215, 4, none⟩ = some (.bool a1_4) := (blk_cell BK215.out 4).trans rfl
                      have hfz170_0 := blk_frozen BK215.out 0
                      have hfz170_1 := blk_frozen BK215.out 1
                      have hfz170_2 := blk_frozen BK215.out 2
                      have hfz170_3 := blk_frozen BK215.out 3
                      have hfz170_4 := blk_frozen BK215.out 4
                      go_wp2_with (first | ((with_reducible refine gate_callee (f := 27) rfl ?_); refine goesL_ (some 112) rfl rfl Try.func27 (by kernel_rfl) rfl #[.agg #[.int .i64 t216, .int .i64 t217, .int .i64 t218, .int .i64 t219], .int .i64 a1_0, .bool a1_4] rfl (by (try simp only [List.map_toArray, List.map_cons, List.map_nil]); first | done | rfl | (simp only [List.length_drop, List.length_take]; rfl)) ?_; (with_reducible refine (node_State_Answer.calls kj116 t216 t217 t218 t219 a1_0 a1_4 t260 t261 t262 t263 t264 _ A156.out).mono ?_); rintro e w171 ⟨rfl, hb⟩; refine ⟨_, rfl, ?_⟩; have n0_ := Aside0.mk (blk_below (rb BK214.out) hb); have n1_ := Aside0.mk (blk_below (rb BK215.out) hb); have n2_ := Aside0.mk (blk_below (rb BK220.out) hb); have n3_ := Aside0.mk (blk_below (rb BK221.out) hb); have n4_ := Aside0.mk (blk_below (rb BK227.out) hb); have n5_ := Aside0.mk (blk_below (rb BK233.out) hb); have n6_ := Aside0.mk (below_step (by repeat (first | (with_reducible first | exact HB.out | apply below_alloc | apply pw_below_drewN | apply below_drew1 | refine below_set ?_ GE214.out | refine below_set ?_ GE215.out | refine below_set ?_ GE220.out | refine below_set ?_ GE221.out | refine below_set ?_ GE227.out | refine below_set ?_ GE233.out) | exact HB.out)) hb); clear BK214; clear BK215; clear BK220; clear BK221; clear BK227; clear BK233; clear HB; have BK214 := n0_; have BK215 := n1_; have BK220 := n2_; have BK221 := n3_; have BK227 := n4_; have BK233 := n5_; have HB := n6_; clear n0_ n1_ n2_ n3_ n4_ n5_ n6_; (try clear hb); (try clear hb2); (try clear hk); (try clear hi); have hnb172 := NB227_214.out; have hnc172 := NB214_227.out; have hnb173 := NB227_221.out; have hnc173 := NB221_227.out; have hnb174 := NB227_233.out; have hnc174 := NB233_227.out; have hcz175_0 : w171.cell? ⟨gb227, 0, none⟩ = some (.int .i64 t249) := (blk_cell BK227.out 0).trans rfl; have hcz175_1 : w171.cell? ⟨gb227, 1, none⟩ = some (.int .i64 t250) := (blk_cell BK227.out 1).trans rfl; have hcz175_2 : w171.cell? ⟨gb227, 2, none⟩ = some (.int .i64 t251) := (blk_cell BK227.out 2).trans rfl; have hcz175_3 : w171.cell? ⟨gb227, 3, none⟩ = some (.int .i64 t252) := (blk_cell BK227.out 3).trans rfl; have hfz175_0 := blk_frozen BK227.out 0; have hfz175_1 := blk_frozen BK227.out 1; have hfz175_2 := blk_frozen BK227.out 2; have hfz175_3 := blk_frozen BK227.out 3; have hnb176 := NB221_214.out; have hnc176 := NB214_221.out; have hnb177 := NB221_233.out; have hnc177 := NB233_221.out; have hcz178_0 : w171.cell? ⟨gb221, 0, none⟩ = some (.int .i64 a0_0) := (blk_cell BK221.out 0).trans rfl; have hcz178_1 : w171.cell? ⟨gb221, 1, none⟩ = some (.int .i64 a0_1) := (blk_cell BK221.out 1).trans rfl; have hcz178_2 : w171.cell? ⟨gb221, 2, none⟩ = some (.int .i64 a0_2) := (blk_cell BK221.out 2).trans rfl; have hcz178_3 : w171.cell? ⟨gb221, 3, none⟩ = some (.int .i64 a0_3) := (blk_cell BK221.out 3).trans rfl; have hfz178_0 := blk_frozen BK221.out 0; have hfz178_1 := blk_frozen BK221.out 1; have hfz178_2 := blk_frozen BK221.out 2; have hfz178_3 := blk_frozen BK221.out 3; have hcz179_0 : w171.cell? ⟨gb215, 0, none⟩ = some (.int .i64 a1_0) := (blk_cell BK215.out 0).trans rfl; have hcz179_1 : w171.cell? ⟨gb215, 1, none⟩ = some (.int .i64 a1_1) := (blk_cell BK215.out 1).trans rfl; have hcz179_2 : w171.cell? ⟨gb215, 2, none⟩ = some (.int .i64 a1_2) := (blk_cell BK215.out 2).trans rfl; have hcz179_3 : w171.cell? ⟨gb215, 3, none⟩ = some (.int .i64 a1_3) := (blk_cell BK215.out 3).trans rfl; have hcz179_4 : w171.cell? ⟨gb215, 4, none⟩ = some (.bool a1_4) := (blk_cell BK215.out 4).trans rfl; have hfz179_0 := blk_frozen BK215.out 0; have hfz179_1 := blk_frozen BK215.out 1; have hfz179_2 := blk_frozen BK215.out 2; have hfz179_3 := blk_frozen BK215.out 3; have hfz179_4 := blk_frozen BK215.out 4) | ((with_reducible refine gate_callee (f := 28) rfl ?_); refine goesL_ (some 121) rfl rfl Try.func28 (by kernel_rfl) rfl #[.agg #[.int .i64 a0_0, .int .i64 a0_1, .int .i64 a0_2, .int .i64 a0_3], .int .i64 a1_0, .bool a1_4] rfl (by (try simp only [List.map_toArray, List.map_cons, List.map_nil]); first | done | rfl | (simp only [List.length_drop, List.length_take]; rfl)) ?_; (with_reducible refine (precinctref14_Answer.calls kj116 a0_0 a0_1 a0_2 a0_3 a1_0 a1_4 t265 t266 t267 t268 t269 _ A157.out).mono ?_); rintro e w180 ⟨rfl, hb⟩; refine ⟨_, rfl, ?_⟩; have n0_ := Aside0.mk (blk_below (rb (blk_far (rb (blk_far (rb (blk_far (rb (blk_far (rb BK214.out) NB214_227.out _)) NB214_227.out _)) NB214_227.out _)) NB214_227.out _)) hb); have n1_ := Aside0.mk (blk_below (rb (blk_far (rb (blk_far (rb (blk_far (rb (blk_far (rb BK215.out) NB215_227.out _)) NB215_227.out _)) NB215_227.out _)) NB215_227.out _)) hb); have n2_ := Aside0.mk (blk_below (rb (blk_far (rb (blk_far (rb (blk_far (rb (blk_far (rb BK220.out) NB220_227.out _)) NB220_227.out _)) NB220_227.out _)) NB220_227.out _)) hb); have n3_ := Aside0.mk (blk_below (rb (blk_far (rb (blk_far (rb (blk_far (rb (blk_far (rb BK221.out) NB221_227.out _)) NB221_227.out _)) NB221_227.out _)) NB221_227.out _)) hb); have n4_ := Aside0.mk (blk_below (rb (blk_put (cs := #[.int .i64 t260, .int .i64 t261, .int .i64 t262, .int .i64 t252]) (rb (blk_put (cs := #[.int .i64 t260, .int .i64 t261, .int .i64 t251, .int .i64 t252]) (rb (blk_put (cs := #[.int .i64 t260, .int .i64 t250, .int .i64 t251, .int .i64 t252]) (rb (blk_put (cs := #[.int .i64 t249, .int .i64 t250, .int .i64 t251, .int .i64 t252]) (rb BK227.out) 0 _ rfl)) 1 _ rfl)) 2 _ rfl)) 3 _ rfl)) hb); have n5_ := Aside0.mk (blk_below (rb (blk_far (rb (blk_far (rb (blk_far (rb (blk_far (rb BK233.out) NB233_227.out _)) NB233_227.out _)) NB233_227.out _)) NB233_227.out _)) hb); have n6_ := Aside0.mk (below_step (by repeat (first | (with_reducible first | exact HB.out | apply below_alloc | apply pw_below_drewN | apply below_drew1 | refine below_set ?_ GE214.out | refine below_set ?_ GE215.out | refine below_set ?_ GE220.out | refine below_set ?_ GE221.out | refine below_set ?_ GE227.out | refine below_set ?_ GE233.out) | exact HB.out)) hb); clear BK214; clear BK215; clear BK220; clear BK221; clear BK227; clear BK233; clear HB; have BK214 := n0_; have BK215 := n1_; have BK220 := n2_; have BK221 := n3_; have BK227 := n4_; have BK233 := n5_; have HB := n6_; clear n0_ n1_ n2_ n3_ n4_ n5_ n6_; (try clear hb); (try clear hb2); (try clear hk); (try clear hi); have hnb181 := NB233_214.out; have hnc181 := NB214_233.out; have hcz182_0 : w180.cell? ⟨gb233, 0, none⟩ = some (.int .i64 t254) := (blk_cell BK233.out 0).trans rfl; have hcz182_1 : w180.cell? ⟨gb233, 1, none⟩ = some (.int .i64 t255) := (blk_cell BK233.out 1).trans rfl; have hcz182_2 : w180.cell? ⟨gb233, 2, none⟩ = some (.int .i64 t256) := (blk_cell BK233.out 2).trans rfl; have hcz182_3 : w180.cell? ⟨gb233, 3, none⟩ = some (.int .i64 t257) := (blk_cell BK233.out 3).trans rfl; have hfz182_0 := blk_frozen BK233.out 0; have hfz182_1 := blk_frozen BK233.out 1; have hfz182_2 := blk_frozen BK233.out 2; have hfz182_3 := blk_frozen BK233.out 3; have hcz183_0 : w180.cell? ⟨gb227, 0, none⟩ = some (.int .i64 t260) := (blk_cell BK227.out 0).trans rfl; have hcz183_1 : w180.cell? ⟨gb227, 1, none⟩ = some (.int .i64 t261) := (blk_cell BK227.out 1).trans rfl; have hcz183_2 : w180.cell? ⟨gb227, 2, none⟩ = some (.int .i64 t262) := (blk_cell BK227.out 2).trans rfl; have hcz183_3 : w180.cell? ⟨gb227, 3, none⟩ = some (.int .i64 t263) := (blk_cell BK227.out 3).trans rfl; have hfz183_0 := blk_frozen BK227.out 0; have hfz183_1 := blk_frozen BK227.out 1; have hfz183_2 := blk_frozen BK227.out 2; have hfz183_3 := blk_frozen BK227.out 3) | (go_at_call 15; (with_reducible refine (precinctlaw14_is.calls t260 t261 t262 t263 t265 t266 t267 t268 t270 _ A159.out).mono ?_); rintro e w184 ⟨rfl, hb⟩; have n0_ := Aside0.mk (blk_below (rb (blk_far (rb (blk_far (rb (blk_far (rb (blk_far (rb BK214.out) NB214_233.out _)) NB214_233.out _)) NB214_233.out _)) NB214_233.out _)) hb); have n1_ := Aside0.mk (blk_below (rb (blk_far (rb (blk_far (rb (blk_far (rb (blk_far (rb BK215.out) NB215_233.out _)) NB215_233.out _)) NB215_233.out _)) NB215_233.out _)) hb); have n2_ := Aside0.mk (blk_below (rb (blk_far (rb (blk_far (rb (blk_far (rb (blk_far (rb BK220.out) NB220_233.out _)) NB220_233.out _)) NB220_233.out _)) NB220_233.out _)) hb); have n3_ := Aside0.mk (blk_below (rb (blk_far (rb (blk_far (rb (blk_far (rb (blk_far (rb BK221.out) NB221_233.out _)) NB221_233.out _)) NB221_233.out _)) NB221_233.out _)) hb); have n4_ := Aside0.mk (blk_below (rb (blk_far (rb (blk_far (rb (blk_far (rb (blk_far (rb BK227.out) NB227_233.out _)) NB227_233.out _)) NB227_233.out _)) NB227_233.out _)) hb); have n5_ := Aside0.mk (blk_below (rb (blk_put (cs := #[.int .i64 t265, .int .i64 t266, .int .i64 t267, .int .i64 t257]) (rb (blk_put (cs := #[.int .i64 t265, .int .i64 t266, .int .i64 t256, .int .i64 t257]) (rb (blk_put (cs := #[.int .i64 t265, .int .i64 t255, .int .i64 t256, .int .i64 t257]) (rb (blk_put (cs := #[.int .i64 t254, .int .i64 t255, .int .i64 t256, .int .i64 t257]) (rb BK233.out) 0 _ rfl)) 1 _ rfl)) 2 _ rfl)) 3 _ rfl)) hb); have n6_ := Aside0.mk (below_step (by repeat (first | (with_reducible first | exact HB.out | apply below_alloc | apply pw_below_drewN | apply below_drew1 | refine below_set ?_ GE214.out | refine below_set ?_ GE215.out | refine below_set ?_ GE220.out | refine below_set ?_ GE221.out | refine below_set ?_ GE227.out | refine below_set ?_ GE233.out) | exact HB.out)) hb); clear BK214; clear BK215; clear BK220; clear BK221; clear BK227; clear BK233; clear HB; have BK214 := n0_; have BK215 := n1_; have BK220 := n2_; have BK221 := n3_; have BK227 := n4_; have BK233 := n5_; have HB := n6_; clear n0_ n1_ n2_ n3_ n4_ n5_ n6_; (try clear hb); (try clear hb2); (try clear hk); (try clear hi)))
                      go_ret
                      exact ⟨by first | rfl | (simp [errW_none, errW_some] <;> rfl) | (simp [*, errW_none, errW_some] <;> rfl), by repeat (first | (with_reducible first | exact HB.out | apply below_alloc | apply pw_below_drewN | apply below_drew1 | refine below_set ?_ GE214.out | refine below_set ?_ GE215.out | refine below_set ?_ GE220.out | refine below_set ?_ GE221.out | refine below_set ?_ GE227.out | refine below_set ?_ GE233.out) | exact HB.out)⟩
                    · rw [if_neg c158] at H
                      have c158b0 : (t264 == t269) = false := beq_eq_false_iff_ne.mpr c158
                      have c158b1 : (t264 != t269) = true := bne_iff_ne.mpr c158
                      exact absurd ((Option.some.inj H).trans hT_.out) (by decide)

end Go.Proofs.Ytelhajoedlaohaa.PNodeSteps
