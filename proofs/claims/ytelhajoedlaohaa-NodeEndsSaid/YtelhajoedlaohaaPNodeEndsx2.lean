-- printed by a program of this session out of the translation; see NOTES.md
import Derived.Test.YtelhajoedlaohaaPNodeEndsx0
import Derived.Test.YtelhajoedlaohaaPNodeEndsx1
namespace Go.Proofs.Ytelhajoedlaohaa.PNodeEnds
open Go.RowKit Go.Proofs.YtelhajoedlaohaaW.PrintWords Go.Proofs.YtelhajoedlaohaaW.PrintLast Go.Proofs.YtelhajoedlaohaaW.PrintMore
attribute [local go_sem] max2_int min2_int max_two min_two max_three min_three max_four min_four   -- for this text's walks alone
set_option linter.unusedVariables false
set_option linter.unusedSimpArgs false

/-! ### precinctlaw14_NodeEnds: function 6 -/
mutual
def precinctlaw14_NodeEnds.j0 : Nat → Int → List Bool → List Int → Int → Bool → Int → Int → Int → Int → Option (Bool)
  | 0, _, _, _, _, _, _, _, _, _ => none
  | k + 1, x0, x1, x2, x9, x36, x188000, x188001, x188002, x188003 => if x36 = true then (some false) else (precinctlaw14_NodeEnds.l0 k x0 x1 x2 x9 x0 0 x188000 x188001 x188002 x188003)
def precinctlaw14_NodeEnds.l0 : Nat → Int → List Bool → List Int → Int → Int → Int → Int → Int → Int → Int → Option (Bool)
  | 0, _, _, _, _, _, _, _, _, _, _ => none
  | k + 1, x0, x1, x2, x9, x37, x38, x188000, x188001, x188002, x188003 => if x38 < x37 then (if x188000 = 1 then (if x38 < (x2.length : Int) then (if 0 ≤ x38 then (precinctlaw14_NodeEnds.j2 k x0 x1 x2 (wrap64 (x9 + ((mx 0 (rd x2 x38)) % 1000))) x38 x37 x38 x188000 x188001 x188002 x188003) else (none)) else (precinctlaw14_NodeEnds.j2 k x0 x1 x2 x9 x38 x37 x38 x188000 x188001 x188002 x188003)) else (some false)) else ((node_State_Lease.f x188000 x188001 x188002 x188003 x9 5).bind fun bt189 => (if x188000 = 5 then ((node_State_Over.f x188000 x188001 x188002 x188003).bind fun t195 => (if t195 = true then (some (bt189.2.2.2.2 == 36)) else (some false))) else (some false)))
def precinctlaw14_NodeEnds.j2 : Nat → Int → List Bool → List Int → Int → Int → Int → Int → Int → Int → Int → Int → Option (Bool)
  | 0, _, _, _, _, _, _, _, _, _, _, _ => none
  | k + 1, x0, x1, x2, x9, x10, x37, x38, x188000, x188001, x188002, x188003 => (node_State_Lease.f x188000 x188001 x188002 x188003 x9 5).bind fun bt197 => (if bt197.2.2.2.2 = 0 then (precinctlaw14_NodeEnds.j3 k x0 x1 x2 x9 x10 x37 x38 (bt197.2.1 != (wrap64 (x10 + 1))) bt197.1 bt197.2.1 bt197.2.2.1 bt197.2.2.2.1) else (precinctlaw14_NodeEnds.j3 k x0 x1 x2 x9 x10 x37 x38 true bt197.1 bt197.2.1 bt197.2.2.1 bt197.2.2.2.1))
def precinctlaw14_NodeEnds.j3 : Nat → Int → List Bool → List Int → Int → Int → Int → Int → Bool → Int → Int → Int → Int → Option (Bool)
  | 0, _, _, _, _, _, _, _, _, _, _, _, _ => none
  | k + 1, x0, x1, x2, x9, x10, x37, x38, x70, x188000, x188001, x188002, x188003 => if x70 = true then (some false) else (if x10 < (x1.length : Int) then (if 0 ≤ x10 then (precinctlaw14_NodeEnds.j4 k x0 x1 x2 x9 x10 (rdOf false x1 x10) x37 x38 x188000 x188001 x188002 x188003) else (none)) else (precinctlaw14_NodeEnds.j4 k x0 x1 x2 x9 x10 false x37 x38 x188000 x188001 x188002 x188003))
def precinctlaw14_NodeEnds.j4 : Nat → Int → List Bool → List Int → Int → Int → Bool → Int → Int → Int → Int → Int → Int → Option (Bool)
  | 0, _, _, _, _, _, _, _, _, _, _, _, _ => none
  | k + 1, x0, x1, x2, x9, x10, x11, x37, x38, x188000, x188001, x188002, x188003 => if x11 = true then (precinctlaw14_NodeEnds.j5 k x0 x1 x2 x9 x10 x11 x37 x38 false x188000 x188001 x188002 x188003) else (precinctlaw14_NodeEnds.j5 k x0 x1 x2 x9 x10 x11 x37 x38 ((Int.tmod x10 2) == 1) x188000 x188001 x188002 x188003)
def precinctlaw14_NodeEnds.j5 : Nat → Int → List Bool → List Int → Int → Int → Bool → Int → Int → Bool → Int → Int → Int → Int → Option (Bool)
  | 0, _, _, _, _, _, _, _, _, _, _, _, _, _ => none
  | k + 1, x0, x1, x2, x9, x10, x11, x37, x38, x87, x188000, x188001, x188002, x188003 => if x87 = true then ((node_State_Expire.f k x188000 x188001 x188002 x188003 (wrap64 (x9 + 5)) x0).bind fun bt203 => (if bt203.2.2.2.2 = true then (some false) else ((node_State_Expire.f k x188000 x188001 x188002 x188003 (wrap64 (x9 + 6)) x0).bind fun bt209 => (if bt209.2.2.2.2 = true then (precinctlaw14_NodeEnds.l0 k x0 x1 x2 (wrap64 (x9 + 6)) x37 (wrap64 (x38 + 1)) bt209.1 bt209.2.1 bt209.2.2.1 bt209.2.2.2.1) else (some false))))) else ((node_State_Finish.f k x188000 x188001 x188002 x188003 (wrap64 (x9 + 5)) (wrap64 (x10 + 1)) x0 x11).bind fun bt214 => (if bt214.2.2.2.2 = 0 then (if x11 = true then ((node_State_Lease.f bt214.1 bt214.2.1 bt214.2.2.1 bt214.2.2.2.1 x9 5).bind fun bt219 => ((node_State_Finish.f k bt214.1 bt214.2.1 bt214.2.2.1 bt214.2.2.2.1 x9 (wrap64 (x10 + 1)) x0 true).bind fun bt225 => ((node_State_Expire.f k bt214.1 bt214.2.1 bt214.2.2.1 bt214.2.2.2.1 1152921504606846976 x0).bind fun bt231 => (if bt214.1 = 4 then ((node_State_Over.f bt214.1 bt214.2.1 bt214.2.2.1 bt214.2.2.2.1).bind fun t237 => (if t237 = true then (if bt219.2.2.2.2 = 36 then (if bt225.2.2.2.2 = 36 then (some (!bt231.2.2.2.2)) else (some false)) else (some false)) else (some false))) else (some false))))) else (precinctlaw14_NodeEnds.l0 k x0 x1 x2 x9 x37 (wrap64 (x38 + 1)) bt214.1 bt214.2.1 bt214.2.2.1 bt214.2.2.2.1)) else (some false)))
end
def precinctlaw14_NodeEnds.f (k : Nat) (a0 : Int) (l1 : List Bool) (l2 : List Int) : Option (Bool) := (node_State_Wake.f 0 0 0 0 0 0 false).bind fun bt182 => ((precinctlaw14_wakes.f k).bind fun t188 => (if t188 = true then (precinctlaw14_NodeEnds.j0 k (1 + ((mx 0 a0) % 20)) l1 l2 0 (bt182.2.2.2.2 != 0) bt182.1 bt182.2.1 bt182.2.2.1 bt182.2.2.2.1) else (precinctlaw14_NodeEnds.j0 k (1 + ((mx 0 a0) % 20)) l1 l2 0 true bt182.1 bt182.2.1 bt182.2.2.1 bt182.2.2.2.1)))
theorem precinctlaw14_NodeEnds.mono_l : ∀ k, (∀ y0 y1 y2 y3 y4 y5 y6 y7 y8, LeO (precinctlaw14_NodeEnds.j0 k y0 y1 y2 y3 y4 y5 y6 y7 y8) (precinctlaw14_NodeEnds.j0 (k + 1) y0 y1 y2 y3 y4 y5 y6 y7 y8)) ∧ (∀ y0 y1 y2 y3 y4 y5 y6 y7 y8 y9, LeO (precinctlaw14_NodeEnds.l0 k y0 y1 y2 y3 y4 y5 y6 y7 y8 y9) (precinctlaw14_NodeEnds.l0 (k + 1) y0 y1 y2 y3 y4 y5 y6 y7 y8 y9)) ∧ (∀ y0 y1 y2 y3 y4 y5 y6 y7 y8 y9 y10, LeO (precinctlaw14_NodeEnds.j2 k y0 y1 y2 y3 y4 y5 y6 y7 y8 y9 y10) (precinctlaw14_NodeEnds.j2 (k + 1) y0 y1 y2 y3 y4 y5 y6 y7 y8 y9 y10)) ∧ (∀ y0 y1 y2 y3 y4 y5 y6 y7 y8 y9 y10 y11, LeO (precinctlaw14_NodeEnds.j3 k y0 y1 y2 y3 y4 y5 y6 y7 y8 y9 y10 y11) (precinctlaw14_NodeEnds.j3 (k + 1) y0 y1 y2 y3 y4 y5 y6 y7 y8 y9 y10 y11)) ∧ (∀ y0 y1 y2 y3 y4 y5 y6 y7 y8 y9 y10 y11, LeO (precinctlaw14_NodeEnds.j4 k y0 y1 y2 y3 y4 y5 y6 y7 y8 y9 y10 y11) (precinctlaw14_NodeEnds.j4 (k + 1) y0 y1 y2 y3 y4 y5 y6 y7 y8 y9 y10 y11)) ∧ (∀ y0 y1 y2 y3 y4 y5 y6 y7 y8 y9 y10 y11 y12, LeO (precinctlaw14_NodeEnds.j5 k y0 y1 y2 y3 y4 y5 y6 y7 y8 y9 y10 y11 y12) (precinctlaw14_NodeEnds.j5 (k + 1) y0 y1 y2 y3 y4 y5 y6 y7 y8 y9 y10 y11 y12))
  | 0 => ⟨fun _ _ _ _ _ _ _ _ _ r h => by simp [precinctlaw14_NodeEnds.j0] at h, fun _ _ _ _ _ _ _ _ _ _ r h => by simp [precinctlaw14_NodeEnds.l0] at h, fun _ _ _ _ _ _ _ _ _ _ _ r h => by simp [precinctlaw14_NodeEnds.j2] at h, fun _ _ _ _ _ _ _ _ _ _ _ _ r h => by simp [precinctlaw14_NodeEnds.j3] at h, fun _ _ _ _ _ _ _ _ _ _ _ _ r h => by simp [precinctlaw14_NodeEnds.j4] at h, fun _ _ _ _ _ _ _ _ _ _ _ _ _ r h => by simp [precinctlaw14_NodeEnds.j5] at h⟩
  | k + 1 => by
    obtain ⟨ih0, ih1, ih2, ih3, ih4, ih5⟩ := precinctlaw14_NodeEnds.mono_l k
    refine ⟨?_, ?_, ?_, ?_, ?_, ?_⟩
    · intro y0 y1 y2 y3 y4 y5 y6 y7 y8
      unfold precinctlaw14_NodeEnds.j0
      repeat' first
      | (with_reducible exact ih0 _ _ _ _ _ _ _ _ _)
      | (with_reducible exact ih1 _ _ _ _ _ _ _ _ _ _)
      | (with_reducible exact ih2 _ _ _ _ _ _ _ _ _ _ _)
      | (with_reducible exact ih3 _ _ _ _ _ _ _ _ _ _ _ _)
      | (with_reducible exact ih4 _ _ _ _ _ _ _ _ _ _ _ _)
      | (with_reducible exact ih5 _ _ _ _ _ _ _ _ _ _ _ _ _)
      | (with_reducible exact node_State_Expire.mono _ _ _ _ _ _ _)
      | (with_reducible exact node_State_Finish.mono _ _ _ _ _ _ _ _ _)
      | (with_reducible exact precinctlaw14_wakes.mono _)
      | (with_reducible exact LeO.refl _)
      | (with_reducible exact LeO.none _)
      | (with_reducible refine LeO.ite ?_ ?_)
      | (with_reducible refine LeO.bind ?_ (fun _ => ?_))
      | exact ih0 _ _ _ _ _ _ _ _ _
      | exact ih1 _ _ _ _ _ _ _ _ _ _
      | exact ih2 _ _ _ _ _ _ _ _ _ _ _
      | exact ih3 _ _ _ _ _ _ _ _ _ _ _ _
      | exact ih4 _ _ _ _ _ _ _ _ _ _ _ _
      | exact ih5 _ _ _ _ _ _ _ _ _ _ _ _ _
      | exact node_State_Expire.mono _ _ _ _ _ _ _
      | exact node_State_Finish.mono _ _ _ _ _ _ _ _ _
      | exact precinctlaw14_wakes.mono _
      | exact LeO.none _
      | refine LeO.ite ?_ ?_
      | refine LeO.bind ?_ (fun _ => ?_)
    · intro y0 y1 y2 y3 y4 y5 y6 y7 y8 y9
      unfold precinctlaw14_NodeEnds.l0
      repeat' first
      | (with_reducible exact ih0 _ _ _ _ _ _ _ _ _)
      | (with_reducible exact ih1 _ _ _ _ _ _ _ _ _ _)
      | (with_reducible exact ih2 _ _ _ _ _ _ _ _ _ _ _)
      | (with_reducible exact ih3 _ _ _ _ _ _ _ _ _ _ _ _)
      | (with_reducible exact ih4 _ _ _ _ _ _ _ _ _ _ _ _)
      | (with_reducible exact ih5 _ _ _ _ _ _ _ _ _ _ _ _ _)
      | (with_reducible exact node_State_Expire.mono _ _ _ _ _ _ _)
      | (with_reducible exact node_State_Finish.mono _ _ _ _ _ _ _ _ _)
      | (with_reducible exact precinctlaw14_wakes.mono _)
      | (with_reducible exact LeO.refl _)
      | (with_reducible exact LeO.none _)
      | (with_reducible refine LeO.ite ?_ ?_)
      | (with_reducible refine LeO.bind ?_ (fun _ => ?_))
      | exact ih0 _ _ _ _ _ _ _ _ _
      | exact ih1 _ _ _ _ _ _ _ _ _ _
      | exact ih2 _ _ _ _ _ _ _ _ _ _ _
      | exact ih3 _ _ _ _ _ _ _ _ _ _ _ _
      | exact ih4 _ _ _ _ _ _ _ _ _ _ _ _
      | exact ih5 _ _ _ _ _ _ _ _ _ _ _ _ _
      | exact node_State_Expire.mono _ _ _ _ _ _ _
      | exact node_State_Finish.mono _ _ _ _ _ _ _ _ _
      | exact precinctlaw14_wakes.mono _
      | exact LeO.none _
      | refine LeO.ite ?_ ?_
      | refine LeO.bind ?_ (fun _ => ?_)
    · intro y0 y1 y2 y3 y4 y5 y6 y7 y8 y9 y10
      unfold precinctlaw14_NodeEnds.j2
      repeat' first
      | (with_reducible exact ih0 _ _ _ _ _ _ _ _ _)
      | (with_reducible exact ih1 _ _ _ _ _ _ _ _ _ _)
      | (with_reducible exact ih2 _ _ _ _ _ _ _ _ _ _ _)
      | (with_reducible exact ih3 _ _ _ _ _ _ _ _ _ _ _ _)
      | (with_reducible exact ih4 _ _ _ _ _ _ _ _ _ _ _ _)
      | (with_reducible exact ih5 _ _ _ _ _ _ _ _ _ _ _ _ _)
      | (with_reducible exact node_State_Expire.mono _ _ _ _ _ _ _)
      | (with_reducible exact node_State_Finish.mono _ _ _ _ _ _ _ _ _)
      | (with_reducible exact precinctlaw14_wakes.mono _)
      | (with_reducible exact LeO.refl _)
      | (with_reducible exact LeO.none _)
      | (with_reducible refine LeO.ite ?_ ?_)
      | (with_reducible refine LeO.bind ?_ (fun _ => ?_))
      | exact ih0 _ _ _ _ _ _ _ _ _
      | exact ih1 _ _ _ _ _ _ _ _ _ _
      | exact ih2 _ _ _ _ _ _ _ _ _ _ _
      | exact ih3 _ _ _ _ _ _ _ _ _ _ _ _
      | exact ih4 _ _ _ _ _ _ _ _ _ _ _ _
      | exact ih5 _ _ _ _ _ _ _ _ _ _ _ _ _
      | exact node_State_Expire.mono _ _ _ _ _ _ _
      | exact node_State_Finish.mono _ _ _ _ _ _ _ _ _
      | exact precinctlaw14_wakes.mono _
      | exact LeO.none _
      | refine LeO.ite ?_ ?_
      | refine LeO.bind ?_ (fun _ => ?_)
    · intro y0 y1 y2 y3 y4 y5 y6 y7 y8 y9 y10 y11
      unfold precinctlaw14_NodeEnds.j3
      repeat' first
      | (with_reducible exact ih0 _ _ _ _ _ _ _ _ _)
      | (with_reducible exact ih1 _ _ _ _ _ _ _ _ _ _)
      | (with_reducible exact ih2 _ _ _ _ _ _ _ _ _ _ _)
      | (with_reducible exact ih3 _ _ _ _ _ _ _ _ _ _ _ _)
      | (with_reducible exact ih4 _ _ _ _ _ _ _ _ _ _ _ _)
      | (with_reducible exact ih5 _ _ _ _ _ _ _ _ _ _ _ _ _)
      | (with_reducible exact node_State_Expire.mono _ _ _ _ _ _ _)
      | (with_reducible exact node_State_Finish.mono _ _ _ _ _ _ _ _ _)
      | (with_reducible exact precinctlaw14_wakes.mono _)
      | (with_reducible exact LeO.refl _)
      | (with_reducible exact LeO.none _)
      | (with_reducible refine LeO.ite ?_ ?_)
      | (with_reducible refine LeO.bind ?_ (fun _ => ?_))
      | exact ih0 _ _ _ _ _ _ _ _ _
      | exact ih1 _ _ _ _ _ _ _ _ _ _
      | exact ih2 _ _ _ _ _ _ _ _ _ _ _
      | exact ih3 _ _ _ _ _ _ _ _ _ _ _ _
      | exact ih4 _ _ _ _ _ _ _ _ _ _ _ _
      | exact ih5 _ _ _ _ _ _ _ _ _ _ _ _ _
      | exact node_State_Expire.mono _ _ _ _ _ _ _
      | exact node_State_Finish.mono _ _ _ _ _ _ _ _ _
      | exact precinctlaw14_wakes.mono _
      | exact LeO.none _
      | refine LeO.ite ?_ ?_
      | refine LeO.bind ?_ (fun _ => ?_)
    · intro y0 y1 y2 y3 y4 y5 y6 y7 y8 y9 y10 y11
      unfold precinctlaw14_NodeEnds.j4
      repeat' first
      | (with_reducible exact ih0 _ _ _ _ _ _ _ _ _)
      | (with_reducible exact ih1 _ _ _ _ _ _ _ _ _ _)
      | (with_reducible exact ih2 _ _ _ _ _ _ _ _ _ _ _)
      | (with_reducible exact ih3 _ _ _ _ _ _ _ _ _ _ _ _)
      | (with_reducible exact ih4 _ _ _ _ _ _ _ _ _ _ _ _)
      | (with_reducible exact ih5 _ _ _ _ _ _ _ _ _ _ _ _ _)
      | (with_reducible exact node_State_Expire.mono _ _ _ _ _ _ _)
      | (with_reducible exact node_State_Finish.mono _ _ _ _ _ _ _ _ _)
      | (with_reducible exact precinctlaw14_wakes.mono _)
      | (with_reducible exact LeO.refl _)
      | (with_reducible exact LeO.none _)
      | (with_reducible refine LeO.ite ?_ ?_)
      | (with_reducible refine LeO.bind ?_ (fun _ => ?_))
      | exact ih0 _ _ _ _ _ _ _ _ _
      | exact ih1 _ _ _ _ _ _ _ _ _ _
      | exact ih2 _ _ _ _ _ _ _ _ _ _ _
      | exact ih3 _ _ _ _ _ _ _ _ _ _ _ _
      | exact ih4 _ _ _ _ _ _ _ _ _ _ _ _
      | exact ih5 _ _ _ _ _ _ _ _ _ _ _ _ _
      | exact node_State_Expire.mono _ _ _ _ _ _ _
      | exact node_State_Finish.mono _ _ _ _ _ _ _ _ _
      | exact precinctlaw14_wakes.mono _
      | exact LeO.none _
      | refine LeO.ite ?_ ?_
      | refine LeO.bind ?_ (fun _ => ?_)
    · intro y0 y1 y2 y3 y4 y5 y6 y7 y8 y9 y10 y11 y12
      unfold precinctlaw14_NodeEnds.j5
      repeat' first
      | (with_reducible exact ih0 _ _ _ _ _ _ _ _ _)
      | (with_reducible exact ih1 _ _ _ _ _ _ _ _ _ _)
      | (with_reducible exact ih2 _ _ _ _ _ _ _ _ _ _ _)
      | (with_reducible exact ih3 _ _ _ _ _ _ _ _ _ _ _ _)
      | (with_reducible exact ih4 _ _ _ _ _ _ _ _ _ _ _ _)
      | (with_reducible exact ih5 _ _ _ _ _ _ _ _ _ _ _ _ _)
      | (with_reducible exact node_State_Expire.mono _ _ _ _ _ _ _)
      | (with_reducible exact node_State_Finish.mono _ _ _ _ _ _ _ _ _)
      | (with_reducible exact precinctlaw14_wakes.mono _)
      | (with_reducible exact LeO.refl _)
      | (with_reducible exact LeO.none _)
      | (with_reducible refine LeO.ite ?_ ?_)
      | (with_reducible refine LeO.bind ?_ (fun _ => ?_))
      | exact ih0 _ _ _ _ _ _ _ _ _
      | exact ih1 _ _ _ _ _ _ _ _ _ _
      | exact ih2 _ _ _ _ _ _ _ _ _ _ _
      | exact ih3 _ _ _ _ _ _ _ _ _ _ _ _
      | exact ih4 _ _ _ _ _ _ _ _ _ _ _ _
      | exact ih5 _ _ _ _ _ _ _ _ _ _ _ _ _
      | exact node_State_Expire.mono _ _ _ _ _ _ _
      | exact node_State_Finish.mono _ _ _ _ _ _ _ _ _
      | exact precinctlaw14_wakes.mono _
      | exact LeO.none _
      | refine LeO.ite ?_ ?_
      | refine LeO.bind ?_ (fun _ => ?_)
theorem precinctlaw14_NodeEnds.mono : ∀ a0 a1 a2 k, LeO (precinctlaw14_NodeEnds.f k a0 a1 a2) (precinctlaw14_NodeEnds.f (k + 1) a0 a1 a2) := by
  intro a0 a1 a2 k
  obtain ⟨ih0, ih1, ih2, ih3, ih4, ih5⟩ := precinctlaw14_NodeEnds.mono_l k
  unfold precinctlaw14_NodeEnds.f
  repeat' first
      | (with_reducible exact ih0 _ _ _ _ _ _ _ _ _)
      | (with_reducible exact ih1 _ _ _ _ _ _ _ _ _ _)
      | (with_reducible exact ih2 _ _ _ _ _ _ _ _ _ _ _)
      | (with_reducible exact ih3 _ _ _ _ _ _ _ _ _ _ _ _)
      | (with_reducible exact ih4 _ _ _ _ _ _ _ _ _ _ _ _)
      | (with_reducible exact ih5 _ _ _ _ _ _ _ _ _ _ _ _ _)
      | (with_reducible exact node_State_Expire.mono _ _ _ _ _ _ _)
      | (with_reducible exact node_State_Finish.mono _ _ _ _ _ _ _ _ _)
      | (with_reducible exact precinctlaw14_wakes.mono _)
      | (with_reducible exact LeO.refl _)
      | (with_reducible exact LeO.none _)
      | (with_reducible refine LeO.ite ?_ ?_)
      | (with_reducible refine LeO.bind ?_ (fun _ => ?_))
      | exact ih0 _ _ _ _ _ _ _ _ _
      | exact ih1 _ _ _ _ _ _ _ _ _ _
      | exact ih2 _ _ _ _ _ _ _ _ _ _ _
      | exact ih3 _ _ _ _ _ _ _ _ _ _ _ _
      | exact ih4 _ _ _ _ _ _ _ _ _ _ _ _
      | exact ih5 _ _ _ _ _ _ _ _ _ _ _ _ _
      | exact node_State_Expire.mono _ _ _ _ _ _ _
      | exact node_State_Finish.mono _ _ _ _ _ _ _ _ _
      | exact precinctlaw14_wakes.mono _
      | exact LeO.none _
      | refine LeO.ite ?_ ?_
      | refine LeO.bind ?_ (fun _ => ?_)
set_option maxHeartbeats 8000000 in
set_option maxRecDepth 100000 in
theorem precinctlaw14_NodeEnds.calls (k : Nat) (a0 : Int) (A1 : Option Addr) (c1 : Nat) (l1 : List Bool) (A2 : Option Addr) (c2 : Nat) (l2 : List Int) (r : Bool) (w : World) (hr1 : Kd.C Kd.bool w A1 l1.length l1) (hc1 : l1.length ≤ c1) (hr2 : Kd.C (Kd.int .i64) w A2 l2.length l2) (hc2 : l2.length ≤ c2) (hT_ : Aside0 (r = true)) (h : precinctlaw14_NodeEnds.f k a0 l1 l2 = some r) :
    Calls Try.prog 6 #[.int .i64 a0, .slice A1 l1.length c1, .slice A2 l2.length c2] w fun e w' => e = .returned (.bool r) ∧ Below w.heap.size w w' := by
  have hu32 := Try.underlying32
  have HR1 := Aside0.mk hr1
  have HC1 := Aside0.mk hc1
  clear hr1 hc1
  have HR2 := Aside0.mk hr2
  have HC2 := Aside0.mk hc2
  clear hr2 hc2
  have HB := Aside0.mk (Below.refl w.heap.size w)
  have H : ((node_State_Wake.f 0 0 0 0 0 0 false).bind fun bt182 => ((precinctlaw14_wakes.f k).bind fun t188 => (if t188 = true then (precinctlaw14_NodeEnds.j0 k (1 + ((mx 0 a0) % 20)) l1 l2 0 (bt182.2.2.2.2 != 0) bt182.1 bt182.2.1 bt182.2.2.1 bt182.2.2.2.1) else (precinctlaw14_NodeEnds.j0 k (1 + ((mx 0 a0) % 20)) l1 l2 0 true bt182.1 bt182.2.1 bt182.2.2.1 bt182.2.2.2.1)))) = some r := h
  clear h
  obtain ⟨ji4, hji4⟩ : ∃ j_ : Int, (mx 0 a0) = j_ := ⟨_, rfl⟩
  replace H : ((node_State_Wake.f 0 0 0 0 0 0 false).bind fun bt182 => ((precinctlaw14_wakes.f k).bind fun t188 => (if t188 = true then (precinctlaw14_NodeEnds.j0 k (1 + ((ji4) % 20)) l1 l2 0 (bt182.2.2.2.2 != 0) bt182.1 bt182.2.1 bt182.2.2.1 bt182.2.2.2.1) else (precinctlaw14_NodeEnds.j0 k (1 + ((ji4) % 20)) l1 l2 0 true bt182.1 bt182.2.1 bt182.2.2.1 bt182.2.2.2.1)))) = some r := by first | (rw [hji4] at H; exact H) | (simp only [hji4] at H ⊢; exact H)
  (try (have hji4l : 0 ≤ ji4 := by (rw [← hji4]; unfold mx; (repeat' split) <;> omega)))
  (try (have hji4m : 0 ≤ ji4 := by omega))
  have hji4_ : (if 0 < a0 then a0 else 0) = ji4 := hji4
  replace H := Option.bind_eq_some_iff.mp H
  obtain ⟨⟨t182, t183, t184, t185, t186⟩, A50, H⟩ := H
  replace H : ((precinctlaw14_wakes.f k).bind fun t188 => (if t188 = true then (precinctlaw14_NodeEnds.j0 k (1 + ((ji4) % 20)) l1 l2 0 (t186 != 0) t182 t183 t184 t185) else (precinctlaw14_NodeEnds.j0 k (1 + ((ji4) % 20)) l1 l2 0 true t182 t183 t184 t185))) = some r := H
  have A5 := Aside0.mk A50
  clear A50
  have HC6 := Aside0.mk H
  clear H
  go_enter Try.func6, Try.ntmps6
  go_upto_region 4 with (first | ((with_reducible refine gate_callee (f := 19) rfl ?_); refine goesL_ (some 28) rfl rfl Try.func19 (by kernel_rfl) rfl #[.agg #[.int .i64 0, .int .i64 0, .int .i64 0, .int .i64 0], .int .i64 0, .int .i64 0, .bool false] rfl (by (try simp only [List.map_toArray, List.map_cons, List.map_nil]); first | done | rfl | (simp only [List.length_drop, List.length_take]; rfl)) ?_; (with_reducible refine (node_State_Wake.calls 0 0 0 0 0 0 false t182 t183 t184 t185 t186 _ A5.out).mono ?_); rintro e w7 ⟨rfl, hb⟩; refine ⟨_, rfl, ?_⟩; have n0_ := Aside0.mk (below_step (by repeat (first | (with_reducible first | exact HB.out | apply below_alloc | apply pw_below_drewN | apply below_drew1) | exact HB.out)) hb); clear HB; have HB := n0_; clear n0_; (try clear hb); (try clear hb2); (try clear hk); (try clear hi)) | ((with_reducible refine gate_dst (N := 7) rfl ?_); refine box_event ?hg (N := 7) ?hd (cs := #[.int .i64 0, .int .i64 0, .int .i64 0, .int .i64 0]) (t := 32) ?hr ?_; (case hd => rfl); (case hg => rfl); (case hr => first | (go_simp; done) | (go_simp; rfl)); intro gb187 hg w8 hbox hb; have n0_ := Aside0.mk (below_step (by repeat (first | (with_reducible first | exact HB.out | apply below_alloc | apply pw_below_drewN | apply below_drew1) | exact HB.out)) hb); have n1_ := Aside0.mk (hbox); have n2_ := Aside0.mk ((by rw [hg]; exact (below_size (by repeat (first | (with_reducible first | exact HB.out | apply below_alloc | apply pw_below_drewN | apply below_drew1) | exact HB.out))) : w.heap.size ≤ gb187)); have n3_ := Aside0.mk ((by rw [hg]; exact (below_size (by repeat (first | (with_reducible first | exact HB.out | apply below_alloc | apply pw_below_drewN | apply below_drew1) | exact HB.out))) : w.heap.size ≤ gb187)); clear HB; have HB := n0_; have BK187 := n1_; have GW187 := n2_; have GE187 := n3_; clear n0_ n1_ n2_ n3_; clear hb hbox hg; have hcz9_0 : w8.cell? ⟨gb187, 0, none⟩ = some (.int .i64 0) := (blk_cell BK187.out 0).trans rfl; have hcz9_1 : w8.cell? ⟨gb187, 1, none⟩ = some (.int .i64 0) := (blk_cell BK187.out 1).trans rfl; have hcz9_2 : w8.cell? ⟨gb187, 2, none⟩ = some (.int .i64 0) := (blk_cell BK187.out 2).trans rfl; have hcz9_3 : w8.cell? ⟨gb187, 3, none⟩ = some (.int .i64 0) := (blk_cell BK187.out 3).trans rfl; have hfz9_0 := blk_frozen BK187.out 0; have hfz9_1 := blk_frozen BK187.out 1; have hfz9_2 := blk_frozen BK187.out 2; have hfz9_3 := blk_frozen BK187.out 3))
  (try simp only [Act.put, List.setIfInBounds_toArray, List.set_cons_zero, List.set_cons_succ])
  go_cut [36] (fun v36 wc => ∃ (kq : Nat) (x36_5 : Bool), v36 = .bool x36_5 ∧ Aside0 (precinctlaw14_NodeEnds.j0 kq (1 + ((ji4) % 20)) l1 l2 0 x36_5 t182 t183 t184 t185 = some r) ∧ Aside0 (kq ≤ k) ∧ Aside0 (wc.heap[gb187]? = some (.cells #[.int .i64 t182, .int .i64 t183, .int .i64 t184, .int .i64 t185] 32 (0, 0))) ∧ Aside0 (Below w.heap.size w wc))
  case first =>
    have H := HC6.out
    clear HC6
    replace H := Option.bind_eq_some_iff.mp H
    obtain ⟨t188, A100, H⟩ := H
    replace H : (if t188 = true then (precinctlaw14_NodeEnds.j0 k (1 + ((ji4) % 20)) l1 l2 0 (t186 != 0) t182 t183 t184 t185) else (precinctlaw14_NodeEnds.j0 k (1 + ((ji4) % 20)) l1 l2 0 true t182 t183 t184 t185)) = some r := H
    have A10 := Aside0.mk A100
    clear A100
    by_cases c11 : t188 = true
    · subst c11
      have H1 : (precinctlaw14_NodeEnds.j0 k (1 + ((ji4) % 20)) l1 l2 0 (t186 != 0) t182 t183 t184 t185) = some r := by rw [if_pos rfl] at H; exact H
      clear H
      have H := H1
      clear H1
      have H' := Aside0.mk H
      clear H
      go_wp2_with (first | ((with_reducible refine gate_callee (f := 16) rfl ?_); refine goesL_ (some 31) rfl rfl Try.func16 (by kernel_rfl) rfl #[] rfl (by (try simp only [List.map_toArray, List.map_cons, List.map_nil]); first | done | rfl | (simp only [List.length_drop, List.length_take]; rfl)) ?_; (with_reducible refine (precinctlaw14_wakes.calls k  true _ A10.out).mono ?_); rintro e w12 ⟨rfl, hb⟩; refine ⟨_, rfl, ?_⟩; have n0_ := Aside0.mk (blk_below (g := gb187) (o := .cells #[.int .i64 t182, .int .i64 t183, .int .i64 t184, .int .i64 t185] 32 (0, 0)) (by (with_reducible repeat (first | refine blk_drewN ?_ _ | refine blk_drew ?_ | refine blk_alloc ?_ _)); refine blk_put (cs := #[.int .i64 t182, .int .i64 t183, .int .i64 t184, .int .i64 0]) ?_ 3 _ rfl; (with_reducible repeat (first | refine blk_drewN ?_ _ | refine blk_drew ?_ | refine blk_alloc ?_ _)); refine blk_put (cs := #[.int .i64 t182, .int .i64 t183, .int .i64 0, .int .i64 0]) ?_ 2 _ rfl; (with_reducible repeat (first | refine blk_drewN ?_ _ | refine blk_drew ?_ | refine blk_alloc ?_ _)); refine blk_put (cs := #[.int .i64 t182, .int .i64 0, .int .i64 0, .int .i64 0]) ?_ 1 _ rfl; (with_reducible repeat (first | refine blk_drewN ?_ _ | refine blk_drew ?_ | refine blk_alloc ?_ _)); refine blk_put (cs := #[.int .i64 0, .int .i64 0, .int .i64 0, .int .i64 0]) ?_ 0 _ rfl; (with_reducible repeat (first | refine blk_drewN ?_ _ | refine blk_drew ?_ | refine blk_alloc ?_ _)); exact BK187.out) hb); have n1_ := Aside0.mk (below_step (by repeat (first | (with_reducible first | exact HB.out | apply below_alloc | apply pw_below_drewN | apply below_drew1 | refine below_set ?_ GE187.out) | exact HB.out)) hb); clear BK187; clear HB; have BK187 := n0_; have HB := n1_; clear n0_ n1_; (try clear hb); (try clear hb2); (try clear hk); (try clear hi)))
      go_meet
      case rel => exact ⟨_, ((t186 != 0)), (by first | rfl | (simp; done) | (simp [*]; done)), H', ⟨by first | omega | exact Nat.le_refl _⟩, ⟨by (with_reducible repeat (first | refine blk_drewN ?_ _ | refine blk_drew ?_ | refine blk_alloc ?_ _)); exact BK187.out⟩, ⟨by repeat (first | (with_reducible first | exact HB.out | apply below_alloc | apply pw_below_drewN | apply below_drew1 | refine below_set ?_ GE187.out) | exact HB.out)⟩⟩
    · replace c11 := Bool.eq_false_iff.mpr c11
      subst c11
      have H1 : (precinctlaw14_NodeEnds.j0 k (1 + ((ji4) % 20)) l1 l2 0 true t182 t183 t184 t185) = some r := by rw [if_neg (show ¬ (false = true) by decide)] at H; exact H
      clear H
      have H := H1
      clear H1
      have H' := Aside0.mk H
      clear H
      go_wp2_with (first | ((with_reducible refine gate_callee (f := 16) rfl ?_); refine goesL_ (some 31) rfl rfl Try.func16 (by kernel_rfl) rfl #[] rfl (by (try simp only [List.map_toArray, List.map_cons, List.map_nil]); first | done | rfl | (simp only [List.length_drop, List.length_take]; rfl)) ?_; (with_reducible refine (precinctlaw14_wakes.calls k  false _ A10.out).mono ?_); rintro e w13 ⟨rfl, hb⟩; refine ⟨_, rfl, ?_⟩; have n0_ := Aside0.mk (blk_below (g := gb187) (o := .cells #[.int .i64 t182, .int .i64 t183, .int .i64 t184, .int .i64 t185] 32 (0, 0)) (by (with_reducible repeat (first | refine blk_drewN ?_ _ | refine blk_drew ?_ | refine blk_alloc ?_ _)); refine blk_put (cs := #[.int .i64 t182, .int .i64 t183, .int .i64 t184, .int .i64 0]) ?_ 3 _ rfl; (with_reducible repeat (first | refine blk_drewN ?_ _ | refine blk_drew ?_ | refine blk_alloc ?_ _)); refine blk_put (cs := #[.int .i64 t182, .int .i64 t183, .int .i64 0, .int .i64 0]) ?_ 2 _ rfl; (with_reducible repeat (first | refine blk_drewN ?_ _ | refine blk_drew ?_ | refine blk_alloc ?_ _)); refine blk_put (cs := #[.int .i64 t182, .int .i64 0, .int .i64 0, .int .i64 0]) ?_ 1 _ rfl; (with_reducible repeat (first | refine blk_drewN ?_ _ | refine blk_drew ?_ | refine blk_alloc ?_ _)); refine blk_put (cs := #[.int .i64 0, .int .i64 0, .int .i64 0, .int .i64 0]) ?_ 0 _ rfl; (with_reducible repeat (first | refine blk_drewN ?_ _ | refine blk_drew ?_ | refine blk_alloc ?_ _)); exact BK187.out) hb); have n1_ := Aside0.mk (below_step (by repeat (first | (with_reducible first | exact HB.out | apply below_alloc | apply pw_below_drewN | apply below_drew1 | refine below_set ?_ GE187.out) | exact HB.out)) hb); clear BK187; clear HB; have BK187 := n0_; have HB := n1_; clear n0_ n1_; (try clear hb); (try clear hb2); (try clear hk); (try clear hi)))
      go_meet
      case rel => exact ⟨_, (true), (by first | rfl | (simp; done) | (simp [*]; done)), H', ⟨by first | omega | exact Nat.le_refl _⟩, ⟨by (with_reducible repeat (first | refine blk_drewN ?_ _ | refine blk_drew ?_ | refine blk_alloc ?_ _)); exact BK187.out⟩, ⟨by repeat (first | (with_reducible first | exact HB.out | apply below_alloc | apply pw_below_drewN | apply below_drew1 | refine below_set ?_ GE187.out) | exact HB.out)⟩⟩
  case rest =>
    clear HC6
    try clear c1
    try clear c2
    try clear p2
    try clear c6
    try clear c11
    try clear hcz9_0
    try clear hcz9_1
    try clear hcz9_2
    try clear hcz9_3
    try clear hfz9_0
    try clear hfz9_1
    try clear hfz9_2
    try clear hfz9_3
    obtain ⟨kq, x36_5, rfl, HA, HJ5, BK187, HB⟩ := hcut
    cases kq with
    | zero => exact absurd HA.out (by simp [precinctlaw14_NodeEnds.j0])
    | succ kj5 =>
      have H := HA.out
      clear HA
      simp only [precinctlaw14_NodeEnds.j0] at H
      by_cases c14 : x36_5 = true
      · subst c14
        have H1 : (some false) = some r := by rw [if_pos rfl] at H; exact H
        clear H
        have H := H1
        clear H1
        exact absurd ((Option.some.inj H).trans hT_.out) (by decide)
      · replace c14 := Bool.eq_false_iff.mpr c14
        subst c14
        have H1 : (precinctlaw14_NodeEnds.l0 kj5 (1 + ((ji4) % 20)) l1 l2 0 (1 + ((ji4) % 20)) 0 t182 t183 t184 t185) = some r := by rw [if_neg (show ¬ (false = true) by decide)] at H; exact H
        clear H
        have H := H1
        clear H1
        have H' := Aside0.mk H
        clear H
        go_wp2
        go_loopg [9, 38] kj5 (fun kq v9 v38 w' => ∃ (x9_2 : Int) (x38_2 : Int) (x188000_2 : Int) (x188001_2 : Int) (x188002_2 : Int) (x188003_2 : Int), v9 = .int .i64 x9_2 ∧ v38 = .int .i64 x38_2 ∧ Aside0 (precinctlaw14_NodeEnds.l0 kq (1 + ((ji4) % 20)) l1 l2 x9_2 (1 + ((ji4) % 20)) x38_2 x188000_2 x188001_2 x188002_2 x188003_2 = some r) ∧ Aside0 (kq ≤ kj5) ∧ Aside0 (w'.heap[gb187]? = some (.cells #[.int .i64 x188000_2, .int .i64 x188001_2, .int .i64 x188002_2, .int .i64 x188003_2] 32 (0, 0))) ∧ Aside0 (Below w.heap.size w w'))
        case atStart => exact ⟨(0), (0), (t182), (t183), (t184), (t185), (by first | rfl | (simp; done) | (simp [*]; done)), (by first | rfl | (simp; done) | (simp [*]; done)), H', ⟨Nat.le_refl _⟩, ⟨by (with_reducible repeat (first | refine blk_drewN ?_ _ | refine blk_drew ?_ | refine blk_alloc ?_ _)); exact BK187.out⟩, ⟨by repeat (first | (with_reducible first | exact HB.out | apply below_alloc | apply pw_below_drewN | apply below_drew1 | refine below_set ?_ GE187.out) | exact HB.out)⟩⟩
        case round =>
          clear H'
          try clear c1
          try clear c2
          try clear p2
          try clear c6
          try clear c11
          try clear c14
          try clear hcz9_0
          try clear hcz9_1
          try clear hcz9_2
          try clear hcz9_3
          try clear hfz9_0
          try clear hfz9_1
          try clear hfz9_2
          try clear hfz9_3
          try clear p2
          obtain ⟨x9_2, x38_2, x188000_2, x188001_2, x188002_2, x188003_2, rfl, rfl, HA, HK2, BK187, HB⟩ := hrel
          cases gk with
          | zero => exact absurd HA.out (by simp [precinctlaw14_NodeEnds.l0])
          | succ k2 =>
            have H := HA.out
            clear HA
            simp only [precinctlaw14_NodeEnds.l0] at H
            by_cases c15 : x38_2 < (1 + ((ji4) % 20))
            · rw [if_pos c15] at H
              have c15b0 : decide (x38_2 < (1 + ((ji4) % 20))) = true := decide_eq_true c15
              clear c15
              by_cases c16 : x188000_2 = 1
              · rw [if_pos c16] at H
                have c16b0 : (x188000_2 == 1) = true := beq_iff_eq.mpr c16
                have c16b1 : (x188000_2 != 1) = false := bne_eq_false_iff_eq.mpr c16
                clear c16
                have HC17 := Aside0.mk H
                clear H
                have hcz18_0 : wr.cell? ⟨gb187, 0, none⟩ = some (.int .i64 x188000_2) := (blk_cell BK187.out 0).trans rfl
                have hcz18_1 : wr.cell? ⟨gb187, 1, none⟩ = some (.int .i64 x188001_2) := (blk_cell BK187.out 1).trans rfl
                have hcz18_2 : wr.cell? ⟨gb187, 2, none⟩ = some (.int .i64 x188002_2) := (blk_cell BK187.out 2).trans rfl
                have hcz18_3 : wr.cell? ⟨gb187, 3, none⟩ = some (.int .i64 x188003_2) := (blk_cell BK187.out 3).trans rfl
                have hfz18_0 := blk_frozen BK187.out 0
                have hfz18_1 := blk_frozen BK187.out 1
                have hfz18_2 := blk_frozen BK187.out 2
                have hfz18_3 := blk_frozen BK187.out 3
                go_upto_if 47 with (fail)
                go_cut [9] (fun v9 wc => ∃ (kq : Nat) (x9_16 : Int), v9 = .int .i64 x9_16 ∧ Aside0 (precinctlaw14_NodeEnds.j2 kq (1 + ((ji4) % 20)) l1 l2 x9_16 x38_2 (1 + ((ji4) % 20)) x38_2 x188000_2 x188001_2 x188002_2 x188003_2 = some r) ∧ Aside0 (kq ≤ k2) ∧ Aside0 (wc.heap[gb187]? = some (.cells #[.int .i64 x188000_2, .int .i64 x188001_2, .int .i64 x188002_2, .int .i64 x188003_2] 32 (0, 0))) ∧ Aside0 (Below w.heap.size w wc))
                case first =>
                  have H := HC17.out
                  clear HC17
                  by_cases c19 : x38_2 < (l2.length : Int)
                  · rw [if_pos c19] at H
                    have c19b0 : decide (x38_2 < (l2.length : Int)) = true := decide_eq_true c19
                    clear c19
                    (first | rw [c19b0] | (simp only [i64_w, i32_w]; rw [c19b0]) | skip)
                    by_cases c20 : 0 ≤ x38_2
                    · rw [if_pos c20] at H
                      have c20b0 : decide (0 ≤ x38_2) = true := decide_eq_true c20
                      clear c20
                      obtain ⟨ji21, hji21⟩ : ∃ j_ : Int, (mx 0 (rd l2 x38_2)) = j_ := ⟨_, rfl⟩
                      replace H : (precinctlaw14_NodeEnds.j2 k2 (1 + ((ji4) % 20)) l1 l2 (wrap64 (x9_2 + ((ji21) % 1000))) x38_2 (1 + ((ji4) % 20)) x38_2 x188000_2 x188001_2 x188002_2 x188003_2) = some r := by first | (rw [hji21] at H; exact H) | (simp only [hji21] at H ⊢; exact H)
                      have hji21_ : (if 0 < (rd l2 x38_2) then (rd l2 x38_2) else 0) = ji21 := hji21
                      have H' := Aside0.mk H
                      clear H
                      have p196 : 0 ≤ (x38_2 : Int) := of_decide_eq_true (by first | (with_reducible assumption) | assumption)
                      have q196 : x38_2 < (l2.length : Int) := of_decide_eq_true (by first | (with_reducible assumption) | assumption)
                      obtain ⟨ad196, e196, hx196_0⟩ := Kd.at_int HR2.out x38_2 p196 q196
                      cases e196
                      replace hx196_0 := (HB.out.cell (World.block_lt_of_cell? w _ hx196_0)).trans hx196_0
                      replace p196 := eq_true p196
                      replace q196 := eq_true q196
                      go_wp2
                      go_meet
                      case rel => exact ⟨_, (wrap64 (x9_2 + ((ji21) % 1000))), (by first | rfl | (simp; done) | (simp only [← hji21] <;> (first | rfl | simp)) | (simp [*]; done)), H', ⟨by have := HJ5.out; have := HK2.out; first | omega | exact Nat.le_refl _⟩, ⟨by (with_reducible repeat (first | refine blk_drewN ?_ _ | refine blk_drew ?_ | refine blk_alloc ?_ _)); exact BK187.out⟩, ⟨by repeat (first | (with_reducible first | exact HB.out | apply below_alloc | apply pw_below_drewN | apply below_drew1 | refine below_set ?_ GE187.out) | exact HB.out)⟩⟩
                    · rw [if_neg c20] at H
                      exact absurd H (by simp)
                  · rw [if_neg c19] at H
                    have c19b0 : decide (x38_2 < (l2.length : Int)) = false := decide_eq_false c19
                    clear c19
                    (first | rw [c19b0] | (simp only [i64_w, i32_w]; rw [c19b0]) | skip)
                    have H' := Aside0.mk H
                    clear H
                    go_wp2
                    go_meet
                    case rel => exact ⟨_, (x9_2), (by first | rfl | (simp; done) | (simp [*]; done)), H', ⟨by have := HJ5.out; have := HK2.out; first | omega | exact Nat.le_refl _⟩, ⟨by (with_reducible repeat (first | refine blk_drewN ?_ _ | refine blk_drew ?_ | refine blk_alloc ?_ _)); exact BK187.out⟩, ⟨by repeat (first | (with_reducible first | exact HB.out | apply below_alloc | apply pw_below_drewN | apply below_drew1 | refine below_set ?_ GE187.out) | exact HB.out)⟩⟩
                case rest =>
                  clear HC17
                  try clear c1
                  try clear p1
                  try clear q1
                  try clear hx1
                  try clear c2
                  try clear p2
                  try clear c6
                  try clear p6
                  try clear c11
                  try clear c14
                  try clear c15
                  try clear c15b0
                  try clear c16
                  try clear c16b0
                  try clear c16b1
                  try clear c19
                  try clear c19b0
                  try clear p19
                  try clear q19
                  try clear hx19
                  try clear c20
                  try clear c20b0
                  try clear hcz18_0
                  try clear hcz18_1
                  try clear hcz18_2
                  try clear hcz18_3
                  try clear hcz9_0
                  try clear hcz9_1
                  try clear hcz9_2
                  try clear hcz9_3
                  try clear hfz18_0
                  try clear hfz18_1
                  try clear hfz18_2
                  try clear hfz18_3
                  try clear hfz9_0
                  try clear hfz9_1
                  try clear hfz9_2
                  try clear hfz9_3
                  try clear hx196_0
                  try clear p196
                  try clear p2
                  try clear q196
                  obtain ⟨kq, x9_16, rfl, HA, HJ16, BK187, HB⟩ := hcut
                  cases kq with
                  | zero => exact absurd HA.out (by simp [precinctlaw14_NodeEnds.j2])
                  | succ kj16 =>
                    have H := HA.out
                    clear HA
                    simp only [precinctlaw14_NodeEnds.j2] at H
                    replace H := Option.bind_eq_some_iff.mp H
                    obtain ⟨⟨t197, t198, t199, t200, t201⟩, A220, H⟩ := H
                    replace H : (if t201 = 0 then (precinctlaw14_NodeEnds.j3 kj16 (1 + ((ji4) % 20)) l1 l2 x9_16 x38_2 (1 + ((ji4) % 20)) x38_2 (t198 != (wrap64 (x38_2 + 1))) t197 t198 t199 t200) else (precinctlaw14_NodeEnds.j3 kj16 (1 + ((ji4) % 20)) l1 l2 x9_16 x38_2 (1 + ((ji4) % 20)) x38_2 true t197 t198 t199 t200)) = some r := H
                    have A22 := Aside0.mk A220
                    clear A220
                    have HC23 := Aside0.mk H
                    clear H
                    have hcz24_0 : wc.cell? ⟨gb187, 0, none⟩ = some (.int .i64 x188000_2) := (blk_cell BK187.out 0).trans rfl
                    have hcz24_1 : wc.cell? ⟨gb187, 1, none⟩ = some (.int .i64 x188001_2) := (blk_cell BK187.out 1).trans rfl
                    have hcz24_2 : wc.cell? ⟨gb187, 2, none⟩ = some (.int .i64 x188002_2) := (blk_cell BK187.out 2).trans rfl
                    have hcz24_3 : wc.cell? ⟨gb187, 3, none⟩ = some (.int .i64 x188003_2) := (blk_cell BK187.out 3).trans rfl
                    have hfz24_0 := blk_frozen BK187.out 0
                    have hfz24_1 := blk_frozen BK187.out 1
                    have hfz24_2 := blk_frozen BK187.out 2
                    have hfz24_3 := blk_frozen BK187.out 3
                    go_upto_region 14 with (first | ((with_reducible refine gate_callee (f := 20) rfl ?_); refine goesL_ (some 59) rfl rfl Try.func20 (by kernel_rfl) rfl #[.agg #[.int .i64 x188000_2, .int .i64 x188001_2, .int .i64 x188002_2, .int .i64 x188003_2], .int .i64 x9_16, .int .i64 5] rfl (by (try simp only [List.map_toArray, List.map_cons, List.map_nil]); first | done | rfl | (simp only [List.length_drop, List.length_take]; rfl)) ?_; (with_reducible refine (node_State_Lease.calls x188000_2 x188001_2 x188002_2 x188003_2 x9_16 5 t197 t198 t199 t200 t201 _ A22.out).mono ?_); rintro e w25 ⟨rfl, hb⟩; refine ⟨_, rfl, ?_⟩; have n0_ := Aside0.mk (blk_below (g := gb187) (o := .cells #[.int .i64 x188000_2, .int .i64 x188001_2, .int .i64 x188002_2, .int .i64 x188003_2] 32 (0, 0)) (by (with_reducible repeat (first | refine blk_drewN ?_ _ | refine blk_drew ?_ | refine blk_alloc ?_ _)); exact BK187.out) hb); have n1_ := Aside0.mk (below_step (by repeat (first | (with_reducible first | exact HB.out | apply below_alloc | apply pw_below_drewN | apply below_drew1 | refine below_set ?_ GE187.out) | exact HB.out)) hb); clear BK187; clear HB; have BK187 := n0_; have HB := n1_; clear n0_ n1_; (try clear hb); (try clear hb2); (try clear hk); (try clear hi); have hcz26_0 : w25.cell? ⟨gb187, 0, none⟩ = some (.int .i64 x188000_2) := (blk_cell BK187.out 0).trans rfl; have hcz26_1 : w25.cell? ⟨gb187, 1, none⟩ = some (.int .i64 x188001_2) := (blk_cell BK187.out 1).trans rfl; have hcz26_2 : w25.cell? ⟨gb187, 2, none⟩ = some (.int .i64 x188002_2) := (blk_cell BK187.out 2).trans rfl; have hcz26_3 : w25.cell? ⟨gb187, 3, none⟩ = some (.int .i64 x188003_2) := (blk_cell BK187.out 3).trans rfl; have hfz26_0 := blk_frozen BK187.out 0; have hfz26_1 := blk_frozen BK187.out 1; have hfz26_2 := blk_frozen BK187.out 2; have hfz26_3 := blk_frozen BK187.out 3))
                    (try simp only [Act.put, List.setIfInBounds_toArray, List.set_cons_zero, List.set_cons_succ])
                    go_cut [70] (fun v70 wc => ∃ (kq : Nat) (x70_22 : Bool), v70 = .bool x70_22 ∧ Aside0 (precinctlaw14_NodeEnds.j3 kq (1 + ((ji4) % 20)) l1 l2 x9_16 x38_2 (1 + ((ji4) % 20)) x38_2 x70_22 t197 t198 t199 t200 = some r) ∧ Aside0 (kq ≤ kj16) ∧ Aside0 (wc.heap[gb187]? = some (.cells #[.int .i64 t197, .int .i64 t198, .int .i64 t199, .int .i64 t200] 32 (0, 0))) ∧ Aside0 (Below w.heap.size w wc))
                    case first =>
                      have H := HC23.out
                      clear HC23
                      by_cases c27 : t201 = 0
                      · rw [if_pos c27] at H
                        have c27b0 : (t201 == 0) = true := beq_iff_eq.mpr c27
                        have c27b1 : (t201 != 0) = false := bne_eq_false_iff_eq.mpr c27
                        clear c27
                        (first | rw [c27b0] | (simp only [i64_w, i32_w]; rw [c27b0]) | skip)
                        have H' := Aside0.mk H
                        clear H
                        have hcz28_0 : w25.cell? ⟨gb187, 0, none⟩ = some (.int .i64 x188000_2) := (blk_cell BK187.out 0).trans rfl
                        have hcz28_1 : w25.cell? ⟨gb187, 1, none⟩ = some (.int .i64 x188001_2) := (blk_cell BK187.out 1).trans rfl
                        have hcz28_2 : w25.cell? ⟨gb187, 2, none⟩ = some (.int .i64 x188002_2) := (blk_cell BK187.out 2).trans rfl
                        have hcz28_3 : w25.cell? ⟨gb187, 3, none⟩ = some (.int .i64 x188003_2) := (blk_cell BK187.out 3).trans rfl
                        have hfz28_0 := blk_frozen BK187.out 0
                        have hfz28_1 := blk_frozen BK187.out 1
                        have hfz28_2 := blk_frozen BK187.out 2
                        have hfz28_3 := blk_frozen BK187.out 3
                        go_wp2
                        go_meet
                        case rel => exact ⟨_, ((t198 != (wrap64 (x38_2 + 1)))), (by first | rfl | (simp; done) | (simp [*]; done)), H', ⟨by have := HJ5.out; have := HK2.out; have := HJ16.out; first | omega | exact Nat.le_refl _⟩, ⟨by (with_reducible repeat (first | refine blk_drewN ?_ _ | refine blk_drew ?_ | refine blk_alloc ?_ _)); refine blk_put (cs := #[.int .i64 t197, .int .i64 t198, .int .i64 t199, .int .i64 x188003_2]) ?_ 3 _ rfl; (with_reducible repeat (first | refine blk_drewN ?_ _ | refine blk_drew ?_ | refine blk_alloc ?_ _)); refine blk_put (cs := #[.int .i64 t197, .int .i64 t198, .int .i64 x188002_2, .int .i64 x188003_2]) ?_ 2 _ rfl; (with_reducible repeat (first | refine blk_drewN ?_ _ | refine blk_drew ?_ | refine blk_alloc ?_ _)); refine blk_put (cs := #[.int .i64 t197, .int .i64 x188001_2, .int .i64 x188002_2, .int .i64 x188003_2]) ?_ 1 _ rfl; (with_reducible repeat (first | refine blk_drewN ?_ _ | refine blk_drew ?_ | refine blk_alloc ?_ _)); refine blk_put (cs := #[.int .i64 x188000_2, .int .i64 x188001_2, .int .i64 x188002_2, .int .i64 x188003_2]) ?_ 0 _ rfl; (with_reducible repeat (first | refine blk_drewN ?_ _ | refine blk_drew ?_ | refine blk_alloc ?_ _)); exact BK187.out⟩, ⟨by repeat (first | (with_reducible first | exact HB.out | apply below_alloc | apply pw_below_drewN | apply below_drew1 | refine below_set ?_ GE187.out) | exact HB.out)⟩⟩
                      · rw [if_neg c27] at H
                        have c27b0 : (t201 == 0) = false := beq_eq_false_iff_ne.mpr c27
                        have c27b1 : (t201 != 0) = true := bne_iff_ne.mpr c27
                        (first | rw [c27b0] | (simp only [i64_w, i32_w]; rw [c27b0]) | skip)
                        have H' := Aside0.mk H
                        clear H
                        go_wp2
                        go_meet
                        case rel => exact ⟨_, (true), (by first | rfl | (simp; done) | (simp [*]; done)), H', ⟨by have := HJ5.out; have := HK2.out; have := HJ16.out; first | omega | exact Nat.le_refl _⟩, ⟨by (with_reducible repeat (first | refine blk_drewN ?_ _ | refine blk_drew ?_ | refine blk_alloc ?_ _)); refine blk_put (cs := #[.int .i64 t197, .int .i64 t198, .int .i64 t199, .int .i64 x188003_2]) ?_ 3 _ rfl; (with_reducible repeat (first | refine blk_drewN ?_ _ | refine blk_drew ?_ | refine blk_alloc ?_ _)); refine blk_put (cs := #[.int .i64 t197, .int .i64 t198, .int .i64 x188002_2, .int .i64 x188003_2]) ?_ 2 _ rfl; (with_reducible repeat (first | refine blk_drewN ?_ _ | refine blk_drew ?_ | refine blk_alloc ?_ _)); refine blk_put (cs := #[.int .i64 t197, .int .i64 x188001_2, .int .i64 x188002_2, .int .i64 x188003_2]) ?_ 1 _ rfl; (with_reducible repeat (first | refine blk_drewN ?_ _ | refine blk_drew ?_ | refine blk_alloc ?_ _)); refine blk_put (cs := #[.int .i64 x188000_2, .int .i64 x188001_2, .int .i64 x188002_2, .int .i64 x188003_2]) ?_ 0 _ rfl; (with_reducible repeat (first | refine blk_drewN ?_ _ | refine blk_drew ?_ | refine blk_alloc ?_ _)); exact BK187.out⟩, ⟨by repeat (first | (with_reducible first | exact HB.out | apply below_alloc | apply pw_below_drewN | apply below_drew1 | refine below_set ?_ GE187.out) | exact HB.out)⟩⟩
                    case rest =>
                      clear HC23
                      try clear c1
                      try clear p1
                      try clear q1
                      try clear hx1
                      try clear c2
                      try clear p2
                      try clear c6
                      try clear p6
                      try clear c11
                      try clear c14
                      try clear c15
                      try clear c15b0
                      try clear c16
                      try clear c16b0
                      try clear c16b1
                      try clear c19
                      try clear c19b0
                      try clear p19
                      try clear q19
                      try clear hx19
                      try clear c20
                      try clear c20b0
                      try clear c27
                      try clear c27b0
                      try clear c27b1
                      try clear hcz18_0
                      try clear hcz18_1
                      try clear hcz18_2
                      try clear hcz18_3
                      try clear hcz24_0
                      try clear hcz24_1
                      try clear hcz24_2
                      try clear hcz24_3
                      try clear hcz26_0
                      try clear hcz26_1
                      try clear hcz26_2
                      try clear hcz26_3
                      try clear hcz28_0
                      try clear hcz28_1
                      try clear hcz28_2
                      try clear hcz28_3
                      try clear hcz9_0
                      try clear hcz9_1
                      try clear hcz9_2
                      try clear hcz9_3
                      try clear hfz18_0
                      try clear hfz18_1
                      try clear hfz18_2
                      try clear hfz18_3
                      try clear hfz24_0
                      try clear hfz24_1
                      try clear hfz24_2
                      try clear hfz24_3
                      try clear hfz26_0
                      try clear hfz26_1
                      try clear hfz26_2
                      try clear hfz26_3
                      try clear hfz28_0
                      try clear hfz28_1
                      try clear hfz28_2
                      try clear hfz28_3
                      try clear hfz9_0
                      try clear hfz9_1
                      try clear hfz9_2
                      try clear hfz9_3
                      try clear hx196_0
                      try clear p1
                      try clear p19
                      try clear p196
                      try clear p2
                      try clear p6
                      try clear q1
                      try clear q19
                      try clear q196
                      obtain ⟨kq, x70_22, rfl, HA, HJ22, BK187, HB⟩ := hcut
                      cases kq with
                      | zero => exact absurd HA.out (by simp [precinctlaw14_NodeEnds.j3])
                      | succ kj22 =>
                        have H := HA.out
                        clear HA
                        simp only [precinctlaw14_NodeEnds.j3] at H
                        by_cases c29 : x70_22 = true
                        · subst c29
                          have H1 : (some false) = some r := by rw [if_pos rfl] at H; exact H
                          clear H
                          have H := H1
                          clear H1
                          exact absurd ((Option.some.inj H).trans hT_.out) (by decide)
                        · replace c29 := Bool.eq_false_iff.mpr c29
                          subst c29
                          have H1 : (if x38_2 < (l1.length : Int) then (if 0 ≤ x38_2 then (precinctlaw14_NodeEnds.j4 kj22 (1 + ((ji4) % 20)) l1 l2 x9_16 x38_2 (rdOf false l1 x38_2) (1 + ((ji4) % 20)) x38_2 t197 t198 t199 t200) else (none)) else (precinctlaw14_NodeEnds.j4 kj22 (1 + ((ji4) % 20)) l1 l2 x9_16 x38_2 false (1 + ((ji4) % 20)) x38_2 t197 t198 t199 t200)) = some r := by rw [if_neg (show ¬ (false = true) by decide)] at H; exact H
                          clear H
                          have H := H1
                          clear H1
                          have HC30 := Aside0.mk H
                          clear H
                          go_upto_region 16 with (fail)
                          go_cut [11] (fun v11 wc => ∃ (kq : Nat) (x11_29 : Bool), v11 = .bool x11_29 ∧ Aside0 (precinctlaw14_NodeEnds.j4 kq (1 + ((ji4) % 20)) l1 l2 x9_16 x38_2 x11_29 (1 + ((ji4) % 20)) x38_2 t197 t198 t199 t200 = some r) ∧ Aside0 (kq ≤ kj22) ∧ Aside0 (wc.heap[gb187]? = some (.cells #[.int .i64 t197, .int .i64 t198, .int .i64 t199, .int .i64 t200] 32 (0, 0))) ∧ Aside0 (Below w.heap.size w wc))
                          case first =>
                            have H := HC30.out
                            clear HC30
                            by_cases c31 : x38_2 < (l1.length : Int)
                            · rw [if_pos c31] at H
                              have c31b0 : decide (x38_2 < (l1.length : Int)) = true := decide_eq_true c31
                              clear c31
                              (first | rw [c31b0] | (simp only [i64_w, i32_w]; rw [c31b0]) | skip)
                              by_cases c32 : 0 ≤ x38_2
                              · rw [if_pos c32] at H
                                have c32b0 : decide (0 ≤ x38_2) = true := decide_eq_true c32
                                clear c32
                                have H' := Aside0.mk H
                                clear H
                                have p202 : 0 ≤ (x38_2 : Int) := of_decide_eq_true (by first | (with_reducible assumption) | assumption)
                                have q202 : x38_2 < (l1.length : Int) := of_decide_eq_true (by first | (with_reducible assumption) | assumption)
                                obtain ⟨ad202, e202, hx202_0⟩ := Kd.at_bool HR1.out x38_2 p202 q202
                                cases e202
                                replace hx202_0 := (HB.out.cell (World.block_lt_of_cell? w _ hx202_0)).trans hx202_0
                                replace p202 := eq_true p202
                                replace q202 := eq_true q202
                                go_wp2
                                go_meet
                                case rel => exact ⟨_, (rdOf false l1 x38_2), (by first | rfl | (simp; done) | (simp [*]; done)), H', ⟨by have := HJ5.out; have := HK2.out; have := HJ16.out; have := HJ22.out; first | omega | exact Nat.le_refl _⟩, ⟨by (with_reducible repeat (first | refine blk_drewN ?_ _ | refine blk_drew ?_ | refine blk_alloc ?_ _)); exact BK187.out⟩, ⟨by repeat (first | (with_reducible first | exact HB.out | apply below_alloc | apply pw_below_drewN | apply below_drew1 | refine below_set ?_ GE187.out) | exact HB.out)⟩⟩
                              · rw [if_neg c32] at H
                                exact absurd H (by simp)
                            · rw [if_neg c31] at H
                              have c31b0 : decide (x38_2 < (l1.length : Int)) = false := decide_eq_false c31
                              clear c31
                              (first | rw [c31b0] | (simp only [i64_w, i32_w]; rw [c31b0]) | skip)
                              have H' := Aside0.mk H
                              clear H
                              go_wp2
                              go_meet
                              case rel => exact ⟨_, (false), (by first | rfl | (simp; done) | (simp [*]; done)), H', ⟨by have := HJ5.out; have := HK2.out; have := HJ16.out; have := HJ22.out; first | omega | exact Nat.le_refl _⟩, ⟨by (with_reducible repeat (first | refine blk_drewN ?_ _ | refine blk_drew ?_ | refine blk_alloc ?_ _)); exact BK187.out⟩, ⟨by repeat (first | (with_reducible first | exact HB.out | apply below_alloc | apply pw_below_drewN | apply below_drew1 | refine below_set ?_ GE187.out) | exact HB.out)⟩⟩
                          case rest =>
                            clear HC30
                            try clear c1
                            try clear p1
                            try clear q1
                            try clear hx1
                            try clear c2
                            try clear p2
                            try clear q2
                            try clear hx2
                            try clear c3
                            try clear c6
                            try clear p6
                            try clear c11
                            try clear c14
                            try clear c15
                            try clear c15b0
                            try clear c16
                            try clear c16b0
                            try clear c16b1
                            try clear c19
                            try clear c19b0
                            try clear p19
                            try clear q19
                            try clear hx19
                            try clear c20
                            try clear c20b0
                            try clear p20
                            try clear q20
                            try clear hx20
                            try clear c27
                            try clear c27b0
                            try clear c27b1
                            try clear c29
                            try clear c31
                            try clear c31b0
                            try clear c32
                            try clear c32b0
                            try clear hcz18_0
                            try clear hcz18_1
                            try clear hcz18_2
                            try clear hcz18_3
                            try clear hcz24_0
                            try clear hcz24_1
                            try clear hcz24_2
                            try clear hcz24_3
                            try clear hcz26_0
                            try clear hcz26_1
                            try clear hcz26_2
                            try clear hcz26_3
                            try clear hcz28_0
                            try clear hcz28_1
                            try clear hcz28_2
                            try clear hcz28_3
                            try clear hcz9_0
                            try clear hcz9_1
                            try clear hcz9_2
                            try clear hcz9_3
                            try clear hfz18_0
                            try clear hfz18_1
                            try clear hfz18_2
                            try clear hfz18_3
                            try clear hfz24_0
                            try clear hfz24_1
                            try clear hfz24_2
                            try clear hfz24_3
                            try clear hfz26_0
                            try clear hfz26_1
                            try clear hfz26_2
                            try clear hfz26_3
                            try clear hfz28_0
                            try clear hfz28_1
                            try clear hfz28_2
                            try clear hfz28_3
                            try clear hfz9_0
                            try clear hfz9_1
                            try clear hfz9_2
                            try clear hfz9_3
                            try clear hx196_0
                            try clear hx202_0
                            try clear p1
                            try clear p19
                            try clear p196
                            try clear p2
                            try clear p202
                            try clear p6
                            try clear q1
                            try clear q19
                            try clear q196
                            try clear q202
                            obtain ⟨kq, x11_29, rfl, HA, HJ29, BK187, HB⟩ := hcut
                            cases kq with
                            | zero => exact absurd HA.out (by simp [precinctlaw14_NodeEnds.j4])
                            | succ kj29 =>
                              have H := HA.out
                              clear HA
                              simp only [precinctlaw14_NodeEnds.j4] at H
                              have HC33 := Aside0.mk H
                              clear H
                              go_upto_region 17 with (fail)
                              go_cut [87] (fun v87 wc => ∃ (kq : Nat) (x87_32 : Bool), v87 = .bool x87_32 ∧ Aside0 (precinctlaw14_NodeEnds.j5 kq (1 + ((ji4) % 20)) l1 l2 x9_16 x38_2 x11_29 (1 + ((ji4) % 20)) x38_2 x87_32 t197 t198 t199 t200 = some r) ∧ Aside0 (kq ≤ kj29) ∧ Aside0 (wc.heap[gb187]? = some (.cells #[.int .i64 t197, .int .i64 t198, .int .i64 t199, .int .i64 t200] 32 (0, 0))) ∧ Aside0 (Below w.heap.size w wc))
                              case first =>
                                have H := HC33.out
                                clear HC33
                                by_cases c34 : x11_29 = true
                                · subst c34
                                  have H1 : (precinctlaw14_NodeEnds.j5 kj29 (1 + ((ji4) % 20)) l1 l2 x9_16 x38_2 true (1 + ((ji4) % 20)) x38_2 false t197 t198 t199 t200) = some r := by rw [if_pos rfl] at H; exact H
                                  clear H
                                  have H := H1
                                  clear H1
                                  have H' := Aside0.mk H
                                  clear H
                                  go_wp2
                                  go_meet
                                  case rel => exact ⟨_, (false), (by first | rfl | (simp; done) | (simp [*]; done)), H', ⟨by have := HJ5.out; have := HK2.out; have := HJ16.out; have := HJ22.out; have := HJ29.out; first | omega | exact Nat.le_refl _⟩, ⟨by (with_reducible repeat (first | refine blk_drewN ?_ _ | refine blk_drew ?_ | refine blk_alloc ?_ _)); exact BK187.out⟩, ⟨by repeat (first | (with_reducible first | exact HB.out | apply below_alloc | apply pw_below_drewN | apply below_drew1 | refine below_set ?_ GE187.out) | exact HB.out)⟩⟩
                                · replace c34 := Bool.eq_false_iff.mpr c34
                                  subst c34
                                  have H1 : (precinctlaw14_NodeEnds.j5 kj29 (1 + ((ji4) % 20)) l1 l2 x9_16 x38_2 false (1 + ((ji4) % 20)) x38_2 ((Int.tmod x38_2 2) == 1) t197 t198 t199 t200) = some r := by rw [if_neg (show ¬ (false = true) by decide)] at H; exact H
                                  clear H
                                  have H := H1
                                  clear H1
                                  have H' := Aside0.mk H
                                  clear H
                                  go_wp2
                                  go_meet
                                  case rel => exact ⟨_, (((Int.tmod x38_2 2) == 1)), (by first | rfl | (simp; done) | (simp [*]; done)), H', ⟨by have := HJ5.out; have := HK2.out; have := HJ16.out; have := HJ22.out; have := HJ29.out; first | omega | exact Nat.le_refl _⟩, ⟨by (with_reducible repeat (first | refine blk_drewN ?_ _ | refine blk_drew ?_ | refine blk_alloc ?_ _)); exact BK187.out⟩, ⟨by repeat (first | (with_reducible first | exact HB.out | apply below_alloc | apply pw_below_drewN | apply below_drew1 | refine below_set ?_ GE187.out) | exact HB.out)⟩⟩
                              case rest =>
                                clear HC33
                                try clear c1
                                try clear p1
                                try clear q1
                                try clear hx1
                                try clear c2
                                try clear p2
                                try clear q2
                                try clear hx2
                                try clear c3
                                try clear c6
                                try clear p6
                                try clear c11
                                try clear c14
                                try clear c15
                                try clear c15b0
                                try clear c16
                                try clear c16b0
                                try clear c16b1
                                try clear c19
                                try clear c19b0
                                try clear p19
                                try clear q19
                                try clear hx19
                                try clear c20
                                try clear c20b0
                                try clear p20
                                try clear q20
                                try clear hx20
                                try clear c27
                                try clear c27b0
                                try clear c27b1
                                try clear c29
                                try clear c31
                                try clear c31b0
                                try clear c32
                                try clear c32b0
                                try clear c34
                                try clear hcz18_0
                                try clear hcz18_1
                                try clear hcz18_2
                                try clear hcz18_3
                                try clear hcz24_0
                                try clear hcz24_1
                                try clear hcz24_2
                                try clear hcz24_3
                                try clear hcz26_0
                                try clear hcz26_1
                                try clear hcz26_2
                                try clear hcz26_3
                                try clear hcz28_0
                                try clear hcz28_1
                                try clear hcz28_2
                                try clear hcz28_3
                                try clear hcz9_0
                                try clear hcz9_1
                                try clear hcz9_2
                                try clear hcz9_3
                                try clear hfz18_0
                                try clear hfz18_1
                                try clear hfz18_2
                                try clear hfz18_3
                                try clear hfz24_0
                                try clear hfz24_1
                                try clear hfz24_2
                                try clear hfz24_3
                                try clear hfz26_0
                                try clear hfz26_1
                                try clear hfz26_2
                                try clear hfz26_3
                                try clear hfz28_0
                                try clear hfz28_1
                                try clear hfz28_2
                                try clear hfz28_3
                                try clear hfz9_0
                                try clear hfz9_1
                                try clear hfz9_2
                                try clear hfz9_3
                                try clear hx196_0
                                try clear hx202_0
                                try clear p1
                                try clear p19
                                try clear p196
                                try clear p2
                                try clear p20
                                try clear p202
                                try clear p6
                                try clear q1
                                try clear q19
                                try clear q196
                                try clear q2
                                try clear q20
                                try clear q202
                                obtain ⟨kq, x87_32, rfl, HA, HJ32, BK187, HB⟩ := hcut
                                cases kq with
                                | zero => exact absurd HA.out (by simp [precinctlaw14_NodeEnds.j5])
                                | succ kj32 =>
                                  have H := HA.out
                                  clear HA
                                  simp only [precinctlaw14_NodeEnds.j5] at H
                                  by_cases c35 : x87_32 = true
                                  · subst c35
                                    have H1 : ((node_State_Expire.f kj32 t197 t198 t199 t200 (wrap64 (x9_16 + 5)) (1 + ((ji4) % 20))).bind fun bt203 => (if bt203.2.2.2.2 = true then (some false) else ((node_State_Expire.f kj32 t197 t198 t199 t200 (wrap64 (x9_16 + 6)) (1 + ((ji4) % 20))).bind fun bt209 => (if bt209.2.2.2.2 = true then (precinctlaw14_NodeEnds.l0 kj32 (1 + ((ji4) % 20)) l1 l2 (wrap64 (x9_16 + 6)) (1 + ((ji4) % 20)) (wrap64 (x38_2 + 1)) bt209.1 bt209.2.1 bt209.2.2.1 bt209.2.2.2.1) else (some false))))) = some r := by rw [if_pos rfl] at H; exact H
                                    clear H
                                    have H := H1
                                    clear H1
                                    replace H := Option.bind_eq_some_iff.mp H
                                    obtain ⟨⟨t203, t204, t205, t206, t207⟩, A360, H⟩ := H
                                    replace H : (if t207 = true then (some false) else ((node_State_Expire.f kj32 t197 t198 t199 t200 (wrap64 (x9_16 + 6)) (1 + ((ji4) % 20))).bind fun bt209 => (if bt209.2.2.2.2 = true then (precinctlaw14_NodeEnds.l0 kj32 (1 + ((ji4) % 20)) l1 l2 (wrap64 (x9_16 + 6)) (1 + ((ji4) % 20)) (wrap64 (x38_2 + 1)) bt209.1 bt209.2.1 bt209.2.2.1 bt209.2.2.2.1) else (some false)))) = some r := H
                                    have A36 := Aside0.mk A360
                                    clear A360
                                    by_cases c37 : t207 = true
                                    · subst c37
                                      have H1 : (some false) = some r := by rw [if_pos rfl] at H; exact H
                                      clear H
                                      have H := H1
                                      clear H1
                                      exact absurd ((Option.some.inj H).trans hT_.out) (by decide)
                                    · replace c37 := Bool.eq_false_iff.mpr c37
                                      subst c37
                                      have H1 : ((node_State_Expire.f kj32 t197 t198 t199 t200 (wrap64 (x9_16 + 6)) (1 + ((ji4) % 20))).bind fun bt209 => (if bt209.2.2.2.2 = true then (precinctlaw14_NodeEnds.l0 kj32 (1 + ((ji4) % 20)) l1 l2 (wrap64 (x9_16 + 6)) (1 + ((ji4) % 20)) (wrap64 (x38_2 + 1)) bt209.1 bt209.2.1 bt209.2.2.1 bt209.2.2.2.1) else (some false))) = some r := by rw [if_neg (show ¬ (false = true) by decide)] at H; exact H
                                      clear H
                                      have H := H1
                                      clear H1
                                      replace H := Option.bind_eq_some_iff.mp H
                                      obtain ⟨⟨t209, t210, t211, t212, t213⟩, A380, H⟩ := H
                                      replace H : (if t213 = true then (precinctlaw14_NodeEnds.l0 kj32 (1 + ((ji4) % 20)) l1 l2 (wrap64 (x9_16 + 6)) (1 + ((ji4) % 20)) (wrap64 (x38_2 + 1)) t209 t210 t211 t212) else (some false)) = some r := H
                                      have A38 := Aside0.mk A380
                                      clear A380
                                      by_cases c39 : t213 = true
                                      · subst c39
                                        have H1 : (precinctlaw14_NodeEnds.l0 kj32 (1 + ((ji4) % 20)) l1 l2 (wrap64 (x9_16 + 6)) (1 + ((ji4) % 20)) (wrap64 (x38_2 + 1)) t209 t210 t211 t212) = some r := by rw [if_pos rfl] at H; exact H
                                        clear H
                                        have H := H1
                                        clear H1
                                        have H' := Aside0.mk H
                                        clear H
                                        have hcz40_0 : wc.cell? ⟨gb187, 0, none⟩ = some (.int .i64 t197) := (blk_cell BK187.out 0).trans rfl
                                        have hcz40_1 : wc.cell? ⟨gb187, 1, none⟩ = some (.int .i64 t198) := (blk_cell BK187.out 1).trans rfl
                                        have hcz40_2 : wc.cell? ⟨gb187, 2, none⟩ = some (.int .i64 t199) := (blk_cell BK187.out 2).trans rfl
                                        have hcz40_3 : wc.cell? ⟨gb187, 3, none⟩ = some (.int .i64 t200) := (blk_cell BK187.out 3).trans rfl
                                        have hfz40_0 := blk_frozen BK187.out 0
                                        have hfz40_1 := blk_frozen BK187.out 1
                                        have hfz40_2 := blk_frozen BK187.out 2
                                        have hfz40_3 := blk_frozen BK187.out 3
                                        go_wp2_with (first | ((with_reducible refine gate_callee (f := 17) rfl ?_); refine goesL_ (some 93) rfl rfl Try.func17 (by kernel_rfl) rfl #[.agg #[.int .i64 t197, .int .i64 t198, .int .i64 t199, .int .i64 t200], .int .i64 (wrap64 (x9_16 + 5)), .int .i64 (1 + ((ji4) % 20))] rfl (by (try simp only [List.map_toArray, List.map_cons, List.map_nil]); first | done | (simp only [hji4]; rfl) | rfl | (simp only [List.length_drop, List.length_take]; rfl)) ?_; (with_reducible refine (node_State_Expire.calls kj32 t197 t198 t199 t200 (wrap64 (x9_16 + 5)) (1 + ((ji4) % 20)) t203 t204 t205 t206 false _ A36.out).mono ?_); rintro e w41 ⟨rfl, hb⟩; refine ⟨_, rfl, ?_⟩; have n0_ := Aside0.mk (blk_below (g := gb187) (o := .cells #[.int .i64 t197, .int .i64 t198, .int .i64 t199, .int .i64 t200] 32 (0, 0)) (by (with_reducible repeat (first | refine blk_drewN ?_ _ | refine blk_drew ?_ | refine blk_alloc ?_ _)); exact BK187.out) hb); have n1_ := Aside0.mk (below_step (by repeat (first | (with_reducible first | exact HB.out | apply below_alloc | apply pw_below_drewN | apply below_drew1 | refine below_set ?_ GE187.out) | exact HB.out)) hb); clear BK187; clear HB; have BK187 := n0_; have HB := n1_; clear n0_ n1_; (try clear hb); (try clear hb2); (try clear hk); (try clear hi)) | ((with_reducible refine gate_dst (N := 12) rfl ?_); refine box_event ?hg (N := 12) ?hd (cs := #[.int .i64 0, .int .i64 0, .int .i64 0, .int .i64 0]) (t := 32) ?hr ?_; (case hd => rfl); (case hg => rfl); (case hr => first | (go_simp; done) | (go_simp; rfl)); intro gb208 hg w42 hbox hb; have n0_ := Aside0.mk (blk_below (g := gb187) (o := .cells #[.int .i64 t197, .int .i64 t198, .int .i64 t199, .int .i64 t200] 32 (0, 0)) (by (with_reducible repeat (first | refine blk_drewN ?_ _ | refine blk_drew ?_ | refine blk_alloc ?_ _)); exact BK187.out) hb); have n1_ := Aside0.mk (below_step (by repeat (first | (with_reducible first | exact HB.out | apply below_alloc | apply pw_below_drewN | apply below_drew1 | refine below_set ?_ GE187.out) | exact HB.out)) hb); have n2_ := Aside0.mk (hbox); have n3_ := Aside0.mk ((by rw [hg]; exact (below_size (by repeat (first | (with_reducible first | exact HB.out | apply below_alloc | apply pw_below_drewN | apply below_drew1 | refine below_set ?_ GE187.out) | exact HB.out))) : w.heap.size ≤ gb208)); have n4_ := Aside0.mk ((by rw [hg]; exact (below_size (by repeat (first | (with_reducible first | exact HB.out | apply below_alloc | apply pw_below_drewN | apply below_drew1 | refine below_set ?_ GE187.out) | exact HB.out))) : w.heap.size ≤ gb208)); have n5_ := Aside0.mk ((by rw [hg]; exact Nat.ne_of_lt (blk_lt (g := gb187) (o := .cells #[.int .i64 t197, .int .i64 t198, .int .i64 t199, .int .i64 t200] 32 (0, 0)) (by (with_reducible repeat (first | refine blk_drewN ?_ _ | refine blk_drew ?_ | refine blk_alloc ?_ _)); exact BK187.out)) : gb187 ≠ gb208)); have n6_ := Aside0.mk ((by rw [hg]; exact Nat.ne_of_gt (blk_lt (g := gb187) (o := .cells #[.int .i64 t197, .int .i64 t198, .int .i64 t199, .int .i64 t200] 32 (0, 0)) (by (with_reducible repeat (first | refine blk_drewN ?_ _ | refine blk_drew ?_ | refine blk_alloc ?_ _)); exact BK187.out)) : gb208 ≠ gb187)); clear BK187; clear HB; have BK187 := n0_; have HB := n1_; have BK208 := n2_; have GW208 := n3_; have GE208 := n4_; have NB187_208 := n5_; have NB208_187 := n6_; clear n0_ n1_ n2_ n3_ n4_ n5_ n6_; clear hb hbox hg; have hnb43 := NB208_187.out; have hnc43 := NB187_208.out; have hcz44_0 : w42.cell? ⟨gb208, 0, none⟩ = some (.int .i64 0) := (blk_cell BK208.out 0).trans rfl; have hcz44_1 : w42.cell? ⟨gb208, 1, none⟩ = some (.int .i64 0) := (blk_cell BK208.out 1).trans rfl; have hcz44_2 : w42.cell? ⟨gb208, 2, none⟩ = some (.int .i64 0) := (blk_cell BK208.out 2).trans rfl; have hcz44_3 : w42.cell? ⟨gb208, 3, none⟩ = some (.int .i64 0) := (blk_cell BK208.out 3).trans rfl; have hfz44_0 := blk_frozen BK208.out 0; have hfz44_1 := blk_frozen BK208.out 1; have hfz44_2 := blk_frozen BK208.out 2; have hfz44_3 := blk_frozen BK208.out 3; have hcz45_0 : w42.cell? ⟨gb187, 0, none⟩ = some (.int .i64 t197) := (blk_cell BK187.out 0).trans rfl; have hcz45_1 : w42.cell? ⟨gb187, 1, none⟩ = some (.int .i64 t198) := (blk_cell BK187.out 1).trans rfl; have hcz45_2 : w42.cell? ⟨gb187, 2, none⟩ = some (.int .i64 t199) := (blk_cell BK187.out 2).trans rfl; have hcz45_3 : w42.cell? ⟨gb187, 3, none⟩ = some (.int .i64 t200) := (blk_cell BK187.out 3).trans rfl; have hfz45_0 := blk_frozen BK187.out 0; have hfz45_1 := blk_frozen BK187.out 1; have hfz45_2 := blk_frozen BK187.out 2; have hfz45_3 := blk_frozen BK187.out 3) | ((with_reducible refine gate_callee (f := 17) rfl ?_); refine goesL_ (some 103) rfl rfl Try.func17 (by kernel_rfl) rfl #[.agg #[.int .i64 t197, .int .i64 t198, .int .i64 t199, .int .i64 t200], .int .i64 (wrap64 (x9_16 + 6)), .int .i64 (1 + ((ji4) % 20))] rfl (by (try simp only [List.map_toArray, List.map_cons, List.map_nil]); first | done | (simp only [hji4]; rfl) | rfl | (simp only [List.length_drop, List.length_take]; rfl)) ?_; (with_reducible refine (node_State_Expire.calls kj32 t197 t198 t199 t200 (wrap64 (x9_16 + 6)) (1 + ((ji4) % 20)) t209 t210 t211 t212 true _ A38.out).mono ?_); rintro e w46 ⟨rfl, hb⟩; refine ⟨_, rfl, ?_⟩; have n0_ := Aside0.mk (blk_below (g := gb187) (o := .cells #[.int .i64 t197, .int .i64 t198, .int .i64 t199, .int .i64 t200] 32 (0, 0)) (by (with_reducible repeat (first | refine blk_drewN ?_ _ | refine blk_drew ?_ | refine blk_alloc ?_ _)); refine blk_far ?_ NB187_208.out _; (with_reducible repeat (first | refine blk_drewN ?_ _ | refine blk_drew ?_ | refine blk_alloc ?_ _)); refine blk_far ?_ NB187_208.out _; (with_reducible repeat (first | refine blk_drewN ?_ _ | refine blk_drew ?_ | refine blk_alloc ?_ _)); refine blk_far ?_ NB187_208.out _; (with_reducible repeat (first | refine blk_drewN ?_ _ | refine blk_drew ?_ | refine blk_alloc ?_ _)); refine blk_far ?_ NB187_208.out _; (with_reducible repeat (first | refine blk_drewN ?_ _ | refine blk_drew ?_ | refine blk_alloc ?_ _)); exact BK187.out) hb); have n1_ := Aside0.mk (blk_below (g := gb208) (o := .cells #[.int .i64 t203, .int .i64 t204, .int .i64 t205, .int .i64 t206] 32 (0, 0)) (by (with_reducible repeat (first | refine blk_drewN ?_ _ | refine blk_drew ?_ | refine blk_alloc ?_ _)); refine blk_put (cs := #[.int .i64 t203, .int .i64 t204, .int .i64 t205, .int .i64 0]) ?_ 3 _ rfl; (with_reducible repeat (first | refine blk_drewN ?_ _ | refine blk_drew ?_ | refine blk_alloc ?_ _)); refine blk_put (cs := #[.int .i64 t203, .int .i64 t204, .int .i64 0, .int .i64 0]) ?_ 2 _ rfl; (with_reducible repeat (first | refine blk_drewN ?_ _ | refine blk_drew ?_ | refine blk_alloc ?_ _)); refine blk_put (cs := #[.int .i64 t203, .int .i64 0, .int .i64 0, .int .i64 0]) ?_ 1 _ rfl; (with_reducible repeat (first | refine blk_drewN ?_ _ | refine blk_drew ?_ | refine blk_alloc ?_ _)); refine blk_put (cs := #[.int .i64 0, .int .i64 0, .int .i64 0, .int .i64 0]) ?_ 0 _ rfl; (with_reducible repeat (first | refine blk_drewN ?_ _ | refine blk_drew ?_ | refine blk_alloc ?_ _)); exact BK208.out) hb); have n2_ := Aside0.mk (below_step (by repeat (first | (with_reducible first | exact HB.out | apply below_alloc | apply pw_below_drewN | apply below_drew1 | refine below_set ?_ GE187.out | refine below_set ?_ GE208.out) | exact HB.out)) hb); clear BK187; clear BK208; clear HB; have BK187 := n0_; have BK208 := n1_; have HB := n2_; clear n0_ n1_ n2_; (try clear hb); (try clear hb2); (try clear hk); (try clear hi); have hcz47_0 : w46.cell? ⟨gb187, 0, none⟩ = some (.int .i64 t197) := (blk_cell BK187.out 0).trans rfl; have hcz47_1 : w46.cell? ⟨gb187, 1, none⟩ = some (.int .i64 t198) := (blk_cell BK187.out 1).trans rfl; have hcz47_2 : w46.cell? ⟨gb187, 2, none⟩ = some (.int .i64 t199) := (blk_cell BK187.out 2).trans rfl; have hcz47_3 : w46.cell? ⟨gb187, 3, none⟩ = some (.int .i64 t200) := (blk_cell BK187.out 3).trans rfl; have hfz47_0 := blk_frozen BK187.out 0; have hfz47_1 := blk_frozen BK187.out 1; have hfz47_2 := blk_frozen BK187.out 2; have hfz47_3 := blk_frozen BK187.out 3))
                                        go_roundg kj32
                                        case measure => have := HJ5.out; have := HK2.out; have := HJ16.out; have := HJ22.out; have := HJ29.out; have := HJ32.out; omega
                                        case rel => exact ⟨(wrap64 (x9_16 + 6)), (wrap64 (x38_2 + 1)), (t209), (t210), (t211), (t212), (by first | rfl | (simp; done) | (simp [*]; done)), (by first | rfl | (simp; done) | (simp [*]; done)), H', ⟨by have := HJ5.out; have := HK2.out; have := HJ16.out; have := HJ22.out; have := HJ29.out; have := HJ32.out; omega⟩, ⟨by (with_reducible repeat (first | refine blk_drewN ?_ _ | refine blk_drew ?_ | refine blk_alloc ?_ _)); refine blk_put (cs := #[.int .i64 t209, .int .i64 t210, .int .i64 t211, .int .i64 t200]) ?_ 3 _ rfl; (with_reducible repeat (first | refine blk_drewN ?_ _ | refine blk_drew ?_ | refine blk_alloc ?_ _)); refine blk_put (cs := #[.int .i64 t209, .int .i64 t210, .int .i64 t199, .int .i64 t200]) ?_ 2 _ rfl; (with_reducible repeat (first | refine blk_drewN ?_ _ | refine blk_drew ?_ | refine blk_alloc ?_ _)); refine blk_put (cs := #[.int .i64 t209, .int .i64 t198, .int .i64 t199, .int .i64 t200]) ?_ 1 _ rfl; (with_reducible repeat (first | refine blk_drewN ?_ _ | refine blk_drew ?_ | refine blk_alloc ?_ _)); refine blk_put (cs := #[.int .i64 t197, .int .i64 t198, .int .i64 t199, .int .i64 t200]) ?_ 0 _ rfl; (with_reducible repeat (first | refine blk_drewN ?_ _ | refine blk_drew ?_ | refine blk_alloc ?_ _)); exact BK187.out⟩, ⟨by repeat (first | (with_reducible first | exact HB.out | apply below_alloc | apply pw_below_drewN | apply below_drew1 | refine below_set ?_ GE187.out | refine below_set ?_ GE208.out) | exact HB.out)⟩⟩
                                      · replace c39 := Bool.eq_false_iff.mpr c39
                                        subst c39
                                        have H1 : (some false) = some r := by rw [if_neg (show ¬ (false = true) by decide)] at H; exact H
                                        clear H
                                        have H := H1
                                        clear H1
                                        exact absurd ((Option.some.inj H).trans hT_.out) (by decide)
                                  · replace c35 := Bool.eq_false_iff.mpr c35
                                    subst c35
                                    have H1 : ((node_State_Finish.f kj32 t197 t198 t199 t200 (wrap64 (x9_16 + 5)) (wrap64 (x38_2 + 1)) (1 + ((ji4) % 20)) x11_29).bind fun bt214 => (if bt214.2.2.2.2 = 0 then (if x11_29 = true then ((node_State_Lease.f bt214.1 bt214.2.1 bt214.2.2.1 bt214.2.2.2.1 x9_16 5).bind fun bt219 => ((node_State_Finish.f kj32 bt214.1 bt214.2.1 bt214.2.2.1 bt214.2.2.2.1 x9_16 (wrap64 (x38_2 + 1)) (1 + ((ji4) % 20)) true).bind fun bt225 => ((node_State_Expire.f kj32 bt214.1 bt214.2.1 bt214.2.2.1 bt214.2.2.2.1 1152921504606846976 (1 + ((ji4) % 20))).bind fun bt231 => (if bt214.1 = 4 then ((node_State_Over.f bt214.1 bt214.2.1 bt214.2.2.1 bt214.2.2.2.1).bind fun t237 => (if t237 = true then (if bt219.2.2.2.2 = 36 then (if bt225.2.2.2.2 = 36 then (some (!bt231.2.2.2.2)) else (some false)) else (some false)) else (some false))) else (some false))))) else (precinctlaw14_NodeEnds.l0 kj32 (1 + ((ji4) % 20)) l1 l2 x9_16 (1 + ((ji4) % 20)) (wrap64 (x38_2 + 1)) bt214.1 bt214.2.1 bt214.2.2.1 bt214.2.2.2.1)) else (some false))) = some r := by rw [if_neg (show ¬ (false = true) by decide)] at H; exact H
                                    clear H
                                    have H := H1
                                    clear H1
                                    replace H := Option.bind_eq_some_iff.mp H
                                    obtain ⟨⟨t214, t215, t216, t217, t218⟩, A480, H⟩ := H
                                    replace H : (if t218 = 0 then (if x11_29 = true then ((node_State_Lease.f t214 t215 t216 t217 x9_16 5).bind fun bt219 => ((node_State_Finish.f kj32 t214 t215 t216 t217 x9_16 (wrap64 (x38_2 + 1)) (1 + ((ji4) % 20)) true).bind fun bt225 => ((node_State_Expire.f kj32 t214 t215 t216 t217 1152921504606846976 (1 + ((ji4) % 20))).bind fun bt231 => (if t214 = 4 then ((node_State_Over.f t214 t215 t216 t217).bind fun t237 => (if t237 = true then (if bt219.2.2.2.2 = 36 then (if bt225.2.2.2.2 = 36 then (some (!bt231.2.2.2.2)) else (some false)) else (some false)) else (some false))) else (some false))))) else (precinctlaw14_NodeEnds.l0 kj32 (1 + ((ji4) % 20)) l1 l2 x9_16 (1 + ((ji4) % 20)) (wrap64 (x38_2 + 1)) t214 t215 t216 t217)) else (some false)) = some r := H
                                    have A48 := Aside0.mk A480
                                    clear A480
                                    by_cases c49 : t218 = 0
                                    · rw [if_pos c49] at H
                                      have c49b0 : (t218 == 0) = true := beq_iff_eq.mpr c49
                                      have c49b1 : (t218 != 0) = false := bne_eq_false_iff_eq.mpr c49
                                      clear c49
                                      by_cases c50 : x11_29 = true
                                      · subst c50
                                        have H1 : ((node_State_Lease.f t214 t215 t216 t217 x9_16 5).bind fun bt219 => ((node_State_Finish.f kj32 t214 t215 t216 t217 x9_16 (wrap64 (x38_2 + 1)) (1 + ((ji4) % 20)) true).bind fun bt225 => ((node_State_Expire.f kj32 t214 t215 t216 t217 1152921504606846976 (1 + ((ji4) % 20))).bind fun bt231 => (if t214 = 4 then ((node_State_Over.f t214 t215 t216 t217).bind fun t237 => (if t237 = true then (if bt219.2.2.2.2 = 36 then (if bt225.2.2.2.2 = 36 then (some (!bt231.2.2.2.2)) else (some false)) else (some false)) else (some false))) else (some false))))) = some r := by rw [if_pos rfl] at H; exact H
                                        clear H
                                        have H := H1
                                        clear H1
                                        replace H := Option.bind_eq_some_iff.mp H
                                        obtain ⟨⟨t219, t220, t221, t222, t223⟩, A510, H⟩ := H
                                        replace H : ((node_State_Finish.f kj32 t214 t215 t216 t217 x9_16 (wrap64 (x38_2 + 1)) (1 + ((ji4) % 20)) true).bind fun bt225 => ((node_State_Expire.f kj32 t214 t215 t216 t217 1152921504606846976 (1 + ((ji4) % 20))).bind fun bt231 => (if t214 = 4 then ((node_State_Over.f t214 t215 t216 t217).bind fun t237 => (if t237 = true then (if t223 = 36 then (if bt225.2.2.2.2 = 36 then (some (!bt231.2.2.2.2)) else (some false)) else (some false)) else (some false))) else (some false)))) = some r := H
                                        have A51 := Aside0.mk A510
                                        clear A510
                                        replace H := Option.bind_eq_some_iff.mp H
                                        obtain ⟨⟨t225, t226, t227, t228, t229⟩, A520, H⟩ := H
                                        replace H : ((node_State_Expire.f kj32 t214 t215 t216 t217 1152921504606846976 (1 + ((ji4) % 20))).bind fun bt231 => (if t214 = 4 then ((node_State_Over.f t214 t215 t216 t217).bind fun t237 => (if t237 = true then (if t223 = 36 then (if t229 = 36 then (some (!bt231.2.2.2.2)) else (some false)) else (some false)) else (some false))) else (some false))) = some r := H
                                        have A52 := Aside0.mk A520
                                        clear A520
                                        replace H := Option.bind_eq_some_iff.mp H
                                        obtain ⟨⟨t231, t232, t233, t234, t235⟩, A530, H⟩ := H
                                        replace H : (if t214 = 4 then ((node_State_Over.f t214 t215 t216 t217).bind fun t237 => (if t237 = true then (if t223 = 36 then (if t229 = 36 then (some (!t235)) else (some false)) else (some false)) else (some false))) else (some false)) = some r := H
                                        have A53 := Aside0.mk A530
                                        clear A530
                                        by_cases c54 : t214 = 4
                                        · rw [if_pos c54] at H
                                          have c54b0 : (t214 == 4) = true := beq_iff_eq.mpr c54
                                          have c54b1 : (t214 != 4) = false := bne_eq_false_iff_eq.mpr c54
                                          clear c54
                                          replace H := Option.bind_eq_some_iff.mp H
                                          obtain ⟨t237, A550, H⟩ := H
                                          replace H : (if t237 = true then (if t223 = 36 then (if t229 = 36 then (some (!t235)) else (some false)) else (some false)) else (some false)) = some r := H
                                          have A55 := Aside0.mk A550
                                          clear A550
                                          by_cases c56 : t237 = true
                                          · subst c56
                                            have H1 : (if t223 = 36 then (if t229 = 36 then (some (!t235)) else (some false)) else (some false)) = some r := by rw [if_pos rfl] at H; exact H
                                            clear H
                                            have H := H1
                                            clear H1
                                            by_cases c57 : t223 = 36
                                            · rw [if_pos c57] at H
                                              have c57b0 : (t223 == 36) = true := beq_iff_eq.mpr c57
                                              have c57b1 : (t223 != 36) = false := bne_eq_false_iff_eq.mpr c57
                                              clear c57
                                              by_cases c58 : t229 = 36
                                              · rw [if_pos c58] at H
                                                have c58b0 : (t229 == 36) = true := beq_iff_eq.mpr c58
                                                have c58b1 : (t229 != 36) = false := bne_eq_false_iff_eq.mpr c58
                                                clear c58
                                                obtain rfl := Option.some.inj H
                                                have hcz59_0 : wc.cell? ⟨gb187, 0, none⟩ = some (.int .i64 t197) := (blk_cell BK187.out 0).trans rfl
                                                have hcz59_1 : wc.cell? ⟨gb187, 1, none⟩ = some (.int .i64 t198) := (blk_cell BK187.out 1).trans rfl
                                                have hcz59_2 : wc.cell? ⟨gb187, 2, none⟩ = some (.int .i64 t199) := (blk_cell BK187.out 2).trans rfl
                                                have hcz59_3 : wc.cell? ⟨gb187, 3, none⟩ = some (.int .i64 t200) := (blk_cell BK187.out 3).trans rfl
                                                have hfz59_0 := blk_frozen BK187.out 0
                                                have hfz59_1 := blk_frozen BK187.out 1
                                                have hfz59_2 := blk_frozen BK187.out 2
                                                have hfz59_3 := blk_frozen BK187.out 3
                                                go_wp2_with (first | ((with_reducible refine gate_callee (f := 13) rfl ?_); refine goesL_ (some 116) rfl rfl Try.func13 (by kernel_rfl) rfl #[.agg #[.int .i64 t197, .int .i64 t198, .int .i64 t199, .int .i64 t200], .int .i64 (wrap64 (x9_16 + 5)), .int .i64 (wrap64 (x38_2 + 1)), .int .i64 (1 + ((ji4) % 20)), .bool true] rfl (by (try simp only [List.map_toArray, List.map_cons, List.map_nil]); first | done | (simp only [hji4]; rfl) | rfl | (simp only [List.length_drop, List.length_take]; rfl)) ?_; (with_reducible refine (node_State_Finish.calls kj32 t197 t198 t199 t200 (wrap64 (x9_16 + 5)) (wrap64 (x38_2 + 1)) (1 + ((ji4) % 20)) true t214 t215 t216 t217 t218 _ A48.out).mono ?_); rintro e w60 ⟨rfl, hb⟩; refine ⟨_, rfl, ?_⟩; have n0_ := Aside0.mk (blk_below (g := gb187) (o := .cells #[.int .i64 t197, .int .i64 t198, .int .i64 t199, .int .i64 t200] 32 (0, 0)) (by (with_reducible repeat (first | refine blk_drewN ?_ _ | refine blk_drew ?_ | refine blk_alloc ?_ _)); exact BK187.out) hb); have n1_ := Aside0.mk (below_step (by repeat (first | (with_reducible first | exact HB.out | apply below_alloc | apply pw_below_drewN | apply below_drew1 | refine below_set ?_ GE187.out) | exact HB.out)) hb); clear BK187; clear HB; have BK187 := n0_; have HB := n1_; clear n0_ n1_; (try clear hb); (try clear hb2); (try clear hk); (try clear hi); have hcz61_0 : w60.cell? ⟨gb187, 0, none⟩ = some (.int .i64 t197) := (blk_cell BK187.out 0).trans rfl; have hcz61_1 : w60.cell? ⟨gb187, 1, none⟩ = some (.int .i64 t198) := (blk_cell BK187.out 1).trans rfl; have hcz61_2 : w60.cell? ⟨gb187, 2, none⟩ = some (.int .i64 t199) := (blk_cell BK187.out 2).trans rfl; have hcz61_3 : w60.cell? ⟨gb187, 3, none⟩ = some (.int .i64 t200) := (blk_cell BK187.out 3).trans rfl; have hfz61_0 := blk_frozen BK187.out 0; have hfz61_1 := blk_frozen BK187.out 1; have hfz61_2 := blk_frozen BK187.out 2; have hfz61_3 := blk_frozen BK187.out 3) | ((with_reducible refine gate_callee (f := 20) rfl ?_); refine goesL_ (some 125) rfl rfl Try.func20 (by kernel_rfl) rfl #[.agg #[.int .i64 t214, .int .i64 t215, .int .i64 t216, .int .i64 t217], .int .i64 x9_16, .int .i64 5] rfl (by (try simp only [List.map_toArray, List.map_cons, List.map_nil]); first | done | rfl | (simp only [List.length_drop, List.length_take]; rfl)) ?_; (with_reducible refine (node_State_Lease.calls t214 t215 t216 t217 x9_16 5 t219 t220 t221 t222 t223 _ A51.out).mono ?_); rintro e w62 ⟨rfl, hb⟩; refine ⟨_, rfl, ?_⟩; have n0_ := Aside0.mk (blk_below (g := gb187) (o := .cells #[.int .i64 t214, .int .i64 t215, .int .i64 t216, .int .i64 t217] 32 (0, 0)) (by (with_reducible repeat (first | refine blk_drewN ?_ _ | refine blk_drew ?_ | refine blk_alloc ?_ _)); refine blk_put (cs := #[.int .i64 t214, .int .i64 t215, .int .i64 t216, .int .i64 t200]) ?_ 3 _ rfl; (with_reducible repeat (first | refine blk_drewN ?_ _ | refine blk_drew ?_ | refine blk_alloc ?_ _)); refine blk_put (cs := #[.int .i64 t214, .int .i64 t215, .int .i64 t199, .int .i64 t200]) ?_ 2 _ rfl; (with_reducible repeat (first | refine blk_drewN ?_ _ | refine blk_drew ?_ | refine blk_alloc ?_ _)); refine blk_put (cs := #[.int .i64 t214, .int .i64 t198, .int .i64 t199, .int .i64 t200]) ?_ 1 _ rfl; (with_reducible repeat (first | refine blk_drewN ?_ _ | refine blk_drew ?_ | refine blk_alloc ?_ _)); refine blk_put (cs := #[.int .i64 t197, .int .i64 t198, .int .i64 t199, .int .i64 t200]) ?_ 0 _ rfl; (with_reducible repeat (first | refine blk_drewN ?_ _ | refine blk_drew ?_ | refine blk_alloc ?_ _)); exact BK187.out) hb); have n1_ := Aside0.mk (below_step (by repeat (first | (with_reducible first | exact HB.out | apply below_alloc | apply pw_below_drewN | apply below_drew1 | refine below_set ?_ GE187.out) | exact HB.out)) hb); clear BK187; clear HB; have BK187 := n0_; have HB := n1_; clear n0_ n1_; (try clear hb); (try clear hb2); (try clear hk); (try clear hi)) | ((with_reducible refine gate_dst (N := 14) rfl ?_); refine box_event ?hg (N := 14) ?hd (cs := #[.int .i64 0, .int .i64 0, .int .i64 0, .int .i64 0]) (t := 32) ?hr ?_; (case hd => rfl); (case hg => rfl); (case hr => first | (go_simp; done) | (go_simp; rfl)); intro gb224 hg w63 hbox hb; have n0_ := Aside0.mk (blk_below (g := gb187) (o := .cells #[.int .i64 t214, .int .i64 t215, .int .i64 t216, .int .i64 t217] 32 (0, 0)) (by (with_reducible repeat (first | refine blk_drewN ?_ _ | refine blk_drew ?_ | refine blk_alloc ?_ _)); exact BK187.out) hb); have n1_ := Aside0.mk (below_step (by repeat (first | (with_reducible first | exact HB.out | apply below_alloc | apply pw_below_drewN | apply below_drew1 | refine below_set ?_ GE187.out) | exact HB.out)) hb); have n2_ := Aside0.mk (hbox); have n3_ := Aside0.mk ((by rw [hg]; exact (below_size (by repeat (first | (with_reducible first | exact HB.out | apply below_alloc | apply pw_below_drewN | apply below_drew1 | refine below_set ?_ GE187.out) | exact HB.out))) : w.heap.size ≤ gb224)); have n4_ := Aside0.mk ((by rw [hg]; exact (below_size (by repeat (first | (with_reducible first | exact HB.out | apply below_alloc | apply pw_below_drewN | apply below_drew1 | refine below_set ?_ GE187.out) | exact HB.out))) : w.heap.size ≤ gb224)); have n5_ := Aside0.mk ((by rw [hg]; exact Nat.ne_of_lt (blk_lt (g := gb187) (o := .cells #[.int .i64 t214, .int .i64 t215, .int .i64 t216, .int .i64 t217] 32 (0, 0)) (by (with_reducible repeat (first | refine blk_drewN ?_ _ | refine blk_drew ?_ | refine blk_alloc ?_ _)); exact BK187.out)) : gb187 ≠ gb224)); have n6_ := Aside0.mk ((by rw [hg]; exact Nat.ne_of_gt (blk_lt (g := gb187) (o := .cells #[.int .i64 t214, .int .i64 t215, .int .i64 t216, .int .i64 t217] 32 (0, 0)) (by (with_reducible repeat (first | refine blk_drewN ?_ _ | refine blk_drew ?_ | refine blk_alloc ?_ _)); exact BK187.out)) : gb224 ≠ gb187)); clear BK187; clear HB; have BK187 := n0_; have HB := n1_; have BK224 := n2_; have GW224 := n3_; have GE224 := n4_; have NB187_224 := n5_; have NB224_187 := n6_; clear n0_ n1_ n2_ n3_ n4_ n5_ n6_; clear hb hbox hg; have hnb64 := NB224_187.out; have hnc64 := NB187_224.out; have hcz65_0 : w63.cell? ⟨gb224, 0, none⟩ = some (.int .i64 0) := (blk_cell BK224.out 0).trans rfl; have hcz65_1 : w63.cell? ⟨gb224, 1, none⟩ = some (.int .i64 0) := (blk_cell BK224.out 1).trans rfl; have hcz65_2 : w63.cell? ⟨gb224, 2, none⟩ = some (.int .i64 0) := (blk_cell BK224.out 2).trans rfl; have hcz65_3 : w63.cell? ⟨gb224, 3, none⟩ = some (.int .i64 0) := (blk_cell BK224.out 3).trans rfl; have hfz65_0 := blk_frozen BK224.out 0; have hfz65_1 := blk_frozen BK224.out 1; have hfz65_2 := blk_frozen BK224.out 2; have hfz65_3 := blk_frozen BK224.out 3; have hcz66_0 : w63.cell? ⟨gb187, 0, none⟩ = some (.int .i64 t214) := (blk_cell BK187.out 0).trans rfl; have hcz66_1 : w63.cell? ⟨gb187, 1, none⟩ = some (.int .i64 t215) := (blk_cell BK187.out 1).trans rfl; have hcz66_2 : w63.cell? ⟨gb187, 2, none⟩ = some (.int .i64 t216) := (blk_cell BK187.out 2).trans rfl; have hcz66_3 : w63.cell? ⟨gb187, 3, none⟩ = some (.int .i64 t217) := (blk_cell BK187.out 3).trans rfl; have hfz66_0 := blk_frozen BK187.out 0; have hfz66_1 := blk_frozen BK187.out 1; have hfz66_2 := blk_frozen BK187.out 2; have hfz66_3 := blk_frozen BK187.out 3) | ((with_reducible refine gate_callee (f := 13) rfl ?_); refine goesL_ (some 134) rfl rfl Try.func13 (by kernel_rfl) rfl #[.agg #[.int .i64 t214, .int .i64 t215, .int .i64 t216, .int .i64 t217], .int .i64 x9_16, .int .i64 (wrap64 (x38_2 + 1)), .int .i64 (1 + ((ji4) % 20)), .bool true] rfl (by (try simp only [List.map_toArray, List.map_cons, List.map_nil]); first | done | (simp only [hji4]; rfl) | rfl | (simp only [List.length_drop, List.length_take]; rfl)) ?_; (with_reducible refine (node_State_Finish.calls kj32 t214 t215 t216 t217 x9_16 (wrap64 (x38_2 + 1)) (1 + ((ji4) % 20)) true t225 t226 t227 t228 t229 _ A52.out).mono ?_); rintro e w67 ⟨rfl, hb⟩; refine ⟨_, rfl, ?_⟩; have n0_ := Aside0.mk (blk_below (g := gb187) (o := .cells #[.int .i64 t214, .int .i64 t215, .int .i64 t216, .int .i64 t217] 32 (0, 0)) (by (with_reducible repeat (first | refine blk_drewN ?_ _ | refine blk_drew ?_ | refine blk_alloc ?_ _)); refine blk_far ?_ NB187_224.out _; (with_reducible repeat (first | refine blk_drewN ?_ _ | refine blk_drew ?_ | refine blk_alloc ?_ _)); refine blk_far ?_ NB187_224.out _; (with_reducible repeat (first | refine blk_drewN ?_ _ | refine blk_drew ?_ | refine blk_alloc ?_ _)); refine blk_far ?_ NB187_224.out _; (with_reducible repeat (first | refine blk_drewN ?_ _ | refine blk_drew ?_ | refine blk_alloc ?_ _)); refine blk_far ?_ NB187_224.out _; (with_reducible repeat (first | refine blk_drewN ?_ _ | refine blk_drew ?_ | refine blk_alloc ?_ _)); exact BK187.out) hb); have n1_ := Aside0.mk (blk_below (g := gb224) (o := .cells #[.int .i64 t219, .int .i64 t220, .int .i64 t221, .int .i64 t222] 32 (0, 0)) (by (with_reducible repeat (first | refine blk_drewN ?_ _ | refine blk_drew ?_ | refine blk_alloc ?_ _)); refine blk_put (cs := #[.int .i64 t219, .int .i64 t220, .int .i64 t221, .int .i64 0]) ?_ 3 _ rfl; (with_reducible repeat (first | refine blk_drewN ?_ _ | refine blk_drew ?_ | refine blk_alloc ?_ _)); refine blk_put (cs := #[.int .i64 t219, .int .i64 t220, .int .i64 0, .int .i64 0]) ?_ 2 _ rfl; (with_reducible repeat (first | refine blk_drewN ?_ _ | refine blk_drew ?_ | refine blk_alloc ?_ _)); refine blk_put (cs := #[.int .i64 t219, .int .i64 0, .int .i64 0, .int .i64 0]) ?_ 1 _ rfl; (with_reducible repeat (first | refine blk_drewN ?_ _ | refine blk_drew ?_ | refine blk_alloc ?_ _)); refine blk_put (cs := #[.int .i64 0, .int .i64 0, .int .i64 0, .int .i64 0]) ?_ 0 _ rfl; (with_reducible repeat (first | refine blk_drewN ?_ _ | refine blk_drew ?_ | refine blk_alloc ?_ _)); exact BK224.out) hb); have n2_ := Aside0.mk (below_step (by repeat (first | (with_reducible first | exact HB.out | apply below_alloc | apply pw_below_drewN | apply below_drew1 | refine below_set ?_ GE187.out | refine below_set ?_ GE224.out) | exact HB.out)) hb); clear BK187; clear BK224; clear HB; have BK187 := n0_; have BK224 := n1_; have HB := n2_; clear n0_ n1_ n2_; (try clear hb); (try clear hb2); (try clear hk); (try clear hi)) | ((with_reducible refine gate_dst (N := 16) rfl ?_); refine box_event ?hg (N := 16) ?hd (cs := #[.int .i64 0, .int .i64 0, .int .i64 0, .int .i64 0]) (t := 32) ?hr ?_; (case hd => rfl); (case hg => rfl); (case hr => first | (go_simp; done) | (go_simp; rfl)); intro gb230 hg w68 hbox hb; have n0_ := Aside0.mk (blk_below (g := gb187) (o := .cells #[.int .i64 t214, .int .i64 t215, .int .i64 t216, .int .i64 t217] 32 (0, 0)) (by (with_reducible repeat (first | refine blk_drewN ?_ _ | refine blk_drew ?_ | refine blk_alloc ?_ _)); exact BK187.out) hb); have n1_ := Aside0.mk (blk_below (g := gb224) (o := .cells #[.int .i64 t219, .int .i64 t220, .int .i64 t221, .int .i64 t222] 32 (0, 0)) (by (with_reducible repeat (first | refine blk_drewN ?_ _ | refine blk_drew ?_ | refine blk_alloc ?_ _)); exact BK224.out) hb); have n2_ := Aside0.mk (below_step (by repeat (first | (with_reducible first | exact HB.out | apply below_alloc | apply pw_below_drewN | apply below_drew1 | refine below_set ?_ GE187.out | refine below_set ?_ GE224.out) | exact HB.out)) hb); have n3_ := Aside0.mk (hbox); have n4_ := Aside0.mk ((by rw [hg]; exact (below_size (by repeat (first | (with_reducible first | exact HB.out | apply below_alloc | apply pw_below_drewN | apply below_drew1 | refine below_set ?_ GE187.out | refine below_set ?_ GE224.out) | exact HB.out))) : w.heap.size ≤ gb230)); have n5_ := Aside0.mk ((by rw [hg]; exact (below_size (by repeat (first | (with_reducible first | exact HB.out | apply below_alloc | apply pw_below_drewN | apply below_drew1 | refine below_set ?_ GE187.out | refine below_set ?_ GE224.out) | exact HB.out))) : w.heap.size ≤ gb230)); have n6_ := Aside0.mk ((by rw [hg]; exact Nat.ne_of_lt (blk_lt (g := gb187) (o := .cells #[.int .i64 t214, .int .i64 t215, .int .i64 t216, .int .i64 t217] 32 (0, 0)) (by (with_reducible repeat (first | refine blk_drewN ?_ _ | refine blk_drew ?_ | refine blk_alloc ?_ _)); exact BK187.out)) : gb187 ≠ gb230)); have n7_ := Aside0.mk ((by rw [hg]; exact Nat.ne_of_gt (blk_lt (g := gb187) (o := .cells #[.int .i64 t214, .int .i64 t215, .int .i64 t216, .int .i64 t217] 32 (0, 0)) (by (with_reducible repeat (first | refine blk_drewN ?_ _ | refine blk_drew ?_ | refine blk_alloc ?_ _)); exact BK187.out)) : gb230 ≠ gb187)); have n8_ := Aside0.mk ((by rw [hg]; exact Nat.ne_of_lt (blk_lt (g := gb224) (o := .cells #[.int .i64 t219, .int .i64 t220, .int .i64 t221, .int .i64 t222] 32 (0, 0)) (by (with_reducible repeat (first | refine blk_drewN ?_ _ | refine blk_drew ?_ | refine blk_alloc ?_ _)); exact BK224.out)) : gb224 ≠ gb230)); have n9_ := Aside0.mk ((by rw [hg]; exact Nat.ne_of_gt (blk_lt (g := gb224) (o := .cells #[.int .i64 t219, .int .i64 t220, .int .i64 t221, .int .i64 t222] 32 (0, 0)) (by (with_reducible repeat (first | refine blk_drewN ?_ _ | refine blk_drew ?_ | refine blk_alloc ?_ _)); exact BK224.out)) : gb230 ≠ gb224)); clear BK187; clear BK224; clear HB; have BK187 := n0_; have BK224 := n1_; have HB := n2_; have BK230 := n3_; have GW230 := n4_; have GE230 := n5_; have NB187_230 := n6_; have NB230_187 := n7_; have NB224_230 := n8_; have NB230_224 := n9_; clear n0_ n1_ n2_ n3_ n4_ n5_ n6_ n7_ n8_ n9_; clear hb hbox hg; have hnb69 := NB230_187.out; have hnc69 := NB187_230.out; have hnb70 := NB230_224.out; have hnc70 := NB224_230.out; have hcz71_0 : w68.cell? ⟨gb230, 0, none⟩ = some (.int .i64 0) := (blk_cell BK230.out 0).trans rfl; have hcz71_1 : w68.cell? ⟨gb230, 1, none⟩ = some (.int .i64 0) := (blk_cell BK230.out 1).trans rfl; have hcz71_2 : w68.cell? ⟨gb230, 2, none⟩ = some (.int .i64 0) := (blk_cell BK230.out 2).trans rfl; have hcz71_3 : w68.cell? ⟨gb230, 3, none⟩ = some (.int .i64 0) := (blk_cell BK230.out 3).trans rfl; have hfz71_0 := blk_frozen BK230.out 0; have hfz71_1 := blk_frozen BK230.out 1; have hfz71_2 := blk_frozen BK230.out 2; have hfz71_3 := blk_frozen BK230.out 3; have hcz72_0 : w68.cell? ⟨gb187, 0, none⟩ = some (.int .i64 t214) := (blk_cell BK187.out 0).trans rfl; have hcz72_1 : w68.cell? ⟨gb187, 1, none⟩ = some (.int .i64 t215) := (blk_cell BK187.out 1).trans rfl; have hcz72_2 : w68.cell? ⟨gb187, 2, none⟩ = some (.int .i64 t216) := (blk_cell BK187.out 2).trans rfl; have hcz72_3 : w68.cell? ⟨gb187, 3, none⟩ = some (.int .i64 t217) := (blk_cell BK187.out 3).trans rfl; have hfz72_0 := blk_frozen BK187.out 0; have hfz72_1 := blk_frozen BK187.out 1; have hfz72_2 := blk_frozen BK187.out 2; have hfz72_3 := blk_frozen BK187.out 3) | ((with_reducible refine gate_callee (f := 17) rfl ?_); refine goesL_ (some 140) rfl rfl Try.func17 (by kernel_rfl) rfl #[.agg #[.int .i64 t214, .int .i64 t215, .int .i64 t216, .int .i64 t217], .int .i64 1152921504606846976, .int .i64 (1 + ((ji4) % 20))] rfl (by (try simp only [List.map_toArray, List.map_cons, List.map_nil]); first | done | (simp only [hji4]; rfl) | rfl | (simp only [List.length_drop, List.length_take]; rfl)) ?_; (with_reducible refine (node_State_Expire.calls kj32 t214 t215 t216 t217 1152921504606846976 (1 + ((ji4) % 20)) t231 t232 t233 t234 t235 _ A53.out).mono ?_); rintro e w73 ⟨rfl, hb⟩; refine ⟨_, rfl, ?_⟩; have n0_ := Aside0.mk (blk_below (g := gb187) (o := .cells #[.int .i64 t214, .int .i64 t215, .int .i64 t216, .int .i64 t217] 32 (0, 0)) (by (with_reducible repeat (first | refine blk_drewN ?_ _ | refine blk_drew ?_ | refine blk_alloc ?_ _)); refine blk_far ?_ NB187_230.out _; (with_reducible repeat (first | refine blk_drewN ?_ _ | refine blk_drew ?_ | refine blk_alloc ?_ _)); refine blk_far ?_ NB187_230.out _; (with_reducible repeat (first | refine blk_drewN ?_ _ | refine blk_drew ?_ | refine blk_alloc ?_ _)); refine blk_far ?_ NB187_230.out _; (with_reducible repeat (first | refine blk_drewN ?_ _ | refine blk_drew ?_ | refine blk_alloc ?_ _)); refine blk_far ?_ NB187_230.out _; (with_reducible repeat (first | refine blk_drewN ?_ _ | refine blk_drew ?_ | refine blk_alloc ?_ _)); exact BK187.out) hb); have n1_ := Aside0.mk (blk_below (g := gb224) (o := .cells #[.int .i64 t219, .int .i64 t220, .int .i64 t221, .int .i64 t222] 32 (0, 0)) (by (with_reducible repeat (first | refine blk_drewN ?_ _ | refine blk_drew ?_ | refine blk_alloc ?_ _)); refine blk_far ?_ NB224_230.out _; (with_reducible repeat (first | refine blk_drewN ?_ _ | refine blk_drew ?_ | refine blk_alloc ?_ _)); refine blk_far ?_ NB224_230.out _; (with_reducible repeat (first | refine blk_drewN ?_ _ | refine blk_drew ?_ | refine blk_alloc ?_ _)); refine blk_far ?_ NB224_230.out _; (with_reducible repeat (first | refine blk_drewN ?_ _ | refine blk_drew ?_ | refine blk_alloc ?_ _)); refine blk_far ?_ NB224_230.out _; (with_reducible repeat (first | refine blk_drewN ?_ _ | refine blk_drew ?_ | refine blk_alloc ?_ _)); exact BK224.out) hb); have n2_ := Aside0.mk (blk_below (g := gb230) (o := .cells #[.int .i64 t225, .int .i64 t226, .int .i64 t227, .int .i64 t228] 32 (0, 0)) (by (with_reducible repeat (first | refine blk_drewN ?_ _ | refine blk_drew ?_ | refine blk_alloc ?_ _)); refine blk_put (cs := #[.int .i64 t225, .int .i64 t226, .int .i64 t227, .int .i64 0]) ?_ 3 _ rfl; (with_reducible repeat (first | refine blk_drewN ?_ _ | refine blk_drew ?_ | refine blk_alloc ?_ _)); refine blk_put (cs := #[.int .i64 t225, .int .i64 t226, .int .i64 0, .int .i64 0]) ?_ 2 _ rfl; (with_reducible repeat (first | refine blk_drewN ?_ _ | refine blk_drew ?_ | refine blk_alloc ?_ _)); refine blk_put (cs := #[.int .i64 t225, .int .i64 0, .int .i64 0, .int .i64 0]) ?_ 1 _ rfl; (with_reducible repeat (first | refine blk_drewN ?_ _ | refine blk_drew ?_ | refine blk_alloc ?_ _)); refine blk_put (cs := #[.int .i64 0, .int .i64 0, .int .i64 0, .int .i64 0]) ?_ 0 _ rfl; (with_reducible repeat (first | refine blk_drewN ?_ _ | refine blk_drew ?_ | refine blk_alloc ?_ _)); exact BK230.out) hb); have n3_ := Aside0.mk (below_step (by repeat (first | (with_reducible first | exact HB.out | apply below_alloc | apply pw_below_drewN | apply below_drew1 | refine below_set ?_ GE187.out | refine below_set ?_ GE224.out | refine below_set ?_ GE230.out) | exact HB.out)) hb); clear BK187; clear BK224; clear BK230; clear HB; have BK187 := n0_; have BK224 := n1_; have BK230 := n2_; have HB := n3_; clear n0_ n1_ n2_ n3_; (try clear hb); (try clear hb2); (try clear hk); (try clear hi)) | ((with_reducible refine gate_dst (N := 18) rfl ?_); refine box_event ?hg (N := 18) ?hd (cs := #[.int .i64 0, .int .i64 0, .int .i64 0, .int .i64 0]) (t := 32) ?hr ?_; (case hd => rfl); (case hg => rfl); (case hr => first | (go_simp; done) | (go_simp; rfl)); intro gb236 hg w74 hbox hb; have n0_ := Aside0.mk (blk_below (g := gb187) (o := .cells #[.int .i64 t214, .int .i64 t215, .int .i64 t216, .int .i64 t217] 32 (0, 0)) (by (with_reducible repeat (first | refine blk_drewN ?_ _ | refine blk_drew ?_ | refine blk_alloc ?_ _)); exact BK187.out) hb); have n1_ := Aside0.mk (blk_below (g := gb224) (o := .cells #[.int .i64 t219, .int .i64 t220, .int .i64 t221, .int .i64 t222] 32 (0, 0)) (by (with_reducible repeat (first | refine blk_drewN ?_ _ | refine blk_drew ?_ | refine blk_alloc ?_ _)); exact BK224.out) hb); have n2_ := Aside0.mk (blk_below (g := gb230) (o := .cells #[.int .i64 t225, .int .i64 t226, .int .i64 t227, .int .i64 t228] 32 (0, 0)) (by (with_reducible repeat (first | refine blk_drewN ?_ _ | refine blk_drew ?_ | refine blk_alloc ?_ _)); exact BK230.out) hb); have n3_ := Aside0.mk (below_step (by repeat (first | (with_reducible first | exact HB.out | apply below_alloc | apply pw_below_drewN | apply below_drew1 | refine below_set ?_ GE187.out | refine below_set ?_ GE224.out | refine below_set ?_ GE230.out) | exact HB.out)) hb); have n4_ := Aside0.mk (hbox); have n5_ := Aside0.mk ((by rw [hg]; exact (below_size (by repeat (first | (with_reducible first | exact HB.out | apply below_alloc | apply pw_below_drewN | apply below_drew1 | refine below_set ?_ GE187.out | refine below_set ?_ GE224.out | refine below_set ?_ GE230.out) | exact HB.out))) : w.heap.size ≤ gb236)); have n6_ := Aside0.mk ((by rw [hg]; exact (below_size (by repeat (first | (with_reducible first | exact HB.out | apply below_alloc | apply pw_below_drewN | apply below_drew1 | refine below_set ?_ GE187.out | refine below_set ?_ GE224.out | refine below_set ?_ GE230.out) | exact HB.out))) : w.heap.size ≤ gb236)); have n7_ := Aside0.mk ((by rw [hg]; exact Nat.ne_of_lt (blk_lt (g := gb187) (o := .cells #[.int .i64 t214, .int .i64 t215, .int .i64 t216, .int .i64 t217] 32 (0, 0)) (by (with_reducible repeat (first | refine blk_drewN ?_ _ | refine blk_drew ?_ | refine blk_alloc ?_ _)); exact BK187.out)) : gb187 ≠ gb236)); have n8_ := Aside0.mk ((by rw [hg]; exact Nat.ne_of_gt (blk_lt (g := gb187) (o := .cells #[.int .i64 t214, .int .i64 t215, .int .i64 t216, .int .i64 t217] 32 (0, 0)) (by (with_reducible repeat (first | refine blk_drewN ?_ _ | refine blk_drew ?_ | refine blk_alloc ?_ _)); exact BK187.out)) : gb236 ≠ gb187)); have n9_ := Aside0.mk ((by rw [hg]; exact Nat.ne_of_lt (blk_lt (g := gb224) (o := .cells #[.int .i64 t219, .int .i64 t220, .int .i64 t221, .int .i64 t222] 32 (0, 0)) (by (with_reducible repeat (first | refine blk_drewN ?_ _ | refine blk_drew ?_ | refine blk_alloc ?_ _)); exact BK224.out)) : gb224 ≠ gb236)); have n10_ := Aside0.mk ((by rw [hg]; exact Nat.ne_of_gt (blk_lt (g := gb224) (o := .cells #[.int .i64 t219, .int .i64 t220, .int .i64 t221, .int .i64 t222] 32 (0, 0)) (by (with_reducible repeat (first | refine blk_drewN ?_ _ | refine blk_drew ?_ | refine blk_alloc ?_ _)); exact BK224.out)) : gb236 ≠ gb224)); have n11_ := Aside0.mk ((by rw [hg]; exact Nat.ne_of_lt (blk_lt (g := gb230) (o := .cells #[.int .i64 t225, .int .i64 t226, .int .i64 t227, .int .i64 t228] 32 (0, 0)) (by (with_reducible repeat (first | refine blk_drewN ?_ _ | refine blk_drew ?_ | refine blk_alloc ?_ _)); exact BK230.out)) : gb230 ≠ gb236)); have n12_ := Aside0.mk ((by rw [hg]; exact Nat.ne_of_gt (blk_lt (g := gb230) (o := .cells #[.int .i64 t225, .int .i64 t226, .int .i64 t227, .int .i64 t228] 32 (0, 0)) (by (with_reducible repeat (first | refine blk_drewN ?_ _ | refine blk_drew ?_ | refine blk_alloc ?_ _)); exact BK230.out)) : gb236 ≠ gb230)); clear BK187; clear BK224; clear BK230; clear HB; have BK187 := n0_; have BK224 := n1_; have BK230 := n2_; have HB := n3_; have BK236 := n4_; have GW236 := n5_; have GE236 := n6_; have NB187_236 := n7_; have NB236_187 := n8_; have NB224_236 := n9_; have NB236_224 := n10_; have NB230_236 := n11_; have NB236_230 := n12_; clear n0_ n1_ n2_ n3_ n4_ n5_ n6_ n7_ n8_ n9_ n10_ n11_ n12_; clear hb hbox hg; have hnb75 := NB236_187.out; have hnc75 := NB187_236.out; have hnb76 := NB236_224.out; have hnc76 := NB224_236.out; have hnb77 := NB236_230.out; have hnc77 := NB230_236.out; have hcz78_0 : w74.cell? ⟨gb236, 0, none⟩ = some (.int .i64 0) := (blk_cell BK236.out 0).trans rfl; have hcz78_1 : w74.cell? ⟨gb236, 1, none⟩ = some (.int .i64 0) := (blk_cell BK236.out 1).trans rfl; have hcz78_2 : w74.cell? ⟨gb236, 2, none⟩ = some (.int .i64 0) := (blk_cell BK236.out 2).trans rfl; have hcz78_3 : w74.cell? ⟨gb236, 3, none⟩ = some (.int .i64 0) := (blk_cell BK236.out 3).trans rfl; have hfz78_0 := blk_frozen BK236.out 0; have hfz78_1 := blk_frozen BK236.out 1; have hfz78_2 := blk_frozen BK236.out 2; have hfz78_3 := blk_frozen BK236.out 3; have hcz79_0 : w74.cell? ⟨gb187, 0, none⟩ = some (.int .i64 t214) := (blk_cell BK187.out 0).trans rfl; have hcz79_1 : w74.cell? ⟨gb187, 1, none⟩ = some (.int .i64 t215) := (blk_cell BK187.out 1).trans rfl; have hcz79_2 : w74.cell? ⟨gb187, 2, none⟩ = some (.int .i64 t216) := (blk_cell BK187.out 2).trans rfl; have hcz79_3 : w74.cell? ⟨gb187, 3, none⟩ = some (.int .i64 t217) := (blk_cell BK187.out 3).trans rfl; have hfz79_0 := blk_frozen BK187.out 0; have hfz79_1 := blk_frozen BK187.out 1; have hfz79_2 := blk_frozen BK187.out 2; have hfz79_3 := blk_frozen BK187.out 3) | (go_at_call 21; (with_reducible refine (node_State_Over.calls t214 t215 t216 t217 true _ A55.out).mono ?_); rintro e w80 ⟨rfl, hb⟩; have n0_ := Aside0.mk (blk_below (g := gb187) (o := .cells #[.int .i64 t214, .int .i64 t215, .int .i64 t216, .int .i64 t217] 32 (0, 0)) (by (with_reducible repeat (first | refine blk_drewN ?_ _ | refine blk_drew ?_ | refine blk_alloc ?_ _)); refine blk_far ?_ NB187_236.out _; (with_reducible repeat (first | refine blk_drewN ?_ _ | refine blk_drew ?_ | refine blk_alloc ?_ _)); refine blk_far ?_ NB187_236.out _; (with_reducible repeat (first | refine blk_drewN ?_ _ | refine blk_drew ?_ | refine blk_alloc ?_ _)); refine blk_far ?_ NB187_236.out _; (with_reducible repeat (first | refine blk_drewN ?_ _ | refine blk_drew ?_ | refine blk_alloc ?_ _)); refine blk_far ?_ NB187_236.out _; (with_reducible repeat (first | refine blk_drewN ?_ _ | refine blk_drew ?_ | refine blk_alloc ?_ _)); exact BK187.out) hb); have n1_ := Aside0.mk (blk_below (g := gb224) (o := .cells #[.int .i64 t219, .int .i64 t220, .int .i64 t221, .int .i64 t222] 32 (0, 0)) (by (with_reducible repeat (first | refine blk_drewN ?_ _ | refine blk_drew ?_ | refine blk_alloc ?_ _)); refine blk_far ?_ NB224_236.out _; (with_reducible repeat (first | refine blk_drewN ?_ _ | refine blk_drew ?_ | refine blk_alloc ?_ _)); refine blk_far ?_ NB224_236.out _; (with_reducible repeat (first | refine blk_drewN ?_ _ | refine blk_drew ?_ | refine blk_alloc ?_ _)); refine blk_far ?_ NB224_236.out _; (with_reducible repeat (first | refine blk_drewN ?_ _ | refine blk_drew ?_ | refine blk_alloc ?_ _)); refine blk_far ?_ NB224_236.out _; (with_reducible repeat (first | refine blk_drewN ?_ _ | refine blk_drew ?_ | refine blk_alloc ?_ _)); exact BK224.out) hb); have n2_ := Aside0.mk (blk_below (g := gb230) (o := .cells #[.int .i64 t225, .int .i64 t226, .int .i64 t227, .int .i64 t228] 32 (0, 0)) (by (with_reducible repeat (first | refine blk_drewN ?_ _ | refine blk_drew ?_ | refine blk_alloc ?_ _)); refine blk_far ?_ NB230_236.out _; (with_reducible repeat (first | refine blk_drewN ?_ _ | refine blk_drew ?_ | refine blk_alloc ?_ _)); refine blk_far ?_ NB230_236.out _; (with_reducible repeat (first | refine blk_drewN ?_ _ | refine blk_drew ?_ | refine blk_alloc ?_ _)); refine blk_far ?_ NB230_236.out _; (with_reducible repeat (first | refine blk_drewN ?_ _ | refine blk_drew ?_ | refine blk_alloc ?_ _)); refine blk_far ?_ NB230_236.out _; (with_reducible repeat (first | refine blk_drewN ?_ _ | refine blk_drew ?_ | refine blk_alloc ?_ _)); exact BK230.out) hb); have n3_ := Aside0.mk (blk_below (g := gb236) (o := .cells #[.int .i64 t231, .int .i64 t232, .int .i64 t233, .int .i64 t234] 32 (0, 0)) (by (with_reducible repeat (first | refine blk_drewN ?_ _ | refine blk_drew ?_ | refine blk_alloc ?_ _)); refine blk_put (cs := #[.int .i64 t231, .int .i64 t232, .int .i64 t233, .int .i64 0]) ?_ 3 _ rfl; (with_reducible repeat (first | refine blk_drewN ?_ _ | refine blk_drew ?_ | refine blk_alloc ?_ _)); refine blk_put (cs := #[.int .i64 t231, .int .i64 t232, .int .i64 0, .int .i64 0]) ?_ 2 _ rfl; (with_reducible repeat (first | refine blk_drewN ?_ _ | refine blk_drew ?_ | refine blk_alloc ?_ _)); refine blk_put (cs := #[.int .i64 t231, .int .i64 0, .int .i64 0, .int .i64 0]) ?_ 1 _ rfl; (with_reducible repeat (first | refine blk_drewN ?_ _ | refine blk_drew ?_ | refine blk_alloc ?_ _)); refine blk_put (cs := #[.int .i64 0, .int .i64 0, .int .i64 0, .int .i64 0]) ?_ 0 _ rfl; (with_reducible repeat (first | refine blk_drewN ?_ _ | refine blk_drew ?_ | refine blk_alloc ?_ _)); exact BK236.out) hb); have n4_ := Aside0.mk (below_step (by repeat (first | (with_reducible first | exact HB.out | apply below_alloc | apply pw_below_drewN | apply below_drew1 | refine below_set ?_ GE187.out | refine below_set ?_ GE224.out | refine below_set ?_ GE230.out | refine below_set ?_ GE236.out) | exact HB.out)) hb); clear BK187; clear BK224; clear BK230; clear BK236; clear HB; have BK187 := n0_; have BK224 := n1_; have BK230 := n2_; have BK236 := n3_; have HB := n4_; clear n0_ n1_ n2_ n3_ n4_; (try clear hb); (try clear hb2); (try clear hk); (try clear hi)))
                                                go_ret
                                                exact ⟨by first | rfl | (simp [errW_none, errW_some] <;> rfl) | (simp only [← hji4]; first | rfl | (simp [errW_none, errW_some] <;> rfl)) | (simp [*, errW_none, errW_some] <;> rfl), by repeat (first | (with_reducible first | exact HB.out | apply below_alloc | apply pw_below_drewN | apply below_drew1 | refine below_set ?_ GE187.out | refine below_set ?_ GE224.out | refine below_set ?_ GE230.out | refine below_set ?_ GE236.out) | exact HB.out)⟩
                                              · rw [if_neg c58] at H
                                                have c58b0 : (t229 == 36) = false := beq_eq_false_iff_ne.mpr c58
                                                have c58b1 : (t229 != 36) = true := bne_iff_ne.mpr c58
                                                exact absurd ((Option.some.inj H).trans hT_.out) (by decide)
                                            · rw [if_neg c57] at H
                                              have c57b0 : (t223 == 36) = false := beq_eq_false_iff_ne.mpr c57
                                              have c57b1 : (t223 != 36) = true := bne_iff_ne.mpr c57
                                              exact absurd ((Option.some.inj H).trans hT_.out) (by decide)
                                          · replace c56 := Bool.eq_false_iff.mpr c56
                                            subst c56
                                            have H1 : (some false) = some r := by rw [if_neg (show ¬ (false = true) by decide)] at H; exact H
                                            clear H
                                            have H := H1
                                            clear H1
                                            exact absurd ((Option.some.inj H).trans hT_.out) (by decide)
                                        · rw [if_neg c54] at H
                                          have c54b0 : (t214 == 4) = false := beq_eq_false_iff_ne.mpr c54
                                          have c54b1 : (t214 != 4) = true := bne_iff_ne.mpr c54
                                          exact absurd ((Option.some.inj H).trans hT_.out) (by decide)
                                      · replace c50 := Bool.eq_false_iff.mpr c50
                                        subst c50
                                        have H1 : (precinctlaw14_NodeEnds.l0 kj32 (1 + ((ji4) % 20)) l1 l2 x9_16 (1 + ((ji4) % 20)) (wrap64 (x38_2 + 1)) t214 t215 t216 t217) = some r := by rw [if_neg (show ¬ (false = true) by decide)] at H; exact H
                                        clear H
                                        have H := H1
                                        clear H1
                                        have H' := Aside0.mk H
                                        clear H
                                        have hcz81_0 : wc.cell? ⟨gb187, 0, none⟩ = some (.int .i64 t197) := (blk_cell BK187.out 0).trans rfl
                                        have hcz81_1 : wc.cell? ⟨gb187, 1, none⟩ = some (.int .i64 t198) := (blk_cell BK187.out 1).trans rfl
                                        have hcz81_2 : wc.cell? ⟨gb187, 2, none⟩ = some (.int .i64 t199) := (blk_cell BK187.out 2).trans rfl
                                        have hcz81_3 : wc.cell? ⟨gb187, 3, none⟩ = some (.int .i64 t200) := (blk_cell BK187.out 3).trans rfl
                                        have hfz81_0 := blk_frozen BK187.out 0
                                        have hfz81_1 := blk_frozen BK187.out 1
                                        have hfz81_2 := blk_frozen BK187.out 2
                                        have hfz81_3 := blk_frozen BK187.out 3
                                        go_wp2_with (first | ((with_reducible refine gate_callee (f := 13) rfl ?_); refine goesL_ (some 116) rfl rfl Try.func13 (by kernel_rfl) rfl #[.agg #[.int .i64 t197, .int .i64 t198, .int .i64 t199, .int .i64 t200], .int .i64 (wrap64 (x9_16 + 5)), .int .i64 (wrap64 (x38_2 + 1)), .int .i64 (1 + ((ji4) % 20)), .bool false] rfl (by (try simp only [List.map_toArray, List.map_cons, List.map_nil]); first | done | (simp only [hji4]; rfl) | rfl | (simp only [List.length_drop, List.length_take]; rfl)) ?_; (with_reducible refine (node_State_Finish.calls kj32 t197 t198 t199 t200 (wrap64 (x9_16 + 5)) (wrap64 (x38_2 + 1)) (1 + ((ji4) % 20)) false t214 t215 t216 t217 t218 _ A48.out).mono ?_); rintro e w82 ⟨rfl, hb⟩; refine ⟨_, rfl, ?_⟩; have n0_ := Aside0.mk (blk_below (g := gb187) (o := .cells #[.int .i64 t197, .int .i64 t198, .int .i64 t199, .int .i64 t200] 32 (0, 0)) (by (with_reducible repeat (first | refine blk_drewN ?_ _ | refine blk_drew ?_ | refine blk_alloc ?_ _)); exact BK187.out) hb); have n1_ := Aside0.mk (below_step (by repeat (first | (with_reducible first | exact HB.out | apply below_alloc | apply pw_below_drewN | apply below_drew1 | refine below_set ?_ GE187.out) | exact HB.out)) hb); clear BK187; clear HB; have BK187 := n0_; have HB := n1_; clear n0_ n1_; (try clear hb); (try clear hb2); (try clear hk); (try clear hi); have hcz83_0 : w82.cell? ⟨gb187, 0, none⟩ = some (.int .i64 t197) := (blk_cell BK187.out 0).trans rfl; have hcz83_1 : w82.cell? ⟨gb187, 1, none⟩ = some (.int .i64 t198) := (blk_cell BK187.out 1).trans rfl; have hcz83_2 : w82.cell? ⟨gb187, 2, none⟩ = some (.int .i64 t199) := (blk_cell BK187.out 2).trans rfl; have hcz83_3 : w82.cell? ⟨gb187, 3, none⟩ = some (.int .i64 t200) := (blk_cell BK187.out 3).trans rfl; have hfz83_0 := blk_frozen BK187.out 0; have hfz83_1 := blk_frozen BK187.out 1; have hfz83_2 := blk_frozen BK187.out 2; have hfz83_3 := blk_frozen BK187.out 3))
                                        go_roundg kj32
                                        case measure => have := HJ5.out; have := HK2.out; have := HJ16.out; have := HJ22.out; have := HJ29.out; have := HJ32.out; omega
                                        case rel => exact ⟨(x9_16), (wrap64 (x38_2 + 1)), (t214), (t215), (t216), (t217), (by first | rfl | (simp; done) | (simp [*]; done)), (by first | rfl | (simp; done) | (simp [*]; done)), H', ⟨by have := HJ5.out; have := HK2.out; have := HJ16.out; have := HJ22.out; have := HJ29.out; have := HJ32.out; omega⟩, ⟨by (with_reducible repeat (first | refine blk_drewN ?_ _ | refine blk_drew ?_ | refine blk_alloc ?_ _)); refine blk_put (cs := #[.int .i64 t214, .int .i64 t215, .int .i64 t216, .int .i64 t200]) ?_ 3 _ rfl; (with_reducible repeat (first | refine blk_drewN ?_ _ | refine blk_drew ?_ | refine blk_alloc ?_ _)); refine blk_put (cs := #[.int .i64 t214, .int .i64 t215, .int .i64 t199, .int .i64 t200]) ?_ 2 _ rfl; (with_reducible repeat (first | refine blk_drewN ?_ _ | refine blk_drew ?_ | refine blk_alloc ?_ _)); refine blk_put (cs := #[.int .i64 t214, .int .i64 t198, .int .i64 t199, .int .i64 t200]) ?_ 1 _ rfl; (with_reducible repeat (first | refine blk_drewN ?_ _ | refine blk_drew ?_ | refine blk_alloc ?_ _)); refine blk_put (cs := #[.int .i64 t197, .int .i64 t198, .int .i64 t199, .int .i64 t200]) ?_ 0 _ rfl; (with_reducible repeat (first | refine blk_drewN ?_ _ | refine blk_drew ?_ | refine blk_alloc ?_ _)); exact BK187.out⟩, ⟨by repeat (first | (with_reducible first | exact HB.out | apply below_alloc | apply pw_below_drewN | apply below_drew1 | refine below_set ?_ GE187.out) | exact HB.out)⟩⟩
                                    · rw [if_neg c49] at H
                                      have c49b0 : (t218 == 0) = false := beq_eq_false_iff_ne.mpr c49
                                      have c49b1 : (t218 != 0) = true := bne_iff_ne.mpr c49
                                      exact absurd ((Option.some.inj H).trans hT_.out) (by decide)
              · rw [if_neg c16] at H
                have c16b0 : (x188000_2 == 1) = false := beq_eq_false_iff_ne.mpr c16
                have c16b1 : (x188000_2 != 1) = true := bne_iff_ne.mpr c16
                exact absurd ((Option.some.inj H).trans hT_.out) (by decide)
            · rw [if_neg c15] at H
              have c15b0 : decide (x38_2 < (1 + ((ji4) % 20))) = false := decide_eq_false c15
              clear c15
              replace H := Option.bind_eq_some_iff.mp H
              obtain ⟨⟨t189, t190, t191, t192, t193⟩, A840, H⟩ := H
              replace H : (if x188000_2 = 5 then ((node_State_Over.f x188000_2 x188001_2 x188002_2 x188003_2).bind fun t195 => (if t195 = true then (some (t193 == 36)) else (some false))) else (some false)) = some r := H
              have A84 := Aside0.mk A840
              clear A840
              by_cases c85 : x188000_2 = 5
              · rw [if_pos c85] at H
                have c85b0 : (x188000_2 == 5) = true := beq_iff_eq.mpr c85
                have c85b1 : (x188000_2 != 5) = false := bne_eq_false_iff_eq.mpr c85
                clear c85
                replace H := Option.bind_eq_some_iff.mp H
                obtain ⟨t195, A860, H⟩ := H
                replace H : (if t195 = true then (some (t193 == 36)) else (some false)) = some r := H
                have A86 := Aside0.mk A860
                clear A860
                by_cases c87 : t195 = true
                · subst c87
                  have H1 : (some (t193 == 36)) = some r := by rw [if_pos rfl] at H; exact H
                  clear H
                  have H := H1
                  clear H1
                  obtain rfl := Option.some.inj H
                  have hcz88_0 : wr.cell? ⟨gb187, 0, none⟩ = some (.int .i64 x188000_2) := (blk_cell BK187.out 0).trans rfl
                  have hcz88_1 : wr.cell? ⟨gb187, 1, none⟩ = some (.int .i64 x188001_2) := (blk_cell BK187.out 1).trans rfl
                  have hcz88_2 : wr.cell? ⟨gb187, 2, none⟩ = some (.int .i64 x188002_2) := (blk_cell BK187.out 2).trans rfl
                  have hcz88_3 : wr.cell? ⟨gb187, 3, none⟩ = some (.int .i64 x188003_2) := (blk_cell BK187.out 3).trans rfl
                  have hfz88_0 := blk_frozen BK187.out 0
                  have hfz88_1 := blk_frozen BK187.out 1
                  have hfz88_2 := blk_frozen BK187.out 2
                  have hfz88_3 := blk_frozen BK187.out 3
                  go_wp2_with (first | ((with_reducible refine gate_callee (f := 20) rfl ?_); refine goesL_ (some 166) rfl rfl Try.func20 (by kernel_rfl) rfl #[.agg #[.int .i64 x188000_2, .int .i64 x188001_2, .int .i64 x188002_2, .int .i64 x188003_2], .int .i64 x9_2, .int .i64 5] rfl (by (try simp only [List.map_toArray, List.map_cons, List.map_nil]); first | done | rfl | (simp only [List.length_drop, List.length_take]; rfl)) ?_; (with_reducible refine (node_State_Lease.calls x188000_2 x188001_2 x188002_2 x188003_2 x9_2 5 t189 t190 t191 t192 t193 _ A84.out).mono ?_); rintro e w89 ⟨rfl, hb⟩; refine ⟨_, rfl, ?_⟩; have n0_ := Aside0.mk (blk_below (g := gb187) (o := .cells #[.int .i64 x188000_2, .int .i64 x188001_2, .int .i64 x188002_2, .int .i64 x188003_2] 32 (0, 0)) (by (with_reducible repeat (first | refine blk_drewN ?_ _ | refine blk_drew ?_ | refine blk_alloc ?_ _)); exact BK187.out) hb); have n1_ := Aside0.mk (below_step (by repeat (first | (with_reducible first | exact HB.out | apply below_alloc | apply pw_below_drewN | apply below_drew1 | refine below_set ?_ GE187.out) | exact HB.out)) hb); clear BK187; clear HB; have BK187 := n0_; have HB := n1_; clear n0_ n1_; (try clear hb); (try clear hb2); (try clear hk); (try clear hi)) | ((with_reducible refine gate_dst (N := 20) rfl ?_); refine box_event ?hg (N := 20) ?hd (cs := #[.int .i64 0, .int .i64 0, .int .i64 0, .int .i64 0]) (t := 32) ?hr ?_; (case hd => rfl); (case hg => rfl); (case hr => first | (go_simp; done) | (go_simp; rfl)); intro gb194 hg w90 hbox hb; have n0_ := Aside0.mk (blk_below (g := gb187) (o := .cells #[.int .i64 x188000_2, .int .i64 x188001_2, .int .i64 x188002_2, .int .i64 x188003_2] 32 (0, 0)) (by (with_reducible repeat (first | refine blk_drewN ?_ _ | refine blk_drew ?_ | refine blk_alloc ?_ _)); exact BK187.out) hb); have n1_ := Aside0.mk (below_step (by repeat (first | (with_reducible first | exact HB.out | apply below_alloc | apply pw_below_drewN | apply below_drew1 | refine below_set ?_ GE187.out) | exact HB.out)) hb); have n2_ := Aside0.mk (hbox); have n3_ := Aside0.mk ((by rw [hg]; exact (below_size (by repeat (first | (with_reducible first | exact HB.out | apply below_alloc | apply pw_below_drewN | apply below_drew1 | refine below_set ?_ GE187.out) | exact HB.out))) : w.heap.size ≤ gb194)); have n4_ := Aside0.mk ((by rw [hg]; exact (below_size (by repeat (first | (with_reducible first | exact HB.out | apply below_alloc | apply pw_below_drewN | apply below_drew1 | refine below_set ?_ GE187.out) | exact HB.out))) : w.heap.size ≤ gb194)); have n5_ := Aside0.mk ((by rw [hg]; exact Nat.ne_of_lt (blk_lt (g := gb187) (o := .cells #[.int .i64 x188000_2, .int .i64 x188001_2, .int .i64 x188002_2, .int .i64 x188003_2] 32 (0, 0)) (by (with_reducible repeat (first | refine blk_drewN ?_ _ | refine blk_drew ?_ | refine blk_alloc ?_ _)); exact BK187.out)) : gb187 ≠ gb194)); have n6_ := Aside0.mk ((by rw [hg]; exact Nat.ne_of_gt (blk_lt (g := gb187) (o := .cells #[.int .i64 x188000_2, .int .i64 x188001_2, .int .i64 x188002_2, .int .i64 x188003_2] 32 (0, 0)) (by (with_reducible repeat (first | refine blk_drewN ?_ _ | refine blk_drew ?_ | refine blk_alloc ?_ _)); exact BK187.out)) : gb194 ≠ gb187)); clear BK187; clear HB; have BK187 := n0_; have HB := n1_; have BK194 := n2_; have GW194 := n3_; have GE194 := n4_; have NB187_194 := n5_; have NB194_187 := n6_; clear n0_ n1_ n2_ n3_ n4_ n5_ n6_; clear hb hbox hg; have hnb91 := NB194_187.out; have hnc91 := NB187_194.out; have hcz92_0 : w90.cell? ⟨gb194, 0, none⟩ = some (.int .i64 0) := (blk_cell BK194.out 0).trans rfl; have hcz92_1 : w90.cell? ⟨gb194, 1, none⟩ = some (.int .i64 0) := (blk_cell BK194.out 1).trans rfl; have hcz92_2 : w90.cell? ⟨gb194, 2, none⟩ = some (.int .i64 0) := (blk_cell BK194.out 2).trans rfl; have hcz92_3 : w90.cell? ⟨gb194, 3, none⟩ = some (.int .i64 0) := (blk_cell BK194.out 3).trans rfl; have hfz92_0 := blk_frozen BK194.out 0; have hfz92_1 := blk_frozen BK194.out 1; have hfz92_2 := blk_frozen BK194.out 2; have hfz92_3 := blk_frozen BK194.out 3; have hcz93_0 : w90.cell? ⟨gb187, 0, none⟩ = some (.int .i64 x188000_2) := (blk_cell BK187.out 0).trans rfl; have hcz93_1 : w90.cell? ⟨gb187, 1, none⟩ = some (.int .i64 x188001_2) := (blk_cell BK187.out 1).trans rfl; have hcz93_2 : w90.cell? ⟨gb187, 2, none⟩ = some (.int .i64 x188002_2) := (blk_cell BK187.out 2).trans rfl; have hcz93_3 : w90.cell? ⟨gb187, 3, none⟩ = some (.int .i64 x188003_2) := (blk_cell BK187.out 3).trans rfl; have hfz93_0 := blk_frozen BK187.out 0; have hfz93_1 := blk_frozen BK187.out 1; have hfz93_2 := blk_frozen BK187.out 2; have hfz93_3 := blk_frozen BK187.out 3) | (go_at_call 21; (with_reducible refine (node_State_Over.calls x188000_2 x188001_2 x188002_2 x188003_2 true _ A86.out).mono ?_); rintro e w94 ⟨rfl, hb⟩; have n0_ := Aside0.mk (blk_below (g := gb187) (o := .cells #[.int .i64 x188000_2, .int .i64 x188001_2, .int .i64 x188002_2, .int .i64 x188003_2] 32 (0, 0)) (by (with_reducible repeat (first | refine blk_drewN ?_ _ | refine blk_drew ?_ | refine blk_alloc ?_ _)); refine blk_far ?_ NB187_194.out _; (with_reducible repeat (first | refine blk_drewN ?_ _ | refine blk_drew ?_ | refine blk_alloc ?_ _)); refine blk_far ?_ NB187_194.out _; (with_reducible repeat (first | refine blk_drewN ?_ _ | refine blk_drew ?_ | refine blk_alloc ?_ _)); refine blk_far ?_ NB187_194.out _; (with_reducible repeat (first | refine blk_drewN ?_ _ | refine blk_drew ?_ | refine blk_alloc ?_ _)); refine blk_far ?_ NB187_194.out _; (with_reducible repeat (first | refine blk_drewN ?_ _ | refine blk_drew ?_ | refine blk_alloc ?_ _)); exact BK187.out) hb); have n1_ := Aside0.mk (blk_below (g := gb194) (o := .cells #[.int .i64 t189, .int .i64 t190, .int .i64 t191, .int .i64 t192] 32 (0, 0)) (by (with_reducible repeat (first | refine blk_drewN ?_ _ | refine blk_drew ?_ | refine blk_alloc ?_ _)); refine blk_put (cs := #[.int .i64 t189, .int .i64 t190, .int .i64 t191, .int .i64 0]) ?_ 3 _ rfl; (with_reducible repeat (first | refine blk_drewN ?_ _ | refine blk_drew ?_ | refine blk_alloc ?_ _)); refine blk_put (cs := #[.int .i64 t189, .int .i64 t190, .int .i64 0, .int .i64 0]) ?_ 2 _ rfl; (with_reducible repeat (first | refine blk_drewN ?_ _ | refine blk_drew ?_ | refine blk_alloc ?_ _)); refine blk_put (cs := #[.int .i64 t189, .int .i64 0, .int .i64 0, .int .i64 0]) ?_ 1 _ rfl; (with_reducible repeat (first | refine blk_drewN ?_ _ | refine blk_drew ?_ | refine blk_alloc ?_ _)); refine blk_put (cs := #[.int .i64 0, .int .i64 0, .int .i64 0, .int .i64 0]) ?_ 0 _ rfl; (with_reducible repeat (first | refine blk_drewN ?_ _ | refine blk_drew ?_ | refine blk_alloc ?_ _)); exact BK194.out) hb); have n2_ := Aside0.mk (below_step (by repeat (first | (with_reducible first | exact HB.out | apply below_alloc | apply pw_below_drewN | apply below_drew1 | refine below_set ?_ GE187.out | refine below_set ?_ GE194.out) | exact HB.out)) hb); clear BK187; clear BK194; clear HB; have BK187 := n0_; have BK194 := n1_; have HB := n2_; clear n0_ n1_ n2_; (try clear hb); (try clear hb2); (try clear hk); (try clear hi)))
                  go_ret
                  exact ⟨by first | rfl | (simp [errW_none, errW_some] <;> rfl) | (simp only [← hji4]; first | rfl | (simp [errW_none, errW_some] <;> rfl)) | (simp [*, errW_none, errW_some] <;> rfl), by repeat (first | (with_reducible first | exact HB.out | apply below_alloc | apply pw_below_drewN | apply below_drew1 | refine below_set ?_ GE187.out | refine below_set ?_ GE194.out) | exact HB.out)⟩
                · replace c87 := Bool.eq_false_iff.mpr c87
                  subst c87
                  have H1 : (some false) = some r := by rw [if_neg (show ¬ (false = true) by decide)] at H; exact H
                  clear H
                  have H := H1
                  clear H1
                  exact absurd ((Option.some.inj H).trans hT_.out) (by decide)
              · rw [if_neg c85] at H
                have c85b0 : (x188000_2 == 5) = false := beq_eq_false_iff_ne.mpr c85
                have c85b1 : (x188000_2 != 5) = true := bne_iff_ne.mpr c85
                exact absurd ((Option.some.inj H).trans hT_.out) (by decide)

end Go.Proofs.Ytelhajoedlaohaa.PNodeEnds
