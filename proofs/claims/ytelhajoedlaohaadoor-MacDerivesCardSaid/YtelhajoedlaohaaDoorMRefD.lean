/-
  The document's derived key, walked: a list of two values is laid by hand.
-/
import Derived.Test.YtelhajoedlaohaaDoorMTag
import Derived.Test.YtelhajoedlaohaaDoorMRef
import Derived.LoopTactic
import Derived.Outline
import Derived.WalkSmall
import Derived.Test.YtelhajoedlaohaaDoorPDx0
namespace Go.Proofs.YtelhajoedlaohaaDoor.Dv
set_option linter.unusedVariables false
set_option linter.unusedSimpArgs false
open Go Go.RowKit Go.Proofs.YtelhajoedlaohaaDoor.Plain Go.Proofs.YtelhajoedlaohaaDoor.Vs Go.Proofs.YtelhajoedlaohaaDoor.PD Go.Proofs.YtelhajoedlaohaaDoorW.PrintWords Go.Proofs.YtelhajoedlaohaaDoorW.PrintLast Go.Proofs.YtelhajoedlaohaaDoorW.PrintMore
theorem row2 {W1 : World} {g : Nat} {A B : Option Addr} {a b : Nat} (x y : W) (h : W1.heap[g]? = some (.cells #[.int .i64 x.f0, .int .i64 x.f1, .string x.f2, .slice A x.f3.length a, .int .i64 y.f0, .int .i64 y.f1, .string y.f2, .slice B y.f3.length b] 72 (0, 0)))
    (hx : Kd.C k72 W1 A x.f3.length x.f3) (lx : x.f3.length ≤ a) (hy : Kd.C k72 W1 B y.f3.length y.f3) (ly : y.f3.length ≤ b) :
    Kd.C k72 W1 (some ⟨g, 0, none⟩) 2 [x, y] := by
  have hadd : ∀ n : Nat, (⟨g, 0, none⟩ : Addr).add n = ⟨g, n, none⟩ := fun n => by unfold Addr.add; split <;> simp_all
  refine ⟨rfl, by decide, fun _ => ⟨⟨g, 0, none⟩, rfl, fun j p hj => ?_⟩⟩
  match j, hj with
  | 0, hj =>
    obtain rfl : x = p := by simpa using hj
    refine ⟨_, rfl, k72_mk W1 x lx hx, fun i u hi => ?_⟩
    rw [hadd, blk_cell h]
    match i, hi with
    | 0, hi => exact hi
    | 1, hi => exact hi
    | 2, hi => exact hi
    | 3, hi => exact hi
    | i + 4, hi => simp at hi
  | 1, hj =>
    obtain rfl : y = p := by simpa using hj
    refine ⟨_, rfl, k72_mk W1 y ly hy, fun i u hi => ?_⟩
    rw [hadd, blk_cell h]
    match i, hi with
    | 0, hi => exact hi
    | 1, hi => exact hi
    | 2, hi => exact hi
    | 3, hi => exact hi
    | i + 4, hi => simp at hi
  | j + 2, hj => simp at hj
def derive (k : Nat) (key p : ByteArray) (n : Int) : Option ByteArray := (precinctref02_Put.f k 2 0 ⟨#[]⟩ [⟨1, 0, p, []⟩, ⟨0, n, ⟨#[]⟩, []⟩]).bind fun t => if t.2 = 0 then precinctref05_Tag.f key t.1 else some ⟨#[]⟩
set_option maxHeartbeats 8000000 in
set_option maxRecDepth 100000 in
theorem derive_calls (k : Nat) (key a0 : ByteArray) (a1 : Int) (r : ByteArray) (w : World) (h : derive k key a0 a1 = some r) :
    Calls Tryd.prog 27 #[.string key, .string a0, .int .i64 a1] w fun e w' => e = .returned (.string r) ∧ Below w.heap.size w w' := by
  obtain ⟨⟨t1, t2⟩, h1, h2⟩ := Option.bind_eq_some_iff.mp h
  have HF := Aside0.mk h1
  have H2 := Aside0.mk h2
  clear h h1 h2
  have hu := Tryd.underlying72
  have HB1 := Aside0.mk (Below.refl w.heap.size w)
  go_enter Tryd.func27, Tryd.ntmps27
  go_upto_region 2 with (go_at_call 45; go_loud ((with_reducible refine (precinctref02_Str.calls a0 1 0 a0 [] _ rfl).mono ?_); rintro e w2 ⟨v3, rfl, hr, hb⟩; obtain ⟨A1, d1, e1⟩ := Kd.R_slice hr; subst e1; have hR1 := Aside0.mk (Kd.R_reads' hr); have hb2 := Aside0.mk hb; clear hb hr))
  have hx := blk_new w2 (.cells #[.int .i64 1, .int .i64 0, .string a0, .slice A1 0 d1] 72)
  have hcx := Kd.C_alloc hR1.out.2.2 (.cells #[.int .i64 1, .int .i64 0, .string a0, .slice A1 0 d1] 72)
  have hb := below_alloc (below_then HB1.out (below_size HB1.out) hb2.out) (.cells #[.int .i64 1, .int .i64 0, .string a0, .slice A1 0 d1] 72)
  generalize w2.alloc (.cells #[.int .i64 1, .int .i64 0, .string a0, .slice A1 0 d1] 72) = w3 at hx hcx hb ⊢
  generalize w2.heap.size = gx at hx ⊢
  have HB3 := Aside0.mk hb
  have HX3 := Aside0.mk hx
  have HCX := Aside0.mk hcx
  clear hx hcx hb HB1 hb2
  go_upto_region 3 with (go_at_call 46; go_loud ((with_reducible refine (precinctref02_Num.calls a1 0 a1 ⟨#[]⟩ [] _ rfl).mono ?_); rintro e w4 ⟨v4, rfl, hr, hb⟩; obtain ⟨A2, d2, e2⟩ := Kd.R_slice hr; subst e2; have hR2 := Aside0.mk (Kd.R_reads' hr); have hb4 := Aside0.mk hb; clear hb hr))
  have hx := blk_alloc (blk_below HX3.out hb4.out) (.cells #[.int .i64 0, .int .i64 a1, .string ⟨#[]⟩, .slice A2 0 d2] 72)
  have hy := blk_new w4 (.cells #[.int .i64 0, .int .i64 a1, .string ⟨#[]⟩, .slice A2 0 d2] 72)
  have hcx := Kd.C_alloc (Kd.C_below HCX.out hb4.out) (.cells #[.int .i64 0, .int .i64 a1, .string ⟨#[]⟩, .slice A2 0 d2] 72)
  have hcy := Kd.C_alloc hR2.out.2.2 (.cells #[.int .i64 0, .int .i64 a1, .string ⟨#[]⟩, .slice A2 0 d2] 72)
  have hb := below_alloc (below_then HB3.out (below_size HB3.out) hb4.out) (.cells #[.int .i64 0, .int .i64 a1, .string ⟨#[]⟩, .slice A2 0 d2] 72)
  generalize w4.alloc (.cells #[.int .i64 0, .int .i64 a1, .string ⟨#[]⟩, .slice A2 0 d2] 72) = w7 at hx hy hcx hcy hb ⊢
  generalize w4.heap.size = gy at hy ⊢
  have HB7 := Aside0.mk hb
  have HCX7 := Aside0.mk hcx
  have HCY7 := Aside0.mk hcy
  have x0 : w7.cell? ⟨gx, 0, none⟩ = some (.int .i64 1) := (blk_cell hx 0).trans rfl
  have x1 : w7.cell? ⟨gx, 1, none⟩ = some (.int .i64 0) := (blk_cell hx 1).trans rfl
  have x2 : w7.cell? ⟨gx, 2, none⟩ = some (.string a0) := (blk_cell hx 2).trans rfl
  have x3 : w7.cell? ⟨gx, 3, none⟩ = some (.slice A1 0 d1) := (blk_cell hx 3).trans rfl
  have y0 : w7.cell? ⟨gy, 0, none⟩ = some (.int .i64 0) := (blk_cell hy 0).trans rfl
  have y1 : w7.cell? ⟨gy, 1, none⟩ = some (.int .i64 a1) := (blk_cell hy 1).trans rfl
  have y2 : w7.cell? ⟨gy, 2, none⟩ = some (.string ⟨#[]⟩) := (blk_cell hy 2).trans rfl
  have y3 : w7.cell? ⟨gy, 3, none⟩ = some (.slice A2 0 d2) := (blk_cell hy 3).trans rfl
  clear hx hy hcx hcy hb HB3 HX3 HCX hb4
  have hbR := below_alloc (Below.refl w7.heap.size w7) (.cells #[.int .i64 1, .int .i64 0, .string a0, .slice A1 0 d1, .int .i64 0, .int .i64 a1, .string ⟨#[]⟩, .slice A2 0 d2] 72)
  have hrow := blk_new w7 (.cells #[.int .i64 1, .int .i64 0, .string a0, .slice A1 0 d1, .int .i64 0, .int .i64 a1, .string ⟨#[]⟩, .slice A2 0 d2] 72)
  have hC2 := row2 (⟨1, 0, a0, []⟩ : W) (⟨0, a1, ⟨#[]⟩, []⟩ : W) hrow (Kd.C_below HCX7.out hbR) (Nat.zero_le _) (Kd.C_below HCY7.out hbR) (Nat.zero_le _)
  have hB9 := below_then HB7.out (below_size HB7.out) hbR
  have HP := Aside0.mk (show Calls Tryd.prog 47 #[.agg #[.int .i64 2, .int .i64 0, .string ⟨#[]⟩, .slice (some ⟨w7.heap.size, 0, none⟩) 2 2]] (w7.alloc (.cells #[.int .i64 1, .int .i64 0, .string a0, .slice A1 0 d1, .int .i64 0, .int .i64 a1, .string ⟨#[]⟩, .slice A2 0 d2] 72)) fun e w' => e = .returned (.tuple #[.string t1, .int .i64 t2]) ∧ Below (w7.alloc (.cells #[.int .i64 1, .int .i64 0, .string a0, .slice A1 0 d1, .int .i64 0, .int .i64 a1, .string ⟨#[]⟩, .slice A2 0 d2] 72)).heap.size (w7.alloc (.cells #[.int .i64 1, .int .i64 0, .string a0, .slice A1 0 d1, .int .i64 0, .int .i64 a1, .string ⟨#[]⟩, .slice A2 0 d2] 72)) w' from precinctref02_Put.calls k 2 0 ⟨#[]⟩ (some ⟨w7.heap.size, 0, none⟩) 2 [⟨1, 0, a0, []⟩, ⟨0, a1, ⟨#[]⟩, []⟩] t1 t2 _ hC2 (Nat.le_refl _) HF.out)
  have HB9 := Aside0.mk hB9
  clear hbR hrow hC2 hB9 HCX7 HCY7
  have h2 := H2.out
  by_cases k1 : t2 = 0
  · rw [if_pos k1] at h2
    have HT := Aside0.mk h2
    have k1b : (t2 != 0) = false := by simp [k1]
    clear k1 h2 H2
    go_wp2_with (first | (go_at_call 47; go_loud ((with_reducible refine HP.out.mono ?_); rintro e w10 ⟨rfl, hb⟩; have HB10 := Aside0.mk (below_then HB9.out (below_size HB9.out) hb); clear hb)) | (go_at_call 25; go_loud ((with_reducible refine (precinctref05_Tag.calls key t1 r _ HT.out).mono ?_); rintro e w11 ⟨rfl, hb⟩; have HB11 := Aside0.mk (below_then HB10.out (below_size HB10.out) hb); clear hb)))
    go_ret
    exact ⟨rfl, HB11.out⟩
  · rw [if_neg k1] at h2
    obtain rfl := Option.some.inj h2
    have k1b : (t2 != 0) = true := by simp [k1]
    clear k1 h2 H2
    go_wp2_with (go_at_call 47; go_loud ((with_reducible refine HP.out.mono ?_); rintro e w10 ⟨rfl, hb⟩; have HB10 := Aside0.mk (below_then HB9.out (below_size HB9.out) hb); clear hb))
    go_ret
    exact ⟨rfl, HB10.out⟩
end Go.Proofs.YtelhajoedlaohaaDoor.Dv
-- printed by a program of this session out of the translation; see NOTES.md
namespace Go.Proofs.YtelhajoedlaohaaDoor.PD
open Go.RowKit Go.Proofs.YtelhajoedlaohaaDoorW.PrintWords Go.Proofs.YtelhajoedlaohaaDoorW.PrintLast Go.Proofs.YtelhajoedlaohaaDoorW.PrintMore
attribute [local go_sem] max2_int min2_int max_two min_two max_three min_three max_four min_four   -- for this text's walks alone
set_option linter.unusedVariables false
set_option linter.unusedSimpArgs false

/-! ### precinctref05_Derive: function 27 -/
def precinctref05_Derive.f (k : Nat) (a0 : ByteArray) (a1 : ByteArray) (a2 : Int) : Option (ByteArray) := Dv.derive k a0 a1 a2
theorem precinctref05_Derive.mono : ∀ a0 a1 a2 k, LeO (precinctref05_Derive.f k a0 a1 a2) (precinctref05_Derive.f (k + 1) a0 a1 a2) := fun a0 a1 a2 k => LeO.bind (precinctref02_Put.mono _ _ _ _ k) (fun _ => LeO.refl _)
theorem precinctref05_Derive.calls (k : Nat) (a0 : ByteArray) (a1 : ByteArray) (a2 : Int) (r : ByteArray) (w : World) (h : precinctref05_Derive.f k a0 a1 a2 = some r) :
    Calls Tryd.prog 27 #[.string a0, .string a1, .int .i64 a2] w fun e w' => e = .returned (.string r) ∧ Below w.heap.size w w' := Dv.derive_calls k a0 a1 a2 r w h

end Go.Proofs.YtelhajoedlaohaaDoor.PD
