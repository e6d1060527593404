/-
  The document's bytes of a request and of an answer: what they come to.
-/
import Derived.Test.YtjicfkmpgogppaaPOx5
import Derived.Test.YtjicfkmpgogppaaPOx6
import Derived.Test.YtjicfkmpgogppaaVa
import Derived.LoopTactic
import Derived.Outline
import Derived.WalkSmall
namespace Go.Proofs.Ytjicfkmpgogppaa.Ro
set_option linter.unusedVariables false
set_option linter.unusedSimpArgs false
open Go Go.RowKit Go.Proofs.Ytjicfkmpgogppaa.Plain Go.Proofs.Ytjicfkmpgogppaa.Vs Go.Proofs.Ytjicfkmpgogppaa.PO Go.Proofs.YtjicfkmpgogppaaW.PrintWords Go.Proofs.YtjicfkmpgogppaaW.PrintLast Go.Proofs.YtjicfkmpgogppaaW.PrintMore
set_option maxHeartbeats 4000000 in
set_option maxRecDepth 100000 in
theorem list_calls (A : Option Addr) (n c : Nat) (w : World) : Calls Try.prog 73 #[.slice A n c] w fun e w' => e = .returned (.agg #[.int .i64 2, .int .i64 0, .string ⟨#[]⟩, .slice A n c]) ∧ Below w.heap.size w w' := by
  have hu := Try.underlying57
  go_enter Try.func73, Try.ntmps73
  go_wp2
  exact bodyPost_ret (results_cell_row rfl _ _ w.heap.size 57 #[.int .i64 2, .int .i64 0, .string (⟨#[]⟩ : ByteArray), .slice A n c] (0, 0) _ rfl (blk_new w _) Try.underlying57 rfl (by kernel_rfl)) rfl ⟨rfl, below_alloc (Below.refl _ _) _⟩
/-- three values, laid as a row -/
theorem row3 {W1 : World} {g : Nat} {A B C : Option Addr} {a b c : Nat} (x y z : W) (h : W1.heap[g]? = some (.cells #[.int .i64 x.f0, .int .i64 x.f1, .string x.f2, .slice A x.f3.length a, .int .i64 y.f0, .int .i64 y.f1, .string y.f2, .slice B y.f3.length b, .int .i64 z.f0, .int .i64 z.f1, .string z.f2, .slice C z.f3.length c] 57 (0, 0)))
    (hx : Kd.C k57 W1 A x.f3.length x.f3) (lx : x.f3.length ≤ a) (hy : Kd.C k57 W1 B y.f3.length y.f3) (ly : y.f3.length ≤ b) (hz : Kd.C k57 W1 C z.f3.length z.f3) (lz : z.f3.length ≤ c) :
    Kd.C k57 W1 (some ⟨g, 0, none⟩) 3 [x, y, z] := by
  have hadd : ∀ n : Nat, (⟨g, 0, none⟩ : Addr).add n = ⟨g, n, none⟩ := fun n => by unfold Addr.add; split <;> simp_all
  refine ⟨rfl, by decide, fun _ => ⟨⟨g, 0, none⟩, rfl, fun j p hj => ?_⟩⟩
  match j, hj with
  | 0, hj =>
    obtain rfl : x = p := by simpa using hj
    refine ⟨_, rfl, k57_mk W1 x lx hx, fun i u hi => ?_⟩
    rw [hadd, blk_cell h]
    match i, hi with
    | 0, hi => exact hi
    | 1, hi => exact hi
    | 2, hi => exact hi
    | 3, hi => exact hi
    | i + 4, hi => simp at hi
  | 1, hj =>
    obtain rfl : y = p := by simpa using hj
    refine ⟨_, rfl, k57_mk W1 y ly hy, fun i u hi => ?_⟩
    rw [hadd, blk_cell h]
    match i, hi with
    | 0, hi => exact hi
    | 1, hi => exact hi
    | 2, hi => exact hi
    | 3, hi => exact hi
    | i + 4, hi => simp at hi
  | 2, hj =>
    obtain rfl : z = p := by simpa using hj
    refine ⟨_, rfl, k57_mk W1 z lz hz, fun i u hi => ?_⟩
    rw [hadd, blk_cell h]
    match i, hi with
    | 0, hi => exact hi
    | 1, hi => exact hi
    | 2, hi => exact hi
    | 3, hi => exact hi
    | i + 4, hi => simp at hi
  | j + 3, hj => simp at hj
theorem row2 {W1 : World} {g : Nat} {A B : Option Addr} {a b : Nat} (x y : W) (h : W1.heap[g]? = some (.cells #[.int .i64 x.f0, .int .i64 x.f1, .string x.f2, .slice A x.f3.length a, .int .i64 y.f0, .int .i64 y.f1, .string y.f2, .slice B y.f3.length b] 57 (0, 0)))
    (hx : Kd.C k57 W1 A x.f3.length x.f3) (lx : x.f3.length ≤ a) (hy : Kd.C k57 W1 B y.f3.length y.f3) (ly : y.f3.length ≤ b) :
    Kd.C k57 W1 (some ⟨g, 0, none⟩) 2 [x, y] := by
  have hadd : ∀ n : Nat, (⟨g, 0, none⟩ : Addr).add n = ⟨g, n, none⟩ := fun n => by unfold Addr.add; split <;> simp_all
  refine ⟨rfl, by decide, fun _ => ⟨⟨g, 0, none⟩, rfl, fun j p hj => ?_⟩⟩
  match j, hj with
  | 0, hj =>
    obtain rfl : x = p := by simpa using hj
    refine ⟨_, rfl, k57_mk W1 x lx hx, fun i u hi => ?_⟩
    rw [hadd, blk_cell h]
    match i, hi with
    | 0, hi => exact hi
    | 1, hi => exact hi
    | 2, hi => exact hi
    | 3, hi => exact hi
    | i + 4, hi => simp at hi
  | 1, hj =>
    obtain rfl : y = p := by simpa using hj
    refine ⟨_, rfl, k57_mk W1 y ly hy, fun i u hi => ?_⟩
    rw [hadd, blk_cell h]
    match i, hi with
    | 0, hi => exact hi
    | 1, hi => exact hi
    | 2, hi => exact hi
    | 3, hi => exact hi
    | i + 4, hi => simp at hi
  | j + 2, hj => simp at hj
def put18 (k : Nat) (a0 : ByteArray) (a1 : Int) (l : List W) : Option (ByteArray × Int) := (precinctref02_Put.f k 2 0 ⟨#[]⟩ [⟨1, 0, a0, []⟩, ⟨0, a1, ⟨#[]⟩, []⟩, ⟨2, 0, ⟨#[]⟩, l⟩]).bind fun t => if t.2 = 0 then (if (t.1.size : Int) > 4096 then some (⟨#[]⟩, 5) else some (t.1, 0)) else some (⟨#[]⟩, t.2)
abbrev Vb (a b : Int) (s : ByteArray) (v : Value) : Obj := .cells #[.int .i64 a, .int .i64 b, .string s, v] 57
set_option maxHeartbeats 8000000 in
set_option maxRecDepth 100000 in
theorem put18_calls (k : Nat) (a0 : ByteArray) (a1 : Int) (A : Option Addr) (c : Nat) (l : List W) (r1 : ByteArray) (r2 : Int) (w : World) (hr : Kd.C k57 w A l.length l) (hc : l.length ≤ c) (h : put18 k a0 a1 l = some (r1, r2)) :
    Calls Try.prog 30 #[.agg #[.string a0, .int .i64 a1, .slice A l.length c]] w fun e w' => e = .returned (.tuple #[.string r1, .int .i64 r2]) ∧ Below w.heap.size w w' := by
  obtain ⟨⟨t1, t2⟩, h1, h2⟩ := Option.bind_eq_some_iff.mp h
  have HR := Aside0.mk hr
  have HC := Aside0.mk hc
  have HF := Aside0.mk h1
  have H2 := Aside0.mk h2
  clear hr hc h h1 h2
  have hu := Try.underlying57
  have hu2 := Try.underlying79
  go_enter Try.func30, Try.ntmps30
  go_upto_region 1 with fail
  have hb := below_alloc (Below.refl w.heap.size w) (.cells #[.string a0, .int .i64 a1, .slice A l.length c] 79)
  have hq := blk_new w (.cells #[.string a0, .int .i64 a1, .slice A l.length c] 79)
  generalize w.alloc (.cells #[.string a0, .int .i64 a1, .slice A l.length c] 79) = w1 at hb hq ⊢
  have HB1 := Aside0.mk hb
  have HQ1 := Aside0.mk hq
  have c0 : w1.cell? ⟨w.heap.size, 0, none⟩ = some (.string a0) := (blk_cell hq 0).trans rfl
  have c1 : w1.cell? ⟨w.heap.size, 1, none⟩ = some (.int .i64 a1) := (blk_cell hq 1).trans rfl
  have c2 : w1.cell? ⟨w.heap.size, 2, none⟩ = some (.slice A l.length c) := (blk_cell hq 2).trans rfl
  clear hb hq
  go_upto_region 2 with (go_at_call 71; go_loud ((with_reducible refine (precinctref18_str.calls a0 1 0 a0 [] _ rfl).mono ?_); rintro e w2 ⟨v3, rfl, hr, hb⟩; obtain ⟨A1, d1, e1⟩ := Kd.R_slice hr; subst e1; have hR1 := Aside0.mk (Kd.R_reads' hr); have hb2 := Aside0.mk hb; clear hb hr c0 c1 c2))
  have hq := blk_alloc (blk_below HQ1.out hb2.out) (.cells #[.int .i64 1, .int .i64 0, .string a0, .slice A1 0 d1] 57)
  have hx := blk_new w2 (.cells #[.int .i64 1, .int .i64 0, .string a0, .slice A1 0 d1] 57)
  have hcx := Kd.C_alloc hR1.out.2.2 (.cells #[.int .i64 1, .int .i64 0, .string a0, .slice A1 0 d1] 57)
  have hb := below_alloc (below_then HB1.out (below_size HB1.out) hb2.out) (.cells #[.int .i64 1, .int .i64 0, .string a0, .slice A1 0 d1] 57)
  generalize w2.alloc (.cells #[.int .i64 1, .int .i64 0, .string a0, .slice A1 0 d1] 57) = w3 at hq hx hcx hb ⊢
  generalize w2.heap.size = gx at hx ⊢
  have HB3 := Aside0.mk hb
  have HQ3 := Aside0.mk hq
  have HX3 := Aside0.mk hx
  have HCX := Aside0.mk hcx
  have c1 : w3.cell? ⟨w.heap.size, 1, none⟩ = some (.int .i64 a1) := (blk_cell hq 1).trans rfl
  clear hq hx hcx hb HB1 HQ1 hb2
  go_upto_region 3 with (go_at_call 72; go_loud ((with_reducible refine (precinctref18_num.calls a1 0 a1 ⟨#[]⟩ [] _ rfl).mono ?_); rintro e w4 ⟨v4, rfl, hr, hb⟩; obtain ⟨A2, d2, e2⟩ := Kd.R_slice hr; subst e2; have hR2 := Aside0.mk (Kd.R_reads' hr); have hb4 := Aside0.mk hb; clear hb hr c1))
  have hq := blk_alloc (blk_below HQ3.out hb4.out) (.cells #[.int .i64 0, .int .i64 a1, .string ⟨#[]⟩, .slice A2 0 d2] 57)
  have hx := blk_alloc (blk_below HX3.out hb4.out) (.cells #[.int .i64 0, .int .i64 a1, .string ⟨#[]⟩, .slice A2 0 d2] 57)
  have hy := blk_new w4 (.cells #[.int .i64 0, .int .i64 a1, .string ⟨#[]⟩, .slice A2 0 d2] 57)
  have hcx := Kd.C_alloc (Kd.C_below HCX.out hb4.out) (.cells #[.int .i64 0, .int .i64 a1, .string ⟨#[]⟩, .slice A2 0 d2] 57)
  have hcy := Kd.C_alloc hR2.out.2.2 (.cells #[.int .i64 0, .int .i64 a1, .string ⟨#[]⟩, .slice A2 0 d2] 57)
  have hb := below_alloc (below_then HB3.out (below_size HB3.out) hb4.out) (.cells #[.int .i64 0, .int .i64 a1, .string ⟨#[]⟩, .slice A2 0 d2] 57)
  generalize w4.alloc (.cells #[.int .i64 0, .int .i64 a1, .string ⟨#[]⟩, .slice A2 0 d2] 57) = w5 at hq hx hy hcx hcy hb ⊢
  generalize w4.heap.size = gy at hy ⊢
  have HB5 := Aside0.mk hb
  have HX5 := Aside0.mk hx
  have HY5 := Aside0.mk hy
  have HCX5 := Aside0.mk hcx
  have HCY5 := Aside0.mk hcy
  have c2 : w5.cell? ⟨w.heap.size, 2, none⟩ = some (.slice A l.length c) := (blk_cell hq 2).trans rfl
  clear hq hx hy hcx hcy hb HB3 HQ3 HX3 HCX hb4
  go_upto_region 4 with (go_at_call 73; go_loud ((with_reducible refine (list_calls A l.length c _).mono ?_); rintro e w6 ⟨rfl, hb⟩; have hb6 := Aside0.mk hb; clear hb c2))
  have hx := blk_alloc (blk_below HX5.out hb6.out) (.cells #[.int .i64 2, .int .i64 0, .string ⟨#[]⟩, .slice A l.length c] 57)
  have hy := blk_alloc (blk_below HY5.out hb6.out) (.cells #[.int .i64 2, .int .i64 0, .string ⟨#[]⟩, .slice A l.length c] 57)
  have hz := blk_new w6 (.cells #[.int .i64 2, .int .i64 0, .string ⟨#[]⟩, .slice A l.length c] 57)
  have hcx := Kd.C_alloc (Kd.C_below HCX5.out hb6.out) (.cells #[.int .i64 2, .int .i64 0, .string ⟨#[]⟩, .slice A l.length c] 57)
  have hcy := Kd.C_alloc (Kd.C_below HCY5.out hb6.out) (.cells #[.int .i64 2, .int .i64 0, .string ⟨#[]⟩, .slice A l.length c] 57)
  have hb := below_alloc (below_then HB5.out (below_size HB5.out) hb6.out) (.cells #[.int .i64 2, .int .i64 0, .string ⟨#[]⟩, .slice A l.length c] 57)
  generalize w6.alloc (.cells #[.int .i64 2, .int .i64 0, .string ⟨#[]⟩, .slice A l.length c] 57) = w7 at hx hy hz hcx hcy hb ⊢
  generalize w6.heap.size = gz at hz ⊢
  have HB7 := Aside0.mk hb
  have HCX7 := Aside0.mk hcx
  have HCY7 := Aside0.mk hcy
  have x0 : w7.cell? ⟨gx, 0, none⟩ = some (.int .i64 1) := (blk_cell hx 0).trans rfl
  have x1 : w7.cell? ⟨gx, 1, none⟩ = some (.int .i64 0) := (blk_cell hx 1).trans rfl
  have x2 : w7.cell? ⟨gx, 2, none⟩ = some (.string a0) := (blk_cell hx 2).trans rfl
  have x3 : w7.cell? ⟨gx, 3, none⟩ = some (.slice A1 0 d1) := (blk_cell hx 3).trans rfl
  have y0 : w7.cell? ⟨gy, 0, none⟩ = some (.int .i64 0) := (blk_cell hy 0).trans rfl
  have y1 : w7.cell? ⟨gy, 1, none⟩ = some (.int .i64 a1) := (blk_cell hy 1).trans rfl
  have y2 : w7.cell? ⟨gy, 2, none⟩ = some (.string ⟨#[]⟩) := (blk_cell hy 2).trans rfl
  have y3 : w7.cell? ⟨gy, 3, none⟩ = some (.slice A2 0 d2) := (blk_cell hy 3).trans rfl
  have z0 : w7.cell? ⟨gz, 0, none⟩ = some (.int .i64 2) := (blk_cell hz 0).trans rfl
  have z1 : w7.cell? ⟨gz, 1, none⟩ = some (.int .i64 0) := (blk_cell hz 1).trans rfl
  have z2 : w7.cell? ⟨gz, 2, none⟩ = some (.string ⟨#[]⟩) := (blk_cell hz 2).trans rfl
  have z3 : w7.cell? ⟨gz, 3, none⟩ = some (.slice A l.length c) := (blk_cell hz 3).trans rfl
  clear hx hy hz hcx hcy hb HB5 HX5 HY5 HCX5 HCY5 hb6
  go_upto_region 5 with (go_at_call 73; go_loud ((with_reducible refine (list_calls _ 3 3 _).mono ?_); rintro e w8 ⟨rfl, hb⟩; have hb8 := Aside0.mk hb; clear hb))
  have hbR := below_then (below_alloc (Below.refl w7.heap.size w7) (.cells #[.int .i64 1, .int .i64 0, .string a0, .slice A1 0 d1, .int .i64 0, .int .i64 a1, .string ⟨#[]⟩, .slice A2 0 d2, .int .i64 2, .int .i64 0, .string ⟨#[]⟩, .slice A l.length c] 57)) (below_size (below_alloc (Below.refl w7.heap.size w7) (.cells #[.int .i64 1, .int .i64 0, .string a0, .slice A1 0 d1, .int .i64 0, .int .i64 a1, .string ⟨#[]⟩, .slice A2 0 d2, .int .i64 2, .int .i64 0, .string ⟨#[]⟩, .slice A l.length c] 57))) hb8.out
  have hrow := blk_alloc (blk_below (blk_new w7 (.cells #[.int .i64 1, .int .i64 0, .string a0, .slice A1 0 d1, .int .i64 0, .int .i64 a1, .string ⟨#[]⟩, .slice A2 0 d2, .int .i64 2, .int .i64 0, .string ⟨#[]⟩, .slice A l.length c] 57)) hb8.out) (.cells #[.int .i64 2, .int .i64 0, .string ⟨#[]⟩, .slice (some ⟨w7.heap.size, 0, none⟩) 3 3] 57)
  have hbR2 := below_alloc hbR (.cells #[.int .i64 2, .int .i64 0, .string ⟨#[]⟩, .slice (some ⟨w7.heap.size, 0, none⟩) 3 3] 57)
  have hv := blk_new w8 (.cells #[.int .i64 2, .int .i64 0, .string ⟨#[]⟩, .slice (some ⟨w7.heap.size, 0, none⟩) 3 3] 57)
  have hC3 := row3 (⟨1, 0, a0, []⟩ : W) (⟨0, a1, ⟨#[]⟩, []⟩ : W) (⟨2, 0, ⟨#[]⟩, l⟩ : W) hrow (Kd.C_below HCX7.out hbR2) (Nat.zero_le _) (Kd.C_below HCY7.out hbR2) (Nat.zero_le _) (Kd.C_below HR.out (below_then HB7.out (below_size HB7.out) hbR2)) HC.out
  have hB9 := below_then HB7.out (below_size HB7.out) hbR2
  generalize w8.alloc (.cells #[.int .i64 2, .int .i64 0, .string ⟨#[]⟩, .slice (some ⟨w7.heap.size, 0, none⟩) 3 3] 57) = w9 at hrow hbR2 hv hC3 hB9 ⊢
  generalize w8.heap.size = gv at hv ⊢
  have HB9 := Aside0.mk hB9
  have HC3 := Aside0.mk hC3
  have v0 : w9.cell? ⟨gv, 0, none⟩ = some (.int .i64 2) := (blk_cell hv 0).trans rfl
  have v1 : w9.cell? ⟨gv, 1, none⟩ = some (.int .i64 0) := (blk_cell hv 1).trans rfl
  have v2 : w9.cell? ⟨gv, 2, none⟩ = some (.string ⟨#[]⟩) := (blk_cell hv 2).trans rfl
  have v3 : w9.cell? ⟨gv, 3, none⟩ = some (.slice (some ⟨w7.heap.size, 0, none⟩) 3 3) := (blk_cell hv 3).trans rfl
  clear hbR hrow hbR2 hv hC3 hB9 HB7 HCX7 HCY7 hb8 x0 x1 x2 x3 y0 y1 y2 y3 z0 z1 z2 z3
  have HP := Aside0.mk (show Calls Try.prog 74 #[.agg #[.int .i64 2, .int .i64 0, .string ⟨#[]⟩, .slice (some ⟨w7.heap.size, 0, none⟩) 3 3]] w9 fun e w' => e = .returned (.tuple #[.string t1, .int .i64 t2]) ∧ Below w9.heap.size w9 w' from precinctref02_Put.calls k 2 0 ⟨#[]⟩ (some ⟨w7.heap.size, 0, none⟩) 3 [⟨1, 0, a0, []⟩, ⟨0, a1, ⟨#[]⟩, []⟩, ⟨2, 0, ⟨#[]⟩, l⟩] t1 t2 w9 HC3.out (Nat.le_refl _) HF.out)
  have h2 := H2.out
  by_cases k1 : t2 = 0
  · rw [if_pos k1] at h2
    by_cases k2 : (t1.size : Int) > 4096
    · rw [if_pos k2] at h2
      simp only [Option.some.injEq, Prod.mk.injEq] at h2
      obtain ⟨rfl, rfl⟩ := h2
      have k1b : (t2 != 0) = false := by simp [k1]
      have k2b : decide ((4096 : Int) < (t1.size : Int)) = true := decide_eq_true k2
      have k2c : decide (4096 < t1.size) = true := decide_eq_true (by omega)
      clear k1 k2
      go_wp2_with (go_at_call 74; go_loud ((with_reducible refine HP.out.mono ?_); rintro e w10 ⟨rfl, hb⟩; have HB10 := Aside0.mk (below_then HB9.out (below_size HB9.out) hb); clear hb))
      go_ret2
      exact ⟨rfl, HB10.out⟩
    · rw [if_neg k2] at h2
      simp only [Option.some.injEq, Prod.mk.injEq] at h2
      obtain ⟨rfl, rfl⟩ := h2
      have k1b : (t2 != 0) = false := by simp [k1]
      have k2b : decide ((4096 : Int) < (t1.size : Int)) = false := decide_eq_false k2
      have k2c : decide (4096 < t1.size) = false := decide_eq_false (by omega)
      clear k1 k2
      go_wp2_with (go_at_call 74; go_loud ((with_reducible refine HP.out.mono ?_); rintro e w10 ⟨rfl, hb⟩; have HB10 := Aside0.mk (below_then HB9.out (below_size HB9.out) hb); clear hb))
      go_ret2
      exact ⟨rfl, HB10.out⟩
  · rw [if_neg k1] at h2
    simp only [Option.some.injEq, Prod.mk.injEq] at h2
    obtain ⟨rfl, rfl⟩ := h2
    have k1b : (t2 != 0) = true := by simp [k1]
    clear k1
    go_wp2_with (go_at_call 74; go_loud ((with_reducible refine HP.out.mono ?_); rintro e w10 ⟨rfl, hb⟩; have HB10 := Aside0.mk (below_then HB9.out (below_size HB9.out) hb); clear hb))
    go_ret2
    exact ⟨rfl, HB10.out⟩
def bytes18 (k : Nat) (a0 a1 a2 : Int) (a3 : ByteArray) (l : List W) : Option ByteArray := (precinctref02_Put.f k 2 0 ⟨#[]⟩ [⟨0, a0, ⟨#[]⟩, []⟩, ⟨a1, a2, a3, l⟩]).bind fun t => some t.1
set_option maxHeartbeats 8000000 in
set_option maxRecDepth 100000 in
theorem bytes18_calls (k : Nat) (a0 a1 a2 : Int) (a3 : ByteArray) (A : Option Addr) (c : Nat) (l : List W) (r : ByteArray) (w : World) (hr : Kd.C k57 w A l.length l) (hc : l.length ≤ c) (h : bytes18 k a0 a1 a2 a3 l = some r) :
    Calls Try.prog 33 #[.agg #[.int .i64 a0, .int .i64 a1, .int .i64 a2, .string a3, .slice A l.length c]] w fun e w' => e = .returned (.string r) ∧ Below w.heap.size w w' := by
  obtain ⟨⟨t1, t2⟩, h1, h2⟩ := Option.bind_eq_some_iff.mp h
  obtain rfl : t1 = r := by simpa using h2
  have HR := Aside0.mk hr
  have HC := Aside0.mk hc
  have HF := Aside0.mk h1
  clear hr hc h h1 h2
  have hu := Try.underlying57
  have hu2 := Try.underlying86
  go_enter Try.func33, Try.ntmps33
  go_upto_region 1 with fail
  have hb := below_alloc (Below.refl w.heap.size w) (.cells #[.int .i64 a0, .int .i64 a1, .int .i64 a2, .string a3, .slice A l.length c] 86)
  have hq := blk_new w (.cells #[.int .i64 a0, .int .i64 a1, .int .i64 a2, .string a3, .slice A l.length c] 86)
  generalize w.alloc (.cells #[.int .i64 a0, .int .i64 a1, .int .i64 a2, .string a3, .slice A l.length c] 86) = w1 at hb hq ⊢
  have HB1 := Aside0.mk hb
  have HQ1 := Aside0.mk hq
  have c0 : w1.cell? ⟨w.heap.size, 0, none⟩ = some (.int .i64 a0) := (blk_cell hq 0).trans rfl
  clear hb hq
  go_upto_region 2 with (go_at_call 72; go_loud ((with_reducible refine (precinctref18_num.calls a0 0 a0 ⟨#[]⟩ [] _ rfl).mono ?_); rintro e w4 ⟨v4, rfl, hr, hb⟩; obtain ⟨A2, d2, e2⟩ := Kd.R_slice hr; subst e2; have hR2 := Aside0.mk (Kd.R_reads' hr); have hb4 := Aside0.mk hb; clear hb hr c0))
  have hq := blk_alloc (blk_below HQ1.out hb4.out) (.cells #[.int .i64 0, .int .i64 a0, .string ⟨#[]⟩, .slice A2 0 d2] 57)
  have hy := blk_new w4 (.cells #[.int .i64 0, .int .i64 a0, .string ⟨#[]⟩, .slice A2 0 d2] 57)
  have hcy := Kd.C_alloc hR2.out.2.2 (.cells #[.int .i64 0, .int .i64 a0, .string ⟨#[]⟩, .slice A2 0 d2] 57)
  have hb := below_alloc (below_then HB1.out (below_size HB1.out) hb4.out) (.cells #[.int .i64 0, .int .i64 a0, .string ⟨#[]⟩, .slice A2 0 d2] 57)
  generalize w4.alloc (.cells #[.int .i64 0, .int .i64 a0, .string ⟨#[]⟩, .slice A2 0 d2] 57) = w5 at hq hy hcy hb ⊢
  generalize w4.heap.size = gy at hy ⊢
  have HB5 := Aside0.mk hb
  have HCY5 := Aside0.mk hcy
  have y0 : w5.cell? ⟨gy, 0, none⟩ = some (.int .i64 0) := (blk_cell hy 0).trans rfl
  have y1 : w5.cell? ⟨gy, 1, none⟩ = some (.int .i64 a0) := (blk_cell hy 1).trans rfl
  have y2 : w5.cell? ⟨gy, 2, none⟩ = some (.string ⟨#[]⟩) := (blk_cell hy 2).trans rfl
  have y3 : w5.cell? ⟨gy, 3, none⟩ = some (.slice A2 0 d2) := (blk_cell hy 3).trans rfl
  have q1 : w5.cell? ⟨w.heap.size, 1, none⟩ = some (.int .i64 a1) := (blk_cell hq 1).trans rfl
  have q2 : w5.cell? ⟨w.heap.size, 2, none⟩ = some (.int .i64 a2) := (blk_cell hq 2).trans rfl
  have q3 : w5.cell? ⟨w.heap.size, 3, none⟩ = some (.string a3) := (blk_cell hq 3).trans rfl
  have q4 : w5.cell? ⟨w.heap.size, 4, none⟩ = some (.slice A l.length c) := (blk_cell hq 4).trans rfl
  clear hq hy hcy hb HB1 HQ1 hb4
  go_upto_region 3 with (go_at_call 73; go_loud ((with_reducible refine (list_calls _ 2 2 _).mono ?_); rintro e w8 ⟨rfl, hb⟩; have hb8 := Aside0.mk hb; clear hb))
  have hbR := below_then (below_alloc (Below.refl w5.heap.size w5) (.cells #[.int .i64 0, .int .i64 a0, .string ⟨#[]⟩, .slice A2 0 d2, .int .i64 a1, .int .i64 a2, .string a3, .slice A l.length c] 57)) (below_size (below_alloc (Below.refl w5.heap.size w5) (.cells #[.int .i64 0, .int .i64 a0, .string ⟨#[]⟩, .slice A2 0 d2, .int .i64 a1, .int .i64 a2, .string a3, .slice A l.length c] 57))) hb8.out
  have hrow := blk_alloc (blk_below (blk_new w5 (.cells #[.int .i64 0, .int .i64 a0, .string ⟨#[]⟩, .slice A2 0 d2, .int .i64 a1, .int .i64 a2, .string a3, .slice A l.length c] 57)) hb8.out) (.cells #[.int .i64 2, .int .i64 0, .string ⟨#[]⟩, .slice (some ⟨w5.heap.size, 0, none⟩) 2 2] 57)
  have hbR2 := below_alloc hbR (.cells #[.int .i64 2, .int .i64 0, .string ⟨#[]⟩, .slice (some ⟨w5.heap.size, 0, none⟩) 2 2] 57)
  have hv := blk_new w8 (.cells #[.int .i64 2, .int .i64 0, .string ⟨#[]⟩, .slice (some ⟨w5.heap.size, 0, none⟩) 2 2] 57)
  have hC3 := row2 (⟨0, a0, ⟨#[]⟩, []⟩ : W) (⟨a1, a2, a3, l⟩ : W) hrow (Kd.C_below HCY5.out hbR2) (Nat.zero_le _) (Kd.C_below HR.out (below_then HB5.out (below_size HB5.out) hbR2)) HC.out
  have hB9 := below_then HB5.out (below_size HB5.out) hbR2
  generalize w8.alloc (.cells #[.int .i64 2, .int .i64 0, .string ⟨#[]⟩, .slice (some ⟨w5.heap.size, 0, none⟩) 2 2] 57) = w9 at hrow hbR2 hv hC3 hB9 ⊢
  generalize w8.heap.size = gv at hv ⊢
  have HB9 := Aside0.mk hB9
  have HC3 := Aside0.mk hC3
  have v0 : w9.cell? ⟨gv, 0, none⟩ = some (.int .i64 2) := (blk_cell hv 0).trans rfl
  have v1 : w9.cell? ⟨gv, 1, none⟩ = some (.int .i64 0) := (blk_cell hv 1).trans rfl
  have v2 : w9.cell? ⟨gv, 2, none⟩ = some (.string ⟨#[]⟩) := (blk_cell hv 2).trans rfl
  have v3 : w9.cell? ⟨gv, 3, none⟩ = some (.slice (some ⟨w5.heap.size, 0, none⟩) 2 2) := (blk_cell hv 3).trans rfl
  clear hbR hrow hbR2 hv hC3 hB9 HB5 HCY5 hb8 y0 y1 y2 y3 q1 q2 q3 q4
  have HP := Aside0.mk (show Calls Try.prog 74 #[.agg #[.int .i64 2, .int .i64 0, .string ⟨#[]⟩, .slice (some ⟨w5.heap.size, 0, none⟩) 2 2]] w9 fun e w' => e = .returned (.tuple #[.string t1, .int .i64 t2]) ∧ Below w9.heap.size w9 w' from precinctref02_Put.calls k 2 0 ⟨#[]⟩ (some ⟨w5.heap.size, 0, none⟩) 2 [⟨0, a0, ⟨#[]⟩, []⟩, ⟨a1, a2, a3, l⟩] t1 t2 w9 HC3.out (Nat.le_refl _) HF.out)
  go_wp2_with (go_at_call 74; go_loud ((with_reducible refine HP.out.mono ?_); rintro e w10 ⟨rfl, hb⟩; have HB10 := Aside0.mk (below_then HB9.out (below_size HB9.out) hb); clear hb))
  go_ret
  exact ⟨rfl, HB10.out⟩
end Go.Proofs.Ytjicfkmpgogppaa.Ro
