/-
  The statements' builder of values: the whole.
-/
import Derived.Test.YtjicfkmpgogppaaBuild
namespace Go.Proofs.Ytjicfkmpgogppaa.Bu
set_option linter.unusedVariables false
set_option linter.unusedSimpArgs false
open Go Go.RowKit Go.Proofs.Ytjicfkmpgogppaa.Plain Go.Proofs.Ytjicfkmpgogppaa.PG Go.Proofs.YtjicfkmpgogppaaW.PrintWords Go.Proofs.YtjicfkmpgogppaaW.PrintLast Go.Proofs.YtjicfkmpgogppaaW.PrintMore
theorem next_ok {bat bl bn : Nat} {A : Option Addr} {c : Nat} {l : List I} {w0 : World} (hc : l.length ≤ c) (hl : (l.length : Int) ≤ 9223372036854775807) : ∀ (m : Nat) (deep : Int), 0 ≤ deep → deep ≤ 12 → 13 - deep ≤ m → NextOk m bat bl bn A c l deep w0
  | 0, deep, h0, h1, h2 => absurd h2 (by omega)
  | m + 1, deep, h0, h1, h2 => by
    intro a w hE
    by_cases h : l.length ≤ a ∨ 400 ≤ a
    · have e : nextV l (m + 1) deep a = (noV, a) := by simp only [nextV]; rw [if_pos h]
      rw [e]
      refine (next_none bat bl bn A c l a deep w0 w hE hl h).mono (fun e w' he => ⟨none, none, 0, 0, he.1, Kd.R_nil _ _ _ _ _, Kd.R_nil _ _ _ _ _, blk_below hE.hat he.2, KeepBut.of_below he.2 _ _, below_then hE.hB (below_size hE.hB) he.2⟩)
    · have e : nextV l (m + 1) deep a = (⟨(l.getD a z137).f0, (l.getD a z137).f1, (l.getD a z137).f2, (kids l.length (fun b => nextV l m (deep + 1) b) (l.getD a z137).f3 deep 400 0 (a + 1)).1⟩,
        (kids l.length (fun b => nextV l m (deep + 1) b) (l.getD a z137).f3 deep 400 0 (a + 1)).2) := by simp only [nextV]; rw [if_neg h]
      rw [e]
      exact next_some m bat bl bn A c l a deep w0 w hE hc hl (by omega) (by omega) _ rfl h0 h1 (fun _ => by omega) _ _ rfl (fun hd => next_ok hc hl m (deep + 1) (by omega) (by omega) (by omega))
/-- the builder's results are read -/
theorem build_results (tm : Array Value) (bv bw : Nat) (W : World) (x0 x1 y0 y1 : Int) (x2 y2 : ByteArray) (A B : Option Addr) (n m c d : Nat) (h5 : tm[2]? = some (.pointer (some ⟨bv, 0, none⟩))) (h6 : tm[3]? = some (.pointer (some ⟨bw, 0, none⟩)))
    (hv : W.heap[bv]? = some (.cells #[.int .i64 x0, .int .i64 x1, .string x2, .slice A n c] 54 (0, 0))) (hw : W.heap[bw]? = some (.cells #[.int .i64 y0, .int .i64 y1, .string y2, .slice B m d] 57 (0, 0))) :
    (results Try.f21 tm).run Try.prog W = .ok (.tuple #[.agg #[.int .i64 x0, .int .i64 x1, .string x2, .slice A n c], .agg #[.int .i64 y0, .int .i64 y1, .string y2, .slice B m d]]) W := by
  have c0 : W.cell? ⟨bv, 0, none⟩ = some (.int .i64 x0) := (blk_cell hv 0).trans rfl
  have c1 : W.cell? ⟨bv, 1, none⟩ = some (.int .i64 x1) := (blk_cell hv 1).trans rfl
  have c2 : W.cell? ⟨bv, 2, none⟩ = some (.string x2) := (blk_cell hv 2).trans rfl
  have c3 : W.cell? ⟨bv, 3, none⟩ = some (.slice A n c) := (blk_cell hv 3).trans rfl
  have d0 : W.cell? ⟨bw, 0, none⟩ = some (.int .i64 y0) := (blk_cell hw 0).trans rfl
  have d1 : W.cell? ⟨bw, 1, none⟩ = some (.int .i64 y1) := (blk_cell hw 1).trans rfl
  have d2 : W.cell? ⟨bw, 2, none⟩ = some (.string y2) := (blk_cell hw 2).trans rfl
  have d3 : W.cell? ⟨bw, 3, none⟩ = some (.slice B m d) := (blk_cell hw 3).trans rfl
  have hu := Try.underlying54
  have hu2 := Try.underlying57
  simp [results, Try.results21, go_sem, h5, h6, c0, c1, c2, c3, d0, d1, d2, d3]
abbrev FnV (w : World) : Value := .func (.func 60) #[] #[.pointer (some ⟨w.heap.size + 1 + 1 + 1, 0, none⟩), .pointer (some ⟨w.heap.size, 0, none⟩), .pointer (some ⟨w.heap.size + 1 + 1 + 1 + 1, 0, none⟩)]
abbrev W5 (w : World) (A : Option Addr) (n c : Nat) : World := ((((w.alloc (.cells #[.slice A n c] 50)).alloc ZV).alloc ZW).alloc (.cells #[.int .i64 0] 3)).alloc (.cells #[FnV w] 135)
theorem W5_env {w : World} {A : Option Addr} {c : Nat} {l : List I} (hC : Kd.C k137 w A l.length l) : Env w (W5 w A l.length c) (w.heap.size + 1 + 1 + 1) w.heap.size (w.heap.size + 1 + 1 + 1 + 1) A c l 0 := by
  refine ⟨?_, ?_, ?_, hC, below_alloc (below_alloc (below_alloc (below_alloc (below_alloc (Below.refl _ _) _) _) _) _) _, by omega, by omega, by omega⟩
  · refine blk_alloc ?_ _
    have h := blk_new (((w.alloc (.cells #[.slice A l.length c] 50)).alloc ZV).alloc ZW) (.cells #[.int .i64 0] 3)
    rw [al_size, al_size, al_size] at h; exact h
  · exact blk_alloc (blk_alloc (blk_alloc (blk_alloc (blk_new w _) _) _) _) _
  · have h := blk_new ((((w.alloc (.cells #[.slice A l.length c] 50)).alloc ZV).alloc ZW).alloc (.cells #[.int .i64 0] 3)) (.cells #[FnV w] 135)
    rw [al_size, al_size, al_size, al_size] at h; exact h
theorem W5_v (w : World) (A : Option Addr) (n c : Nat) : (W5 w A n c).heap[w.heap.size + 1]? = some (.cells #[.int .i64 0, .int .i64 0, .string ⟨#[]⟩, .slice none 0 0] 54 (0, 0)) := by
  refine blk_alloc (blk_alloc (blk_alloc ?_ _) _) _
  have h := blk_new (w.alloc (.cells #[.slice A n c] 50)) ZV
  rw [al_size] at h; exact h
theorem W5_w (w : World) (A : Option Addr) (n c : Nat) : (W5 w A n c).heap[w.heap.size + 1 + 1]? = some (.cells #[.int .i64 0, .int .i64 0, .string ⟨#[]⟩, .slice none 0 0] 57 (0, 0)) := by
  refine blk_alloc (blk_alloc ?_ _) _
  have h := blk_new ((w.alloc (.cells #[.slice A n c] 50)).alloc ZV) ZW
  rw [al_size, al_size] at h; exact h
theorem W5_size (w : World) (A : Option Addr) (n c : Nat) : (W5 w A n c).heap.size = w.heap.size + 5 := by rw [W5, al_size, al_size, al_size, al_size, al_size]
set_option maxHeartbeats 8000000 in
set_option maxRecDepth 100000 in
theorem build_calls (A0 : Option Addr) (c0 : Nat) (l0 : List I) (r1 r2 : Int) (r3 : ByteArray) (r4 : List V) (r5 r6 : Int) (r7 : ByteArray) (r8 : List W) (w : World) (hr0 : Kd.C k137 w A0 l0.length l0) (hc0 : l0.length ≤ c0)
    (h : ((built l0).f0, (built l0).f1, (built l0).f2, (built l0).f3, (toW (built l0)).f0, (toW (built l0)).f1, (toW (built l0)).f2, (toW (built l0)).f3) = (r1, r2, r3, r4, r5, r6, r7, r8)) :
    Calls Try.prog 21 #[.slice A0 l0.length c0] w fun e w' => ∃ v3_ v7_ : Value, e = .returned (.tuple #[.agg #[.int .i64 r1, .int .i64 r2, .string r3, v3_], .agg #[.int .i64 r5, .int .i64 r6, .string r7, v7_]]) ∧ Kd.R k54 54 w' w.heap.size (fun _ => True) v3_ r4 ∧ Kd.R k57 57 w' w.heap.size (fun _ => True) v7_ r8 ∧ Below w.heap.size w w' := by
  have hmf : ∀ (fn : Fn) (first cap : Array Value) (w : World), (Instr.makeFunc fn first cap).run Try.prog w = .ok (.func fn first cap) w := fun _ _ _ _ => rfl
  have hu := Try.underlying54
  have hu2 := Try.underlying57
  have hst : ∀ (p : Addr) (f : Fn) (x y : Array Value) (W1 : World), (store p (.func f x y)).run Try.prog W1 = stored Try.prog W1 p (.func f x y) .plain := fun p f x y W1 => run_store _ _ _ _ _ rfl
  have HR := Aside0.mk hr0
  have HC := Aside0.mk hc0
  have HH := Aside0.mk h
  clear hr0 hc0 h
  go_enter Try.func21, Try.ntmps21
  go_upto_region 4 with fail
  have hE := W5_env (c := c0) HR.out
  have hv := W5_v w A0 l0.length c0
  have hw := W5_w w A0 l0.length c0
  have hz := W5_size w A0 l0.length c0
  unfold W5 at hE hv hw hz
  generalize ((((w.alloc (.cells #[.slice A0 l0.length c0] 50)).alloc ZV).alloc ZW).alloc (.cells #[.int .i64 0] 3)).alloc (.cells #[FnV w] 135) = w5 at hE hv hw hz ⊢
  have hl : (l0.length : Int) ≤ 9223372036854775807 := by have := HR.out.2.1; omega
  have HC1 := Aside0.mk (next_ok HC.out hl 13 0 (by omega) (by omega) (by omega) 0 w5 hE)
  have cn : w5.cell? ⟨w.heap.size + 1 + 1 + 1 + 1, 0, none⟩ = some (FnV w) := (blk_cell hE.hn 0).trans rfl
  have HE := Aside0.mk hE
  have HV := Aside0.mk hv
  have HW := Aside0.mk hw
  have HZ := Aside0.mk hz
  clear hE hv hw hz hl
  obtain ⟨y, hy⟩ : ∃ y, y = (nextV l0 13 0 0).1 := ⟨_, rfl⟩
  have hyb : built l0 = y := hy.symm
  have hh := HH.out
  simp only [hyb, Prod.mk.injEq] at hh
  obtain ⟨rfl, rfl, rfl, rfl, rfl, rfl, rfl, rfl⟩ := hh
  rw [← hy] at HC1
  generalize (nextV l0 13 0 0).2 = a2 at HC1
  clear hy hyb HH
  go_wp2_with (go_at_call 60; go_loud ((with_reducible refine HC1.out.mono ?_); rintro e w4 ⟨Ay, Az, cy, cz, rfl, hnv, hnw, hat, hk, hb⟩; have hv := hk.blk HV.out (by omega) (by simp); have hw := hk.blk HW.out (by omega) (by simp); have q0 : w4.cell? ⟨w.heap.size + 1, 0, none⟩ = some (.int .i64 0) := (blk_cell hv 0).trans rfl; have q1 : w4.cell? ⟨w.heap.size + 1, 1, none⟩ = some (.int .i64 0) := (blk_cell hv 1).trans rfl; have q2 : w4.cell? ⟨w.heap.size + 1, 2, none⟩ = some (.string ⟨#[]⟩) := (blk_cell hv 2).trans rfl; have q3 : w4.cell? ⟨w.heap.size + 1, 3, none⟩ = some (.slice none 0 0) := (blk_cell hv 3).trans rfl; have p0 := blk_frozen hv 0; have p1 := blk_frozen hv 1; have p2 := blk_frozen hv 2; have p3 := blk_frozen hv 3; have s0 : w4.cell? ⟨w.heap.size + 1 + 1, 0, none⟩ = some (.int .i64 0) := (blk_cell hw 0).trans rfl; have s1 : w4.cell? ⟨w.heap.size + 1 + 1, 1, none⟩ = some (.int .i64 0) := (blk_cell hw 1).trans rfl; have s2 : w4.cell? ⟨w.heap.size + 1 + 1, 2, none⟩ = some (.string ⟨#[]⟩) := (blk_cell hw 2).trans rfl; have s3 : w4.cell? ⟨w.heap.size + 1 + 1, 3, none⟩ = some (.slice none 0 0) := (blk_cell hw 3).trans rfl; have t0 := blk_frozen hw 0; have t1 := blk_frozen hw 1; have t2 := blk_frozen hw 2; have t3 := blk_frozen hw 3; have HNV := Aside0.mk hnv; have HNW := Aside0.mk hnw; have HB := Aside0.mk hb; have HV4 := Aside0.mk hv; have HW4 := Aside0.mk hw; clear hnv hnw hat hk hb hv hw))
  have hv1 := set4_v HV4.out (.int .i64 y.f0) (.int .i64 y.f1) (.string y.f2) (.slice Ay y.f3.length cy)
  have hv2 := (set4_o (w := set4 w4 (w.heap.size + 1) (.int .i64 y.f0) (.int .i64 y.f1) (.string y.f2) (.slice Ay y.f3.length cy)) (bv := w.heap.size + 1 + 1) (k := w.heap.size + 1) (by omega) (.int .i64 y.f0) (.int .i64 y.f1) (.string y.f2) (.slice Az (toWs y.f3).length cz)).trans hv1
  have hw1 := (set4_o (w := w4) (bv := w.heap.size + 1) (k := w.heap.size + 1 + 1) (by omega) (.int .i64 y.f0) (.int .i64 y.f1) (.string y.f2) (.slice Ay y.f3.length cy)).trans HW4.out
  have hw2 := set4_v hw1 (.int .i64 y.f0) (.int .i64 y.f1) (.string y.f2) (.slice Az (toWs y.f3).length cz)
  have hz2 : ∀ k, w5.heap.size ≤ k → (set4 (set4 w4 (w.heap.size + 1) (.int .i64 y.f0) (.int .i64 y.f1) (.string y.f2) (.slice Ay y.f3.length cy)) (w.heap.size + 1 + 1) (.int .i64 y.f0) (.int .i64 y.f1) (.string y.f2) (.slice Az (toWs y.f3).length cz)).heap[k]? = w4.heap[k]? := by
    intro k hk
    have := HZ.out
    rw [set4_o (by omega), set4_o (by omega)]
  have hB2 := set4_below (set4_below HB.out (by omega : w.heap.size ≤ w.heap.size + 1) (.int .i64 y.f0) (.int .i64 y.f1) (.string y.f2) (.slice Ay y.f3.length cy)) (by omega : w.heap.size ≤ w.heap.size + 1 + 1) (.int .i64 y.f0) (.int .i64 y.f1) (.string y.f2) (.slice Az (toWs y.f3).length cz)
  have e0 := Vs.toW_0 y
  have e1 := Vs.toW_1 y
  have e2 := Vs.toW_2 y
  have e3 := Vs.toW_3 y
  have hle : w.heap.size ≤ w5.heap.size := by have := HZ.out; omega
  refine ⟨rfl, _, build_results _ (w.heap.size + 1) (w.heap.size + 1 + 1) _ y.f0 y.f1 y.f0 y.f1 y.f2 y.f2 Ay Az y.f3.length (toWs y.f3).length cy cz rfl rfl hv2 hw2, .slice Ay y.f3.length cy, .slice Az (toWs y.f3).length cz, ?_, Kd.R_lower (Kd.R_mono (Kd.R_move (Kd.R_mono (Kd.R_bound HNV.out) (fun k o => o.2.1)) hz2) (fun _ _ => trivial)) hle, ?_, hB2⟩
  · rw [show (toW y).f0 = y.f0 from e0, show (toW y).f1 = y.f1 from e1, show (toW y).f2 = y.f2 from e2]
  · rw [show (toW y).f3 = toWs y.f3 from e3]
    exact Kd.R_lower (Kd.R_mono (Kd.R_move (Kd.R_mono (Kd.R_bound HNW.out) (fun k o => o.2.1)) hz2) (fun _ _ => trivial)) hle
end Go.Proofs.Ytjicfkmpgogppaa.Bu
