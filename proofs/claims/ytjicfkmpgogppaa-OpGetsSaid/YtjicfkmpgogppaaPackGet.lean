/-
  pack.Get: the deferred closure, by its two contracts; the whole.
-/
import Derived.Test.YtjicfkmpgogppaaRd
import Derived.Tactics
import Derived.Tactics2
import Derived.Defers
import Derived.Laws.Pointers
namespace Go.Proofs.Ytjicfkmpgogppaa.Rd
set_option linter.unusedVariables false
set_option linter.unusedSimpArgs false
open Go Go.RowKit Go.Proofs.Ytjicfkmpgogppaa.Plain Go.Proofs.Ytjicfkmpgogppaa.Words Go.Proofs.Ytjicfkmpgogppaa.Vr Go.Proofs.Ytjicfkmpgogppaa.Mt Go.Proofs.Ytjicfkmpgogppaa.PO Go.Proofs.YtjicfkmpgogppaaW.PrintWords Go.Proofs.YtjicfkmpgogppaaW.PrintLast Go.Proofs.YtjicfkmpgogppaaW.PrintMore
set_option maxHeartbeats 4000000 in
set_option maxRecDepth 100000 in
theorem catch_idle (p q : Addr) (w : World) :
    CallsD Try.prog 97 #[.pointer (some p), .pointer (some q)] .returning w fun e u' w' => e = .returned (.tuple #[]) ∧ u' = .returning ∧ w' = w := by
  have hta : ∀ w, Sem.run Try.prog (Instr.typeAssert .nilIface 20 179 true) w = .ok (.tuple #[.int .i64 0, .bool false]) w := fun w => rfl
  refine callsD_of_wpS Try.func97 rfl fun c₀ cs hu => ?_
  apply wpS_seq
  apply wpS_region
  simp [wpOpsS, go_sem, recoverD, hu, hta, Try.ntmps97, Exit.thenS]
  apply wpS_seq
  apply wpS_region
  simp [wpOpsS, go_sem, Try.ntmps97, Exit.thenS]
  refine wpS_cond (t := false) (by simp [Act.eval, Array.replicate]) ?_
  simp only [Bool.false_eq_true, if_false]
  refine wpS_of_wp (wp_skip ?_)
  cases c₀
  simp_all [bodyPostS, results, Try.results97]
set_option maxHeartbeats 4000000 in
set_option maxRecDepth 100000 in
theorem catch_panicking (bv be : Nat) (c x0 x1 x4 : Int) (x2 : ByteArray) (v3 : Value) (w : World) (hv : w.heap[bv]? = some (.cells #[.int .i64 x0, .int .i64 x1, .string x2, v3] 54 (0, 0))) (he : w.heap[be]? = some (.cells #[.int .i64 x4] 33 (0, 0))) :
    CallsD Try.prog 97 #[.pointer (some ⟨bv, 0, none⟩), .pointer (some ⟨be, 0, none⟩)] (.panicking [fault c]) w fun e u' w' =>
      e = .returned (.tuple #[]) ∧ u' = .panicking [{ v := (fault c).v, recovered := true }] ∧ w' = ((((w.setCell ⟨bv, 0, none⟩ (.int .i64 0)).setCell ⟨bv, 1, none⟩ (.int .i64 0)).setCell ⟨bv, 2, none⟩ (.string ⟨#[]⟩)).setCell ⟨bv, 3, none⟩ (.slice none 0 0)).setCell ⟨be, 0, none⟩ (.int .i64 c) := by
  have hta : ∀ w, Sem.run Try.prog (Instr.typeAssert (.iface 179 (.int .i64 c)) 20 179 true) w = .ok (.tuple #[.int .i64 c, .bool true]) w := fun w => rfl
  have hne : bv ≠ be := blk_ne hv he (by decide)
  have c0 : w.cell? ⟨bv, 0, none⟩ = some (.int .i64 x0) := (blk_cell hv 0).trans rfl
  have c1 : w.cell? ⟨bv, 1, none⟩ = some (.int .i64 x1) := (blk_cell hv 1).trans rfl
  have c2 : w.cell? ⟨bv, 2, none⟩ = some (.string x2) := (blk_cell hv 2).trans rfl
  have c3 : w.cell? ⟨bv, 3, none⟩ = some v3 := (blk_cell hv 3).trans rfl
  have c4 : w.cell? ⟨be, 0, none⟩ = some (.int .i64 x4) := (blk_cell he 0).trans rfl
  have f0 := blk_frozen hv 0
  have f1 := blk_frozen hv 1
  have f2 := blk_frozen hv 2
  have f3 := blk_frozen hv 3
  have f4 := blk_frozen he 0
  refine callsD_of_wpS Try.func97 rfl fun c₀ cs hu => ?_
  apply wpS_seq
  apply wpS_region
  simp [wpOpsS, go_sem, recoverD, hu, hta, Try.ntmps97, Exit.thenS]
  apply wpS_seq
  apply wpS_region
  simp [wpOpsS, go_sem, Try.ntmps97, Exit.thenS]
  refine wpS_cond (t := true) (by simp [Act.eval, Array.replicate]) ?_
  simp only [if_true]
  have hua := Try.underlying54
  apply wpS_region
  simp [wpOpsS, go_sem, c0, c1, c2, c3, c4, f0, f1, f2, f3, f4, hne, hne.symm, bodyPostS, results, Try.results97]
theorem panics_use {s : ByteArray} {i d e : Int} (h : Panics s i d e) (g : Nat) (w0 w : World) (hI : IsS183 w0 w g s i) (hB : Below w0.heap.size w0 w) : Calls Try.prog 98 #[.pointer (some ⟨g, 0, none⟩), .int .i64 d] w fun e' w' => e' = .panicked [fault e] ∧ KeepBut w w' g none ∧ Below w0.heap.size w0 w' := h g w0 w hI hB
abbrev W3 (w : World) (s : ByteArray) : World := ((w.alloc (.cells #[.int .i64 0, .int .i64 0, .string ⟨#[]⟩, .slice none 0 0] 54)).alloc (.cells #[.int .i64 0] 33)).alloc (.cells #[.string s, .int .i64 0] 183)
theorem al_size (w : World) (o : Obj) : (w.alloc o).heap.size = w.heap.size + 1 := by show (w.heap.push _).size = _; exact Array.size_push _
theorem al_old (w : World) (o : Obj) (k : Nat) (h : k < w.heap.size) : (w.alloc o).heap[k]? = w.heap[k]? := (below_alloc (Below.refl _ _) o).block k h
theorem W3_size (w : World) (s : ByteArray) : (W3 w s).heap.size = w.heap.size + 1 + 1 + 1 := by rw [W3, al_size, al_size, al_size]
theorem W3_v (w : World) (s : ByteArray) : (W3 w s).heap[w.heap.size]? = some (.cells #[.int .i64 0, .int .i64 0, .string ⟨#[]⟩, .slice none 0 0] 54 (0, 0)) := by
  rw [W3, al_old _ _ _ (by rw [al_size, al_size]; omega), al_old _ _ _ (by rw [al_size]; omega)]; exact blk_new _ _
theorem W3_e (w : World) (s : ByteArray) : (W3 w s).heap[w.heap.size + 1]? = some (.cells #[.int .i64 0] 33 (0, 0)) := by
  rw [W3, al_old _ _ _ (by rw [al_size, al_size]; omega), ← al_size w (.cells #[.int .i64 0, .int .i64 0, .string ⟨#[]⟩, .slice none 0 0] 54)]; exact blk_new _ _
theorem W3_r (w : World) (s : ByteArray) : IsS183 w (W3 w s) (w.heap.size + 1 + 1) s 0 := ⟨by
  rw [W3, ← al_size w (.cells #[.int .i64 0, .int .i64 0, .string ⟨#[]⟩, .slice none 0 0] 54), ← al_size _ (.cells #[.int .i64 0] 33)]; exact blk_new _ _, by omega⟩
theorem W3_below (w : World) (s : ByteArray) : Below w.heap.size w (W3 w s) := below_alloc (below_alloc (below_alloc (Below.refl _ _) _) _) _
theorem set_heap (W : World) (p : Addr) (u : Value) (k : Nat) (h : k ≠ p.block) : (W.setCell p u).heap[k]? = W.heap[k]? := Below.heap_setCell W p u k h
/-- pack.Get's results are read behind its deferred closure -/
theorem get_results (bv be : Nat) (t0 t1 t4 t5 t6 t7 t8 t9 t10 t11 t12 t13 t14 t15 t16 t17 t18 t19 : Value) (W : World) (x0 x1 x4 : Int) (x2 : ByteArray) (A : Option Addr) (n cc : Nat)
    (hv : W.heap[bv]? = some (.cells #[.int .i64 x0, .int .i64 x1, .string x2, .slice A n cc] 54 (0, 0))) (he : W.heap[be]? = some (.cells #[.int .i64 x4] 33 (0, 0))) :
    (results Try.f75 #[t0, t1, .pointer (some ⟨bv, 0, none⟩), .pointer (some ⟨be, 0, none⟩), t4, t5, t6, t7, t8, t9, t10, t11, t12, t13, t14, t15, t16, t17, t18, t19]).run Try.prog W = .ok (.tuple #[.agg #[.int .i64 x0, .int .i64 x1, .string x2, .slice A n cc], .int .i64 x4]) W := by
  have c0 : W.cell? ⟨bv, 0, none⟩ = some (.int .i64 x0) := (blk_cell hv 0).trans rfl
  have c1 : W.cell? ⟨bv, 1, none⟩ = some (.int .i64 x1) := (blk_cell hv 1).trans rfl
  have c2 : W.cell? ⟨bv, 2, none⟩ = some (.string x2) := (blk_cell hv 2).trans rfl
  have c3 : W.cell? ⟨bv, 3, none⟩ = some (.slice A n cc) := (blk_cell hv 3).trans rfl
  have c4 : W.cell? ⟨be, 0, none⟩ = some (.int .i64 x4) := (blk_cell he 0).trans rfl
  have hu := Try.underlying54
  simp [results, Try.results75, go_sem, c0, c1, c2, c3, c4]
theorem door_idle (bv be : Nat) (t0 t1 t4 t5 t6 t7 t8 t9 t10 t11 t12 t13 t14 t15 t16 t17 t18 t19 : Value) (W : World) (x0 x1 x4 : Int) (x2 : ByteArray) (A : Option Addr) (n cc : Nat) (R : Ending → World → Prop)
    (hv : W.heap[bv]? = some (.cells #[.int .i64 x0, .int .i64 x1, .string x2, .slice A n cc] 54 (0, 0))) (he : W.heap[be]? = some (.cells #[.int .i64 x4] 33 (0, 0)))
    (hR : R (.returned (.tuple #[.agg #[.int .i64 x0, .int .i64 x1, .string x2, .slice A n cc], .int .i64 x4])) W) :
    bodyPostD Try.prog Try.f75 R Exit.ret { tmps := #[t0, t1, .pointer (some ⟨bv, 0, none⟩), .pointer (some ⟨be, 0, none⟩), t4, t5, t6, t7, t8, t9, t10, t11, t12, t13, t14, t15, t16, t17, t18, t19], defers := [{ target := .fn (.func 97) #[.pointer (some ⟨bv, 0, none⟩), .pointer (some ⟨be, 0, none⟩)], args := #[] }] } W := by
  refine leaves_cons (f := 97) (args := #[.pointer (some ⟨bv, 0, none⟩), .pointer (some ⟨be, 0, none⟩)]) (by simp) (by simp [go_sem]) ?_
  refine (catch_idle _ _ _).mono ?_
  rintro e u' w'' ⟨rfl, rfl, rfl⟩
  exact ⟨_, get_results bv be _ _ _ _ _ _ _ _ _ _ _ _ _ _ _ _ _ _ _ x0 x1 x4 x2 A n cc hv he, hR⟩
abbrev set4 (w : World) (bv : Nat) (a b c d : Value) : World := (((w.setCell ⟨bv, 0, none⟩ a).setCell ⟨bv, 1, none⟩ b).setCell ⟨bv, 2, none⟩ c).setCell ⟨bv, 3, none⟩ d
theorem set4_v {w : World} {bv : Nat} {t : TypeId} {y0 y1 y2 y3 : Value} (h : w.heap[bv]? = some (.cells #[y0, y1, y2, y3] t (0, 0))) (a b c d : Value) : (set4 w bv a b c d).heap[bv]? = some (.cells #[a, b, c, d] t (0, 0)) :=
  blk_put (blk_put (blk_put (blk_put h 0 a rfl) 1 b rfl) 2 c rfl) 3 d rfl
theorem set4_o {w : World} {bv k : Nat} (h : k ≠ bv) (a b c d : Value) : (set4 w bv a b c d).heap[k]? = w.heap[k]? := by
  rw [set4, set_heap _ _ _ _ h, set_heap _ _ _ _ h, set_heap _ _ _ _ h, set_heap _ _ _ _ h]
theorem set4_below {B bv : Nat} {u w : World} (h : Below B u w) (hb : B ≤ bv) (a b c d : Value) : Below B u (set4 w bv a b c d) :=
  (((h.setCell (p := ⟨bv, 0, none⟩) hb a).setCell (p := ⟨bv, 1, none⟩) hb b).setCell (p := ⟨bv, 2, none⟩) hb c).setCell (p := ⟨bv, 3, none⟩) hb d
theorem door_caught (bv be : Nat) (t0 t1 t4 t5 t6 t7 t8 t9 t10 t11 t12 t13 t14 t15 t16 t17 t18 t19 : Value) (W : World) (c x0 x1 x4 : Int) (x2 : ByteArray) (v3 : Value) (R : Ending → World → Prop)
    (hv : W.heap[bv]? = some (.cells #[.int .i64 x0, .int .i64 x1, .string x2, v3] 54 (0, 0))) (he : W.heap[be]? = some (.cells #[.int .i64 x4] 33 (0, 0)))
    (hR : R (.returned (.tuple #[.agg #[.int .i64 0, .int .i64 0, .string ⟨#[]⟩, .slice none 0 0], .int .i64 c])) ((set4 W bv (.int .i64 0) (.int .i64 0) (.string ⟨#[]⟩) (.slice none 0 0)).setCell ⟨be, 0, none⟩ (.int .i64 c))) :
    bodyPostD Try.prog Try.f75 R (Exit.panic [fault c]) { tmps := #[t0, t1, .pointer (some ⟨bv, 0, none⟩), .pointer (some ⟨be, 0, none⟩), t4, t5, t6, t7, t8, t9, t10, t11, t12, t13, t14, t15, t16, t17, t18, t19], defers := [{ target := .fn (.func 97) #[.pointer (some ⟨bv, 0, none⟩), .pointer (some ⟨be, 0, none⟩)], args := #[] }] } W := by
  have hne : bv ≠ be := blk_ne hv he (by decide)
  refine leaves_cons (f := 97) (args := #[.pointer (some ⟨bv, 0, none⟩), .pointer (some ⟨be, 0, none⟩)]) (by simp) (by simp [go_sem]) ?_
  refine (catch_panicking bv be c x0 x1 x4 x2 v3 W hv he).mono ?_
  rintro e u' w'' ⟨rfl, rfl, rfl⟩
  have hv' := set4_v hv (.int .i64 0) (.int .i64 0) (.string ⟨#[]⟩) (.slice none 0 0)
  have he' : (set4 W bv (.int .i64 0) (.int .i64 0) (.string ⟨#[]⟩) (.slice none 0 0)).heap[be]? = _ := (set4_o hne.symm _ _ _ _).trans he
  exact ⟨_, get_results bv be _ _ _ _ _ _ _ _ _ _ _ _ _ _ _ _ _ _ _ 0 0 c ⟨#[]⟩ none 0 0 (blk_far hv' hne _) (blk_put he' 0 _ rfl), hR⟩
set_option maxHeartbeats 4000000 in
set_option maxRecDepth 100000 in
theorem get_ok (s : ByteArray) (K : Nat) (x : S54) (at_ : Int) (w : World) (h : pack_reader_value.f K s 0 0 = some (x.f0, x.f1, x.f2, x.f3, s, at_)) (h1 : ¬ at_ < (s.size : Int)) :
    Calls Try.prog 75 #[.string s] w fun e w' => ∃ v3_ : Value, e = .returned (.tuple #[.agg #[.int .i64 x.f0, .int .i64 x.f1, .string x.f2, v3_], .int .i64 0]) ∧ Kd.R k54 54 w' w.heap.size (fun _ => True) v3_ x.f3 ∧ Below w.heap.size w w' := by
  have hmf : ∀ (fn : Fn) (first cap : Array Value) (w : World), (Instr.makeFunc fn first cap).run Try.prog w = .ok (.func fn first cap) w := fun _ _ _ _ => rfl
  have HF := Aside0.mk h
  have hd : decide (at_ < (s.size : Int)) = false := decide_eq_false h1
  clear h h1
  have hu := Try.underlying54
  have hu2 := Try.underlying183
  go_enter_defers Try.func75, Try.ntmps75
  go_wp2_with (go_at_call 98; go_loud ((with_reducible refine (pack_reader_value.calls K (w.heap.size + 1 + 1) s 0 0 x.f0 x.f1 x.f2 x.f3 s at_ w _ ?b ?bb HF.out).mono ?_); (case b => exact W3_r w s); (case bb => exact W3_below w s); rintro e w1 ⟨v3, rfl, ho, hi, hb, hk⟩; obtain ⟨A4, cc, e4⟩ := Kd.R_slice ho; subst e4;     have hv := hk.blk (W3_v w s) (by omega) (by simp); have he := hk.blk (W3_e w s) (by omega) (by simp); have hl := keep_size hk; have c0 : w1.cell? ⟨w.heap.size, 0, none⟩ = some (.int .i64 0) := (blk_cell hv 0).trans rfl; have c1 : w1.cell? ⟨w.heap.size, 1, none⟩ = some (.int .i64 0) := (blk_cell hv 1).trans rfl; have c2 : w1.cell? ⟨w.heap.size, 2, none⟩ = some (.string ⟨#[]⟩) := (blk_cell hv 2).trans rfl; have c3 : w1.cell? ⟨w.heap.size, 3, none⟩ = some (.slice none 0 0) := (blk_cell hv 3).trans rfl; have c4 : w1.cell? ⟨w.heap.size + 1, 0, none⟩ = some (.int .i64 0) := (blk_cell he 0).trans rfl; have c5 : w1.cell? ⟨w.heap.size + 1 + 1, 0, none⟩ = some (.string s) := (blk_cell hi.1 0).trans rfl; have c6 : w1.cell? ⟨w.heap.size + 1 + 1, 1, none⟩ = some (.int .i64 at_) := (blk_cell hi.1 1).trans rfl; have f0 := blk_frozen hv 0; have f1 := blk_frozen hv 1; have f2 := blk_frozen hv 2; have f3 := blk_frozen hv 3; have f4 := blk_frozen he 0; have f5 := blk_frozen hi.1 0; have f6 := blk_frozen hi.1 1; have HO := Aside0.mk ho; have HB := Aside0.mk hb; have HL := Aside0.mk hl; have HV := Aside0.mk hv; have HE := Aside0.mk he; clear ho hi hb hk hv he hl))
  have hne : w.heap.size ≠ w.heap.size + 1 := by omega
  have hv1 := set4_v HV.out (.int .i64 x.f0) (.int .i64 x.f1) (.string x.f2) (.slice A4 x.f3.length cc)
  have hv2 := set4_v hv1 (.int .i64 x.f0) (.int .i64 x.f1) (.string x.f2) (.slice A4 x.f3.length cc)
  have he1 := (set4_o (w := w1) hne.symm (.int .i64 x.f0) (.int .i64 x.f1) (.string x.f2) (.slice A4 x.f3.length cc)).trans HE.out
  have he2 := (set4_o (w := set4 w1 w.heap.size (.int .i64 x.f0) (.int .i64 x.f1) (.string x.f2) (.slice A4 x.f3.length cc)) hne.symm (.int .i64 x.f0) (.int .i64 x.f1) (.string x.f2) (.slice A4 x.f3.length cc)).trans he1
  refine door_idle w.heap.size (w.heap.size + 1) _ _ _ _ _ _ _ _ _ _ _ _ _ _ _ _ _ _ _ x.f0 x.f1 0 x.f2 A4 x.f3.length cc _ (blk_far hv2 hne _) (blk_put he2 0 _ rfl) ⟨_, rfl, ?_, ?_⟩
  · refine Kd.R_move (Kd.R_lower (Kd.R_mono (Kd.R_bound HO.out) (ok' := fun k => w.heap.size + 1 + 1 + 1 ≤ k) (fun k hk => by have h := hk.2.1; rw [W3_size] at h; exact h)) (by rw [W3_size]; omega)) ?_ |> fun h => Kd.R_mono h (fun _ _ => trivial)
    intro k hk
    rw [set_heap _ _ _ _ (by show k ≠ w.heap.size + 1; omega), set4_o (by omega), set4_o (by omega)]
  · exact (set4_below (set4_below HB.out (Nat.le_refl _) _ _ _ _) (Nat.le_refl _) _ _ _ _).setCell (by show w.heap.size ≤ w.heap.size + 1; omega) _
set_option maxHeartbeats 4000000 in
set_option maxRecDepth 100000 in
theorem get_more (s : ByteArray) (K : Nat) (x : S54) (at_ : Int) (w : World) (h : pack_reader_value.f K s 0 0 = some (x.f0, x.f1, x.f2, x.f3, s, at_)) (h1 : at_ < (s.size : Int)) :
    Calls Try.prog 75 #[.string s] w fun e w' => e = .returned (.tuple #[.agg #[.int .i64 0, .int .i64 0, .string ⟨#[]⟩, .slice none 0 0], .int .i64 4]) ∧ Below w.heap.size w w' := by
  have hmf : ∀ (fn : Fn) (first cap : Array Value) (w : World), (Instr.makeFunc fn first cap).run Try.prog w = .ok (.func fn first cap) w := fun _ _ _ _ => rfl
  have HF := Aside0.mk h
  have hd : decide (at_ < (s.size : Int)) = true := decide_eq_true h1
  clear h h1
  have hu := Try.underlying54
  have hu2 := Try.underlying183
  go_enter_defers Try.func75, Try.ntmps75
  go_wp2_with (first | (go_at_call 98; go_loud ((with_reducible refine (pack_reader_value.calls K (w.heap.size + 1 + 1) s 0 0 x.f0 x.f1 x.f2 x.f3 s at_ w _ ?b ?bb HF.out).mono ?_); (case b => exact W3_r w s); (case bb => exact W3_below w s); rintro e w1 ⟨v3, rfl, ho, hi, hb, hk⟩; obtain ⟨A4, cc, e4⟩ := Kd.R_slice ho; subst e4;     have hv := hk.blk (W3_v w s) (by omega) (by simp); have he := hk.blk (W3_e w s) (by omega) (by simp); have hl := keep_size hk; have c0 : w1.cell? ⟨w.heap.size, 0, none⟩ = some (.int .i64 0) := (blk_cell hv 0).trans rfl; have c1 : w1.cell? ⟨w.heap.size, 1, none⟩ = some (.int .i64 0) := (blk_cell hv 1).trans rfl; have c2 : w1.cell? ⟨w.heap.size, 2, none⟩ = some (.string ⟨#[]⟩) := (blk_cell hv 2).trans rfl; have c3 : w1.cell? ⟨w.heap.size, 3, none⟩ = some (.slice none 0 0) := (blk_cell hv 3).trans rfl; have c4 : w1.cell? ⟨w.heap.size + 1, 0, none⟩ = some (.int .i64 0) := (blk_cell he 0).trans rfl; have c5 : w1.cell? ⟨w.heap.size + 1 + 1, 0, none⟩ = some (.string s) := (blk_cell hi.1 0).trans rfl; have c6 : w1.cell? ⟨w.heap.size + 1 + 1, 1, none⟩ = some (.int .i64 at_) := (blk_cell hi.1 1).trans rfl; have f0 := blk_frozen hv 0; have f1 := blk_frozen hv 1; have f2 := blk_frozen hv 2; have f3 := blk_frozen hv 3; have f4 := blk_frozen he 0; have f5 := blk_frozen hi.1 0; have f6 := blk_frozen hi.1 1; have HO := Aside0.mk ho; have HB := Aside0.mk hb; have HL := Aside0.mk hl; have HV := Aside0.mk hv; have HE := Aside0.mk he; clear ho hi hb hk hv he hl)) | (go_at_call 99; (with_reducible refine (must_bad 4 (by decide) _).mono ?_); rintro e w3 ⟨rfl, rfl⟩))
  have hne : w.heap.size ≠ w.heap.size + 1 := by omega
  have hv1 := set4_v HV.out (.int .i64 x.f0) (.int .i64 x.f1) (.string x.f2) (.slice A4 x.f3.length cc)
  have he1 := (set4_o (w := w1) hne.symm (.int .i64 x.f0) (.int .i64 x.f1) (.string x.f2) (.slice A4 x.f3.length cc)).trans HE.out
  refine door_caught w.heap.size (w.heap.size + 1) _ _ _ _ _ _ _ _ _ _ _ _ _ _ _ _ _ _ _ 4 x.f0 x.f1 0 x.f2 (.slice A4 x.f3.length cc) _ hv1 he1 ⟨rfl, ?_⟩
  exact (set4_below (set4_below HB.out (Nat.le_refl _) _ _ _ _) (Nat.le_refl _) _ _ _ _).setCell (by show w.heap.size ≤ w.heap.size + 1; omega) _
set_option maxHeartbeats 4000000 in
set_option maxRecDepth 100000 in
theorem get_bad (s : ByteArray) (c : Int) (w : World) (h : Panics s 0 0 c) :
    Calls Try.prog 75 #[.string s] w fun e w' => e = .returned (.tuple #[.agg #[.int .i64 0, .int .i64 0, .string ⟨#[]⟩, .slice none 0 0], .int .i64 c]) ∧ Below w.heap.size w w' := by
  have hmf : ∀ (fn : Fn) (first cap : Array Value) (w : World), (Instr.makeFunc fn first cap).run Try.prog w = .ok (.func fn first cap) w := fun _ _ _ _ => rfl
  have HF := Aside0.mk h
  clear h
  have hu := Try.underlying54
  have hu2 := Try.underlying183
  go_enter_defers Try.func75, Try.ntmps75
  go_wp2_with (go_at_call 98; go_loud ((with_reducible refine (panics_use HF.out (w.heap.size + 1 + 1) w _ ?b ?bb).mono ?_); (case b => exact W3_r w s); (case bb => exact W3_below w s); rintro e w1 ⟨rfl, hk, hb⟩; have hv := hk.blk (W3_v w s) (by omega) (by simp); have he := hk.blk (W3_e w s) (by omega) (by simp); have HB := Aside0.mk hb; have HV := Aside0.mk hv; have HE := Aside0.mk he; clear hb hk hv he))
  refine door_caught w.heap.size (w.heap.size + 1) _ _ _ _ _ _ _ _ _ _ _ _ _ _ _ _ _ _ _ c 0 0 0 ⟨#[]⟩ (.slice none 0 0) _ HV.out HE.out ⟨rfl, ?_⟩
  exact (set4_below HB.out (Nat.le_refl _) _ _ _ _).setCell (by show w.heap.size ≤ w.heap.size + 1; omega) _
end Go.Proofs.Ytjicfkmpgogppaa.Rd
