/-
  The statements' builder of values: what it builds.
-/
import Derived.Test.YtjicfkmpgogppaaValsA
import Derived.Tactics
import Derived.LoopTactic
import Derived.Outline
import Derived.Recover
import Derived.WalkSmall
import Derived.Deep.CutRange
import Derived.Deep.RegionHeld3
namespace Go.Proofs.Ytjicfkmpgogppaa.Bu
set_option linter.unusedVariables false
set_option linter.unusedSimpArgs false
open Go Go.RowKit Go.Proofs.Ytjicfkmpgogppaa.Plain Go.Proofs.Ytjicfkmpgogppaa.PG Go.Proofs.YtjicfkmpgogppaaW.PrintWords Go.Proofs.YtjicfkmpgogppaaW.PrintLast Go.Proofs.YtjicfkmpgogppaaW.PrintMore
theorem info57 : (Try.prog.info? 57).map (fun i => (i.zero, i.size, i.bytes)) = some (some (.agg #[(.int .i64 0), (.int .i64 0), (.string ⟨#[]⟩), (.slice none 0 0)]), 4, 56) := by kernel_rfl
abbrev V := Vs.V
abbrev W := Vs.W
abbrev I := S137
abbrev toW : V → W := Vs.toW
abbrev toWs : List V → List W := Vs.toWs
abbrev noV : V := ⟨0, 0, ⟨#[]⟩, []⟩
/-- a list's values: f reads the next one at a place, j bounds how many; they, and the place behind them -/
def kids (n : Nat) (f : Nat → V × Nat) (count deep : Int) : Nat → Int → Nat → List V × Nat
  | 0, _, a => ([], a)
  | j + 1, i, a => if i < count ∧ deep < 12 ∧ a < n ∧ a < 400 then ((f a).1 :: (kids n f count deep j (i + 1) (f a).2).1, (kids n f count deep j (i + 1) (f a).2).2) else ([], a)
/-- the value at a place, that stands so deep; the place behind it -/
def nextV (l : List I) : Nat → Int → Nat → V × Nat
  | 0, _, a => (noV, a)
  | m + 1, deep, a => if l.length ≤ a ∨ 400 ≤ a then (noV, a)
    else (⟨(l.getD a z137).f0, (l.getD a z137).f1, (l.getD a z137).f2, (kids l.length (fun b => nextV l m (deep + 1) b) (l.getD a z137).f3 deep 400 0 (a + 1)).1⟩,
      (kids l.length (fun b => nextV l m (deep + 1) b) (l.getD a z137).f3 deep 400 0 (a + 1)).2)
def built (l : List I) : V := (nextV l 13 0 0).1
/-- where the closure's variables lie, and the items -/
structure Env (w0 w : World) (bat bl bn : Nat) (A : Option Addr) (c : Nat) (l : List I) (a : Nat) : Prop where
  hat : w.heap[bat]? = some (.cells #[.int .i64 a] 3 (0, 0))
  hl : w.heap[bl]? = some (.cells #[.slice A l.length c] 50 (0, 0))
  hn : w.heap[bn]? = some (.cells #[.func (.func 60) #[] #[.pointer (some ⟨bat, 0, none⟩), .pointer (some ⟨bl, 0, none⟩), .pointer (some ⟨bn, 0, none⟩)]] 135 (0, 0))
  hC : Kd.C k137 w0 A l.length l
  hB : Below w0.heap.size w0 w
  ga : w0.heap.size ≤ bat
  gl : w0.heap.size ≤ bl
  gn : w0.heap.size ≤ bn
theorem Env.keep {w0 w w' : World} {bat bl bn : Nat} {A : Option Addr} {c : Nat} {l : List I} {a a' : Nat} (h : Env w0 w bat bl bn A c l a) (hk : KeepBut w w' bat none) (hb : Below w0.heap.size w0 w') (hat : w'.heap[bat]? = some (.cells #[.int .i64 a'] 3 (0, 0))) : Env w0 w' bat bl bn A c l a' :=
  ⟨hat, hk.blk h.hl (blk_ne h.hl h.hat (by decide)) (by simp), hk.blk h.hn (blk_ne h.hn h.hat (by decide)) (by simp), h.hC, hb, h.ga, h.gl, h.gn⟩
theorem Env.below {w0 w w' : World} {bat bl bn : Nat} {A : Option Addr} {c : Nat} {l : List I} {a : Nat} (h : Env w0 w bat bl bn A c l a) (hb : Below w.heap.size w w') : Env w0 w' bat bl bn A c l a :=
  h.keep (KeepBut.of_below hb _ _) (below_then h.hB (below_size h.hB) hb) (blk_below h.hat hb)
abbrev ZV : Obj := .cells #[.int .i64 0, .int .i64 0, .string ⟨#[]⟩, .slice none 0 0] 54
abbrev ZW : Obj := .cells #[.int .i64 0, .int .i64 0, .string ⟨#[]⟩, .slice none 0 0] 57
theorem al_size (w : World) (o : Obj) : (w.alloc o).heap.size = w.heap.size + 1 := by show (w.heap.push _).size = _; exact Array.size_push _
theorem set_heap (W : World) (p : Addr) (u : Value) (k : Nat) (h : k ≠ p.block) : (W.setCell p u).heap[k]? = W.heap[k]? := Below.heap_setCell W p u k h
abbrev set4 (w : World) (bv : Nat) (a b c d : Value) : World := (((w.setCell ⟨bv, 0, none⟩ a).setCell ⟨bv, 1, none⟩ b).setCell ⟨bv, 2, none⟩ c).setCell ⟨bv, 3, none⟩ d
theorem set4_v {w : World} {bv : Nat} {t : TypeId} {y0 y1 y2 y3 : Value} (h : w.heap[bv]? = some (.cells #[y0, y1, y2, y3] t (0, 0))) (a b c d : Value) : (set4 w bv a b c d).heap[bv]? = some (.cells #[a, b, c, d] t (0, 0)) :=
  blk_put (blk_put (blk_put (blk_put h 0 a rfl) 1 b rfl) 2 c rfl) 3 d rfl
theorem set4_o {w : World} {bv k : Nat} (h : k ≠ bv) (a b c d : Value) : (set4 w bv a b c d).heap[k]? = w.heap[k]? := by
  rw [set4, set_heap _ _ _ _ h, set_heap _ _ _ _ h, set_heap _ _ _ _ h, set_heap _ _ _ _ h]
theorem set4_below {B bv : Nat} {u w : World} (h : Below B u w) (hb : B ≤ bv) (a b c d : Value) : Below B u (set4 w bv a b c d) :=
  (((h.setCell (p := ⟨bv, 0, none⟩) hb a).setCell (p := ⟨bv, 1, none⟩) hb b).setCell (p := ⟨bv, 2, none⟩) hb c).setCell (p := ⟨bv, 3, none⟩) hb d
/-- the closure's results are read -/
theorem next_results (tm : Array Value) (bv bw : Nat) (W : World) (x0 x1 y0 y1 : Int) (x2 y2 : ByteArray) (A B : Option Addr) (n m c d : Nat) (h5 : tm[5]? = some (.pointer (some ⟨bv, 0, none⟩))) (h6 : tm[6]? = some (.pointer (some ⟨bw, 0, none⟩)))
    (hv : W.heap[bv]? = some (.cells #[.int .i64 x0, .int .i64 x1, .string x2, .slice A n c] 54 (0, 0))) (hw : W.heap[bw]? = some (.cells #[.int .i64 y0, .int .i64 y1, .string y2, .slice B m d] 57 (0, 0))) :
    (results Try.f60 tm).run Try.prog W = .ok (.tuple #[.agg #[.int .i64 x0, .int .i64 x1, .string x2, .slice A n c], .agg #[.int .i64 y0, .int .i64 y1, .string y2, .slice B m d]]) W := by
  have c0 : W.cell? ⟨bv, 0, none⟩ = some (.int .i64 x0) := (blk_cell hv 0).trans rfl
  have c1 : W.cell? ⟨bv, 1, none⟩ = some (.int .i64 x1) := (blk_cell hv 1).trans rfl
  have c2 : W.cell? ⟨bv, 2, none⟩ = some (.string x2) := (blk_cell hv 2).trans rfl
  have c3 : W.cell? ⟨bv, 3, none⟩ = some (.slice A n c) := (blk_cell hv 3).trans rfl
  have d0 : W.cell? ⟨bw, 0, none⟩ = some (.int .i64 y0) := (blk_cell hw 0).trans rfl
  have d1 : W.cell? ⟨bw, 1, none⟩ = some (.int .i64 y1) := (blk_cell hw 1).trans rfl
  have d2 : W.cell? ⟨bw, 2, none⟩ = some (.string y2) := (blk_cell hw 2).trans rfl
  have d3 : W.cell? ⟨bw, 3, none⟩ = some (.slice B m d) := (blk_cell hw 3).trans rfl
  have hu := Try.underlying54
  have hu2 := Try.underlying57
  simp [results, Try.results60, go_sem, h5, h6, c0, c1, c2, c3, d0, d1, d2, d3]
set_option maxHeartbeats 8000000 in
set_option maxRecDepth 100000 in
/-- nothing is left, or enough was taken -/
theorem next_none (bat bl bn : Nat) (A : Option Addr) (c : Nat) (l : List I) (a : Nat) (deep : Int) (w0 w : World) (hE : Env w0 w bat bl bn A c l a) (hl : (l.length : Int) ≤ 9223372036854775807) (hc : l.length ≤ a ∨ 400 ≤ a) :
    Calls Try.prog 60 #[.int .i64 deep, .pointer (some ⟨bat, 0, none⟩), .pointer (some ⟨bl, 0, none⟩), .pointer (some ⟨bn, 0, none⟩)] w fun e w' => e = .returned (.tuple #[.agg #[.int .i64 0, .int .i64 0, .string ⟨#[]⟩, .slice none 0 0], .agg #[.int .i64 0, .int .i64 0, .string ⟨#[]⟩, .slice none 0 0]]) ∧ Below w.heap.size w w' := by
  have hu := Try.underlying54
  have hu2 := Try.underlying57
  have hu3 := Try.underlying137
  have HE := Aside0.mk hE
  have HC := Aside0.mk hc
  clear hE hc
  go_enter Try.func60, Try.ntmps60
  go_upto_region 1 with fail
  have hE2 : Env w0 ((w.alloc ZV).alloc ZW) bat bl bn A c l a := HE.out.below (below_alloc (below_alloc (Below.refl _ _) _) _)
  have hv : ((w.alloc ZV).alloc ZW).heap[w.heap.size]? = some (.cells #[.int .i64 0, .int .i64 0, .string ⟨#[]⟩, .slice none 0 0] 54 (0, 0)) := blk_alloc (blk_new w ZV) ZW
  have hw : ((w.alloc ZV).alloc ZW).heap[w.heap.size + 1]? = some (.cells #[.int .i64 0, .int .i64 0, .string ⟨#[]⟩, .slice none 0 0] 57 (0, 0)) := by
    have h := blk_new (w.alloc ZV) ZW
    rw [al_size] at h; exact h
  have hb : Below w.heap.size w ((w.alloc ZV).alloc ZW) := below_alloc (below_alloc (Below.refl _ _) _) _
  generalize (w.alloc ZV).alloc ZW = w2 at hE2 hv hw hb ⊢
  have e0 : w2.cell? ⟨bat, 0, none⟩ = some (.int .i64 a) := (blk_cell hE2.hat 0).trans rfl
  have e1 : w2.cell? ⟨bl, 0, none⟩ = some (.slice A l.length c) := (blk_cell hE2.hl 0).trans rfl
  have c0 : w2.cell? ⟨w.heap.size, 0, none⟩ = some (.int .i64 0) := (blk_cell hv 0).trans rfl
  have c1 : w2.cell? ⟨w.heap.size, 1, none⟩ = some (.int .i64 0) := (blk_cell hv 1).trans rfl
  have c2 : w2.cell? ⟨w.heap.size, 2, none⟩ = some (.string ⟨#[]⟩) := (blk_cell hv 2).trans rfl
  have c3 : w2.cell? ⟨w.heap.size, 3, none⟩ = some (.slice none 0 0) := (blk_cell hv 3).trans rfl
  have d0 : w2.cell? ⟨w.heap.size + 1, 0, none⟩ = some (.int .i64 0) := (blk_cell hw 0).trans rfl
  have d1 : w2.cell? ⟨w.heap.size + 1, 1, none⟩ = some (.int .i64 0) := (blk_cell hw 1).trans rfl
  have d2 : w2.cell? ⟨w.heap.size + 1, 2, none⟩ = some (.string ⟨#[]⟩) := (blk_cell hw 2).trans rfl
  have d3 : w2.cell? ⟨w.heap.size + 1, 3, none⟩ = some (.slice none 0 0) := (blk_cell hw 3).trans rfl
  have f0 := blk_frozen hv 0
  have f1 := blk_frozen hv 1
  have f2 := blk_frozen hv 2
  have f3 := blk_frozen hv 3
  have g0 := blk_frozen hw 0
  have g1 := blk_frozen hw 1
  have g2 := blk_frozen hw 2
  have g3 := blk_frozen hw 3
  have HV := Aside0.mk hv
  have HW := Aside0.mk hw
  have HB := Aside0.mk hb
  clear hv hw hb hE2 HE
  have fin : ∀ (tm : Array Value), tm[5]? = some (.pointer (some ⟨w.heap.size, 0, none⟩)) → tm[6]? = some (.pointer (some ⟨w.heap.size + 1, 0, none⟩)) →
      bodyPost Try.prog Try.f60 (fun e w' => e = .returned (.tuple #[.agg #[.int .i64 0, .int .i64 0, .string ⟨#[]⟩, .slice none 0 0], .agg #[.int .i64 0, .int .i64 0, .string ⟨#[]⟩, .slice none 0 0]]) ∧ Below w.heap.size w w') Exit.ret { tmps := tm, defers := [] }
        (set4 (set4 w2 w.heap.size (.int .i64 0) (.int .i64 0) (.string ⟨#[]⟩) (.slice none 0 0)) (w.heap.size + 1) (.int .i64 0) (.int .i64 0) (.string ⟨#[]⟩) (.slice none 0 0)) := by
    intro tm h5 h6
    have hv1 := set4_v HV.out (.int .i64 0) (.int .i64 0) (.string ⟨#[]⟩) (.slice none 0 0)
    have hw1 := (set4_o (w := w2) (bv := w.heap.size) (k := w.heap.size + 1) (by omega) (.int .i64 0) (.int .i64 0) (.string ⟨#[]⟩) (.slice none 0 0)).trans HW.out
    exact ⟨rfl, _, next_results tm w.heap.size (w.heap.size + 1) _ 0 0 0 0 ⟨#[]⟩ ⟨#[]⟩ none none 0 0 0 0 h5 h6 ((set4_o (by omega) _ _ _ _).trans hv1) (set4_v hw1 _ _ _ _), rfl, set4_below (set4_below HB.out (Nat.le_refl _) _ _ _ _) (by omega) _ _ _ _⟩
  by_cases h1 : l.length ≤ a
  · have hd1 : decide (l.length ≤ a) = true := decide_eq_true h1
    clear h1
    go_wp2
    exact fin _ rfl rfl
  · have hd1 : decide (l.length ≤ a) = false := decide_eq_false h1
    have hd2 : decide ((400 : Int) ≤ (a : Int)) = true := decide_eq_true (by have := HC.out; omega)
    clear h1
    go_wp2
    exact fin _ rfl rfl
/-! #### what a loop's round keeps -/
theorem kids_le (n : Nat) (f : Nat → V × Nat) (count deep : Int) (hf : ∀ b, b ≤ (f b).2) : ∀ (j : Nat) (i : Int) (a : Nat), a ≤ (kids n f count deep j i a).2
  | 0, _, _ => Nat.le_refl _
  | j + 1, i, a => by
    simp only [kids]
    split
    · exact Nat.le_trans (hf a) (kids_le n f count deep hf j (i + 1) _)
    · exact Nat.le_refl _
theorem next_le (l : List I) : ∀ (m : Nat) (deep : Int) (a : Nat), a ≤ (nextV l m deep a).2
  | 0, _, _ => Nat.le_refl _
  | m + 1, deep, a => by
    simp only [nextV]
    split
    · exact Nat.le_refl _
    · exact Nat.le_trans (Nat.le_succ a) (kids_le _ _ _ _ (fun b => next_le l m (deep + 1) b) _ _ _)
theorem next_lt (l : List I) (m : Nat) (deep : Int) (a : Nat) (h : a < l.length) (h4 : a < 400) : a < (nextV l (m + 1) deep a).2 := by
  simp only [nextV]
  rw [if_neg (by omega)]
  exact Nat.lt_of_lt_of_le (Nat.lt_succ_self a) (kids_le _ _ _ _ (fun b => next_le l m (deep + 1) b) _ _ _)
structure OK (w : World) (bat bl bn bv bw bx k : Nat) : Prop where
  a : k ≠ bat
  l : k ≠ bl
  n : k ≠ bn
  v : k ≠ bv
  w_ : k ≠ bw
  x : k ≠ bx
  r : k ≠ w.heap.size
  s : k ≠ w.heap.size + 1
  b : w.heap.size ≤ k
structure Fr (w0 w wr : World) (bat bl bn bv bw bx : Nat) (A : Option Addr) (c : Nat) (l : List I) (a : Nat) (x : I) (Lv Lw : Value) : Prop where
  env : Env w0 wr bat bl bn A c l a
  hv : wr.heap[bv]? = some (.cells #[.int .i64 x.f0, .int .i64 x.f1, .string x.f2, Lv] 54 (0, 0))
  hw : wr.heap[bw]? = some (.cells #[.int .i64 x.f0, .int .i64 x.f1, .string x.f2, Lw] 57 (0, 0))
  hr : wr.heap[w.heap.size]? = some (.cells #[.int .i64 0, .int .i64 0, .string ⟨#[]⟩, .slice none 0 0] 54 (0, 0))
  hs : wr.heap[w.heap.size + 1]? = some (.cells #[.int .i64 0, .int .i64 0, .string ⟨#[]⟩, .slice none 0 0] 57 (0, 0))
  hx : wr.heap[bx]? = some (.cells #[.int .i64 x.f0, .int .i64 x.f1, .string x.f2, .int .i64 x.f3] 137 (0, 0))
  hk : KeepBut w wr bat none
  nv : bv ≠ w.heap.size
  nw : bw ≠ w.heap.size + 1
  h0 : w0.heap.size ≤ w.heap.size
variable {w0 w wr : World} {bat bl bn bv bw bx : Nat} {A : Option Addr} {c : Nat} {l : List I} {a : Nat} {x : I} {Lv Lw : Value}
theorem Fr.grown (h : Fr w0 w wr bat bl bn bv bw bx A c l a x Lv Lw) {w1 : World} {row : Option Nat} (hg : wr.grownBy w1 row) (hr : ∀ k, row = some k → OK w bat bl bn bv bw bx k) : Fr w0 w w1 bat bl bn bv bw bx A c l a x Lv Lw := by
  have ne : ∀ b, (∀ k, OK w bat bl bn bv bw bx k → b ≠ k) → some b ≠ row := fun b hb e => hb b (hr b e.symm) rfl
  refine ⟨⟨blk_grown h.env.hat hg (ne _ (fun k o => o.a.symm)), blk_grown h.env.hl hg (ne _ (fun k o => o.l.symm)), blk_grown h.env.hn hg (ne _ (fun k o => o.n.symm)), h.env.hC, h.env.hB.grown hg (below_size h.env.hB) (fun k e => Nat.le_trans h.h0 (hr k e).b), h.env.ga, h.env.gl, h.env.gn⟩,
    blk_grown h.hv hg (ne _ (fun k o => o.v.symm)), blk_grown h.hw hg (ne _ (fun k o => o.w_.symm)), blk_grown h.hr hg (ne _ (fun k o => o.r.symm)), blk_grown h.hs hg (ne _ (fun k o => o.s.symm)), blk_grown h.hx hg (ne _ (fun k o => o.x.symm)),
    h.hk.trans (KeepBut.of_grown hg bat) ?_, h.nv, h.nw, h.h0⟩
  cases row with
  | none => exact .inl rfl
  | some k => exact .inr ⟨k, rfl, (hr k rfl).b⟩
theorem Fr.below (h : Fr w0 w wr bat bl bn bv bw bx A c l a x Lv Lw) {w1 : World} (hb : Below wr.heap.size wr w1) : Fr w0 w w1 bat bl bn bv bw bx A c l a x Lv Lw := h.grown (grown_of_below hb none) (fun k e => by cases e)
theorem Fr.at_ (h : Fr w0 w wr bat bl bn bv bw bx A c l a x Lv Lw) {w1 : World} {a' : Nat} (hk : KeepBut wr w1 bat none) (hb : Below w0.heap.size w0 w1) (hat : w1.heap[bat]? = some (.cells #[.int .i64 a'] 3 (0, 0))) : Fr w0 w w1 bat bl bn bv bw bx A c l a' x Lv Lw := by
  have nb : ∀ {b t cs}, wr.heap[b]? = some (.cells cs t (0, 0)) → t ≠ 3 → b ≠ bat := fun hb ht => blk_ne hb h.env.hat ht
  exact ⟨h.env.keep hk hb hat, hk.blk h.hv (nb h.hv (by decide)) (by simp), hk.blk h.hw (nb h.hw (by decide)) (by simp), hk.blk h.hr (nb h.hr (by decide)) (by simp), hk.blk h.hs (nb h.hs (by decide)) (by simp), hk.blk h.hx (nb h.hx (by decide)) (by simp), h.hk.trans hk (.inl rfl), h.nv, h.nw, h.h0⟩
theorem Fr.ok (h : Fr w0 w wr bat bl bn bv bw bx A c l a x Lv Lw) {k : Nat} (hk : wr.heap.size ≤ k) : OK w bat bl bn bv bw bx k :=
  ⟨by have := blk_lt h.env.hat; omega, by have := blk_lt h.env.hl; omega, by have := blk_lt h.env.hn; omega, by have := blk_lt h.hv; omega, by have := blk_lt h.hw; omega, by have := blk_lt h.hx; omega, by have := blk_lt h.hr; omega, by have := blk_lt h.hs; omega, by have := h.hk.1; omega⟩
theorem Fr.setV (h : Fr w0 w wr bat bl bn bv bw bx A c l a x Lv Lw) (u : Value) (hb : w.heap.size ≤ bv) : Fr w0 w (wr.setCell ⟨bv, 3, none⟩ u) bat bl bn bv bw bx A c l a x u Lw := by
  have nb : ∀ {b t cs}, wr.heap[b]? = some (.cells cs t (0, 0)) → t ≠ 54 → b ≠ bv := fun hb ht => blk_ne hb h.hv ht
  refine ⟨⟨blk_far h.env.hat (nb h.env.hat (by decide)) _, blk_far h.env.hl (nb h.env.hl (by decide)) _, blk_far h.env.hn (nb h.env.hn (by decide)) _, h.env.hC, h.env.hB.setCell (Nat.le_trans h.h0 hb) _, h.env.ga, h.env.gl, h.env.gn⟩,
    blk_put h.hv 3 _ rfl, blk_far h.hw (nb h.hw (by decide)) _, blk_far h.hr h.nv.symm _, blk_far h.hs (nb h.hs (by decide)) _, blk_far h.hx (nb h.hx (by decide)) _, keep_far h.hk hb _, h.nv, h.nw, h.h0⟩
theorem Fr.setW (h : Fr w0 w wr bat bl bn bv bw bx A c l a x Lv Lw) (u : Value) (hb : w.heap.size ≤ bw) : Fr w0 w (wr.setCell ⟨bw, 3, none⟩ u) bat bl bn bv bw bx A c l a x Lv u := by
  have nb : ∀ {b t cs}, wr.heap[b]? = some (.cells cs t (0, 0)) → t ≠ 57 → b ≠ bw := fun hb ht => blk_ne hb h.hw ht
  refine ⟨⟨blk_far h.env.hat (nb h.env.hat (by decide)) _, blk_far h.env.hl (nb h.env.hl (by decide)) _, blk_far h.env.hn (nb h.env.hn (by decide)) _, h.env.hC, h.env.hB.setCell (Nat.le_trans h.h0 hb) _, h.env.ga, h.env.gl, h.env.gn⟩,
    blk_far h.hv (nb h.hv (by decide)) _, blk_put h.hw 3 _ rfl, blk_far h.hr (nb h.hr (by decide)) _, blk_far h.hs h.nw.symm _, blk_far h.hx (nb h.hx (by decide)) _, keep_far h.hk hb _, h.nv, h.nw, h.h0⟩
/-- one element's box reads as a row -/
theorem box_reads {α : Type} {W : World} {g e n : Nat} {cs : List Value} {y : α} (h : W.heap[g]? = some (.cells cs.toArray e (0, 0))) (hn : cs.length = n) : ReadsRow (fun z d => z = y ∧ d = cs) n W (some ⟨g, 0, none⟩) 1 [y] := by
  refine ⟨rfl, by decide, fun _ => ⟨⟨g, 0, none⟩, rfl, fun j p hj => ?_⟩⟩
  cases j with
  | zero =>
    simp only [List.getElem?_cons_zero, Option.some.injEq] at hj
    refine ⟨cs, hn, ⟨hj.symm, rfl⟩, fun i u hi => ?_⟩
    have : (⟨g, 0, none⟩ : Addr).add (0 * n + i) = ⟨g, i, none⟩ := by rw [Nat.zero_mul, Nat.zero_add]; unfold Addr.add; split <;> simp_all
    rw [this, blk_cell h i]
    simpa using hi
  | succ j => simp at hj
theorem toWs_snoc (acc : List V) (y : V) : toWs (acc ++ [y]) = toWs acc ++ [toW y] := by
  show Vs.toWs _ = Vs.toWs _ ++ [Vs.toW y]
  rw [Vs.toWs_map, Vs.toWs_map, List.map_append]; rfl
theorem toWs_len (acc : List V) : (toWs acc).length = acc.length := by
  show (Vs.toWs _).length = _
  rw [Vs.toWs_map, List.length_map]
theorem mkMW (W1 : World) (base : Nat) (ok : Nat → Prop) (y : V) {v3 : Value} (g : k57.R 57 W1 base ok v3 (toWs y.f3)) : k57.M W1 base ok (toW y) [.int .i64 y.f0, .int .i64 y.f1, .string y.f2, v3] := by
  have e0 := Vs.toW_0 y
  have e1 := Vs.toW_1 y
  have e2 := Vs.toW_2 y
  have e3 := Vs.toW_3 y
  rw [← e0, ← e1, ← e2]
  exact k57_mkM W1 base ok (toW y) (by rw [e3]; exact g)
/-- the closure's contract -/
def NextOk (m : Nat) (bat bl bn : Nat) (A : Option Addr) (c : Nat) (l : List I) (deep : Int) (w0 : World) : Prop := ∀ (a : Nat) (w : World), Env w0 w bat bl bn A c l a →
  Calls Try.prog 60 #[.int .i64 deep, .pointer (some ⟨bat, 0, none⟩), .pointer (some ⟨bl, 0, none⟩), .pointer (some ⟨bn, 0, none⟩)] w fun e w' => ∃ (Av Aw : Option Addr) (cv cw : Nat), e = .returned (.tuple #[.agg #[.int .i64 (nextV l m deep a).1.f0, .int .i64 (nextV l m deep a).1.f1, .string (nextV l m deep a).1.f2, .slice Av (nextV l m deep a).1.f3.length cv], .agg #[.int .i64 (nextV l m deep a).1.f0, .int .i64 (nextV l m deep a).1.f1, .string (nextV l m deep a).1.f2, .slice Aw (toWs (nextV l m deep a).1.f3).length cw]]) ∧ Kd.R k54 54 w' w.heap.size (fun _ => True) (.slice Av (nextV l m deep a).1.f3.length cv) (nextV l m deep a).1.f3 ∧ Kd.R k57 57 w' w.heap.size (fun _ => True) (.slice Aw (toWs (nextV l m deep a).1.f3).length cw) (toWs (nextV l m deep a).1.f3) ∧ w'.heap[bat]? = some (.cells #[.int .i64 (nextV l m deep a).2] 3 (0, 0)) ∧ KeepBut w w' bat none ∧ Below w0.heap.size w0 w'
end Go.Proofs.Ytjicfkmpgogppaa.Bu
