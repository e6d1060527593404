/-
  The statements' builder of values: what it builds.
  What the builder builds is small: without what speaks of bytes.
  pack.put and pack.Put: what they come to.
  pack.Put, pack.All: what they come to.
-/
import Derived.Test.YtjicfkmpgogppaaH2
import Derived.Tactics
import Derived.LoopTactic
import Derived.Outline
import Derived.Recover
import Derived.WalkSmall
import Derived.Deep.CutRange
import Derived.Deep.RegionHeld3
import Derived.Test.YtjicfkmpgogppaaH1
import Derived.Lib.Hide
namespace Go.Proofs.Ytjicfkmpgogppaa.Bu
set_option linter.unusedVariables false
set_option linter.unusedSimpArgs false
open Go Go.RowKit Go.Proofs.Ytjicfkmpgogppaa.Plain Go.Proofs.Ytjicfkmpgogppaa.PA Go.Proofs.YtjicfkmpgogppaaW.PrintWords Go.Proofs.YtjicfkmpgogppaaW.PrintLast Go.Proofs.YtjicfkmpgogppaaW.PrintMore
theorem info57 : (Try.prog.info? 57).map (fun i => (i.zero, i.size, i.bytes)) = some (some (.agg #[(.int .i64 0), (.int .i64 0), (.string ⟨#[]⟩), (.slice none 0 0)]), 4, 56) := by kernel_rfl
abbrev V := Vs.V
abbrev W := Vs.W
abbrev I := S147
abbrev toW : V → W := Vs.toW
abbrev toWs : List V → List W := Vs.toWs
abbrev noV : V := ⟨0, 0, ⟨#[]⟩, []⟩
/-- a list's values: f reads the next one at a place, j bounds how many; they, and the place behind them -/
def kids (n : Nat) (f : Nat → V × Nat) (count deep : Int) : Nat → Int → Nat → List V × Nat
  | 0, _, a => ([], a)
  | j + 1, i, a => if i < count ∧ deep < 12 ∧ a < n ∧ a < 400 then ((f a).1 :: (kids n f count deep j (i + 1) (f a).2).1, (kids n f count deep j (i + 1) (f a).2).2) else ([], a)
/-- the value at a place, that stands so deep; the place behind it -/
def nextV (l : List I) : Nat → Int → Nat → V × Nat
  | 0, _, a => (noV, a)
  | m + 1, deep, a => if l.length ≤ a ∨ 400 ≤ a then (noV, a)
    else (⟨(l.getD a z147).f0, (l.getD a z147).f1, (l.getD a z147).f2, (kids l.length (fun b => nextV l m (deep + 1) b) (l.getD a z147).f3 deep 400 0 (a + 1)).1⟩,
      (kids l.length (fun b => nextV l m (deep + 1) b) (l.getD a z147).f3 deep 400 0 (a + 1)).2)
def built (l : List I) : V := (nextV l 13 0 0).1
/-- where the closure's variables lie, and the items -/
structure Env (w0 w : World) (bat bl bn : Nat) (A : Option Addr) (c : Nat) (l : List I) (a : Nat) : Prop where
  hat : w.heap[bat]? = some (.cells #[.int .i64 a] 3 (0, 0))
  hl : w.heap[bl]? = some (.cells #[.slice A l.length c] 69 (0, 0))
  hn : w.heap[bn]? = some (.cells #[.func (.func 69) #[] #[.pointer (some ⟨bat, 0, none⟩), .pointer (some ⟨bl, 0, none⟩), .pointer (some ⟨bn, 0, none⟩)]] 135 (0, 0))
  hC : Kd.C k147 w0 A l.length l
  hB : Below w0.heap.size w0 w
  ga : w0.heap.size ≤ bat
  gl : w0.heap.size ≤ bl
  gn : w0.heap.size ≤ bn
theorem Env.keep {w0 w w' : World} {bat bl bn : Nat} {A : Option Addr} {c : Nat} {l : List I} {a a' : Nat} (h : Env w0 w bat bl bn A c l a) (hk : KeepBut w w' bat none) (hb : Below w0.heap.size w0 w') (hat : w'.heap[bat]? = some (.cells #[.int .i64 a'] 3 (0, 0))) : Env w0 w' bat bl bn A c l a' :=
  ⟨hat, hk.blk h.hl (blk_ne h.hl h.hat (by decide)) (by simp), hk.blk h.hn (blk_ne h.hn h.hat (by decide)) (by simp), h.hC, hb, h.ga, h.gl, h.gn⟩
theorem Env.below {w0 w w' : World} {bat bl bn : Nat} {A : Option Addr} {c : Nat} {l : List I} {a : Nat} (h : Env w0 w bat bl bn A c l a) (hb : Below w.heap.size w w') : Env w0 w' bat bl bn A c l a :=
  h.keep (KeepBut.of_below hb _ _) (below_then h.hB (below_size h.hB) hb) (blk_below h.hat hb)
abbrev ZV : Obj := .cells #[.int .i64 0, .int .i64 0, .string ⟨#[]⟩, .slice none 0 0] 54
abbrev ZW : Obj := .cells #[.int .i64 0, .int .i64 0, .string ⟨#[]⟩, .slice none 0 0] 57
theorem al_size (w : World) (o : Obj) : (w.alloc o).heap.size = w.heap.size + 1 := by show (w.heap.push _).size = _; exact Array.size_push _
theorem set_heap (W : World) (p : Addr) (u : Value) (k : Nat) (h : k ≠ p.block) : (W.setCell p u).heap[k]? = W.heap[k]? := Below.heap_setCell W p u k h
abbrev set4 (w : World) (bv : Nat) (a b c d : Value) : World := (((w.setCell ⟨bv, 0, none⟩ a).setCell ⟨bv, 1, none⟩ b).setCell ⟨bv, 2, none⟩ c).setCell ⟨bv, 3, none⟩ d
theorem set4_v {w : World} {bv : Nat} {t : TypeId} {y0 y1 y2 y3 : Value} (h : w.heap[bv]? = some (.cells #[y0, y1, y2, y3] t (0, 0))) (a b c d : Value) : (set4 w bv a b c d).heap[bv]? = some (.cells #[a, b, c, d] t (0, 0)) :=
  blk_put (blk_put (blk_put (blk_put h 0 a rfl) 1 b rfl) 2 c rfl) 3 d rfl
theorem set4_o {w : World} {bv k : Nat} (h : k ≠ bv) (a b c d : Value) : (set4 w bv a b c d).heap[k]? = w.heap[k]? := by
  rw [set4, set_heap _ _ _ _ h, set_heap _ _ _ _ h, set_heap _ _ _ _ h, set_heap _ _ _ _ h]
theorem set4_below {B bv : Nat} {u w : World} (h : Below B u w) (hb : B ≤ bv) (a b c d : Value) : Below B u (set4 w bv a b c d) :=
  (((h.setCell (p := ⟨bv, 0, none⟩) hb a).setCell (p := ⟨bv, 1, none⟩) hb b).setCell (p := ⟨bv, 2, none⟩) hb c).setCell (p := ⟨bv, 3, none⟩) hb d
/-- the closure's results are read -/
theorem next_results (tm : Array Value) (bv bw : Nat) (W : World) (x0 x1 y0 y1 : Int) (x2 y2 : ByteArray) (A B : Option Addr) (n m c d : Nat) (h5 : tm[5]? = some (.pointer (some ⟨bv, 0, none⟩))) (h6 : tm[6]? = some (.pointer (some ⟨bw, 0, none⟩)))
    (hv : W.heap[bv]? = some (.cells #[.int .i64 x0, .int .i64 x1, .string x2, .slice A n c] 54 (0, 0))) (hw : W.heap[bw]? = some (.cells #[.int .i64 y0, .int .i64 y1, .string y2, .slice B m d] 57 (0, 0))) :
    (results Try.f69 tm).run Try.prog W = .ok (.tuple #[.agg #[.int .i64 x0, .int .i64 x1, .string x2, .slice A n c], .agg #[.int .i64 y0, .int .i64 y1, .string y2, .slice B m d]]) W := by
  have c0 : W.cell? ⟨bv, 0, none⟩ = some (.int .i64 x0) := (blk_cell hv 0).trans rfl
  have c1 : W.cell? ⟨bv, 1, none⟩ = some (.int .i64 x1) := (blk_cell hv 1).trans rfl
  have c2 : W.cell? ⟨bv, 2, none⟩ = some (.string x2) := (blk_cell hv 2).trans rfl
  have c3 : W.cell? ⟨bv, 3, none⟩ = some (.slice A n c) := (blk_cell hv 3).trans rfl
  have d0 : W.cell? ⟨bw, 0, none⟩ = some (.int .i64 y0) := (blk_cell hw 0).trans rfl
  have d1 : W.cell? ⟨bw, 1, none⟩ = some (.int .i64 y1) := (blk_cell hw 1).trans rfl
  have d2 : W.cell? ⟨bw, 2, none⟩ = some (.string y2) := (blk_cell hw 2).trans rfl
  have d3 : W.cell? ⟨bw, 3, none⟩ = some (.slice B m d) := (blk_cell hw 3).trans rfl
  have hu := Try.underlying54
  have hu2 := Try.underlying57
  simp [results, Try.results69, go_sem, h5, h6, c0, c1, c2, c3, d0, d1, d2, d3]
set_option maxHeartbeats 8000000 in
set_option maxRecDepth 100000 in
/-- nothing is left, or enough was taken -/
theorem next_none (bat bl bn : Nat) (A : Option Addr) (c : Nat) (l : List I) (a : Nat) (deep : Int) (w0 w : World) (hE : Env w0 w bat bl bn A c l a) (hl : (l.length : Int) ≤ 9223372036854775807) (hc : l.length ≤ a ∨ 400 ≤ a) :
    Calls Try.prog 69 #[.int .i64 deep, .pointer (some ⟨bat, 0, none⟩), .pointer (some ⟨bl, 0, none⟩), .pointer (some ⟨bn, 0, none⟩)] w fun e w' => e = .returned (.tuple #[.agg #[.int .i64 0, .int .i64 0, .string ⟨#[]⟩, .slice none 0 0], .agg #[.int .i64 0, .int .i64 0, .string ⟨#[]⟩, .slice none 0 0]]) ∧ Below w.heap.size w w' := by
  have hu := Try.underlying54
  have hu2 := Try.underlying57
  have hu3 := Try.underlying147
  have HE := Aside0.mk hE
  have HC := Aside0.mk hc
  clear hE hc
  go_enter Try.func69, Try.ntmps69
  go_upto_region 1 with fail
  have hE2 : Env w0 ((w.alloc ZV).alloc ZW) bat bl bn A c l a := HE.out.below (below_alloc (below_alloc (Below.refl _ _) _) _)
  have hv : ((w.alloc ZV).alloc ZW).heap[w.heap.size]? = some (.cells #[.int .i64 0, .int .i64 0, .string ⟨#[]⟩, .slice none 0 0] 54 (0, 0)) := blk_alloc (blk_new w ZV) ZW
  have hw : ((w.alloc ZV).alloc ZW).heap[w.heap.size + 1]? = some (.cells #[.int .i64 0, .int .i64 0, .string ⟨#[]⟩, .slice none 0 0] 57 (0, 0)) := by
    have h := blk_new (w.alloc ZV) ZW
    rw [al_size] at h; exact h
  have hb : Below w.heap.size w ((w.alloc ZV).alloc ZW) := below_alloc (below_alloc (Below.refl _ _) _) _
  generalize (w.alloc ZV).alloc ZW = w2 at hE2 hv hw hb ⊢
  have e0 : w2.cell? ⟨bat, 0, none⟩ = some (.int .i64 a) := (blk_cell hE2.hat 0).trans rfl
  have e1 : w2.cell? ⟨bl, 0, none⟩ = some (.slice A l.length c) := (blk_cell hE2.hl 0).trans rfl
  have c0 : w2.cell? ⟨w.heap.size, 0, none⟩ = some (.int .i64 0) := (blk_cell hv 0).trans rfl
  have c1 : w2.cell? ⟨w.heap.size, 1, none⟩ = some (.int .i64 0) := (blk_cell hv 1).trans rfl
  have c2 : w2.cell? ⟨w.heap.size, 2, none⟩ = some (.string ⟨#[]⟩) := (blk_cell hv 2).trans rfl
  have c3 : w2.cell? ⟨w.heap.size, 3, none⟩ = some (.slice none 0 0) := (blk_cell hv 3).trans rfl
  have d0 : w2.cell? ⟨w.heap.size + 1, 0, none⟩ = some (.int .i64 0) := (blk_cell hw 0).trans rfl
  have d1 : w2.cell? ⟨w.heap.size + 1, 1, none⟩ = some (.int .i64 0) := (blk_cell hw 1).trans rfl
  have d2 : w2.cell? ⟨w.heap.size + 1, 2, none⟩ = some (.string ⟨#[]⟩) := (blk_cell hw 2).trans rfl
  have d3 : w2.cell? ⟨w.heap.size + 1, 3, none⟩ = some (.slice none 0 0) := (blk_cell hw 3).trans rfl
  have f0 := blk_frozen hv 0
  have f1 := blk_frozen hv 1
  have f2 := blk_frozen hv 2
  have f3 := blk_frozen hv 3
  have g0 := blk_frozen hw 0
  have g1 := blk_frozen hw 1
  have g2 := blk_frozen hw 2
  have g3 := blk_frozen hw 3
  have HV := Aside0.mk hv
  have HW := Aside0.mk hw
  have HB := Aside0.mk hb
  clear hv hw hb hE2 HE
  have fin : ∀ (tm : Array Value), tm[5]? = some (.pointer (some ⟨w.heap.size, 0, none⟩)) → tm[6]? = some (.pointer (some ⟨w.heap.size + 1, 0, none⟩)) →
      bodyPost Try.prog Try.f69 (fun e w' => e = .returned (.tuple #[.agg #[.int .i64 0, .int .i64 0, .string ⟨#[]⟩, .slice none 0 0], .agg #[.int .i64 0, .int .i64 0, .string ⟨#[]⟩, .slice none 0 0]]) ∧ Below w.heap.size w w') Exit.ret { tmps := tm, defers := [] }
        (set4 (set4 w2 w.heap.size (.int .i64 0) (.int .i64 0) (.string ⟨#[]⟩) (.slice none 0 0)) (w.heap.size + 1) (.int .i64 0) (.int .i64 0) (.string ⟨#[]⟩) (.slice none 0 0)) := by
    intro tm h5 h6
    have hv1 := set4_v HV.out (.int .i64 0) (.int .i64 0) (.string ⟨#[]⟩) (.slice none 0 0)
    have hw1 := (set4_o (w := w2) (bv := w.heap.size) (k := w.heap.size + 1) (by omega) (.int .i64 0) (.int .i64 0) (.string ⟨#[]⟩) (.slice none 0 0)).trans HW.out
    exact ⟨rfl, _, next_results tm w.heap.size (w.heap.size + 1) _ 0 0 0 0 ⟨#[]⟩ ⟨#[]⟩ none none 0 0 0 0 h5 h6 ((set4_o (by omega) _ _ _ _).trans hv1) (set4_v hw1 _ _ _ _), rfl, set4_below (set4_below HB.out (Nat.le_refl _) _ _ _ _) (by omega) _ _ _ _⟩
  by_cases h1 : l.length ≤ a
  · have hd1 : decide (l.length ≤ a) = true := decide_eq_true h1
    clear h1
    go_wp2
    exact fin _ rfl rfl
  · have hd1 : decide (l.length ≤ a) = false := decide_eq_false h1
    have hd2 : decide ((400 : Int) ≤ (a : Int)) = true := decide_eq_true (by have := HC.out; omega)
    clear h1
    go_wp2
    exact fin _ rfl rfl
/-! #### what a loop's round keeps -/
theorem kids_le (n : Nat) (f : Nat → V × Nat) (count deep : Int) (hf : ∀ b, b ≤ (f b).2) : ∀ (j : Nat) (i : Int) (a : Nat), a ≤ (kids n f count deep j i a).2
  | 0, _, _ => Nat.le_refl _
  | j + 1, i, a => by
    simp only [kids]
    split
    · exact Nat.le_trans (hf a) (kids_le n f count deep hf j (i + 1) _)
    · exact Nat.le_refl _
theorem next_le (l : List I) : ∀ (m : Nat) (deep : Int) (a : Nat), a ≤ (nextV l m deep a).2
  | 0, _, _ => Nat.le_refl _
  | m + 1, deep, a => by
    simp only [nextV]
    split
    · exact Nat.le_refl _
    · exact Nat.le_trans (Nat.le_succ a) (kids_le _ _ _ _ (fun b => next_le l m (deep + 1) b) _ _ _)
theorem next_lt (l : List I) (m : Nat) (deep : Int) (a : Nat) (h : a < l.length) (h4 : a < 400) : a < (nextV l (m + 1) deep a).2 := by
  simp only [nextV]
  rw [if_neg (by omega)]
  exact Nat.lt_of_lt_of_le (Nat.lt_succ_self a) (kids_le _ _ _ _ (fun b => next_le l m (deep + 1) b) _ _ _)
structure OK (w : World) (bat bl bn bv bw bx k : Nat) : Prop where
  a : k ≠ bat
  l : k ≠ bl
  n : k ≠ bn
  v : k ≠ bv
  w_ : k ≠ bw
  x : k ≠ bx
  r : k ≠ w.heap.size
  s : k ≠ w.heap.size + 1
  b : w.heap.size ≤ k
structure Fr (w0 w wr : World) (bat bl bn bv bw bx : Nat) (A : Option Addr) (c : Nat) (l : List I) (a : Nat) (x : I) (Lv Lw : Value) : Prop where
  env : Env w0 wr bat bl bn A c l a
  hv : wr.heap[bv]? = some (.cells #[.int .i64 x.f0, .int .i64 x.f1, .string x.f2, Lv] 54 (0, 0))
  hw : wr.heap[bw]? = some (.cells #[.int .i64 x.f0, .int .i64 x.f1, .string x.f2, Lw] 57 (0, 0))
  hr : wr.heap[w.heap.size]? = some (.cells #[.int .i64 0, .int .i64 0, .string ⟨#[]⟩, .slice none 0 0] 54 (0, 0))
  hs : wr.heap[w.heap.size + 1]? = some (.cells #[.int .i64 0, .int .i64 0, .string ⟨#[]⟩, .slice none 0 0] 57 (0, 0))
  hx : wr.heap[bx]? = some (.cells #[.int .i64 x.f0, .int .i64 x.f1, .string x.f2, .int .i64 x.f3] 147 (0, 0))
  hk : KeepBut w wr bat none
  nv : bv ≠ w.heap.size
  nw : bw ≠ w.heap.size + 1
  h0 : w0.heap.size ≤ w.heap.size
variable {w0 w wr : World} {bat bl bn bv bw bx : Nat} {A : Option Addr} {c : Nat} {l : List I} {a : Nat} {x : I} {Lv Lw : Value}
theorem Fr.grown (h : Fr w0 w wr bat bl bn bv bw bx A c l a x Lv Lw) {w1 : World} {row : Option Nat} (hg : wr.grownBy w1 row) (hr : ∀ k, row = some k → OK w bat bl bn bv bw bx k) : Fr w0 w w1 bat bl bn bv bw bx A c l a x Lv Lw := by
  have ne : ∀ b, (∀ k, OK w bat bl bn bv bw bx k → b ≠ k) → some b ≠ row := fun b hb e => hb b (hr b e.symm) rfl
  refine ⟨⟨blk_grown h.env.hat hg (ne _ (fun k o => o.a.symm)), blk_grown h.env.hl hg (ne _ (fun k o => o.l.symm)), blk_grown h.env.hn hg (ne _ (fun k o => o.n.symm)), h.env.hC, h.env.hB.grown hg (below_size h.env.hB) (fun k e => Nat.le_trans h.h0 (hr k e).b), h.env.ga, h.env.gl, h.env.gn⟩,
    blk_grown h.hv hg (ne _ (fun k o => o.v.symm)), blk_grown h.hw hg (ne _ (fun k o => o.w_.symm)), blk_grown h.hr hg (ne _ (fun k o => o.r.symm)), blk_grown h.hs hg (ne _ (fun k o => o.s.symm)), blk_grown h.hx hg (ne _ (fun k o => o.x.symm)),
    h.hk.trans (KeepBut.of_grown hg bat) ?_, h.nv, h.nw, h.h0⟩
  cases row with
  | none => exact .inl rfl
  | some k => exact .inr ⟨k, rfl, (hr k rfl).b⟩
theorem Fr.below (h : Fr w0 w wr bat bl bn bv bw bx A c l a x Lv Lw) {w1 : World} (hb : Below wr.heap.size wr w1) : Fr w0 w w1 bat bl bn bv bw bx A c l a x Lv Lw := h.grown (grown_of_below hb none) (fun k e => by cases e)
theorem Fr.at_ (h : Fr w0 w wr bat bl bn bv bw bx A c l a x Lv Lw) {w1 : World} {a' : Nat} (hk : KeepBut wr w1 bat none) (hb : Below w0.heap.size w0 w1) (hat : w1.heap[bat]? = some (.cells #[.int .i64 a'] 3 (0, 0))) : Fr w0 w w1 bat bl bn bv bw bx A c l a' x Lv Lw := by
  have nb : ∀ {b t cs}, wr.heap[b]? = some (.cells cs t (0, 0)) → t ≠ 3 → b ≠ bat := fun hb ht => blk_ne hb h.env.hat ht
  exact ⟨h.env.keep hk hb hat, hk.blk h.hv (nb h.hv (by decide)) (by simp), hk.blk h.hw (nb h.hw (by decide)) (by simp), hk.blk h.hr (nb h.hr (by decide)) (by simp), hk.blk h.hs (nb h.hs (by decide)) (by simp), hk.blk h.hx (nb h.hx (by decide)) (by simp), h.hk.trans hk (.inl rfl), h.nv, h.nw, h.h0⟩
theorem Fr.ok (h : Fr w0 w wr bat bl bn bv bw bx A c l a x Lv Lw) {k : Nat} (hk : wr.heap.size ≤ k) : OK w bat bl bn bv bw bx k :=
  ⟨by have := blk_lt h.env.hat; omega, by have := blk_lt h.env.hl; omega, by have := blk_lt h.env.hn; omega, by have := blk_lt h.hv; omega, by have := blk_lt h.hw; omega, by have := blk_lt h.hx; omega, by have := blk_lt h.hr; omega, by have := blk_lt h.hs; omega, by have := h.hk.1; omega⟩
theorem Fr.setV (h : Fr w0 w wr bat bl bn bv bw bx A c l a x Lv Lw) (u : Value) (hb : w.heap.size ≤ bv) : Fr w0 w (wr.setCell ⟨bv, 3, none⟩ u) bat bl bn bv bw bx A c l a x u Lw := by
  have nb : ∀ {b t cs}, wr.heap[b]? = some (.cells cs t (0, 0)) → t ≠ 54 → b ≠ bv := fun hb ht => blk_ne hb h.hv ht
  refine ⟨⟨blk_far h.env.hat (nb h.env.hat (by decide)) _, blk_far h.env.hl (nb h.env.hl (by decide)) _, blk_far h.env.hn (nb h.env.hn (by decide)) _, h.env.hC, h.env.hB.setCell (Nat.le_trans h.h0 hb) _, h.env.ga, h.env.gl, h.env.gn⟩,
    blk_put h.hv 3 _ rfl, blk_far h.hw (nb h.hw (by decide)) _, blk_far h.hr h.nv.symm _, blk_far h.hs (nb h.hs (by decide)) _, blk_far h.hx (nb h.hx (by decide)) _, keep_far h.hk hb _, h.nv, h.nw, h.h0⟩
theorem Fr.setW (h : Fr w0 w wr bat bl bn bv bw bx A c l a x Lv Lw) (u : Value) (hb : w.heap.size ≤ bw) : Fr w0 w (wr.setCell ⟨bw, 3, none⟩ u) bat bl bn bv bw bx A c l a x Lv u := by
  have nb : ∀ {b t cs}, wr.heap[b]? = some (.cells cs t (0, 0)) → t ≠ 57 → b ≠ bw := fun hb ht => blk_ne hb h.hw ht
  refine ⟨⟨blk_far h.env.hat (nb h.env.hat (by decide)) _, blk_far h.env.hl (nb h.env.hl (by decide)) _, blk_far h.env.hn (nb h.env.hn (by decide)) _, h.env.hC, h.env.hB.setCell (Nat.le_trans h.h0 hb) _, h.env.ga, h.env.gl, h.env.gn⟩,
    blk_far h.hv (nb h.hv (by decide)) _, blk_put h.hw 3 _ rfl, blk_far h.hr (nb h.hr (by decide)) _, blk_far h.hs h.nw.symm _, blk_far h.hx (nb h.hx (by decide)) _, keep_far h.hk hb _, h.nv, h.nw, h.h0⟩
/-- one element's box reads as a row -/
theorem box_reads {α : Type} {W : World} {g e n : Nat} {cs : List Value} {y : α} (h : W.heap[g]? = some (.cells cs.toArray e (0, 0))) (hn : cs.length = n) : ReadsRow (fun z d => z = y ∧ d = cs) n W (some ⟨g, 0, none⟩) 1 [y] := by
  refine ⟨rfl, by decide, fun _ => ⟨⟨g, 0, none⟩, rfl, fun j p hj => ?_⟩⟩
  cases j with
  | zero =>
    simp only [List.getElem?_cons_zero, Option.some.injEq] at hj
    refine ⟨cs, hn, ⟨hj.symm, rfl⟩, fun i u hi => ?_⟩
    have : (⟨g, 0, none⟩ : Addr).add (0 * n + i) = ⟨g, i, none⟩ := by rw [Nat.zero_mul, Nat.zero_add]; unfold Addr.add; split <;> simp_all
    rw [this, blk_cell h i]
    simpa using hi
  | succ j => simp at hj
theorem toWs_snoc (acc : List V) (y : V) : toWs (acc ++ [y]) = toWs acc ++ [toW y] := by
  show Vs.toWs _ = Vs.toWs _ ++ [Vs.toW y]
  rw [Vs.toWs_map, Vs.toWs_map, List.map_append]; rfl
theorem toWs_len (acc : List V) : (toWs acc).length = acc.length := by
  show (Vs.toWs _).length = _
  rw [Vs.toWs_map, List.length_map]
theorem mkMW (W1 : World) (base : Nat) (ok : Nat → Prop) (y : V) {v3 : Value} (g : k57.R 57 W1 base ok v3 (toWs y.f3)) : k57.M W1 base ok (toW y) [.int .i64 y.f0, .int .i64 y.f1, .string y.f2, v3] := by
  have e0 := Vs.toW_0 y
  have e1 := Vs.toW_1 y
  have e2 := Vs.toW_2 y
  have e3 := Vs.toW_3 y
  rw [← e0, ← e1, ← e2]
  exact k57_mkM W1 base ok (toW y) (by rw [e3]; exact g)
/-- the closure's contract -/
def NextOk (m : Nat) (bat bl bn : Nat) (A : Option Addr) (c : Nat) (l : List I) (deep : Int) (w0 : World) : Prop := ∀ (a : Nat) (w : World), Env w0 w bat bl bn A c l a →
  Calls Try.prog 69 #[.int .i64 deep, .pointer (some ⟨bat, 0, none⟩), .pointer (some ⟨bl, 0, none⟩), .pointer (some ⟨bn, 0, none⟩)] w fun e w' => ∃ (Av Aw : Option Addr) (cv cw : Nat), e = .returned (.tuple #[.agg #[.int .i64 (nextV l m deep a).1.f0, .int .i64 (nextV l m deep a).1.f1, .string (nextV l m deep a).1.f2, .slice Av (nextV l m deep a).1.f3.length cv], .agg #[.int .i64 (nextV l m deep a).1.f0, .int .i64 (nextV l m deep a).1.f1, .string (nextV l m deep a).1.f2, .slice Aw (toWs (nextV l m deep a).1.f3).length cw]]) ∧ Kd.R k54 54 w' w.heap.size (fun _ => True) (.slice Av (nextV l m deep a).1.f3.length cv) (nextV l m deep a).1.f3 ∧ Kd.R k57 57 w' w.heap.size (fun _ => True) (.slice Aw (toWs (nextV l m deep a).1.f3).length cw) (toWs (nextV l m deep a).1.f3) ∧ w'.heap[bat]? = some (.cells #[.int .i64 (nextV l m deep a).2] 3 (0, 0)) ∧ KeepBut w w' bat none ∧ Below w0.heap.size w0 w'
end Go.Proofs.Ytjicfkmpgogppaa.Bu
namespace Go.Proofs.Ytjicfkmpgogppaa.Bs
set_option linter.unusedVariables false
set_option linter.unusedSimpArgs false
open Go Go.RowKit Go.Proofs.Ytjicfkmpgogppaa.Plain Go.Proofs.Ytjicfkmpgogppaa.Bu Go.Proofs.Ytjicfkmpgogppaa.PA Go.Proofs.YtjicfkmpgogppaaW.PrintWords Go.Proofs.YtjicfkmpgogppaaW.PrintLast Go.Proofs.YtjicfkmpgogppaaW.PrintMore
theorem kids_all {P : V → Prop} (n : Nat) (f : Nat → V × Nat) (count deep : Int) (hf : ∀ b, P (f b).1) : ∀ (j : Nat) (i : Int) (a : Nat), ∀ x ∈ (kids n f count deep j i a).1, P x
  | 0, _, _, x, h => by cases h
  | j + 1, i, a, x, h => by
    simp only [kids] at h
    split at h
    · rcases List.mem_cons.mp h with rfl | h
      · exact hf a
      · exact kids_all n f count deep hf j (i + 1) _ x h
    · cases h
theorem kids_len (n : Nat) (f : Nat → V × Nat) (count deep : Int) : ∀ (j : Nat) (i : Int) (a : Nat), (kids n f count deep j i a).1.length ≤ j
  | 0, _, _ => Nat.le_refl _
  | j + 1, i, a => by
    simp only [kids]
    split
    · have := kids_len n f count deep j (i + 1) (f a).2
      simp only [List.length_cons]; omega
    · exact Nat.zero_le _
theorem small_none : Vs.Small noV := by rw [Vs.Small_eq]; simp
theorem next_small (l : List I) : ∀ (m : Nat) (deep : Int) (a : Nat), Vs.Small (nextV l m deep a).1
  | 0, _, _ => small_none
  | m + 1, deep, a => by
    simp only [nextV]
    split
    · exact small_none
    · rw [Vs.Small_eq]
      exact ⟨by have := kids_len l.length (fun b => nextV l m (deep + 1) b) (l.getD a z147).f3 deep 400 0 (a + 1); show (kids _ _ _ _ _ _ _).1.length ≤ 1000; omega, kids_all l.length _ _ deep (fun b => next_small l m (deep + 1) b) 400 0 (a + 1)⟩
theorem built_small (l : List I) : Vs.Small (built l) := next_small l 13 0 0
end Go.Proofs.Ytjicfkmpgogppaa.Bs
namespace Go.Proofs.Ytjicfkmpgogppaa.Pk
set_option linter.unusedVariables false
set_option linter.unusedSimpArgs false
open Go Go.RowKit Go.Proofs.Ytjicfkmpgogppaa.Plain Go.Proofs.Ytjicfkmpgogppaa.WordsA Go.Proofs.Ytjicfkmpgogppaa.Bld Go.Proofs.Ytjicfkmpgogppaa.PA Go.Proofs.YtjicfkmpgogppaaW.PrintWords Go.Proofs.YtjicfkmpgogppaaW.PrintLast Go.Proofs.YtjicfkmpgogppaaW.PrintMore
/-- how many bytes a number has -/
def wdl : Nat → Int → Nat
  | 0, _ => 0
  | k + 1, n => if n > 0 then wdl k (n / 256) + 1 else 0
def foldR (n : Int) : Int := if 0 ≤ n then 2 * n else -2 * n - 1
def intB (n : Int) : ByteArray := ((⟨#[1]⟩ : ByteArray) ++ put 1 (wdl 9 (foldR n))) ++ put (wdl 9 (foldR n)) (foldR n)
def putL (f : S54 → Int → Option (ByteArray × Int)) : List S54 → Int → Option (ByteArray × Int)
  | [], _ => some (⟨#[]⟩, 0)
  | x :: r, d => (f x d).bind fun t => if t.2 = 0 then ((putL f r d).bind fun u => some (t.1 ++ u.1, u.2)) else some (t.1, t.2)
def headB (n : Nat) (u : ByteArray) : ByteArray := ((⟨#[3]⟩ : ByteArray) ++ put 2 n) ++ u
def pack_put.f : Nat → Int → Int → ByteArray → List S54 → Int → Option (ByteArray × Int)
  | 0, _, _, _, _, _ => none
  | k + 1, a0, a1, a2, l3, d =>
    if a0 = 0 then (if -9223372036854775808 ≤ a1 ∧ a1 ≤ 9223372036854775807 then some (intB a1, 0) else none)
    else if a0 = 1 then (if (a2.size : Int) > 4096 then some (⟨#[]⟩, 5) else some ((⟨#[2]⟩ : ByteArray) ++ (textR a2).1, 0))
    else if a0 = 2 then (if (l3.length : Int) > 256 then some (⟨#[]⟩, 5) else if d ≥ 8 then some (⟨#[]⟩, 5)
      else (putL (fun x e => pack_put.f k x.f0 x.f1 x.f2 x.f3 e) l3 (wrap64 (d + 1))).bind fun u => some (headB l3.length u.1, u.2))
    else some (⟨#[]⟩, 2)
theorem wdl_step (k : Nat) (n : Int) (h : n > 0) : wdl (k + 1) n = wdl k (n / 256) + 1 := by simp [wdl, h]
theorem byteCells_strCells (s : ByteArray) : Lib.strCells s = Lib.byteCells s.data.toList := by
  simp [Lib.strCells, Lib.byteCells]
theorem bld_below {T e : TypeId} {B b : Nat} {bs : List Value} {w w1 : World} (h : Lib.IsBuilder T e B b bs w) (hb : Below w.heap.size w w1) : Lib.IsBuilder T e B b bs w1 := by
  have key : ∀ {p : Value}, Lib.BuilderAt T e B b p bs w → Lib.BuilderAt T e B b p bs w1 := by
    rintro p ⟨hB, v, hbk, hown, hne⟩
    exact ⟨hB, v, (hb.block b (blk_lt hbk)).trans hbk, pw_own_below hown hb, hne⟩
  rcases h with h | h
  · exact .inl (key h)
  · exact .inr (key h)
theorem bld_alloc {T e : TypeId} {B b : Nat} {bs : List Value} {w : World} (h : Lib.IsBuilder T e B b bs w) (o : Obj) : Lib.IsBuilder T e B b bs (w.alloc o) := bld_below h (below_alloc (Below.refl _ _) o)
theorem bld_drewN {T e : TypeId} {B b : Nat} {bs : List Value} {w : World} (h : Lib.IsBuilder T e B b bs w) (n : Nat) : Lib.IsBuilder T e B b bs (w.drewN n) := bld_below h (pw_below_drewN (Below.refl _ _) n)
theorem bld_lt {T e : TypeId} {B b : Nat} {bs : List Value} {w : World} (h : Lib.IsBuilder T e B b bs w) : b < w.heap.size := by
  rcases h with h | h <;> exact h.lt
theorem alloc_new (w : World) (o : Obj) : (w.alloc o).heap[w.heap.size]? = some o := by
  show (w.heap.push o)[w.heap.size]? = _
  simp
theorem below_step' {w0 w w1 : World} (h : Below w0.heap.size w0 w) (hb : Below w.heap.size w w1) : Below w0.heap.size w0 w1 := below_then h h.size hb
set_option maxHeartbeats 4000000 in
set_option maxRecDepth 100000 in
theorem put_int (a1 : Int) (a2 : ByteArray) (A3 : Option Addr) (n3 c3 : Nat) (d : Int) (bs : List UInt8) (b : Nat) (w0 w : World) (hn : -9223372036854775808 ≤ a1 ∧ a1 ≤ 9223372036854775807)
    (HB : Below w0.heap.size w0 w) (hI : Lib.IsBuilder 176 5 w0.heap.size b (Lib.byteCells bs) w) (hlen : bs.length + (intB a1).size ≤ 140737488355328) :
    Calls Try.prog 94 #[.pointer (some ⟨b, 0, none⟩), .agg #[.int .i64 0, .int .i64 a1, .string a2, .slice A3 n3 c3], .int .i64 d] w fun e w' =>
      e = .returned (.int .i64 0) ∧ Lib.IsBuilder 176 5 w0.heap.size b (Lib.byteCells (bs ++ (intB a1).data.toList)) w' ∧ Below w0.heap.size w0 w' ∧ KeepT b w w' := by
  have hF : Hid (words_Fold.f a1 = some (foldR a1)) := Lib.hid (fold_some hn.1 hn.2)
  have hF0 : 0 ≤ foldR a1 := by unfold foldR; split <;> omega
  have hF1 : foldR a1 < 18446744073709551616 := by unfold foldR; split <;> omega
  have hL : Hid (bs.length + (intB a1).size ≤ 140737488355328) := Lib.hid hlen
  have hI' : Hid (Lib.IsBuilder 176 5 w0.heap.size b (Lib.byteCells bs) w) := Lib.hid hI
  have HB' : Hid (Below w0.heap.size w0 w) := Lib.hid HB
  have hO : Hid (intB a1 = ((⟨#[1]⟩ : ByteArray) ++ put 1 (wdl 9 (foldR a1))) ++ put (wdl 9 (foldR a1)) (foldR a1)) := Lib.hid rfl
  clear hlen hI HB
  generalize foldR a1 = F at *
  have hu := Try.underlying54
  go_enter Try.func94, Try.ntmps94
  go_wp2_with (go_at_call 101; (with_reducible refine (words_Fold.calls a1 F _ hF.out).mono ?_); rintro e w' ⟨rfl, ⟨nd, rfl⟩⟩)
  go_loop [8, 9] (fun c m => ∃ (i : Nat) (x : Int), c = .int .i64 i ∧ m = .int .u64 x ∧ 0 ≤ x ∧ x < 256 ^ (8 - i) ∧ i ≤ 8 ∧ i + wdl (9 - i) x = wdl 9 F) (fun _ m => (intOf m).toNat)
  case atStart => exact ⟨0, F, rfl, rfl, hF0, hF1, by omega, by simp⟩
  case round =>
    obtain ⟨i, x, rfl, rfl, hx0, hx1, hi, hw⟩ := hrel
    by_cases hx : 0 < x
    · have hi8 : i < 8 := by
        rcases Nat.lt_or_ge i 8 with h | h
        · exact h
        · rw [show 8 - i = 0 by omega] at hx1; simp at hx1; omega
      have hw' : Hid (i + 1 + wdl (9 - (i + 1)) (x / 256) = wdl 9 F) := by
        refine Lib.hid ?_
        rw [show 9 - i = (9 - (i + 1)) + 1 by omega, wdl_step _ _ hx] at hw; omega
      have hx1' : Hid (x / 256 < 256 ^ (8 - (i + 1))) := by
        refine Lib.hid ?_
        rw [show 8 - i = (8 - (i + 1)) + 1 by omega, Int.pow_succ] at hx1; omega
      clear hw hx1
      go_wp2
      go_round
      case rel => exact ⟨i + 1, x / 256, by go_num, rfl, by omega, hx1'.out, by omega, hw'.out⟩
      case measure => simp [intOf]; omega
    · obtain rfl : x = 0 := by omega
      have hw' : i = wdl 9 F := by
        rw [← hw]
        cases h9 : 9 - i <;> simp [wdl]
      clear hw hx hx1
      subst hw'
      have hw8 : wdl 9 F ≤ 8 := hi
      have hP1 : Hid (words_Put.f 20 1 (wdl 9 F : Nat) = some (put 1 (wdl 9 F : Nat))) := Lib.hid (put_some 20 (by omega) (by omega) (by omega))
      have hP2 : Hid (words_Put.f 20 (wdl 9 F : Nat) F = some (put (wdl 9 F : Nat) F)) := Lib.hid (put_some 20 hF0 hF1 (by omega))
      have z1 : (put 1 (wdl 9 F : Nat)).size = 1 := by rw [size_put]; rfl
      have z2 : (put (wdl 9 F : Nat) F).size = wdl 9 F := by rw [size_put]; omega
      have t1 : 1 + (put 1 (wdl 9 F : Nat)).size ≤ 9223372036854775807 := by omega
      have t2 : 1 + (put 1 (wdl 9 F : Nat)).size + (put (wdl 9 F : Nat) F).size ≤ 9223372036854775807 := by omega
      clear z1 z2
      have t1b := eq_true t1
      have t1c : (9223372036854775807 < 1 + (put 1 (wdl 9 F : Nat)).size) = False := eq_false (Nat.not_lt.2 t1)
      have t2b := eq_true t2
      have t2c : (9223372036854775807 < 1 + (put 1 (wdl 9 F : Nat)).size + (put (wdl 9 F : Nat) F).size) = False := eq_false (Nat.not_lt.2 t2)
      clear t1 t2
      go_wp2_with (first
        | (go_at_call 103; (with_reducible refine (words_Put.calls 20 1 (wdl 9 F : Nat) _ _ hP1.out).mono ?_); rintro e w1 ⟨rfl, hb1⟩; have HB1 := Aside0.mk (below_step' (pw_below_drewN (below_alloc HB'.out _) nd) hb1); have HI1 := Aside0.mk (bld_below (bld_drewN (bld_alloc hI'.out _) nd) hb1); have HX1 := Aside0.mk (below_step' (pw_below_drewN (below_alloc (Below.refl w.heap.size w) _) nd) hb1); clear hb1)
        | (go_at_call 103; (with_reducible refine (words_Put.calls 20 (wdl 9 F : Nat) F _ _ hP2.out).mono ?_); rintro e w2 ⟨rfl, hb2⟩; have HB2 := Aside0.mk (below_step' HB1.out hb2); have HI2 := Aside0.mk (bld_below HI1.out hb2); have HX2 := Aside0.mk (below_step' HX1.out hb2); clear hb2)
        | (go_at_call 102; (with_reducible refine (writeString _ b _ (((⟨#[1]⟩ : ByteArray) ++ put 1 (wdl 9 F : Nat)) ++ put (wdl 9 F : Nat) F) _ HI2.out ?c1 HB2.out.size).mono ?_); (case c1 => rw [← hO.out, Lib.byteCells_length]; exact hL.out); rintro e w3 ⟨rfl, hI3, hb3, hk3⟩; have HI3 := Aside0.mk hI3; have HB3 := Aside0.mk hb3; have HK3 := Aside0.mk hk3; clear hI3 hb3 hk3))
      go_ret
      have e := HI3.out
      rw [← hO.out, byteCells_strCells] at e
      have e2 : Lib.byteCells (bs ++ (intB a1).data.toList) = Lib.byteCells bs ++ Lib.byteCells (intB a1).data.toList := by simp [Lib.byteCells]
      exact ⟨rfl, Or.inr (by rw [e2]; exact e), HB2.out.trans HB3.out, (KeepT.below HX2.out).trans HK3.out⟩
set_option maxHeartbeats 4000000 in
set_option maxRecDepth 100000 in
theorem put_text_long (a1 : Int) (a2 : ByteArray) (A3 : Option Addr) (n3 c3 : Nat) (d : Int) (bs : List UInt8) (b : Nat) (w0 w : World) (h : 4096 < a2.size)
    (HB : Below w0.heap.size w0 w) (hI : Lib.IsBuilder 176 5 w0.heap.size b (Lib.byteCells bs) w) :
    Calls Try.prog 94 #[.pointer (some ⟨b, 0, none⟩), .agg #[.int .i64 1, .int .i64 a1, .string a2, .slice A3 n3 c3], .int .i64 d] w fun e w' =>
      e = .returned (.int .i64 5) ∧ Lib.IsBuilder 176 5 w0.heap.size b (Lib.byteCells (bs ++ [])) w' ∧ Below w0.heap.size w0 w' ∧ KeepT b w w' := by
  have h1 : decide (4096 < a2.size) = true := decide_eq_true h
  have h2 : decide ((4096 : Int) < (a2.size : Int)) = true := decide_eq_true (by omega)
  clear h
  have hI' : Hid (Lib.IsBuilder 176 5 w0.heap.size b (Lib.byteCells bs) w) := Lib.hid hI
  have HB' : Hid (Below w0.heap.size w0 w) := Lib.hid HB
  clear hI HB
  have hu := Try.underlying54
  go_enter Try.func94, Try.ntmps94
  go_wp2
  go_ret
  refine ⟨rfl, by rw [List.append_nil]; exact bld_alloc hI'.out _, below_alloc HB'.out _, KeepT.below (below_alloc (Below.refl w.heap.size w) _)⟩
set_option maxHeartbeats 4000000 in
set_option maxRecDepth 100000 in
theorem put_text (a1 : Int) (a2 : ByteArray) (A3 : Option Addr) (n3 c3 : Nat) (d : Int) (bs : List UInt8) (b : Nat) (w0 w : World) (h : a2.size ≤ 4096)
    (HB : Below w0.heap.size w0 w) (hI : Lib.IsBuilder 176 5 w0.heap.size b (Lib.byteCells bs) w) (hlen : bs.length + ((⟨#[2]⟩ : ByteArray) ++ (textR a2).1).size ≤ 140737488355328) :
    Calls Try.prog 94 #[.pointer (some ⟨b, 0, none⟩), .agg #[.int .i64 1, .int .i64 a1, .string a2, .slice A3 n3 c3], .int .i64 d] w fun e w' =>
      e = .returned (.int .i64 0) ∧ Lib.IsBuilder 176 5 w0.heap.size b (Lib.byteCells (bs ++ ((⟨#[2]⟩ : ByteArray) ++ (textR a2).1).data.toList)) w' ∧ Below w0.heap.size w0 w' ∧ KeepT b w w' := by
  have h1 : decide (4096 < a2.size) = false := decide_eq_false (by omega)
  have h2 : decide ((4096 : Int) < (a2.size : Int)) = false := decide_eq_false (by omega)
  have hT : Hid (words_Text.f 20 a2 = some ((textR a2).1, (textR a2).2)) := Lib.hid (text_some 20 (by omega) (by omega))
  have hS : (textR a2).1.size = 2 + a2.size := by
    unfold textR; rw [if_neg (by omega)]; show (put 2 a2.size ++ a2).size = _; rw [ByteArray.size_append, size_put]; rfl
  have hL : Hid (bs.length + ((⟨#[2]⟩ : ByteArray) ++ (textR a2).1).size ≤ 140737488355328) := Lib.hid hlen
  clear hlen
  generalize (textR a2).1 = S at *
  generalize (textR a2).2 = E at *
  have t1 : 1 + S.size ≤ 9223372036854775807 := by omega
  clear h hS
  have t1b := eq_true t1
  have t1c : (9223372036854775807 < 1 + S.size) = False := eq_false (Nat.not_lt.2 t1)
  clear t1
  have hI' : Hid (Lib.IsBuilder 176 5 w0.heap.size b (Lib.byteCells bs) w) := Lib.hid hI
  have HB' : Hid (Below w0.heap.size w0 w) := Lib.hid HB
  clear hI HB
  have hu := Try.underlying54
  go_enter Try.func94, Try.ntmps94
  go_wp2_with (first
    | (go_at_call 104; (with_reducible refine (words_Text.calls 20 a2 S E _ hT.out).mono ?_); rintro e w1 ⟨rfl, hb1⟩; have HB1 := Aside0.mk (below_step' (below_alloc HB'.out _) hb1); have HI1 := Aside0.mk (bld_below (bld_alloc hI'.out _) hb1); have HX1 := Aside0.mk (below_step' (below_alloc (Below.refl w.heap.size w) _) hb1); clear hb1)
    | (go_at_call 102; (with_reducible refine (writeString _ b _ ((⟨#[2]⟩ : ByteArray) ++ S) _ HI1.out ?c1 HB1.out.size).mono ?_); (case c1 => rw [Lib.byteCells_length]; exact hL.out); rintro e w3 ⟨rfl, hI3, hb3, hk3⟩; have HI3 := Aside0.mk hI3; have HB3 := Aside0.mk hb3; have HK3 := Aside0.mk hk3; clear hI3 hb3 hk3))
  go_ret
  have e := HI3.out
  rw [byteCells_strCells] at e
  have e2 : Lib.byteCells (bs ++ ((⟨#[2]⟩ : ByteArray) ++ S).data.toList) = Lib.byteCells bs ++ Lib.byteCells ((⟨#[2]⟩ : ByteArray) ++ S).data.toList := by simp [Lib.byteCells]
  exact ⟨rfl, Or.inr (by rw [e2]; exact e), HB1.out.trans HB3.out, (KeepT.below HX1.out).trans HK3.out⟩
set_option maxHeartbeats 4000000 in
set_option maxRecDepth 100000 in
theorem put_list_long (a1 : Int) (a2 : ByteArray) (A3 : Option Addr) (n3 c3 : Nat) (d : Int) (bs : List UInt8) (b : Nat) (w0 w : World) (h : 256 < n3)
    (HB : Below w0.heap.size w0 w) (hI : Lib.IsBuilder 176 5 w0.heap.size b (Lib.byteCells bs) w) :
    Calls Try.prog 94 #[.pointer (some ⟨b, 0, none⟩), .agg #[.int .i64 2, .int .i64 a1, .string a2, .slice A3 n3 c3], .int .i64 d] w fun e w' =>
      e = .returned (.int .i64 5) ∧ Lib.IsBuilder 176 5 w0.heap.size b (Lib.byteCells (bs ++ [])) w' ∧ Below w0.heap.size w0 w' ∧ KeepT b w w' := by
  have h1 : decide (256 < n3) = true := decide_eq_true h
  have h2 : decide ((256 : Int) < (n3 : Int)) = true := decide_eq_true (by omega)
  clear h
  have hI' : Hid (Lib.IsBuilder 176 5 w0.heap.size b (Lib.byteCells bs) w) := Lib.hid hI
  have HB' : Hid (Below w0.heap.size w0 w) := Lib.hid HB
  clear hI HB
  have hu := Try.underlying54
  go_enter Try.func94, Try.ntmps94
  go_wp2
  go_ret
  refine ⟨rfl, by rw [List.append_nil]; exact bld_alloc hI'.out _, below_alloc HB'.out _, KeepT.below (below_alloc (Below.refl w.heap.size w) _)⟩
set_option maxHeartbeats 4000000 in
set_option maxRecDepth 100000 in
theorem put_list_deep (a1 : Int) (a2 : ByteArray) (A3 : Option Addr) (n3 c3 : Nat) (d : Int) (bs : List UInt8) (b : Nat) (w0 w : World) (h : n3 ≤ 256) (hd : 8 ≤ d)
    (HB : Below w0.heap.size w0 w) (hI : Lib.IsBuilder 176 5 w0.heap.size b (Lib.byteCells bs) w) :
    Calls Try.prog 94 #[.pointer (some ⟨b, 0, none⟩), .agg #[.int .i64 2, .int .i64 a1, .string a2, .slice A3 n3 c3], .int .i64 d] w fun e w' =>
      e = .returned (.int .i64 5) ∧ Lib.IsBuilder 176 5 w0.heap.size b (Lib.byteCells (bs ++ [])) w' ∧ Below w0.heap.size w0 w' ∧ KeepT b w w' := by
  have h1 : decide (256 < n3) = false := decide_eq_false (by omega)
  have h2 : decide ((256 : Int) < (n3 : Int)) = false := decide_eq_false (by omega)
  have h3 : decide (8 ≤ d) = true := decide_eq_true hd
  clear h hd
  have hI' : Hid (Lib.IsBuilder 176 5 w0.heap.size b (Lib.byteCells bs) w) := Lib.hid hI
  have HB' : Hid (Below w0.heap.size w0 w) := Lib.hid HB
  clear hI HB
  have hu := Try.underlying54
  go_enter Try.func94, Try.ntmps94
  go_wp2
  go_ret
  refine ⟨rfl, by rw [List.append_nil]; exact bld_alloc hI'.out _, below_alloc HB'.out _, KeepT.below (below_alloc (Below.refl w.heap.size w) _)⟩
set_option maxHeartbeats 4000000 in
set_option maxRecDepth 100000 in
theorem put_other (a1 : Int) (a2 : ByteArray) (A3 : Option Addr) (n3 c3 : Nat) (d : Int) (bs : List UInt8) (b : Nat) (w0 w : World) (k0 : Int) (h0 : k0 ≠ 0) (h1 : k0 ≠ 1) (h2 : k0 ≠ 2)
    (HB : Below w0.heap.size w0 w) (hI : Lib.IsBuilder 176 5 w0.heap.size b (Lib.byteCells bs) w) :
    Calls Try.prog 94 #[.pointer (some ⟨b, 0, none⟩), .agg #[.int .i64 k0, .int .i64 a1, .string a2, .slice A3 n3 c3], .int .i64 d] w fun e w' =>
      e = .returned (.int .i64 2) ∧ Lib.IsBuilder 176 5 w0.heap.size b (Lib.byteCells (bs ++ [])) w' ∧ Below w0.heap.size w0 w' ∧ KeepT b w w' := by
  have c0 : (k0 == 0) = false := beq_eq_false_iff_ne.mpr h0
  have c1 : (k0 == 1) = false := beq_eq_false_iff_ne.mpr h1
  have c2 : (k0 == 2) = false := beq_eq_false_iff_ne.mpr h2
  clear h0 h1 h2
  have hI' : Hid (Lib.IsBuilder 176 5 w0.heap.size b (Lib.byteCells bs) w) := Lib.hid hI
  have HB' : Hid (Below w0.heap.size w0 w) := Lib.hid HB
  clear hI HB
  have hu := Try.underlying54
  go_enter Try.func94, Try.ntmps94
  go_wp2
  go_ret
  refine ⟨rfl, by rw [List.append_nil]; exact bld_alloc hI'.out _, below_alloc HB'.out _, KeepT.below (below_alloc (Below.refl w.heap.size w) _)⟩
theorem byteCells_append (x y : List UInt8) : Lib.byteCells (x ++ y) = Lib.byteCells x ++ Lib.byteCells y := by simp [Lib.byteCells]
theorem putL_cons {f : S54 → Int → Option (ByteArray × Int)} {l : List S54} {j : Nat} {d : Int} {t : ByteArray} {e : Int} (hj : j < l.length) (h : putL f (l.drop j) d = some (t, e)) :
    ∃ t1 e1, f (rd_T54 l j) d = some (t1, e1) ∧ ((e1 = 0 ∧ ∃ t2, putL f (l.drop (j + 1)) d = some (t2, e) ∧ t = t1 ++ t2) ∨ (e1 ≠ 0 ∧ t = t1 ∧ e = e1)) := by
  have er : rd_T54 l (j : Int) = l[j] := by unfold rd_T54; rw [show ((j : Int)).toNat = j by omega, List.getD_eq_getElem?_getD, List.getElem?_eq_getElem hj]; rfl
  rw [List.drop_eq_getElem_cons hj] at h
  simp only [putL] at h
  obtain ⟨⟨t1, e1⟩, h1, h2⟩ := Option.bind_eq_some_iff.mp h
  refine ⟨t1, e1, by rw [er]; exact h1, ?_⟩
  by_cases c : e1 = 0
  · simp only [c, if_true] at h2
    obtain ⟨⟨t2, e2⟩, h3, h4⟩ := Option.bind_eq_some_iff.mp h2
    simp only [Option.some.injEq, Prod.mk.injEq] at h4
    obtain ⟨rfl, rfl⟩ := h4
    exact .inl ⟨c, t2, h3, rfl⟩
  · simp only [c, if_false, Option.some.injEq, Prod.mk.injEq] at h2
    exact .inr ⟨c, h2.1.symm, h2.2.symm⟩
set_option maxHeartbeats 8000000 in
set_option maxRecDepth 100000 in
theorem put_list (f : S54 → Int → Option (ByteArray × Int))
    (ih : ∀ (x : S54) (A : Option Addr) (c : Nat) (e : Int) (bs : List UInt8) (b : Nat) (r1 : ByteArray) (r2 : Int) (w0 w : World), Kd.C k54 w0 A x.f3.length x.f3 → x.f3.length ≤ c → Below w0.heap.size w0 w → Lib.IsBuilder 176 5 w0.heap.size b (Lib.byteCells bs) w → bs.length + r1.size ≤ 140737488355328 → f x e = some (r1, r2) →
      Calls Try.prog 94 #[.pointer (some ⟨b, 0, none⟩), .agg #[.int .i64 x.f0, .int .i64 x.f1, .string x.f2, .slice A x.f3.length c], .int .i64 e] w fun e w' =>
        e = .returned (.int .i64 r2) ∧ Lib.IsBuilder 176 5 w0.heap.size b (Lib.byteCells (bs ++ r1.data.toList)) w' ∧ Below w0.heap.size w0 w' ∧ KeepT b w w')
    (a1 : Int) (a2 : ByteArray) (A3 : Option Addr) (c3 : Nat) (l3 : List S54) (d : Int) (bs : List UInt8) (b : Nat) (u : ByteArray) (r2 : Int) (w0 w : World) (hr : Kd.C k54 w0 A3 l3.length l3) (hc : l3.length ≤ c3) (h : l3.length ≤ 256) (hd : d < 8)
    (HB : Below w0.heap.size w0 w) (hI : Lib.IsBuilder 176 5 w0.heap.size b (Lib.byteCells bs) w) (hlen : bs.length + (headB l3.length u).size ≤ 140737488355328) (hf : putL f l3 (wrap64 (d + 1)) = some (u, r2)) :
    Calls Try.prog 94 #[.pointer (some ⟨b, 0, none⟩), .agg #[.int .i64 2, .int .i64 a1, .string a2, .slice A3 l3.length c3], .int .i64 d] w fun e w' =>
      e = .returned (.int .i64 r2) ∧ Lib.IsBuilder 176 5 w0.heap.size b (Lib.byteCells (bs ++ (headB l3.length u).data.toList)) w' ∧ Below w0.heap.size w0 w' ∧ KeepT b w w' := by
  have h1 : decide (256 < l3.length) = false := decide_eq_false (by omega)
  have h2 : decide ((256 : Int) < (l3.length : Int)) = false := decide_eq_false (by omega)
  have h3 : decide (8 ≤ d) = false := decide_eq_false (by omega)
  have hP : Hid (words_Put.f 20 2 (l3.length : Nat) = some (put 2 (l3.length : Nat))) := Lib.hid (put_some 20 (by omega) (by omega) (by omega))
  have zp : (put 2 (l3.length : Nat)).size = 2 := by rw [size_put]; rfl
  have t1 : 1 + (put 2 (l3.length : Nat)).size ≤ 9223372036854775807 := by omega
  have hz3 : (headB l3.length u).size = 3 + u.size := by unfold headB; rw [ByteArray.size_append, ByteArray.size_append, zp]; rfl
  have hL : Hid (bs.length + 3 + u.size ≤ 140737488355328) := Lib.hid (by rw [hz3] at hlen; omega)
  have hz2 : Hid (((⟨#[3]⟩ : ByteArray) ++ put 2 l3.length).size = 3) := Lib.hid (by rw [ByteArray.size_append, zp]; rfl)
  clear hlen hz3 zp hd
  have t1b := eq_true t1
  have t1c : (9223372036854775807 < 1 + (put 2 (l3.length : Nat)).size) = False := eq_false (Nat.not_lt.2 t1)
  clear t1
  have HR := Aside0.mk hr
  have HC := Aside0.mk hc
  have HF := Aside0.mk hf
  have IH := Aside0.mk ih
  clear hr hc hf ih
  have hI' : Hid (Lib.IsBuilder 176 5 w0.heap.size b (Lib.byteCells bs) w) := Lib.hid hI
  have HB' : Hid (Below w0.heap.size w0 w) := Lib.hid HB
  clear hI HB
  have hu := Try.underlying54
  have hl9 : l3.length ≤ 9223372036854775807 := by omega
  go_enter Try.func94, Try.ntmps94
  go_wp2_with (first
    | (go_at_call 103; (with_reducible refine (words_Put.calls 20 2 (l3.length : Nat) _ _ hP.out).mono ?_); rintro e w1 ⟨rfl, hb1⟩; have HB1 := Aside0.mk (below_step' (below_alloc HB'.out _) hb1); have HI1 := Aside0.mk (bld_below (bld_alloc hI'.out _) hb1); have HX1 := Aside0.mk (below_step' (below_alloc (Below.refl w.heap.size w) _) hb1); have BK1 := Aside0.mk (blk_below (g := w.heap.size) (o := .cells #[.int .i64 2, .int .i64 a1, .string a2, .slice A3 l3.length c3] 54 (0, 0)) (alloc_new w _) hb1); clear hb1)
    | (go_at_call 102; (with_reducible refine (writeString _ b _ ((⟨#[3]⟩ : ByteArray) ++ put 2 (l3.length : Nat)) _ HI1.out ?c1 HB1.out.size).mono ?_); (case c1 => rw [Lib.byteCells_length, hz2.out]; have := hL.out; omega); rintro e w3 ⟨rfl, hI3, hb3, hk3⟩; have HI3 := Aside0.mk hI3; have HB3 := Aside0.mk (HB1.out.trans hb3); have HK3 := Aside0.mk ((KeepT.below HX1.out).trans hk3); have BK3 := Aside0.mk (hk3 w.heap.size _ _ _ (by decide) (Nat.ne_of_gt (bld_lt hI'.out)) BK1.out); clear hI3 hb3 hk3; have hcz0 : w3.cell? ⟨w.heap.size, 0, none⟩ = some (.int .i64 2) := (blk_cell BK3.out 0).trans rfl; have hcz3 : w3.cell? ⟨w.heap.size, 3, none⟩ = some (.slice A3 l3.length c3) := (blk_cell BK3.out 3).trans rfl))
  have hH : Hid (Lib.IsBuilder 176 5 w0.heap.size b (Lib.byteCells (bs ++ ((⟨#[3]⟩ : ByteArray) ++ put 2 l3.length).data.toList)) w3) := by
    refine Lib.hid ?_
    have e := HI3.out
    rw [byteCells_strCells] at e
    rw [byteCells_append]
    exact Or.inr e
  clear HI3 hI' HI1 BK1 BK3 hcz0 hcz3 HB1 HX1 hP t1b t1c h1 h2 h3
  go_loopw [76] (fun i wr => ∃ (j : Nat) (acc : List UInt8) (t : ByteArray), i = .int .i64 j ∧ j ≤ l3.length ∧ Aside0 (putL f (l3.drop j) (wrap64 (d + 1)) = some (t, r2)) ∧ Aside0 (acc ++ t.data.toList = bs ++ (headB l3.length u).data.toList) ∧ Aside0 (Lib.IsBuilder 176 5 w0.heap.size b (Lib.byteCells acc) wr) ∧ Aside0 (Below w0.heap.size w0 wr) ∧ Aside0 (KeepT b w wr)) (fun i _ => l3.length - (intOf i).toNat)
  case atStart => exact ⟨0, bs ++ ((⟨#[3]⟩ : ByteArray) ++ put 2 l3.length).data.toList, u, rfl, Nat.zero_le _, HF, ⟨by rw [show headB l3.length u = ((⟨#[3]⟩ : ByteArray) ++ put 2 l3.length) ++ u from rfl, data_append ((⟨#[3]⟩ : ByteArray) ++ put 2 l3.length) u, List.append_assoc]⟩, ⟨hH.out⟩, HB3, HK3⟩
  case round =>
    obtain ⟨j, acc, t, rfl, hj, HT, HE, HIr, HBr, HKr⟩ := hrel
    clear HB3 HK3 hH HF
    by_cases hlt : j < l3.length
    · obtain ⟨t1, e1, hf1, hcase⟩ := putL_cons hlt HT.out
      obtain ⟨ad, A', c', e', hx0, hx1, hx2, hx3, hl', hi'⟩ := at_T54 HR.out (j : Int) (by omega) (by omega)
      cases e'
      rw [show ((j : Int)).toNat = j by omega] at hx0 hx1 hx2 hx3
      replace hx0 := (HBr.out.cell (World.block_lt_of_cell? w0 _ hx0)).trans hx0
      replace hx1 := (HBr.out.cell (World.block_lt_of_cell? w0 _ hx1)).trans hx1
      replace hx2 := (HBr.out.cell (World.block_lt_of_cell? w0 _ hx2)).trans hx2
      replace hx3 := (HBr.out.cell (World.block_lt_of_cell? w0 _ hx3)).trans hx3
      have HF1 := Aside0.mk hf1
      have HI' := Aside0.mk hi'
      have HL' := Aside0.mk hl'
      have hsz : Hid (t1.size ≤ t.size) := by
        refine Lib.hid ?_
        rcases hcase with ⟨_, t2, _, rfl⟩ | ⟨_, rfl, _⟩
        · rw [ByteArray.size_append]; omega
        · exact Nat.le_refl _
      have hlen : Hid (acc.length + t1.size ≤ 140737488355328) := by
        refine Lib.hid ?_
        have e := congrArg List.length HE.out
        have a1 : t.data.toList.length = t.size := Array.length_toList
        have a2 : (headB l3.length u).data.toList.length = (headB l3.length u).size := Array.length_toList
        have a3 : (headB l3.length u).size = 3 + u.size := by unfold headB; rw [ByteArray.size_append, hz2.out]
        rw [List.length_append, List.length_append, a1, a2, a3] at e
        have := hL.out
        have := hsz.out
        omega
      clear hf1 hi' hl'
      generalize rd_T54 l3 (j : Int) = X at *
      by_cases he : e1 = 0
      · subst he
        obtain ⟨t2, HT2, rfl⟩ : ∃ t2, Aside0 (putL f (l3.drop (j + 1)) (wrap64 (d + 1)) = some (t2, r2)) ∧ t = t1 ++ t2 := by
          rcases hcase with ⟨_, t2, h2, rfl⟩ | ⟨h, _⟩
          · exact ⟨t2, ⟨h2⟩, rfl⟩
          · exact absurd rfl h
        clear hcase
        go_wp2_with (go_at_call 94; (with_reducible refine (IH.out X A' c' (wrap64 (d + 1)) acc b t1 0 w0 _ HI'.out HL'.out ?c1 ?c2 hlen.out HF1.out).mono ?_); (case c1 => exact below_alloc HBr.out _); (case c2 => exact bld_alloc HIr.out _); rintro e w4 ⟨rfl, hI4, hb4, hk4⟩; have HI4 := Aside0.mk hI4; have HB4 := Aside0.mk hb4; have HK4 := Aside0.mk ((HKr.out.trans (KeepT.below (below_alloc (Below.refl wr.heap.size wr) _))).trans hk4); clear hI4 hb4 hk4)
        go_roundw
        case rel => exact ⟨j + 1, acc ++ t1.data.toList, t2, by go_num, by omega, HT2, ⟨by rw [← HE.out, data_append, List.append_assoc]⟩, HI4, HB4, HK4⟩
        case measure => simp [intOf]; omega
      · obtain ⟨rfl, rfl⟩ : t = t1 ∧ r2 = e1 := by
          rcases hcase with ⟨h, _⟩ | ⟨_, h1, h2⟩
          · exact absurd h he
          · exact ⟨h1, h2⟩
        have he1 : (r2 == 0) = false := beq_eq_false_iff_ne.mpr he
        have he2 : (r2 != 0) = true := bne_iff_ne.mpr he
        clear hcase he
        go_wp2_with (go_at_call 94; (with_reducible refine (IH.out X A' c' (wrap64 (d + 1)) acc b t r2 w0 _ HI'.out HL'.out ?c1 ?c2 hlen.out HF1.out).mono ?_); (case c1 => exact below_alloc HBr.out _); (case c2 => exact bld_alloc HIr.out _); rintro e w4 ⟨rfl, hI4, hb4, hk4⟩; have HI4 := Aside0.mk hI4; have HB4 := Aside0.mk hb4; have HK4 := Aside0.mk ((HKr.out.trans (KeepT.below (below_alloc (Below.refl wr.heap.size wr) _))).trans hk4); clear hI4 hb4 hk4)
        go_ret
        exact ⟨rfl, by rw [← HE.out]; exact HI4.out, HB4.out, HK4.out⟩
    · have hd' : l3.drop j = [] := List.drop_eq_nil_of_le (by omega)
      have e := HT.out
      rw [hd'] at e
      simp only [putL, Option.some.injEq, Prod.mk.injEq] at e
      obtain ⟨rfl, rfl⟩ := e
      obtain rfl : j = l3.length := by omega
      clear hlt HT hd'
      go_wp2
      go_ret
      exact ⟨rfl, by rw [← HE.out]; simpa using HIr.out, HBr.out, HKr.out⟩
/-- pack.put: what it puts behind what stands in the builder, and its error -/
theorem pack_put.calls (k : Nat) : ∀ (a0 a1 : Int) (a2 : ByteArray) (A3 : Option Addr) (c3 : Nat) (l3 : List S54) (d : Int) (bs : List UInt8) (b : Nat) (r1 : ByteArray) (r2 : Int) (w0 w : World), Kd.C k54 w0 A3 l3.length l3 → l3.length ≤ c3 →
    Below w0.heap.size w0 w → Lib.IsBuilder 176 5 w0.heap.size b (Lib.byteCells bs) w → bs.length + r1.size ≤ 140737488355328 → pack_put.f k a0 a1 a2 l3 d = some (r1, r2) →
    Calls Try.prog 94 #[.pointer (some ⟨b, 0, none⟩), .agg #[.int .i64 a0, .int .i64 a1, .string a2, .slice A3 l3.length c3], .int .i64 d] w fun e w' =>
      e = .returned (.int .i64 r2) ∧ Lib.IsBuilder 176 5 w0.heap.size b (Lib.byteCells (bs ++ r1.data.toList)) w' ∧ Below w0.heap.size w0 w' ∧ KeepT b w w' := by
  induction k with
  | zero => intro a0 a1 a2 A3 c3 l3 d bs b r1 r2 w0 w _ _ _ _ _ h; simp [pack_put.f] at h
  | succ k ih =>
    intro a0 a1 a2 A3 c3 l3 d bs b r1 r2 w0 w hr hc HB hI hlen h
    have z0 : (⟨#[]⟩ : ByteArray).data.toList = [] := rfl
    simp only [pack_put.f] at h
    by_cases h0 : a0 = 0
    · rw [if_pos h0] at h
      by_cases hn : -9223372036854775808 ≤ a1 ∧ a1 ≤ 9223372036854775807
      · rw [if_pos hn] at h
        simp only [Option.some.injEq, Prod.mk.injEq] at h
        obtain ⟨rfl, rfl⟩ := h
        subst h0
        exact put_int a1 a2 A3 l3.length c3 d bs b w0 w hn HB hI hlen
      · rw [if_neg hn] at h; cases h
    rw [if_neg h0] at h
    by_cases h1 : a0 = 1
    · rw [if_pos h1] at h
      subst h1
      by_cases h2 : (a2.size : Int) > 4096
      · rw [if_pos h2] at h
        simp only [Option.some.injEq, Prod.mk.injEq] at h
        obtain ⟨rfl, rfl⟩ := h
        rw [z0]
        exact put_text_long a1 a2 A3 l3.length c3 d bs b w0 w (by omega) HB hI
      · rw [if_neg h2] at h
        simp only [Option.some.injEq, Prod.mk.injEq] at h
        obtain ⟨rfl, rfl⟩ := h
        exact put_text a1 a2 A3 l3.length c3 d bs b w0 w (by omega) HB hI hlen
    rw [if_neg h1] at h
    by_cases h2 : a0 = 2
    · rw [if_pos h2] at h
      subst h2
      by_cases h3 : (l3.length : Int) > 256
      · rw [if_pos h3] at h
        simp only [Option.some.injEq, Prod.mk.injEq] at h
        obtain ⟨rfl, rfl⟩ := h
        rw [z0]
        exact put_list_long a1 a2 A3 l3.length c3 d bs b w0 w (by omega) HB hI
      rw [if_neg h3] at h
      by_cases h4 : d ≥ 8
      · rw [if_pos h4] at h
        simp only [Option.some.injEq, Prod.mk.injEq] at h
        obtain ⟨rfl, rfl⟩ := h
        rw [z0]
        exact put_list_deep a1 a2 A3 l3.length c3 d bs b w0 w (by omega) h4 HB hI
      rw [if_neg h4] at h
      obtain ⟨⟨u, r⟩, hu, hh⟩ := Option.bind_eq_some_iff.mp h
      simp only [Option.some.injEq, Prod.mk.injEq] at hh
      obtain ⟨rfl, rfl⟩ := hh
      exact put_list (fun x e => pack_put.f k x.f0 x.f1 x.f2 x.f3 e) (fun x A c e bs b r1 r2 w0 w g1 g2 g3 g4 g5 g6 => ih x.f0 x.f1 x.f2 A c x.f3 e bs b r1 r2 w0 w g1 g2 g3 g4 g5 g6) a1 a2 A3 c3 l3 d bs b u r w0 w hr hc (by omega) (by omega) HB hI hlen hu
    · rw [if_neg h2] at h
      simp only [Option.some.injEq, Prod.mk.injEq] at h
      obtain ⟨rfl, rfl⟩ := h
      rw [z0]
      exact put_other a1 a2 A3 l3.length c3 d bs b w0 w a0 h0 h1 h2 HB hI
end Go.Proofs.Ytjicfkmpgogppaa.Pk
namespace Go.Proofs.Ytjicfkmpgogppaa.Pk
set_option linter.unusedVariables false
set_option linter.unusedSimpArgs false
open Go Go.RowKit Go.Proofs.Ytjicfkmpgogppaa.Plain Go.Proofs.Ytjicfkmpgogppaa.WordsA Go.Proofs.Ytjicfkmpgogppaa.Bld Go.Proofs.Ytjicfkmpgogppaa.PA Go.Proofs.YtjicfkmpgogppaaW.PrintWords Go.Proofs.YtjicfkmpgogppaaW.PrintLast Go.Proofs.YtjicfkmpgogppaaW.PrintMore
set_option maxHeartbeats 4000000 in
set_option maxRecDepth 100000 in
/-- pack.Put: a value's bytes, or its error -/
theorem pack_Put.calls0 (k : Nat) (a0 a1 : Int) (a2 : ByteArray) (A3 : Option Addr) (c3 : Nat) (l3 : List S54) (r1 : ByteArray) (r2 : Int) (w : World) (hr : Kd.C k54 w A3 l3.length l3) (hc : l3.length ≤ c3)
    (hlen : r1.size ≤ 140737488355328) (h : pack_put.f k a0 a1 a2 l3 0 = some (r1, r2)) :
    Calls Try.prog 70 #[.agg #[.int .i64 a0, .int .i64 a1, .string a2, .slice A3 l3.length c3]] w fun e w' =>
      e = .returned (.tuple #[.string (if r2 = 0 then r1 else ⟨#[]⟩), .int .i64 r2]) ∧ Below w.heap.size w w' := by
  have HR := Aside0.mk hr
  have HC := Aside0.mk hc
  have HF := Aside0.mk h
  have HL : Hid (([] : List UInt8).length + r1.size ≤ 140737488355328) := Lib.hid (by simpa using hlen)
  clear hr hc h hlen
  have hu := Try.underlying54
  have hca := Aside0.mk (Kd.C_alloc HR.out (.cells #[.int .i64 a0, .int .i64 a1, .string a2, .slice A3 l3.length c3] 54))
  have hfb : Aside0 (Lib.IsBuilder 176 5 (w.alloc (.cells #[.int .i64 a0, .int .i64 a1, .string a2, .slice A3 l3.length c3] 54)).heap.size (w.heap.size + 1) [] ((w.alloc (.cells #[.int .i64 a0, .int .i64 a1, .string a2, .slice A3 l3.length c3] 54)).alloc (.cells #[.pointer none, .slice none 0 0] 176))) := by
    have key : ∀ n, n = (w.alloc (.cells #[.int .i64 a0, .int .i64 a1, .string a2, .slice A3 l3.length c3] 54)).heap.size → Lib.IsBuilder 176 5 (w.alloc (.cells #[.int .i64 a0, .int .i64 a1, .string a2, .slice A3 l3.length c3] 54)).heap.size n [] ((w.alloc (.cells #[.int .i64 a0, .int .i64 a1, .string a2, .slice A3 l3.length c3] 54)).alloc (.cells #[.pointer none, .slice none 0 0] 176)) := by
      rintro n rfl; exact Lib.fresh_isBuilder _ _ _
    exact ⟨key _ (by show _ = (w.heap.push _).size; exact Array.size_push _ |>.symm)⟩
  have hb0 := Aside0.mk (below_alloc (Below.refl w.heap.size w) (.cells #[.int .i64 a0, .int .i64 a1, .string a2, .slice A3 l3.length c3] 54))
  have hst : Aside0 (∀ (w1 w2 : World), Below (w.alloc (.cells #[.int .i64 a0, .int .i64 a1, .string a2, .slice A3 l3.length c3] 54)).heap.size (w.alloc (.cells #[.int .i64 a0, .int .i64 a1, .string a2, .slice A3 l3.length c3] 54)) w1 → Below (w.alloc (.cells #[.int .i64 a0, .int .i64 a1, .string a2, .slice A3 l3.length c3] 54)).heap.size w1 w2 → Below w.heap.size w w2) := ⟨fun w1 w2 h1 h2 => below_step' hb0.out (h1.trans h2)⟩
  by_cases h0 : r2 = 0
  · subst h0
    go_enter Try.func70, Try.ntmps70
    go_wp2_with (first
      | (go_at_call 94; go_loud (with_reducible refine (pack_put.calls k a0 a1 a2 A3 c3 l3 0 [] _ r1 0 (w.alloc (.cells #[.int .i64 a0, .int .i64 a1, .string a2, .slice A3 l3.length c3] 54)) _ hca.out HC.out ?c1 ?c2 HL.out HF.out).mono ?_); (case c1 => exact below_alloc (Below.refl _ _) _); (case c2 => exact hfb.out); rintro e w1 ⟨rfl, hI1, hb1, hk1⟩; have HI1 := Aside0.mk hI1; have HB1 := Aside0.mk hb1; clear hI1 hb1 hk1)
      | (go_at_call 95; (with_reducible refine (string_any _ _ _ _ HI1.out ?c1).mono ?_); (case c1 => exact HB1.out.size); rintro e w2 ⟨rfl, hb2⟩; have HB2 := Aside0.mk (hst.out _ _ HB1.out hb2); clear hb2))
    go_ret2
    exact ⟨by simp, HB2.out⟩
  · have e1 : (r2 == 0) = false := beq_eq_false_iff_ne.mpr h0
    have e2 : (r2 != 0) = true := bne_iff_ne.mpr h0
    have hi : (if r2 = 0 then r1 else (⟨#[]⟩ : ByteArray)) = ⟨#[]⟩ := if_neg h0
    rw [hi]
    clear hi h0
    go_enter Try.func70, Try.ntmps70
    go_wp2_with (go_at_call 94; (with_reducible refine (pack_put.calls k a0 a1 a2 A3 c3 l3 0 [] _ r1 r2 (w.alloc (.cells #[.int .i64 a0, .int .i64 a1, .string a2, .slice A3 l3.length c3] 54)) _ hca.out HC.out ?c1 ?c2 HL.out HF.out).mono ?_); (case c1 => exact below_alloc (Below.refl _ _) _); (case c2 => exact hfb.out); rintro e w1 ⟨rfl, hI1, hb1, hk1⟩; have HI1 := Aside0.mk hI1; have HB1 := Aside0.mk hb1; clear hI1 hb1 hk1)
    go_ret2
    exact ⟨rfl, hst.out _ _ HB1.out (Below.refl _ _)⟩
def pack_Put.f (k : Nat) (a0 a1 : Int) (a2 : ByteArray) (l3 : List S54) : Option (ByteArray × Int) :=
  (pack_put.f k a0 a1 a2 l3 0).bind fun t => if t.1.size ≤ 140737488355328 then some (if t.2 = 0 then t.1 else (⟨#[]⟩ : ByteArray), t.2) else none
theorem pack_Put.calls (k : Nat) (a0 a1 : Int) (a2 : ByteArray) (A3 : Option Addr) (c3 : Nat) (l3 : List S54) (r1 : ByteArray) (r2 : Int) (w : World) (hr : Kd.C k54 w A3 l3.length l3) (hc : l3.length ≤ c3)
    (h : pack_Put.f k a0 a1 a2 l3 = some (r1, r2)) :
    Calls Try.prog 70 #[.agg #[.int .i64 a0, .int .i64 a1, .string a2, .slice A3 l3.length c3]] w fun e w' =>
      e = .returned (.tuple #[.string r1, .int .i64 r2]) ∧ Below w.heap.size w w' := by
  obtain ⟨⟨t1, t2⟩, h1, h2⟩ := Option.bind_eq_some_iff.mp h
  dsimp only at h2
  by_cases c : t1.size ≤ 140737488355328
  · rw [if_pos c] at h2
    simp only [Option.some.injEq, Prod.mk.injEq] at h2
    obtain ⟨rfl, rfl⟩ := h2
    exact pack_Put.calls0 k a0 a1 a2 A3 c3 l3 t1 t2 w hr hc c h1
  · rw [if_neg c] at h2; cases h2
theorem putL_mono {f g : S54 → Int → Option (ByteArray × Int)} (h : ∀ x e, LeO (f x e) (g x e)) : ∀ l d, LeO (putL f l d) (putL g l d)
  | [], _ => LeO.refl _
  | x :: r, d => by
    unfold putL
    exact LeO.bind (h x d) (fun t => LeO.ite (LeO.bind (putL_mono h r d) (fun _ => LeO.refl _)) (LeO.refl _))
theorem pack_put.mono : ∀ k a0 a1 a2 l3 d, LeO (pack_put.f k a0 a1 a2 l3 d) (pack_put.f (k + 1) a0 a1 a2 l3 d)
  | 0, _, _, _, _, _ => LeO.none _
  | k + 1, a0, a1, a2, l3, d => by
    unfold pack_put.f
    refine LeO.ite (LeO.refl _) (LeO.ite (LeO.refl _) (LeO.ite (LeO.ite (LeO.refl _) (LeO.ite (LeO.refl _) (LeO.bind (putL_mono (fun x e => pack_put.mono k _ _ _ _ _) _ _) (fun _ => LeO.refl _)))) (LeO.refl _)))
theorem pack_Put.mono (k : Nat) (a0 a1 : Int) (a2 : ByteArray) (l3 : List S54) : LeO (pack_Put.f k a0 a1 a2 l3) (pack_Put.f (k + 1) a0 a1 a2 l3) := LeO.bind (pack_put.mono k a0 a1 a2 l3 0) (fun _ => LeO.refl _)
end Go.Proofs.Ytjicfkmpgogppaa.Pk
-- printed by a program of this session out of the translation; see NOTES.md
namespace Go.Proofs.Ytjicfkmpgogppaa.PA
open Go.RowKit Go.Proofs.YtjicfkmpgogppaaW.PrintWords Go.Proofs.YtjicfkmpgogppaaW.PrintLast Go.Proofs.YtjicfkmpgogppaaW.PrintMore
attribute [local go_sem] max2_int min2_int max_two min_two max_three min_three max_four min_four   -- for this text's walks alone
set_option linter.unusedVariables false
set_option linter.unusedSimpArgs false

/-! ### pack_Put: function 70 -/
def pack_Put.f (k : Nat) (a0_0 : Int) (a0_1 : Int) (a0_2 : ByteArray) (l0_3 : List (S54)) : Option (ByteArray × Int) := Pk.pack_Put.f k a0_0 a0_1 a0_2 l0_3
theorem pack_Put.mono : ∀ a0 a1 a2 a3 k, LeO (pack_Put.f k a0 a1 a2 a3) (pack_Put.f (k + 1) a0 a1 a2 a3) := fun a0 a1 a2 a3 k => Pk.pack_Put.mono k a0 a1 a2 a3
theorem pack_Put.calls (k : Nat) (a0_0 : Int) (a0_1 : Int) (a0_2 : ByteArray) (A0_3 : Option Addr) (c0_3 : Nat) (l0_3 : List (S54)) (r1 : ByteArray) (r2 : Int) (w : World) (hr0_3 : Kd.C k54 w A0_3 l0_3.length l0_3) (hc0_3 : l0_3.length ≤ c0_3) (h : pack_Put.f k a0_0 a0_1 a0_2 l0_3 = some (r1, r2)) :
  Calls Try.prog 70 #[.agg #[.int .i64 a0_0, .int .i64 a0_1, .string a0_2, .slice A0_3 l0_3.length c0_3]] w fun e w' => e = .returned (.tuple #[.string r1, .int .i64 r2]) ∧ Below w.heap.size w w' := Pk.pack_Put.calls k a0_0 a0_1 a0_2 A0_3 c0_3 l0_3 r1 r2 w hr0_3 hc0_3 h

end Go.Proofs.Ytjicfkmpgogppaa.PA
