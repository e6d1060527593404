/-
  A workflow as plain data, as the program's and as the document's: the laws' flows.
-/
import Derived.Test.YtjicfkmpgogppaaH0
import Derived.Tactics
import Derived.LoopTactic
import Derived.Outline
import Derived.WalkSmall
import Derived.Deep.CutRange
import Derived.Deep.RegionHeld3
namespace Go.Proofs.Ytjicfkmpgogppaa.Fw
set_option linter.unusedVariables false
set_option linter.unusedSimpArgs false
open Go Go.RowKit Go.Proofs.Ytjicfkmpgogppaa.Plain Go.Proofs.Ytjicfkmpgogppaa.PA Go.Proofs.YtjicfkmpgogppaaW.PrintWords Go.Proofs.YtjicfkmpgogppaaW.PrintLast Go.Proofs.YtjicfkmpgogppaaW.PrintMore
abbrev T := S121
abbrev A_ := S48
abbrev B_ := S125
def toA (x : T) : A_ := ⟨x.f0, x.f1.take 20, x.f2, x.f3, x.f4, x.f5⟩
def toB (x : T) : B_ := ⟨x.f0, x.f1.take 20, x.f2, x.f3, x.f4, x.f5⟩
theorem al_size (w : World) (o : Obj) : (w.alloc o).heap.size = w.heap.size + 1 := by show (w.heap.push _).size = _; exact Array.size_push _
theorem set_heap (W : World) (p : Addr) (u : Value) (k : Nat) (h : k ≠ p.block) : (W.setCell p u).heap[k]? = W.heap[k]? := Below.heap_setCell W p u k h
abbrev set2 (w : World) (b : Nat) (x y : Value) : World := (w.setCell ⟨b, 0, none⟩ x).setCell ⟨b, 1, none⟩ y
theorem set2_v {w : World} {b : Nat} {t : TypeId} {y0 y1 : Value} (h : w.heap[b]? = some (.cells #[y0, y1] t (0, 0))) (x y : Value) : (set2 w b x y).heap[b]? = some (.cells #[x, y] t (0, 0)) := blk_put (blk_put h 0 x rfl) 1 y rfl
theorem set2_o {w : World} {b k : Nat} (h : k ≠ b) (x y : Value) : (set2 w b x y).heap[k]? = w.heap[k]? := by rw [set2, set_heap _ _ _ _ h, set_heap _ _ _ _ h]
theorem set2_below {B b : Nat} {u w : World} (h : Below B u w) (hb : B ≤ b) (x y : Value) : Below B u (set2 w b x y) := (h.setCell (p := ⟨b, 0, none⟩) hb x).setCell (p := ⟨b, 1, none⟩) hb y
abbrev ZA : Obj := (.cells #[.string ⟨#[]⟩, .slice none 0 0] 27)
abbrev ZB : Obj := (.cells #[.string ⟨#[]⟩, .slice none 0 0] 30)
attribute [local go_sem] max2_int min2_int max_two min_two max_three min_three max_four min_four
structure OK (w : World) (ba bb k : Nat) : Prop where
  x : k ≠ w.heap.size
  r : k ≠ w.heap.size + 1
  s : k ≠ w.heap.size + 1 + 1
  a : k ≠ ba
  b_ : k ≠ bb
  g : w.heap.size ≤ k
structure Fr (w wr : World) (ba bb : Nat) (nm : ByteArray) (A : Option Addr) (c n : Nat) (La Lb : Value) : Prop where
  hx : wr.heap[w.heap.size]? = some (.cells #[.string nm, .slice A n c] 102 (0, 0))
  hr : wr.heap[w.heap.size + 1]? = some (.cells #[.string ⟨#[]⟩, .slice none 0 0] 27 (0, 0))
  hs : wr.heap[w.heap.size + 1 + 1]? = some (.cells #[.string ⟨#[]⟩, .slice none 0 0] 30 (0, 0))
  ha : wr.heap[ba]? = some (.cells #[.string nm, La] 27 (0, 0))
  hb : wr.heap[bb]? = some (.cells #[.string nm, Lb] 30 (0, 0))
  hB : Below w.heap.size w wr
  na : ba ≠ w.heap.size + 1
  nb : bb ≠ w.heap.size + 1 + 1
  ga : w.heap.size ≤ ba
  gb : w.heap.size ≤ bb
section
variable {w wr : World} {ba bb : Nat} {nm : ByteArray} {A : Option Addr} {c n : Nat} {La Lb : Value}
theorem Fr.grown (h : Fr w wr ba bb nm A c n La Lb) {w1 : World} {row : Option Nat} (hg : wr.grownBy w1 row) (hr : ∀ k, row = some k → OK w ba bb k) : Fr w w1 ba bb nm A c n La Lb := by
  have ne : ∀ b, (∀ k, OK w ba bb k → b ≠ k) → some b ≠ row := fun b hb e => hb b (hr b e.symm) rfl
  exact ⟨blk_grown h.hx hg (ne _ (fun k o => o.x.symm)), blk_grown h.hr hg (ne _ (fun k o => o.r.symm)), blk_grown h.hs hg (ne _ (fun k o => o.s.symm)), blk_grown h.ha hg (ne _ (fun k o => o.a.symm)), blk_grown h.hb hg (ne _ (fun k o => o.b_.symm)), h.hB.grown hg (below_size h.hB) (fun k e => (hr k e).g), h.na, h.nb, h.ga, h.gb⟩
theorem Fr.below (h : Fr w wr ba bb nm A c n La Lb) {w1 : World} (hb : Below wr.heap.size wr w1) : Fr w w1 ba bb nm A c n La Lb := h.grown (grown_of_below hb none) (fun k e => by cases e)
theorem Fr.ok (h : Fr w wr ba bb nm A c n La Lb) {k : Nat} (hk : wr.heap.size ≤ k) : OK w ba bb k :=
  ⟨by have := blk_lt h.hx; omega, by have := blk_lt h.hr; omega, by have := blk_lt h.hs; omega, by have := blk_lt h.ha; omega, by have := blk_lt h.hb; omega, by have := below_size h.hB; omega⟩
theorem Fr.setA (h : Fr w wr ba bb nm A c n La Lb) (u : Value) : Fr w (wr.setCell ⟨ba, 1, none⟩ u) ba bb nm A c n u Lb :=
  ⟨blk_far h.hx (blk_ne h.hx h.ha (by decide)) _, blk_far h.hr h.na.symm _, blk_far h.hs (blk_ne h.hs h.ha (by decide)) _, blk_put h.ha 1 _ rfl, blk_far h.hb (blk_ne h.hb h.ha (by decide)) _, h.hB.setCell h.ga _, h.na, h.nb, h.ga, h.gb⟩
theorem Fr.setB (h : Fr w wr ba bb nm A c n La Lb) (u : Value) : Fr w (wr.setCell ⟨bb, 1, none⟩ u) ba bb nm A c n La u :=
  ⟨blk_far h.hx (blk_ne h.hx h.hb (by decide)) _, blk_far h.hr (blk_ne h.hr h.hb (by decide)) _, blk_far h.hs h.nb.symm _, blk_far h.ha (blk_ne h.ha h.hb (by decide)) _, blk_put h.hb 1 _ rfl, h.hB.setCell h.gb _, h.na, h.nb, h.ga, h.gb⟩
theorem Fr.setX (h : Fr w wr ba bb nm A c n La Lb) {bx j : Nat} {cs : Array Value} {u : Value} (hx : wr.heap[bx]? = some (.cells cs 121 (0, 0))) (hg : w.heap.size ≤ bx) : Fr w (wr.setCell ⟨bx, j, none⟩ u) ba bb nm A c n La Lb :=
  ⟨blk_far h.hx (blk_ne h.hx hx (by decide)) _, blk_far h.hr (blk_ne h.hr hx (by decide)) _, blk_far h.hs (blk_ne h.hs hx (by decide)) _, blk_far h.ha (blk_ne h.ha hx (by decide)) _, blk_far h.hb (blk_ne h.hb hx (by decide)) _, h.hB.setCell hg _, h.na, h.nb, h.ga, h.gb⟩
end
theorem below_from {B : Nat} {w W : World} (_h : Below B w W) : Below B W W := Below.refl _ _
theorem box6 {W : World} {g : Nat} {e : TypeId} {c0 c1 c2 c3 c4 c5 : Value} {α : Type} {y : α} (h : W.heap[g]? = some (.cells ([c0, c1, c2, c3, c4, c5] : List Value).toArray e (0, 0))) : ReadsRow (fun z d => z = y ∧ d = [c0, c1, c2, c3, c4, c5]) 6 W (some ⟨g, 0, none⟩) 1 [y] := by
  refine ⟨rfl, by decide, fun _ => ⟨⟨g, 0, none⟩, rfl, fun j p hj => ?_⟩⟩
  cases j with
  | zero =>
    simp only [List.getElem?_cons_zero, Option.some.injEq] at hj
    refine ⟨[c0, c1, c2, c3, c4, c5], rfl, ⟨hj.symm, rfl⟩, fun i u hi => ?_⟩
    have : (⟨g, 0, none⟩ : Addr).add (0 * 6 + i) = ⟨g, i, none⟩ := by rw [Nat.zero_mul, Nat.zero_add]; unfold Addr.add; split <;> simp_all
    rw [this, blk_cell h i]
    simpa using hi
  | succ j => simp at hj
theorem flow_results (tm : Array Value) (r s : Nat) (W : World) (x y : ByteArray) (u v : Value) {A B : Option Addr} {n m c d : Nat} (hu : u = .slice A n c) (hv : v = .slice B m d) (h2 : tm[2]? = some (.pointer (some ⟨r, 0, none⟩))) (h3 : tm[3]? = some (.pointer (some ⟨s, 0, none⟩)))
    (hr : W.heap[r]? = some (.cells #[.string x, u] 27 (0, 0))) (hs : W.heap[s]? = some (.cells #[.string y, v] 30 (0, 0))) :
    (results Try.f78 tm).run Try.prog W = .ok (.tuple #[.agg #[.string x, u], .agg #[.string y, v]]) W := by
  subst hu; subst hv
  have c0 : W.cell? ⟨r, 0, none⟩ = some (.string x) := (blk_cell hr 0).trans rfl
  have c1 : W.cell? ⟨r, 1, none⟩ = some (.slice A n c) := (blk_cell hr 1).trans rfl
  have d0 : W.cell? ⟨s, 0, none⟩ = some (.string y) := (blk_cell hs 0).trans rfl
  have d1 : W.cell? ⟨s, 1, none⟩ = some (.slice B m d) := (blk_cell hs 1).trans rfl
  have hu := Try.underlying27
  have hu2 := Try.underlying30
  simp [results, Try.results78, go_sem, h2, h3, c0, c1, d0, d1]
set_option maxHeartbeats 8000000 in
set_option maxRecDepth 100000 in
theorem flows_walk (nm : ByteArray) (l : List T) (A : Option Addr) (c : Nat) (w : World) (hl : Kd.C k121 w A l.length l) (hc : l.length ≤ c) :
    Calls Try.prog 78 #[.agg #[.string nm, .slice A l.length c]] w fun e w' => ∃ va vb : Value, e = .returned (.tuple #[.agg #[.string nm, va], .agg #[.string nm, vb]]) ∧ Kd.S k48 48 w' w.heap.size (fun _ => True) va ((l.take 20).map toA) ∧ Kd.S k125 125 w' w.heap.size (fun _ => True) vb ((l.take 20).map toB) ∧ Below w.heap.size w w' := by
  have hu0 := Try.underlying102
  have hu1 := Try.underlying27
  have hu2 := Try.underlying30
  have hu3 := Try.underlying121
  have HL := Aside0.mk hl
  have HC := Aside0.mk hc
  have hl63 : (l.length : Int) ≤ 9223372036854775807 := by have := hl.2.1; omega
  clear hl hc
  go_enter Try.func78, Try.ntmps78
  go_upto_region 1 with fail
  have hx := blk_alloc (blk_alloc (blk_new w (.cells #[.string nm, .slice A l.length c] 102)) ZA) ZB
  have ha := blk_alloc (blk_new (w.alloc (.cells #[.string nm, .slice A l.length c] 102)) ZA) ZB
  have hb := blk_new ((w.alloc (.cells #[.string nm, .slice A l.length c] 102)).alloc ZA) ZB
  rw [al_size] at ha hb
  rw [al_size] at hb
  have hB := below_alloc (below_alloc (below_alloc (Below.refl w.heap.size w) (.cells #[.string nm, .slice A l.length c] 102)) ZA) ZB
  generalize ((w.alloc (.cells #[.string nm, .slice A l.length c] 102)).alloc ZA).alloc ZB = w3 at hx ha hb hB ⊢
  have HX := Aside0.mk hx
  have HA := Aside0.mk ha
  have HB_ := Aside0.mk hb
  have HB := Aside0.mk hB
  clear hx ha hb hB
  go_cut [4, 5] from 8 to 13 (fun v4 v5 wc => ∃ ba bb : Nat, v4 = .pointer (some ⟨ba, 0, none⟩) ∧ v5 = .pointer (some ⟨bb, 0, none⟩) ∧ Aside0 (w3.heap.size ≤ ba) ∧ Aside0 (w3.heap.size ≤ bb) ∧ Aside0 (wc.heap[ba]? = some (.cells #[.string nm, .slice none 0 0] 27 (0, 0))) ∧ Aside0 (wc.heap[bb]? = some (.cells #[.string nm, .slice none 0 0] 30 (0, 0))) ∧ Aside0 (Below w3.heap.size w3 wc))
  case first =>
    have hHeldS : ∀ w' : World, w'.heap[w.heap.size]? = some (.cells #[.string nm, .slice A l.length c] 102 (0, 0)) → w'.cell? ⟨w.heap.size, 0, none⟩ = some (.string nm) := fun w' h => (blk_cell h 0).trans rfl
    refine start_ (n := 10) (ds := []) (S := fun w' => w'.cell? ⟨w.heap.size, 0, none⟩ = some (.string nm)) #[false, false, false, false, false, false, false, false, false, false] (by kernel_rfl) rfl rfl (hHeldS _ (blk_drew HX.out)) (fun hHeld => ?_)
    refine Rg.pu 0 (some 8) ?_
    refine Rg.tk 1 (some 9) hHeld ?_
    refine Rg.pu 2 (some 10) ?_
    refine Rg.pu 3 (some 11) ?_
    refine Rg.tk 4 (some 12) hHeld ?_
    refine Rg.pu 5 (some 13) ?_
    have hX4 : w3.drew.heap[w.heap.size]? = some (.cells #[.string nm, .slice A l.length c] 102 (0, 0)) := blk_drew HX.out
    have hb4 : Below w3.heap.size w3 w3.drew := below_drew (Below.refl _ _)
    have hz4 : w3.heap.size = w3.drew.heap.size := rfl
    generalize w3.drew = w5 at hHeld hX4 hb4 hz4 ⊢
    refine join_ (σ := Nat × Nat) 2 #[true, true, true, true, true, true, true, true, false, false] (fun s => [(4, .pointer (some ⟨s.1, 0, none⟩)), (5, .pointer (some ⟨s.2, 0, none⟩))]) (fun s w' => w3.heap.size ≤ s.1 ∧ w3.heap.size ≤ s.2 ∧ w'.heap[s.1]? = some (.cells #[.string ⟨#[]⟩, .slice none 0 0] 27 (0, 0)) ∧ w'.heap[s.2]? = some (.cells #[.string ⟨#[]⟩, .slice none 0 0] 30 (0, 0)) ∧ w'.heap[w.heap.size]? = some (.cells #[.string nm, .slice A l.length c] 102 (0, 0)) ∧ Below w3.heap.size w3 w') ?_ (fun hcont => ?_)
    · rintro ⟨bv, bw⟩ w6 ⟨gv, gw, hv, hw, hx, hb⟩
      dsimp only at gv gw hv hw hx hb
      have hne : bv ≠ bw := blk_ne hv hw (by decide)
      have hnx : w.heap.size ≠ bv := blk_ne hx hv (by decide)
      have hny : w.heap.size ≠ bw := blk_ne hx hw (by decide)
      have c0 : w6.cell? ⟨bv, 0, none⟩ = some (.string ⟨#[]⟩) := (blk_cell hv 0).trans rfl
      have p0 := blk_frozen hv 0
      have c1 : w6.cell? ⟨bv, 1, none⟩ = some (.slice none 0 0) := (blk_cell hv 1).trans rfl
      have p1 := blk_frozen hv 1
      refine norm_ (a' := ?_) ?_ ?_
      rotate_left
      · simp only [putAll, Act.put, List.setIfInBounds_toArray, List.set_cons_zero, List.set_cons_succ]
        rfl
      refine one_ (i := 8) (N := none) #[true, true, true, true, true, true, true, true, true, false] rfl rfl (by kernel_rfl) (by simp) (fun K hK => ?_)
      refine skip_ (w1 := set2 w6 bv (.string nm) (.slice none 0 0)) (by rfl) rfl ?_ ?_
      · first | (go_simp; done) | (go_simp; with_reducible rfl)
      have hv1 := set2_v hv (.string nm) (.slice none 0 0)
      have hw1 := (set2_o hne.symm (.string nm) (.slice none 0 0)).trans hw
      have hx1 := (set2_o hnx (.string nm) (.slice none 0 0)).trans hx
      have hb1 := set2_below hb gv (.string nm) (.slice none 0 0)
      generalize set2 w6 bv (.string nm) (.slice none 0 0) = w7 at hv1 hw1 hx1 hb1 ⊢
      refine hK.out _ _ (hHeldS _ hx1) (fun hHeld => ?_)
      clear hK K c0 c1 p0 p1
      have c0 : w7.cell? ⟨bw, 0, none⟩ = some (.string ⟨#[]⟩) := (blk_cell hw1 0).trans rfl
      have p0 := blk_frozen hw1 0
      have c1 : w7.cell? ⟨bw, 1, none⟩ = some (.slice none 0 0) := (blk_cell hw1 1).trans rfl
      have p1 := blk_frozen hw1 1
      refine one_ (i := 9) (N := none) #[true, true, true, true, true, true, true, true, true, true] rfl rfl (by kernel_rfl) (by simp) (fun K hK => ?_)
      refine skip_ (w1 := set2 w7 bw (.string nm) (.slice none 0 0)) (by rfl) rfl ?_ ?_
      · first | (go_simp; done) | (go_simp; with_reducible rfl)
      refine hK.out _ _ (hHeldS _ ((set2_o hny _ _).trans hx1)) (fun hHeld => ?_)
      refine done_ (by kernel_rfl) ?_
      (try go_wp2)
      go_meet
      case rel => exact ⟨bv, bw, rfl, rfl, ⟨gv⟩, ⟨gw⟩, ⟨(set2_o hne _ _).trans hv1⟩, ⟨set2_v hw1 _ _⟩, ⟨set2_below hb1 gw _ _⟩⟩
    refine two_ (i := 6) (j := 7) (Ni := some 4) (Nj := some 5) #[true, true, true, true, true, true, true, false, false, false] #[true, true, true, true, true, true, false, true, false, false] rfl rfl rfl rfl (by kernel_rfl) (by simp) (by simp) (fun K hK => ?_) (fun K hK => ?_)
    · refine value_ (w1 := w5.alloc ZA) (v := .pointer (some ⟨w5.heap.size, 0, none⟩)) (by rfl) rfl ?_ ?_
      · first | (go_simp; done) | (go_simp; with_reducible rfl)
      refine hK.out _ _ (hHeldS _ (blk_alloc hX4 _)) (fun hHeld => ?_)
      clear hK K
      refine norm_ (a' := ?_) ?_ ?_
      rotate_left
      · show Act.put _ (some 4) _ = _
        simp only [Act.put, List.setIfInBounds_toArray, List.set_cons_zero, List.set_cons_succ, i64_w, i32_w]
        rfl
      refine one_ (i := 7) (N := some 5) #[true, true, true, true, true, true, true, true, false, false] rfl rfl (by kernel_rfl) (by simp) (fun K hK => ?_)
      refine value_ (w1 := (w5.alloc ZA).alloc ZB) (v := .pointer (some ⟨(w5.alloc ZA).heap.size, 0, none⟩)) (by rfl) rfl ?_ ?_
      · first | (go_simp; done) | (go_simp; with_reducible rfl)
      refine hK.out _ _ (hHeldS _ (blk_alloc (blk_alloc hX4 _) _)) (fun hHeld => ?_)
      clear hK K
      have hc := hcont (w5.heap.size, (w5.alloc ZA).heap.size) ((w5.alloc ZA).alloc ZB) ⟨Nat.le_of_eq hz4, by rw [al_size, hz4]; omega, blk_alloc (blk_new w5 _) _, blk_new (w5.alloc _) _, blk_alloc (blk_alloc hX4 _) _, below_alloc (below_alloc hb4 _) _⟩
      simp only [putAll, Act.put, List.setIfInBounds_toArray, List.set_cons_zero, List.set_cons_succ] at hc
      refine norm_ (a' := ?_) ?_ ?_
      rotate_left
      · show Act.put _ (some 5) _ = _
        simp only [Act.put, List.setIfInBounds_toArray, List.set_cons_zero, List.set_cons_succ, i64_w, i32_w]
        rfl
      exact hc
    · refine value_ (w1 := w5.alloc ZB) (v := .pointer (some ⟨w5.heap.size, 0, none⟩)) (by rfl) rfl ?_ ?_
      · first | (go_simp; done) | (go_simp; with_reducible rfl)
      refine hK.out _ _ (hHeldS _ (blk_alloc hX4 _)) (fun hHeld => ?_)
      clear hK K
      refine norm_ (a' := ?_) ?_ ?_
      rotate_left
      · show Act.put _ (some 5) _ = _
        simp only [Act.put, List.setIfInBounds_toArray, List.set_cons_zero, List.set_cons_succ, i64_w, i32_w]
        rfl
      refine one_ (i := 6) (N := some 4) #[true, true, true, true, true, true, true, true, false, false] rfl rfl (by kernel_rfl) (by simp) (fun K hK => ?_)
      refine value_ (w1 := (w5.alloc ZB).alloc ZA) (v := .pointer (some ⟨(w5.alloc ZB).heap.size, 0, none⟩)) (by rfl) rfl ?_ ?_
      · first | (go_simp; done) | (go_simp; with_reducible rfl)
      refine hK.out _ _ (hHeldS _ (blk_alloc (blk_alloc hX4 _) _)) (fun hHeld => ?_)
      clear hK K
      have hc := hcont ((w5.alloc ZB).heap.size, w5.heap.size) ((w5.alloc ZB).alloc ZA) ⟨by rw [al_size, hz4]; omega, Nat.le_of_eq hz4, blk_new (w5.alloc _) _, blk_alloc (blk_new w5 _) _, blk_alloc (blk_alloc hX4 _) _, below_alloc (below_alloc hb4 _) _⟩
      simp only [putAll, Act.put, List.setIfInBounds_toArray, List.set_cons_zero, List.set_cons_succ] at hc
      refine norm_ (a' := ?_) ?_ ?_
      rotate_left
      · show Act.put _ (some 4) _ = _
        simp only [Act.put, List.setIfInBounds_toArray, List.set_cons_zero, List.set_cons_succ, i64_w, i32_w]
        rfl
      exact hc
  case rest =>
    obtain ⟨ba, bb, rfl, rfl, GA, GB, ha, hb, hB2⟩ := hcut
    have hz1 := blk_lt HX.out
    have hFR : Fr w wc ba bb nm A c l.length (.slice none 0 0) (.slice none 0 0) := ⟨blk_below HX.out hB2.out, blk_below HA.out hB2.out, blk_below HB_.out hB2.out, ha.out, hb.out, below_then HB.out (below_size HB.out) hB2.out, by have := blk_lt HA.out; have := GA.out; omega, by have := blk_lt HB_.out; have := GB.out; omega, by have := GA.out; omega, by have := GB.out; omega⟩
    have HFR := Aside0.mk hFR
    clear HX HA HB_ HB GA GB ha hb hB2 hFR hz1
    obtain ⟨L, hL⟩ : ∃ L, L = l.take 20 := ⟨_, rfl⟩
    have HCL : Aside0 (Kd.C k121 w A L.length L) := ⟨by rw [hL]; by_cases h20 : 20 ≤ l.length; exact Kd.C_take HL.out h20; rw [List.take_of_length_le (by omega)]; exact HL.out⟩
    have hLl : L.length = min 20 l.length := by rw [hL, List.length_take]
    have HLL := Aside0.mk hL
    have hn_ : (if (20 : Int) < (l.length : Int) then (20 : Int) else (l.length : Int)) = (L.length : Int) := by split <;> omega
    have hnl : L.length ≤ l.length := by omega
    have hn20 : L.length ≤ 20 := by omega
    have hnc : L.length ≤ c := Nat.le_trans hnl HC.out
    clear hL hLl
    have hx1 : wc.cell? ⟨w.heap.size, 1, none⟩ = some (.slice A l.length c) := (blk_cell HFR.out.hx 1).trans rfl
    go_upto_region 3 with fail
    go_loopw [22] (fun v22 wr => ∃ (acc rest : List T) (Aa Ab : Option Addr) (ca cb : Nat), v22 = .int .i64 (acc.length : Int) ∧ Aside0 (acc ++ rest = L) ∧ Aside0 (Fr w wr ba bb nm A c l.length (.slice Aa (acc.map toA).length ca) (.slice Ab (acc.map toB).length cb)) ∧ Aside0 (Kd.S k48 48 wr w.heap.size (OK w ba bb) (.slice Aa (acc.map toA).length ca) (acc.map toA)) ∧ Aside0 (Kd.S k125 125 wr w.heap.size (OK w ba bb) (.slice Ab (acc.map toB).length cb) (acc.map toB))) (fun v22 _ => L.length - (intOf v22).toNat)
    case atStart => exact ⟨[], L, none, none, 0, 0, rfl, ⟨rfl⟩, HFR, ⟨Kd.S_nil _ _ _ _ _⟩, ⟨Kd.S_nil _ _ _ _ _⟩⟩
    case round =>
      clear HFR hx1
      obtain ⟨acc, rest, Aa, Ab, ca, cb, rfl, HS, FR, HOA, HOB⟩ := hrel
      have hle : acc.length + rest.length = L.length := by rw [← HS.out, List.length_append]
      cases rest with
      | cons x rest' =>
        have hlt : acc.length < L.length := by simp only [List.length_cons] at hle; omega
        obtain ⟨ad, A3, c3, rfl, x0, x1, x2, x3, x4, x5, lx, gx⟩ := at_T121 HCL.out (acc.length : Int) (by omega) (by omega)
        have rx : rd_T121 L (acc.length : Int) = x := by
          unfold rd_T121
          rw [Int.toNat_natCast, ← HS.out, List.getD_eq_getElem?_getD, List.getElem?_append_right (Nat.le_refl _), Nat.sub_self]
          rfl
        rw [rx, Int.toNat_natCast] at x0 x1 x2 x3 x4 x5
        rw [rx] at lx gx
        replace x0 := (FR.out.hB.cell (World.block_lt_of_cell? w _ x0)).trans x0
        replace x1 := (FR.out.hB.cell (World.block_lt_of_cell? w _ x1)).trans x1
        replace x2 := (FR.out.hB.cell (World.block_lt_of_cell? w _ x2)).trans x2
        replace x3 := (FR.out.hB.cell (World.block_lt_of_cell? w _ x3)).trans x3
        replace x4 := (FR.out.hB.cell (World.block_lt_of_cell? w _ x4)).trans x4
        replace x5 := (FR.out.hB.cell (World.block_lt_of_cell? w _ x5)).trans x5
        have hli : (acc.length : Int) < (L.length : Int) := by omega
        have hi0 : (0 : Int) ≤ (acc.length : Int) := by omega
        go_upto_region 5 with fail
        have hb2 := below_alloc (Below.refl wr.heap.size wr) (.cells #[.string x.f0, .slice A3 x.f1.length c3, .int .i64 x.f2, .int .i64 x.f3, .int .i64 x.f4, .string x.f5] 121)
        have hxb := blk_new wr (.cells #[.string x.f0, .slice A3 x.f1.length c3, .int .i64 x.f2, .int .i64 x.f3, .int .i64 x.f4, .string x.f5] 121)
        have F2 := FR.out.below hb2
        have oa2 := Kd.S_alloc HOA.out (.cells #[.string x.f0, .slice A3 x.f1.length c3, .int .i64 x.f2, .int .i64 x.f3, .int .i64 x.f4, .string x.f5] 121)
        have ob2 := Kd.S_alloc HOB.out (.cells #[.string x.f0, .slice A3 x.f1.length c3, .int .i64 x.f2, .int .i64 x.f3, .int .i64 x.f4, .string x.f5] 121)
        have gx2 := Kd.C_below gx F2.hB
        have hbx := below_size FR.out.hB
        have nax : ∀ k, (Value.slice Aa (acc.map toA).length ca).ownBlock = some k → k < wr.heap.size := Kd.S_lt HOA.out
        have nbx : ∀ k, (Value.slice Ab (acc.map toB).length cb).ownBlock = some k → k < wr.heap.size := Kd.S_lt HOB.out
        generalize wr.alloc (.cells #[.string x.f0, .slice A3 x.f1.length c3, .int .i64 x.f2, .int .i64 x.f3, .int .i64 x.f4, .string x.f5] 121) = w2 at hb2 hxb F2 oa2 ob2 gx2 ⊢
        clear x0 x1 x2 x3 x4 x5 FR HOA HOB gx
        have HNX : Aside0 (some wr.heap.size ≠ (Value.slice Aa (acc.map toA).length ca).ownBlock ∧ some wr.heap.size ≠ (Value.slice Ab (acc.map toB).length cb).ownBlock) := ⟨fun e => by have := nax _ e.symm; omega, fun e => by have := nbx _ e.symm; omega⟩
        clear nax nbx hb2
        generalize wr.heap.size = bx at hxb hbx HNX ⊢
        obtain ⟨D, hD⟩ : ∃ D, D = x.f1.take 20 := ⟨_, rfl⟩
        have HD := Aside0.mk hD
        have gD : Kd.C Kd.string w2 A3 D.length D := by rw [hD]; by_cases h20 : 20 ≤ x.f1.length; exact Kd.C_take gx2 h20; rw [List.take_of_length_le (by omega)]; exact gx2
        have hDl : D.length = min 20 x.f1.length := by rw [hD, List.length_take]
        have hd_ : (if (20 : Int) < (x.f1.length : Int) then (20 : Int) else (x.f1.length : Int)) = (D.length : Int) := by split <;> omega
        have hd1 : D.length ≤ x.f1.length := by omega
        have hd20 : D.length ≤ 20 := by omega
        have hdc : D.length ≤ c3 := Nat.le_trans hd1 lx
        clear hD hDl gx2
        have q0 : w2.cell? ⟨bx, 1, none⟩ = some (.slice A3 x.f1.length c3) := (blk_cell hxb 1).trans rfl
        have HGD := Aside0.mk gD
        have HXB := Aside0.mk hxb
        have HF2 := Aside0.mk F2
        have HOA := Aside0.mk oa2
        have HOB := Aside0.mk ob2
        clear gD hxb F2 oa2 ob2
        go_upto_region 6 with (first | ((with_reducible refine gate_builtin (b := .append) (xs := #[.const (.slice none 0 0), .tmp 32]) rfl ?_); at_builtin; refine Kd.R_append_rows Kd.string (w0 := w) w.heap.size rfl (.const (.slice none 0 0)) (.tmp 32) 46 9 (.string ⟨#[]⟩) 16 rfl Try.underlying46 info9 rfl (by decide) (by omega) (.slice none 0 0) [] D A3 D.length _ (fun k => OK w ba bb k ∧ w2.heap.size ≤ k) (fun _ => False) rfl rfl (Kd.R_nil _ _ _ _ _) HGD.out (fun _ _ h => h) (fun _ h => h.elim) (fun k hk => ⟨HF2.out.ok hk, hk⟩) HF2.out.hB (below_size HF2.out.hB) (by simp; omega) ?_; intro v1 w4 hv hB4 hg4 hat4; rw [List.nil_append] at hv; obtain ⟨Ad, cd, rfl⟩ := Kd.R_slice hv; have hx4 := blk_grown HXB.out hg4 (by simp [Value.ownBlock]); have q1 : w4.cell? ⟨bx, 1, none⟩ = some (.slice A3 x.f1.length c3) := (blk_cell hx4 1).trans rfl; have q2 := blk_frozen hx4 1))
        have F4 := HF2.out.grown hg4 (fun k e => by simp [Value.ownBlock] at e)
        have HLA := Aside0.mk (show ∀ k, (Value.slice Aa (acc.map toA).length ca).ownBlock = some k → k < w2.heap.size from Kd.S_lt HOA.out)
        have HLB := Aside0.mk (show ∀ k, (Value.slice Ab (acc.map toB).length cb).ownBlock = some k → k < w2.heap.size from Kd.S_lt HOB.out)
        obtain ⟨fA, hfA, oa0⟩ := Kd.S_tag (Kd.S_bound HOA.out) acc.length (fun k => w2.heap.size ≤ k) (fun k hk h => absurd h.2.2.1 (Nat.not_lt.mpr hk))
        have oa := Kd.R_set (Kd.R_grown (Kd.R_mono oa0 (fun k hk => hk.1)) hg4 (fun k _ e => by simp [Value.ownBlock] at e)) hx4 (show ∀ q, q ∈ [48, 9] → q ≠ 121 from by decide) 1 (.slice Ad D.length cd)
        clear oa0
        have HFA := Aside0.mk hfA
        clear hfA
        obtain ⟨fB, hfB, ob0⟩ := Kd.S_tag (Kd.S_bound HOB.out) acc.length (fun k => w2.heap.size ≤ k) (fun k hk h => absurd h.2.2.1 (Nat.not_lt.mpr hk))
        have ob := Kd.R_set (Kd.R_grown (Kd.R_mono ob0 (fun k hk => hk.1)) hg4 (fun k _ e => by simp [Value.ownBlock] at e)) hx4 (show ∀ q, q ∈ [125, 9] → q ≠ 121 from by decide) 1 (.slice Ad D.length cd)
        clear ob0
        have HFB := Aside0.mk hfB
        clear hfB
        have nd := Kd.R_set hv hx4 (by decide) 1 (.slice Ad D.length cd)
        have F := F4.setX (u := .slice Ad D.length cd) (bx := bx) (j := 1) hx4 hbx
        have hx : (w4.setCell ⟨bx, 1, none⟩ (.slice Ad D.length cd)).heap[bx]? = some (.cells ([.string x.f0, .slice Ad D.length cd, .int .i64 x.f2, .int .i64 x.f3, .int .i64 x.f4, .string x.f5] : List Value).toArray 121 (0, 0)) := blk_put hx4 1 _ rfl
        clear hv hB4 hg4 hat4 hx4 q0 q1 q2 F4 HF2 HOA HOB HXB HGD hd_ hd1 hdc
        generalize w4.setCell ⟨bx, 1, none⟩ (.slice Ad D.length cd) = w6 at oa ob nd F hx ⊢
        have hHeldS : ∀ w' : World, Fr w w' ba bb nm (some ad) c l.length (.slice Aa (acc.map toA).length ca) (.slice Ab (acc.map toB).length cb) → w'.heap[bx]? = some (.cells ([.string x.f0, .slice Ad D.length cd, .int .i64 x.f2, .int .i64 x.f3, .int .i64 x.f4, .string x.f5] : List Value).toArray 121 (0, 0)) → (w'.cell? ⟨ba, 1, none⟩ = some (.slice Aa (acc.map toA).length ca) ∧ w'.cell? ⟨bx, 0, none⟩ = some (.string x.f0) ∧ w'.cell? ⟨bx, 1, none⟩ = some (.slice Ad D.length cd) ∧ w'.cell? ⟨bx, 2, none⟩ = some (.int .i64 x.f2) ∧ w'.cell? ⟨bx, 3, none⟩ = some (.int .i64 x.f3) ∧ w'.cell? ⟨bx, 4, none⟩ = some (.int .i64 x.f4) ∧ w'.cell? ⟨bx, 5, none⟩ = some (.string x.f5) ∧ w'.cell? ⟨bb, 1, none⟩ = some (.slice Ab (acc.map toB).length cb)) := fun w' f hx => ⟨(blk_cell f.ha 1).trans rfl, (blk_cell hx 0).trans rfl, (blk_cell hx 1).trans rfl, (blk_cell hx 2).trans rfl, (blk_cell hx 3).trans rfl, (blk_cell hx 4).trans rfl, (blk_cell hx 5).trans rfl, (blk_cell f.hb 1).trans rfl⟩
        replace F := F.below (below_drew (Below.refl _ _))
        replace hx := blk_drew hx
        replace oa := Kd.R_drew oa
        replace ob := Kd.R_drew ob
        replace nd := Kd.R_drew nd
        refine start_ (n := 14) (ds := [11, 13]) (S := fun w' => w'.cell? ⟨ba, 1, none⟩ = some (.slice Aa (acc.map toA).length ca) ∧ w'.cell? ⟨bx, 0, none⟩ = some (.string x.f0) ∧ w'.cell? ⟨bx, 1, none⟩ = some (.slice Ad D.length cd) ∧ w'.cell? ⟨bx, 2, none⟩ = some (.int .i64 x.f2) ∧ w'.cell? ⟨bx, 3, none⟩ = some (.int .i64 x.f3) ∧ w'.cell? ⟨bx, 4, none⟩ = some (.int .i64 x.f4) ∧ w'.cell? ⟨bx, 5, none⟩ = some (.string x.f5) ∧ w'.cell? ⟨bb, 1, none⟩ = some (.slice Ab (acc.map toB).length cb)) #[false, false, false, false, false, false, false, false, false, false, false, false, false, false] (by kernel_rfl) rfl rfl (hHeldS _ F hx) (fun hHeld => ?_)
        generalize w6.drew = w7 at hHeld F hx oa ob nd ⊢
        refine Rg.pu 0 (some 35) ?_
        refine Rg.tk 1 (some 36) hHeld ?_
        refine Rg.tk 2 (some 37) hHeld ?_
        refine Rg.pu 5 (some 40) ?_
        refine Rg.tk 6 (some 41) hHeld ?_
        refine Rg.tk 7 (some 42) hHeld ?_
        refine join_ (σ := Nat × Nat × Value × Value) 3 #[true, true, true, true, true, true, true, true, true, true, true, false, false, false] (fun s => [(38, .slice (some ⟨s.1, 0, none⟩) 1 1), (43, .slice (some ⟨s.2.1, 0, none⟩) 1 1), (39, s.2.2.1), (44, s.2.2.2), (45, .pointer (some ⟨ba, 1, none⟩))]) (fun s w' => (∃ (A1 : Option Addr) (c1 : Nat), s.2.2.1 = .slice A1 ((acc.map toA).zipIdx ++ [((⟨x.f0, D, x.f2, x.f3, x.f4, x.f5⟩ : A_), acc.length)]).length c1) ∧ (∃ (A1 : Option Addr) (c1 : Nat), s.2.2.2 = .slice A1 ((acc.map toB).zipIdx ++ [((⟨x.f0, D, x.f2, x.f3, x.f4, x.f5⟩ : B_), acc.length)]).length c1) ∧ Fr w w' ba bb nm (some ad) c l.length (.slice Aa (acc.map toA).length ca) (.slice Ab (acc.map toB).length cb) ∧ Kd.R (Kd.tag fA k48) 48 w' w.heap.size (OK w ba bb) s.2.2.1 ((acc.map toA).zipIdx ++ [((⟨x.f0, D, x.f2, x.f3, x.f4, x.f5⟩ : A_), acc.length)]) ∧ Kd.R (Kd.tag fB k125) 125 w' w.heap.size (OK w ba bb) s.2.2.2 ((acc.map toB).zipIdx ++ [((⟨x.f0, D, x.f2, x.f3, x.f4, x.f5⟩ : B_), acc.length)])) ?_ (fun hcont => ?_)
        · rintro ⟨g1, g2, v1, v2⟩ w8 ⟨⟨A1, c1, e1⟩, ⟨A2, c2, e2⟩, F8, ov8, ow8⟩
          dsimp only at e1 e2 ov8 ow8
          subst e1; subst e2
          clear hHeld hx oa ob nd F
          refine norm_ (a' := ?_) ?_ ?_
          rotate_left
          · simp only [putAll, Act.put, List.setIfInBounds_toArray, List.set_cons_zero, List.set_cons_succ]
            rfl
          have q0 : w8.cell? ⟨ba, 1, none⟩ = some (.slice Aa (acc.map toA).length ca) := (blk_cell F8.ha 1).trans rfl
          have q1 := blk_frozen F8.ha 1
          refine last_ (i := 11) (N := none) #[true, true, true, true, true, true, true, true, true, true, true, true, false, false] rfl rfl (by kernel_rfl) (by simp) (fun K hK => ?_)
          refine skip_ (w1 := w8.setCell ⟨ba, 1, none⟩ (.slice A1 ((acc.map toA).zipIdx ++ [((⟨x.f0, D, x.f2, x.f3, x.f4, x.f5⟩ : A_), acc.length)]).length c1)) (by rfl) rfl ?_ ?_
          · first | (go_simp; done) | (go_simp; with_reducible rfl)
          have F9 := F8.setA (.slice A1 ((acc.map toA).zipIdx ++ [((⟨x.f0, D, x.f2, x.f3, x.f4, x.f5⟩ : A_), acc.length)]).length c1)
          have ov9 := Kd.R_far ov8 (p := ⟨ba, 1, none⟩) (fun k o => o.a) (.slice A1 ((acc.map toA).zipIdx ++ [((⟨x.f0, D, x.f2, x.f3, x.f4, x.f5⟩ : A_), acc.length)]).length c1)
          have ow9 := Kd.R_far ow8 (p := ⟨ba, 1, none⟩) (fun k o => o.a) (.slice A1 ((acc.map toA).zipIdx ++ [((⟨x.f0, D, x.f2, x.f3, x.f4, x.f5⟩ : A_), acc.length)]).length c1)
          generalize w8.setCell ⟨ba, 1, none⟩ (.slice A1 ((acc.map toA).zipIdx ++ [((⟨x.f0, D, x.f2, x.f3, x.f4, x.f5⟩ : A_), acc.length)]).length c1) = w9 at F9 ov9 ow9 ⊢
          refine hK.out _ _ ?_
          clear hK K q0 q1
          refine Rg.pu 12 (some 46) ?_
          have q0 : w9.cell? ⟨bb, 1, none⟩ = some (.slice Ab (acc.map toB).length cb) := (blk_cell F9.hb 1).trans rfl
          have q1 := blk_frozen F9.hb 1
          refine last_ (i := 13) (N := none) #[true, true, true, true, true, true, true, true, true, true, true, true, true, true] rfl rfl (by kernel_rfl) (by simp) (fun K hK => ?_)
          refine skip_ (w1 := w9.setCell ⟨bb, 1, none⟩ (.slice A2 ((acc.map toB).zipIdx ++ [((⟨x.f0, D, x.f2, x.f3, x.f4, x.f5⟩ : B_), acc.length)]).length c2)) (by rfl) rfl ?_ ?_
          · first | (go_simp; done) | (go_simp; with_reducible rfl)
          have F10 := F9.setB (.slice A2 ((acc.map toB).zipIdx ++ [((⟨x.f0, D, x.f2, x.f3, x.f4, x.f5⟩ : B_), acc.length)]).length c2)
          have ov10 := Kd.R_far ov9 (p := ⟨bb, 1, none⟩) (fun k o => o.b_) (.slice A2 ((acc.map toB).zipIdx ++ [((⟨x.f0, D, x.f2, x.f3, x.f4, x.f5⟩ : B_), acc.length)]).length c2)
          have ow10 := Kd.R_far ow9 (p := ⟨bb, 1, none⟩) (fun k o => o.b_) (.slice A2 ((acc.map toB).zipIdx ++ [((⟨x.f0, D, x.f2, x.f3, x.f4, x.f5⟩ : B_), acc.length)]).length c2)
          refine hK.out _ _ ?_
          clear hK K q0 q1
          refine done_ (by kernel_rfl) ?_
          have eA : ((acc.map toA).zipIdx ++ [((⟨x.f0, D, x.f2, x.f3, x.f4, x.f5⟩ : A_), acc.length)]) = ((acc ++ [x]).map toA).zipIdx := by rw [List.map_append, List.zipIdx_append, HD.out]; simp; rfl
          have eB : ((acc.map toB).zipIdx ++ [((⟨x.f0, D, x.f2, x.f3, x.f4, x.f5⟩ : B_), acc.length)]) = ((acc ++ [x]).map toB).zipIdx := by rw [List.map_append, List.zipIdx_append, HD.out]; simp; rfl
          have hwi : wrap64 ((acc.length : Int) + 1) = ((acc ++ [x]).length : Int) := by rw [Go.Proofs.Ytjicfkmpgogppaa.Plain.w64 (by omega) (by omega), List.length_append]; rfl
          rw [eA, eB] at F10
          rw [eA, eB] at ov10
          rw [eB] at ow10
          rw [eB]
          rw [List.length_zipIdx, List.length_zipIdx] at F10
          rw [List.length_zipIdx, List.length_zipIdx] at ov10
          rw [List.length_zipIdx] at ow10
          rw [List.length_zipIdx]
          generalize (w9.setCell ⟨bb, 1, none⟩ (.slice A2 ((acc ++ [x]).map toB).length c2)) = w10 at F10 ov10 ow10 ⊢
          clear F8 F9 ov8 ov9 ow8 ow9 eA eB
          (try go_wp2)
          go_roundw
          case rel => exact ⟨acc ++ [x], rest', A1, A2, c1, c2, (by first | (simp; done) | (rw [← hwi]; rfl) | (rw [← hwi]) | (simp [← hwi])), ⟨by rw [List.append_assoc]; exact HS.out⟩, ⟨F10⟩, ⟨⟨fA, ov10⟩⟩, ⟨⟨fB, ow10⟩⟩⟩
          case measure => simp [intOf]; omega
        refine two_ (i := 3) (j := 8) (Ni := some 38) (Nj := some 43) #[true, true, true, true, false, true, true, true, false, false, false, false, false, false] #[true, true, true, false, false, true, true, true, true, false, false, false, false, false] rfl rfl rfl rfl (by kernel_rfl) (by simp) (by simp) (fun K hK => ?_) (fun K hK => ?_)
        · skip
          refine value_ (w1 := w7.alloc (.cells #[.string x.f0, .slice Ad D.length cd, .int .i64 x.f2, .int .i64 x.f3, .int .i64 x.f4, .string x.f5] 48)) (v := .slice (some ⟨w7.heap.size, 0, none⟩) 1 1) (by rfl) rfl ?_ ?_
          · first | (go_simp; done) | (go_simp; with_reducible rfl)
          have hboxV : (w7.alloc (.cells #[.string x.f0, .slice Ad D.length cd, .int .i64 x.f2, .int .i64 x.f3, .int .i64 x.f4, .string x.f5] 48)).heap[w7.heap.size]? = some (.cells ([.string x.f0, .slice Ad D.length cd, .int .i64 x.f2, .int .i64 x.f3, .int .i64 x.f4, .string x.f5] : List Value).toArray 48 (0, 0)) := blk_new w7 _
          replace F := F.below (below_alloc (Below.refl _ _) (.cells #[.string x.f0, .slice Ad D.length cd, .int .i64 x.f2, .int .i64 x.f3, .int .i64 x.f4, .string x.f5] 48))
          replace hx := blk_alloc hx (.cells #[.string x.f0, .slice Ad D.length cd, .int .i64 x.f2, .int .i64 x.f3, .int .i64 x.f4, .string x.f5] 48)
          replace oa := Kd.R_alloc oa (.cells #[.string x.f0, .slice Ad D.length cd, .int .i64 x.f2, .int .i64 x.f3, .int .i64 x.f4, .string x.f5] 48)
          replace ob := Kd.R_alloc ob (.cells #[.string x.f0, .slice Ad D.length cd, .int .i64 x.f2, .int .i64 x.f3, .int .i64 x.f4, .string x.f5] 48)
          replace nd := Kd.R_alloc nd (.cells #[.string x.f0, .slice Ad D.length cd, .int .i64 x.f2, .int .i64 x.f3, .int .i64 x.f4, .string x.f5] 48)
          generalize hgV : w7.heap.size = gV at hboxV ⊢
          generalize w7.alloc (.cells #[.string x.f0, .slice Ad D.length cd, .int .i64 x.f2, .int .i64 x.f3, .int .i64 x.f4, .string x.f5] 48) = u11 at F hx oa ob nd hboxV ⊢
          clear hgV
          refine hK.out _ _ (hHeldS _ F hx) (fun hHeld => ?_)
          clear hK K
          refine norm_ (a' := ?_) ?_ ?_
          rotate_left
          · show Act.put _ (some 38) _ = _
            simp only [Act.put, List.setIfInBounds_toArray, List.set_cons_zero, List.set_cons_succ, i64_w, i32_w]
            rfl
          refine two_ (i := 4) (j := 8) (Ni := some 39) (Nj := some 43) #[true, true, true, true, true, true, true, true, false, false, false, false, false, false] #[true, true, true, true, false, true, true, true, true, false, false, false, false, false] rfl rfl rfl rfl (by kernel_rfl) (by simp) (by simp) (fun K hK => ?_) (fun K hK => ?_)
          · skip
            refine Kd.R_append_rows_step (Kd.tag fA k48) (Rr := fun z d => z = (((⟨x.f0, D, x.f2, x.f3, x.f4, x.f5⟩ : A_), acc.length) : A_ × Nat) ∧ d = [.string x.f0, .slice Ad D.length cd, .int .i64 x.f2, .int .i64 x.f3, .int .i64 x.f4, .string x.f5]) (w0 := u11) w.heap.size (by rfl) (.tmp 36) (.tmp 38) 25 48 (.agg #[(.string ⟨#[]⟩), (.slice none 0 0), (.int .i64 0), (.int .i64 0), (.int .i64 0), (.string ⟨#[]⟩)]) 80 rfl Try.underlying25 info48 rfl (show 0 < 6 by decide) (by decide) (.slice Aa (acc.map toA).length ca) (acc.map toA).zipIdx [(((⟨x.f0, D, x.f2, x.f3, x.f4, x.f5⟩ : A_), acc.length) : A_ × Nat)] (some ⟨gV, 0, none⟩) 1 1 (OK w ba bb) (fun k => OK w ba bb k ∧ w2.heap.size ≤ k) (by rw [List.length_map]; rfl) rfl oa (box6 hboxV) ?_ (fun k hk => ⟨hk.1, fun e => by have := HLA.out k e.symm; have := hk.2; omega⟩) (fun k hk => F.ok hk) (below_from F.hB) (below_size F.hB) (by simp only [List.length_zipIdx, List.length_map]; omega) ?_
            · rintro z d ⟨rfl, rfl⟩; exact k48_mkM _ _ _ (⟨x.f0, D, x.f2, x.f3, x.f4, x.f5⟩ : A_) (Kd.R_mono nd (fun k hk => ⟨hk, HFA.out k hk.2⟩))
            intro vV u12 ho_ hbl_ hgr_ hat_
            have hrow : ∀ k, (Value.slice Aa (acc.map toA).length ca).ownBlock = some k → OK w ba bb k := fun k e => oa.1 k e
            replace F := F.grown hgr_ hrow
            replace hx := blk_grown hx hgr_ (HNX.out.1)
            replace nd := Kd.R_over nd oa (show ∀ q, q ∈ [9] → q ≠ 48 from by decide) hgr_
            replace ob := Kd.R_over ob oa (show ∀ q, q ∈ [125, 9] → q ≠ 48 from by decide) hgr_
            replace oa := ho_
            clear ho_ hbl_ hgr_ hat_ hrow hboxV
            refine hK.out _ _ (hHeldS _ F hx) (fun hHeld => ?_)
            clear hK K
            refine norm_ (a' := ?_) ?_ ?_
            rotate_left
            · show Act.put _ (some 39) _ = _
              simp only [Act.put, List.setIfInBounds_toArray, List.set_cons_zero, List.set_cons_succ, i64_w, i32_w]
              rfl
            refine Rg.pu 10 (some 45) ?_
            refine one_ (i := 8) (N := some 43) #[true, true, true, true, true, true, true, true, true, false, true, false, false, false] rfl rfl (by kernel_rfl) (by simp) (fun K hK => ?_)
            refine value_ (w1 := u12.alloc (.cells #[.string x.f0, .slice Ad D.length cd, .int .i64 x.f2, .int .i64 x.f3, .int .i64 x.f4, .string x.f5] 125)) (v := .slice (some ⟨u12.heap.size, 0, none⟩) 1 1) (by rfl) rfl ?_ ?_
            · first | (go_simp; done) | (go_simp; with_reducible rfl)
            have hboxW : (u12.alloc (.cells #[.string x.f0, .slice Ad D.length cd, .int .i64 x.f2, .int .i64 x.f3, .int .i64 x.f4, .string x.f5] 125)).heap[u12.heap.size]? = some (.cells ([.string x.f0, .slice Ad D.length cd, .int .i64 x.f2, .int .i64 x.f3, .int .i64 x.f4, .string x.f5] : List Value).toArray 125 (0, 0)) := blk_new u12 _
            replace F := F.below (below_alloc (Below.refl _ _) (.cells #[.string x.f0, .slice Ad D.length cd, .int .i64 x.f2, .int .i64 x.f3, .int .i64 x.f4, .string x.f5] 125))
            replace hx := blk_alloc hx (.cells #[.string x.f0, .slice Ad D.length cd, .int .i64 x.f2, .int .i64 x.f3, .int .i64 x.f4, .string x.f5] 125)
            replace oa := Kd.R_alloc oa (.cells #[.string x.f0, .slice Ad D.length cd, .int .i64 x.f2, .int .i64 x.f3, .int .i64 x.f4, .string x.f5] 125)
            replace ob := Kd.R_alloc ob (.cells #[.string x.f0, .slice Ad D.length cd, .int .i64 x.f2, .int .i64 x.f3, .int .i64 x.f4, .string x.f5] 125)
            replace nd := Kd.R_alloc nd (.cells #[.string x.f0, .slice Ad D.length cd, .int .i64 x.f2, .int .i64 x.f3, .int .i64 x.f4, .string x.f5] 125)
            generalize hgW : u12.heap.size = gW at hboxW ⊢
            generalize u12.alloc (.cells #[.string x.f0, .slice Ad D.length cd, .int .i64 x.f2, .int .i64 x.f3, .int .i64 x.f4, .string x.f5] 125) = u13 at F hx oa ob nd hboxW ⊢
            clear hgW
            refine hK.out _ _ (hHeldS _ F hx) (fun hHeld => ?_)
            clear hK K
            refine norm_ (a' := ?_) ?_ ?_
            rotate_left
            · show Act.put _ (some 43) _ = _
              simp only [Act.put, List.setIfInBounds_toArray, List.set_cons_zero, List.set_cons_succ, i64_w, i32_w]
              rfl
            refine one_ (i := 9) (N := some 44) #[true, true, true, true, true, true, true, true, true, true, true, false, false, false] rfl rfl (by kernel_rfl) (by simp) (fun K hK => ?_)
            refine Kd.R_append_rows_step (Kd.tag fB k125) (Rr := fun z d => z = (((⟨x.f0, D, x.f2, x.f3, x.f4, x.f5⟩ : B_), acc.length) : B_ × Nat) ∧ d = [.string x.f0, .slice Ad D.length cd, .int .i64 x.f2, .int .i64 x.f3, .int .i64 x.f4, .string x.f5]) (w0 := u13) w.heap.size (by rfl) (.tmp 41) (.tmp 43) 28 125 (.agg #[(.string ⟨#[]⟩), (.slice none 0 0), (.int .i64 0), (.int .i64 0), (.int .i64 0), (.string ⟨#[]⟩)]) 80 rfl Try.underlying28 info125 rfl (show 0 < 6 by decide) (by decide) (.slice Ab (acc.map toB).length cb) (acc.map toB).zipIdx [(((⟨x.f0, D, x.f2, x.f3, x.f4, x.f5⟩ : B_), acc.length) : B_ × Nat)] (some ⟨gW, 0, none⟩) 1 1 (OK w ba bb) (fun k => OK w ba bb k ∧ w2.heap.size ≤ k) (by rw [List.length_map]; rfl) rfl ob (box6 hboxW) ?_ (fun k hk => ⟨hk.1, fun e => by have := HLB.out k e.symm; have := hk.2; omega⟩) (fun k hk => F.ok hk) (below_from F.hB) (below_size F.hB) (by simp only [List.length_zipIdx, List.length_map]; omega) ?_
            · rintro z d ⟨rfl, rfl⟩; exact k125_mkM _ _ _ (⟨x.f0, D, x.f2, x.f3, x.f4, x.f5⟩ : B_) (Kd.R_mono nd (fun k hk => ⟨hk, HFB.out k hk.2⟩))
            intro vW u14 ho_ hbl_ hgr_ hat_
            have hrow : ∀ k, (Value.slice Ab (acc.map toB).length cb).ownBlock = some k → OK w ba bb k := fun k e => ob.1 k e
            replace F := F.grown hgr_ hrow
            replace hx := blk_grown hx hgr_ (HNX.out.2)
            replace nd := Kd.R_over nd ob (show ∀ q, q ∈ [9] → q ≠ 125 from by decide) hgr_
            replace oa := Kd.R_over oa ob (show ∀ q, q ∈ [48, 9] → q ≠ 125 from by decide) hgr_
            replace ob := ho_
            clear ho_ hbl_ hgr_ hat_ hrow hboxW
            refine hK.out _ _ (hHeldS _ F hx) (fun hHeld => ?_)
            clear hK K
            refine norm_ (a' := ?_) ?_ ?_
            rotate_left
            · show Act.put _ (some 44) _ = _
              simp only [Act.put, List.setIfInBounds_toArray, List.set_cons_zero, List.set_cons_succ, i64_w, i32_w]
              rfl
            obtain ⟨A1, c1, e1⟩ := Kd.R_slice oa
            obtain ⟨A2, c2, e2⟩ := Kd.R_slice ob
            have hc_ := hcont (gV, gW, vV, vW) u14 ⟨⟨A1, c1, e1⟩, ⟨A2, c2, e2⟩, F, oa, ob⟩
            simp only [putAll, Act.put, List.setIfInBounds_toArray, List.set_cons_zero, List.set_cons_succ] at hc_
            exact hc_
          · skip
            refine value_ (w1 := u11.alloc (.cells #[.string x.f0, .slice Ad D.length cd, .int .i64 x.f2, .int .i64 x.f3, .int .i64 x.f4, .string x.f5] 125)) (v := .slice (some ⟨u11.heap.size, 0, none⟩) 1 1) (by rfl) rfl ?_ ?_
            · first | (go_simp; done) | (go_simp; with_reducible rfl)
            have hboxW : (u11.alloc (.cells #[.string x.f0, .slice Ad D.length cd, .int .i64 x.f2, .int .i64 x.f3, .int .i64 x.f4, .string x.f5] 125)).heap[u11.heap.size]? = some (.cells ([.string x.f0, .slice Ad D.length cd, .int .i64 x.f2, .int .i64 x.f3, .int .i64 x.f4, .string x.f5] : List Value).toArray 125 (0, 0)) := blk_new u11 _
            replace hboxV := blk_alloc hboxV (.cells #[.string x.f0, .slice Ad D.length cd, .int .i64 x.f2, .int .i64 x.f3, .int .i64 x.f4, .string x.f5] 125)
            replace F := F.below (below_alloc (Below.refl _ _) (.cells #[.string x.f0, .slice Ad D.length cd, .int .i64 x.f2, .int .i64 x.f3, .int .i64 x.f4, .string x.f5] 125))
            replace hx := blk_alloc hx (.cells #[.string x.f0, .slice Ad D.length cd, .int .i64 x.f2, .int .i64 x.f3, .int .i64 x.f4, .string x.f5] 125)
            replace oa := Kd.R_alloc oa (.cells #[.string x.f0, .slice Ad D.length cd, .int .i64 x.f2, .int .i64 x.f3, .int .i64 x.f4, .string x.f5] 125)
            replace ob := Kd.R_alloc ob (.cells #[.string x.f0, .slice Ad D.length cd, .int .i64 x.f2, .int .i64 x.f3, .int .i64 x.f4, .string x.f5] 125)
            replace nd := Kd.R_alloc nd (.cells #[.string x.f0, .slice Ad D.length cd, .int .i64 x.f2, .int .i64 x.f3, .int .i64 x.f4, .string x.f5] 125)
            generalize hgW : u11.heap.size = gW at hboxW ⊢
            generalize u11.alloc (.cells #[.string x.f0, .slice Ad D.length cd, .int .i64 x.f2, .int .i64 x.f3, .int .i64 x.f4, .string x.f5] 125) = u12 at F hx oa ob nd hboxW hboxV ⊢
            clear hgW
            refine hK.out _ _ (hHeldS _ F hx) (fun hHeld => ?_)
            clear hK K
            refine norm_ (a' := ?_) ?_ ?_
            rotate_left
            · show Act.put _ (some 43) _ = _
              simp only [Act.put, List.setIfInBounds_toArray, List.set_cons_zero, List.set_cons_succ, i64_w, i32_w]
              rfl
            refine one_ (i := 4) (N := some 39) #[true, true, true, true, true, true, true, true, true, false, false, false, false, false] rfl rfl (by kernel_rfl) (by simp) (fun K hK => ?_)
            refine Kd.R_append_rows_step (Kd.tag fA k48) (Rr := fun z d => z = (((⟨x.f0, D, x.f2, x.f3, x.f4, x.f5⟩ : A_), acc.length) : A_ × Nat) ∧ d = [.string x.f0, .slice Ad D.length cd, .int .i64 x.f2, .int .i64 x.f3, .int .i64 x.f4, .string x.f5]) (w0 := u12) w.heap.size (by rfl) (.tmp 36) (.tmp 38) 25 48 (.agg #[(.string ⟨#[]⟩), (.slice none 0 0), (.int .i64 0), (.int .i64 0), (.int .i64 0), (.string ⟨#[]⟩)]) 80 rfl Try.underlying25 info48 rfl (show 0 < 6 by decide) (by decide) (.slice Aa (acc.map toA).length ca) (acc.map toA).zipIdx [(((⟨x.f0, D, x.f2, x.f3, x.f4, x.f5⟩ : A_), acc.length) : A_ × Nat)] (some ⟨gV, 0, none⟩) 1 1 (OK w ba bb) (fun k => OK w ba bb k ∧ w2.heap.size ≤ k) (by rw [List.length_map]; rfl) rfl oa (box6 hboxV) ?_ (fun k hk => ⟨hk.1, fun e => by have := HLA.out k e.symm; have := hk.2; omega⟩) (fun k hk => F.ok hk) (below_from F.hB) (below_size F.hB) (by simp only [List.length_zipIdx, List.length_map]; omega) ?_
            · rintro z d ⟨rfl, rfl⟩; exact k48_mkM _ _ _ (⟨x.f0, D, x.f2, x.f3, x.f4, x.f5⟩ : A_) (Kd.R_mono nd (fun k hk => ⟨hk, HFA.out k hk.2⟩))
            intro vV u13 ho_ hbl_ hgr_ hat_
            have hrow : ∀ k, (Value.slice Aa (acc.map toA).length ca).ownBlock = some k → OK w ba bb k := fun k e => oa.1 k e
            replace F := F.grown hgr_ hrow
            replace hx := blk_grown hx hgr_ (HNX.out.1)
            replace nd := Kd.R_over nd oa (show ∀ q, q ∈ [9] → q ≠ 48 from by decide) hgr_
            replace hboxW := blk_grown hboxW hgr_ (Kd.R_ne oa hboxW (by decide))
            replace ob := Kd.R_over ob oa (show ∀ q, q ∈ [125, 9] → q ≠ 48 from by decide) hgr_
            replace oa := ho_
            clear ho_ hbl_ hgr_ hat_ hrow hboxV
            refine hK.out _ _ (hHeldS _ F hx) (fun hHeld => ?_)
            clear hK K
            refine norm_ (a' := ?_) ?_ ?_
            rotate_left
            · show Act.put _ (some 39) _ = _
              simp only [Act.put, List.setIfInBounds_toArray, List.set_cons_zero, List.set_cons_succ, i64_w, i32_w]
              rfl
            refine Rg.pu 10 (some 45) ?_
            refine one_ (i := 9) (N := some 44) #[true, true, true, true, true, true, true, true, true, true, true, false, false, false] rfl rfl (by kernel_rfl) (by simp) (fun K hK => ?_)
            refine Kd.R_append_rows_step (Kd.tag fB k125) (Rr := fun z d => z = (((⟨x.f0, D, x.f2, x.f3, x.f4, x.f5⟩ : B_), acc.length) : B_ × Nat) ∧ d = [.string x.f0, .slice Ad D.length cd, .int .i64 x.f2, .int .i64 x.f3, .int .i64 x.f4, .string x.f5]) (w0 := u13) w.heap.size (by rfl) (.tmp 41) (.tmp 43) 28 125 (.agg #[(.string ⟨#[]⟩), (.slice none 0 0), (.int .i64 0), (.int .i64 0), (.int .i64 0), (.string ⟨#[]⟩)]) 80 rfl Try.underlying28 info125 rfl (show 0 < 6 by decide) (by decide) (.slice Ab (acc.map toB).length cb) (acc.map toB).zipIdx [(((⟨x.f0, D, x.f2, x.f3, x.f4, x.f5⟩ : B_), acc.length) : B_ × Nat)] (some ⟨gW, 0, none⟩) 1 1 (OK w ba bb) (fun k => OK w ba bb k ∧ w2.heap.size ≤ k) (by rw [List.length_map]; rfl) rfl ob (box6 hboxW) ?_ (fun k hk => ⟨hk.1, fun e => by have := HLB.out k e.symm; have := hk.2; omega⟩) (fun k hk => F.ok hk) (below_from F.hB) (below_size F.hB) (by simp only [List.length_zipIdx, List.length_map]; omega) ?_
            · rintro z d ⟨rfl, rfl⟩; exact k125_mkM _ _ _ (⟨x.f0, D, x.f2, x.f3, x.f4, x.f5⟩ : B_) (Kd.R_mono nd (fun k hk => ⟨hk, HFB.out k hk.2⟩))
            intro vW u14 ho_ hbl_ hgr_ hat_
            have hrow : ∀ k, (Value.slice Ab (acc.map toB).length cb).ownBlock = some k → OK w ba bb k := fun k e => ob.1 k e
            replace F := F.grown hgr_ hrow
            replace hx := blk_grown hx hgr_ (HNX.out.2)
            replace nd := Kd.R_over nd ob (show ∀ q, q ∈ [9] → q ≠ 125 from by decide) hgr_
            replace oa := Kd.R_over oa ob (show ∀ q, q ∈ [48, 9] → q ≠ 125 from by decide) hgr_
            replace ob := ho_
            clear ho_ hbl_ hgr_ hat_ hrow hboxW
            refine hK.out _ _ (hHeldS _ F hx) (fun hHeld => ?_)
            clear hK K
            refine norm_ (a' := ?_) ?_ ?_
            rotate_left
            · show Act.put _ (some 44) _ = _
              simp only [Act.put, List.setIfInBounds_toArray, List.set_cons_zero, List.set_cons_succ, i64_w, i32_w]
              rfl
            obtain ⟨A1, c1, e1⟩ := Kd.R_slice oa
            obtain ⟨A2, c2, e2⟩ := Kd.R_slice ob
            have hc_ := hcont (gV, gW, vV, vW) u14 ⟨⟨A1, c1, e1⟩, ⟨A2, c2, e2⟩, F, oa, ob⟩
            simp only [putAll, Act.put, List.setIfInBounds_toArray, List.set_cons_zero, List.set_cons_succ] at hc_
            exact hc_
        · skip
          refine value_ (w1 := w7.alloc (.cells #[.string x.f0, .slice Ad D.length cd, .int .i64 x.f2, .int .i64 x.f3, .int .i64 x.f4, .string x.f5] 125)) (v := .slice (some ⟨w7.heap.size, 0, none⟩) 1 1) (by rfl) rfl ?_ ?_
          · first | (go_simp; done) | (go_simp; with_reducible rfl)
          have hboxW : (w7.alloc (.cells #[.string x.f0, .slice Ad D.length cd, .int .i64 x.f2, .int .i64 x.f3, .int .i64 x.f4, .string x.f5] 125)).heap[w7.heap.size]? = some (.cells ([.string x.f0, .slice Ad D.length cd, .int .i64 x.f2, .int .i64 x.f3, .int .i64 x.f4, .string x.f5] : List Value).toArray 125 (0, 0)) := blk_new w7 _
          replace F := F.below (below_alloc (Below.refl _ _) (.cells #[.string x.f0, .slice Ad D.length cd, .int .i64 x.f2, .int .i64 x.f3, .int .i64 x.f4, .string x.f5] 125))
          replace hx := blk_alloc hx (.cells #[.string x.f0, .slice Ad D.length cd, .int .i64 x.f2, .int .i64 x.f3, .int .i64 x.f4, .string x.f5] 125)
          replace oa := Kd.R_alloc oa (.cells #[.string x.f0, .slice Ad D.length cd, .int .i64 x.f2, .int .i64 x.f3, .int .i64 x.f4, .string x.f5] 125)
          replace ob := Kd.R_alloc ob (.cells #[.string x.f0, .slice Ad D.length cd, .int .i64 x.f2, .int .i64 x.f3, .int .i64 x.f4, .string x.f5] 125)
          replace nd := Kd.R_alloc nd (.cells #[.string x.f0, .slice Ad D.length cd, .int .i64 x.f2, .int .i64 x.f3, .int .i64 x.f4, .string x.f5] 125)
          generalize hgW : w7.heap.size = gW at hboxW ⊢
          generalize w7.alloc (.cells #[.string x.f0, .slice Ad D.length cd, .int .i64 x.f2, .int .i64 x.f3, .int .i64 x.f4, .string x.f5] 125) = u11 at F hx oa ob nd hboxW ⊢
          clear hgW
          refine hK.out _ _ (hHeldS _ F hx) (fun hHeld => ?_)
          clear hK K
          refine norm_ (a' := ?_) ?_ ?_
          rotate_left
          · show Act.put _ (some 43) _ = _
            simp only [Act.put, List.setIfInBounds_toArray, List.set_cons_zero, List.set_cons_succ, i64_w, i32_w]
            rfl
          refine one_ (i := 3) (N := some 38) #[true, true, true, true, false, true, true, true, true, false, false, false, false, false] rfl rfl (by kernel_rfl) (by simp) (fun K hK => ?_)
          refine value_ (w1 := u11.alloc (.cells #[.string x.f0, .slice Ad D.length cd, .int .i64 x.f2, .int .i64 x.f3, .int .i64 x.f4, .string x.f5] 48)) (v := .slice (some ⟨u11.heap.size, 0, none⟩) 1 1) (by rfl) rfl ?_ ?_
          · first | (go_simp; done) | (go_simp; with_reducible rfl)
          have hboxV : (u11.alloc (.cells #[.string x.f0, .slice Ad D.length cd, .int .i64 x.f2, .int .i64 x.f3, .int .i64 x.f4, .string x.f5] 48)).heap[u11.heap.size]? = some (.cells ([.string x.f0, .slice Ad D.length cd, .int .i64 x.f2, .int .i64 x.f3, .int .i64 x.f4, .string x.f5] : List Value).toArray 48 (0, 0)) := blk_new u11 _
          replace hboxW := blk_alloc hboxW (.cells #[.string x.f0, .slice Ad D.length cd, .int .i64 x.f2, .int .i64 x.f3, .int .i64 x.f4, .string x.f5] 48)
          replace F := F.below (below_alloc (Below.refl _ _) (.cells #[.string x.f0, .slice Ad D.length cd, .int .i64 x.f2, .int .i64 x.f3, .int .i64 x.f4, .string x.f5] 48))
          replace hx := blk_alloc hx (.cells #[.string x.f0, .slice Ad D.length cd, .int .i64 x.f2, .int .i64 x.f3, .int .i64 x.f4, .string x.f5] 48)
          replace oa := Kd.R_alloc oa (.cells #[.string x.f0, .slice Ad D.length cd, .int .i64 x.f2, .int .i64 x.f3, .int .i64 x.f4, .string x.f5] 48)
          replace ob := Kd.R_alloc ob (.cells #[.string x.f0, .slice Ad D.length cd, .int .i64 x.f2, .int .i64 x.f3, .int .i64 x.f4, .string x.f5] 48)
          replace nd := Kd.R_alloc nd (.cells #[.string x.f0, .slice Ad D.length cd, .int .i64 x.f2, .int .i64 x.f3, .int .i64 x.f4, .string x.f5] 48)
          generalize hgV : u11.heap.size = gV at hboxV ⊢
          generalize u11.alloc (.cells #[.string x.f0, .slice Ad D.length cd, .int .i64 x.f2, .int .i64 x.f3, .int .i64 x.f4, .string x.f5] 48) = u12 at F hx oa ob nd hboxV hboxW ⊢
          clear hgV
          refine hK.out _ _ (hHeldS _ F hx) (fun hHeld => ?_)
          clear hK K
          refine norm_ (a' := ?_) ?_ ?_
          rotate_left
          · show Act.put _ (some 38) _ = _
            simp only [Act.put, List.setIfInBounds_toArray, List.set_cons_zero, List.set_cons_succ, i64_w, i32_w]
            rfl
          refine one_ (i := 4) (N := some 39) #[true, true, true, true, true, true, true, true, true, false, false, false, false, false] rfl rfl (by kernel_rfl) (by simp) (fun K hK => ?_)
          refine Kd.R_append_rows_step (Kd.tag fA k48) (Rr := fun z d => z = (((⟨x.f0, D, x.f2, x.f3, x.f4, x.f5⟩ : A_), acc.length) : A_ × Nat) ∧ d = [.string x.f0, .slice Ad D.length cd, .int .i64 x.f2, .int .i64 x.f3, .int .i64 x.f4, .string x.f5]) (w0 := u12) w.heap.size (by rfl) (.tmp 36) (.tmp 38) 25 48 (.agg #[(.string ⟨#[]⟩), (.slice none 0 0), (.int .i64 0), (.int .i64 0), (.int .i64 0), (.string ⟨#[]⟩)]) 80 rfl Try.underlying25 info48 rfl (show 0 < 6 by decide) (by decide) (.slice Aa (acc.map toA).length ca) (acc.map toA).zipIdx [(((⟨x.f0, D, x.f2, x.f3, x.f4, x.f5⟩ : A_), acc.length) : A_ × Nat)] (some ⟨gV, 0, none⟩) 1 1 (OK w ba bb) (fun k => OK w ba bb k ∧ w2.heap.size ≤ k) (by rw [List.length_map]; rfl) rfl oa (box6 hboxV) ?_ (fun k hk => ⟨hk.1, fun e => by have := HLA.out k e.symm; have := hk.2; omega⟩) (fun k hk => F.ok hk) (below_from F.hB) (below_size F.hB) (by simp only [List.length_zipIdx, List.length_map]; omega) ?_
          · rintro z d ⟨rfl, rfl⟩; exact k48_mkM _ _ _ (⟨x.f0, D, x.f2, x.f3, x.f4, x.f5⟩ : A_) (Kd.R_mono nd (fun k hk => ⟨hk, HFA.out k hk.2⟩))
          intro vV u13 ho_ hbl_ hgr_ hat_
          have hrow : ∀ k, (Value.slice Aa (acc.map toA).length ca).ownBlock = some k → OK w ba bb k := fun k e => oa.1 k e
          replace F := F.grown hgr_ hrow
          replace hx := blk_grown hx hgr_ (HNX.out.1)
          replace nd := Kd.R_over nd oa (show ∀ q, q ∈ [9] → q ≠ 48 from by decide) hgr_
          replace hboxW := blk_grown hboxW hgr_ (Kd.R_ne oa hboxW (by decide))
          replace ob := Kd.R_over ob oa (show ∀ q, q ∈ [125, 9] → q ≠ 48 from by decide) hgr_
          replace oa := ho_
          clear ho_ hbl_ hgr_ hat_ hrow hboxV
          refine hK.out _ _ (hHeldS _ F hx) (fun hHeld => ?_)
          clear hK K
          refine norm_ (a' := ?_) ?_ ?_
          rotate_left
          · show Act.put _ (some 39) _ = _
            simp only [Act.put, List.setIfInBounds_toArray, List.set_cons_zero, List.set_cons_succ, i64_w, i32_w]
            rfl
          refine Rg.pu 10 (some 45) ?_
          refine one_ (i := 9) (N := some 44) #[true, true, true, true, true, true, true, true, true, true, true, false, false, false] rfl rfl (by kernel_rfl) (by simp) (fun K hK => ?_)
          refine Kd.R_append_rows_step (Kd.tag fB k125) (Rr := fun z d => z = (((⟨x.f0, D, x.f2, x.f3, x.f4, x.f5⟩ : B_), acc.length) : B_ × Nat) ∧ d = [.string x.f0, .slice Ad D.length cd, .int .i64 x.f2, .int .i64 x.f3, .int .i64 x.f4, .string x.f5]) (w0 := u13) w.heap.size (by rfl) (.tmp 41) (.tmp 43) 28 125 (.agg #[(.string ⟨#[]⟩), (.slice none 0 0), (.int .i64 0), (.int .i64 0), (.int .i64 0), (.string ⟨#[]⟩)]) 80 rfl Try.underlying28 info125 rfl (show 0 < 6 by decide) (by decide) (.slice Ab (acc.map toB).length cb) (acc.map toB).zipIdx [(((⟨x.f0, D, x.f2, x.f3, x.f4, x.f5⟩ : B_), acc.length) : B_ × Nat)] (some ⟨gW, 0, none⟩) 1 1 (OK w ba bb) (fun k => OK w ba bb k ∧ w2.heap.size ≤ k) (by rw [List.length_map]; rfl) rfl ob (box6 hboxW) ?_ (fun k hk => ⟨hk.1, fun e => by have := HLB.out k e.symm; have := hk.2; omega⟩) (fun k hk => F.ok hk) (below_from F.hB) (below_size F.hB) (by simp only [List.length_zipIdx, List.length_map]; omega) ?_
          · rintro z d ⟨rfl, rfl⟩; exact k125_mkM _ _ _ (⟨x.f0, D, x.f2, x.f3, x.f4, x.f5⟩ : B_) (Kd.R_mono nd (fun k hk => ⟨hk, HFB.out k hk.2⟩))
          intro vW u14 ho_ hbl_ hgr_ hat_
          have hrow : ∀ k, (Value.slice Ab (acc.map toB).length cb).ownBlock = some k → OK w ba bb k := fun k e => ob.1 k e
          replace F := F.grown hgr_ hrow
          replace hx := blk_grown hx hgr_ (HNX.out.2)
          replace nd := Kd.R_over nd ob (show ∀ q, q ∈ [9] → q ≠ 125 from by decide) hgr_
          replace oa := Kd.R_over oa ob (show ∀ q, q ∈ [48, 9] → q ≠ 125 from by decide) hgr_
          replace ob := ho_
          clear ho_ hbl_ hgr_ hat_ hrow hboxW
          refine hK.out _ _ (hHeldS _ F hx) (fun hHeld => ?_)
          clear hK K
          refine norm_ (a' := ?_) ?_ ?_
          rotate_left
          · show Act.put _ (some 44) _ = _
            simp only [Act.put, List.setIfInBounds_toArray, List.set_cons_zero, List.set_cons_succ, i64_w, i32_w]
            rfl
          obtain ⟨A1, c1, e1⟩ := Kd.R_slice oa
          obtain ⟨A2, c2, e2⟩ := Kd.R_slice ob
          have hc_ := hcont (gV, gW, vV, vW) u14 ⟨⟨A1, c1, e1⟩, ⟨A2, c2, e2⟩, F, oa, ob⟩
          simp only [putAll, Act.put, List.setIfInBounds_toArray, List.set_cons_zero, List.set_cons_succ] at hc_
          exact hc_
      | nil =>
        have hge : ¬ ((acc.length : Int) < (L.length : Int)) := by simp only [List.length_nil] at hle; omega
        go_upto_region 8 with fail
        have eL : acc = l.take 20 := by have h_ := HS.out; rw [List.append_nil] at h_; rw [h_]; exact HLL.out
        have F := FR.out.below (below_drew (Below.refl _ _))
        have oa := Kd.S_drew HOA.out
        have ob := Kd.S_drew HOB.out
        have hHeldS : ∀ w' : World, w'.heap[ba]? = some (.cells #[.string nm, (.slice Aa (acc.map toA).length ca)] 27 (0, 0)) → w'.heap[bb]? = some (.cells #[.string nm, (.slice Ab (acc.map toB).length cb)] 30 (0, 0)) → (w'.cell? ⟨ba, 0, none⟩ = some (.string nm) ∧ w'.cell? ⟨ba, 1, none⟩ = some (.slice Aa (acc.map toA).length ca) ∧ w'.cell? ⟨bb, 0, none⟩ = some (.string nm) ∧ w'.cell? ⟨bb, 1, none⟩ = some (.slice Ab (acc.map toB).length cb)) := fun w' ha hb => ⟨(blk_cell ha 0).trans rfl, (blk_cell ha 1).trans rfl, (blk_cell hb 0).trans rfl, (blk_cell hb 1).trans rfl⟩
        refine start_ (n := 4) (ds := []) (S := fun w' => w'.cell? ⟨ba, 0, none⟩ = some (.string nm) ∧ w'.cell? ⟨ba, 1, none⟩ = some (.slice Aa (acc.map toA).length ca) ∧ w'.cell? ⟨bb, 0, none⟩ = some (.string nm) ∧ w'.cell? ⟨bb, 1, none⟩ = some (.slice Ab (acc.map toB).length cb)) #[false, false, false, false] (by kernel_rfl) rfl rfl (hHeldS _ F.ha F.hb) (fun hHeld => ?_)
        clear FR HOA HOB
        generalize wr.drew = w7 at hHeld F oa ob ⊢
        refine Rg.tk 0 (some 48) hHeld ?_
        refine Rg.tk 1 (some 49) hHeld ?_
        have c0 : w7.cell? ⟨w.heap.size + 1, 0, none⟩ = some (.string ⟨#[]⟩) := (blk_cell F.hr 0).trans rfl
        have p0 := blk_frozen F.hr 0
        have c1 : w7.cell? ⟨w.heap.size + 1, 1, none⟩ = some (.slice none 0 0) := (blk_cell F.hr 1).trans rfl
        have p1 := blk_frozen F.hr 1
        refine one_ (i := 2) (N := none) #[true, true, true, false] rfl rfl (by kernel_rfl) (by simp) (fun K hK => ?_)
        refine skip_ (w1 := set2 w7 (w.heap.size + 1) (.string nm) (.slice Aa (acc.map toA).length ca)) (by rfl) rfl ?_ ?_
        · first | (go_simp; done) | (go_simp; with_reducible rfl)
        have n1 : bb ≠ w.heap.size + 1 := blk_ne F.hb F.hr (by decide)
        have n2 : ba ≠ w.heap.size + 1 + 1 := blk_ne F.ha F.hs (by decide)
        have ha1 := (set2_o F.na (.string nm) (.slice Aa (acc.map toA).length ca)).trans F.ha
        have hb1 := (set2_o n1 (.string nm) (.slice Aa (acc.map toA).length ca)).trans F.hb
        have hr1 := set2_v F.hr (.string nm) (.slice Aa (acc.map toA).length ca)
        have hs1 := (set2_o (w := w7) (b := w.heap.size + 1) (k := w.heap.size + 1 + 1) (by omega) (.string nm) (.slice Aa (acc.map toA).length ca)).trans F.hs
        have hz1 : ∀ k, k ≠ w.heap.size + 1 → (set2 w7 (w.heap.size + 1) (.string nm) (.slice Aa (acc.map toA).length ca)).heap[k]? = w7.heap[k]? := fun k hk => set2_o hk _ _
        have hB1 := set2_below F.hB (Nat.le_succ _) (.string nm) (.slice Aa (acc.map toA).length ca)
        generalize set2 w7 (w.heap.size + 1) (.string nm) (.slice Aa (acc.map toA).length ca) = w8 at ha1 hb1 hr1 hs1 hz1 hB1 ⊢
        refine hK.out _ _ (hHeldS _ ha1 hb1) (fun hHeld => ?_)
        clear hK K c0 c1 p0 p1
        have c0 : w8.cell? ⟨w.heap.size + 1 + 1, 0, none⟩ = some (.string ⟨#[]⟩) := (blk_cell hs1 0).trans rfl
        have p0 := blk_frozen hs1 0
        have c1 : w8.cell? ⟨w.heap.size + 1 + 1, 1, none⟩ = some (.slice none 0 0) := (blk_cell hs1 1).trans rfl
        have p1 := blk_frozen hs1 1
        refine one_ (i := 3) (N := none) #[true, true, true, true] rfl rfl (by kernel_rfl) (by simp) (fun K hK => ?_)
        refine skip_ (w1 := set2 w8 (w.heap.size + 1 + 1) (.string nm) (.slice Ab (acc.map toB).length cb)) (by rfl) rfl ?_ ?_
        · first | (go_simp; done) | (go_simp; with_reducible rfl)
        have ha2 := (set2_o n2 (.string nm) (.slice Ab (acc.map toB).length cb)).trans ha1
        have hb2 := (set2_o F.nb (.string nm) (.slice Ab (acc.map toB).length cb)).trans hb1
        have hr2 := (set2_o (w := w8) (b := w.heap.size + 1 + 1) (k := w.heap.size + 1) (by omega) (.string nm) (.slice Ab (acc.map toB).length cb)).trans hr1
        have hs2 := set2_v hs1 (.string nm) (.slice Ab (acc.map toB).length cb)
        have hz2 : ∀ k, k ≠ w.heap.size + 1 → k ≠ w.heap.size + 1 + 1 → (set2 w8 (w.heap.size + 1 + 1) (.string nm) (.slice Ab (acc.map toB).length cb)).heap[k]? = w7.heap[k]? := fun k hk hk' => (set2_o hk' _ _).trans (hz1 k hk)
        have hB2 := set2_below hB1 (by omega : w.heap.size ≤ w.heap.size + 1 + 1) (.string nm) (.slice Ab (acc.map toB).length cb)
        generalize set2 w8 (w.heap.size + 1 + 1) (.string nm) (.slice Ab (acc.map toB).length cb) = w9 at ha2 hb2 hr2 hs2 hz2 hB2 ⊢
        refine hK.out _ _ (hHeldS _ ha2 hb2) (fun hHeld => ?_)
        clear hK K c0 c1 p0 p1 hHeld hHeldS
        refine done_ (by kernel_rfl) ?_
        have oa9 := Kd.S_mono (Kd.S_move oa (fun k o => hz2 k o.r o.s)) (fun _ _ => (trivial : True))
        have ob9 := Kd.S_mono (Kd.S_move ob (fun k o => hz2 k o.r o.s)) (fun _ _ => (trivial : True))
        have oa9' : Kd.S k48 48 w9 w.heap.size (fun _ => True) (.slice Aa (acc.map toA).length ca) ((l.take 20).map toA) := by rw [← eL]; exact oa9
        have ob9' : Kd.S k125 125 w9 w.heap.size (fun _ => True) (.slice Ab (acc.map toB).length cb) ((l.take 20).map toB) := by rw [← eL]; exact ob9
        clear hz1 hz2 hB1 ha1 hb1 hr1 hs1 ha2 hb2 oa9 ob9 eL
        (try go_wp2)
        exact ⟨rfl, _, flow_results _ (w.heap.size + 1) (w.heap.size + 1 + 1) _ nm nm (.slice Aa (acc.map toA).length ca) (.slice Ab (acc.map toB).length cb) rfl rfl rfl rfl hr2 hs2, _, _, rfl, (by first | exact oa9' | (rw [← List.map_take]; exact oa9')), (by first | exact ob9' | (rw [← List.map_take]; exact ob9')), hB2⟩
end Go.Proofs.Ytjicfkmpgogppaa.Fw
