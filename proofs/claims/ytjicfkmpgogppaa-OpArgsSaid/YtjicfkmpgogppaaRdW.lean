/-
  The document's Read of a workflow, walked.
-/
import Derived.Test.YtjicfkmpgogppaaH0
import Derived.Test.YtjicfkmpgogppaaH2
import Derived.LoopTactic
import Derived.Outline
import Derived.WalkSmall
namespace Go.Proofs.Ytjicfkmpgogppaa.Rw
set_option linter.unusedVariables false
set_option linter.unusedSimpArgs false
open Go Go.RowKit Go.Proofs.Ytjicfkmpgogppaa.Plain Go.Proofs.Ytjicfkmpgogppaa.Vs Go.Proofs.Ytjicfkmpgogppaa.PA Go.Proofs.YtjicfkmpgogppaaW.PrintWords Go.Proofs.YtjicfkmpgogppaaW.PrintLast Go.Proofs.YtjicfkmpgogppaaW.PrintMore
def Post (w : World) (r : ByteArray × List B_ × Int) (e : Ending) (w' : World) : Prop := ∃ u, e = .returned (.tuple #[.agg #[.string r.1, u], .int .i64 r.2.2]) ∧ Kd.V k125 125 w' w.heap.size (fun k => w.heap.size ≤ k) u r.2.1 ∧ Below w.heap.size w w'
theorem post_bad {w w' : World} {r : ByteArray × List B_ × Int} (hr : r = (E0, [], 4)) (hb : Below w.heap.size w w') : Post w r (.returned (.tuple #[.agg #[.string E0, .slice none 0 0], .int .i64 4])) w' := by
  subst hr
  exact ⟨_, rfl, Kd.V_nil _ _ _ _ _, hb⟩
/-- where the function's variables lie -/
structure Env (w wr : World) (v : W) (A : Option Addr) (c g1 g2 g4 : Nat) : Prop where
  HB : Below w.heap.size w wr
  B1 : wr.heap[g1]? = some (.cells #[.int .i64 v.f0, .int .i64 v.f1, .string v.f2, .slice A v.f3.length c] 57 (0, 0))
  B2 : wr.heap[g2]? = some (.cells #[.string E0, .slice none 0 0] 30 (0, 0))
  B4 : wr.heap[g4]? = some (.cells #[.string E0, .slice none 0 0] 30 (0, 0))
theorem Env.alloc {w wr : World} {v : W} {A : Option Addr} {c g1 g2 g4 : Nat} (h : Env w wr v A c g1 g2 g4) (o : Obj) : Env w (wr.alloc o) v A c g1 g2 g4 := ⟨below_alloc h.HB o, blk_alloc h.B1 o, blk_alloc h.B2 o, blk_alloc h.B4 o⟩
theorem Env.drewN {w wr : World} {v : W} {A : Option Addr} {c g1 g2 g4 : Nat} (h : Env w wr v A c g1 g2 g4) (n : Nat) : Env w (wr.drewN n) v A c g1 g2 g4 := ⟨pw_below_drewN h.HB n, blk_drewN h.B1 n, blk_drewN h.B2 n, blk_drewN h.B4 n⟩
theorem Env.far {w wr : World} {v : W} {A : Option Addr} {c g1 g2 g4 g : Nat} (h : Env w wr v A c g1 g2 g4) (hg : w.heap.size ≤ g ∧ g1 < g ∧ g2 < g ∧ g4 < g) (j : Nat) (u : Value) : Env w (wr.setCell ⟨g, j, none⟩ u) v A c g1 g2 g4 := ⟨below_set h.HB hg.1, blk_far h.B1 (by simp; omega) u, blk_far h.B2 (by simp; omega) u, blk_far h.B4 (by simp; omega) u⟩
theorem Env.grown {w wr w1 : World} {v : W} {A : Option Addr} {c g1 g2 g4 : Nat} {row : Option Nat} (h : Env w wr v A c g1 g2 g4) (hb : Below w.heap.size w w1) (hg : wr.grownBy w1 row) (hn : ∀ k, row = some k → g1 < k ∧ g2 < k ∧ g4 < k) : Env w w1 v A c g1 g2 g4 := ⟨hb, blk_grown h.B1 hg (fun e => by have := hn _ e.symm; omega), blk_grown h.B2 hg (fun e => by have := hn _ e.symm; omega), blk_grown h.B4 hg (fun e => by have := hn _ e.symm; omega)⟩
theorem ad0 (a : Addr) : a.add 0 = a := by unfold Addr.add; simp
theorem ad4 (a : Addr) : a.add 4 = ⟨a.block, a.off + 4, none⟩ := by unfold Addr.add; simp
theorem ad8 (a : Addr) : a.add 8 = ⟨a.block, a.off + 8, none⟩ := by unfold Addr.add; simp
theorem ad12 (a : Addr) : a.add 12 = ⟨a.block, a.off + 12, none⟩ := by unfold Addr.add; simp
theorem ad16 (a : Addr) : a.add 16 = ⟨a.block, a.off + 16, none⟩ := by unfold Addr.add; simp
theorem ad20 (a : Addr) : a.add 20 = ⟨a.block, a.off + 20, none⟩ := by unfold Addr.add; simp
theorem nodesRW_len : ∀ {l : List W} {r : List B_}, nodesRW l = some r → r.length = l.length
  | [], r, h => by obtain rfl := Option.some.inj h; rfl
  | x :: l, r, h => by
    rw [nodesRW] at h
    cases c : nodeRW x with
    | none => rw [c] at h; cases h
    | some y =>
      rw [c] at h
      cases d : nodesRW l with
      | none => rw [d] at h; cases h
      | some s =>
        rw [d] at h
        obtain rfl := Option.some.inj h
        simp only [List.length_cons, nodesRW_len d]
theorem flow_bad {v v0 v1 : W} (hv : v.f3 = [v0, v1]) {i : Nat} (hi : i < v1.f3.length) (h : nodeRW v1.f3[i] = none) : flowRW v = (E0, [], 4) := by
  have e : atW v 1 = v1 := by show v.f3.getD 1 _ = v1; rw [hv]; rfl
  unfold flowRW
  rw [e, nodesRW_bad hi h]
  split <;> rfl
theorem flow_good {v v0 v1 : W} (hv : v.f3 = [v0, v1]) (hk : v.f0 = 2) (h0 : v0.f0 = 1) (h1 : v1.f0 = 2) {ns : List B_} (h : nodesRW v1.f3 = some ns) : flowRW v = (v0.f2, ns, 0) := by
  have e : atW v 1 = v1 := by show v.f3.getD 1 _ = v1; rw [hv]; rfl
  have e0 : atW v 0 = v0 := by show v.f3.getD 0 _ = v0; rw [hv]; rfl
  unfold flowRW
  rw [e, e0, h, if_pos (show shapedW v.f0 v.f3 [1, 2] = true from decide_eq_true ⟨hk, by rw [hv]; simp [h0, h1]⟩)]
theorem node_shape {x : W} (h : ¬ (x.f0 = 2 ∧ x.f3.map (·.f0) = [1, 2, 0, 0, 0, 1])) : nodeRW x = none := by
  unfold nodeRW
  rw [if_neg (show ¬ shapedW x.f0 x.f3 [1, 2, 0, 0, 0, 1] = true from fun e => h (of_decide_eq_true e))]
theorem node_small {x m0 m1 m2 m3 m4 m5 : W} (hx : x.f3 = [m0, m1, m2, m3, m4, m5]) (h : ¬ (inr m2.f1 = true ∧ inr m4.f1 = true)) : nodeRW x = none := by
  have e2 : atW x 2 = m2 := by show x.f3.getD 2 _ = m2; rw [hx]; rfl
  have e4 : atW x 4 = m4 := by show x.f3.getD 4 _ = m4; rw [hx]; rfl
  unfold nodeRW
  rw [e2, e4, if_neg h]
  split <;> rfl
theorem node_texts {x m0 m1 m2 m3 m4 m5 : W} (hx : x.f3 = [m0, m1, m2, m3, m4, m5]) (h : ¬ textsW m1.f3 = true) : nodeRW x = none := by
  have e1 : atW x 1 = m1 := by show x.f3.getD 1 _ = m1; rw [hx]; rfl
  unfold nodeRW
  rw [e1, if_neg h]
  split
  · split <;> rfl
  · rfl
theorem node_good {x m0 m1 m2 m3 m4 m5 : W} (hx : x.f3 = [m0, m1, m2, m3, m4, m5]) (hk : x.f0 = 2 ∧ x.f3.map (·.f0) = [1, 2, 0, 0, 0, 1]) (hs : inr m2.f1 = true ∧ inr m4.f1 = true) (ht : textsW m1.f3 = true) : nodeRW x = some ⟨m0.f2, m1.f3.map (·.f2), m2.f1, m3.f1, m4.f1, m5.f2⟩ := by
  have e0 : atW x 0 = m0 := by show x.f3.getD 0 _ = m0; rw [hx]; rfl
  have e1 : atW x 1 = m1 := by show x.f3.getD 1 _ = m1; rw [hx]; rfl
  have e2 : atW x 2 = m2 := by show x.f3.getD 2 _ = m2; rw [hx]; rfl
  have e3 : atW x 3 = m3 := by show x.f3.getD 3 _ = m3; rw [hx]; rfl
  have e4 : atW x 4 = m4 := by show x.f3.getD 4 _ = m4; rw [hx]; rfl
  have e5 : atW x 5 = m5 := by show x.f3.getD 5 _ = m5; rw [hx]; rfl
  unfold nodeRW
  rw [e0, e1, e2, e3, e4, e5, if_pos (show shapedW x.f0 x.f3 [1, 2, 0, 0, 0, 1] = true from decide_eq_true hk), if_pos hs, if_pos ht]
theorem small_some (n : Int) : precinctref12_small.f n = some (inr n) := by
  unfold precinctref12_small.f inr
  by_cases h : n ≥ -2147483648
  · rw [if_pos h]; congr 1; rw [decide_eq_decide]; omega
  · rw [if_neg h, decide_eq_false (by omega)]
set_option maxHeartbeats 400000 in
theorem small_walk (n : Int) (w : World) : Calls Try.prog 63 #[.int .i64 n] w fun e w' => e = .returned (.bool (inr n)) ∧ Drawn0 w w' := precinctref12_small.calls n (inr n) w (small_some n)
def set6 (w : World) (g : Nat) (a b c d e f : Value) : World := (((((w.setCell ⟨g, 0, none⟩ a).setCell ⟨g, 1, none⟩ b).setCell ⟨g, 2, none⟩ c).setCell ⟨g, 3, none⟩ d).setCell ⟨g, 4, none⟩ e).setCell ⟨g, 5, none⟩ f
theorem set6_v {w : World} {g t : Nat} {x0 x1 x2 x3 x4 x5 : Value} (h : w.heap[g]? = some (.cells #[x0, x1, x2, x3, x4, x5] t (0, 0))) (a b c d e f : Value) : (set6 w g a b c d e f).heap[g]? = some (.cells #[a, b, c, d, e, f] t (0, 0)) := by
  unfold set6
  refine blk_put (cs := #[a, b, c, d, e, x5]) ?_ 5 _ rfl
  refine blk_put (cs := #[a, b, c, d, x4, x5]) ?_ 4 _ rfl
  refine blk_put (cs := #[a, b, c, x3, x4, x5]) ?_ 3 _ rfl
  refine blk_put (cs := #[a, b, x2, x3, x4, x5]) ?_ 2 _ rfl
  refine blk_put (cs := #[a, x1, x2, x3, x4, x5]) ?_ 1 _ rfl
  exact blk_put (cs := #[x0, x1, x2, x3, x4, x5]) h 0 _ rfl
theorem set6_o {w : World} {g h : Nat} (hn : h ≠ g) (a b c d e f : Value) : (set6 w g a b c d e f).heap[h]? = w.heap[h]? := by
  unfold set6
  rw [Below.heap_setCell _ _ _ _ hn, Below.heap_setCell _ _ _ _ hn, Below.heap_setCell _ _ _ _ hn, Below.heap_setCell _ _ _ _ hn, Below.heap_setCell _ _ _ _ hn, Below.heap_setCell _ _ _ _ hn]
theorem Env.set6 {w wr : World} {v : W} {A : Option Addr} {c g1 g2 g4 g : Nat} (h : Env w wr v A c g1 g2 g4) (hg : w.heap.size ≤ g ∧ g1 < g ∧ g2 < g ∧ g4 < g) (a b c' d e f : Value) : Env w (Rw.set6 wr g a b c' d e f) v A c g1 g2 g4 := (((((h.far hg 0 a).far hg 1 b).far hg 2 c').far hg 3 d).far hg 4 e).far hg 5 f
theorem at1 {w : World} {A : Option Addr} {n : Nat} {xs : List W} (h : Kd.C k57 w A n xs) (i : Nat) (h1 : i < n) (hl : i < xs.length) : ∃ ad A3 c3, A = some ad ∧ w.cell? (ad.add (i * 4)) = some (.int .i64 xs[i].f0) ∧ w.cell? ⟨(ad.add (i * 4)).block, (ad.add (i * 4)).off + 1, none⟩ = some (.int .i64 xs[i].f1) ∧ w.cell? ⟨(ad.add (i * 4)).block, (ad.add (i * 4)).off + 2, none⟩ = some (.string xs[i].f2) ∧ w.cell? ⟨(ad.add (i * 4)).block, (ad.add (i * 4)).off + 3, none⟩ = some (.slice A3 xs[i].f3.length c3) ∧ xs[i].f3.length ≤ c3 ∧ Kd.C k57 w A3 xs[i].f3.length xs[i].f3 := by
  obtain ⟨ad, A3, c3, e, x⟩ := at_T57 h (i : Int) (by omega) (by omega)
  have hr : rd_T57 xs (i : Int) = xs[i] := by
    unfold rd_T57
    rw [Int.toNat_natCast, List.getD_eq_getElem?_getD, List.getElem?_eq_getElem hl]; rfl
  rw [hr, Int.toNat_natCast] at x
  exact ⟨ad, A3, c3, e, x⟩
set_option maxHeartbeats 8000000 in
set_option maxRecDepth 100000 in
theorem read_walk (v : W) (A : Option Addr) (c : Nat) (w : World) (hC : Kd.C k57 w A v.f3.length v.f3) (hc : v.f3.length ≤ c) (hlim : limB v = true) :
    Calls Try.prog 23 #[.agg #[.int .i64 v.f0, .int .i64 v.f1, .string v.f2, .slice A v.f3.length c]] w (Post w (flowRW v)) := by
  rw [limB_iff] at hlim
  have hu1 := Try.underlying57
  have hu2 := Try.underlying30
  have hu3 := Try.underlying125
  have HL := Aside0.mk hlim
  have HC := Aside0.mk hC
  have Hc := Aside0.mk hc
  have hl63 : (v.f3.length : Int) ≤ 1000000 := by have := hlim.1; omega
  clear hC hc hlim
  obtain ⟨R, hR⟩ : ∃ R, flowRW v = R := ⟨_, rfl⟩
  rw [hR]
  have HR := Aside0.mk hR
  clear hR
  go_enter Try.func23, Try.ntmps23
  go_upto_region 2 with fail
  have hsz1 : (w.alloc (.cells #[.int .i64 v.f0, .int .i64 v.f1, .string v.f2, .slice A v.f3.length c] 57)).heap.size = w.heap.size + 1 := Array.size_push _
  have hsz2 : ((w.alloc (.cells #[.int .i64 v.f0, .int .i64 v.f1, .string v.f2, .slice A v.f3.length c] 57)).alloc (.cells #[.string E0, .slice none 0 0] 30)).heap.size = w.heap.size + 1 + 1 := (Array.size_push _).trans (by rw [hsz1])
  have HE := Aside0.mk (show Env w (((w.alloc (.cells #[.int .i64 v.f0, .int .i64 v.f1, .string v.f2, .slice A v.f3.length c] 57)).alloc (.cells #[.string E0, .slice none 0 0] 30)).alloc (.cells #[.string E0, .slice none 0 0] 30)) v A c w.heap.size (w.heap.size + 1) (w.heap.size + 1 + 1) from
    ⟨below_alloc (below_alloc (below_alloc (Below.refl _ _) _) _) _, blk_alloc (blk_alloc (blk_new w _) _) _, by rw [← hsz1]; exact blk_alloc (blk_new _ _) _, by rw [← hsz2]; exact blk_new _ _⟩)
  have HZ := Aside0.mk (show w.heap.size + 1 + 1 < (((w.alloc (.cells #[.int .i64 v.f0, .int .i64 v.f1, .string v.f2, .slice A v.f3.length c] 57)).alloc (.cells #[.string E0, .slice none 0 0] 30)).alloc (.cells #[.string E0, .slice none 0 0] 30)).heap.size from blk_lt HE.out.B4)
  clear hsz1 hsz2
  generalize (((w.alloc (.cells #[.int .i64 v.f0, .int .i64 v.f1, .string v.f2, .slice A v.f3.length c] 57)).alloc (.cells #[.string E0, .slice none 0 0] 30)).alloc (.cells #[.string E0, .slice none 0 0] 30)) = w3 at HE HZ ⊢
  obtain ⟨g1, hG1⟩ : ∃ g, w.heap.size = g := ⟨_, rfl⟩
  obtain ⟨g2, hG2⟩ : ∃ g, g1 + 1 = g := ⟨_, rfl⟩
  obtain ⟨g4, hG4⟩ : ∃ g, g2 + 1 = g := ⟨_, rfl⟩
  rw [hG1, hG2, hG4] at HE HZ ⊢
  have gt1 : w.heap.size ≤ g1 := Nat.le_of_eq hG1
  have gt2 : g1 < g2 := by omega
  have gt4 : g2 < g4 := by omega
  clear hG1 hG2 hG4
  have c10 : w3.cell? ⟨g1, 0, none⟩ = some (.int .i64 v.f0) := (blk_cell HE.out.B1 0).trans rfl
  have c13 : w3.cell? ⟨g1, 3, none⟩ = some (.slice A v.f3.length c) := (blk_cell HE.out.B1 3).trans rfl
  have c20 : w3.cell? ⟨g2, 0, none⟩ = some (.string E0) := (blk_cell HE.out.B2 0).trans rfl
  have c21 : w3.cell? ⟨g2, 1, none⟩ = some (.slice none 0 0) := (blk_cell HE.out.B2 1).trans rfl
  have f20 := blk_frozen HE.out.B2 0
  have f21 := blk_frozen HE.out.B2 1
  have c40 : w3.cell? ⟨g4, 0, none⟩ = some (.string E0) := (blk_cell HE.out.B4 0).trans rfl
  have c41 : w3.cell? ⟨g4, 1, none⟩ = some (.slice none 0 0) := (blk_cell HE.out.B4 1).trans rfl
  by_cases hk : v.f0 = 2
  case neg =>
    have hk' : (v.f0 != 2) = true := bne_iff_ne.2 hk
    have HK := Aside0.mk hk
    clear hk
    go_wp2
    refine bodyPost_ret (results_ct rfl _ _ g2 30 #[.string E0, .slice none 0 0] (0, 0) _ rfl (by refine blk_put (cs := #[.string E0, .slice none 0 0]) ?_ 1 _ rfl; refine blk_put (cs := #[.string E0, .slice none 0 0]) ?_ 0 _ rfl; exact HE.out.B2) hu2 rfl (by kernel_rfl)) rfl ?_
    exact post_bad (HR.out.symm.trans (if_neg (fun h => HK.out (of_decide_eq_true h).1))) (below_set (below_set HE.out.HB (by omega)) (by omega))
  have hk' : (v.f0 != 2) = false := bne_eq_false_iff_eq.2 hk
  have HK := Aside0.mk hk
  clear hk
  by_cases hl : v.f3.length = 2
  case neg =>
    have hl' : ((v.f3.length : Int) != 2) = true := by rw [bne_iff_ne]; omega
    have HK2 := Aside0.mk hl
    clear hl
    go_wp2
    refine bodyPost_ret (results_ct rfl _ _ g2 30 #[.string E0, .slice none 0 0] (0, 0) _ rfl (by refine blk_put (cs := #[.string E0, .slice none 0 0]) ?_ 1 _ rfl; refine blk_put (cs := #[.string E0, .slice none 0 0]) ?_ 0 _ rfl; exact HE.out.B2) hu2 rfl (by kernel_rfl)) rfl ?_
    exact post_bad (HR.out.symm.trans (if_neg (fun h => HK2.out (by have := congrArg List.length (of_decide_eq_true h).2; simpa using this)))) (below_set (below_set HE.out.HB (by omega)) (by omega))
  have hl' : ((v.f3.length : Int) != 2) = false := by rw [bne_eq_false_iff_eq]; omega
  have HK2 := Aside0.mk hl
  clear hl
  obtain ⟨v0, v1, hv⟩ := two HK2.out
  have HV := Aside0.mk hv
  have p0 : (0 : Int) < (v.f3.length : Int) := by have := HK2.out; omega
  have p1 : (1 : Int) < (v.f3.length : Int) := by have := HK2.out; omega
  have hC1 := HC.out
  rw [hv] at hC1
  clear hv
  obtain ⟨ad, A0, d0, rfl, x0, x1, x2, x3, _, _⟩ := at1 hC1 0 (by simp) (by simp)
  obtain ⟨ad', A1, d1, e, y0, y1, y2, y3, ly, gy⟩ := at1 hC1 1 (by simp) (by simp)
  cases e
  have HY := Aside0.mk (show Kd.C k57 w A1 v1.f3.length v1.f3 from gy)
  clear x1 x3 y1 y2 gy ly hC1
  simp only [List.getElem_cons_zero, List.getElem_cons_succ, Nat.zero_mul, Nat.one_mul, ad0, ad4] at x0 x2 y0 y3
  have Y3 := Aside0.mk y3
  have X2 := Aside0.mk x2
  replace x0 := (HE.out.HB.cell (World.block_lt_of_cell? w _ x0)).trans x0
  replace x2 := (HE.out.HB.cell (World.block_lt_of_cell? w _ x2)).trans x2
  replace y0 := (HE.out.HB.cell (World.block_lt_of_cell? w _ y0)).trans y0
  replace y3 := (HE.out.HB.cell (World.block_lt_of_cell? w _ y3)).trans y3
  by_cases hk0 : v0.f0 = 1
  case neg =>
    have hk' : (v0.f0 != 1) = true := bne_iff_ne.2 hk0
    have HK0 := Aside0.mk hk0
    clear hk0
    go_wp2
    refine bodyPost_ret (results_ct rfl _ _ g2 30 #[.string E0, .slice none 0 0] (0, 0) _ rfl (by refine blk_put (cs := #[.string E0, .slice none 0 0]) ?_ 1 _ rfl; refine blk_put (cs := #[.string E0, .slice none 0 0]) ?_ 0 _ rfl; exact HE.out.B2) hu2 rfl (by kernel_rfl)) rfl ?_
    exact post_bad (HR.out.symm.trans (if_neg (fun h => HK0.out (by have := (of_decide_eq_true h).2; rw [HV.out] at this; simp at this; exact this.1)))) (below_set (below_set HE.out.HB (by omega)) (by omega))
  have hk0' : (v0.f0 != 1) = false := bne_eq_false_iff_eq.2 hk0
  have HK0 := Aside0.mk hk0
  clear hk0
  by_cases hk1 : v1.f0 = 2
  case neg =>
    have hk' : (v1.f0 != 2) = true := bne_iff_ne.2 hk1
    have HK1 := Aside0.mk hk1
    clear hk1
    go_wp2
    refine bodyPost_ret (results_ct rfl _ _ g2 30 #[.string E0, .slice none 0 0] (0, 0) _ rfl (by refine blk_put (cs := #[.string E0, .slice none 0 0]) ?_ 1 _ rfl; refine blk_put (cs := #[.string E0, .slice none 0 0]) ?_ 0 _ rfl; exact HE.out.B2) hu2 rfl (by kernel_rfl)) rfl ?_
    exact post_bad (HR.out.symm.trans (if_neg (fun h => HK1.out (by have := (of_decide_eq_true h).2; rw [HV.out] at this; simp at this; exact this.2)))) (below_set (below_set HE.out.HB (by omega)) (by omega))
  have hk1' : (v1.f0 != 2) = false := bne_eq_false_iff_eq.2 hk1
  have HK1 := Aside0.mk hk1
  clear hk1
  go_upto_region 7 with fail
  have hE5 := HE.out.alloc (.cells #[.string v0.f2, .slice none 0 0] 30)
  have hb5 := blk_new w3 (.cells #[.string v0.f2, .slice none 0 0] 30)
  have gt5 : g4 < w3.heap.size := HZ.out
  clear x0 x2 y0 y3 c10 c13 c20 c21 f20 f21 c40 c41 HE HZ
  generalize w3.alloc (.cells #[.string v0.f2, .slice none 0 0] 30) = w4 at hE5 hb5 ⊢
  generalize w3.heap.size = g5 at hb5 gt5 ⊢
  have HE := Aside0.mk hE5
  have HB5 := Aside0.mk hb5
  clear hE5 hb5
  have hl1 : v1.f3.length ≤ 1000000 := (HL.out.2 v1 (by rw [HV.out]; simp)).1
  have HL1 := Aside0.mk (HL.out.2 v1 (by rw [HV.out]; simp)).2
  go_wp2
  go_loopw [6] (fun v6 wr => ∃ (i : Nat) (vN : Value) (ns : List B_), v6 = .int .i64 (i : Int) ∧ i ≤ v1.f3.length ∧ Aside0 (nodesRW (v1.f3.take i) = some ns) ∧ Aside0 (Env w wr v (some ad) c g1 g2 g4) ∧ Aside0 (wr.heap[g5]? = some (.cells #[.string v0.f2, vN] 30 (0, 0))) ∧ Aside0 (Kd.N k125 125 wr w.heap.size (fun k => g5 < k) vN ns)) (fun v6 _ => v1.f3.length - (intOf v6).toNat)
  case atStart => exact ⟨0, _, [], rfl, Nat.zero_le _, ⟨rfl⟩, HE, HB5, ⟨Kd.N_nil _ _ _ _ _⟩⟩
  case round =>
    clear HE HB5
    obtain ⟨i, vN, ns, rfl, hi, HNS, HE, HB5, HN⟩ := hrel
    have c13 : wr.cell? ⟨g1, 3, none⟩ = some (.slice (some ad) v.f3.length c) := (blk_cell HE.out.B1 3).trans rfl
    have y3 := (HE.out.HB.cell (World.block_lt_of_cell? w _ Y3.out)).trans Y3.out
    by_cases hlt : i < v1.f3.length
    · obtain ⟨ae, A3, c3, e, z0, z1, z2, z3, lz, gz⟩ := at1 HY.out i hlt hlt
      cases e
      have HI := Aside0.mk hlt
      have hli : (i : Int) < (v1.f3.length : Int) := by omega
      have hi0 : (0 : Int) ≤ (i : Int) := by omega
      have HLX := Aside0.mk (HL1.out v1.f3[i] (List.getElem_mem hlt))
      have HNL := Aside0.mk (show ns.length ≤ 1000000 from by have := nodesRW_len HNS.out; rw [List.length_take] at this; omega)
      have HBAD := Aside0.mk (fun h => flow_bad HV.out hlt h)
      have HGOOD := Aside0.mk (fun x h => nodesRW_snoc (x := x) hlt HNS.out h)
      generalize v1.f3[i] = x at z0 z1 z2 z3 lz gz HLX HBAD HGOOD
      replace z0 := (HE.out.HB.cell (World.block_lt_of_cell? w _ z0)).trans z0
      replace z1 := (HE.out.HB.cell (World.block_lt_of_cell? w _ z1)).trans z1
      replace z2 := (HE.out.HB.cell (World.block_lt_of_cell? w _ z2)).trans z2
      replace z3 := (HE.out.HB.cell (World.block_lt_of_cell? w _ z3)).trans z3
      have HGZ := Aside0.mk gz
      have HLZ := Aside0.mk lz
      clear gz lz
      go_upto_region 11 with fail
      have hEx := HE.out.alloc (.cells #[.int .i64 x.f0, .int .i64 x.f1, .string x.f2, .slice A3 x.f3.length c3] 57)
      have hbx := blk_new wr (.cells #[.int .i64 x.f0, .int .i64 x.f1, .string x.f2, .slice A3 x.f3.length c3] 57)
      have hb5x := blk_alloc HB5.out (.cells #[.int .i64 x.f0, .int .i64 x.f1, .string x.f2, .slice A3 x.f3.length c3] 57)
      have hNx := Kd.N_alloc (Kd.N_bound HN.out) (.cells #[.int .i64 x.f0, .int .i64 x.f1, .string x.f2, .slice A3 x.f3.length c3] 57)
      have gtx : g5 < wr.heap.size := blk_lt HB5.out
      clear z0 z1 z2 z3 c13 y3 HE HB5 HN
      generalize wr.alloc (.cells #[.int .i64 x.f0, .int .i64 x.f1, .string x.f2, .slice A3 x.f3.length c3] 57) = w5 at hEx hbx hb5x hNx ⊢
      generalize wr.heap.size = gx at hbx hNx gtx ⊢
      have HE := Aside0.mk hEx
      have HBX := Aside0.mk hbx
      have HB5 := Aside0.mk hb5x
      have HN := Aside0.mk hNx
      clear hEx hbx hb5x hNx
      have xc0 : w5.cell? ⟨gx, 0, none⟩ = some (.int .i64 x.f0) := (blk_cell HBX.out 0).trans rfl
      have xc3 : w5.cell? ⟨gx, 3, none⟩ = some (.slice A3 x.f3.length c3) := (blk_cell HBX.out 3).trans rfl
      have c20 : w5.cell? ⟨g2, 0, none⟩ = some (.string E0) := (blk_cell HE.out.B2 0).trans rfl
      have c21 : w5.cell? ⟨g2, 1, none⟩ = some (.slice none 0 0) := (blk_cell HE.out.B2 1).trans rfl
      have f20 := blk_frozen HE.out.B2 0
      have f21 := blk_frozen HE.out.B2 1
      have c40 : w5.cell? ⟨g4, 0, none⟩ = some (.string E0) := (blk_cell HE.out.B4 0).trans rfl
      have c41 : w5.cell? ⟨g4, 1, none⟩ = some (.slice none 0 0) := (blk_cell HE.out.B4 1).trans rfl
      by_cases hk : x.f0 = 2
      case neg =>
        have hk' : (x.f0 != 2) = true := bne_iff_ne.2 hk
        have HK3 := Aside0.mk hk
        clear hk
        go_wp2
        refine bodyPost_ret (results_ct rfl _ _ g2 30 #[.string E0, .slice none 0 0] (0, 0) _ rfl (by refine blk_put (cs := #[.string E0, .slice none 0 0]) ?_ 1 _ rfl; refine blk_put (cs := #[.string E0, .slice none 0 0]) ?_ 0 _ rfl; exact HE.out.B2) hu2 rfl (by kernel_rfl)) rfl ?_
        exact post_bad (HR.out.symm.trans (HBAD.out (node_shape (fun h => HK3.out h.1)))) (below_set (below_set HE.out.HB (by omega)) (by omega))
      have hk' : (x.f0 != 2) = false := bne_eq_false_iff_eq.2 hk
      have HK3 := Aside0.mk hk
      clear hk
      by_cases hl : x.f3.length = 6
      case neg =>
        have hl' : ((x.f3.length : Int) != 6) = true := by rw [bne_iff_ne]; omega
        have HK4 := Aside0.mk hl
        clear hl
        go_wp2
        refine bodyPost_ret (results_ct rfl _ _ g2 30 #[.string E0, .slice none 0 0] (0, 0) _ rfl (by refine blk_put (cs := #[.string E0, .slice none 0 0]) ?_ 1 _ rfl; refine blk_put (cs := #[.string E0, .slice none 0 0]) ?_ 0 _ rfl; exact HE.out.B2) hu2 rfl (by kernel_rfl)) rfl ?_
        exact post_bad (HR.out.symm.trans (HBAD.out (node_shape (fun h => HK4.out (by have := congrArg List.length h.2; simpa using this))))) (below_set (below_set HE.out.HB (by omega)) (by omega))
      have hl' : ((x.f3.length : Int) != 6) = false := by rw [bne_eq_false_iff_eq]; omega
      have HK4 := Aside0.mk hl
      clear hl
      obtain ⟨m0, m1, m2, m3, m4, m5, hx⟩ := six HK4.out
      have HX := Aside0.mk hx
      have hC2 := HGZ.out
      rw [hx] at hC2
      clear hx
      obtain ⟨af, D0, e0, e, s00, _, s02, _, _, _⟩ := at1 hC2 0 (by simp) (by simp)
      cases e
      obtain ⟨_, D1, e1, e, s10, _, _, s13, l1, g1_⟩ := at1 hC2 1 (by simp) (by simp)
      cases e
      obtain ⟨_, D2, e2, e, s20, s21, _, _, _, _⟩ := at1 hC2 2 (by simp) (by simp)
      cases e
      obtain ⟨_, D3, e3, e, s30, s31, _, _, _, _⟩ := at1 hC2 3 (by simp) (by simp)
      cases e
      obtain ⟨_, D4, e4, e, s40, s41, _, _, _, _⟩ := at1 hC2 4 (by simp) (by simp)
      cases e
      obtain ⟨_, D5, e5, e, s50, _, s52, _, _, _⟩ := at1 hC2 5 (by simp) (by simp)
      cases e
      clear hC2
      simp only [List.getElem_cons_zero, List.getElem_cons_succ, Nat.zero_mul, Nat.one_mul, Nat.reduceMul, ad0, ad4, ad8, ad12, ad16, ad20] at s00 s02 s10 s13 s20 s21 s30 s31 s40 s41 s50 s52
      have HT := Aside0.mk (show Kd.C k57 w D1 m1.f3.length m1.f3 from g1_)
      have HTl := Aside0.mk (show m1.f3.length ≤ e1 from l1)
      clear g1_ l1
      have q0 : (0 : Int) < (x.f3.length : Int) := by have := HK4.out; omega
      have q1 : (1 : Int) < (x.f3.length : Int) := by have := HK4.out; omega
      have q2 : (2 : Int) < (x.f3.length : Int) := by have := HK4.out; omega
      have q3 : (3 : Int) < (x.f3.length : Int) := by have := HK4.out; omega
      have q4 : (4 : Int) < (x.f3.length : Int) := by have := HK4.out; omega
      have q5 : (5 : Int) < (x.f3.length : Int) := by have := HK4.out; omega
      have S02 := Aside0.mk s02
      have S13 := Aside0.mk s13
      have S21 := Aside0.mk s21
      have S31 := Aside0.mk s31
      have S41 := Aside0.mk s41
      have S52 := Aside0.mk s52
      replace s00 := (HE.out.HB.cell (World.block_lt_of_cell? w _ s00)).trans s00
      replace s10 := (HE.out.HB.cell (World.block_lt_of_cell? w _ s10)).trans s10
      replace s20 := (HE.out.HB.cell (World.block_lt_of_cell? w _ s20)).trans s20
      replace s30 := (HE.out.HB.cell (World.block_lt_of_cell? w _ s30)).trans s30
      replace s40 := (HE.out.HB.cell (World.block_lt_of_cell? w _ s40)).trans s40
      replace s50 := (HE.out.HB.cell (World.block_lt_of_cell? w _ s50)).trans s50
      replace s21 := (HE.out.HB.cell (World.block_lt_of_cell? w _ s21)).trans s21
      replace s41 := (HE.out.HB.cell (World.block_lt_of_cell? w _ s41)).trans s41
      clear s02 s13 s31 s52
      by_cases hn0 : m0.f0 = 1
      case neg =>
        have hk' : (m0.f0 != 1) = true := bne_iff_ne.2 hn0
        have HN0 := Aside0.mk hn0
        clear hn0
        go_wp2
        refine bodyPost_ret (results_ct rfl _ _ g2 30 #[.string E0, .slice none 0 0] (0, 0) _ rfl (by refine blk_put (cs := #[.string E0, .slice none 0 0]) ?_ 1 _ rfl; refine blk_put (cs := #[.string E0, .slice none 0 0]) ?_ 0 _ rfl; exact HE.out.B2) hu2 rfl (by kernel_rfl)) rfl ?_
        exact post_bad (HR.out.symm.trans (HBAD.out (node_shape (fun h => HN0.out (by have := h.2; rw [HX.out] at this; simp at this; omega))))) (below_set (below_set HE.out.HB (by omega)) (by omega))
      have hm0 : (m0.f0 != 1) = false := bne_eq_false_iff_eq.2 hn0
      have HM0 := Aside0.mk hn0
      clear hn0
      by_cases hn1 : m1.f0 = 2
      case neg =>
        have hk' : (m1.f0 != 2) = true := bne_iff_ne.2 hn1
        have HN1 := Aside0.mk hn1
        clear hn1
        go_wp2
        refine bodyPost_ret (results_ct rfl _ _ g2 30 #[.string E0, .slice none 0 0] (0, 0) _ rfl (by refine blk_put (cs := #[.string E0, .slice none 0 0]) ?_ 1 _ rfl; refine blk_put (cs := #[.string E0, .slice none 0 0]) ?_ 0 _ rfl; exact HE.out.B2) hu2 rfl (by kernel_rfl)) rfl ?_
        exact post_bad (HR.out.symm.trans (HBAD.out (node_shape (fun h => HN1.out (by have := h.2; rw [HX.out] at this; simp at this; omega))))) (below_set (below_set HE.out.HB (by omega)) (by omega))
      have hm1 : (m1.f0 != 2) = false := bne_eq_false_iff_eq.2 hn1
      have HM1 := Aside0.mk hn1
      clear hn1
      by_cases hn2 : m2.f0 = 0
      case neg =>
        have hk' : (m2.f0 != 0) = true := bne_iff_ne.2 hn2
        have HN2 := Aside0.mk hn2
        clear hn2
        go_wp2
        refine bodyPost_ret (results_ct rfl _ _ g2 30 #[.string E0, .slice none 0 0] (0, 0) _ rfl (by refine blk_put (cs := #[.string E0, .slice none 0 0]) ?_ 1 _ rfl; refine blk_put (cs := #[.string E0, .slice none 0 0]) ?_ 0 _ rfl; exact HE.out.B2) hu2 rfl (by kernel_rfl)) rfl ?_
        exact post_bad (HR.out.symm.trans (HBAD.out (node_shape (fun h => HN2.out (by have := h.2; rw [HX.out] at this; simp at this; omega))))) (below_set (below_set HE.out.HB (by omega)) (by omega))
      have hm2 : (m2.f0 != 0) = false := bne_eq_false_iff_eq.2 hn2
      have HM2 := Aside0.mk hn2
      clear hn2
      by_cases hn3 : m3.f0 = 0
      case neg =>
        have hk' : (m3.f0 != 0) = true := bne_iff_ne.2 hn3
        have HN3 := Aside0.mk hn3
        clear hn3
        go_wp2
        refine bodyPost_ret (results_ct rfl _ _ g2 30 #[.string E0, .slice none 0 0] (0, 0) _ rfl (by refine blk_put (cs := #[.string E0, .slice none 0 0]) ?_ 1 _ rfl; refine blk_put (cs := #[.string E0, .slice none 0 0]) ?_ 0 _ rfl; exact HE.out.B2) hu2 rfl (by kernel_rfl)) rfl ?_
        exact post_bad (HR.out.symm.trans (HBAD.out (node_shape (fun h => HN3.out (by have := h.2; rw [HX.out] at this; simp at this; omega))))) (below_set (below_set HE.out.HB (by omega)) (by omega))
      have hm3 : (m3.f0 != 0) = false := bne_eq_false_iff_eq.2 hn3
      have HM3 := Aside0.mk hn3
      clear hn3
      by_cases hn4 : m4.f0 = 0
      case neg =>
        have hk' : (m4.f0 != 0) = true := bne_iff_ne.2 hn4
        have HN4 := Aside0.mk hn4
        clear hn4
        go_wp2
        refine bodyPost_ret (results_ct rfl _ _ g2 30 #[.string E0, .slice none 0 0] (0, 0) _ rfl (by refine blk_put (cs := #[.string E0, .slice none 0 0]) ?_ 1 _ rfl; refine blk_put (cs := #[.string E0, .slice none 0 0]) ?_ 0 _ rfl; exact HE.out.B2) hu2 rfl (by kernel_rfl)) rfl ?_
        exact post_bad (HR.out.symm.trans (HBAD.out (node_shape (fun h => HN4.out (by have := h.2; rw [HX.out] at this; simp at this; omega))))) (below_set (below_set HE.out.HB (by omega)) (by omega))
      have hm4 : (m4.f0 != 0) = false := bne_eq_false_iff_eq.2 hn4
      have HM4 := Aside0.mk hn4
      clear hn4
      by_cases hn5 : m5.f0 = 1
      case neg =>
        have hk' : (m5.f0 != 1) = true := bne_iff_ne.2 hn5
        have HN5 := Aside0.mk hn5
        clear hn5
        go_wp2
        refine bodyPost_ret (results_ct rfl _ _ g2 30 #[.string E0, .slice none 0 0] (0, 0) _ rfl (by refine blk_put (cs := #[.string E0, .slice none 0 0]) ?_ 1 _ rfl; refine blk_put (cs := #[.string E0, .slice none 0 0]) ?_ 0 _ rfl; exact HE.out.B2) hu2 rfl (by kernel_rfl)) rfl ?_
        exact post_bad (HR.out.symm.trans (HBAD.out (node_shape (fun h => HN5.out (by have := h.2; rw [HX.out] at this; simp at this; omega))))) (below_set (below_set HE.out.HB (by omega)) (by omega))
      have hm5 : (m5.f0 != 1) = false := bne_eq_false_iff_eq.2 hn5
      have HM5 := Aside0.mk hn5
      clear hn5
      go_upto_region 15 with fail
      clear s00 s10 s20 s30 s40 s50 xc0
      go_upto_region 16 with (go_at_call 63; go_loud ((with_reducible refine (small_walk _ _).mono ?_); rintro e wq ⟨rfl, hd⟩; obtain ⟨m1_, rfl⟩ := hd.out))
      go_upto_region 17 with (go_at_call 63; go_loud ((with_reducible refine (small_walk _ _).mono ?_); rintro e wq ⟨rfl, hd⟩; obtain ⟨m2_, rfl⟩ := hd.out))
      have hE6 := HE.out.drewN (m1_ + m2_)
      have hbx6 := blk_drewN HBX.out (m1_ + m2_)
      have hb56 := blk_drewN HB5.out (m1_ + m2_)
      have hN6 := Kd.N_drewN HN.out (m1_ + m2_)
      clear s21 s41 xc3 c20 c21 f20 f21 c40 c41 HE HBX HB5 HN
      generalize w5.drewN (m1_ + m2_) = w6 at hE6 hbx6 hb56 hN6 ⊢
      have HE := Aside0.mk hE6
      have HBX := Aside0.mk hbx6
      have HB5 := Aside0.mk hb56
      have HN := Aside0.mk hN6
      clear hE6 hbx6 hb56 hN6
      have c20 : w6.cell? ⟨g2, 0, none⟩ = some (.string E0) := (blk_cell HE.out.B2 0).trans rfl
      have c21 : w6.cell? ⟨g2, 1, none⟩ = some (.slice none 0 0) := (blk_cell HE.out.B2 1).trans rfl
      have f20 := blk_frozen HE.out.B2 0
      have f21 := blk_frozen HE.out.B2 1
      have c40 : w6.cell? ⟨g4, 0, none⟩ = some (.string E0) := (blk_cell HE.out.B4 0).trans rfl
      have c41 : w6.cell? ⟨g4, 1, none⟩ = some (.slice none 0 0) := (blk_cell HE.out.B4 1).trans rfl
      by_cases hs2 : inr m2.f1 = true
      case neg =>
        have HS2 := Aside0.mk hs2
        replace hs2 := Bool.eq_false_iff.2 hs2
        go_wp2
        refine bodyPost_ret (results_ct rfl _ _ g2 30 #[.string E0, .slice none 0 0] (0, 0) _ rfl (by refine blk_put (cs := #[.string E0, .slice none 0 0]) ?_ 1 _ rfl; refine blk_put (cs := #[.string E0, .slice none 0 0]) ?_ 0 _ rfl; exact HE.out.B2) hu2 rfl (by kernel_rfl)) rfl ?_
        exact post_bad (HR.out.symm.trans (HBAD.out (node_small HX.out (fun h => HS2.out h.1)))) (below_set (below_set HE.out.HB (by omega)) (by omega))
      by_cases hs4 : inr m4.f1 = true
      case neg =>
        have HS4 := Aside0.mk hs4
        replace hs4 := Bool.eq_false_iff.2 hs4
        go_wp2
        refine bodyPost_ret (results_ct rfl _ _ g2 30 #[.string E0, .slice none 0 0] (0, 0) _ rfl (by refine blk_put (cs := #[.string E0, .slice none 0 0]) ?_ 1 _ rfl; refine blk_put (cs := #[.string E0, .slice none 0 0]) ?_ 0 _ rfl; exact HE.out.B2) hu2 rfl (by kernel_rfl)) rfl ?_
        exact post_bad (HR.out.symm.trans (HBAD.out (node_small HX.out (fun h => HS4.out h.2)))) (below_set (below_set HE.out.HB (by omega)) (by omega))
      go_upto_region 19 with fail
      have HS2 := Aside0.mk hs2
      have HS4 := Aside0.mk hs4
      clear hs2 hs4 c20 c21 f20 f21 c40 c41
      have hE7 : Env w w6.drew v (some ad) c g1 g2 g4 := ⟨below_drew HE.out.HB, HE.out.B1, HE.out.B2, HE.out.B4⟩
      have hbx7 : w6.drew.heap[gx]? = some (.cells #[.int .i64 x.f0, .int .i64 x.f1, .string x.f2, .slice (some af) x.f3.length c3] 57 (0, 0)) := HBX.out
      have hb57 : w6.drew.heap[g5]? = some (.cells #[.string v0.f2, vN] 30 (0, 0)) := HB5.out
      have hN7 := Kd.N_drew HN.out
      have hS : w6.drew.cell? ⟨gx, 3, none⟩ = some (.slice (some af) x.f3.length c3) ∧ w6.drew.cell? ⟨af.block, af.off + 2, none⟩ = some (.string m0.f2) ∧ w6.drew.cell? ⟨af.block, af.off + 8 + 1, none⟩ = some (.int .i64 m2.f1) ∧ w6.drew.cell? ⟨af.block, af.off + 12 + 1, none⟩ = some (.int .i64 m3.f1) ∧ w6.drew.cell? ⟨af.block, af.off + 16 + 1, none⟩ = some (.int .i64 m4.f1) ∧ w6.drew.cell? ⟨af.block, af.off + 20 + 2, none⟩ = some (.string m5.f2) :=
        ⟨(blk_cell hbx7 3).trans rfl, (hE7.HB.cell (World.block_lt_of_cell? w _ S02.out)).trans S02.out, (hE7.HB.cell (World.block_lt_of_cell? w _ S21.out)).trans S21.out, (hE7.HB.cell (World.block_lt_of_cell? w _ S31.out)).trans S31.out, (hE7.HB.cell (World.block_lt_of_cell? w _ S41.out)).trans S41.out, (hE7.HB.cell (World.block_lt_of_cell? w _ S52.out)).trans S52.out⟩
      clear HE HBX HB5 HN
      refine start_ (n := 28) (ds := [27]) (S := fun w' => w'.cell? ⟨gx, 3, none⟩ = some (.slice (some af) x.f3.length c3) ∧ w'.cell? ⟨af.block, af.off + 2, none⟩ = some (.string m0.f2) ∧ w'.cell? ⟨af.block, af.off + 8 + 1, none⟩ = some (.int .i64 m2.f1) ∧ w'.cell? ⟨af.block, af.off + 12 + 1, none⟩ = some (.int .i64 m3.f1) ∧ w'.cell? ⟨af.block, af.off + 16 + 1, none⟩ = some (.int .i64 m4.f1) ∧ w'.cell? ⟨af.block, af.off + 20 + 2, none⟩ = some (.string m5.f2)) #[false, false, false, false, false, false, false, false, false, false, false, false, false, false, false, false, false, false, false, false, false, false, false, false, false, false, false, false] (by kernel_rfl) rfl rfl hS (fun hHeld => ?_)
      clear hS
      have nq0 : 0 < x.f3.length := by have := HK4.out; omega
      have nq1 : 1 < x.f3.length := by have := HK4.out; omega
      have nq2 : 2 < x.f3.length := by have := HK4.out; omega
      have nq3 : 3 < x.f3.length := by have := HK4.out; omega
      have nq4 : 4 < x.f3.length := by have := HK4.out; omega
      have nq5 : 5 < x.f3.length := by have := HK4.out; omega
      generalize w6.drew = w7 at hE7 hbx7 hb57 hN7 hHeld ⊢
      refine Rg.pu 0 (some 138) ?_
      refine Rg.tk 1 (some 139) hHeld ?_
      refine Rg.pu 2 (some 140) ?_
      refine Rg.pu 3 (some 141) ?_
      refine Rg.tk 4 (some 142) hHeld ?_
      refine Rg.pu 5 (some 143) ?_
      refine Rg.tk 6 (some 144) hHeld ?_
      refine Rg.pu 7 (some 145) ?_
      refine Rg.pu 8 (some 146) ?_
      refine Rg.tk 9 (some 147) hHeld ?_
      refine Rg.pu 10 (some 148) ?_
      refine Rg.tk 11 (some 149) hHeld ?_
      refine Rg.pu 12 (some 150) ?_
      refine Rg.pu 13 (some 151) ?_
      refine Rg.tk 14 (some 152) hHeld ?_
      refine Rg.pu 15 (some 153) ?_
      refine Rg.tk 16 (some 154) hHeld ?_
      refine Rg.pu 17 (some 155) ?_
      refine Rg.pu 18 (some 156) ?_
      refine Rg.tk 19 (some 157) hHeld ?_
      refine Rg.pu 20 (some 158) ?_
      refine Rg.tk 21 (some 159) hHeld ?_
      refine Rg.pu 22 (some 160) ?_
      refine Rg.pu 23 (some 161) ?_
      refine Rg.tk 24 (some 162) hHeld ?_
      refine Rg.pu 25 (some 163) ?_
      refine one_ (i := 26) (N := some 10) #[true, true, true, true, true, true, true, true, true, true, true, true, true, true, true, true, true, true, true, true, true, true, true, true, true, true, true, false] rfl rfl (by kernel_rfl) (by simp) (fun K hK => ?_)
      refine value_ (w1 := w7.alloc (.cells #[.string ⟨#[]⟩, .slice none 0 0, .int .i64 0, .int .i64 0, .int .i64 0, .string ⟨#[]⟩] 125)) (v := .pointer (some ⟨w7.heap.size, 0, none⟩)) (by rfl) rfl ?_ ?_
      · first | (go_simp; done) | (go_simp; with_reducible rfl)
      have hE8 := hE7.alloc (.cells #[.string ⟨#[]⟩, .slice none 0 0, .int .i64 0, .int .i64 0, .int .i64 0, .string ⟨#[]⟩] 125)
      have hbx8 := blk_alloc hbx7 (.cells #[.string ⟨#[]⟩, .slice none 0 0, .int .i64 0, .int .i64 0, .int .i64 0, .string ⟨#[]⟩] 125)
      have hb58 := blk_alloc hb57 (.cells #[.string ⟨#[]⟩, .slice none 0 0, .int .i64 0, .int .i64 0, .int .i64 0, .string ⟨#[]⟩] 125)
      have hN8 := Kd.N_alloc hN7 (.cells #[.string ⟨#[]⟩, .slice none 0 0, .int .i64 0, .int .i64 0, .int .i64 0, .string ⟨#[]⟩] 125)
      have hbn8 := blk_new w7 (.cells #[.string ⟨#[]⟩, .slice none 0 0, .int .i64 0, .int .i64 0, .int .i64 0, .string ⟨#[]⟩] 125)
      have gtn : gx < w7.heap.size := blk_lt hbx7
      have hal : ∀ {p : Addr} {u : Value}, w7.cell? p = some u → (w7.alloc (.cells #[.string ⟨#[]⟩, .slice none 0 0, .int .i64 0, .int .i64 0, .int .i64 0, .string ⟨#[]⟩] 125)).cell? p = some u := fun {p} {u} h => (World.cell?_alloc_lt _ _ _ (World.block_lt_of_cell? _ _ h)).trans h
      have hH8 := And.intro (hal hHeld.1) (And.intro (hal hHeld.2.1) (And.intro (hal hHeld.2.2.1) (And.intro (hal hHeld.2.2.2.1) (And.intro (hal hHeld.2.2.2.2.1) (hal hHeld.2.2.2.2.2)))))
      clear hE7 hbx7 hb57 hN7 hHeld hal
      generalize w7.alloc (.cells #[.string ⟨#[]⟩, .slice none 0 0, .int .i64 0, .int .i64 0, .int .i64 0, .string ⟨#[]⟩] 125) = w8 at hE8 hbx8 hb58 hN8 hbn8 hH8 ⊢
      generalize w7.heap.size = gn at hbn8 gtn ⊢
      refine hK.out _ _ hH8 (fun hHeld => ?_)
      clear hK K hH8
      refine norm_ (a' := ?_) ?_ ?_
      rotate_left
      · show Act.put _ (some 10) _ = _
        simp only [Act.put, List.setIfInBounds_toArray, List.set_cons_zero, List.set_cons_succ, i64_w, i32_w]
        rfl
      have n0 : w8.cell? ⟨gn, 0, none⟩ = some (.string ⟨#[]⟩) := (blk_cell hbn8 0).trans rfl
      have p0 := blk_frozen hbn8 0
      have n1 : w8.cell? ⟨gn, 1, none⟩ = some (.slice none 0 0) := (blk_cell hbn8 1).trans rfl
      have p1 := blk_frozen hbn8 1
      have n2 : w8.cell? ⟨gn, 2, none⟩ = some (.int .i64 0) := (blk_cell hbn8 2).trans rfl
      have p2 := blk_frozen hbn8 2
      have n3 : w8.cell? ⟨gn, 3, none⟩ = some (.int .i64 0) := (blk_cell hbn8 3).trans rfl
      have p3 := blk_frozen hbn8 3
      have n4 : w8.cell? ⟨gn, 4, none⟩ = some (.int .i64 0) := (blk_cell hbn8 4).trans rfl
      have p4 := blk_frozen hbn8 4
      have n5 : w8.cell? ⟨gn, 5, none⟩ = some (.string ⟨#[]⟩) := (blk_cell hbn8 5).trans rfl
      have p5 := blk_frozen hbn8 5
      refine last_ (i := 27) (N := none) #[true, true, true, true, true, true, true, true, true, true, true, true, true, true, true, true, true, true, true, true, true, true, true, true, true, true, true, true] rfl rfl (by kernel_rfl) (by simp) (fun K hK => ?_)
      refine skip_ (w1 := set6 w8 gn (.string m0.f2) (.slice none 0 0) (.int .i64 m2.f1) (.int .i64 m3.f1) (.int .i64 m4.f1) (.string m5.f2)) (by rfl) rfl ?_ ?_
      · go_simp; rfl
      have hne : ∀ k, k ≤ gx → k ≠ gn := fun k h => by omega
      have hE9 := hE8.set6 (g := gn) (by omega) (.string m0.f2) (.slice none 0 0) (.int .i64 m2.f1) (.int .i64 m3.f1) (.int .i64 m4.f1) (.string m5.f2)
      have hbx9 := (set6_o (w := w8) (hne gx (Nat.le_refl _)) (.string m0.f2) (.slice none 0 0) (.int .i64 m2.f1) (.int .i64 m3.f1) (.int .i64 m4.f1) (.string m5.f2)).trans hbx8
      have hb59 := (set6_o (w := w8) (hne g5 (by omega)) (.string m0.f2) (.slice none 0 0) (.int .i64 m2.f1) (.int .i64 m3.f1) (.int .i64 m4.f1) (.string m5.f2)).trans hb58
      have hN9 := Kd.N_step hN8 (w1 := set6 w8 gn (.string m0.f2) (.slice none 0 0) (.int .i64 m2.f1) (.int .i64 m3.f1) (.int .i64 m4.f1) (.string m5.f2)) (fun k hk _ => set6_o (by have := hk.2; omega) _ _ _ _ _ _)
      have hbn9 := set6_v hbn8 (.string m0.f2) (.slice none 0 0) (.int .i64 m2.f1) (.int .i64 m3.f1) (.int .i64 m4.f1) (.string m5.f2)
      clear hE8 hbx8 hb58 hN8 hbn8 hHeld hne n0 n1 n2 n3 n4 n5 p0 p1 p2 p3 p4 p5
      generalize set6 w8 gn (.string m0.f2) (.slice none 0 0) (.int .i64 m2.f1) (.int .i64 m3.f1) (.int .i64 m4.f1) (.string m5.f2) = w9 at hE9 hbx9 hb59 hN9 hbn9 ⊢
      have HE := Aside0.mk hE9
      have HBX := Aside0.mk hbx9
      have HB5 := Aside0.mk hb59
      have HN := Aside0.mk hN9
      have HBN := Aside0.mk hbn9
      clear hE9 hbx9 hb59 hN9 hbn9
      refine hK.out _ _ ?_
      clear hK K
      refine done_ (by kernel_rfl) ?_
      try go_wp2
      have hlu : m1.f3.length ≤ 1000000 := HLX.out.2 m1 (by rw [HX.out]; simp)
      go_loopw [11] (fun v11 wr => ∃ (j : Nat) (vd : Value), v11 = .int .i64 (j : Int) ∧ j ≤ m1.f3.length ∧ Aside0 (textsW (m1.f3.take j) = true) ∧ Aside0 (Env w wr v (some ad) c g1 g2 g4) ∧ Aside0 (wr.heap[gx]? = some (.cells #[.int .i64 x.f0, .int .i64 x.f1, .string x.f2, .slice (some af) x.f3.length c3] 57 (0, 0))) ∧ Aside0 (wr.heap[g5]? = some (.cells #[.string v0.f2, vN] 30 (0, 0))) ∧ Aside0 (Kd.N k125 125 wr w.heap.size (fun k => g5 < k ∧ k < gx) vN ns) ∧ Aside0 (wr.heap[gn]? = some (.cells #[.string m0.f2, vd, .int .i64 m2.f1, .int .i64 m3.f1, .int .i64 m4.f1, .string m5.f2] 125 (0, 0))) ∧ Aside0 (Kd.R Kd.string 9 wr (gn + 1) (fun _ => True) vd ((m1.f3.take j).map (·.f2)))) (fun v11 _ => m1.f3.length - (intOf v11).toNat)
      case atStart => exact ⟨0, _, rfl, Nat.zero_le _, ⟨rfl⟩, HE, HBX, HB5, HN, HBN, ⟨Kd.R_nil _ _ _ _ _⟩⟩
      case round =>
        clear HE HBX HB5 HN HBN
        obtain ⟨j, vd, rfl, hj, HTX, HE, HBX, HB5, HN, HBN, HD⟩ := hrel
        have xc3 : wr.cell? ⟨gx, 3, none⟩ = some (.slice (some af) x.f3.length c3) := (blk_cell HBX.out 3).trans rfl
        have s13 := (HE.out.HB.cell (World.block_lt_of_cell? w _ S13.out)).trans S13.out
        have nq1 : 1 < x.f3.length := by have := HK4.out; omega
        by_cases hjl : j < m1.f3.length
        · obtain ⟨ag, A7, c7, e, y0, _, y2, _, _, _⟩ := at1 HT.out j hjl hjl
          cases e
          have HJ := Aside0.mk hjl
          have hjli : (j : Int) < (m1.f3.length : Int) := by omega
          have hj0 : (0 : Int) ≤ (j : Int) := by omega
          have HTB := Aside0.mk (show m1.f3[j].f0 ≠ 1 → ¬ textsW m1.f3 = true from fun h1 h2 => h1 (by have := List.all_eq_true.1 h2 _ (List.getElem_mem hjl); exact beq_iff_eq.1 this))
          have HTS := Aside0.mk (show m1.f3[j].f0 = 1 → textsW (m1.f3.take (j + 1)) = true from fun h1 => by rw [List.take_succ_eq_append_getElem hjl]; unfold textsW; rw [List.all_append]; have h2 := HTX.out; unfold textsW at h2; rw [h2]; simp [h1])
          have HTM := Aside0.mk (show (m1.f3.take j).map (·.f2) ++ [m1.f3[j].f2] = (m1.f3.take (j + 1)).map (·.f2) by rw [List.take_succ_eq_append_getElem hjl, List.map_append]; rfl)
          generalize m1.f3[j] = y at y0 y2 HTB HTS HTM
          have Y0 := Aside0.mk y0
          have Y2 := Aside0.mk y2
          replace y0 := (HE.out.HB.cell (World.block_lt_of_cell? w _ y0)).trans y0
          clear y2
          by_cases hy : y.f0 = 1
          case neg =>
            have hy' : (y.f0 != 1) = true := bne_iff_ne.2 hy
            have HYN := Aside0.mk hy
            clear hy
            have c20 : wr.cell? ⟨g2, 0, none⟩ = some (.string E0) := (blk_cell HE.out.B2 0).trans rfl
            have c21 : wr.cell? ⟨g2, 1, none⟩ = some (.slice none 0 0) := (blk_cell HE.out.B2 1).trans rfl
            have f20 := blk_frozen HE.out.B2 0
            have f21 := blk_frozen HE.out.B2 1
            have c40 : wr.cell? ⟨g4, 0, none⟩ = some (.string E0) := (blk_cell HE.out.B4 0).trans rfl
            have c41 : wr.cell? ⟨g4, 1, none⟩ = some (.slice none 0 0) := (blk_cell HE.out.B4 1).trans rfl
            go_wp2
            refine bodyPost_ret (results_ct rfl _ _ g2 30 #[.string E0, .slice none 0 0] (0, 0) _ rfl (by refine blk_put (cs := #[.string E0, .slice none 0 0]) ?_ 1 _ rfl; refine blk_put (cs := #[.string E0, .slice none 0 0]) ?_ 0 _ rfl; exact HE.out.B2) hu2 rfl (by kernel_rfl)) rfl ?_
            exact post_bad (HR.out.symm.trans (HBAD.out (node_texts HX.out (HTB.out HYN.out)))) (below_set (below_set HE.out.HB (by omega)) (by omega))
          have hy' : (y.f0 != 1) = false := bne_eq_false_iff_eq.2 hy
          have HYY := Aside0.mk hy
          clear hy
          go_upto_region 25 with fail
          clear y0 hy'
          have hE7 : Env w wr.drew v (some ad) c g1 g2 g4 := ⟨below_drew HE.out.HB, HE.out.B1, HE.out.B2, HE.out.B4⟩
          have hbx7 : wr.drew.heap[gx]? = some (.cells #[.int .i64 x.f0, .int .i64 x.f1, .string x.f2, .slice (some af) x.f3.length c3] 57 (0, 0)) := HBX.out
          have hb57 : wr.drew.heap[g5]? = some (.cells #[.string v0.f2, vN] 30 (0, 0)) := HB5.out
          have hbn7 : wr.drew.heap[gn]? = some (.cells #[.string m0.f2, vd, .int .i64 m2.f1, .int .i64 m3.f1, .int .i64 m4.f1, .string m5.f2] 125 (0, 0)) := HBN.out
          have hN7 := Kd.N_drew HN.out
          have hD7 := Kd.R_drew HD.out
          have hS : wr.drew.cell? ⟨gn, 1, none⟩ = some vd ∧ wr.drew.cell? ⟨gx, 3, none⟩ = some (.slice (some af) x.f3.length c3) ∧ wr.drew.cell? ⟨af.block, af.off + 4 + 3, none⟩ = some (.slice (some ag) m1.f3.length e1) ∧ wr.drew.cell? ⟨(ag.add (j * 4)).block, (ag.add (j * 4)).off + 2, none⟩ = some (.string y.f2) :=
            ⟨(blk_cell hbn7 1).trans rfl, (blk_cell hbx7 3).trans rfl, (hE7.HB.cell (World.block_lt_of_cell? w _ S13.out)).trans S13.out, (hE7.HB.cell (World.block_lt_of_cell? w _ Y2.out)).trans Y2.out⟩
          clear HE HBX HB5 HN HBN HD xc3 s13
          refine start_ (n := 15) (ds := [14]) (S := fun w' => w'.cell? ⟨gn, 1, none⟩ = some vd ∧ w'.cell? ⟨gx, 3, none⟩ = some (.slice (some af) x.f3.length c3) ∧ w'.cell? ⟨af.block, af.off + 4 + 3, none⟩ = some (.slice (some ag) m1.f3.length e1) ∧ w'.cell? ⟨(ag.add (j * 4)).block, (ag.add (j * 4)).off + 2, none⟩ = some (.string y.f2)) #[false, false, false, false, false, false, false, false, false, false, false, false, false, false, false] (by kernel_rfl) rfl rfl hS (fun hHeld => ?_)
          clear hS
          have njl : j < m1.f3.length := HJ.out
          generalize wr.drew = w7 at hE7 hbx7 hb57 hbn7 hN7 hD7 hHeld ⊢
          refine Rg.pu 0 (some 185) ?_
          refine Rg.tk 1 (some 186) hHeld ?_
          refine Rg.pu 2 (some 187) ?_
          refine Rg.tk 3 (some 188) hHeld ?_
          refine Rg.pu 4 (some 189) ?_
          refine Rg.pu 5 (some 190) ?_
          refine Rg.tk 6 (some 191) hHeld ?_
          refine Rg.pu 7 (some 192) ?_
          refine Rg.pu 8 (some 193) ?_
          refine Rg.pu 9 (some 194) ?_
          refine Rg.tk 10 (some 195) hHeld ?_
          refine one_ (i := 11) (N := some 196) #[true, true, true, true, true, true, true, true, true, true, true, true, false, false, false] rfl rfl (by kernel_rfl) (by simp) (fun K hK => ?_)
          refine value_ (w1 := w7.alloc (.cells #[.string y.f2] 9)) (v := .slice (some ⟨w7.heap.size, 0, none⟩) 1 1) (by rfl) rfl ?_ ?_
          · first | (go_simp; done) | (go_simp; with_reducible rfl) | (go_simp; rfl)
          have hal : ∀ {p : Addr} {u : Value}, w7.cell? p = some u → (w7.alloc (.cells #[.string y.f2] 9)).cell? p = some u := fun {p} {u} h => (World.cell?_alloc_lt _ _ _ (World.block_lt_of_cell? _ _ h)).trans h
          have hH8 := And.intro (hal hHeld.1) (And.intro (hal hHeld.2.1) (And.intro (hal hHeld.2.2.1) (hal hHeld.2.2.2)))
          refine hK.out _ _ hH8 (fun hHeld2 => ?_)
          clear hK K hH8 hal hHeld
          refine norm_ (a' := ?_) ?_ ?_
          rotate_left
          · show Act.put _ (some 196) _ = _
            simp only [Act.put, List.setIfInBounds_toArray, List.set_cons_zero, List.set_cons_succ, i64_w, i32_w]
            rfl
          refine one_ (i := 12) (N := some 197) #[true, true, true, true, true, true, true, true, true, true, true, true, true, false, false] rfl rfl (by kernel_rfl) (by simp) (fun K hK => ?_)
          have hgnz : gn + 1 ≤ w7.heap.size := blk_lt hbn7
          have hlm : ((m1.f3.take j).map (·.f2)).length ≤ 1000000 := by rw [List.length_map, List.length_take]; omega
          refine Kd.R_append_step Kd.string (w0 := w7) (gn + 1) (by rfl) (.tmp 186) (.tmp 196) 46 9 (.string ⟨#[]⟩) 16 rfl Try.underlying46 info9 rfl (by decide) (by omega) vd ((m1.f3.take j).map (·.f2)) y.f2 [.string y.f2] (fun _ => True) (fun _ => False) rfl rfl rfl (fun _ hk => hk.elim) (fun _ _ => trivial) hD7 ((Below.refl _ _).mono hgnz) hgnz (by omega) ?_
          intro vd' w8 hD8 hb8 hg8 hat8
          rw [HTM.out] at hD8
          have hrow : ∀ k, vd.ownBlock = some k → gn + 1 ≤ k := Kd.R_base hD7
          have hE8 := hE7.grown (hE7.HB.grown hg8 hE7.HB.size (fun k hk => by have := hrow k hk; omega)) hg8 (fun k hk => by have := hrow k hk; omega)
          have hbx8 := blk_grown hbx7 hg8 (fun e => by have := hrow _ e.symm; omega)
          have hb58 := blk_grown hb57 hg8 (fun e => by have := hrow _ e.symm; omega)
          have hbn8 := blk_grown hbn7 hg8 (fun e => by have := hrow _ e.symm; omega)
          have hN8 := Kd.N_grown hN7 hg8 (fun k hk e => by have := hrow _ e.symm; have := hk.2; omega)
          obtain ⟨Ad, cd, ed⟩ := Kd.R_slice hD8
          subst ed
          have hH8 : w8.cell? ⟨gn, 1, none⟩ = some vd ∧ w8.cell? ⟨gx, 3, none⟩ = some (.slice (some af) x.f3.length c3) ∧ w8.cell? ⟨af.block, af.off + 4 + 3, none⟩ = some (.slice (some ag) m1.f3.length e1) ∧ w8.cell? ⟨(ag.add (j * 4)).block, (ag.add (j * 4)).off + 2, none⟩ = some (.string y.f2) :=
            ⟨(blk_cell hbn8 1).trans rfl, (blk_cell hbx8 3).trans rfl, (hE8.HB.cell (World.block_lt_of_cell? w _ S13.out)).trans S13.out, (hE8.HB.cell (World.block_lt_of_cell? w _ Y2.out)).trans Y2.out⟩
          clear hE7 hbx7 hb57 hbn7 hN7 hD7 hrow hg8 hat8 hb8 hgnz hlm
          refine hK.out _ _ hH8 (fun hHeld => ?_)
          clear hK K hH8 hHeld2
          refine norm_ (a' := ?_) ?_ ?_
          rotate_left
          · show Act.put _ (some 197) _ = _
            simp only [Act.put, List.setIfInBounds_toArray, List.set_cons_zero, List.set_cons_succ, i64_w, i32_w]
            rfl
          refine Rg.pu 13 (some 198) ?_
          refine last_ (i := 14) (N := none) #[true, true, true, true, true, true, true, true, true, true, true, true, true, true, true] rfl rfl (by kernel_rfl) (by simp) (fun K hK => ?_)
          have n1 : w8.cell? ⟨gn, 1, none⟩ = some vd := (blk_cell hbn8 1).trans rfl
          have p1 := blk_frozen hbn8 1
          refine skip_ (w1 := w8.setCell ⟨gn, 1, none⟩ (.slice Ad ((m1.f3.take (j + 1)).map (·.f2)).length cd)) (by rfl) rfl ?_ ?_
          · first | (go_simp; done) | (go_simp; rfl)
          have hE9 := hE8.far (g := gn) (by omega) 1 (.slice Ad ((m1.f3.take (j + 1)).map (·.f2)).length cd)
          have hbx9 := blk_far (p := ⟨gn, 1, none⟩) hbx8 (by simp; omega) (.slice Ad ((m1.f3.take (j + 1)).map (·.f2)).length cd)
          have hb59 := blk_far (p := ⟨gn, 1, none⟩) hb58 (by simp; omega) (.slice Ad ((m1.f3.take (j + 1)).map (·.f2)).length cd)
          have hN9 := Kd.N_far (p := ⟨gn, 1, none⟩) hN8 (fun k hk e => by have := hk.2; simp at e; omega) (.slice Ad ((m1.f3.take (j + 1)).map (·.f2)).length cd)
          have hbn9 := blk_put (cs' := #[.string m0.f2, (.slice Ad ((m1.f3.take (j + 1)).map (·.f2)).length cd), .int .i64 m2.f1, .int .i64 m3.f1, .int .i64 m4.f1, .string m5.f2]) hbn8 1 (.slice Ad ((m1.f3.take (j + 1)).map (·.f2)).length cd) rfl
          have hD9 := Kd.R_mono (ok' := fun _ => True) (Kd.R_far (p := ⟨gn, 1, none⟩) (Kd.R_bound hD8) (fun k hk e => by have := hk.2.1; simp at e; omega) (.slice Ad ((m1.f3.take (j + 1)).map (·.f2)).length cd)) (fun _ _ => trivial)
          clear hE8 hbx8 hb58 hN8 hbn8 hD8 hHeld n1 p1
          generalize w8.setCell ⟨gn, 1, none⟩ (.slice Ad ((m1.f3.take (j + 1)).map (·.f2)).length cd) = w9 at hE9 hbx9 hb59 hN9 hbn9 hD9 ⊢
          have HE := Aside0.mk hE9
          have HBX := Aside0.mk hbx9
          have HB5 := Aside0.mk hb59
          have HN := Aside0.mk hN9
          have HBN := Aside0.mk hbn9
          have HD := Aside0.mk hD9
          clear hE9 hbx9 hb59 hN9 hbn9 hD9
          refine hK.out _ _ ?_
          clear hK K
          refine done_ (by kernel_rfl) ?_
          try go_wp2
          go_roundw
          case rel => exact ⟨j + 1, _, by go_num, by have := HJ.out; omega, ⟨HTS.out HYY.out⟩, HE, HBX, HB5, HN, HBN, HD⟩
          case measure => simp [intOf]; have := HJ.out; omega
        · obtain rfl : j = m1.f3.length := by omega
          have hge : ¬ ((m1.f3.length : Int) < (m1.f3.length : Int)) := by omega
          have hT2 := HTX.out
          rw [List.take_of_length_le (Nat.le_refl _)] at hT2
          have hD2 := HD.out
          rw [List.take_of_length_le (Nat.le_refl _)] at hD2
          have hnl : ns.length ≤ 1000000 := HNL.out
          have hnx := HGOOD.out _ (node_good HX.out ⟨HK3.out, by rw [HX.out]; simp [HM0.out, HM1.out, HM2.out, HM3.out, HM4.out, HM5.out]⟩ ⟨HS2.out, HS4.out⟩ hT2)
          generalize m1.f3.map (fun d => d.f2) = tx at hD2 hnx
          obtain ⟨ns2, hns2⟩ : ∃ z, ns ++ [(⟨m0.f2, tx, m2.f1, m3.f1, m4.f1, m5.f2⟩ : B_)] = z := ⟨_, rfl⟩
          rw [hns2] at hnx
          have HNX := Aside0.mk hnx
          have HN2 := Aside0.mk hns2
          clear hnx hns2
          obtain ⟨Ad, cd, ed⟩ := Kd.R_slice hD2
          subst ed
          have HFX := Aside0.mk (k125_mkF wr (fun k => gn < k) (⟨m0.f2, tx, m2.f1, m3.f1, m4.f1, m5.f2⟩ : B_) (Kd.R_reads' hD2).2.1 (Kd.R_F (Kd.R_mono (ok' := fun k => gn < k) (Kd.R_bound hD2) (fun k hk => hk.2.1))))
          have hrow := HN.out.1
          have HN5 := Aside0.mk (Kd.N_mono (ok' := fun k => g5 < k) HN.out (fun k hk => hk.1))
          have HRW := Aside0.mk (show ∀ k, vN.ownBlock = some k → g5 < k ∧ k < gx from hrow)
          have HBB := Aside0.mk HE.out.HB
          have HSZ := Aside0.mk HE.out.HB.size
          have hb51 : wr.cell? ⟨g5, 1, none⟩ = some vN := (blk_cell HB5.out 1).trans rfl
          have nb0 : wr.cell? ⟨gn, 0, none⟩ = some (.string m0.f2) := (blk_cell HBN.out 0).trans rfl
          have nb1 : wr.cell? ⟨gn, 1, none⟩ = some (.slice Ad tx.length cd) := (blk_cell HBN.out 1).trans rfl
          have nb2 : wr.cell? ⟨gn, 2, none⟩ = some (.int .i64 m2.f1) := (blk_cell HBN.out 2).trans rfl
          have nb3 : wr.cell? ⟨gn, 3, none⟩ = some (.int .i64 m3.f1) := (blk_cell HBN.out 3).trans rfl
          have nb4 : wr.cell? ⟨gn, 4, none⟩ = some (.int .i64 m4.f1) := (blk_cell HBN.out 4).trans rfl
          have nb5 : wr.cell? ⟨gn, 5, none⟩ = some (.string m5.f2) := (blk_cell HBN.out 5).trans rfl
          have hlt5 : w.heap.size ≤ g5 := by omega
          clear hrow hT2 hD2
          have HGN := Aside0.mk (show ∀ k, wr.heap.size ≤ k → g5 < k from fun k hk => by have := blk_lt HB5.out; omega)
          go_wp2_with ((with_reducible refine gate_builtin (b := .append) (xs := #[.tmp 200, .tmp 202]) rfl ?_); at_builtin; refine Kd.N_append k125 (w0 := w) w.heap.size rfl (.tmp 200) (.tmp 202) 28 125 (.agg #[(.string ⟨#[]⟩), (.slice none 0 0), (.int .i64 0), (.int .i64 0), (.int .i64 0), (.string ⟨#[]⟩)]) 80 rfl Try.underlying28 info125 rfl (by decide) (by omega) vN ns (⟨m0.f2, tx, m2.f1, m3.f1, m4.f1, m5.f2⟩ : B_) [.string m0.f2, (.slice Ad tx.length cd), .int .i64 m2.f1, .int .i64 m3.f1, .int .i64 m4.f1, .string m5.f2] (fun k => g5 < k) (fun k => gn < k) rfl rfl HFX.out (fun k hk => ⟨by omega, fun e => by have := (HRW.out k e.symm).2; omega⟩) HGN.out HN5.out HBB.out HSZ.out (by omega) ?_; intro vN' w1 hN1 hb1 hg1 hat1; rw [HN2.out] at hN1; obtain ⟨A9, c9, e9⟩ := Kd.N_slice hN1; subst e9; have hb5g := blk_grown HB5.out hg1 (fun e => by have := (HRW.out _ e.symm).1; omega); have hEg := HE.out.grown hb1 hg1 (fun k hk => by have := (HRW.out k hk).1; omega); have cN : w1.cell? ⟨g5, 1, none⟩ = some vN := (blk_cell hb5g 1).trans rfl; have fN := blk_frozen hb5g 1; have HN1 := Aside0.mk hN1; have HB51 := Aside0.mk hb5g; have HE1 := Aside0.mk hEg; clear hN1 hb5g hEg hb1 hg1 hat1)
          go_roundw
          case rel => exact ⟨i + 1, .slice A9 ns2.length c9, ns2, by go_num, by have := HI.out; omega, HNX, ⟨HE1.out.far (by omega) 1 (.slice A9 ns2.length c9)⟩, ⟨blk_put (cs' := #[.string v0.f2, .slice A9 ns2.length c9]) HB51.out 1 (.slice A9 ns2.length c9) rfl⟩, ⟨Kd.N_far (p := ⟨g5, 1, none⟩) HN1.out (fun k hk e => by simp at e; omega) (.slice A9 ns2.length c9)⟩⟩
          case measure => simp [intOf]; have := HI.out; omega
    · obtain rfl : i = v1.f3.length := by omega
      have hge : ¬ ((v1.f3.length : Int) < (v1.f3.length : Int)) := by omega
      have hns := HNS.out
      rw [List.take_of_length_le (Nat.le_refl _)] at hns
      have HFR := Aside0.mk (flow_good HV.out HK.out HK0.out HK1.out hns)
      clear hns
      obtain ⟨AN, cN, eN⟩ := Kd.N_slice HN.out
      subst eN
      have hb50 : wr.cell? ⟨g5, 0, none⟩ = some (.string v0.f2) := (blk_cell HB5.out 0).trans rfl
      have hb51 : wr.cell? ⟨g5, 1, none⟩ = some (.slice AN ns.length cN) := (blk_cell HB5.out 1).trans rfl
      have c20 : wr.cell? ⟨g2, 0, none⟩ = some (.string E0) := (blk_cell HE.out.B2 0).trans rfl
      have c21 : wr.cell? ⟨g2, 1, none⟩ = some (.slice none 0 0) := (blk_cell HE.out.B2 1).trans rfl
      have f20 := blk_frozen HE.out.B2 0
      have f21 := blk_frozen HE.out.B2 1
      go_wp2
      refine bodyPost_ret (results_ct rfl _ _ g2 30 #[.string v0.f2, .slice AN ns.length cN] (0, 0) _ rfl (by refine blk_put (cs := #[.string v0.f2, .slice none 0 0]) ?_ 1 _ rfl; refine blk_put (cs := #[.string E0, .slice none 0 0]) ?_ 0 _ rfl; exact HE.out.B2) hu2 rfl (by kernel_rfl)) rfl ?_
      rw [← HR.out, HFR.out]
      exact ⟨_, rfl, Kd.N_V (Kd.N_mono (Kd.N_far (p := ⟨g2, 1, none⟩) (Kd.N_far (p := ⟨g2, 0, none⟩) HN.out (fun k hk e => by simp at e; omega) _) (fun k hk e => by simp at e; omega) _) (fun k hk => by omega)), below_set (below_set HE.out.HB (by omega)) (by omega)⟩
end Go.Proofs.Ytjicfkmpgogppaa.Rw
