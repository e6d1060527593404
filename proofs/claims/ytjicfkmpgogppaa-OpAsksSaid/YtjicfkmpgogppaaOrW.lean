/-
  op's reader: each step, the one that goes on and the one that ends in a panic.
-/
import Derived.Test.YtjicfkmpgogppaaH0
import Derived.LoopTactic
import Derived.Outline
import Derived.Recover
import Derived.WalkSmall
namespace Go.Proofs.Ytjicfkmpgogppaa.Or
set_option linter.unusedVariables false
set_option linter.unusedSimpArgs false
open Go Go.RowKit Go.Proofs.Ytjicfkmpgogppaa.Vs Go.Proofs.Ytjicfkmpgogppaa.PA Go.Proofs.YtjicfkmpgogppaaW.PrintWords Go.Proofs.YtjicfkmpgogppaaW.PrintLast Go.Proofs.YtjicfkmpgogppaaW.PrintMore
abbrev fault (c : Int) : PanicEntry := { v := .iface 157 (.int .i64 c), recovered := false }
set_option maxHeartbeats 4000000 in
set_option maxRecDepth 100000 in
theorem must_ok (w : World) : Calls Try.prog 86 #[.bool true] w fun e w' => e = .returned (.tuple #[]) ∧ w = w' := by
  go_enter Try.func86, Try.ntmps86
  go_wp2
  go_end0
  exact ⟨rfl, rfl⟩
set_option maxHeartbeats 4000000 in
set_option maxRecDepth 100000 in
theorem must_bad (w : World) : Calls Try.prog 86 #[.bool false] w fun e w' => e = .panicked [fault 4] ∧ w = w' := by
  go_enter Try.func86, Try.ntmps86
  go_wp2
  exact ⟨rfl, rfl, rfl⟩
theorem field1 (w : World) (a b : Int) (s : ByteArray) (A : Option Addr) (n c : Nat) : Sem.run Try.prog (Instr.field 54 (.agg #[.int .i64 a, .int .i64 b, .string s, .slice A n c]) 1) w = .ok (.int .i64 b) w := by kernel_rfl
theorem ad4 (a : Addr) : a.add 4 = ⟨a.block, a.off + 4, none⟩ := by unfold Addr.add; simp
theorem ad0 (a : Addr) : a.add 0 = a := by unfold Addr.add; simp
/-- the reader: what is left to be read -/
structure RS (w0 w : World) (g : Nat) (l : List V) : Prop where
  st : ∃ A c, w.heap[g]? = some (.cells #[.slice A l.length c] 161 (0, 0)) ∧ l.length ≤ c ∧ Kd.C k54 w0 A l.length l
  hb : Below w0.heap.size w0 w
  hg : w0.heap.size ≤ g
theorem RS.move {w0 w w1 : World} {g : Nat} {l : List V} (h : RS w0 w g l) (hh : w1.heap[g]? = w.heap[g]?) (hb : Below w0.heap.size w0 w1) : RS w0 w1 g l := by
  obtain ⟨A, c, h1, h2, h3⟩ := h.st
  exact ⟨⟨A, c, hh.trans h1, h2, h3⟩, hb, h.hg⟩
theorem RS.alloc {w0 w : World} {g : Nat} {l : List V} (h : RS w0 w g l) (o : Obj) : RS w0 (w.alloc o) g l := by
  obtain ⟨A, c, h1, h2, h3⟩ := h.st
  exact ⟨⟨A, c, blk_alloc h1 o, h2, h3⟩, below_alloc h.hb o, h.hg⟩
theorem RS.lt {w0 w : World} {g : Nat} {l : List V} (h : RS w0 w g l) : g < w.heap.size := by
  obtain ⟨A, c, h1, h2, h3⟩ := h.st
  exact blk_lt h1
theorem C_nil0 (w : World) (A : Option Addr) : Kd.C k54 w A ([] : List V).length [] := ⟨rfl, by decide, fun h => absurd h (by simp)⟩
theorem C_tail {w : World} {ad : Addr} {x : V} {t : List V} (h : Kd.C k54 w (some ad) (x :: t).length (x :: t)) : Kd.C k54 w (some (ad.add 4)) t.length t := by
  obtain ⟨_, h2, h3⟩ := h
  refine ⟨rfl, by simp only [List.length_cons] at h2; omega, fun _ => ?_⟩
  obtain ⟨ad', e, hc⟩ := h3 (by simp)
  cases e
  refine ⟨ad.add 4, rfl, fun j p hj => ?_⟩
  obtain ⟨c, h1, h4, h5⟩ := hc (j + 1) p (by simpa using hj)
  refine ⟨c, h1, h4, fun i u hi => ?_⟩
  rw [Addr.add_add]
  have e : 4 + (j * k54.sz + i) = (j + 1) * k54.sz + i := by
    have : k54.sz = 4 := rfl
    rw [this]; omega
  rw [e]
  exact h5 i u hi
theorem at_head {w : World} {A : Option Addr} {x : V} {t : List V} (h : Kd.C k54 w A (x :: t).length (x :: t)) : ∃ ad A3 c3, A = some ad ∧ w.cell? ad = some (.int .i64 x.f0) ∧ w.cell? ⟨ad.block, ad.off + 1, none⟩ = some (.int .i64 x.f1) ∧ w.cell? ⟨ad.block, ad.off + 2, none⟩ = some (.string x.f2) ∧ w.cell? ⟨ad.block, ad.off + 3, none⟩ = some (.slice A3 x.f3.length c3) ∧ x.f3.length ≤ c3 ∧ Kd.C k54 w A3 x.f3.length x.f3 := by
  obtain ⟨ad, A3, c3, e, x0⟩ := at_T54 h 0 (by omega) (by simp)
  have hr : rd_T54 (x :: t) 0 = x := rfl
  rw [hr, show (0 : Int).toNat * 4 = 0 from rfl, ad0] at x0
  exact ⟨ad, A3, c3, e, x0⟩
set_option maxHeartbeats 4000000 in
set_option maxRecDepth 100000 in
theorem next_ok (x : V) (t : List V) (g : Nat) (w0 w : World) (h : RS w0 w g (x :: t)) :
    Calls Try.prog 84 #[.pointer (some ⟨g, 0, none⟩), .int .i64 x.f0] w fun e w' => ∃ A3 c3, e = .returned (.agg #[.int .i64 x.f0, .int .i64 x.f1, .string x.f2, .slice A3 x.f3.length c3]) ∧ x.f3.length ≤ c3 ∧ Kd.C k54 w0 A3 x.f3.length x.f3 ∧ RS w0 w' g t ∧ KeepBut w w' g none := by
  have hu := Try.underlying54
  have hu2 := Try.underlying161
  obtain ⟨A, c, h1, h2, h3⟩ := h.st
  obtain ⟨ad, A3, c3, rfl, x0, x1, x2, x3, l3, g3⟩ := at_head h3
  have HT := Aside0.mk (C_tail h3)
  have HX := Aside0.mk g3
  have HL := Aside0.mk l3
  have HS := Aside0.mk h
  have HG := Aside0.mk h1
  replace x0 := (h.hb.cell (World.block_lt_of_cell? w0 _ x0)).trans x0
  replace x1 := (h.hb.cell (World.block_lt_of_cell? w0 _ x1)).trans x1
  replace x2 := (h.hb.cell (World.block_lt_of_cell? w0 _ x2)).trans x2
  replace x3 := (h.hb.cell (World.block_lt_of_cell? w0 _ x3)).trans x3
  have s0 : w.cell? ⟨g, 0, none⟩ = some (.slice (some ad) (x :: t).length c) := (blk_cell h1 0).trans rfl
  have f0 := blk_frozen h1 0
  have hn : (x :: t).length = t.length + 1 := rfl
  rw [hn] at s0 h2
  have p1 : (0 : Int) < ((t.length + 1 : Nat) : Int) := by omega
  clear h h3 h1 g3 l3 hn
  have Z : Obj := .cells #[.int .i64 0, .int .i64 0, .string ⟨#[]⟩, .slice none 0 0] 54
  clear Z
  go_enter Try.func84, Try.ntmps84
  go_upto_region 1 with fail
  have hz := blk_new w (.cells #[.int .i64 0, .int .i64 0, .string ⟨#[]⟩, .slice none 0 0] 54)
  have hS1 := HS.out.alloc (.cells #[.int .i64 0, .int .i64 0, .string ⟨#[]⟩, .slice none 0 0] 54)
  have hlt := HS.out.lt
  have hk1 : KeepBut w (w.alloc (.cells #[.int .i64 0, .int .i64 0, .string ⟨#[]⟩, .slice none 0 0] 54)) g none := keep_alloc (KeepBut.refl w g none) _
  replace x0 := (World.cell?_alloc_lt w (.cells #[.int .i64 0, .int .i64 0, .string ⟨#[]⟩, .slice none 0 0] 54) _ (World.block_lt_of_cell? _ _ x0)).trans x0
  replace x1 := (World.cell?_alloc_lt w (.cells #[.int .i64 0, .int .i64 0, .string ⟨#[]⟩, .slice none 0 0] 54) _ (World.block_lt_of_cell? _ _ x1)).trans x1
  replace x2 := (World.cell?_alloc_lt w (.cells #[.int .i64 0, .int .i64 0, .string ⟨#[]⟩, .slice none 0 0] 54) _ (World.block_lt_of_cell? _ _ x2)).trans x2
  replace x3 := (World.cell?_alloc_lt w (.cells #[.int .i64 0, .int .i64 0, .string ⟨#[]⟩, .slice none 0 0] 54) _ (World.block_lt_of_cell? _ _ x3)).trans x3
  replace s0 := (World.cell?_alloc_lt w (.cells #[.int .i64 0, .int .i64 0, .string ⟨#[]⟩, .slice none 0 0] 54) _ (World.block_lt_of_cell? _ _ s0)).trans s0
  have hG1 := blk_alloc HG.out (.cells #[.int .i64 0, .int .i64 0, .string ⟨#[]⟩, .slice none 0 0] 54)
  have f0 := blk_frozen hG1 0
  generalize w.alloc (.cells #[.int .i64 0, .int .i64 0, .string ⟨#[]⟩, .slice none 0 0] 54) = w1 at hz hS1 hk1 hG1 x0 x1 x2 x3 s0 f0 ⊢
  obtain ⟨gz, hgz0⟩ : ∃ gz, w.heap.size = gz := ⟨_, rfl⟩
  have hzb : w.heap.size ≤ gz := Nat.le_of_eq hgz0
  rw [hgz0] at hz hlt ⊢
  clear hgz0
  have HZ := Aside0.mk hz
  have HS1 := Aside0.mk hS1
  have HK1 := Aside0.mk hk1
  have HG1 := Aside0.mk hG1
  clear hz hS1 hk1 hG1
  go_upto_region 2 with (go_at_call 86; go_loud ((with_reducible refine (must_ok _).mono ?_); rintro e w' ⟨rfl, rfl⟩))
  go_upto_region 3 with fail
  have hx := blk_new w1 (.cells #[.int .i64 x.f0, .int .i64 x.f1, .string x.f2, .slice A3 x.f3.length c3] 54)
  have hS2 := HS1.out.alloc (.cells #[.int .i64 x.f0, .int .i64 x.f1, .string x.f2, .slice A3 x.f3.length c3] 54)
  have hk2 : KeepBut w (w1.alloc (.cells #[.int .i64 x.f0, .int .i64 x.f1, .string x.f2, .slice A3 x.f3.length c3] 54)) g none := keep_alloc HK1.out _
  have hz2 := blk_alloc HZ.out (.cells #[.int .i64 x.f0, .int .i64 x.f1, .string x.f2, .slice A3 x.f3.length c3] 54)
  have hG2 := blk_alloc HG1.out (.cells #[.int .i64 x.f0, .int .i64 x.f1, .string x.f2, .slice A3 x.f3.length c3] 54)
  clear x0 x1 x2 x3 s0 f0 HS1 HK1 HZ HG1
  generalize w1.alloc (.cells #[.int .i64 x.f0, .int .i64 x.f1, .string x.f2, .slice A3 x.f3.length c3] 54) = w2 at hx hS2 hk2 hz2 hG2 ⊢
  generalize w1.heap.size = gx at hx ⊢
  have s0 : w2.cell? ⟨g, 0, none⟩ = some (.slice (some ad) (t.length + 1) c) := (blk_cell hG2 0).trans rfl
  have f0 := blk_frozen hG2 0
  have z0 : w2.cell? ⟨gz, 0, none⟩ = some (.int .i64 0) := (blk_cell hz2 0).trans rfl
  have z1 : w2.cell? ⟨gz, 1, none⟩ = some (.int .i64 0) := (blk_cell hz2 1).trans rfl
  have z2 : w2.cell? ⟨gz, 2, none⟩ = some (.string ⟨#[]⟩) := (blk_cell hz2 2).trans rfl
  have z3 : w2.cell? ⟨gz, 3, none⟩ = some (.slice none 0 0) := (blk_cell hz2 3).trans rfl
  have y0 := blk_frozen hz2 0
  have y1 := blk_frozen hz2 1
  have y2 := blk_frozen hz2 2
  have y3 := blk_frozen hz2 3
  have e0 : w2.cell? ⟨gx, 0, none⟩ = some (.int .i64 x.f0) := (blk_cell hx 0).trans rfl
  have e1 : w2.cell? ⟨gx, 1, none⟩ = some (.int .i64 x.f1) := (blk_cell hx 1).trans rfl
  have e2 : w2.cell? ⟨gx, 2, none⟩ = some (.string x.f2) := (blk_cell hx 2).trans rfl
  have e3 : w2.cell? ⟨gx, 3, none⟩ = some (.slice A3 x.f3.length c3) := (blk_cell hx 3).trans rfl
  have n1 : g ≠ gx := blk_ne hG2 hx (by decide)
  have n2 : gx ≠ g := n1.symm
  have n3 : gz ≠ g := by omega
  have n4 : g ≠ gz := n3.symm
  have hgz := Aside0.mk (below_set (j := 0) (v := .slice none 0 0) hS2.hb hS2.hg)
  have HZ := Aside0.mk hz2
  have HS2 := Aside0.mk hS2
  have HK2 := Aside0.mk hk2
  have HG2 := Aside0.mk hG2
  clear hx hz2 hS2 hk2 hG2 hgz
  have hgz2 : w0.heap.size ≤ gz := by have := HS.out.hb.size; omega
  have fin : ∀ (B : Option Addr) (c' : Nat), t.length ≤ c' → Kd.C k54 w0 B t.length t → ∀ W5, W5 = ((((w2.setCell ⟨g, 0, none⟩ (.slice B t.length c')).setCell ⟨gz, 0, none⟩ (.int .i64 x.f0)).setCell ⟨gz, 1, none⟩ (.int .i64 x.f1)).setCell ⟨gz, 2, none⟩ (.string x.f2)).setCell ⟨gz, 3, none⟩ (.slice A3 x.f3.length c3) → W5.heap[gz]? = some (.cells #[.int .i64 x.f0, .int .i64 x.f1, .string x.f2, .slice A3 x.f3.length c3] 54 (0, 0)) ∧ RS w0 W5 g t ∧ KeepBut w W5 g none := by
    intro B c' hc' hC W5 e
    subst e
    refine ⟨?_, ⟨⟨B, c', ?_, hc', hC⟩, ?_, HS2.out.hg⟩, ?_⟩
    · refine blk_put (cs := #[.int .i64 x.f0, .int .i64 x.f1, .string x.f2, .slice none 0 0]) ?_ 3 _ rfl
      refine blk_put (cs := #[.int .i64 x.f0, .int .i64 x.f1, .string ⟨#[]⟩, .slice none 0 0]) ?_ 2 _ rfl
      refine blk_put (cs := #[.int .i64 x.f0, .int .i64 0, .string ⟨#[]⟩, .slice none 0 0]) ?_ 1 _ rfl
      refine blk_put (cs := #[.int .i64 0, .int .i64 0, .string ⟨#[]⟩, .slice none 0 0]) ?_ 0 _ rfl
      exact blk_far HZ.out n3 _
    · exact blk_far (blk_far (blk_far (blk_far (blk_put (cs := #[.slice (some ad) (t.length + 1) c]) HG2.out 0 _ rfl) n4 _) n4 _) n4 _) n4 _
    · exact below_set (below_set (below_set (below_set (below_set HS2.out.hb HS2.out.hg) hgz2) hgz2) hgz2) hgz2
    · exact keep_far (keep_far (keep_far (keep_far (KeepBut.set_ HK2.out 0 _) hzb _) hzb _) hzb _) hzb _
  by_cases hc1 : c = 1
  · subst hc1
    obtain rfl : t = [] := List.eq_nil_of_length_eq_zero (by omega)
    have FIN := Aside0.mk (fin (some ad) 0 (Nat.le_refl _) (C_nil0 _ _))
    clear fin
    go_wp2
    refine bodyPost_ret (results_single Try.results84 (.cell gz 54 #[.int .i64 x.f0, .int .i64 x.f1, .string x.f2, .slice A3 x.f3.length c3] (0, 0) _ rfl (FIN.out _ rfl).1 hu rfl (by kernel_rfl) .nil)) rfl ?_
    exact ⟨A3, c3, rfl, HL.out, HX.out, (FIN.out _ rfl).2.1, (FIN.out _ rfl).2.2⟩
  · have FIN := Aside0.mk (fin (some (ad.add 4)) (c - 1) (by omega) HT.out)
    clear fin
    have hc2 : (1 : Int) ≤ (c : Int) := by omega
    have hc3 : (1 : Int) ≤ ((t.length + 1 : Nat) : Int) := by omega
    go_wp2
    refine bodyPost_ret (results_single Try.results84 (.cell gz 54 #[.int .i64 x.f0, .int .i64 x.f1, .string x.f2, .slice A3 x.f3.length c3] (0, 0) _ rfl (FIN.out _ rfl).1 hu rfl (by kernel_rfl) .nil)) rfl ?_
    exact ⟨A3, c3, rfl, HL.out, HX.out, (FIN.out _ rfl).2.1, (FIN.out _ rfl).2.2⟩
set_option maxHeartbeats 4000000 in
set_option maxRecDepth 100000 in
theorem next_bad (l : List V) (k : Int) (g : Nat) (w0 w : World) (h : RS w0 w g l) (hb : ∀ x t, l = x :: t → x.f0 ≠ k) :
    Calls Try.prog 84 #[.pointer (some ⟨g, 0, none⟩), .int .i64 k] w fun e w' => e = .panicked [fault 4] ∧ Below w0.heap.size w0 w' ∧ KeepBut w w' g none := by
  have hu := Try.underlying54
  have hu2 := Try.underlying161
  have hf := Aside0.mk (show ∀ o, Below w0.heap.size w0 (w.alloc o) ∧ KeepBut w (w.alloc o) g none from fun o => ⟨below_alloc h.hb o, keep_alloc (KeepBut.refl w g none) o⟩)
  obtain ⟨A, c, h1, h2, h3⟩ := h.st
  have s0 : w.cell? ⟨g, 0, none⟩ = some (.slice A l.length c) := (blk_cell h1 0).trans rfl
  have hlt := h.lt
  replace s0 := (World.cell?_alloc_lt w (.cells #[.int .i64 0, .int .i64 0, .string ⟨#[]⟩, .slice none 0 0] 54) _ (World.block_lt_of_cell? _ _ s0)).trans s0
  cases l with
  | nil =>
    clear h h1 h2 h3 hb
    go_enter Try.func84, Try.ntmps84
    go_wp2_with (go_at_call 86; go_loud ((with_reducible refine (must_bad _).mono ?_); rintro e w' ⟨rfl, rfl⟩))
    exact ⟨rfl, rfl, (hf.out _).1, (hf.out _).2⟩
  | cons x t =>
    obtain ⟨ad, A3, c3, rfl, x0, x1, x2, x3, l3, g3⟩ := at_head h3
    have hk : (x.f0 == k) = false := beq_eq_false_iff_ne.2 (hb x t rfl)
    replace x0 := (h.hb.cell (World.block_lt_of_cell? w0 _ x0)).trans x0
    replace x0 := (World.cell?_alloc_lt w (.cells #[.int .i64 0, .int .i64 0, .string ⟨#[]⟩, .slice none 0 0] 54) _ (World.block_lt_of_cell? _ _ x0)).trans x0
    have p1 : (0 : Int) < ((t.length + 1 : Nat) : Int) := by omega
    have hn : (x :: t).length = t.length + 1 := rfl
    rw [hn] at s0
    clear h h1 h2 h3 hb x1 x2 x3 l3 g3 hn
    go_enter Try.func84, Try.ntmps84
    go_wp2_with (go_at_call 86; go_loud ((with_reducible refine (must_bad _).mono ?_); rintro e w' ⟨rfl, rfl⟩))
    exact ⟨rfl, rfl, (hf.out _).1, (hf.out _).2⟩
set_option maxHeartbeats 4000000 in
set_option maxRecDepth 100000 in
theorem long_ok (x : V) (t : List V) (g : Nat) (w0 w : World) (h : RS w0 w g (x :: t)) (hk : x.f0 = 0) :
    Calls Try.prog 81 #[.pointer (some ⟨g, 0, none⟩)] w fun e w' => e = .returned (.int .i64 x.f1) ∧ RS w0 w' g t ∧ KeepBut w w' g none := by
  have hfd := fun w => field1 w
  have HN := Aside0.mk (next_ok x t g w0 w h)
  rw [hk] at HN
  clear h hk
  go_enter Try.func81, Try.ntmps81
  go_wp2_with (go_at_call 84; go_loud ((with_reducible refine HN.out.mono ?_); rintro e w' ⟨A3, c3, rfl, _, _, hr, hk⟩; have HR := Aside0.mk hr; have HK := Aside0.mk hk; clear hr hk))
  go_ret
  exact ⟨rfl, HR.out, HK.out⟩
set_option maxHeartbeats 4000000 in
set_option maxRecDepth 100000 in
theorem long_bad (l : List V) (g : Nat) (w0 w : World) (h : RS w0 w g l) (hb : ∀ x t, l = x :: t → x.f0 ≠ 0) :
    Calls Try.prog 81 #[.pointer (some ⟨g, 0, none⟩)] w fun e w' => e = .panicked [fault 4] ∧ Below w0.heap.size w0 w' ∧ KeepBut w w' g none := by
  have HN := Aside0.mk (next_bad l 0 g w0 w h hb)
  clear h hb
  go_enter Try.func81, Try.ntmps81
  go_wp2_with (go_at_call 84; go_loud ((with_reducible refine HN.out.mono ?_); rintro e w' ⟨rfl, hb, hk⟩; have HR := Aside0.mk hb; have HK := Aside0.mk hk; clear hb hk))
  exact ⟨rfl, rfl, HR.out, HK.out⟩
def inr (n : Int) : Bool := decide (-2147483648 ≤ n ∧ n ≤ 2147483647)
set_option maxHeartbeats 4000000 in
set_option maxRecDepth 100000 in
theorem short_ok (x : V) (t : List V) (g : Nat) (w0 w : World) (h : RS w0 w g (x :: t)) (hk : x.f0 = 0) (hr : inr x.f1 = true) :
    Calls Try.prog 82 #[.pointer (some ⟨g, 0, none⟩)] w fun e w' => e = .returned (.int .i64 x.f1) ∧ RS w0 w' g t ∧ KeepBut w w' g none := by
  have HN := Aside0.mk (long_ok x t g w0 w h hk)
  obtain ⟨r1, r2⟩ := of_decide_eq_true hr
  clear h hk hr
  go_enter Try.func82, Try.ntmps82
  go_wp2_with (first | (go_at_call 81; go_loud ((with_reducible refine HN.out.mono ?_); rintro e w' ⟨rfl, hr, hk⟩; have HR := Aside0.mk hr; have HK := Aside0.mk hk; clear hr hk)) | (go_at_call 86; go_loud ((with_reducible refine (must_ok _).mono ?_); rintro e w'' ⟨rfl, rfl⟩)))
  go_ret
  exact ⟨rfl, HR.out, HK.out⟩
set_option maxHeartbeats 4000000 in
set_option maxRecDepth 100000 in
theorem short_bad (l : List V) (g : Nat) (w0 w : World) (h : RS w0 w g l) (hb : ∀ x t, l = x :: t → x.f0 ≠ 0 ∨ inr x.f1 = false) :
    Calls Try.prog 82 #[.pointer (some ⟨g, 0, none⟩)] w fun e w' => e = .panicked [fault 4] ∧ Below w0.heap.size w0 w' ∧ KeepBut w w' g none := by
  by_cases hc : ∀ x t, l = x :: t → x.f0 ≠ 0
  · have HN := Aside0.mk (long_bad l g w0 w h hc)
    clear h hb hc
    go_enter Try.func82, Try.ntmps82
    go_wp2_with (go_at_call 81; go_loud ((with_reducible refine HN.out.mono ?_); rintro e w' ⟨rfl, hb, hk⟩; have HR := Aside0.mk hb; have HK := Aside0.mk hk; clear hb hk))
    exact ⟨rfl, rfl, HR.out, HK.out⟩
  · obtain ⟨x, t, rfl, h0⟩ : ∃ x t, l = x :: t ∧ x.f0 = 0 := by
      cases l with
      | nil => exact absurd (fun x t e => by cases e) hc
      | cons x t =>
        refine ⟨x, t, rfl, ?_⟩
        by_cases e : x.f0 = 0
        · exact e
        · exact absurd (fun y u e2 => by cases e2; exact e) hc
    have hr : inr x.f1 = false := (hb x t rfl).resolve_left (fun e => e h0)
    have HN := Aside0.mk (long_ok x t g w0 w h h0)
    have hr2 := of_decide_eq_false hr
    clear h hb hc h0 hr
    generalize x.f1 = n at HN hr2
    by_cases r1 : -2147483648 ≤ n
    · have r2 : ¬ n ≤ 2147483647 := fun e => hr2 ⟨r1, e⟩
      have r3 : decide (n ≤ 2147483647) = false := decide_eq_false r2
      clear hr2
      go_enter Try.func82, Try.ntmps82
      go_wp2_with (first | (go_at_call 81; go_loud ((with_reducible refine HN.out.mono ?_); rintro e w' ⟨rfl, hr, hk⟩; have HR := Aside0.mk hr; have HK := Aside0.mk hk; clear hr hk)) | (go_at_call 86; go_loud ((with_reducible refine (must_bad _).mono ?_); rintro e w'' ⟨rfl, rfl⟩)))
      exact ⟨rfl, rfl, HR.out.hb, HK.out⟩
    · have r3 : decide (-2147483648 ≤ n) = false := decide_eq_false r1
      clear hr2
      go_enter Try.func82, Try.ntmps82
      go_wp2_with (first | (go_at_call 81; go_loud ((with_reducible refine HN.out.mono ?_); rintro e w' ⟨rfl, hr, hk⟩; have HR := Aside0.mk hr; have HK := Aside0.mk hk; clear hr hk)) | (go_at_call 86; go_loud ((with_reducible refine (must_bad _).mono ?_); rintro e w'' ⟨rfl, rfl⟩)))
      exact ⟨rfl, rfl, HR.out.hb, HK.out⟩
set_option maxHeartbeats 4000000 in
set_option maxRecDepth 100000 in
theorem flag_ok (x : V) (t : List V) (g : Nat) (w0 w : World) (h : RS w0 w g (x :: t)) (hk : x.f0 = 0) (hr : x.f1 = 0 ∨ x.f1 = 1) :
    Calls Try.prog 83 #[.pointer (some ⟨g, 0, none⟩)] w fun e w' => e = .returned (.bool (x.f1 == 1)) ∧ RS w0 w' g t ∧ KeepBut w w' g none := by
  have HN := Aside0.mk (long_ok x t g w0 w h hk)
  clear h hk
  generalize x.f1 = n at HN hr
  rcases hr with rfl | rfl
  all_goals
    go_enter Try.func83, Try.ntmps83
    go_wp2_with (first | (go_at_call 81; go_loud ((with_reducible refine HN.out.mono ?_); rintro e w' ⟨rfl, hr, hk⟩; have HR := Aside0.mk hr; have HK := Aside0.mk hk; clear hr hk)) | (go_at_call 86; go_loud ((with_reducible refine (must_ok _).mono ?_); rintro e w'' ⟨rfl, rfl⟩)))
    go_ret
    exact ⟨rfl, HR.out, HK.out⟩
set_option maxHeartbeats 4000000 in
set_option maxRecDepth 100000 in
theorem flag_bad (l : List V) (g : Nat) (w0 w : World) (h : RS w0 w g l) (hb : ∀ x t, l = x :: t → x.f0 ≠ 0 ∨ ¬ (x.f1 = 0 ∨ x.f1 = 1)) :
    Calls Try.prog 83 #[.pointer (some ⟨g, 0, none⟩)] w fun e w' => e = .panicked [fault 4] ∧ Below w0.heap.size w0 w' ∧ KeepBut w w' g none := by
  by_cases hc : ∀ x t, l = x :: t → x.f0 ≠ 0
  · have HN := Aside0.mk (long_bad l g w0 w h hc)
    clear h hb hc
    go_enter Try.func83, Try.ntmps83
    go_wp2_with (go_at_call 81; go_loud ((with_reducible refine HN.out.mono ?_); rintro e w' ⟨rfl, hb, hk⟩; have HR := Aside0.mk hb; have HK := Aside0.mk hk; clear hb hk))
    exact ⟨rfl, rfl, HR.out, HK.out⟩
  · obtain ⟨x, t, rfl, h0⟩ : ∃ x t, l = x :: t ∧ x.f0 = 0 := by
      cases l with
      | nil => exact absurd (fun x t e => by cases e) hc
      | cons x t =>
        refine ⟨x, t, rfl, ?_⟩
        by_cases e : x.f0 = 0
        · exact e
        · exact absurd (fun y u e2 => by cases e2; exact e) hc
    have hr := (hb x t rfl).resolve_left (fun e => e h0)
    have HN := Aside0.mk (long_ok x t g w0 w h h0)
    clear h hb hc h0
    generalize x.f1 = n at HN hr
    have r0 : (n == 0) = false := beq_eq_false_iff_ne.2 (fun e => hr (.inl e))
    have r1 : (n == 1) = false := beq_eq_false_iff_ne.2 (fun e => hr (.inr e))
    clear hr
    go_enter Try.func83, Try.ntmps83
    go_wp2_with (first | (go_at_call 81; go_loud ((with_reducible refine HN.out.mono ?_); rintro e w' ⟨rfl, hr, hk⟩; have HR := Aside0.mk hr; have HK := Aside0.mk hk; clear hr hk)) | (go_at_call 86; go_loud ((with_reducible refine (must_bad _).mono ?_); rintro e w'' ⟨rfl, rfl⟩)))
    exact ⟨rfl, rfl, HR.out.hb, HK.out⟩
end Go.Proofs.Ytjicfkmpgogppaa.Or
