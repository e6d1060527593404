/-
  What wakes of law 12 answers.
-/
import Derived.Test.YtjicfkmpgogppaaPGx4
import Derived.Test.YtjicfkmpgogppaaPGx9
import Derived.Test.YtjicfkmpgogppaaGrC
import Derived.LoopTactic
import Derived.Outline
import Derived.WalkSmall
namespace Go.Proofs.Ytjicfkmpgogppaa.Wg
set_option linter.unusedVariables false
set_option linter.unusedSimpArgs false
open Go Go.RowKit Go.Proofs.Ytjicfkmpgogppaa.Plain Go.Proofs.Ytjicfkmpgogppaa.Gr Go.Proofs.Ytjicfkmpgogppaa.PG Go.Proofs.YtjicfkmpgogppaaW.PrintWords Go.Proofs.YtjicfkmpgogppaaW.PrintLast Go.Proofs.YtjicfkmpgogppaaW.PrintMore
abbrev sa : ByteArray := ⟨#[97]⟩
abbrev sb : ByteArray := ⟨#[98]⟩
abbrev sc : ByteArray := ⟨#[99]⟩
abbrev sf : ByteArray := ⟨#[102]⟩
def nA (d : List ByteArray) : A_ := ⟨sa, d, 1, 1, -1, ⟨#[]⟩⟩
def nB : A_ := ⟨sb, [sa], 1, 1, -1, ⟨#[]⟩⟩
def nC : A_ := ⟨sc, [sa, sb], 1, 1, -1, ⟨#[]⟩⟩
theorem chk1 : chk sf [nA [], nB, nC] = (0, 0) := by decide +kernel
theorem chk2 : chk sf [nA [sc], nB, nC] = (0, 33) := by decide +kernel
theorem msk1 : ints ((List.range 3).map (msk [nA [], nB, nC])) = [0, 1, 3] := by decide +kernel
set_option maxHeartbeats 8000000 in
set_option maxRecDepth 100000 in
theorem lit_calls (s : ByteArray) (A : Option Addr) (n c : Nat) (w : World) : Calls Try.prog 58 #[.string s, .slice A n c] w fun e w' => e = .returned (.agg #[.string s, .slice A n c, .int .i64 1, .int .i64 1, .int .i64 (-1), .string ⟨#[]⟩]) ∧ Below w.heap.size w w' := by
  have hu := Try.underlying48
  go_enter Try.func58, Try.ntmps58
  go_upto_region 1 with fail
  have hx := blk_new w (.cells #[.string ⟨#[]⟩, .slice none 0 0, .int .i64 0, .int .i64 0, .int .i64 0, .string ⟨#[]⟩] 48)
  have hb := below_alloc (Below.refl w.heap.size w) (.cells #[.string ⟨#[]⟩, .slice none 0 0, .int .i64 0, .int .i64 0, .int .i64 0, .string ⟨#[]⟩] 48)
  have hg := Nat.le_refl w.heap.size
  generalize w.alloc (.cells #[.string ⟨#[]⟩, .slice none 0 0, .int .i64 0, .int .i64 0, .int .i64 0, .string ⟨#[]⟩] 48) = w2 at hx hb ⊢
  generalize hgg : w.heap.size = g at hx ⊢
  clear hg
  have hg : w.heap.size ≤ g := Nat.le_of_eq hgg
  have c0 : w2.cell? ⟨g, 0, none⟩ = some (.string ⟨#[]⟩) := (blk_cell hx 0).trans rfl
  have p0 := blk_frozen hx 0
  have c1 : w2.cell? ⟨g, 1, none⟩ = some (.slice none 0 0) := (blk_cell hx 1).trans rfl
  have p1 := blk_frozen hx 1
  have c2 : w2.cell? ⟨g, 2, none⟩ = some (.int .i64 0) := (blk_cell hx 2).trans rfl
  have p2 := blk_frozen hx 2
  have c3 : w2.cell? ⟨g, 3, none⟩ = some (.int .i64 0) := (blk_cell hx 3).trans rfl
  have p3 := blk_frozen hx 3
  have c4 : w2.cell? ⟨g, 4, none⟩ = some (.int .i64 0) := (blk_cell hx 4).trans rfl
  have p4 := blk_frozen hx 4
  have c5 : w2.cell? ⟨g, 5, none⟩ = some (.string ⟨#[]⟩) := (blk_cell hx 5).trans rfl
  have p5 := blk_frozen hx 5
  go_wp2
  have x0 := blk_put (cs := #[.string ⟨#[]⟩, .slice none 0 0, .int .i64 0, .int .i64 0, .int .i64 0, .string ⟨#[]⟩]) hx 0 (.string s) rfl
  have x1 := blk_put (cs := #[.string s, .slice none 0 0, .int .i64 0, .int .i64 0, .int .i64 0, .string ⟨#[]⟩]) x0 1 (.slice A n c) rfl
  have x2 := blk_put (cs := #[.string s, .slice A n c, .int .i64 0, .int .i64 0, .int .i64 0, .string ⟨#[]⟩]) x1 2 (.int .i64 1) rfl
  have x3 := blk_put (cs := #[.string s, .slice A n c, .int .i64 1, .int .i64 0, .int .i64 0, .string ⟨#[]⟩]) x2 3 (.int .i64 1) rfl
  have x4 := blk_put (cs := #[.string s, .slice A n c, .int .i64 1, .int .i64 1, .int .i64 0, .string ⟨#[]⟩]) x3 4 (.int .i64 (-1)) rfl
  have x5 := blk_put (cs := #[.string s, .slice A n c, .int .i64 1, .int .i64 1, .int .i64 (-1), .string ⟨#[]⟩]) x4 5 (.string ⟨#[]⟩) rfl
  have hb2 := ((((((hb.setCell (p := ⟨g, 0, none⟩) hg (.string s)).setCell (p := ⟨g, 1, none⟩) hg (.slice A n c)).setCell (p := ⟨g, 2, none⟩) hg (.int .i64 1)).setCell (p := ⟨g, 3, none⟩) hg (.int .i64 1)).setCell (p := ⟨g, 4, none⟩) hg (.int .i64 (-1))).setCell (p := ⟨g, 5, none⟩) hg (.string ⟨#[]⟩))
  refine bodyPost_ret (results_single Try.results58 (.cell g 48 #[.string s, .slice A n c, .int .i64 1, .int .i64 1, .int .i64 (-1), .string ⟨#[]⟩] (0, 0) _ rfl x5 Try.underlying48 rfl (by kernel_rfl) .nil)) rfl ?_
  exact ⟨rfl, hb2⟩
theorem deps3 (d : List ByteArray) (hd : d.length ≤ 5) : ∀ i, i < [nA d, nB, nC].length → (nd [nA d, nB, nC] i).f1.length ≤ 9223372036854775806
  | 0, _ => by show d.length ≤ _; omega
  | 1, _ => (by decide : nB.f1.length ≤ 9223372036854775806)
  | 2, _ => (by decide : nC.f1.length ≤ 9223372036854775806)
  | i + 3, h => absurd h (by simp only [List.length_cons, List.length_nil]; omega)
theorem row3 {W1 : World} {g : Nat} {A0 A1 A2 : Option Addr} {n0 n1 n2 : Nat} (x y z : A_) (h : W1.heap[g]? = some (.cells #[.string x.f0, .slice A0 x.f1.length n0, .int .i64 x.f2, .int .i64 x.f3, .int .i64 x.f4, .string x.f5, .string y.f0, .slice A1 y.f1.length n1, .int .i64 y.f2, .int .i64 y.f3, .int .i64 y.f4, .string y.f5, .string z.f0, .slice A2 z.f1.length n2, .int .i64 z.f2, .int .i64 z.f3, .int .i64 z.f4, .string z.f5] 48 (0, 0)))
    (hx : Kd.C Kd.string W1 A0 x.f1.length x.f1) (lx : x.f1.length ≤ n0) (hy : Kd.C Kd.string W1 A1 y.f1.length y.f1) (ly : y.f1.length ≤ n1) (hz : Kd.C Kd.string W1 A2 z.f1.length z.f1) (lz : z.f1.length ≤ n2) :
    Kd.C k48 W1 (some ⟨g, 0, none⟩) 3 [x, y, z] := by
  have hadd : ∀ n : Nat, (⟨g, 0, none⟩ : Addr).add n = ⟨g, n, none⟩ := fun n => by unfold Addr.add; split <;> simp_all
  refine ⟨rfl, by decide, fun _ => ⟨⟨g, 0, none⟩, rfl, fun j p hj => ?_⟩⟩
  match j, hj with
  | 0, hj =>
    obtain rfl : x = p := by simpa using hj
    refine ⟨_, rfl, k48_mk W1 x lx hx, fun i u hi => ?_⟩
    rw [hadd, blk_cell h]
    match i, hi with
    | 0, hi => exact hi
    | 1, hi => exact hi
    | 2, hi => exact hi
    | 3, hi => exact hi
    | 4, hi => exact hi
    | 5, hi => exact hi
    | i + 6, hi => simp at hi
  | 1, hj =>
    obtain rfl : y = p := by simpa using hj
    refine ⟨_, rfl, k48_mk W1 y ly hy, fun i u hi => ?_⟩
    rw [hadd, blk_cell h]
    match i, hi with
    | 0, hi => exact hi
    | 1, hi => exact hi
    | 2, hi => exact hi
    | 3, hi => exact hi
    | 4, hi => exact hi
    | 5, hi => exact hi
    | i + 6, hi => simp at hi
  | 2, hj =>
    obtain rfl : z = p := by simpa using hj
    refine ⟨_, rfl, k48_mk W1 z lz hz, fun i u hi => ?_⟩
    rw [hadd, blk_cell h]
    match i, hi with
    | 0, hi => exact hi
    | 1, hi => exact hi
    | 2, hi => exact hi
    | 3, hi => exact hi
    | 4, hi => exact hi
    | 5, hi => exact hi
    | i + 6, hi => simp at hi
  | j + 3, hj => simp at hj
theorem str1 {W1 : World} {g : Nat} {a : ByteArray} (h : W1.heap[g]? = some (.cells #[.string a] 9 (0, 0))) : Kd.C Kd.string W1 (some ⟨g, 0, none⟩) 1 [a] := by
  have hadd : ∀ n : Nat, (⟨g, 0, none⟩ : Addr).add n = ⟨g, n, none⟩ := fun n => by unfold Addr.add; split <;> simp_all
  refine ⟨rfl, by decide, fun _ => ⟨⟨g, 0, none⟩, rfl, fun j p hj => ?_⟩⟩
  match j, hj with
  | 0, hj =>
    obtain rfl : a = p := by simpa using hj
    refine ⟨[.string a], rfl, rfl, fun i u hi => ?_⟩
    rw [hadd, blk_cell h]
    match i, hi with
    | 0, hi => exact hi
    | i + 1, hi => simp at hi
  | j + 1, hj => simp at hj
theorem str2 {W1 : World} {g : Nat} {a b : ByteArray} (h : W1.heap[g]? = some (.cells #[.string a, .string b] 9 (0, 0))) : Kd.C Kd.string W1 (some ⟨g, 0, none⟩) 2 [a, b] := by
  have hadd : ∀ n : Nat, (⟨g, 0, none⟩ : Addr).add n = ⟨g, n, none⟩ := fun n => by unfold Addr.add; split <;> simp_all
  refine ⟨rfl, by decide, fun _ => ⟨⟨g, 0, none⟩, rfl, fun j p hj => ?_⟩⟩
  match j, hj with
  | 0, hj =>
    obtain rfl : a = p := by simpa using hj
    refine ⟨[.string a], rfl, rfl, fun i u hi => ?_⟩
    rw [hadd, blk_cell h]
    match i, hi with
    | 0, hi => exact hi
    | i + 1, hi => simp at hi
  | 1, hj =>
    obtain rfl : b = p := by simpa using hj
    refine ⟨[.string b], rfl, rfl, fun i u hi => ?_⟩
    rw [hadd, blk_cell h]
    match i, hi with
    | 0, hi => exact hi
    | i + 1, hi => simp at hi
  | j + 2, hj => simp at hj
set_option maxHeartbeats 8000000 in
set_option maxRecDepth 100000 in
theorem wakes_calls (w : World) : Calls Try.prog 17 #[] w fun e w' => e = .returned (.bool true) ∧ Below w.heap.size w w' := by
  have hu := Try.underlying27
  have hu2 := Try.underlying48
  go_enter Try.func17, Try.ntmps17
  go_upto_region 3 with (first
    | (go_at_call 58; ((with_reducible refine (lit_calls sa none 0 0 _).mono ?_); rintro e w1 ⟨rfl, hb1⟩; have D1 := blk_new w1 (.cells #[.string sa] 9)))
    | (go_at_call 58; ((with_reducible refine (lit_calls sb (some ⟨w1.heap.size, 0, none⟩) 1 1 _).mono ?_); rintro e w2 ⟨rfl, hb2⟩; have D2 := blk_new w2 (.cells #[.string sa, .string sb] 9)))
    | (go_at_call 58; ((with_reducible refine (lit_calls sc (some ⟨w2.heap.size, 0, none⟩) 2 2 _).mono ?_); rintro e w3 ⟨rfl, hb3⟩)))
  have hd1 := blk_below (blk_alloc (blk_below D1 hb2) (.cells #[.string sa, .string sb] 9)) hb3
  have hd2 := blk_below D2 hb3
  have hB := below_step (below_step (below_step (below_alloc hb1 (.cells #[.string sa] 9)) hb2 |> fun h => below_alloc h (.cells #[.string sa, .string sb] 9)) hb3) (below_alloc (below_alloc (Below.refl w3.heap.size w3) (.cells #[.string sa, .slice none 0 0, .int .i64 1, .int .i64 1, .int .i64 (-1), .string ⟨#[]⟩, .string sb, .slice (some ⟨w1.heap.size, 0, none⟩) 1 1, .int .i64 1, .int .i64 1, .int .i64 (-1), .string ⟨#[]⟩, .string sc, .slice (some ⟨w2.heap.size, 0, none⟩) 2 2, .int .i64 1, .int .i64 1, .int .i64 (-1), .string ⟨#[]⟩] 48)) (.cells #[.string sf, .slice (some ⟨w3.heap.size, 0, none⟩) 3 3] 27))
  have N1 := Aside0.mk (Nat.ne_of_lt (blk_lt hd1))
  have N2 := Aside0.mk (Nat.ne_of_lt (blk_lt hd2))
  have G3 := Aside0.mk (below_size (below_step (below_alloc (below_step (below_alloc hb1 (.cells #[.string sa] 9)) hb2) (.cells #[.string sa, .string sb] 9)) hb3))
  replace hd1 := blk_alloc (blk_alloc hd1 (.cells #[.string sa, .slice none 0 0, .int .i64 1, .int .i64 1, .int .i64 (-1), .string ⟨#[]⟩, .string sb, .slice (some ⟨w1.heap.size, 0, none⟩) 1 1, .int .i64 1, .int .i64 1, .int .i64 (-1), .string ⟨#[]⟩, .string sc, .slice (some ⟨w2.heap.size, 0, none⟩) 2 2, .int .i64 1, .int .i64 1, .int .i64 (-1), .string ⟨#[]⟩] 48)) (.cells #[.string sf, .slice (some ⟨w3.heap.size, 0, none⟩) 3 3] 27)
  replace hd2 := blk_alloc (blk_alloc hd2 (.cells #[.string sa, .slice none 0 0, .int .i64 1, .int .i64 1, .int .i64 (-1), .string ⟨#[]⟩, .string sb, .slice (some ⟨w1.heap.size, 0, none⟩) 1 1, .int .i64 1, .int .i64 1, .int .i64 (-1), .string ⟨#[]⟩, .string sc, .slice (some ⟨w2.heap.size, 0, none⟩) 2 2, .int .i64 1, .int .i64 1, .int .i64 (-1), .string ⟨#[]⟩] 48)) (.cells #[.string sf, .slice (some ⟨w3.heap.size, 0, none⟩) 3 3] 27)
  have hrow := blk_alloc (blk_new w3 (.cells #[.string sa, .slice none 0 0, .int .i64 1, .int .i64 1, .int .i64 (-1), .string ⟨#[]⟩, .string sb, .slice (some ⟨w1.heap.size, 0, none⟩) 1 1, .int .i64 1, .int .i64 1, .int .i64 (-1), .string ⟨#[]⟩, .string sc, .slice (some ⟨w2.heap.size, 0, none⟩) 2 2, .int .i64 1, .int .i64 1, .int .i64 (-1), .string ⟨#[]⟩] 48)) (.cells #[.string sf, .slice (some ⟨w3.heap.size, 0, none⟩) 3 3] 27)
  have hf : ((w3.alloc (.cells #[.string sa, .slice none 0 0, .int .i64 1, .int .i64 1, .int .i64 (-1), .string ⟨#[]⟩, .string sb, .slice (some ⟨w1.heap.size, 0, none⟩) 1 1, .int .i64 1, .int .i64 1, .int .i64 (-1), .string ⟨#[]⟩, .string sc, .slice (some ⟨w2.heap.size, 0, none⟩) 2 2, .int .i64 1, .int .i64 1, .int .i64 (-1), .string ⟨#[]⟩] 48)).alloc (.cells #[.string sf, .slice (some ⟨w3.heap.size, 0, none⟩) 3 3] 27)).heap[w3.heap.size + 1]? = some (.cells #[.string sf, .slice (some ⟨w3.heap.size, 0, none⟩) 3 3] 27 (0, 0)) := by
    have h := blk_new (w3.alloc (.cells #[.string sa, .slice none 0 0, .int .i64 1, .int .i64 1, .int .i64 (-1), .string ⟨#[]⟩, .string sb, .slice (some ⟨w1.heap.size, 0, none⟩) 1 1, .int .i64 1, .int .i64 1, .int .i64 (-1), .string ⟨#[]⟩, .string sc, .slice (some ⟨w2.heap.size, 0, none⟩) 2 2, .int .i64 1, .int .i64 1, .int .i64 (-1), .string ⟨#[]⟩] 48)) (.cells #[.string sf, .slice (some ⟨w3.heap.size, 0, none⟩) 3 3] 27)
    rw [show (w3.alloc (.cells #[.string sa, .slice none 0 0, .int .i64 1, .int .i64 1, .int .i64 (-1), .string ⟨#[]⟩, .string sb, .slice (some ⟨w1.heap.size, 0, none⟩) 1 1, .int .i64 1, .int .i64 1, .int .i64 (-1), .string ⟨#[]⟩, .string sc, .slice (some ⟨w2.heap.size, 0, none⟩) 2 2, .int .i64 1, .int .i64 1, .int .i64 (-1), .string ⟨#[]⟩] 48)).heap.size = w3.heap.size + 1 from Array.size_push _] at h
    exact h
  clear hb1 hb2 hb3 D1 D2
  generalize (w3.alloc (.cells #[.string sa, .slice none 0 0, .int .i64 1, .int .i64 1, .int .i64 (-1), .string ⟨#[]⟩, .string sb, .slice (some ⟨w1.heap.size, 0, none⟩) 1 1, .int .i64 1, .int .i64 1, .int .i64 (-1), .string ⟨#[]⟩, .string sc, .slice (some ⟨w2.heap.size, 0, none⟩) 2 2, .int .i64 1, .int .i64 1, .int .i64 (-1), .string ⟨#[]⟩] 48)).alloc (.cells #[.string sf, .slice (some ⟨w3.heap.size, 0, none⟩) 3 3] 27) = w4 at hd1 hd2 hB hrow hf ⊢
  generalize w1.heap.size = g1 at hd1 hrow N1 ⊢
  generalize w2.heap.size = g2 at hd2 hrow N2 ⊢
  generalize w3.heap.size = g3 at hrow hf N1 N2 G3 ⊢
  obtain ⟨K1, k1⟩ := check_some sf [nA [], nB, nC] (deps3 [] (by decide))
  obtain ⟨K2, k2⟩ := masks_some sf [nA [], nB, nC] (by decide) (deps3 [] (by decide))
  obtain ⟨K3, k3⟩ := check_some sf [nA [sc], nB, nC] (deps3 [sc] (by decide))
  have k1 := Aside0.mk ((k1 (K1 + K2 + K3) (by omega)).trans (congrArg some chk1))
  have k2' : graph_Masks.f (K1 + K2 + K3) sf [nA [], nB, nC] = some [0, 1, 3] := by
    have h := k2 (K1 + K3)
    rw [show K1 + K3 + K2 = K1 + K2 + K3 by omega] at h
    exact h.trans (congrArg some msk1)
  have k2 := Aside0.mk k2'
  have k3 := Aside0.mk ((k3 (K1 + K2 + K3) (by omega)).trans (congrArg some chk2))
  clear k2'
  generalize K1 + K2 + K3 = K at k1 k2 k3
  have hr1 := row3 (nA []) nB nC hrow (Kd.C_nil _ _) (Nat.zero_le _) (str1 hd1) (Nat.le_refl _) (str2 hd2) (Nat.le_refl _)
  have HC := Aside0.mk (show Calls Try.prog 15 #[.agg #[.string sf, .slice (some ⟨g3, 0, none⟩) 3 3]] w4 (fun e w' => e = .returned (.tuple #[.int .i64 0, .int .i64 0]) ∧ Below w4.heap.size w4 w') from graph_Check.calls K sf (some ⟨g3, 0, none⟩) 3 [nA [], nB, nC] 0 0 w4 hr1 (by decide) k1.out)
  clear hr1
  have f0 := (blk_cell hf 0).trans rfl
  have f1 := (blk_cell hf 1).trans rfl
  go_upto_region 4 with (go_at_call 15; (with_reducible refine HC.out.mono ?_); rintro e w5 ⟨rfl, hb⟩; have hd1_ := blk_below hd1 hb; have hd2_ := blk_below hd2 hb; have hrow_ := blk_below hrow hb; have hf_ := blk_below hf hb; have hB_ := below_step hB hb; clear hd1 hd2 hrow hf hB; have hd1 := hd1_; have hd2 := hd2_; have hrow := hrow_; have hf := hf_; have hB := hB_; clear hd1_ hd2_ hrow_ hf_ hB_; clear hb)
  clear f0 f1 HC
  have hr1 := row3 (nA []) nB nC hrow (Kd.C_nil _ _) (Nat.zero_le _) (str1 hd1) (Nat.le_refl _) (str2 hd2) (Nat.le_refl _)
  have HC := Aside0.mk (show Calls Try.prog 18 #[.agg #[.string sf, .slice (some ⟨g3, 0, none⟩) 3 3]] w5 (fun e w' => ∃ v0_ : Value, e = .returned v0_ ∧ Kd.R (Kd.int .u32) 43 w' w5.heap.size (fun _ => True) v0_ [0, 1, 3] ∧ Below w5.heap.size w5 w') from graph_Masks.calls K sf (some ⟨g3, 0, none⟩) 3 [nA [], nB, nC] [0, 1, 3] w5 hr1 (by decide) k2.out)
  clear hr1
  have f0 := (blk_cell hf 0).trans rfl
  have f1 := (blk_cell hf 1).trans rfl
  have hz5 := below_size hB
  go_upto_region 5 with (go_at_call 18; (with_reducible refine HC.out.mono ?_); rintro e w6 ⟨vm, rfl, hm, hb⟩; have hd1_ := blk_below hd1 hb; have hd2_ := blk_below hd2 hb; have hrow_ := blk_below hrow hb; have hf_ := blk_below hf hb; have hB_ := below_step hB hb; clear hd1 hd2 hrow hf hB; have hd1 := hd1_; have hd2 := hd2_; have hrow := hrow_; have hf := hf_; have hB := hB_; clear hd1_ hd2_ hrow_ hf_ hB_; have hM := Aside0.mk hm; clear hm hb)
  clear f0 f1 HC
  obtain ⟨gm, cm, rfl, hgm, _, _⟩ := Kd.R_form hM.out (by decide)
  have f1 := (blk_cell (blk_alloc hf (.cells #[.string sc] 9)) 1).trans rfl
  have f1' := (blk_cell hf 1).trans rfl
  have e1 := (blk_cell (blk_alloc hrow (.cells #[.string sc] 9)) 1).trans rfl
  have e2 := blk_frozen (blk_alloc hrow (.cells #[.string sc] 9)) 1
  go_upto_region 6 with fail
  have hd1_ := blk_far (p := ⟨g3, 1, none⟩) (blk_alloc hd1 (.cells #[.string sc] 9)) N1.out (.slice (some ⟨w6.heap.size, 0, none⟩) 1 1)
  have hd2_ := blk_far (p := ⟨g3, 1, none⟩) (blk_alloc hd2 (.cells #[.string sc] 9)) N2.out (.slice (some ⟨w6.heap.size, 0, none⟩) 1 1)
  have hd3 := blk_far (p := ⟨g3, 1, none⟩) (blk_new w6 (.cells #[.string sc] 9)) (Nat.ne_of_gt (blk_lt hrow)) (.slice (some ⟨w6.heap.size, 0, none⟩) 1 1)
  have hrow_ := blk_put (blk_alloc hrow (.cells #[.string sc] 9)) 1 (.slice (some ⟨w6.heap.size, 0, none⟩) 1 1) rfl
  have hf_ := blk_far (p := ⟨g3, 1, none⟩) (blk_alloc hf (.cells #[.string sc] 9)) (Nat.succ_ne_self g3) (.slice (some ⟨w6.heap.size, 0, none⟩) 1 1)
  have hB_ := below_set (j := 1) (v := (.slice (some ⟨w6.heap.size, 0, none⟩) 1 1)) (below_alloc hB (.cells #[.string sc] 9)) G3.out
  have hM_ := Aside0.mk (Kd.R_set (Kd.R_alloc hM.out (.cells #[.string sc] 9)) (blk_alloc hrow (.cells #[.string sc] 9)) (by decide) 1 (.slice (some ⟨w6.heap.size, 0, none⟩) 1 1))
  clear hd1 hd2 hrow hf hB hM f1 f1' e1 e2
  have hd1 := hd1_
  have hd2 := hd2_
  have hrow := hrow_
  have hf := hf_
  have hB := hB_
  have hM := hM_
  clear hd1_ hd2_ hrow_ hf_ hB_ hM_
  generalize (w6.alloc (.cells #[.string sc] 9)).setCell ⟨g3, 1, none⟩ (.slice (some ⟨w6.heap.size, 0, none⟩) 1 1) = w7 at hd1 hd2 hd3 hrow hf hB hM ⊢
  generalize w6.heap.size = g4 at hd3 hrow ⊢
  have hr1 := row3 (nA [sc]) nB nC hrow (str1 hd3) (Nat.le_refl _) (str1 hd1) (Nat.le_refl _) (str2 hd2) (Nat.le_refl _)
  have HC := Aside0.mk (show Calls Try.prog 15 #[.agg #[.string sf, .slice (some ⟨g3, 0, none⟩) 3 3]] w7 (fun e w' => e = .returned (.tuple #[.int .i64 0, .int .i64 33]) ∧ Below w7.heap.size w7 w') from graph_Check.calls K sf (some ⟨g3, 0, none⟩) 3 [nA [sc], nB, nC] 0 33 w7 hr1 (by decide) k3.out)
  clear hr1
  have f0 := (blk_cell hf 0).trans rfl
  have f1 := (blk_cell hf 1).trans rfl
  go_upto_region 7 with (go_at_call 15; (with_reducible refine HC.out.mono ?_); rintro e w8 ⟨rfl, hb⟩; have hB8 := Aside0.mk (below_step hB hb); have m1 := (Kd.R_cell (0 : Int) (Kd.R_below hM.out hb) 1 (by decide) (by decide)).1; have m2 := (Kd.R_cell (0 : Int) (Kd.R_below hM.out hb) 2 (by decide) (by decide)).1; clear hb)
  clear f0 f1 HC hd1 hd2 hd3 hrow hf hB hM
  have m1' : w8.cell? ⟨gm, 1, none⟩ = some (.int .u32 1) := m1
  have m2' : w8.cell? ⟨gm, 2, none⟩ = some (.int .u32 3) := m2
  clear m1 m2
  go_wp2
  go_ret
  exact ⟨rfl, hB8.out⟩
end Go.Proofs.Ytjicfkmpgogppaa.Wg
