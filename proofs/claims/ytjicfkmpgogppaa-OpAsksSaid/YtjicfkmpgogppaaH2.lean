/-
  pack's reader of a value: the ways that end in a panic.
  pack's reader of a value: a list's ways that end in a panic.
  pack's reader and the plain reader are one.
  pack's reader of a value and the plain reader are one.
  pack.Get: the deferred closure, by its two contracts; the whole.
-/
import Derived.Test.YtjicfkmpgogppaaH0
import Derived.Test.YtjicfkmpgogppaaNodW
import Derived.Test.YtjicfkmpgogppaaPAx11
import Derived.Test.YtjicfkmpgogppaaH1
import Derived.Tactics
import Derived.Tactics2
import Derived.Defers
import Derived.Laws.Pointers
-- printed by a program of this session out of the translation; see NOTES.md
namespace Go.Proofs.Ytjicfkmpgogppaa.PA
open Go.RowKit Go.Proofs.YtjicfkmpgogppaaW.PrintWords Go.Proofs.YtjicfkmpgogppaaW.PrintLast Go.Proofs.YtjicfkmpgogppaaW.PrintMore
attribute [local go_sem] max2_int min2_int max_two min_two max_three min_three max_four min_four   -- for this text's walks alone
set_option linter.unusedVariables false
set_option linter.unusedSimpArgs false

/-! ### graph_node: function 62 -/
def graph_node.f (a0_0 : Int) (a0_1 : Int) (a0_2 : ByteArray) (l0_3 : List (S54)) : Option (ByteArray × List ByteArray × Int × Int × Int × ByteArray × Bool) := if (l0_3.all fun y => decide (y.f3.length ≤ 1000000)) = true then some (Gv.nodeT (Gv.nodeR ⟨a0_0, a0_1, a0_2, l0_3⟩)) else none
theorem graph_node.calls (a0_0 : Int) (a0_1 : Int) (a0_2 : ByteArray) (A0_3 : Option Addr) (c0_3 : Nat) (l0_3 : List (S54)) (r1 : ByteArray) (r2 : List ByteArray) (r3 : Int) (r4 : Int) (r5 : Int) (r6 : ByteArray) (r7 : Bool) (w : World) (hr0_3 : Kd.C k54 w A0_3 l0_3.length l0_3) (hc0_3 : l0_3.length ≤ c0_3) (h : graph_node.f a0_0 a0_1 a0_2 l0_3 = some (r1, r2, r3, r4, r5, r6, r7)) :
  Calls Try.prog 62 #[.agg #[.int .i64 a0_0, .int .i64 a0_1, .string a0_2, .slice A0_3 l0_3.length c0_3]] w fun e w' => ∃ v1_ : Value, e = .returned (.tuple #[.agg #[.string r1, v1_, .int .i64 r3, .int .i64 r4, .int .i64 r5, .string r6], .bool r7]) ∧ Kd.R Kd.string 9 w' w.heap.size (fun _ => True) v1_ r2 ∧ Below w.heap.size w w' := by
 unfold graph_node.f at h
 split at h
 ·rename_i hl
  rw [List.all_eq_true] at hl
  have h := Option.some.inj h
  have hk := Gv.shaped_some a0_0 a0_1 a0_2 l0_3 [1, 2, 0, 0, 0, 1] (by decide) 0
  refine (Gn.node_walk ⟨a0_0, a0_1, a0_2, l0_3⟩ A0_3 c0_3 w hr0_3 hc0_3 (fun y hy => of_decide_eq_true (hl y hy)) _ hk).mono fun e w' hp => ?_
  rw [h] at hp
  exact hp
 ·cases h

end Go.Proofs.Ytjicfkmpgogppaa.PA
namespace Go.Proofs.Ytjicfkmpgogppaa.Rd
set_option linter.unusedVariables false
set_option linter.unusedSimpArgs false
open Go Go.RowKit Go.Proofs.Ytjicfkmpgogppaa.Mt Go.Proofs.Ytjicfkmpgogppaa.PA Go.Proofs.YtjicfkmpgogppaaW.PrintWords Go.Proofs.YtjicfkmpgogppaaW.PrintLast Go.Proofs.YtjicfkmpgogppaaW.PrintMore
set_option maxHeartbeats 4000000 in
set_option maxRecDepth 100000 in
theorem value_bad1 (s : ByteArray) (i d kd i1 c : Int) (g : Nat) (w0 w : World) (hI : IsS183 w0 w g s i) (hB : Below w0.heap.size w0 w) (hc : c ≠ 0) (h1 : words_Get.f 20 s i 1 = some (kd, i1, c)) :
    Calls Try.prog 98 #[.pointer (some ⟨g, 0, none⟩), .int .i64 d] w fun e w' => e = .panicked [fault c] ∧ KeepBut w w' g none ∧ Below w0.heap.size w0 w' := by
  have HI := Aside0.mk hI
  have HB := Aside0.mk hB
  have HF := Aside0.mk h1
  clear hI hB h1
  have HC := Aside0.mk hc
  clear hc
  have hu := Try.underlying54
  have hu2 := Try.underlying183
  go_enter Try.func98, Try.ntmps98
  go_wp2_with (go_at_call 108; (with_reducible refine (number_bad s i 1 kd i1 c g _ ?b HC.out HF.out).mono ?_); (case b => exact (HI.out.alloc _).1); rintro e w1 ⟨rfl, nd, hw⟩; have HK1 : Aside0 (KeepBut w w1 g none) := ⟨by rw [hw]; exact keep_drewN (keep_alloc (KeepBut.refl w g none) _) nd⟩; have HB1 : Aside0 (Below w0.heap.size w0 w1) := ⟨by rw [hw]; exact pw_below_drewN (below_alloc HB.out _) nd⟩; clear hw)
  exact ⟨rfl, rfl, HK1.out, HB1.out⟩
set_option maxHeartbeats 4000000 in
set_option maxRecDepth 100000 in
theorem value_kind (s : ByteArray) (i d kd i1 : Int) (g : Nat) (w0 w : World) (hI : IsS183 w0 w g s i) (hB : Below w0.heap.size w0 w) (h1 : pack_reader_number.f 20 s i 1 = some (kd, s, i1)) (hkd : kd ≠ 1 ∧ kd ≠ 2 ∧ kd ≠ 3) :
    Calls Try.prog 98 #[.pointer (some ⟨g, 0, none⟩), .int .i64 d] w fun e w' => e = .panicked [fault 4] ∧ KeepBut w w' g none ∧ Below w0.heap.size w0 w' := by
  have HI := Aside0.mk hI
  have HB := Aside0.mk hB
  have HF := Aside0.mk h1
  clear hI hB h1
  have k1 : (kd == 1) = false := beq_eq_false_iff_ne.mpr (by omega)
  have k2 : (kd == 2) = false := beq_eq_false_iff_ne.mpr (by omega)
  have k3 : (kd == 3) = false := beq_eq_false_iff_ne.mpr (by omega)
  have hu := Try.underlying54
  have hu2 := Try.underlying183
  go_enter Try.func98, Try.ntmps98
  go_wp2_with (go_at_call 108; (with_reducible refine (pack_reader_number.calls 20 g s i 1 kd s i1 w0 _ ?b ?bb HF.out).mono ?_); (case b => exact HI.out.alloc _); (case bb => exact below_alloc HB.out _); rintro e w1 ⟨rfl, hi, hb, hk⟩; have HI1 := Aside0.mk hi; have HB1 := Aside0.mk hb; have HK1 := Aside0.mk ((keep_alloc (KeepBut.refl w g none) _).trans hk (.inl rfl)); clear hi hb hk)
  exact ⟨rfl, rfl, HK1.out, HB1.out⟩
set_option maxHeartbeats 4000000 in
set_option maxRecDepth 100000 in
theorem value_int (s : ByteArray) (i d kd i1 c : Int) (g : Nat) (w0 w : World) (hI : IsS183 w0 w g s i) (hB : Below w0.heap.size w0 w) (h1 : pack_reader_number.f 20 s i 1 = some (kd, s, i1)) (hkd : kd = 1) (h2 : ∀ W, IsS183 w0 W g s i1 → Below w0.heap.size w0 W → Calls Try.prog 109 #[.pointer (some ⟨g, 0, none⟩)] W fun e W' => e = .panicked [fault c] ∧ KeepBut W W' g none ∧ Below w0.heap.size w0 W') :
    Calls Try.prog 98 #[.pointer (some ⟨g, 0, none⟩), .int .i64 d] w fun e w' => e = .panicked [fault c] ∧ KeepBut w w' g none ∧ Below w0.heap.size w0 w' := by
  have HI := Aside0.mk hI
  have HB := Aside0.mk hB
  have HF := Aside0.mk h1
  clear hI hB h1
  have HG := Aside0.mk h2
  clear h2
  have k1 : (kd == 1) = true := beq_iff_eq.mpr hkd
  have hu := Try.underlying54
  have hu2 := Try.underlying183
  go_enter Try.func98, Try.ntmps98
  go_wp2_with (first | (go_at_call 108; (with_reducible refine (pack_reader_number.calls 20 g s i 1 kd s i1 w0 _ ?b ?bb HF.out).mono ?_); (case b => exact HI.out.alloc _); (case bb => exact below_alloc HB.out _); rintro e w1 ⟨rfl, hi, hb, hk⟩; have HI1 := Aside0.mk hi; have HB1 := Aside0.mk hb; have HK1 := Aside0.mk ((keep_alloc (KeepBut.refl w g none) _).trans hk (.inl rfl)); clear hi hb hk) | (go_at_call 109; (with_reducible refine (HG.out _ HI1.out HB1.out).mono ?_); rintro e w2 ⟨rfl, hk, hb⟩; have HK2 := Aside0.mk (HK1.out.trans hk (.inl rfl)); have HB2 := Aside0.mk hb; clear hk hb))
  exact ⟨rfl, rfl, HK2.out, HB2.out⟩
set_option maxHeartbeats 4000000 in
set_option maxRecDepth 100000 in
theorem value_deep (s : ByteArray) (i d kd i1 : Int) (g : Nat) (w0 w : World) (hI : IsS183 w0 w g s i) (hB : Below w0.heap.size w0 w) (h1 : pack_reader_number.f 20 s i 1 = some (kd, s, i1)) (hkd : kd = 3) (hd : 8 ≤ d) :
    Calls Try.prog 98 #[.pointer (some ⟨g, 0, none⟩), .int .i64 d] w fun e w' => e = .panicked [fault 5] ∧ KeepBut w w' g none ∧ Below w0.heap.size w0 w' := by
  have HI := Aside0.mk hI
  have HB := Aside0.mk hB
  have HF := Aside0.mk h1
  clear hI hB h1
  have k1 : (kd == 1) = false := beq_eq_false_iff_ne.mpr (by omega)
  have k2 : (kd == 2) = false := beq_eq_false_iff_ne.mpr (by omega)
  have k3 : (kd == 3) = true := beq_iff_eq.mpr hkd
  have hd1 : decide (8 ≤ d) = true := decide_eq_true (by omega)
  have hu := Try.underlying54
  have hu2 := Try.underlying183
  go_enter Try.func98, Try.ntmps98
  go_wp2_with (first | (go_at_call 108; (with_reducible refine (pack_reader_number.calls 20 g s i 1 kd s i1 w0 _ ?b ?bb HF.out).mono ?_); (case b => exact HI.out.alloc _); (case bb => exact below_alloc HB.out _); rintro e w1 ⟨rfl, hi, hb, hk⟩; have HI1 := Aside0.mk hi; have HB1 := Aside0.mk hb; have HK1 := Aside0.mk ((keep_alloc (KeepBut.refl w g none) _).trans hk (.inl rfl)); clear hi hb hk) | (go_at_call 99; (with_reducible refine (must_bad 5 (by decide) _).mono ?_); rintro e w3 ⟨rfl, rfl⟩))
  exact ⟨rfl, rfl, HK1.out, HB1.out⟩
set_option maxHeartbeats 4000000 in
set_option maxRecDepth 100000 in
theorem value_count (s : ByteArray) (i d kd i1 n i2 c : Int) (g : Nat) (w0 w : World) (hI : IsS183 w0 w g s i) (hB : Below w0.heap.size w0 w) (hc : c ≠ 0) (h1 : pack_reader_number.f 20 s i 1 = some (kd, s, i1)) (hkd : kd = 3) (hd : d < 8) (h2 : words_Get.f 20 s i1 2 = some (n, i2, c)) :
    Calls Try.prog 98 #[.pointer (some ⟨g, 0, none⟩), .int .i64 d] w fun e w' => e = .panicked [fault c] ∧ KeepBut w w' g none ∧ Below w0.heap.size w0 w' := by
  have HI := Aside0.mk hI
  have HB := Aside0.mk hB
  have HF := Aside0.mk h1
  clear hI hB h1
  have HC := Aside0.mk hc
  have HG := Aside0.mk h2
  clear hc h2
  have k1 : (kd == 1) = false := beq_eq_false_iff_ne.mpr (by omega)
  have k2 : (kd == 2) = false := beq_eq_false_iff_ne.mpr (by omega)
  have k3 : (kd == 3) = true := beq_iff_eq.mpr hkd
  have hd1 : decide (8 ≤ d) = false := decide_eq_false (by omega)
  have hu := Try.underlying54
  have hu2 := Try.underlying183
  go_enter Try.func98, Try.ntmps98
  go_wp2_with (first | (go_at_call 108; (with_reducible refine (pack_reader_number.calls 20 g s i 1 kd s i1 w0 _ ?b ?bb HF.out).mono ?_); (case b => exact HI.out.alloc _); (case bb => exact below_alloc HB.out _); rintro e w1 ⟨rfl, hi, hb, hk⟩; have HI1 := Aside0.mk hi; have HB1 := Aside0.mk hb; have HK1 := Aside0.mk ((keep_alloc (KeepBut.refl w g none) _).trans hk (.inl rfl)); clear hi hb hk) | (go_at_call 108; (with_reducible refine (number_bad s i1 2 n i2 c g _ ?b HC.out HG.out).mono ?_); (case b => exact HI1.out.1); rintro e w2 ⟨rfl, nd, rfl⟩; have HK2 := Aside0.mk (keep_drewN HK1.out nd); have HB2 := Aside0.mk (pw_below_drewN HB1.out nd)))
  exact ⟨rfl, rfl, HK2.out, HB2.out⟩
set_option maxHeartbeats 4000000 in
set_option maxRecDepth 100000 in
theorem value_many (s : ByteArray) (i d kd i1 n i2 : Int) (g : Nat) (w0 w : World) (hI : IsS183 w0 w g s i) (hB : Below w0.heap.size w0 w) (h1 : pack_reader_number.f 20 s i 1 = some (kd, s, i1)) (hkd : kd = 3) (hd : d < 8) (h2 : pack_reader_number.f 20 s i1 2 = some (n, s, i2)) (hn : 256 < n) :
    Calls Try.prog 98 #[.pointer (some ⟨g, 0, none⟩), .int .i64 d] w fun e w' => e = .panicked [fault 5] ∧ KeepBut w w' g none ∧ Below w0.heap.size w0 w' := by
  have HI := Aside0.mk hI
  have HB := Aside0.mk hB
  have HF := Aside0.mk h1
  clear hI hB h1
  have HG := Aside0.mk h2
  clear h2
  have hn1 : decide (256 < n) = true := decide_eq_true hn
  have k1 : (kd == 1) = false := beq_eq_false_iff_ne.mpr (by omega)
  have k2 : (kd == 2) = false := beq_eq_false_iff_ne.mpr (by omega)
  have k3 : (kd == 3) = true := beq_iff_eq.mpr hkd
  have hd1 : decide (8 ≤ d) = false := decide_eq_false (by omega)
  have hu := Try.underlying54
  have hu2 := Try.underlying183
  go_enter Try.func98, Try.ntmps98
  go_wp2_with (first | (go_at_call 108; (with_reducible refine (pack_reader_number.calls 20 g s i 1 kd s i1 w0 _ ?b ?bb HF.out).mono ?_); (case b => exact HI.out.alloc _); (case bb => exact below_alloc HB.out _); rintro e w1 ⟨rfl, hi, hb, hk⟩; have HI1 := Aside0.mk hi; have HB1 := Aside0.mk hb; have HK1 := Aside0.mk ((keep_alloc (KeepBut.refl w g none) _).trans hk (.inl rfl)); clear hi hb hk) | (go_at_call 108; (with_reducible refine (pack_reader_number.calls 20 g s i1 2 n s i2 w0 _ ?b ?bb HG.out).mono ?_); (case b => exact HI1.out); (case bb => exact HB1.out); rintro e w2 ⟨rfl, hi, hb, hk⟩; have HI2 := Aside0.mk hi; have HB2 := Aside0.mk hb; have HK2 := Aside0.mk (HK1.out.trans hk (.inl rfl)); clear hi hb hk) | (go_at_call 99; (with_reducible refine (must_bad 5 (by decide) _).mono ?_); rintro e w3 ⟨rfl, rfl⟩))
  exact ⟨rfl, rfl, HK2.out, HB2.out⟩
set_option maxHeartbeats 4000000 in
set_option maxRecDepth 100000 in
theorem value_text (s : ByteArray) (i d kd i1 i2 c : Int) (x : ByteArray) (g : Nat) (w0 w : World) (hI : IsS183 w0 w g s i) (hB : Below w0.heap.size w0 w) (hc : c ≠ 0) (h1 : pack_reader_number.f 20 s i 1 = some (kd, s, i1)) (hkd : kd = 2) (h2 : words_GetText.f 20 s i1 = some (x, i2, c)) :
    Calls Try.prog 98 #[.pointer (some ⟨g, 0, none⟩), .int .i64 d] w fun e w' => e = .panicked [fault c] ∧ KeepBut w w' g none ∧ Below w0.heap.size w0 w' := by
  have HI := Aside0.mk hI
  have HB := Aside0.mk hB
  have HF := Aside0.mk h1
  clear hI hB h1
  have HC := Aside0.mk hc
  have HG := Aside0.mk h2
  clear hc h2
  have k1 : (kd == 1) = false := beq_eq_false_iff_ne.mpr (by omega)
  have k2 : (kd == 2) = true := beq_iff_eq.mpr hkd
  have hu := Try.underlying54
  have hu2 := Try.underlying183
  go_enter Try.func98, Try.ntmps98
  go_wp2_with (go_at_call 108; (with_reducible refine (pack_reader_number.calls 20 g s i 1 kd s i1 w0 _ ?b ?bb HF.out).mono ?_); (case b => exact HI.out.alloc _); (case bb => exact below_alloc HB.out _); rintro e w1 ⟨rfl, hi, hb, hk⟩; have HI1 := Aside0.mk hi; have HB1 := Aside0.mk hb; have HK1 := Aside0.mk ((keep_alloc (KeepBut.refl w g none) _).trans hk (.inl rfl)); clear hi hb hk; have c0 : w1.cell? ⟨g, 0, none⟩ = some (.string s) := (blk_cell HI1.out.1 0).trans rfl; have c1 : w1.cell? ⟨g, 1, none⟩ = some (.int .i64 i1) := (blk_cell HI1.out.1 1).trans rfl; have f0 := blk_frozen HI1.out.1 0; have f1 := blk_frozen HI1.out.1 1)
  go_region_held3 (fun w' => w'.cell? ⟨g, 0, none⟩ = some (.string s) ∧ w'.cell? ⟨g, 1, none⟩ = some (.int .i64 i1)) (go_keep)
    (first | (go_at_call 110; (with_reducible refine (words_GetText.calls 20 s i1 x i2 c _ HG.out).mono ?_); rintro e w' ⟨rfl, ⟨nd, rfl⟩⟩))
  go_wp2_with (go_at_call 99; (with_reducible refine (must_bad c HC.out _).mono ?_); rintro e w3 ⟨rfl, rfl⟩)
  exact ⟨rfl, rfl, keep_drewN HK1.out _, pw_below_drewN HB1.out _⟩
set_option maxHeartbeats 4000000 in
set_option maxRecDepth 100000 in
theorem value_long (s : ByteArray) (i d kd i1 i2 : Int) (x : ByteArray) (g : Nat) (w0 w : World) (hI : IsS183 w0 w g s i) (hB : Below w0.heap.size w0 w) (h1 : pack_reader_number.f 20 s i 1 = some (kd, s, i1)) (hkd : kd = 2) (h2 : words_GetText.f 20 s i1 = some (x, i2, 0)) (hx : 4096 < x.size) :
    Calls Try.prog 98 #[.pointer (some ⟨g, 0, none⟩), .int .i64 d] w fun e w' => e = .panicked [fault 5] ∧ KeepBut w w' g none ∧ Below w0.heap.size w0 w' := by
  have HI := Aside0.mk hI
  have HB := Aside0.mk hB
  have HF := Aside0.mk h1
  clear hI hB h1
  have HG := Aside0.mk h2
  clear h2
  have hx1 : decide (4096 < x.size) = true := decide_eq_true hx
  have hx2 : decide ((4096 : Int) < (x.size : Int)) = true := decide_eq_true (by omega)
  clear hx
  have k1 : (kd == 1) = false := beq_eq_false_iff_ne.mpr (by omega)
  have k2 : (kd == 2) = true := beq_iff_eq.mpr hkd
  have hu := Try.underlying54
  have hu2 := Try.underlying183
  go_enter Try.func98, Try.ntmps98
  go_wp2_with (go_at_call 108; (with_reducible refine (pack_reader_number.calls 20 g s i 1 kd s i1 w0 _ ?b ?bb HF.out).mono ?_); (case b => exact HI.out.alloc _); (case bb => exact below_alloc HB.out _); rintro e w1 ⟨rfl, hi, hb, hk⟩; have HI1 := Aside0.mk hi; have HB1 := Aside0.mk hb; have HK1 := Aside0.mk ((keep_alloc (KeepBut.refl w g none) _).trans hk (.inl rfl)); clear hi hb hk; have c0 : w1.cell? ⟨g, 0, none⟩ = some (.string s) := (blk_cell HI1.out.1 0).trans rfl; have c1 : w1.cell? ⟨g, 1, none⟩ = some (.int .i64 i1) := (blk_cell HI1.out.1 1).trans rfl; have f0 := blk_frozen HI1.out.1 0; have f1 := blk_frozen HI1.out.1 1)
  go_region_held3 (fun w' => w'.cell? ⟨g, 0, none⟩ = some (.string s) ∧ w'.cell? ⟨g, 1, none⟩ = some (.int .i64 i1)) (go_keep)
    (first | (go_at_call 110; (with_reducible refine (words_GetText.calls 20 s i1 x i2 0 _ HG.out).mono ?_); rintro e w' ⟨rfl, ⟨nd, rfl⟩⟩))
  go_wp2_with (go_at_call 99; first | ((with_reducible refine (must_ok _).mono ?_); rintro e w3 ⟨rfl, rfl⟩) | ((with_reducible refine (must_bad 5 (by decide) _).mono ?_); rintro e w3 ⟨rfl, rfl⟩))
  exact ⟨rfl, rfl, keep_drewN HK1.out _, pw_below_drewN HB1.out _⟩
end Go.Proofs.Ytjicfkmpgogppaa.Rd
namespace Go.Proofs.Ytjicfkmpgogppaa.Rd
set_option linter.unusedVariables false
set_option linter.unusedSimpArgs false
open Go Go.RowKit Go.Proofs.Ytjicfkmpgogppaa.Mt Go.Proofs.Ytjicfkmpgogppaa.PA Go.Proofs.YtjicfkmpgogppaaW.PrintWords Go.Proofs.YtjicfkmpgogppaaW.PrintLast Go.Proofs.YtjicfkmpgogppaaW.PrintMore
/-- so many values read on, one behind the other -/
inductive Chain (K : Nat) (s : ByteArray) (d : Int) : Nat → Int → Int → Prop
  | nil (i : Int) : Chain K s d 0 i i
  | cons {m : Nat} {i i1 i2 : Int} (x : S54) (h : pack_reader_value.f K s i d = some (x.f0, x.f1, x.f2, x.f3, s, i1)) (t : Chain K s d m i1 i2) : Chain K s d (m + 1) i i2
set_option maxHeartbeats 8000000 in
set_option maxRecDepth 100000 in
theorem value_list (s : ByteArray) (i d kd i1 n i2 ij c : Int) (K j : Nat) (g : Nat) (w0 w : World) (hI : IsS183 w0 w g s i) (hB : Below w0.heap.size w0 w) (h1 : pack_reader_number.f 20 s i 1 = some (kd, s, i1)) (hkd : kd = 3) (hd : d < 8)
    (h2 : pack_reader_number.f 20 s i1 2 = some (n, s, i2)) (hn : n ≤ 256) (hj : (j : Int) < n) (hch : Chain K s (wrap64 (d + 1)) j i2 ij)
    (h3 : ∀ W, IsS183 w0 W g s ij → Below w0.heap.size w0 W → Calls Try.prog 98 #[.pointer (some ⟨g, 0, none⟩), .int .i64 (wrap64 (d + 1))] W fun e W' => e = .panicked [fault c] ∧ KeepBut W W' g none ∧ Below w0.heap.size w0 W') :
    Calls Try.prog 98 #[.pointer (some ⟨g, 0, none⟩), .int .i64 d] w fun e w' => e = .panicked [fault c] ∧ KeepBut w w' g none ∧ Below w0.heap.size w0 w' := by
  have HI := Aside0.mk hI
  have HB := Aside0.mk hB
  have HF := Aside0.mk h1
  have HG := Aside0.mk h2
  have HX := Aside0.mk h3
  have HC := Aside0.mk hch
  have HL : Aside0 (w0.heap.size ≤ w.heap.size) := ⟨hB.size⟩
  clear hI hB h1 h2 h3 hch
  have hn1 : decide (256 < n) = false := decide_eq_false (by omega)
  have k1 : (kd == 1) = false := beq_eq_false_iff_ne.mpr (by omega)
  have k2 : (kd == 2) = false := beq_eq_false_iff_ne.mpr (by omega)
  have k3 : (kd == 3) = true := beq_iff_eq.mpr hkd
  have hd1 : decide (8 ≤ d) = false := decide_eq_false (by omega)
  have hu := Try.underlying54
  have hu2 := Try.underlying183
  go_enter Try.func98, Try.ntmps98
  go_wp2_with (first | (go_at_call 108; (with_reducible refine (pack_reader_number.calls 20 g s i 1 kd s i1 w0 _ ?b ?bb HF.out).mono ?_); (case b => exact HI.out.alloc _); (case bb => exact below_alloc HB.out _); rintro e w1 ⟨rfl, hi, hb, hk⟩; have HI1 := Aside0.mk hi; have HB1 := Aside0.mk hb; have HK1 := Aside0.mk ((keep_alloc (KeepBut.refl w g none) _).trans hk (.inl rfl)); clear hi hb hk) | (go_at_call 108; (with_reducible refine (pack_reader_number.calls 20 g s i1 2 n s i2 w0 _ ?b ?bb HG.out).mono ?_); (case b => exact HI1.out); (case bb => exact HB1.out); rintro e w2 ⟨rfl, hi, hb, hk⟩; have HI2 := Aside0.mk hi; have HB2 := Aside0.mk hb; have HK2 := Aside0.mk (HK1.out.trans hk (.inl rfl)); clear hi hb hk))
  go_loopw [9, 54] (fun v9 v54 wr => ∃ (m : Nat) (im : Int) (xs : List S54), v54 = .int .u64 m ∧ m ≤ j ∧ xs.length = m ∧ Aside0 (Chain K s (wrap64 (d + 1)) (j - m) im ij) ∧ Aside0 (Kd.R k54 54 wr w.heap.size (fun _ => True) v9 xs) ∧ Aside0 (IsS183 w0 wr g s im) ∧ Aside0 (KeepBut w wr g none) ∧ Aside0 (Below w0.heap.size w0 wr)) (fun _ v54 _ => j - (intOf v54).toNat)
  case atStart => exact ⟨0, i2, [], rfl, Nat.zero_le _, rfl, HC, ⟨Kd.R_nil _ _ _ _ _⟩, HI2, HK2, HB2⟩
  case round =>
    obtain ⟨m, im, xs, rfl, hm, hxs, HCm, HO, HI0, HK, HB0⟩ := hrel
    clear HC HI1 HB1 HK1 HI2 HB2 HK2
    have hmn : decide ((m : Int) < n) = true := decide_eq_true (by omega)
    have hmn' : (m : Int) < n := by omega
    by_cases hlt : m < j
    · obtain ⟨q, hq⟩ : ∃ q, j - m = q + 1 := ⟨j - m - 1, by omega⟩
      have hch := HCm.out
      rw [hq] at hch
      obtain ⟨x, ix, hx, HT⟩ : ∃ (x : S54) (ix : Int), Aside0 (pack_reader_value.f K s im (wrap64 (d + 1)) = some (x.f0, x.f1, x.f2, x.f3, s, ix)) ∧ Aside0 (Chain K s (wrap64 (d + 1)) (j - (m + 1)) ix ij) := by
        cases hch with
        | cons x h t => exact ⟨x, _, ⟨h⟩, ⟨by rw [show j - (m + 1) = q by omega]; exact t⟩⟩
      clear hch hq HCm
      have LM : Aside0 (xs.length < 1000) := ⟨by omega⟩
      go_wp2_with (first
        | (go_at_call 98; (with_reducible refine (pack_reader_value.calls K g s im (wrap64 (d + 1)) x.f0 x.f1 x.f2 x.f3 s ix w0 _ ?s1 ?s2 hx.out).mono ?_); (case s1 => exact (by repeat (first | (with_reducible first | exact HI0.out | apply IsS183.alloc | apply IsS183.drewN | apply IsS183.drew) | exact HI0.out))); (case s2 => exact (by repeat (first | (with_reducible first | exact HB0.out | apply below_alloc | apply pw_below_drewN | apply below_drew1) | exact HB0.out))); rintro e w4 ⟨v4, rfl, ho0, hi, hb, hk⟩
           have n0 := Aside0.mk (Kd.R_mono (Kd.R_told (Kd.R_oldK (IsS183.apart (show IsS183 w0 _ g s im from (by repeat (first | (with_reducible first | exact HI0.out | apply IsS183.alloc | apply IsS183.drewN | apply IsS183.drew) | exact HI0.out))) (by (with_reducible repeat (first | apply Kd.R_alloc | apply Kd.R_drewN | apply Kd.R_drew)); exact HO.out) (by decide)) hk) (Kd.R_base ho0)) (ok' := fun k => True ∧ some k ≠ v4.ownBlock) (fun _ h_ => h_.1))
           have n1 := Aside0.mk (Kd.R_lower (Kd.R_new' ho0 (Kd.R_lt (by (with_reducible repeat (first | apply Kd.R_alloc | apply Kd.R_drewN | apply Kd.R_drew)); exact HO.out))) (keep_size (w := w) (g := g) (row := none) (by repeat (first | (with_reducible first | exact HK.out | apply keep_drewN | apply keep_drew | apply keep_alloc) | exact HK.out))))
           have n2 := Aside0.mk (KeepBut.trans (by repeat (first | (with_reducible first | exact HK.out | apply keep_drewN | apply keep_drew | apply keep_alloc) | exact HK.out)) hk (.inl rfl))
           have n3 := Aside0.mk hi
           have n4 := Aside0.mk hb
           clear HO HI0 HK HB0 ho0 hi hb hk
           have HO := n0; have HN := n1; have HK := n2; have HI0 := n3; have HB0 := n4
           clear n0 n1 n2 n3 n4
           obtain ⟨A4, c4, e4⟩ := Kd.R_slice HN.out
           subst e4)
        | ((with_reducible refine gate_builtin (b := .append) (xs := #[.tmp 56, .tmp 61]) rfl ?_); at_builtin; refine Kd.R_append k54 w.heap.size rfl (.tmp 56) (.tmp 61) 52 54 (.agg #[(.int .i64 0), (.int .i64 0), (.string ⟨#[]⟩), (.slice none 0 0)]) 56 rfl Try.underlying52 info54 rfl (by decide) (by omega) u9 xs x [.int .i64 x.f0, .int .i64 x.f1, .string x.f2, .slice A4 x.f3.length c4] (fun _ => True) (fun k_ => True ∧ some k_ ≠ (u9 : Value).ownBlock) rfl rfl ?aP (fun _ hk => hk) (fun _ _ => trivial) ?aO (Below.refl _ _) ?aS ?aL ?_
           (case aP => exact k54_mkM _ _ _ x (Kd.R_mono HN.out (fun k_ hk => hk)))
           (case aO => exact Kd.R_mono (by (with_reducible repeat (first | apply Kd.R_alloc | apply Kd.R_drewN | apply Kd.R_drew)); exact HO.out) (fun _ _ => trivial))
           (case aS => exact (keep_size (w := w) (g := g) (row := none) (by repeat (first | (with_reducible first | exact HK.out | apply keep_drewN | apply keep_drew | apply keep_alloc) | exact HK.out))))
           (case aL => have := LM.out; omega)
           intro v5 w5 ho hb hg hat
           have n0 := Aside0.mk ho
           have n1 := Aside0.mk (IsS183.grown (by repeat (first | (with_reducible first | exact HI0.out | apply IsS183.alloc | apply IsS183.drewN | apply IsS183.drew) | exact HI0.out)) hg (IsS183.own_ne HI0.out HO.out (by decide)))
           have n2 := Aside0.mk (below_weaken (by repeat (first | (with_reducible first | exact HB0.out | apply below_alloc | apply pw_below_drewN | apply below_drew1) | exact HB0.out)) HL.out hb)
           have n3 := Aside0.mk (KeepBut.trans (by repeat (first | (with_reducible first | exact HK.out | apply keep_drewN | apply keep_drew | apply keep_alloc) | exact HK.out)) (KeepBut.of_grown hg g) (Kd.R_base2 HO.out))
           clear HO HI0 HB0 HK HN ho hb hg hat
           have HO := n0; have HI0 := n1; have HB0 := n2; have HK := n3
           clear n0 n1 n2 n3))
      go_roundw
      case rel => exact ⟨m + 1, ix, xs ++ [x], by go_num, by omega, by simp [hxs], HT, HO, HI0, HK, HB0⟩
      case measure => simp [intOf]; omega
    · obtain rfl : m = j := by omega
      have hij : im = ij := by
        have h := HCm.out
        rw [Nat.sub_self] at h
        cases h; rfl
      subst hij
      go_wp2_with (go_at_call 98; (with_reducible refine (HX.out _ (by repeat (first | (with_reducible first | exact HI0.out | apply IsS183.alloc | apply IsS183.drewN | apply IsS183.drew) | exact HI0.out)) (by repeat (first | (with_reducible first | exact HB0.out | apply below_alloc | apply pw_below_drewN | apply below_drew1) | exact HB0.out))).mono ?_); rintro e w4 ⟨rfl, hk, hb⟩; have HB4 := Aside0.mk hb; have HK4 := Aside0.mk (KeepBut.trans (by repeat (first | (with_reducible first | exact HK.out | apply keep_drewN | apply keep_drew | apply keep_alloc) | exact HK.out)) hk (.inl rfl)); clear hk hb)
      exact ⟨rfl, rfl, HK4.out, HB4.out⟩
end Go.Proofs.Ytjicfkmpgogppaa.Rd
namespace Go.Proofs.Ytjicfkmpgogppaa.Rd
set_option linter.unusedVariables false
set_option linter.unusedSimpArgs false
open Go Go.RowKit Go.Proofs.Ytjicfkmpgogppaa.Plain Go.Proofs.Ytjicfkmpgogppaa.Words Go.Proofs.Ytjicfkmpgogppaa.Vr Go.Proofs.Ytjicfkmpgogppaa.Mt Go.Proofs.Ytjicfkmpgogppaa.PA Go.Proofs.YtjicfkmpgogppaaW.PrintWords Go.Proofs.YtjicfkmpgogppaaW.PrintLast Go.Proofs.YtjicfkmpgogppaaW.PrintMore
theorem number_some {s : ByteArray} {i wd : Int} (k : Nat) (hi : -9223372036854775808 ≤ i ∧ i ≤ 9223372036854775807) (hs : s.size ≤ 140737488351232 * 4) (hk : 12 ≤ k) (h : (getR s i wd).2.2 = 0) :
    pack_reader_number.f k s i wd = some ((getR s i wd).1, s, (getR s i wd).2.1) := by
  unfold pack_reader_number.f
  rw [get_some k hi hs hk, Option.bind_some, h]
  rfl
theorem getR_bounds (s : ByteArray) (a w : Int) (h : (getR s a w).2.2 = 0) : 0 ≤ (getR s a w).1 ∧ (getR s a w).1 < 18446744073709551616 ∧ 0 ≤ (getR s a w).2.1 ∧ (getR s a w).2.1 ≤ s.size := by
  unfold getR at h ⊢
  split
  · simp
  · rename_i h1
    split
    · simp
    · rename_i h2
      simp only [h1, h2, if_false] at h
      have b := gets_lt s a w.toNat
      refine ⟨b.1, ?_, by simp only; omega, by simp only; omega⟩
      have : (256 : Int) ^ w.toNat ≤ 256 ^ 8 := by
        rcases (by omega : w.toNat = 0 ∨ w.toNat = 1 ∨ w.toNat = 2 ∨ w.toNat = 3 ∨ w.toNat = 4 ∨ w.toNat = 5 ∨ w.toNat = 6 ∨ w.toNat = 7 ∨ w.toNat = 8) with h | h | h | h | h | h | h | h | h <;> rw [h] <;> decide
      have e8 : (256 : Int) ^ 8 = 18446744073709551616 := by decide
      simp only
      omega
theorem int_some {s : ByteArray} {i : Int} (k : Nat) (hi : -9223372036854775808 ≤ i ∧ i ≤ 9223372036854775807) (hs : s.size ≤ 140737488351232 * 4) (hk : 12 ≤ k) (h : (intR s i).1 = 0) :
    pack_reader_int.f k s i = some (0, (intR s i).2.1, ⟨#[]⟩, [], s, (intR s i).2.2) := by
  unfold intR at h ⊢
  unfold pack_reader_int.f
  by_cases c1 : (getR s i 1).2.2 = 0
  · rw [if_pos c1] at h ⊢
    have b := getR_bounds s i 1 c1
    rw [number_some k hi hs hk c1, Option.bind_some]
    by_cases c2 : (getR s i 1).1 > 8
    · rw [if_pos c2] at h; simp at h
    rw [if_neg c2] at h ⊢
    have e1 : wrap64 (getR s i 1).1 = (getR s i 1).1 := by unfold wrap64; omega
    simp only [e1]
    rw [if_neg c2]
    by_cases c3 : (getR s i 1).1 = 0
    · rw [if_pos c3, if_pos c3]
      rfl
    rw [if_neg c3] at h ⊢
    rw [if_neg c3]
    by_cases c4 : (getR s (getR s i 1).2.1 (getR s i 1).1).2.2 = 0
    · rw [if_pos c4] at h ⊢
      have b2 := getR_bounds s (getR s i 1).2.1 (getR s i 1).1 c4
      rw [number_some k (by omega) hs hk c4, Option.bind_some]
      by_cases c5 : (getR s (getR s i 1).2.1 (getR s i 1).1).1 / 2 ^ (8 * ((getR s i 1).1 - 1)).toNat = 0
      · rw [if_pos c5] at h; simp at h
      rw [if_neg c5]
      have e2 : wrap64 (8 * wrap64 ((getR s i 1).1 - 1)) = 8 * ((getR s i 1).1 - 1) := by unfold wrap64; omega
      simp only [e2]
      rw [if_pos (by omega), shr64 _ _ (by omega), if_neg c5, unfold_some b2.1 b2.2.1, Option.bind_some]
      rfl
    · rw [if_neg c4] at h; exact absurd h c4
  · rw [if_neg c1] at h; exact absurd h c1
theorem get20 {s : ByteArray} {i wd : Int} (hi : -9223372036854775808 ≤ i ∧ i ≤ 9223372036854775807) (hs : s.size ≤ 140737488351232 * 4) : words_Get.f 20 s i wd = some ((getR s i wd).1, (getR s i wd).2.1, (getR s i wd).2.2) := get_some 20 hi hs (by omega)
theorem getR1_lt (s : ByteArray) (i : Int) (h : (getR s i 1).2.2 = 0) : (getR s i 1).1 < 256 := by
  unfold getR at h ⊢
  split
  · simp
  · split
    · simp
    · exact (gets_lt s i 1).2
theorem int_panics {s : ByteArray} {i : Int} (hi : -9223372036854775808 ≤ i ∧ i ≤ 9223372036854775807) (hs : s.size ≤ 140737488351232 * 4) (h : (intR s i).1 ≠ 0) (g : Nat) (w0 w : World) (hI : IsS183 w0 w g s i) (hB : Below w0.heap.size w0 w) :
    Calls Try.prog 109 #[.pointer (some ⟨g, 0, none⟩)] w fun e w' => e = .panicked [fault (intR s i).1] ∧ KeepBut w w' g none ∧ Below w0.heap.size w0 w' := by
  unfold intR at h ⊢
  by_cases c1 : (getR s i 1).2.2 = 0
  · rw [if_pos c1] at h ⊢
    have b := getR_bounds s i 1 c1
    have b1 := getR1_lt s i c1
    have n1 := number_some 20 hi hs (by omega) c1
    by_cases c2 : (getR s i 1).1 > 8
    · rw [if_pos c2]
      exact int_long s i _ _ g w0 w hI hB n1 c2 b1
    rw [if_neg c2] at h ⊢
    by_cases c3 : (getR s i 1).1 = 0
    · rw [if_pos c3] at h; exact absurd rfl h
    rw [if_neg c3] at h ⊢
    by_cases c4 : (getR s (getR s i 1).2.1 (getR s i 1).1).2.2 = 0
    · rw [if_pos c4] at h ⊢
      by_cases c5 : (getR s (getR s i 1).2.1 (getR s i 1).1).1 / 2 ^ (8 * ((getR s i 1).1 - 1)).toNat = 0
      · rw [if_pos c5]
        exact int_zero s i _ _ _ _ g w0 w hI hB n1 (by omega) (by omega) (number_some 20 (by omega) hs (by omega) c4) c5
      · rw [if_neg c5] at h; exact absurd rfl h
    · rw [if_neg c4]
      exact int_bad2 s i _ _ _ _ _ g w0 w hI hB c4 n1 (by omega) (by omega) (get20 (by omega) hs)
  · rw [if_neg c1]
    exact int_bad1 s i _ _ _ g w0 w hI hB c1 (get20 hi hs)
end Go.Proofs.Ytjicfkmpgogppaa.Rd
namespace Go.Proofs.Ytjicfkmpgogppaa.Rd
set_option linter.unusedVariables false
set_option linter.unusedSimpArgs false
open Go Go.RowKit Go.Proofs.Ytjicfkmpgogppaa.Plain Go.Proofs.Ytjicfkmpgogppaa.Words Go.Proofs.Ytjicfkmpgogppaa.Vr Go.Proofs.Ytjicfkmpgogppaa.Mt Go.Proofs.Ytjicfkmpgogppaa.PA Go.Proofs.YtjicfkmpgogppaaW.PrintWords Go.Proofs.YtjicfkmpgogppaaW.PrintLast Go.Proofs.YtjicfkmpgogppaaW.PrintMore
abbrev mkV (a b : Int) (c : ByteArray) (l : List S54) : S54 := ⟨a, b, c, l⟩
abbrev noV : S54 := ⟨0, 0, ⟨#[]⟩, []⟩
theorem value_le {s : ByteArray} {i d : Int} {K K' : Nat} (h : K ≤ K') {r} (e : pack_reader_value.f K s i d = some r) : pack_reader_value.f K' s i d = some r := by
  induction K' with
  | zero => rw [Nat.le_zero.mp h] at e; exact e
  | succ m ih =>
    rcases Nat.lt_or_ge m K with h1 | h1
    · rw [show K = m + 1 by omega] at e; exact e
    · exact pack_reader_value.mono s i d m _ (ih h1)
theorem list_le {d n c i : Int} {acc : List S54} {s : ByteArray} {K K' : Nat} (h : K ≤ K') {r} (e : pack_reader_value.l0 K d acc n c s i = some r) : pack_reader_value.l0 K' d acc n c s i = some r := by
  induction K' with
  | zero => rw [Nat.le_zero.mp h] at e; exact e
  | succ m ih =>
    rcases Nat.lt_or_ge m K with h1 | h1
    · rw [show K = m + 1 by omega] at e; exact e
    · exact (pack_reader_value.mono_l m).2 d acc n c s i _ (ih h1)
theorem Chain.le {s : ByteArray} {d : Int} {K K' : Nat} (h : K ≤ K') {m : Nat} {i j : Int} (c : Chain K s d m i j) : Chain K' s d m i j := by
  induction c with
  | nil i => exact .nil i
  | cons x e _ ih => exact .cons x (value_le h e) ih
/-- the reader panics so -/
def Panics (s : ByteArray) (i d e : Int) : Prop := ∀ (g : Nat) (w0 w : World), IsS183 w0 w g s i → Below w0.heap.size w0 w → Calls Try.prog 98 #[.pointer (some ⟨g, 0, none⟩), .int .i64 d] w fun e' w' => e' = .panicked [fault e] ∧ KeepBut w w' g none ∧ Below w0.heap.size w0 w'
def Good (s : ByteArray) (i d : Int) (r : Int × S54 × Int) : Prop :=
  (r.1 = 0 → 0 ≤ r.2.2 ∧ r.2.2 ≤ s.size ∧ ∃ K, pack_reader_value.f K s i d = some (r.2.1.f0, r.2.1.f1, r.2.1.f2, r.2.1.f3, s, r.2.2)) ∧ (r.1 ≠ 0 → Panics s i d r.1)
theorem list_good {s : ByteArray} {d : Int} {f : Int → Option (Int × S54 × Int)} (hf : ∀ (i : Int) r, 0 ≤ i → i ≤ (s.size : Int) → f i = some r → Good s i (wrap64 (d + 1)) r) (N : Int) (hN : N ≤ 256) : ∀ (n : Nat) (i : Int) (acc : List S54) (r : Int × List S54 × Int), 0 ≤ i → i ≤ (s.size : Int) → (acc.length : Int) + n = N → listR f n i = some r →
    (r.1 = 0 → 0 ≤ r.2.2 ∧ r.2.2 ≤ s.size ∧ ∃ K, pack_reader_value.l0 K d acc N acc.length s i = some (2, 0, ⟨#[]⟩, acc ++ r.2.1, s, r.2.2)) ∧
    (r.1 ≠ 0 → ∃ (j : Nat) (ij : Int) (K : Nat), j < n ∧ Chain K s (wrap64 (d + 1)) j i ij ∧ Panics s ij (wrap64 (d + 1)) r.1)
  | 0, i, acc, r, h0, h1, hl, h => by
    simp only [listR, Option.some.injEq] at h
    subst h
    refine ⟨fun _ => ⟨h0, h1, 1, ?_⟩, fun h => absurd rfl h⟩
    simp only [pack_reader_value.l0]
    rw [if_neg (by omega), List.append_nil]
  | n + 1, i, acc, r, h0, h1, hl, h => by
    simp only [listR] at h
    obtain ⟨⟨e, x, q⟩, hx, h⟩ := Option.bind_eq_some_iff.mp h
    have g := hf i _ h0 h1 hx
    dsimp only at h
    by_cases c : e = 0
    · rw [if_pos c] at h
      obtain ⟨⟨e2, l, q2⟩, hl2, h⟩ := Option.bind_eq_some_iff.mp h
      simp only [Option.some.injEq] at h
      subst h
      obtain ⟨k0, k1, K, hK⟩ := g.1 c
      have ih := list_good hf N hN n q (acc ++ [x]) _ k0 k1 (by simp; omega) hl2
      refine ⟨fun he => ?_, fun he => ?_⟩
      · obtain ⟨j0, j1, K2, hK2⟩ := ih.1 he
        refine ⟨j0, j1, max K K2 + 1, ?_⟩
        simp only [pack_reader_value.l0]
        rw [if_pos (by omega), value_le (Nat.le_max_left K K2) hK, Option.bind_some, if_pos (by omega)]
        have e1 : IntKind.u64.wrap ((acc.length : Int) + 1) = ((acc ++ [x]).length : Int) := by
          rw [wu64]; simp; omega
        rw [e1]
        have := list_le (Nat.le_max_right K K2) hK2
        rw [List.append_assoc] at this
        cases x
        exact this
      · obtain ⟨j, ij, K2, hj, hch, hp⟩ := ih.2 he
        exact ⟨j + 1, ij, max K K2, by omega, .cons x (value_le (Nat.le_max_left K K2) hK) (hch.le (Nat.le_max_right K K2)), hp⟩
    · rw [if_neg c] at h
      simp only [Option.some.injEq] at h
      subst h
      exact ⟨fun he => absurd he c, fun _ => ⟨0, i, 0, by omega, .nil i, g.2 c⟩⟩
theorem intR_bounds {s : ByteArray} {i : Int} (h : (intR s i).1 = 0) : 0 ≤ (intR s i).2.2 ∧ (intR s i).2.2 ≤ s.size := by
  unfold intR at h ⊢
  by_cases c1 : (getR s i 1).2.2 = 0
  · rw [if_pos c1] at h ⊢
    have b := getR_bounds s i 1 c1
    by_cases c2 : (getR s i 1).1 > 8
    · rw [if_pos c2] at h; simp at h
    rw [if_neg c2] at h ⊢
    by_cases c3 : (getR s i 1).1 = 0
    · rw [if_pos c3]; exact ⟨b.2.2.1, b.2.2.2⟩
    rw [if_neg c3] at h ⊢
    by_cases c4 : (getR s (getR s i 1).2.1 (getR s i 1).1).2.2 = 0
    · rw [if_pos c4] at h ⊢
      have b2 := getR_bounds s (getR s i 1).2.1 (getR s i 1).1 c4
      by_cases c5 : (getR s (getR s i 1).2.1 (getR s i 1).1).1 / 2 ^ (8 * ((getR s i 1).1 - 1)).toNat = 0
      · rw [if_pos c5] at h; simp at h
      rw [if_neg c5]
      exact ⟨b2.2.2.1, b2.2.2.2⟩
    · rw [if_neg c4] at h; exact absurd h c4
  · rw [if_neg c1] at h; exact absurd h c1
theorem gtextR_bounds {s : ByteArray} {i : Int} (h : (gtextR s i).2.2 = 0) : 0 ≤ (gtextR s i).2.1 ∧ (gtextR s i).2.1 ≤ s.size := by
  unfold gtextR at h ⊢
  by_cases c1 : (getR s i 2).2.2 = 0
  · rw [if_pos c1] at h ⊢
    have b := getR_bounds s i 2 c1
    by_cases c2 : (s.size : Int) - (getR s i 2).2.1 < (getR s i 2).1
    · rw [if_pos c2] at h; simp at h
    rw [if_neg c2]
    exact ⟨by show 0 ≤ (getR s i 2).2.1 + (getR s i 2).1; omega, by show (getR s i 2).2.1 + (getR s i 2).1 ≤ s.size; omega⟩
  · rw [if_neg c1] at h; exact absurd h c1
theorem value_good {s : ByteArray} (hs : s.size ≤ 140737488351232 * 4) : ∀ (k : Nat) (i d : Int) (r : Int × S54 × Int), 0 ≤ i → i ≤ (s.size : Int) → 0 ≤ d → d ≤ 8 → valR mkV noV k s i d = some r → Good s i d r
  | 0, _, _, _, _, _, _, _, h => by simp [valR] at h
  | k + 1, i, d, r, h0, h1, d0, d1, h => by
    have hi : -9223372036854775808 ≤ i ∧ i ≤ 9223372036854775807 := by omega
    simp only [valR] at h
    by_cases c1 : (getR s i 1).2.2 = 0
    · rw [if_pos c1] at h
      have b1 := getR_bounds s i 1 c1
      have hi1 : -9223372036854775808 ≤ (getR s i 1).2.1 ∧ (getR s i 1).2.1 ≤ 9223372036854775807 := by omega
      have n1 := number_some 20 hi hs (by omega) c1
      by_cases k1 : (getR s i 1).1 = 1
      · rw [if_pos k1] at h
        by_cases c2 : (intR s (getR s i 1).2.1).1 = 0
        · rw [if_pos c2] at h
          simp only [Option.some.injEq] at h
          subst h
          refine ⟨fun _ => ⟨(intR_bounds c2).1, (intR_bounds c2).2, 21, ?_⟩, fun he => absurd rfl he⟩
          simp only [pack_reader_value.f]
          rw [n1, Option.bind_some, if_pos k1, int_some 20 hi1 hs (by omega) c2, Option.bind_some]
        · rw [if_neg c2] at h
          simp only [Option.some.injEq] at h
          subst h
          exact ⟨fun he => absurd he c2, fun _ g w0 w hI hB => value_int s i d _ _ _ g w0 w hI hB n1 k1 (fun W hI' hB' => int_panics hi1 hs c2 g w0 W hI' hB')⟩
      rw [if_neg k1] at h
      by_cases k2 : (getR s i 1).1 = 2
      · rw [if_pos k2] at h
        have ht := gtext_some 20 hi1 hs (by omega)
        by_cases c2 : (gtextR s (getR s i 1).2.1).2.2 = 0
        · rw [if_pos c2] at h
          rw [show gtextR s (getR s i 1).2.1 = ((gtextR s (getR s i 1).2.1).1, (gtextR s (getR s i 1).2.1).2.1, 0) by rw [← c2]] at ht
          by_cases c3 : ((gtextR s (getR s i 1).2.1).1.size : Int) > 4096
          · rw [if_pos c3] at h
            simp only [Option.some.injEq] at h
            subst h
            exact ⟨fun he => by simp at he, fun _ g w0 w hI hB => value_long s i d _ _ _ _ g w0 w hI hB n1 k2 ht (by omega)⟩
          · rw [if_neg c3] at h
            simp only [Option.some.injEq] at h
            subst h
            refine ⟨fun _ => ⟨(gtextR_bounds c2).1, (gtextR_bounds c2).2, 21, ?_⟩, fun he => absurd rfl he⟩
            simp only [pack_reader_value.f]
            rw [n1, Option.bind_some, if_neg k1, if_pos k2, ht, Option.bind_some]
            simp only [pack_must.f, if_true, Option.bind_some]
            rw [if_neg c3]
            rfl
        · rw [if_neg c2] at h
          simp only [Option.some.injEq] at h
          subst h
          exact ⟨fun he => absurd he c2, fun _ g w0 w hI hB => value_text s i d _ _ _ _ _ g w0 w hI hB c2 n1 k2 ht⟩
      rw [if_neg k2] at h
      by_cases k3 : (getR s i 1).1 = 3
      · rw [if_pos k3] at h
        by_cases c2 : d ≥ 8
        · rw [if_pos c2] at h
          simp only [Option.some.injEq] at h
          subst h
          exact ⟨fun he => by simp at he, fun _ g w0 w hI hB => value_deep s i d _ _ g w0 w hI hB n1 k3 c2⟩
        rw [if_neg c2] at h
        by_cases c3 : (getR s (getR s i 1).2.1 2).2.2 = 0
        · rw [if_pos c3] at h
          have b2 := getR_bounds s (getR s i 1).2.1 2 c3
          have n2 := number_some 20 hi1 hs (by omega) c3
          by_cases c4 : (getR s (getR s i 1).2.1 2).1 > 256
          · rw [if_pos c4] at h
            simp only [Option.some.injEq] at h
            subst h
            exact ⟨fun he => by simp at he, fun _ g w0 w hI hB => value_many s i d _ _ _ _ g w0 w hI hB n1 k3 (by omega) n2 c4⟩
          rw [if_neg c4] at h
          obtain ⟨⟨e, l, q⟩, hl, h⟩ := Option.bind_eq_some_iff.mp h
          have e1 : wrap64 (d + 1) = d + 1 := by unfold wrap64; omega
          have lg := list_good (s := s) (d := d) (f := fun q => valR mkV noV k s q (d + 1)) (fun i r g0 g1 g => by rw [e1]; exact value_good hs k i (d + 1) r g0 g1 (by omega) (by omega) g) (getR s (getR s i 1).2.1 2).1 (by omega) _ _ [] _ b2.2.2.1 b2.2.2.2 (by simp; omega) hl
          dsimp only at h
          by_cases c5 : e = 0
          · rw [if_pos c5] at h
            simp only [Option.some.injEq] at h
            subst h
            obtain ⟨j0, j1, K, hK⟩ := lg.1 c5
            refine ⟨fun _ => ⟨j0, j1, max 20 K + 1, ?_⟩, fun he => absurd rfl he⟩
            simp only [pack_reader_value.f]
            rw [number_some (max 20 K) hi hs (by omega) c1, Option.bind_some, if_neg k1, if_neg k2, if_pos k3, if_neg c2, number_some (max 20 K) hi1 hs (by omega) c3, Option.bind_some, if_neg c4]
            exact list_le (Nat.le_max_right 20 K) hK
          · rw [if_neg c5] at h
            simp only [Option.some.injEq] at h
            subst h
            obtain ⟨j, ij, K, hj, hch, hp⟩ := lg.2 c5
            exact ⟨fun he => absurd he c5, fun _ g w0 w hI hB => value_list s i d _ _ _ _ ij e K j g w0 w hI hB n1 k3 (by omega) n2 (by omega) (by omega) hch (fun W hI' hB' => hp g w0 W hI' hB')⟩
        · rw [if_neg c3] at h
          simp only [Option.some.injEq] at h
          subst h
          exact ⟨fun he => absurd he c3, fun _ g w0 w hI hB => value_count s i d _ _ _ _ _ g w0 w hI hB c3 n1 k3 (by omega) (get20 hi1 hs)⟩
      rw [if_neg k3] at h
      simp only [Option.some.injEq] at h
      subst h
      exact ⟨fun he => by simp at he, fun _ g w0 w hI hB => value_kind s i d _ _ g w0 w hI hB n1 ⟨k1, k2, k3⟩⟩
    · rw [if_neg c1] at h
      simp only [Option.some.injEq] at h
      subst h
      exact ⟨fun he => absurd he c1, fun _ g w0 w hI hB => value_bad1 s i d _ _ _ g w0 w hI hB c1 (get20 hi hs)⟩
end Go.Proofs.Ytjicfkmpgogppaa.Rd
namespace Go.Proofs.Ytjicfkmpgogppaa.Rd
set_option linter.unusedVariables false
set_option linter.unusedSimpArgs false
open Go Go.RowKit Go.Proofs.Ytjicfkmpgogppaa.Plain Go.Proofs.Ytjicfkmpgogppaa.Words Go.Proofs.Ytjicfkmpgogppaa.Vr Go.Proofs.Ytjicfkmpgogppaa.Mt Go.Proofs.Ytjicfkmpgogppaa.PA Go.Proofs.YtjicfkmpgogppaaW.PrintWords Go.Proofs.YtjicfkmpgogppaaW.PrintLast Go.Proofs.YtjicfkmpgogppaaW.PrintMore
set_option maxHeartbeats 4000000 in
set_option maxRecDepth 100000 in
theorem catch_idle (p q : Addr) (w : World) :
    CallsD Try.prog 97 #[.pointer (some p), .pointer (some q)] .returning w fun e u' w' => e = .returned (.tuple #[]) ∧ u' = .returning ∧ w' = w := by
  have hta : ∀ w, Sem.run Try.prog (Instr.typeAssert .nilIface 20 179 true) w = .ok (.tuple #[.int .i64 0, .bool false]) w := fun w => rfl
  refine callsD_of_wpS Try.func97 rfl fun c₀ cs hu => ?_
  apply wpS_seq
  apply wpS_region
  simp [wpOpsS, go_sem, recoverD, hu, hta, Try.ntmps97, Exit.thenS]
  apply wpS_seq
  apply wpS_region
  simp [wpOpsS, go_sem, Try.ntmps97, Exit.thenS]
  refine wpS_cond (t := false) (by simp [Act.eval, Array.replicate]) ?_
  simp only [Bool.false_eq_true, if_false]
  refine wpS_of_wp (wp_skip ?_)
  cases c₀
  simp_all [bodyPostS, results, Try.results97]
set_option maxHeartbeats 4000000 in
set_option maxRecDepth 100000 in
theorem catch_panicking (bv be : Nat) (c x0 x1 x4 : Int) (x2 : ByteArray) (v3 : Value) (w : World) (hv : w.heap[bv]? = some (.cells #[.int .i64 x0, .int .i64 x1, .string x2, v3] 54 (0, 0))) (he : w.heap[be]? = some (.cells #[.int .i64 x4] 33 (0, 0))) :
    CallsD Try.prog 97 #[.pointer (some ⟨bv, 0, none⟩), .pointer (some ⟨be, 0, none⟩)] (.panicking [fault c]) w fun e u' w' =>
      e = .returned (.tuple #[]) ∧ u' = .panicking [{ v := (fault c).v, recovered := true }] ∧ w' = ((((w.setCell ⟨bv, 0, none⟩ (.int .i64 0)).setCell ⟨bv, 1, none⟩ (.int .i64 0)).setCell ⟨bv, 2, none⟩ (.string ⟨#[]⟩)).setCell ⟨bv, 3, none⟩ (.slice none 0 0)).setCell ⟨be, 0, none⟩ (.int .i64 c) := by
  have hta : ∀ w, Sem.run Try.prog (Instr.typeAssert (.iface 179 (.int .i64 c)) 20 179 true) w = .ok (.tuple #[.int .i64 c, .bool true]) w := fun w => rfl
  have hne : bv ≠ be := blk_ne hv he (by decide)
  have c0 : w.cell? ⟨bv, 0, none⟩ = some (.int .i64 x0) := (blk_cell hv 0).trans rfl
  have c1 : w.cell? ⟨bv, 1, none⟩ = some (.int .i64 x1) := (blk_cell hv 1).trans rfl
  have c2 : w.cell? ⟨bv, 2, none⟩ = some (.string x2) := (blk_cell hv 2).trans rfl
  have c3 : w.cell? ⟨bv, 3, none⟩ = some v3 := (blk_cell hv 3).trans rfl
  have c4 : w.cell? ⟨be, 0, none⟩ = some (.int .i64 x4) := (blk_cell he 0).trans rfl
  have f0 := blk_frozen hv 0
  have f1 := blk_frozen hv 1
  have f2 := blk_frozen hv 2
  have f3 := blk_frozen hv 3
  have f4 := blk_frozen he 0
  refine callsD_of_wpS Try.func97 rfl fun c₀ cs hu => ?_
  apply wpS_seq
  apply wpS_region
  simp [wpOpsS, go_sem, recoverD, hu, hta, Try.ntmps97, Exit.thenS]
  apply wpS_seq
  apply wpS_region
  simp [wpOpsS, go_sem, Try.ntmps97, Exit.thenS]
  refine wpS_cond (t := true) (by simp [Act.eval, Array.replicate]) ?_
  simp only [if_true]
  have hua := Try.underlying54
  apply wpS_region
  simp [wpOpsS, go_sem, c0, c1, c2, c3, c4, f0, f1, f2, f3, f4, hne, hne.symm, bodyPostS, results, Try.results97]
theorem panics_use {s : ByteArray} {i d e : Int} (h : Panics s i d e) (g : Nat) (w0 w : World) (hI : IsS183 w0 w g s i) (hB : Below w0.heap.size w0 w) : Calls Try.prog 98 #[.pointer (some ⟨g, 0, none⟩), .int .i64 d] w fun e' w' => e' = .panicked [fault e] ∧ KeepBut w w' g none ∧ Below w0.heap.size w0 w' := h g w0 w hI hB
abbrev W3 (w : World) (s : ByteArray) : World := ((w.alloc (.cells #[.int .i64 0, .int .i64 0, .string ⟨#[]⟩, .slice none 0 0] 54)).alloc (.cells #[.int .i64 0] 33)).alloc (.cells #[.string s, .int .i64 0] 183)
theorem al_size (w : World) (o : Obj) : (w.alloc o).heap.size = w.heap.size + 1 := by show (w.heap.push _).size = _; exact Array.size_push _
theorem al_old (w : World) (o : Obj) (k : Nat) (h : k < w.heap.size) : (w.alloc o).heap[k]? = w.heap[k]? := (below_alloc (Below.refl _ _) o).block k h
theorem W3_size (w : World) (s : ByteArray) : (W3 w s).heap.size = w.heap.size + 1 + 1 + 1 := by rw [W3, al_size, al_size, al_size]
theorem W3_v (w : World) (s : ByteArray) : (W3 w s).heap[w.heap.size]? = some (.cells #[.int .i64 0, .int .i64 0, .string ⟨#[]⟩, .slice none 0 0] 54 (0, 0)) := by
  rw [W3, al_old _ _ _ (by rw [al_size, al_size]; omega), al_old _ _ _ (by rw [al_size]; omega)]; exact blk_new _ _
theorem W3_e (w : World) (s : ByteArray) : (W3 w s).heap[w.heap.size + 1]? = some (.cells #[.int .i64 0] 33 (0, 0)) := by
  rw [W3, al_old _ _ _ (by rw [al_size, al_size]; omega), ← al_size w (.cells #[.int .i64 0, .int .i64 0, .string ⟨#[]⟩, .slice none 0 0] 54)]; exact blk_new _ _
theorem W3_r (w : World) (s : ByteArray) : IsS183 w (W3 w s) (w.heap.size + 1 + 1) s 0 := ⟨by
  rw [W3, ← al_size w (.cells #[.int .i64 0, .int .i64 0, .string ⟨#[]⟩, .slice none 0 0] 54), ← al_size _ (.cells #[.int .i64 0] 33)]; exact blk_new _ _, by omega⟩
theorem W3_below (w : World) (s : ByteArray) : Below w.heap.size w (W3 w s) := below_alloc (below_alloc (below_alloc (Below.refl _ _) _) _) _
theorem set_heap (W : World) (p : Addr) (u : Value) (k : Nat) (h : k ≠ p.block) : (W.setCell p u).heap[k]? = W.heap[k]? := Below.heap_setCell W p u k h
/-- pack.Get's results are read behind its deferred closure -/
theorem get_results (bv be : Nat) (t0 t1 t4 t5 t6 t7 t8 t9 t10 t11 t12 t13 t14 t15 t16 t17 t18 t19 : Value) (W : World) (x0 x1 x4 : Int) (x2 : ByteArray) (A : Option Addr) (n cc : Nat)
    (hv : W.heap[bv]? = some (.cells #[.int .i64 x0, .int .i64 x1, .string x2, .slice A n cc] 54 (0, 0))) (he : W.heap[be]? = some (.cells #[.int .i64 x4] 33 (0, 0))) :
    (results Try.f75 #[t0, t1, .pointer (some ⟨bv, 0, none⟩), .pointer (some ⟨be, 0, none⟩), t4, t5, t6, t7, t8, t9, t10, t11, t12, t13, t14, t15, t16, t17, t18, t19]).run Try.prog W = .ok (.tuple #[.agg #[.int .i64 x0, .int .i64 x1, .string x2, .slice A n cc], .int .i64 x4]) W := by
  have c0 : W.cell? ⟨bv, 0, none⟩ = some (.int .i64 x0) := (blk_cell hv 0).trans rfl
  have c1 : W.cell? ⟨bv, 1, none⟩ = some (.int .i64 x1) := (blk_cell hv 1).trans rfl
  have c2 : W.cell? ⟨bv, 2, none⟩ = some (.string x2) := (blk_cell hv 2).trans rfl
  have c3 : W.cell? ⟨bv, 3, none⟩ = some (.slice A n cc) := (blk_cell hv 3).trans rfl
  have c4 : W.cell? ⟨be, 0, none⟩ = some (.int .i64 x4) := (blk_cell he 0).trans rfl
  have hu := Try.underlying54
  simp [results, Try.results75, go_sem, c0, c1, c2, c3, c4]
theorem door_idle (bv be : Nat) (t0 t1 t4 t5 t6 t7 t8 t9 t10 t11 t12 t13 t14 t15 t16 t17 t18 t19 : Value) (W : World) (x0 x1 x4 : Int) (x2 : ByteArray) (A : Option Addr) (n cc : Nat) (R : Ending → World → Prop)
    (hv : W.heap[bv]? = some (.cells #[.int .i64 x0, .int .i64 x1, .string x2, .slice A n cc] 54 (0, 0))) (he : W.heap[be]? = some (.cells #[.int .i64 x4] 33 (0, 0)))
    (hR : R (.returned (.tuple #[.agg #[.int .i64 x0, .int .i64 x1, .string x2, .slice A n cc], .int .i64 x4])) W) :
    bodyPostD Try.prog Try.f75 R Exit.ret { tmps := #[t0, t1, .pointer (some ⟨bv, 0, none⟩), .pointer (some ⟨be, 0, none⟩), t4, t5, t6, t7, t8, t9, t10, t11, t12, t13, t14, t15, t16, t17, t18, t19], defers := [{ target := .fn (.func 97) #[.pointer (some ⟨bv, 0, none⟩), .pointer (some ⟨be, 0, none⟩)], args := #[] }] } W := by
  refine leaves_cons (f := 97) (args := #[.pointer (some ⟨bv, 0, none⟩), .pointer (some ⟨be, 0, none⟩)]) (by simp) (by simp [go_sem]) ?_
  refine (catch_idle _ _ _).mono ?_
  rintro e u' w'' ⟨rfl, rfl, rfl⟩
  exact ⟨_, get_results bv be _ _ _ _ _ _ _ _ _ _ _ _ _ _ _ _ _ _ _ x0 x1 x4 x2 A n cc hv he, hR⟩
abbrev set4 (w : World) (bv : Nat) (a b c d : Value) : World := (((w.setCell ⟨bv, 0, none⟩ a).setCell ⟨bv, 1, none⟩ b).setCell ⟨bv, 2, none⟩ c).setCell ⟨bv, 3, none⟩ d
theorem set4_v {w : World} {bv : Nat} {t : TypeId} {y0 y1 y2 y3 : Value} (h : w.heap[bv]? = some (.cells #[y0, y1, y2, y3] t (0, 0))) (a b c d : Value) : (set4 w bv a b c d).heap[bv]? = some (.cells #[a, b, c, d] t (0, 0)) :=
  blk_put (blk_put (blk_put (blk_put h 0 a rfl) 1 b rfl) 2 c rfl) 3 d rfl
theorem set4_o {w : World} {bv k : Nat} (h : k ≠ bv) (a b c d : Value) : (set4 w bv a b c d).heap[k]? = w.heap[k]? := by
  rw [set4, set_heap _ _ _ _ h, set_heap _ _ _ _ h, set_heap _ _ _ _ h, set_heap _ _ _ _ h]
theorem set4_below {B bv : Nat} {u w : World} (h : Below B u w) (hb : B ≤ bv) (a b c d : Value) : Below B u (set4 w bv a b c d) :=
  (((h.setCell (p := ⟨bv, 0, none⟩) hb a).setCell (p := ⟨bv, 1, none⟩) hb b).setCell (p := ⟨bv, 2, none⟩) hb c).setCell (p := ⟨bv, 3, none⟩) hb d
theorem door_caught (bv be : Nat) (t0 t1 t4 t5 t6 t7 t8 t9 t10 t11 t12 t13 t14 t15 t16 t17 t18 t19 : Value) (W : World) (c x0 x1 x4 : Int) (x2 : ByteArray) (v3 : Value) (R : Ending → World → Prop)
    (hv : W.heap[bv]? = some (.cells #[.int .i64 x0, .int .i64 x1, .string x2, v3] 54 (0, 0))) (he : W.heap[be]? = some (.cells #[.int .i64 x4] 33 (0, 0)))
    (hR : R (.returned (.tuple #[.agg #[.int .i64 0, .int .i64 0, .string ⟨#[]⟩, .slice none 0 0], .int .i64 c])) ((set4 W bv (.int .i64 0) (.int .i64 0) (.string ⟨#[]⟩) (.slice none 0 0)).setCell ⟨be, 0, none⟩ (.int .i64 c))) :
    bodyPostD Try.prog Try.f75 R (Exit.panic [fault c]) { tmps := #[t0, t1, .pointer (some ⟨bv, 0, none⟩), .pointer (some ⟨be, 0, none⟩), t4, t5, t6, t7, t8, t9, t10, t11, t12, t13, t14, t15, t16, t17, t18, t19], defers := [{ target := .fn (.func 97) #[.pointer (some ⟨bv, 0, none⟩), .pointer (some ⟨be, 0, none⟩)], args := #[] }] } W := by
  have hne : bv ≠ be := blk_ne hv he (by decide)
  refine leaves_cons (f := 97) (args := #[.pointer (some ⟨bv, 0, none⟩), .pointer (some ⟨be, 0, none⟩)]) (by simp) (by simp [go_sem]) ?_
  refine (catch_panicking bv be c x0 x1 x4 x2 v3 W hv he).mono ?_
  rintro e u' w'' ⟨rfl, rfl, rfl⟩
  have hv' := set4_v hv (.int .i64 0) (.int .i64 0) (.string ⟨#[]⟩) (.slice none 0 0)
  have he' : (set4 W bv (.int .i64 0) (.int .i64 0) (.string ⟨#[]⟩) (.slice none 0 0)).heap[be]? = _ := (set4_o hne.symm _ _ _ _).trans he
  exact ⟨_, get_results bv be _ _ _ _ _ _ _ _ _ _ _ _ _ _ _ _ _ _ _ 0 0 c ⟨#[]⟩ none 0 0 (blk_far hv' hne _) (blk_put he' 0 _ rfl), hR⟩
set_option maxHeartbeats 4000000 in
set_option maxRecDepth 100000 in
theorem get_ok (s : ByteArray) (K : Nat) (x : S54) (at_ : Int) (w : World) (h : pack_reader_value.f K s 0 0 = some (x.f0, x.f1, x.f2, x.f3, s, at_)) (h1 : ¬ at_ < (s.size : Int)) :
    Calls Try.prog 75 #[.string s] w fun e w' => ∃ v3_ : Value, e = .returned (.tuple #[.agg #[.int .i64 x.f0, .int .i64 x.f1, .string x.f2, v3_], .int .i64 0]) ∧ Kd.R k54 54 w' w.heap.size (fun _ => True) v3_ x.f3 ∧ Below w.heap.size w w' := by
  have hmf : ∀ (fn : Fn) (first cap : Array Value) (w : World), (Instr.makeFunc fn first cap).run Try.prog w = .ok (.func fn first cap) w := fun _ _ _ _ => rfl
  have HF := Aside0.mk h
  have hd : decide (at_ < (s.size : Int)) = false := decide_eq_false h1
  clear h h1
  have hu := Try.underlying54
  have hu2 := Try.underlying183
  go_enter_defers Try.func75, Try.ntmps75
  go_wp2_with (go_at_call 98; go_loud ((with_reducible refine (pack_reader_value.calls K (w.heap.size + 1 + 1) s 0 0 x.f0 x.f1 x.f2 x.f3 s at_ w _ ?b ?bb HF.out).mono ?_); (case b => exact W3_r w s); (case bb => exact W3_below w s); rintro e w1 ⟨v3, rfl, ho, hi, hb, hk⟩; obtain ⟨A4, cc, e4⟩ := Kd.R_slice ho; subst e4;     have hv := hk.blk (W3_v w s) (by omega) (by simp); have he := hk.blk (W3_e w s) (by omega) (by simp); have hl := keep_size hk; have c0 : w1.cell? ⟨w.heap.size, 0, none⟩ = some (.int .i64 0) := (blk_cell hv 0).trans rfl; have c1 : w1.cell? ⟨w.heap.size, 1, none⟩ = some (.int .i64 0) := (blk_cell hv 1).trans rfl; have c2 : w1.cell? ⟨w.heap.size, 2, none⟩ = some (.string ⟨#[]⟩) := (blk_cell hv 2).trans rfl; have c3 : w1.cell? ⟨w.heap.size, 3, none⟩ = some (.slice none 0 0) := (blk_cell hv 3).trans rfl; have c4 : w1.cell? ⟨w.heap.size + 1, 0, none⟩ = some (.int .i64 0) := (blk_cell he 0).trans rfl; have c5 : w1.cell? ⟨w.heap.size + 1 + 1, 0, none⟩ = some (.string s) := (blk_cell hi.1 0).trans rfl; have c6 : w1.cell? ⟨w.heap.size + 1 + 1, 1, none⟩ = some (.int .i64 at_) := (blk_cell hi.1 1).trans rfl; have f0 := blk_frozen hv 0; have f1 := blk_frozen hv 1; have f2 := blk_frozen hv 2; have f3 := blk_frozen hv 3; have f4 := blk_frozen he 0; have f5 := blk_frozen hi.1 0; have f6 := blk_frozen hi.1 1; have HO := Aside0.mk ho; have HB := Aside0.mk hb; have HL := Aside0.mk hl; have HV := Aside0.mk hv; have HE := Aside0.mk he; clear ho hi hb hk hv he hl))
  have hne : w.heap.size ≠ w.heap.size + 1 := by omega
  have hv1 := set4_v HV.out (.int .i64 x.f0) (.int .i64 x.f1) (.string x.f2) (.slice A4 x.f3.length cc)
  have hv2 := set4_v hv1 (.int .i64 x.f0) (.int .i64 x.f1) (.string x.f2) (.slice A4 x.f3.length cc)
  have he1 := (set4_o (w := w1) hne.symm (.int .i64 x.f0) (.int .i64 x.f1) (.string x.f2) (.slice A4 x.f3.length cc)).trans HE.out
  have he2 := (set4_o (w := set4 w1 w.heap.size (.int .i64 x.f0) (.int .i64 x.f1) (.string x.f2) (.slice A4 x.f3.length cc)) hne.symm (.int .i64 x.f0) (.int .i64 x.f1) (.string x.f2) (.slice A4 x.f3.length cc)).trans he1
  refine door_idle w.heap.size (w.heap.size + 1) _ _ _ _ _ _ _ _ _ _ _ _ _ _ _ _ _ _ _ x.f0 x.f1 0 x.f2 A4 x.f3.length cc _ (blk_far hv2 hne _) (blk_put he2 0 _ rfl) ⟨_, rfl, ?_, ?_⟩
  · refine Kd.R_move (Kd.R_lower (Kd.R_mono (Kd.R_bound HO.out) (ok' := fun k => w.heap.size + 1 + 1 + 1 ≤ k) (fun k hk => by have h := hk.2.1; rw [W3_size] at h; exact h)) (by rw [W3_size]; omega)) ?_ |> fun h => Kd.R_mono h (fun _ _ => trivial)
    intro k hk
    rw [set_heap _ _ _ _ (by show k ≠ w.heap.size + 1; omega), set4_o (by omega), set4_o (by omega)]
  · exact (set4_below (set4_below HB.out (Nat.le_refl _) _ _ _ _) (Nat.le_refl _) _ _ _ _).setCell (by show w.heap.size ≤ w.heap.size + 1; omega) _
set_option maxHeartbeats 4000000 in
set_option maxRecDepth 100000 in
theorem get_more (s : ByteArray) (K : Nat) (x : S54) (at_ : Int) (w : World) (h : pack_reader_value.f K s 0 0 = some (x.f0, x.f1, x.f2, x.f3, s, at_)) (h1 : at_ < (s.size : Int)) :
    Calls Try.prog 75 #[.string s] w fun e w' => e = .returned (.tuple #[.agg #[.int .i64 0, .int .i64 0, .string ⟨#[]⟩, .slice none 0 0], .int .i64 4]) ∧ Below w.heap.size w w' := by
  have hmf : ∀ (fn : Fn) (first cap : Array Value) (w : World), (Instr.makeFunc fn first cap).run Try.prog w = .ok (.func fn first cap) w := fun _ _ _ _ => rfl
  have HF := Aside0.mk h
  have hd : decide (at_ < (s.size : Int)) = true := decide_eq_true h1
  clear h h1
  have hu := Try.underlying54
  have hu2 := Try.underlying183
  go_enter_defers Try.func75, Try.ntmps75
  go_wp2_with (first | (go_at_call 98; go_loud ((with_reducible refine (pack_reader_value.calls K (w.heap.size + 1 + 1) s 0 0 x.f0 x.f1 x.f2 x.f3 s at_ w _ ?b ?bb HF.out).mono ?_); (case b => exact W3_r w s); (case bb => exact W3_below w s); rintro e w1 ⟨v3, rfl, ho, hi, hb, hk⟩; obtain ⟨A4, cc, e4⟩ := Kd.R_slice ho; subst e4;     have hv := hk.blk (W3_v w s) (by omega) (by simp); have he := hk.blk (W3_e w s) (by omega) (by simp); have hl := keep_size hk; have c0 : w1.cell? ⟨w.heap.size, 0, none⟩ = some (.int .i64 0) := (blk_cell hv 0).trans rfl; have c1 : w1.cell? ⟨w.heap.size, 1, none⟩ = some (.int .i64 0) := (blk_cell hv 1).trans rfl; have c2 : w1.cell? ⟨w.heap.size, 2, none⟩ = some (.string ⟨#[]⟩) := (blk_cell hv 2).trans rfl; have c3 : w1.cell? ⟨w.heap.size, 3, none⟩ = some (.slice none 0 0) := (blk_cell hv 3).trans rfl; have c4 : w1.cell? ⟨w.heap.size + 1, 0, none⟩ = some (.int .i64 0) := (blk_cell he 0).trans rfl; have c5 : w1.cell? ⟨w.heap.size + 1 + 1, 0, none⟩ = some (.string s) := (blk_cell hi.1 0).trans rfl; have c6 : w1.cell? ⟨w.heap.size + 1 + 1, 1, none⟩ = some (.int .i64 at_) := (blk_cell hi.1 1).trans rfl; have f0 := blk_frozen hv 0; have f1 := blk_frozen hv 1; have f2 := blk_frozen hv 2; have f3 := blk_frozen hv 3; have f4 := blk_frozen he 0; have f5 := blk_frozen hi.1 0; have f6 := blk_frozen hi.1 1; have HO := Aside0.mk ho; have HB := Aside0.mk hb; have HL := Aside0.mk hl; have HV := Aside0.mk hv; have HE := Aside0.mk he; clear ho hi hb hk hv he hl)) | (go_at_call 99; (with_reducible refine (must_bad 4 (by decide) _).mono ?_); rintro e w3 ⟨rfl, rfl⟩))
  have hne : w.heap.size ≠ w.heap.size + 1 := by omega
  have hv1 := set4_v HV.out (.int .i64 x.f0) (.int .i64 x.f1) (.string x.f2) (.slice A4 x.f3.length cc)
  have he1 := (set4_o (w := w1) hne.symm (.int .i64 x.f0) (.int .i64 x.f1) (.string x.f2) (.slice A4 x.f3.length cc)).trans HE.out
  refine door_caught w.heap.size (w.heap.size + 1) _ _ _ _ _ _ _ _ _ _ _ _ _ _ _ _ _ _ _ 4 x.f0 x.f1 0 x.f2 (.slice A4 x.f3.length cc) _ hv1 he1 ⟨rfl, ?_⟩
  exact (set4_below (set4_below HB.out (Nat.le_refl _) _ _ _ _) (Nat.le_refl _) _ _ _ _).setCell (by show w.heap.size ≤ w.heap.size + 1; omega) _
set_option maxHeartbeats 4000000 in
set_option maxRecDepth 100000 in
theorem get_bad (s : ByteArray) (c : Int) (w : World) (h : Panics s 0 0 c) :
    Calls Try.prog 75 #[.string s] w fun e w' => e = .returned (.tuple #[.agg #[.int .i64 0, .int .i64 0, .string ⟨#[]⟩, .slice none 0 0], .int .i64 c]) ∧ Below w.heap.size w w' := by
  have hmf : ∀ (fn : Fn) (first cap : Array Value) (w : World), (Instr.makeFunc fn first cap).run Try.prog w = .ok (.func fn first cap) w := fun _ _ _ _ => rfl
  have HF := Aside0.mk h
  clear h
  have hu := Try.underlying54
  have hu2 := Try.underlying183
  go_enter_defers Try.func75, Try.ntmps75
  go_wp2_with (go_at_call 98; go_loud ((with_reducible refine (panics_use HF.out (w.heap.size + 1 + 1) w _ ?b ?bb).mono ?_); (case b => exact W3_r w s); (case bb => exact W3_below w s); rintro e w1 ⟨rfl, hk, hb⟩; have hv := hk.blk (W3_v w s) (by omega) (by simp); have he := hk.blk (W3_e w s) (by omega) (by simp); have HB := Aside0.mk hb; have HV := Aside0.mk hv; have HE := Aside0.mk he; clear hb hk hv he))
  refine door_caught w.heap.size (w.heap.size + 1) _ _ _ _ _ _ _ _ _ _ _ _ _ _ _ _ _ _ _ c 0 0 0 ⟨#[]⟩ (.slice none 0 0) _ HV.out HE.out ⟨rfl, ?_⟩
  exact (set4_below HB.out (Nat.le_refl _) _ _ _ _).setCell (by show w.heap.size ≤ w.heap.size + 1; omega) _
end Go.Proofs.Ytjicfkmpgogppaa.Rd
-- printed by a program of this session out of the translation; see NOTES.md
namespace Go.Proofs.Ytjicfkmpgogppaa.PA
open Go.RowKit Go.Proofs.YtjicfkmpgogppaaW.PrintWords Go.Proofs.YtjicfkmpgogppaaW.PrintLast Go.Proofs.YtjicfkmpgogppaaW.PrintMore
attribute [local go_sem] max2_int min2_int max_two min_two max_three min_three max_four min_four   -- for this text's walks alone
set_option linter.unusedVariables false
set_option linter.unusedSimpArgs false

/-! ### pack_Get: function 75 -/
open Vr Rd in
def pack_Get.f (a0 : ByteArray) : Option (Int × Int × ByteArray × (List (S54)) × Int) := if a0.size ≤ 140737488351232 * 4 then (valR Rd.mkV Rd.noV 20 a0 0 0).bind fun r => if r.1 = 0 then (if r.2.2 < (a0.size : Int) then some (0, 0, ⟨#[]⟩, [], 4) else some (r.2.1.f0, r.2.1.f1, r.2.1.f2, r.2.1.f3, 0)) else some (0, 0, ⟨#[]⟩, [], r.1) else none
open Vr Rd in
theorem pack_Get.calls (a0 : ByteArray) (r1 : Int) (r2 : Int) (r3 : ByteArray) (r4 : List (S54)) (r5 : Int) (w : World) (h : pack_Get.f a0 = some (r1, r2, r3, r4, r5)) :
  Calls Try.prog 75 #[.string a0] w fun e w' => ∃ v3_ : Value, e = .returned (.tuple #[.agg #[.int .i64 r1, .int .i64 r2, .string r3, v3_], .int .i64 r5]) ∧ Kd.R k54 54 w' w.heap.size (fun _ => True) v3_ r4 ∧ Below w.heap.size w w' := by
 unfold pack_Get.f at h
 by_cases hs : a0.size ≤ 140737488351232 * 4
 ·rw [if_pos hs] at h
  obtain ⟨⟨e, x, q⟩, hx, h⟩ := Option.bind_eq_some_iff.mp h
  have g := value_good hs 20 0 0 _ (by omega) (by omega) (by omega) (by omega) hx
  dsimp only at h
  by_cases c : e = 0
  ·rw [if_pos c] at h
   obtain ⟨_, _, K, hK⟩ := g.1 c
   by_cases c2 : q < (a0.size : Int)
   ·rw [if_pos c2] at h
    simp only [Option.some.injEq, Prod.mk.injEq] at h
    obtain ⟨rfl, rfl, rfl, rfl, rfl⟩ := h
    exact (get_more a0 K x q w hK c2).mono (fun e w' he => ⟨_, he.1, Kd.R_nil _ _ _ _ _, he.2⟩)
   ·rw [if_neg c2] at h
    simp only [Option.some.injEq, Prod.mk.injEq] at h
    obtain ⟨rfl, rfl, rfl, rfl, rfl⟩ := h
    exact get_ok a0 K x q w hK c2
  ·rw [if_neg c] at h
   simp only [Option.some.injEq, Prod.mk.injEq] at h
   obtain ⟨rfl, rfl, rfl, rfl, rfl⟩ := h
   exact (get_bad a0 e w (g.2 c)).mono (fun e w' he => ⟨_, he.1, Kd.R_nil _ _ _ _ _, he.2⟩)
 ·rw [if_neg hs] at h; cases h

end Go.Proofs.Ytjicfkmpgogppaa.PA
