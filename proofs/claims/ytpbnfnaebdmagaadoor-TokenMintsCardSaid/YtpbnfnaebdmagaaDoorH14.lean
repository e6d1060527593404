/-
  The document's bytes of claims, walked: a list of four values is laid by hand.
  The document's derived key, walked: a list of two values is laid by hand.
  The bytes of a value, plain: the document's are these.
  Both derive the tag of the bytes of a list of the purpose and the number.
  TokenMints: every key and claims have the document's token, every master and tenant the document's key.
-/
import Derived.Test.YtpbnfnaebdmagaaDoorH1
import Derived.Test.YtpbnfnaebdmagaaDoorH0
import Derived.LoopTactic
import Derived.Outline
import Derived.WalkSmall
import Derived.Test.YtpbnfnaebdmagaaDoorH9
import Derived.Test.YtpbnfnaebdmagaaDoorH2
import Derived.Test.YtpbnfnaebdmagaaDoorH4
-- printed by a program of this session out of the translation; see NOTES.md
namespace Go.Proofs.YtpbnfnaebdmagaaDoor.PT
open Go.RowKit Go.Proofs.YtpbnfnaebdmagaaDoorW.PrintWords Go.Proofs.YtpbnfnaebdmagaaDoorW.PrintLast Go.Proofs.YtpbnfnaebdmagaaDoorW.PrintMore Go.Proofs.YtpbnfnaebdmagaaDoorRb
attribute [local go_sem] max2_int min2_int max_two min_two max_three min_three max_four min_four   -- for this text's walks alone
set_option linter.unusedVariables false
set_option linter.unusedSimpArgs false

/-! ### precinctref02_Num: function 43 -/
def precinctref02_Num.f (a0 : Int) : Option (Int × Int × ByteArray × (List (S58))) := some (0, a0, (⟨#[]⟩ : ByteArray), ([] : List (S58)))
set_option maxHeartbeats 8000000 in
set_option maxRecDepth 100000 in
theorem precinctref02_Num.calls (a0 : Int) (r1 : Int) (r2 : Int) (r3 : ByteArray) (r4 : List (S58)) (w : World) (h : precinctref02_Num.f a0 = some (r1, r2, r3, r4)) :
  Calls Tryd.prog 43 #[.int .i64 a0] w fun e w' => ∃ v3_ : Value, e = .returned (.agg #[.int .i64 r1, .int .i64 r2, .string r3, v3_]) ∧ Kd.R k58 58 w' w.heap.size (fun _ => True) v3_ r4 ∧ Below w.heap.size w w' := by
 have hu58 := Tryd.underlying58
 have HB := Aside0.mk (Below.refl w.heap.size w)
 have H : (some (0, a0, (⟨#[]⟩ : ByteArray), ([] : List (S58)))) = some (r1, r2, r3, r4) := h
 clear h
 simp only [Option.some.injEq, Prod.mk.injEq] at H
 obtain ⟨rfl, rfl, rfl, rfl⟩ := H
 go_enter Tryd.func43, Tryd.ntmps43
 go_wp2_with (first | ((with_reducible refine gate_dst (N := 2) rfl ?_); refine box_event ?hg (N := 2) ?hd (cs := #[.int .i64 0, .int .i64 0, .string (⟨#[]⟩ : ByteArray), .slice none 0 0]) (t := 58) ?hr ?_; (case hd => rfl); (case hg => rfl); (case hr => first | (go_simp; done) | (go_simp; rfl)); intro gb322 hg w2 hbox hb; have n0_ := Aside0.mk (below_step bb hb); have n1_ := Aside0.mk (hbox); have n2_ := Aside0.mk ((by rw [hg]; exact (below_size bb) : w.heap.size ≤ gb322)); have n3_ := Aside0.mk ((by rw [hg]; exact (below_size bb) : w.heap.size ≤ gb322)); clear HB; have HB := n0_; have BK322 := n1_; have GW322 := n2_; have GE322 := n3_; clear n0_ n1_ n2_ n3_; clear hb hbox hg; have hcz3_0 : w2.cell? ⟨gb322, 0, none⟩ = some (.int .i64 0) := (blk_cell BK322.out 0).trans rfl; have hcz3_1 : w2.cell? ⟨gb322, 1, none⟩ = some (.int .i64 0) := (blk_cell BK322.out 1).trans rfl; have hcz3_2 : w2.cell? ⟨gb322, 2, none⟩ = some (.string (⟨#[]⟩ : ByteArray)) := (blk_cell BK322.out 2).trans rfl; have hcz3_3 : w2.cell? ⟨gb322, 3, none⟩ = some (.slice none 0 0) := (blk_cell BK322.out 3).trans rfl; have hfz3_0 := blk_frozen BK322.out 0; have hfz3_1 := blk_frozen BK322.out 1; have hfz3_2 := blk_frozen BK322.out 2; have hfz3_3 := blk_frozen BK322.out 3))
 refine bodyPost_ret (results_cell_row rfl _ _ gb322 58 #[.int .i64 0, .int .i64 a0, .string (⟨#[]⟩ : ByteArray), .slice none 0 0] (0, 0) _ rfl (rb (blk_put (cs := #[.int .i64 0, .int .i64 a0, .string (⟨#[]⟩ : ByteArray), .slice none 0 0]) (rb (blk_put (cs := #[.int .i64 0, .int .i64 a0, .string (⟨#[]⟩ : ByteArray), .slice none 0 0]) (rb (blk_put (cs := #[.int .i64 0, .int .i64 0, .string (⟨#[]⟩ : ByteArray), .slice none 0 0]) (rb (blk_put (cs := #[.int .i64 0, .int .i64 0, .string (⟨#[]⟩ : ByteArray), .slice none 0 0]) (rb BK322.out) 0 _ rfl)) 1 _ rfl)) 2 _ rfl)) 3 _ rfl)) Tryd.underlying58 rfl (by kernel_rfl)) rfl ?_
 exact ⟨_, by first | rfl | (simp [errW_none, errW_some] <;> rfl) | (simp [*, errW_none, errW_some] <;> rfl), kn, bb⟩

end Go.Proofs.YtpbnfnaebdmagaaDoor.PT
-- printed by a program of this session out of the translation; see NOTES.md
namespace Go.Proofs.YtpbnfnaebdmagaaDoor.PT
open Go.RowKit Go.Proofs.YtpbnfnaebdmagaaDoorW.PrintWords Go.Proofs.YtpbnfnaebdmagaaDoorW.PrintLast Go.Proofs.YtpbnfnaebdmagaaDoorW.PrintMore Go.Proofs.YtpbnfnaebdmagaaDoorRb
attribute [local go_sem] max2_int min2_int max_two min_two max_three min_three max_four min_four   -- for this text's walks alone
set_option linter.unusedVariables false
set_option linter.unusedSimpArgs false

/-! ### precinctref02_number: function 72 -/
def precinctref02_number.l0 : Nat → ByteArray → Option (ByteArray)
 | 0, _ => none
 | k + 1, x4 => if (x4.size : Int) > 0 then (if 0 < (x4.size : Int) then (if (bt x4 0) = 0 then (if 1 ≤ (x4.size : Int) then (precinctref02_number.l0 k (x4.extract 1 x4.size)) else (none)) else ((some (([1, ((x4.size : Int)) % 256] : List Int) : List Int)).bind fun y328 => (if (strOfNums y328).size + x4.size ≤ 9223372036854775807 then (some ((strOfNums y328) ++ x4)) else (none)))) else (none)) else ((some (([1, ((x4.size : Int)) % 256] : List Int) : List Int)).bind fun y331 => (if (strOfNums y331).size + x4.size ≤ 9223372036854775807 then (some ((strOfNums y331) ++ x4)) else (none)))
def precinctref02_number.f (k : Nat) (a0 : Int) : Option (ByteArray) := (precinctref01_Fold.f a0).bind fun t326 => ((precinctref01_Put.f k 8 t326).bind fun t327 => (precinctref02_number.l0 k t327))
theorem precinctref02_number.mono_l : ∀ k, (∀ y0, LeO (precinctref02_number.l0 k y0) (precinctref02_number.l0 (k + 1) y0))
 | 0 => fun _ r h => by simp [precinctref02_number.l0] at h
 | k + 1 => by
  have ih0 := precinctref02_number.mono_l k
  ·intro y0
   unfold precinctref02_number.l0
   repeat' first
   | (with_reducible exact ih0 _)
   | (with_reducible exact precinctref01_Put.mono _ _ _)
   | (with_reducible exact LeO.refl _)
   | (with_reducible exact LeO.none _)
   | (with_reducible refine LeO.ite ?_ ?_)
   | (with_reducible refine LeO.bind ?_ (fun _ => ?_))
   | exact ih0 _
   | exact precinctref01_Put.mono _ _ _
   | exact LeO.none _
   | refine LeO.ite ?_ ?_
   | refine LeO.bind ?_ (fun _ => ?_)
theorem precinctref02_number.mono : ∀ a0 k, LeO (precinctref02_number.f k a0) (precinctref02_number.f (k + 1) a0) := by
 intro a0 k
 have ih0 := precinctref02_number.mono_l k
 unfold precinctref02_number.f
 repeat' first
   | (with_reducible exact ih0 _)
   | (with_reducible exact precinctref01_Put.mono _ _ _)
   | (with_reducible exact LeO.refl _)
   | (with_reducible exact LeO.none _)
   | (with_reducible refine LeO.ite ?_ ?_)
   | (with_reducible refine LeO.bind ?_ (fun _ => ?_))
   | exact ih0 _
   | exact precinctref01_Put.mono _ _ _
   | exact LeO.none _
   | refine LeO.ite ?_ ?_
   | refine LeO.bind ?_ (fun _ => ?_)
set_option maxHeartbeats 8000000 in
set_option maxRecDepth 100000 in
theorem precinctref02_number.calls (k : Nat) (a0 : Int) (r : ByteArray) (w : World) (h : precinctref02_number.f k a0 = some r) :
  Calls Tryd.prog 72 #[.int .i64 a0] w fun e w' => e = .returned (.string r) ∧ Below w.heap.size w w' := by
 have HB := Aside0.mk (Below.refl w.heap.size w)
 have H : ((precinctref01_Fold.f a0).bind fun t326 => ((precinctref01_Put.f k 8 t326).bind fun t327 => (precinctref02_number.l0 k t327))) = some r := h
 clear h
 replace H := Option.bind_eq_some_iff.mp H
 obtain ⟨t326, A20, H⟩ := H
 replace H : ((precinctref01_Put.f k 8 t326).bind fun t327 => (precinctref02_number.l0 k t327)) = some r := H
 have A2 := Aside0.mk A20
 clear A20
 replace H := Option.bind_eq_some_iff.mp H
 obtain ⟨t327, A30, H⟩ := H
 replace H : (precinctref02_number.l0 k t327) = some r := H
 have A3 := Aside0.mk A30
 clear A30
 have H' := Aside0.mk H
 clear H
 go_enter Tryd.func72, Tryd.ntmps72
 go_wp2_with (first | ((with_reducible refine gate_callee (f := 85) rfl ?_); refine goesL_ (some 6) rfl rfl Tryd.func85 (by kernel_rfl) rfl #[.int .i64 a0] rfl ag ?_; (with_reducible refine (precinctref01_Fold.calls a0 t326 _ A2.out).mono ?_); rintro e w' ⟨rfl, ⟨nd, rfl⟩⟩; refine ⟨_, rfl, ?_⟩) | ((with_reducible refine gate_callee (f := 74) rfl ?_); refine goesL_ (some 8) rfl rfl Tryd.func74 (by kernel_rfl) rfl #[.int .i64 8, .int .u64 t326] rfl ag ?_; (with_reducible refine (precinctref01_Put.calls k 8 t326 t327 _ A3.out).mono ?_); rintro e w4 ⟨rfl, hb⟩; refine ⟨_, rfl, ?_⟩; have n0_ := Aside0.mk (below_step bb hb); clear HB; have HB := n0_; clear n0_; (try clear hb); (try clear hb2); (try clear hk); (try clear hi)))
 go_loopg [4] k (fun kq v4 w' => ∃ (x4_1 : ByteArray), v4 = .string x4_1 ∧ Aside0 (precinctref02_number.l0 kq x4_1 = some r) ∧ Aside0 (kq ≤ k) ∧ Aside0 (Below w.heap.size w w'))
 case atStart => exact ⟨(t327), (by first | rfl | (simp; done) | (simp [*]; done)), H', ⟨Nat.le_refl _⟩, ⟨bb⟩⟩
 case round =>
  clear H'
  try clear p2
  obtain ⟨x4_1, rfl, HA, HK1, HB⟩ := hrel
  cases gk with
  | zero => exact absurd HA.out (by simp [precinctref02_number.l0])
  | succ k1 =>
   have H := HA.out
   clear HA
   simp only [precinctref02_number.l0] at H
   by_cases c5 : (x4_1.size : Int) > 0
   ·rw [if_pos c5] at H
    have c5b0 : decide (0 < (x4_1.size : Int)) = true := decide_eq_true c5
    have c5b1 : decide (0 < x4_1.size) = true := decide_eq_true (by omega)
    clear c5
    by_cases c6 : 0 < (x4_1.size : Int)
    ·rw [if_pos c6] at H
     have c6b0 : decide (0 < (x4_1.size : Int)) = true := decide_eq_true c6
     have c6b1 : decide (0 < x4_1.size) = true := decide_eq_true (by omega)
     clear c6
     by_cases c8 : (bt x4_1 0) = 0
     ·rw [if_pos c8] at H
      have c8b0 : ((bt x4_1 0) == 0) = true := beq_iff_eq.mpr c8
      have c8b1 : ((bt x4_1 0) != 0) = false := bne_eq_false_iff_eq.mpr c8
      clear c8
      by_cases c9 : 1 ≤ (x4_1.size : Int)
      ·rw [if_pos c9] at H
       have c9b0 := eq_true c9
       have c9b1 : decide (1 ≤ (x4_1.size : Int)) = true := decide_eq_true c9
       clear c9
       have H' := Aside0.mk H
       clear H
       have p7 : 0 ≤ (0 : Int) := (by omega)
       have q7 : 0 < x4_1.size := (by have : (0 : Int) < (x4_1.size : Int) := of_decide_eq_true (by first | (with_reducible assumption) | assumption); omega)
       have hx7 : ∀ h : 0 < x4_1.size, ((x4_1[0]'h).toNat : Int) = bt x4_1 0 := bt_at x4_1 0
       clear p7
       have qi7 : (0 < (x4_1.size : Int)) = True := eq_true (of_decide_eq_true (by first | (with_reducible assumption) | assumption))
       replace q7 := eq_true q7
       go_wp2
       go_roundg k1
       case measure => have := HK1.out; omega
       case rel => exact ⟨(x4_1.extract 1 x4_1.size), (by first | rfl | (simp; done) | (simp [*]; done)), H', ⟨by have := HK1.out; omega⟩, ⟨bb⟩⟩
      ·rw [if_neg c9] at H
       exact absurd H (by simp)
     ·rw [if_neg c8] at H
      have c8b0 : ((bt x4_1 0) == 0) = false := beq_eq_false_iff_ne.mpr c8
      have c8b1 : ((bt x4_1 0) != 0) = true := bne_iff_ne.mpr c8
      obtain ⟨y328, hy328⟩ : ∃ y_ : List Int, y_ = (([1, ((x4_1.size : Int)) % 256] : List Int)) := ⟨_, rfl⟩
      replace H : (if (strOfNums y328).size + x4_1.size ≤ 9223372036854775807 then (some ((strOfNums y328) ++ x4_1)) else (none)) = some r := by first | (rw [hy328]; with_reducible exact H) | (have H2_ := (Option.bind_some _ _).symm.trans H; rw [hy328]; with_reducible exact H2_) | (have H2_ := (Option.bind_some _ _).symm.trans H; with_reducible exact H2_) | with_reducible exact H | (rw [hy328]; exact H) | exact H
      have Ny328 := Aside0.mk hy328
      clear hy328
      by_cases c10 : (strOfNums y328).size + x4_1.size ≤ 9223372036854775807
      ·rw [if_pos c10] at H
       have c10b0 := eq_true c10
       have c10b1 : decide ((strOfNums y328).size + x4_1.size ≤ 9223372036854775807) = true := decide_eq_true c10
       try have c10b2 : (9223372036854775807 < (strOfNums y328).size + x4_1.size) = False := eq_false (Nat.not_lt.2 c10)
       obtain rfl := Option.some.inj H
       have p7 : 0 ≤ (0 : Int) := (by omega)
       have q7 : 0 < x4_1.size := (by have : (0 : Int) < (x4_1.size : Int) := of_decide_eq_true (by first | (with_reducible assumption) | assumption); omega)
       have hx7 : ∀ h : 0 < x4_1.size, ((x4_1[0]'h).toNat : Int) = bt x4_1 0 := bt_at x4_1 0
       clear p7
       have qi7 : (0 < (x4_1.size : Int)) = True := eq_true (of_decide_eq_true (by first | (with_reducible assumption) | assumption))
       replace q7 := eq_true q7
       go_wp2_with (first | ((with_reducible refine gate_dst (N := 22) rfl ?_); refine Kd.R_lit (Kd.int .u8) _ 5 ?hg (N := 22) ?hd (xs := ([1, ((x4_1.size : Int)) % 256] : List Int)) (inner := [.int .u8 1, .int .u8 (((x4_1.size : Int)) % 256)]) (ok := fun _ => True) (okp := fun _ => True) ?hr ?hp (fun _ hk => hk) trivial (Below.refl _ _) (Nat.le_refl _) (by simp) ?_; (case hd => rfl); (case hg => rfl); (case hr => first | (go_simp; done) | (go_simp; rfl)); (case hp => exact (Reps.one (show Kd.M (Kd.int .u8) _ _ _ 1 [.int .u8 1] from rfl) (Reps.one (show Kd.M (Kd.int .u8) _ _ _ (((x4_1.size : Int)) % 256) [.int .u8 (((x4_1.size : Int)) % 256)] from rfl) (Reps.none _ _)))); intro v329 w11 ho12 hb hg_ hnew_; clear hg_ hnew_; (first | rw [← Ny328.out] at ho12 | (simp only [Int.reduceToNat] at ho12; rw [← Ny328.out] at ho12)); have n0_ := Aside0.mk (Kd.R_lower ho12 (below_size bb)); have n1_ := Aside0.mk (below_step bb hb); clear HB; have HO330 := n0_; have HB := n1_; clear n0_ n1_; clear hb ho12; have hcv13 := own_string (P := Tryd.prog) Tryd.underlying45 Tryd.underlying5 Tryd.underlying9 (Kd.own_of_R HO330.out)))
       go_ret
       exact ⟨by first | rfl | (simp [errW_none, errW_some] <;> rfl) | (simp [*, errW_none, errW_some] <;> rfl), bb⟩
      ·rw [if_neg c10] at H
       exact absurd H (by simp)
    ·rw [if_neg c6] at H
     exact absurd H (by simp)
   ·rw [if_neg c5] at H
    have c5b0 : decide (0 < (x4_1.size : Int)) = false := decide_eq_false c5
    have c5b1 : decide (0 < x4_1.size) = false := decide_eq_false (by omega)
    clear c5
    obtain ⟨y331, hy331⟩ : ∃ y_ : List Int, y_ = (([1, ((x4_1.size : Int)) % 256] : List Int)) := ⟨_, rfl⟩
    replace H : (if (strOfNums y331).size + x4_1.size ≤ 9223372036854775807 then (some ((strOfNums y331) ++ x4_1)) else (none)) = some r := by first | (rw [hy331]; with_reducible exact H) | (have H2_ := (Option.bind_some _ _).symm.trans H; rw [hy331]; with_reducible exact H2_) | (have H2_ := (Option.bind_some _ _).symm.trans H; with_reducible exact H2_) | with_reducible exact H | (rw [hy331]; exact H) | exact H
    have Ny331 := Aside0.mk hy331
    clear hy331
    by_cases c14 : (strOfNums y331).size + x4_1.size ≤ 9223372036854775807
    ·rw [if_pos c14] at H
     have c14b0 := eq_true c14
     have c14b1 : decide ((strOfNums y331).size + x4_1.size ≤ 9223372036854775807) = true := decide_eq_true c14
     try have c14b2 : (9223372036854775807 < (strOfNums y331).size + x4_1.size) = False := eq_false (Nat.not_lt.2 c14)
     obtain rfl := Option.some.inj H
     go_wp2_with (first | ((with_reducible refine gate_dst (N := 22) rfl ?_); refine Kd.R_lit (Kd.int .u8) _ 5 ?hg (N := 22) ?hd (xs := ([1, ((x4_1.size : Int)) % 256] : List Int)) (inner := [.int .u8 1, .int .u8 (((x4_1.size : Int)) % 256)]) (ok := fun _ => True) (okp := fun _ => True) ?hr ?hp (fun _ hk => hk) trivial (Below.refl _ _) (Nat.le_refl _) (by simp) ?_; (case hd => rfl); (case hg => rfl); (case hr => first | (go_simp; done) | (go_simp; rfl)); (case hp => exact (Reps.one (show Kd.M (Kd.int .u8) _ _ _ 1 [.int .u8 1] from rfl) (Reps.one (show Kd.M (Kd.int .u8) _ _ _ (((x4_1.size : Int)) % 256) [.int .u8 (((x4_1.size : Int)) % 256)] from rfl) (Reps.none _ _)))); intro v332 w15 ho16 hb hg_ hnew_; clear hg_ hnew_; (first | rw [← Ny331.out] at ho16 | (simp only [Int.reduceToNat] at ho16; rw [← Ny331.out] at ho16)); have n0_ := Aside0.mk (Kd.R_lower ho16 (below_size bb)); have n1_ := Aside0.mk (below_step bb hb); clear HB; have HO333 := n0_; have HB := n1_; clear n0_ n1_; clear hb ho16; have hcv17 := own_string (P := Tryd.prog) Tryd.underlying45 Tryd.underlying5 Tryd.underlying9 (Kd.own_of_R HO333.out)))
     go_ret
     exact ⟨by first | rfl | (simp [errW_none, errW_some] <;> rfl) | (simp [*, errW_none, errW_some] <;> rfl), bb⟩
    ·rw [if_neg c14] at H
     exact absurd H (by simp)

end Go.Proofs.YtpbnfnaebdmagaaDoor.PT
-- printed by a program of this session out of the translation; see NOTES.md
namespace Go.Proofs.YtpbnfnaebdmagaaDoor.PT
open Go.RowKit Go.Proofs.YtpbnfnaebdmagaaDoorW.PrintWords Go.Proofs.YtpbnfnaebdmagaaDoorW.PrintLast Go.Proofs.YtpbnfnaebdmagaaDoorW.PrintMore Go.Proofs.YtpbnfnaebdmagaaDoorRb
attribute [local go_sem] max2_int min2_int max_two min_two max_three min_three max_four min_four   -- for this text's walks alone
set_option linter.unusedVariables false
set_option linter.unusedSimpArgs false

/-! ### precinctref02_one: function 64 -/
mutual
def precinctref02_one.j0 : Nat → Int → Bool → Int → Int → ByteArray → List (S58) → Option (ByteArray × Int)
 | 0, _, _, _, _, _, _ => none
 | k + 1, x1, x44, x336000, x336001, x336002, x336003 => if x44 = true then (some ((⟨#[]⟩ : ByteArray), 5)) else ((precinctref01_Put.f k 2 (IntKind.u64.wrap ((x336003.length : Int)))).bind fun t339 => (if 1 + t339.size ≤ 9223372036854775807 then (precinctref02_one.l0 k x1 ((⟨#[3]⟩ : ByteArray) ++ t339) 0 x336000 x336001 x336002 x336003) else (none)))
def precinctref02_one.l0 : Nat → Int → ByteArray → Int → Int → Int → ByteArray → List (S58) → Option (ByteArray × Int)
 | 0, _, _, _, _, _, _, _ => none
 | k + 1, x1, x9, x10, x336000, x336001, x336002, x336003 => if x10 < (x336003.length : Int) then (if 0 ≤ x10 then ((precinctref02_one.f k ((rd_T58 x336003 x10).f0) ((rd_T58 x336003 x10).f1) ((rd_T58 x336003 x10).f2) ((rd_T58 x336003 x10).f3) (wrap64 (x1 + 1))).bind fun bt341 => (if bt341.2 = 0 then (if x9.size + bt341.1.size ≤ 9223372036854775807 then (precinctref02_one.l0 k x1 (x9 ++ bt341.1) (wrap64 (x10 + 1)) x336000 x336001 x336002 x336003) else (none)) else (some ((⟨#[]⟩ : ByteArray), bt341.2)))) else (none)) else (some (x9, 0))
def precinctref02_one.f : Nat → Int → Int → ByteArray → List (S58) → Int → Option (ByteArray × Int)
 | 0, _, _, _, _, _ => none
 | k + 1, a0_0, a0_1, a0_2, l0_3, a1 => if a0_0 = 0 then ((precinctref02_number.f k a0_1).bind fun t336 => (some (t336, 0))) else (if a0_0 = 1 then (if (a0_2.size : Int) > 4096 then (some ((⟨#[]⟩ : ByteArray), 5)) else ((precinctref01_Text.f k a0_2).bind fun bt337 => (if 1 + bt337.1.size ≤ 9223372036854775807 then (some ((⟨#[2]⟩ : ByteArray) ++ bt337.1, bt337.2)) else (none)))) else (if a0_0 = 2 then (if (l0_3.length : Int) > 256 then (precinctref02_one.j0 k a1 true a0_0 a0_1 a0_2 l0_3) else (precinctref02_one.j0 k a1 (decide (a1 ≥ 8)) a0_0 a0_1 a0_2 l0_3)) else (some ((⟨#[]⟩ : ByteArray), 2))))
end
theorem precinctref02_one.mono_l : ∀ k, (∀ y0 y1 y2 y3 y4, LeO (precinctref02_one.f k y0 y1 y2 y3 y4) (precinctref02_one.f (k + 1) y0 y1 y2 y3 y4)) ∧ (∀ y0 y1 y2 y3 y4 y5, LeO (precinctref02_one.j0 k y0 y1 y2 y3 y4 y5) (precinctref02_one.j0 (k + 1) y0 y1 y2 y3 y4 y5)) ∧ (∀ y0 y1 y2 y3 y4 y5 y6, LeO (precinctref02_one.l0 k y0 y1 y2 y3 y4 y5 y6) (precinctref02_one.l0 (k + 1) y0 y1 y2 y3 y4 y5 y6))
 | 0 => ⟨fun _ _ _ _ _ r h => by simp [precinctref02_one.f] at h, fun _ _ _ _ _ _ r h => by simp [precinctref02_one.j0] at h, fun _ _ _ _ _ _ _ r h => by simp [precinctref02_one.l0] at h⟩
 | k + 1 => by
  obtain ⟨ih0, ih1, ih2⟩ := precinctref02_one.mono_l k
  refine ⟨?_, ?_, ?_⟩
  ·intro y0 y1 y2 y3 y4
   unfold precinctref02_one.f
   repeat' first
   | (with_reducible exact ih0 _ _ _ _ _)
   | (with_reducible exact ih1 _ _ _ _ _ _)
   | (with_reducible exact ih2 _ _ _ _ _ _ _)
   | (with_reducible exact precinctref01_Put.mono _ _ _)
   | (with_reducible exact precinctref01_Text.mono _ _)
   | (with_reducible exact precinctref02_number.mono _ _)
   | (with_reducible exact LeO.refl _)
   | (with_reducible exact LeO.none _)
   | (with_reducible refine LeO.ite ?_ ?_)
   | (with_reducible refine LeO.bind ?_ (fun _ => ?_))
   | exact ih0 _ _ _ _ _
   | exact ih1 _ _ _ _ _ _
   | exact ih2 _ _ _ _ _ _ _
   | exact precinctref01_Put.mono _ _ _
   | exact precinctref01_Text.mono _ _
   | exact precinctref02_number.mono _ _
   | exact LeO.none _
   | refine LeO.ite ?_ ?_
   | refine LeO.bind ?_ (fun _ => ?_)
  ·intro y0 y1 y2 y3 y4 y5
   unfold precinctref02_one.j0
   repeat' first
   | (with_reducible exact ih0 _ _ _ _ _)
   | (with_reducible exact ih1 _ _ _ _ _ _)
   | (with_reducible exact ih2 _ _ _ _ _ _ _)
   | (with_reducible exact precinctref01_Put.mono _ _ _)
   | (with_reducible exact precinctref01_Text.mono _ _)
   | (with_reducible exact precinctref02_number.mono _ _)
   | (with_reducible exact LeO.refl _)
   | (with_reducible exact LeO.none _)
   | (with_reducible refine LeO.ite ?_ ?_)
   | (with_reducible refine LeO.bind ?_ (fun _ => ?_))
   | exact ih0 _ _ _ _ _
   | exact ih1 _ _ _ _ _ _
   | exact ih2 _ _ _ _ _ _ _
   | exact precinctref01_Put.mono _ _ _
   | exact precinctref01_Text.mono _ _
   | exact precinctref02_number.mono _ _
   | exact LeO.none _
   | refine LeO.ite ?_ ?_
   | refine LeO.bind ?_ (fun _ => ?_)
  ·intro y0 y1 y2 y3 y4 y5 y6
   unfold precinctref02_one.l0
   repeat' first
   | (with_reducible exact ih0 _ _ _ _ _)
   | (with_reducible exact ih1 _ _ _ _ _ _)
   | (with_reducible exact ih2 _ _ _ _ _ _ _)
   | (with_reducible exact precinctref01_Put.mono _ _ _)
   | (with_reducible exact precinctref01_Text.mono _ _)
   | (with_reducible exact precinctref02_number.mono _ _)
   | (with_reducible exact LeO.refl _)
   | (with_reducible exact LeO.none _)
   | (with_reducible refine LeO.ite ?_ ?_)
   | (with_reducible refine LeO.bind ?_ (fun _ => ?_))
   | exact ih0 _ _ _ _ _
   | exact ih1 _ _ _ _ _ _
   | exact ih2 _ _ _ _ _ _ _
   | exact precinctref01_Put.mono _ _ _
   | exact precinctref01_Text.mono _ _
   | exact precinctref02_number.mono _ _
   | exact LeO.none _
   | refine LeO.ite ?_ ?_
   | refine LeO.bind ?_ (fun _ => ?_)
theorem precinctref02_one.mono : ∀ a0 a1 a2 a3 a4 k, LeO (precinctref02_one.f k a0 a1 a2 a3 a4) (precinctref02_one.f (k + 1) a0 a1 a2 a3 a4) := by
 intro a0 a1 a2 a3 a4 k
 obtain ⟨ih0, ih1, ih2⟩ := precinctref02_one.mono_l k
 exact ih0 a0 a1 a2 a3 a4
set_option maxHeartbeats 8000000 in
set_option maxRecDepth 100000 in
theorem precinctref02_one.calls (k : Nat) : ∀ (a0_0 : Int) (a0_1 : Int) (a0_2 : ByteArray) (A0_3 : Option Addr) (c0_3 : Nat) (l0_3 : List (S58)) (a1 : Int) (r1 : ByteArray) (r2 : Int) (w : World) (hr0_3 : Kd.C k58 w A0_3 l0_3.length l0_3) (hc0_3 : l0_3.length ≤ c0_3) (h : precinctref02_one.f k a0_0 a0_1 a0_2 l0_3 a1 = some (r1, r2)),
  Calls Tryd.prog 64 #[.agg #[.int .i64 a0_0, .int .i64 a0_1, .string a0_2, .slice A0_3 l0_3.length c0_3], .int .i64 a1] w fun e w' => e = .returned (.tuple #[.string r1, .int .i64 r2]) ∧ Below w.heap.size w w' := by
 induction k using Nat.strongRecOn with
 | _ k ih =>
 intro a0_0 a0_1 a0_2 A0_3 c0_3 l0_3 a1 r1 r2 w hr0_3 hc0_3 h
 cases k with
 | zero => exact absurd h (by simp [precinctref02_one.f])
 | succ k =>
 simp only [precinctref02_one.f] at h
 have hu58 := Tryd.underlying58
 have HR0_3 := Aside0.mk hr0_3
 have HC0_3 := Aside0.mk hc0_3
 clear hr0_3 hc0_3
 have HB := Aside0.mk (Below.refl w.heap.size w)
 have H : (if a0_0 = 0 then ((precinctref02_number.f k a0_1).bind fun t336 => (some (t336, 0))) else (if a0_0 = 1 then (if (a0_2.size : Int) > 4096 then (some ((⟨#[]⟩ : ByteArray), 5)) else ((precinctref01_Text.f k a0_2).bind fun bt337 => (if 1 + bt337.1.size ≤ 9223372036854775807 then (some ((⟨#[2]⟩ : ByteArray) ++ bt337.1, bt337.2)) else (none)))) else (if a0_0 = 2 then (if (l0_3.length : Int) > 256 then (precinctref02_one.j0 k a1 true a0_0 a0_1 a0_2 l0_3) else (precinctref02_one.j0 k a1 (decide (a1 ≥ 8)) a0_0 a0_1 a0_2 l0_3)) else (some ((⟨#[]⟩ : ByteArray), 2))))) = some (r1, r2) := h
 clear h
 by_cases c3 : a0_0 = 0
 ·rw [if_pos c3] at H
  have c3b0 : (a0_0 == 0) = true := beq_iff_eq.mpr c3
  have c3b1 : (a0_0 != 0) = false := bne_eq_false_iff_eq.mpr c3
  clear c3
  replace H := Option.bind_eq_some_iff.mp H
  obtain ⟨t336, A40, H⟩ := H
  replace H : (some (t336, 0)) = some (r1, r2) := H
  have A4 := Aside0.mk A40
  clear A40
  simp only [Option.some.injEq, Prod.mk.injEq] at H
  obtain ⟨rfl, rfl⟩ := H
  go_enter Tryd.func64, Tryd.ntmps64
  go_wp2_with (first | ((with_reducible refine gate_dst (N := 2) rfl ?_); refine box_event ?hg (N := 2) ?hd (cs := #[.int .i64 a0_0, .int .i64 a0_1, .string a0_2, .slice A0_3 l0_3.length c0_3]) (t := 58) ?hr ?_; (case hd => rfl); (case hg => rfl); (case hr => first | (go_simp; done) | (go_simp; rfl)); intro gb335 hg w5 hbox hb; have n0_ := Aside0.mk (below_step bb hb); have n1_ := Aside0.mk (hbox); have n2_ := Aside0.mk ((by rw [hg]; exact (below_size bb) : w.heap.size ≤ gb335)); have n3_ := Aside0.mk ((by rw [hg]; exact (below_size bb) : w.heap.size ≤ gb335)); clear HB; have HB := n0_; have BK335 := n1_; have GW335 := n2_; have GE335 := n3_; clear n0_ n1_ n2_ n3_; clear hb hbox hg; have hcz6_0 : w5.cell? ⟨gb335, 0, none⟩ = some (.int .i64 a0_0) := (blk_cell BK335.out 0).trans rfl; have hcz6_1 : w5.cell? ⟨gb335, 1, none⟩ = some (.int .i64 a0_1) := (blk_cell BK335.out 1).trans rfl; have hcz6_2 : w5.cell? ⟨gb335, 2, none⟩ = some (.string a0_2) := (blk_cell BK335.out 2).trans rfl; have hcz6_3 : w5.cell? ⟨gb335, 3, none⟩ = some (.slice A0_3 l0_3.length c0_3) := (blk_cell BK335.out 3).trans rfl; have hfz6_0 := blk_frozen BK335.out 0; have hfz6_1 := blk_frozen BK335.out 1; have hfz6_2 := blk_frozen BK335.out 2; have hfz6_3 := blk_frozen BK335.out 3) | ((with_reducible refine gate_callee (f := 72) rfl ?_); refine goesL_ (some 19) rfl rfl Tryd.func72 (by kernel_rfl) rfl #[.int .i64 a0_1] rfl ag ?_; (with_reducible refine (precinctref02_number.calls k a0_1 t336 _ A4.out).mono ?_); rintro e w7 ⟨rfl, hb⟩; refine ⟨_, rfl, ?_⟩; have n0_ := Aside0.mk (blk_below (rb BK335.out) hb); have n1_ := Aside0.mk (below_step bb hb); clear BK335; clear HB; have BK335 := n0_; have HB := n1_; clear n0_ n1_; (try clear hb); (try clear hb2); (try clear hk); (try clear hi)))
  go_ret2
  exact ⟨by first | rfl | (simp [errW_none, errW_some] <;> rfl) | (simp [*, errW_none, errW_some] <;> rfl), bb⟩
 ·rw [if_neg c3] at H
  have c3b0 : (a0_0 == 0) = false := beq_eq_false_iff_ne.mpr c3
  have c3b1 : (a0_0 != 0) = true := bne_iff_ne.mpr c3
  by_cases c8 : a0_0 = 1
  ·rw [if_pos c8] at H
   have c8b0 : (a0_0 == 1) = true := beq_iff_eq.mpr c8
   have c8b1 : (a0_0 != 1) = false := bne_eq_false_iff_eq.mpr c8
   clear c8
   by_cases c9 : (a0_2.size : Int) > 4096
   ·rw [if_pos c9] at H
    have c9b0 : decide (4096 < (a0_2.size : Int)) = true := decide_eq_true c9
    have c9b1 : decide (4096 < a0_2.size) = true := decide_eq_true (by omega)
    clear c9
    simp only [Option.some.injEq, Prod.mk.injEq] at H
    obtain ⟨rfl, rfl⟩ := H
    go_enter Tryd.func64, Tryd.ntmps64
    go_wp2_with (first | ((with_reducible refine gate_dst (N := 2) rfl ?_); refine box_event ?hg (N := 2) ?hd (cs := #[.int .i64 a0_0, .int .i64 a0_1, .string a0_2, .slice A0_3 l0_3.length c0_3]) (t := 58) ?hr ?_; (case hd => rfl); (case hg => rfl); (case hr => first | (go_simp; done) | (go_simp; rfl)); intro gb335 hg w10 hbox hb; have n0_ := Aside0.mk (below_step bb hb); have n1_ := Aside0.mk (hbox); have n2_ := Aside0.mk ((by rw [hg]; exact (below_size bb) : w.heap.size ≤ gb335)); have n3_ := Aside0.mk ((by rw [hg]; exact (below_size bb) : w.heap.size ≤ gb335)); clear HB; have HB := n0_; have BK335 := n1_; have GW335 := n2_; have GE335 := n3_; clear n0_ n1_ n2_ n3_; clear hb hbox hg; have hcz11_0 : w10.cell? ⟨gb335, 0, none⟩ = some (.int .i64 a0_0) := (blk_cell BK335.out 0).trans rfl; have hcz11_1 : w10.cell? ⟨gb335, 1, none⟩ = some (.int .i64 a0_1) := (blk_cell BK335.out 1).trans rfl; have hcz11_2 : w10.cell? ⟨gb335, 2, none⟩ = some (.string a0_2) := (blk_cell BK335.out 2).trans rfl; have hcz11_3 : w10.cell? ⟨gb335, 3, none⟩ = some (.slice A0_3 l0_3.length c0_3) := (blk_cell BK335.out 3).trans rfl; have hfz11_0 := blk_frozen BK335.out 0; have hfz11_1 := blk_frozen BK335.out 1; have hfz11_2 := blk_frozen BK335.out 2; have hfz11_3 := blk_frozen BK335.out 3))
    go_ret2
    exact ⟨by first | rfl | (simp [errW_none, errW_some] <;> rfl) | (simp [*, errW_none, errW_some] <;> rfl), bb⟩
   ·rw [if_neg c9] at H
    have c9b0 : decide (4096 < (a0_2.size : Int)) = false := decide_eq_false c9
    have c9b1 : decide (4096 < a0_2.size) = false := decide_eq_false (by omega)
    clear c9
    replace H := Option.bind_eq_some_iff.mp H
    obtain ⟨⟨t337, t338⟩, A120, H⟩ := H
    replace H : (if 1 + t337.size ≤ 9223372036854775807 then (some ((⟨#[2]⟩ : ByteArray) ++ t337, t338)) else (none)) = some (r1, r2) := H
    have A12 := Aside0.mk A120
    clear A120
    by_cases c13 : 1 + t337.size ≤ 9223372036854775807
    ·rw [if_pos c13] at H
     have c13b0 := eq_true c13
     have c13b1 : decide (1 + t337.size ≤ 9223372036854775807) = true := decide_eq_true c13
     try have c13b2 : (9223372036854775807 < 1 + t337.size) = False := eq_false (Nat.not_lt.2 c13)
     simp only [Option.some.injEq, Prod.mk.injEq] at H
     obtain ⟨rfl, rfl⟩ := H
     go_enter Tryd.func64, Tryd.ntmps64
     go_wp2_with (first | ((with_reducible refine gate_dst (N := 2) rfl ?_); refine box_event ?hg (N := 2) ?hd (cs := #[.int .i64 a0_0, .int .i64 a0_1, .string a0_2, .slice A0_3 l0_3.length c0_3]) (t := 58) ?hr ?_; (case hd => rfl); (case hg => rfl); (case hr => first | (go_simp; done) | (go_simp; rfl)); intro gb335 hg w14 hbox hb; have n0_ := Aside0.mk (below_step bb hb); have n1_ := Aside0.mk (hbox); have n2_ := Aside0.mk ((by rw [hg]; exact (below_size bb) : w.heap.size ≤ gb335)); have n3_ := Aside0.mk ((by rw [hg]; exact (below_size bb) : w.heap.size ≤ gb335)); clear HB; have HB := n0_; have BK335 := n1_; have GW335 := n2_; have GE335 := n3_; clear n0_ n1_ n2_ n3_; clear hb hbox hg; have hcz15_0 : w14.cell? ⟨gb335, 0, none⟩ = some (.int .i64 a0_0) := (blk_cell BK335.out 0).trans rfl; have hcz15_1 : w14.cell? ⟨gb335, 1, none⟩ = some (.int .i64 a0_1) := (blk_cell BK335.out 1).trans rfl; have hcz15_2 : w14.cell? ⟨gb335, 2, none⟩ = some (.string a0_2) := (blk_cell BK335.out 2).trans rfl; have hcz15_3 : w14.cell? ⟨gb335, 3, none⟩ = some (.slice A0_3 l0_3.length c0_3) := (blk_cell BK335.out 3).trans rfl; have hfz15_0 := blk_frozen BK335.out 0; have hfz15_1 := blk_frozen BK335.out 1; have hfz15_2 := blk_frozen BK335.out 2; have hfz15_3 := blk_frozen BK335.out 3) | ((with_reducible refine gate_callee (f := 73) rfl ?_); refine goesL_ (some 29) rfl rfl Tryd.func73 (by kernel_rfl) rfl #[.string a0_2] rfl ag ?_; (with_reducible refine (precinctref01_Text.calls k a0_2 t337 t338 _ A12.out).mono ?_); rintro e w16 ⟨rfl, hb⟩; refine ⟨_, rfl, ?_⟩; have n0_ := Aside0.mk (blk_below (rb BK335.out) hb); have n1_ := Aside0.mk (below_step bb hb); clear BK335; clear HB; have BK335 := n0_; have HB := n1_; clear n0_ n1_; (try clear hb); (try clear hb2); (try clear hk); (try clear hi)))
     go_ret2
     exact ⟨by first | rfl | (simp [errW_none, errW_some] <;> rfl) | (simp [*, errW_none, errW_some] <;> rfl), bb⟩
    ·rw [if_neg c13] at H
     exact absurd H (by simp)
  ·rw [if_neg c8] at H
   have c8b0 : (a0_0 == 1) = false := beq_eq_false_iff_ne.mpr c8
   have c8b1 : (a0_0 != 1) = true := bne_iff_ne.mpr c8
   by_cases c17 : a0_0 = 2
   ·rw [if_pos c17] at H
    have c17b0 : (a0_0 == 2) = true := beq_iff_eq.mpr c17
    have c17b1 : (a0_0 != 2) = false := bne_eq_false_iff_eq.mpr c17
    clear c17
    have HC18 := Aside0.mk H
    clear H
    go_enter Tryd.func64, Tryd.ntmps64
    go_upto_region 10 with (first | ((with_reducible refine gate_dst (N := 2) rfl ?_); refine box_event ?hg (N := 2) ?hd (cs := #[.int .i64 a0_0, .int .i64 a0_1, .string a0_2, .slice A0_3 l0_3.length c0_3]) (t := 58) ?hr ?_; (case hd => rfl); (case hg => rfl); (case hr => first | (go_simp; done) | (go_simp; rfl)); intro gb335 hg w19 hbox hb; have n0_ := Aside0.mk (below_step bb hb); have n1_ := Aside0.mk (hbox); have n2_ := Aside0.mk ((by rw [hg]; exact (below_size bb) : w.heap.size ≤ gb335)); have n3_ := Aside0.mk ((by rw [hg]; exact (below_size bb) : w.heap.size ≤ gb335)); clear HB; have HB := n0_; have BK335 := n1_; have GW335 := n2_; have GE335 := n3_; clear n0_ n1_ n2_ n3_; clear hb hbox hg; have hcz20_0 : w19.cell? ⟨gb335, 0, none⟩ = some (.int .i64 a0_0) := (blk_cell BK335.out 0).trans rfl; have hcz20_1 : w19.cell? ⟨gb335, 1, none⟩ = some (.int .i64 a0_1) := (blk_cell BK335.out 1).trans rfl; have hcz20_2 : w19.cell? ⟨gb335, 2, none⟩ = some (.string a0_2) := (blk_cell BK335.out 2).trans rfl; have hcz20_3 : w19.cell? ⟨gb335, 3, none⟩ = some (.slice A0_3 l0_3.length c0_3) := (blk_cell BK335.out 3).trans rfl; have hfz20_0 := blk_frozen BK335.out 0; have hfz20_1 := blk_frozen BK335.out 1; have hfz20_2 := blk_frozen BK335.out 2; have hfz20_3 := blk_frozen BK335.out 3))
    (try simp only [Act.put, List.setIfInBounds_toArray, List.set_cons_zero, List.set_cons_succ])
    go_cut [44] (fun v44 wc => ∃ (kq : Nat) (x44_17 : Bool), v44 = .bool x44_17 ∧ Aside0 (precinctref02_one.j0 kq a1 x44_17 a0_0 a0_1 a0_2 l0_3 = some (r1, r2)) ∧ Aside0 (kq ≤ k) ∧ Aside0 (wc.heap[gb335]? = some (.cells #[.int .i64 a0_0, .int .i64 a0_1, .string a0_2, (.slice A0_3 l0_3.length c0_3)] 58 (0, 0))) ∧ Aside0 (Below w.heap.size w wc))
    case first =>
     have H := HC18.out
     clear HC18
     by_cases c21 : (l0_3.length : Int) > 256
     ·rw [if_pos c21] at H
      have c21b0 : decide (256 < (l0_3.length : Int)) = true := decide_eq_true c21
      have c21b1 : decide (256 < l0_3.length) = true := decide_eq_true (by omega)
      clear c21
      (first | rw [c21b0] | (simp only [i64_w, i32_w]; rw [c21b0]) | skip)
      have H' := Aside0.mk H
      clear H
      have hcz22_0 : w19.cell? ⟨gb335, 0, none⟩ = some (.int .i64 a0_0) := (blk_cell BK335.out 0).trans rfl
      have hcz22_1 : w19.cell? ⟨gb335, 1, none⟩ = some (.int .i64 a0_1) := (blk_cell BK335.out 1).trans rfl
      have hcz22_2 : w19.cell? ⟨gb335, 2, none⟩ = some (.string a0_2) := (blk_cell BK335.out 2).trans rfl
      have hcz22_3 : w19.cell? ⟨gb335, 3, none⟩ = some (.slice A0_3 l0_3.length c0_3) := (blk_cell BK335.out 3).trans rfl
      have hfz22_0 := blk_frozen BK335.out 0
      have hfz22_1 := blk_frozen BK335.out 1
      have hfz22_2 := blk_frozen BK335.out 2
      have hfz22_3 := blk_frozen BK335.out 3
      go_wp2
      go_meet
      case rel => exact ⟨_, (true), (by first | rfl | (simp; done) | (simp [*]; done)), H', ⟨by first | omega | exact Nat.le_refl _⟩, ⟨by (with_reducible repeat (first | refine blk_drewN ?_ _ | refine blk_drew ?_ | refine blk_alloc ?_ _)); exact BK335.out⟩, ⟨bb⟩⟩
     ·rw [if_neg c21] at H
      have c21b0 : decide (256 < (l0_3.length : Int)) = false := decide_eq_false c21
      have c21b1 : decide (256 < l0_3.length) = false := decide_eq_false (by omega)
      clear c21
      (first | rw [c21b0] | (simp only [i64_w, i32_w]; rw [c21b0]) | skip)
      have H' := Aside0.mk H
      clear H
      have hcz23_0 : w19.cell? ⟨gb335, 0, none⟩ = some (.int .i64 a0_0) := (blk_cell BK335.out 0).trans rfl
      have hcz23_1 : w19.cell? ⟨gb335, 1, none⟩ = some (.int .i64 a0_1) := (blk_cell BK335.out 1).trans rfl
      have hcz23_2 : w19.cell? ⟨gb335, 2, none⟩ = some (.string a0_2) := (blk_cell BK335.out 2).trans rfl
      have hcz23_3 : w19.cell? ⟨gb335, 3, none⟩ = some (.slice A0_3 l0_3.length c0_3) := (blk_cell BK335.out 3).trans rfl
      have hfz23_0 := blk_frozen BK335.out 0
      have hfz23_1 := blk_frozen BK335.out 1
      have hfz23_2 := blk_frozen BK335.out 2
      have hfz23_3 := blk_frozen BK335.out 3
      go_wp2
      go_meet
      case rel => exact ⟨_, (decide (a1 ≥ 8)), (by first | rfl | (simp; done) | (simp [*]; done)), H', ⟨by first | omega | exact Nat.le_refl _⟩, ⟨by (with_reducible repeat (first | refine blk_drewN ?_ _ | refine blk_drew ?_ | refine blk_alloc ?_ _)); exact BK335.out⟩, ⟨bb⟩⟩
    case rest =>
     clear HC18
     try clear c1
     try clear c2
     try clear p2
     try clear c3
     try clear c3b0
     try clear c3b1
     try clear c6
     try clear c7
     try clear c8
     try clear c8b0
     try clear c8b1
     try clear c9
     try clear c9b0
     try clear c9b1
     try clear c13
     try clear c13b0
     try clear c13b1
     try clear c13b2
     try clear c17
     try clear c17b0
     try clear c17b1
     try clear c21
     try clear c21b0
     try clear c21b1
     try clear hcz11_0
     try clear hcz11_1
     try clear hcz11_2
     try clear hcz11_3
     try clear hcz15_0
     try clear hcz15_1
     try clear hcz15_2
     try clear hcz15_3
     try clear hcz20_0
     try clear hcz20_1
     try clear hcz20_2
     try clear hcz20_3
     try clear hcz22_0
     try clear hcz22_1
     try clear hcz22_2
     try clear hcz22_3
     try clear hcz23_0
     try clear hcz23_1
     try clear hcz23_2
     try clear hcz23_3
     try clear hcz6_0
     try clear hcz6_1
     try clear hcz6_2
     try clear hcz6_3
     try clear hfz11_0
     try clear hfz11_1
     try clear hfz11_2
     try clear hfz11_3
     try clear hfz15_0
     try clear hfz15_1
     try clear hfz15_2
     try clear hfz15_3
     try clear hfz20_0
     try clear hfz20_1
     try clear hfz20_2
     try clear hfz20_3
     try clear hfz22_0
     try clear hfz22_1
     try clear hfz22_2
     try clear hfz22_3
     try clear hfz23_0
     try clear hfz23_1
     try clear hfz23_2
     try clear hfz23_3
     try clear hfz6_0
     try clear hfz6_1
     try clear hfz6_2
     try clear hfz6_3
     obtain ⟨kq, x44_17, rfl, HA, HJ17, BK335, HB⟩ := hcut
     cases kq with
     | zero => exact absurd HA.out (by simp [precinctref02_one.j0])
     | succ kj17 =>
      have H := HA.out
      clear HA
      simp only [precinctref02_one.j0] at H
      by_cases c24 : x44_17 = true
      ·subst c24
       have H1 : (some ((⟨#[]⟩ : ByteArray), 5)) = some (r1, r2) := by rw [if_pos rfl] at H; exact H
       clear H
       have H := H1
       clear H1
       simp only [Option.some.injEq, Prod.mk.injEq] at H
       obtain ⟨rfl, rfl⟩ := H
       go_wp2
       go_ret2
       exact ⟨by first | rfl | (simp [errW_none, errW_some] <;> rfl) | (simp [*, errW_none, errW_some] <;> rfl), bb⟩
      ·replace c24 := Bool.eq_false_iff.mpr c24
       subst c24
       have H1 : ((precinctref01_Put.f kj17 2 (IntKind.u64.wrap ((l0_3.length : Int)))).bind fun t339 => (if 1 + t339.size ≤ 9223372036854775807 then (precinctref02_one.l0 kj17 a1 ((⟨#[3]⟩ : ByteArray) ++ t339) 0 a0_0 a0_1 a0_2 l0_3) else (none))) = some (r1, r2) := by rw [if_neg (show ¬ (false = true) by decide)] at H; exact H
       clear H
       have H := H1
       clear H1
       replace H := Option.bind_eq_some_iff.mp H
       obtain ⟨t339, A250, H⟩ := H
       replace H : (if 1 + t339.size ≤ 9223372036854775807 then (precinctref02_one.l0 kj17 a1 ((⟨#[3]⟩ : ByteArray) ++ t339) 0 a0_0 a0_1 a0_2 l0_3) else (none)) = some (r1, r2) := H
       have A25 := Aside0.mk A250
       clear A250
       by_cases c26 : 1 + t339.size ≤ 9223372036854775807
       ·rw [if_pos c26] at H
        have c26b0 := eq_true c26
        have c26b1 : decide (1 + t339.size ≤ 9223372036854775807) = true := decide_eq_true c26
        try have c26b2 : (9223372036854775807 < 1 + t339.size) = False := eq_false (Nat.not_lt.2 c26)
        have H' := Aside0.mk H
        clear H
        have hcz27_0 : wc.cell? ⟨gb335, 0, none⟩ = some (.int .i64 a0_0) := (blk_cell BK335.out 0).trans rfl
        have hcz27_1 : wc.cell? ⟨gb335, 1, none⟩ = some (.int .i64 a0_1) := (blk_cell BK335.out 1).trans rfl
        have hcz27_2 : wc.cell? ⟨gb335, 2, none⟩ = some (.string a0_2) := (blk_cell BK335.out 2).trans rfl
        have hcz27_3 : wc.cell? ⟨gb335, 3, none⟩ = some (.slice A0_3 l0_3.length c0_3) := (blk_cell BK335.out 3).trans rfl
        have hfz27_0 := blk_frozen BK335.out 0
        have hfz27_1 := blk_frozen BK335.out 1
        have hfz27_2 := blk_frozen BK335.out 2
        have hfz27_3 := blk_frozen BK335.out 3
        go_wp2_with (first | ((with_reducible refine gate_callee (f := 74) rfl ?_); refine goesL_ (some 49) rfl rfl Tryd.func74 (by kernel_rfl) rfl #[.int .i64 2, .int .u64 (IntKind.u64.wrap ((l0_3.length : Int)))] rfl ag ?_; (with_reducible refine (precinctref01_Put.calls kj17 2 (IntKind.u64.wrap ((l0_3.length : Int))) t339 _ A25.out).mono ?_); rintro e w28 ⟨rfl, hb⟩; refine ⟨_, rfl, ?_⟩; have n0_ := Aside0.mk (blk_below (rb BK335.out) hb); have n1_ := Aside0.mk (below_step bb hb); clear BK335; clear HB; have BK335 := n0_; have HB := n1_; clear n0_ n1_; (try clear hb); (try clear hb2); (try clear hk); (try clear hi)))
        go_loopg [9, 10] kj17 (fun kq v9 v10 w' => ∃ (x9_2 : ByteArray) (x10_2 : Int), v9 = .string x9_2 ∧ v10 = .int .i64 x10_2 ∧ Aside0 (precinctref02_one.l0 kq a1 x9_2 x10_2 a0_0 a0_1 a0_2 l0_3 = some (r1, r2)) ∧ Aside0 (kq ≤ kj17) ∧ Aside0 (w'.heap[gb335]? = some (.cells #[.int .i64 a0_0, .int .i64 a0_1, .string a0_2, (.slice A0_3 l0_3.length c0_3)] 58 (0, 0))) ∧ Aside0 (Below w.heap.size w w'))
        case atStart => exact ⟨((⟨#[3]⟩ : ByteArray) ++ t339), (0), (by first | rfl | (simp; done) | (simp [*]; done)), (by first | rfl | (simp; done) | (simp [*]; done)), H', ⟨Nat.le_refl _⟩, ⟨by (with_reducible repeat (first | refine blk_drewN ?_ _ | refine blk_drew ?_ | refine blk_alloc ?_ _)); exact BK335.out⟩, ⟨bb⟩⟩
        case round =>
         clear H'
         try clear c1
         try clear c2
         try clear p2
         try clear c3
         try clear c3b0
         try clear c3b1
         try clear c6
         try clear c7
         try clear c8
         try clear c8b0
         try clear c8b1
         try clear c9
         try clear c9b0
         try clear c9b1
         try clear c13
         try clear c13b0
         try clear c13b1
         try clear c13b2
         try clear c17
         try clear c17b0
         try clear c17b1
         try clear c21
         try clear c21b0
         try clear c21b1
         try clear c24
         try clear c26
         try clear c26b0
         try clear c26b1
         try clear c26b2
         try clear hcz11_0
         try clear hcz11_1
         try clear hcz11_2
         try clear hcz11_3
         try clear hcz15_0
         try clear hcz15_1
         try clear hcz15_2
         try clear hcz15_3
         try clear hcz20_0
         try clear hcz20_1
         try clear hcz20_2
         try clear hcz20_3
         try clear hcz22_0
         try clear hcz22_1
         try clear hcz22_2
         try clear hcz22_3
         try clear hcz23_0
         try clear hcz23_1
         try clear hcz23_2
         try clear hcz23_3
         try clear hcz27_0
         try clear hcz27_1
         try clear hcz27_2
         try clear hcz27_3
         try clear hcz6_0
         try clear hcz6_1
         try clear hcz6_2
         try clear hcz6_3
         try clear hfz11_0
         try clear hfz11_1
         try clear hfz11_2
         try clear hfz11_3
         try clear hfz15_0
         try clear hfz15_1
         try clear hfz15_2
         try clear hfz15_3
         try clear hfz20_0
         try clear hfz20_1
         try clear hfz20_2
         try clear hfz20_3
         try clear hfz22_0
         try clear hfz22_1
         try clear hfz22_2
         try clear hfz22_3
         try clear hfz23_0
         try clear hfz23_1
         try clear hfz23_2
         try clear hfz23_3
         try clear hfz27_0
         try clear hfz27_1
         try clear hfz27_2
         try clear hfz27_3
         try clear hfz6_0
         try clear hfz6_1
         try clear hfz6_2
         try clear hfz6_3
         try clear p2
         obtain ⟨x9_2, x10_2, rfl, rfl, HA, HK2, BK335, HB⟩ := hrel
         cases gk with
         | zero => exact absurd HA.out (by simp [precinctref02_one.l0])
         | succ k2 =>
          have H := HA.out
          clear HA
          simp only [precinctref02_one.l0] at H
          by_cases c29 : x10_2 < (l0_3.length : Int)
          ·rw [if_pos c29] at H
           have c29b0 : decide (x10_2 < (l0_3.length : Int)) = true := decide_eq_true c29
           clear c29
           by_cases c30 : 0 ≤ x10_2
           ·rw [if_pos c30] at H
            have c30b0 : decide (0 ≤ x10_2) = true := decide_eq_true c30
            clear c30
            replace H := Option.bind_eq_some_iff.mp H
            obtain ⟨⟨t341, t342⟩, A310, H⟩ := H
            replace H : (if t342 = 0 then (if x9_2.size + t341.size ≤ 9223372036854775807 then (precinctref02_one.l0 k2 a1 (x9_2 ++ t341) (wrap64 (x10_2 + 1)) a0_0 a0_1 a0_2 l0_3) else (none)) else (some ((⟨#[]⟩ : ByteArray), t342))) = some (r1, r2) := H
            have A31 := Aside0.mk A310
            clear A310
            by_cases c32 : t342 = 0
            ·rw [if_pos c32] at H
             have c32b0 : (t342 == 0) = true := beq_iff_eq.mpr c32
             have c32b1 : (t342 != 0) = false := bne_eq_false_iff_eq.mpr c32
             clear c32
             by_cases c33 : x9_2.size + t341.size ≤ 9223372036854775807
             ·rw [if_pos c33] at H
              have c33b0 := eq_true c33
              have c33b1 : decide (x9_2.size + t341.size ≤ 9223372036854775807) = true := decide_eq_true c33
              try have c33b2 : (9223372036854775807 < x9_2.size + t341.size) = False := eq_false (Nat.not_lt.2 c33)
              have H' := Aside0.mk H
              clear H
              have hcz34_0 : wr.cell? ⟨gb335, 0, none⟩ = some (.int .i64 a0_0) := (blk_cell BK335.out 0).trans rfl
              have hcz34_1 : wr.cell? ⟨gb335, 1, none⟩ = some (.int .i64 a0_1) := (blk_cell BK335.out 1).trans rfl
              have hcz34_2 : wr.cell? ⟨gb335, 2, none⟩ = some (.string a0_2) := (blk_cell BK335.out 2).trans rfl
              have hcz34_3 : wr.cell? ⟨gb335, 3, none⟩ = some (.slice A0_3 l0_3.length c0_3) := (blk_cell BK335.out 3).trans rfl
              have hfz34_0 := blk_frozen BK335.out 0
              have hfz34_1 := blk_frozen BK335.out 1
              have hfz34_2 := blk_frozen BK335.out 2
              have hfz34_3 := blk_frozen BK335.out 3
              have p340 : 0 ≤ (x10_2 : Int) := of_decide_eq_true (by first | (with_reducible assumption) | assumption)
              have q340 : x10_2 < (l0_3.length : Int) := of_decide_eq_true (by first | (with_reducible assumption) | assumption)
              obtain ⟨ad340, A340_3, c340_3, e340, hx340_0, hx340_1, hx340_2, hx340_3, hl340_3, hi340_3⟩ := at_T58 HR0_3.out x10_2 p340 q340
              cases e340
              replace hx340_0 := (HB.out.cell (World.block_lt_of_cell? w _ hx340_0)).trans hx340_0
              replace hx340_1 := (HB.out.cell (World.block_lt_of_cell? w _ hx340_1)).trans hx340_1
              replace hx340_2 := (HB.out.cell (World.block_lt_of_cell? w _ hx340_2)).trans hx340_2
              replace hx340_3 := (HB.out.cell (World.block_lt_of_cell? w _ hx340_3)).trans hx340_3
              have HR340_3 := Aside0.mk hi340_3
              have HC340_3 := Aside0.mk hl340_3
              clear hi340_3 hl340_3
              replace p340 := eq_true p340
              replace q340 := eq_true q340
              go_wp2_with (first | ((with_reducible refine gate_callee (f := 64) rfl ?_); refine goesL_ (some 67) rfl rfl Tryd.func64 (by kernel_rfl) rfl #[.agg #[.int .i64 ((rd_T58 l0_3 x10_2).f0), .int .i64 ((rd_T58 l0_3 x10_2).f1), .string ((rd_T58 l0_3 x10_2).f2), .slice A340_3 ((rd_T58 l0_3 x10_2).f3).length c340_3], .int .i64 (wrap64 (a1 + 1))] rfl ag ?_; (with_reducible refine (ih k2 (by have := HJ17.out; have := HK2.out; omega) ((rd_T58 l0_3 x10_2).f0) ((rd_T58 l0_3 x10_2).f1) ((rd_T58 l0_3 x10_2).f2) _ _ ((rd_T58 l0_3 x10_2).f3) (wrap64 (a1 + 1)) t341 t342 _ ?side1 ?side2 A31.out).mono ?_); (case side1 => repeat (first | exact (Kd.C_below HR340_3.out HB.out) | (with_reducible refine Kd.C_alloc ?_ _) | (with_reducible refine Kd.C_drewN ?_ _) | (with_reducible refine Kd.C_drew ?_))); (case side2 => exact HC340_3.out); rintro e w35 ⟨rfl, hb⟩; refine ⟨_, rfl, ?_⟩; have n0_ := Aside0.mk (blk_below (rb BK335.out) hb); have n1_ := Aside0.mk (below_step bb hb); clear BK335; clear HB; have BK335 := n0_; have HB := n1_; clear n0_ n1_; (try clear hb); (try clear hb2); (try clear hk); (try clear hi)))
              go_roundg k2
              case measure => have := HJ17.out; have := HK2.out; omega
              case rel => exact ⟨(x9_2 ++ t341), (wrap64 (x10_2 + 1)), (by first | rfl | (simp; done) | (simp [*]; done)), (by first | rfl | (simp; done) | (simp [*]; done)), H', ⟨by have := HJ17.out; have := HK2.out; omega⟩, ⟨by (with_reducible repeat (first | refine blk_drewN ?_ _ | refine blk_drew ?_ | refine blk_alloc ?_ _)); exact BK335.out⟩, ⟨bb⟩⟩
             ·rw [if_neg c33] at H
              exact absurd H (by simp)
            ·rw [if_neg c32] at H
             have c32b0 : (t342 == 0) = false := beq_eq_false_iff_ne.mpr c32
             have c32b1 : (t342 != 0) = true := bne_iff_ne.mpr c32
             simp only [Option.some.injEq, Prod.mk.injEq] at H
             obtain ⟨rfl, rfl⟩ := H
             have hcz36_0 : wr.cell? ⟨gb335, 0, none⟩ = some (.int .i64 a0_0) := (blk_cell BK335.out 0).trans rfl
             have hcz36_1 : wr.cell? ⟨gb335, 1, none⟩ = some (.int .i64 a0_1) := (blk_cell BK335.out 1).trans rfl
             have hcz36_2 : wr.cell? ⟨gb335, 2, none⟩ = some (.string a0_2) := (blk_cell BK335.out 2).trans rfl
             have hcz36_3 : wr.cell? ⟨gb335, 3, none⟩ = some (.slice A0_3 l0_3.length c0_3) := (blk_cell BK335.out 3).trans rfl
             have hfz36_0 := blk_frozen BK335.out 0
             have hfz36_1 := blk_frozen BK335.out 1
             have hfz36_2 := blk_frozen BK335.out 2
             have hfz36_3 := blk_frozen BK335.out 3
             have p340 : 0 ≤ (x10_2 : Int) := of_decide_eq_true (by first | (with_reducible assumption) | assumption)
             have q340 : x10_2 < (l0_3.length : Int) := of_decide_eq_true (by first | (with_reducible assumption) | assumption)
             obtain ⟨ad340, A340_3, c340_3, e340, hx340_0, hx340_1, hx340_2, hx340_3, hl340_3, hi340_3⟩ := at_T58 HR0_3.out x10_2 p340 q340
             cases e340
             replace hx340_0 := (HB.out.cell (World.block_lt_of_cell? w _ hx340_0)).trans hx340_0
             replace hx340_1 := (HB.out.cell (World.block_lt_of_cell? w _ hx340_1)).trans hx340_1
             replace hx340_2 := (HB.out.cell (World.block_lt_of_cell? w _ hx340_2)).trans hx340_2
             replace hx340_3 := (HB.out.cell (World.block_lt_of_cell? w _ hx340_3)).trans hx340_3
             have HR340_3 := Aside0.mk hi340_3
             have HC340_3 := Aside0.mk hl340_3
             clear hi340_3 hl340_3
             replace p340 := eq_true p340
             replace q340 := eq_true q340
             go_wp2_with (first | ((with_reducible refine gate_callee (f := 64) rfl ?_); refine goesL_ (some 67) rfl rfl Tryd.func64 (by kernel_rfl) rfl #[.agg #[.int .i64 ((rd_T58 l0_3 x10_2).f0), .int .i64 ((rd_T58 l0_3 x10_2).f1), .string ((rd_T58 l0_3 x10_2).f2), .slice A340_3 ((rd_T58 l0_3 x10_2).f3).length c340_3], .int .i64 (wrap64 (a1 + 1))] rfl ag ?_; (with_reducible refine (ih k2 (by have := HJ17.out; have := HK2.out; omega) ((rd_T58 l0_3 x10_2).f0) ((rd_T58 l0_3 x10_2).f1) ((rd_T58 l0_3 x10_2).f2) _ _ ((rd_T58 l0_3 x10_2).f3) (wrap64 (a1 + 1)) t341 t342 _ ?side1 ?side2 A31.out).mono ?_); (case side1 => repeat (first | exact (Kd.C_below HR340_3.out HB.out) | (with_reducible refine Kd.C_alloc ?_ _) | (with_reducible refine Kd.C_drewN ?_ _) | (with_reducible refine Kd.C_drew ?_))); (case side2 => exact HC340_3.out); rintro e w37 ⟨rfl, hb⟩; refine ⟨_, rfl, ?_⟩; have n0_ := Aside0.mk (blk_below (rb BK335.out) hb); have n1_ := Aside0.mk (below_step bb hb); clear BK335; clear HB; have BK335 := n0_; have HB := n1_; clear n0_ n1_; (try clear hb); (try clear hb2); (try clear hk); (try clear hi)))
             go_ret2
             exact ⟨by first | rfl | (simp [errW_none, errW_some] <;> rfl) | (simp [*, errW_none, errW_some] <;> rfl), bb⟩
           ·rw [if_neg c30] at H
            exact absurd H (by simp)
          ·rw [if_neg c29] at H
           have c29b0 : decide (x10_2 < (l0_3.length : Int)) = false := decide_eq_false c29
           clear c29
           simp only [Option.some.injEq, Prod.mk.injEq] at H
           obtain ⟨rfl, rfl⟩ := H
           have hcz38_0 : wr.cell? ⟨gb335, 0, none⟩ = some (.int .i64 a0_0) := (blk_cell BK335.out 0).trans rfl
           have hcz38_1 : wr.cell? ⟨gb335, 1, none⟩ = some (.int .i64 a0_1) := (blk_cell BK335.out 1).trans rfl
           have hcz38_2 : wr.cell? ⟨gb335, 2, none⟩ = some (.string a0_2) := (blk_cell BK335.out 2).trans rfl
           have hcz38_3 : wr.cell? ⟨gb335, 3, none⟩ = some (.slice A0_3 l0_3.length c0_3) := (blk_cell BK335.out 3).trans rfl
           have hfz38_0 := blk_frozen BK335.out 0
           have hfz38_1 := blk_frozen BK335.out 1
           have hfz38_2 := blk_frozen BK335.out 2
           have hfz38_3 := blk_frozen BK335.out 3
           go_wp2
           go_ret2
           exact ⟨by first | rfl | (simp [errW_none, errW_some] <;> rfl) | (simp [*, errW_none, errW_some] <;> rfl), bb⟩
       ·rw [if_neg c26] at H
        exact absurd H (by simp)
   ·rw [if_neg c17] at H
    have c17b0 : (a0_0 == 2) = false := beq_eq_false_iff_ne.mpr c17
    have c17b1 : (a0_0 != 2) = true := bne_iff_ne.mpr c17
    simp only [Option.some.injEq, Prod.mk.injEq] at H
    obtain ⟨rfl, rfl⟩ := H
    go_enter Tryd.func64, Tryd.ntmps64
    go_wp2_with (first | ((with_reducible refine gate_dst (N := 2) rfl ?_); refine box_event ?hg (N := 2) ?hd (cs := #[.int .i64 a0_0, .int .i64 a0_1, .string a0_2, .slice A0_3 l0_3.length c0_3]) (t := 58) ?hr ?_; (case hd => rfl); (case hg => rfl); (case hr => first | (go_simp; done) | (go_simp; rfl)); intro gb335 hg w39 hbox hb; have n0_ := Aside0.mk (below_step bb hb); have n1_ := Aside0.mk (hbox); have n2_ := Aside0.mk ((by rw [hg]; exact (below_size bb) : w.heap.size ≤ gb335)); have n3_ := Aside0.mk ((by rw [hg]; exact (below_size bb) : w.heap.size ≤ gb335)); clear HB; have HB := n0_; have BK335 := n1_; have GW335 := n2_; have GE335 := n3_; clear n0_ n1_ n2_ n3_; clear hb hbox hg; have hcz40_0 : w39.cell? ⟨gb335, 0, none⟩ = some (.int .i64 a0_0) := (blk_cell BK335.out 0).trans rfl; have hcz40_1 : w39.cell? ⟨gb335, 1, none⟩ = some (.int .i64 a0_1) := (blk_cell BK335.out 1).trans rfl; have hcz40_2 : w39.cell? ⟨gb335, 2, none⟩ = some (.string a0_2) := (blk_cell BK335.out 2).trans rfl; have hcz40_3 : w39.cell? ⟨gb335, 3, none⟩ = some (.slice A0_3 l0_3.length c0_3) := (blk_cell BK335.out 3).trans rfl; have hfz40_0 := blk_frozen BK335.out 0; have hfz40_1 := blk_frozen BK335.out 1; have hfz40_2 := blk_frozen BK335.out 2; have hfz40_3 := blk_frozen BK335.out 3))
    go_ret2
    exact ⟨by first | rfl | (simp [errW_none, errW_some] <;> rfl) | (simp [*, errW_none, errW_some] <;> rfl), bb⟩

end Go.Proofs.YtpbnfnaebdmagaaDoor.PT
-- printed by a program of this session out of the translation; see NOTES.md
namespace Go.Proofs.YtpbnfnaebdmagaaDoor.PT
open Go.RowKit Go.Proofs.YtpbnfnaebdmagaaDoorW.PrintWords Go.Proofs.YtpbnfnaebdmagaaDoorW.PrintLast Go.Proofs.YtpbnfnaebdmagaaDoorW.PrintMore Go.Proofs.YtpbnfnaebdmagaaDoorRb
attribute [local go_sem] max2_int min2_int max_two min_two max_three min_three max_four min_four   -- for this text's walks alone
set_option linter.unusedVariables false
set_option linter.unusedSimpArgs false

/-! ### precinctref02_Put: function 44 -/
def precinctref02_Put.f (k : Nat) (a0_0 : Int) (a0_1 : Int) (a0_2 : ByteArray) (l0_3 : List (S58)) : Option (ByteArray × Int) := (precinctref02_one.f k a0_0 a0_1 a0_2 l0_3 0).bind fun bt344 => (some (bt344.1, bt344.2))
theorem precinctref02_Put.mono : ∀ a0 a1 a2 a3 k, LeO (precinctref02_Put.f k a0 a1 a2 a3) (precinctref02_Put.f (k + 1) a0 a1 a2 a3) := by
 intro a0 a1 a2 a3 k
 unfold precinctref02_Put.f
 repeat' first
   | (with_reducible exact precinctref02_one.mono _ _ _ _ _ _)
   | (with_reducible exact LeO.refl _)
   | (with_reducible exact LeO.none _)
   | (with_reducible refine LeO.ite ?_ ?_)
   | (with_reducible refine LeO.bind ?_ (fun _ => ?_))
   | exact precinctref02_one.mono _ _ _ _ _ _
   | exact LeO.none _
   | refine LeO.ite ?_ ?_
   | refine LeO.bind ?_ (fun _ => ?_)
set_option maxHeartbeats 8000000 in
set_option maxRecDepth 100000 in
theorem precinctref02_Put.calls (k : Nat) (a0_0 : Int) (a0_1 : Int) (a0_2 : ByteArray) (A0_3 : Option Addr) (c0_3 : Nat) (l0_3 : List (S58)) (r1 : ByteArray) (r2 : Int) (w : World) (hr0_3 : Kd.C k58 w A0_3 l0_3.length l0_3) (hc0_3 : l0_3.length ≤ c0_3) (h : precinctref02_Put.f k a0_0 a0_1 a0_2 l0_3 = some (r1, r2)) :
  Calls Tryd.prog 44 #[.agg #[.int .i64 a0_0, .int .i64 a0_1, .string a0_2, .slice A0_3 l0_3.length c0_3]] w fun e w' => e = .returned (.tuple #[.string r1, .int .i64 r2]) ∧ Below w.heap.size w w' := by
 have hu58 := Tryd.underlying58
 have HR0_3 := Aside0.mk hr0_3
 have HC0_3 := Aside0.mk hc0_3
 clear hr0_3 hc0_3
 have HB := Aside0.mk (Below.refl w.heap.size w)
 have H : ((precinctref02_one.f k a0_0 a0_1 a0_2 l0_3 0).bind fun bt344 => (some (bt344.1, bt344.2))) = some (r1, r2) := h
 clear h
 replace H := Option.bind_eq_some_iff.mp H
 obtain ⟨⟨t344, t345⟩, A20, H⟩ := H
 replace H : (some (t344, t345)) = some (r1, r2) := H
 have A2 := Aside0.mk A20
 clear A20
 simp only [Option.some.injEq, Prod.mk.injEq] at H
 obtain ⟨rfl, rfl⟩ := H
 go_enter Tryd.func44, Tryd.ntmps44
 go_wp2_with (first | ((with_reducible refine gate_dst (N := 1) rfl ?_); refine box_event ?hg (N := 1) ?hd (cs := #[.int .i64 a0_0, .int .i64 a0_1, .string a0_2, .slice A0_3 l0_3.length c0_3]) (t := 58) ?hr ?_; (case hd => rfl); (case hg => rfl); (case hr => first | (go_simp; done) | (go_simp; rfl)); intro gb343 hg w3 hbox hb; have n0_ := Aside0.mk (below_step bb hb); have n1_ := Aside0.mk (hbox); have n2_ := Aside0.mk ((by rw [hg]; exact (below_size bb) : w.heap.size ≤ gb343)); have n3_ := Aside0.mk ((by rw [hg]; exact (below_size bb) : w.heap.size ≤ gb343)); clear HB; have HB := n0_; have BK343 := n1_; have GW343 := n2_; have GE343 := n3_; clear n0_ n1_ n2_ n3_; clear hb hbox hg; have hcz4_0 : w3.cell? ⟨gb343, 0, none⟩ = some (.int .i64 a0_0) := (blk_cell BK343.out 0).trans rfl; have hcz4_1 : w3.cell? ⟨gb343, 1, none⟩ = some (.int .i64 a0_1) := (blk_cell BK343.out 1).trans rfl; have hcz4_2 : w3.cell? ⟨gb343, 2, none⟩ = some (.string a0_2) := (blk_cell BK343.out 2).trans rfl; have hcz4_3 : w3.cell? ⟨gb343, 3, none⟩ = some (.slice A0_3 l0_3.length c0_3) := (blk_cell BK343.out 3).trans rfl; have hfz4_0 := blk_frozen BK343.out 0; have hfz4_1 := blk_frozen BK343.out 1; have hfz4_2 := blk_frozen BK343.out 2; have hfz4_3 := blk_frozen BK343.out 3) | ((with_reducible refine gate_callee (f := 64) rfl ?_); refine goesL_ (some 5) rfl rfl Tryd.func64 (by kernel_rfl) rfl #[.agg #[.int .i64 a0_0, .int .i64 a0_1, .string a0_2, .slice A0_3 l0_3.length c0_3], .int .i64 0] rfl ag ?_; (with_reducible refine (precinctref02_one.calls k a0_0 a0_1 a0_2 _ _ l0_3 0 t344 t345 _ ?side1 ?side2 A2.out).mono ?_); (case side1 => repeat (first | exact (Kd.C_below HR0_3.out HB.out) | (with_reducible refine Kd.C_alloc ?_ _) | (with_reducible refine Kd.C_drewN ?_ _) | (with_reducible refine Kd.C_drew ?_))); (case side2 => exact HC0_3.out); rintro e w5 ⟨rfl, hb⟩; refine ⟨_, rfl, ?_⟩; have n0_ := Aside0.mk (blk_below (rb BK343.out) hb); have n1_ := Aside0.mk (below_step bb hb); clear BK343; clear HB; have BK343 := n0_; have HB := n1_; clear n0_ n1_; (try clear hb); (try clear hb2); (try clear hk); (try clear hi)))
 go_ret2
 exact ⟨by first | rfl | (simp [errW_none, errW_some] <;> rfl) | (simp [*, errW_none, errW_some] <;> rfl), bb⟩

end Go.Proofs.YtpbnfnaebdmagaaDoor.PT
namespace Go.Proofs.YtpbnfnaebdmagaaDoor.Rb9
set_option linter.unusedVariables false
set_option linter.unusedSimpArgs false
open Go Go.RowKit Go.Proofs.YtpbnfnaebdmagaaDoor.Plain Go.Proofs.YtpbnfnaebdmagaaDoor.Vs Go.Proofs.YtpbnfnaebdmagaaDoor.PT Go.Proofs.YtpbnfnaebdmagaaDoorW.PrintWords Go.Proofs.YtpbnfnaebdmagaaDoorW.PrintLast Go.Proofs.YtpbnfnaebdmagaaDoorW.PrintMore
theorem row4 {W1 : World} {g : Nat} {A0 A1 A2 A3 : Option Addr} {n0 n1 n2 n3 : Nat} (x0 x1 x2 x3 : W) (h : W1.heap[g]? = some (.cells #[.int .i64 x0.f0, .int .i64 x0.f1, .string x0.f2, .slice A0 x0.f3.length n0, .int .i64 x1.f0, .int .i64 x1.f1, .string x1.f2, .slice A1 x1.f3.length n1, .int .i64 x2.f0, .int .i64 x2.f1, .string x2.f2, .slice A2 x2.f3.length n2, .int .i64 x3.f0, .int .i64 x3.f1, .string x3.f2, .slice A3 x3.f3.length n3] 58 (0, 0)))
    (h0 : Kd.C k58 W1 A0 x0.f3.length x0.f3) (l0 : x0.f3.length ≤ n0) (h1 : Kd.C k58 W1 A1 x1.f3.length x1.f3) (l1 : x1.f3.length ≤ n1) (h2 : Kd.C k58 W1 A2 x2.f3.length x2.f3) (l2 : x2.f3.length ≤ n2) (h3 : Kd.C k58 W1 A3 x3.f3.length x3.f3) (l3 : x3.f3.length ≤ n3) :
    Kd.C k58 W1 (some ⟨g, 0, none⟩) 4 [x0, x1, x2, x3] := by
  have hadd : ∀ n : Nat, (⟨g, 0, none⟩ : Addr).add n = ⟨g, n, none⟩ := fun n => by unfold Addr.add; split <;> simp_all
  refine ⟨rfl, by decide, fun _ => ⟨⟨g, 0, none⟩, rfl, fun j p hj => ?_⟩⟩
  match j, hj with
  | 0, hj =>
    obtain rfl : x0 = p := by simpa using hj
    refine ⟨_, rfl, k58_mk W1 x0 l0 h0, fun i u hi => ?_⟩
    rw [hadd, blk_cell h]
    match i, hi with
    | 0, hi => exact hi
    | 1, hi => exact hi
    | 2, hi => exact hi
    | 3, hi => exact hi
    | i + 4, hi => simp at hi
  | 1, hj =>
    obtain rfl : x1 = p := by simpa using hj
    refine ⟨_, rfl, k58_mk W1 x1 l1 h1, fun i u hi => ?_⟩
    rw [hadd, blk_cell h]
    match i, hi with
    | 0, hi => exact hi
    | 1, hi => exact hi
    | 2, hi => exact hi
    | 3, hi => exact hi
    | i + 4, hi => simp at hi
  | 2, hj =>
    obtain rfl : x2 = p := by simpa using hj
    refine ⟨_, rfl, k58_mk W1 x2 l2 h2, fun i u hi => ?_⟩
    rw [hadd, blk_cell h]
    match i, hi with
    | 0, hi => exact hi
    | 1, hi => exact hi
    | 2, hi => exact hi
    | 3, hi => exact hi
    | i + 4, hi => simp at hi
  | 3, hj =>
    obtain rfl : x3 = p := by simpa using hj
    refine ⟨_, rfl, k58_mk W1 x3 l3 h3, fun i u hi => ?_⟩
    rw [hadd, blk_cell h]
    match i, hi with
    | 0, hi => exact hi
    | 1, hi => exact hi
    | 2, hi => exact hi
    | 3, hi => exact hi
    | i + 4, hi => simp at hi
  | j + 4, hj => simp at hj
def bytes9 (k : Nat) (a0 a1 a2 a3 : Int) : Option ByteArray := (precinctref02_Put.f k 2 0 ⟨#[]⟩ [⟨0, a0, ⟨#[]⟩, []⟩, ⟨0, a1, ⟨#[]⟩, []⟩, ⟨0, a2, ⟨#[]⟩, []⟩, ⟨0, a3, ⟨#[]⟩, []⟩]).bind fun t => some t.1
set_option maxHeartbeats 8000000 in
set_option maxRecDepth 100000 in
theorem bytes9_calls (k : Nat) (a0 a1 a2 a3 : Int) (r : ByteArray) (w : World) (h : bytes9 k a0 a1 a2 a3 = some r) :
    Calls Tryd.prog 27 #[.agg #[.int .i64 a0, .int .i64 a1, .int .i64 a2, .int .i64 a3]] w fun e w' => e = .returned (.string r) ∧ Below w.heap.size w w' := by
  obtain ⟨⟨t1, t2⟩, h1, h2⟩ := Option.bind_eq_some_iff.mp h
  obtain rfl : t1 = r := by simpa using h2
  have HF := Aside0.mk h1
  clear h h1 h2
  have hu := Tryd.underlying58
  have hu2 := Tryd.underlying27
  go_enter Tryd.func27, Tryd.ntmps27
  go_upto_region 1 with fail
  have hb := below_alloc (Below.refl w.heap.size w) (.cells #[.int .i64 a0, .int .i64 a1, .int .i64 a2, .int .i64 a3] 27)
  have hq := blk_new w (.cells #[.int .i64 a0, .int .i64 a1, .int .i64 a2, .int .i64 a3] 27)
  generalize w.alloc (.cells #[.int .i64 a0, .int .i64 a1, .int .i64 a2, .int .i64 a3] 27) = w0 at hb hq ⊢
  have HB := Aside0.mk hb
  have HQ := Aside0.mk hq
  clear hb hq
  have c0 : w0.cell? ⟨w.heap.size, 0, none⟩ = some (.int .i64 a0) := (blk_cell HQ.out 0).trans rfl
  go_upto_region 2 with (go_at_call 43; go_loud ((with_reducible refine (precinctref02_Num.calls a0 0 a0 ⟨#[]⟩ [] _ rfl).mono ?_); rintro e u0 ⟨v_, rfl, hr, hb⟩; obtain ⟨A0, d0, e_⟩ := Kd.R_slice hr; subst e_; have hR := Aside0.mk (Kd.R_reads' hr); have hB := Aside0.mk hb; clear hb hr c0))
  have hq := blk_alloc (blk_below HQ.out hB.out) (.cells #[.int .i64 0, .int .i64 a0, .string ⟨#[]⟩, .slice A0 0 d0] 58)
  have hx0 := blk_new u0 (.cells #[.int .i64 0, .int .i64 a0, .string ⟨#[]⟩, .slice A0 0 d0] 58)
  have hc0 := Kd.C_alloc hR.out.2.2 (.cells #[.int .i64 0, .int .i64 a0, .string ⟨#[]⟩, .slice A0 0 d0] 58)
  have hb := below_alloc (below_then HB.out (below_size HB.out) hB.out) (.cells #[.int .i64 0, .int .i64 a0, .string ⟨#[]⟩, .slice A0 0 d0] 58)
  clear HQ HB hB hR
  generalize u0.alloc (.cells #[.int .i64 0, .int .i64 a0, .string ⟨#[]⟩, .slice A0 0 d0] 58) = w1 at hq hx0 hc0 hb ⊢
  generalize u0.heap.size = g0 at hx0 ⊢
  have HB := Aside0.mk hb
  have HQ := Aside0.mk hq
  have HX0 := Aside0.mk hx0
  have HC0 := Aside0.mk hc0
  clear hb hq hx0 hc0
  have c1 : w1.cell? ⟨w.heap.size, 1, none⟩ = some (.int .i64 a1) := (blk_cell HQ.out 1).trans rfl
  go_upto_region 3 with (go_at_call 43; go_loud ((with_reducible refine (precinctref02_Num.calls a1 0 a1 ⟨#[]⟩ [] _ rfl).mono ?_); rintro e u1 ⟨v_, rfl, hr, hb⟩; obtain ⟨A1, d1, e_⟩ := Kd.R_slice hr; subst e_; have hR := Aside0.mk (Kd.R_reads' hr); have hB := Aside0.mk hb; clear hb hr c1))
  have hq := blk_alloc (blk_below HQ.out hB.out) (.cells #[.int .i64 0, .int .i64 a1, .string ⟨#[]⟩, .slice A1 0 d1] 58)
  have hx0 := blk_alloc (blk_below HX0.out hB.out) (.cells #[.int .i64 0, .int .i64 a1, .string ⟨#[]⟩, .slice A1 0 d1] 58)
  have hc0 := Kd.C_alloc (Kd.C_below HC0.out hB.out) (.cells #[.int .i64 0, .int .i64 a1, .string ⟨#[]⟩, .slice A1 0 d1] 58)
  have hx1 := blk_new u1 (.cells #[.int .i64 0, .int .i64 a1, .string ⟨#[]⟩, .slice A1 0 d1] 58)
  have hc1 := Kd.C_alloc hR.out.2.2 (.cells #[.int .i64 0, .int .i64 a1, .string ⟨#[]⟩, .slice A1 0 d1] 58)
  have hb := below_alloc (below_then HB.out (below_size HB.out) hB.out) (.cells #[.int .i64 0, .int .i64 a1, .string ⟨#[]⟩, .slice A1 0 d1] 58)
  clear HQ HB hB hR HX0 HC0
  generalize u1.alloc (.cells #[.int .i64 0, .int .i64 a1, .string ⟨#[]⟩, .slice A1 0 d1] 58) = w2 at hq hx0 hc0 hx1 hc1 hb ⊢
  generalize u1.heap.size = g1 at hx1 ⊢
  have HB := Aside0.mk hb
  have HQ := Aside0.mk hq
  have HX0 := Aside0.mk hx0
  have HC0 := Aside0.mk hc0
  have HX1 := Aside0.mk hx1
  have HC1 := Aside0.mk hc1
  clear hb hq hx0 hc0 hx1 hc1
  have c2 : w2.cell? ⟨w.heap.size, 2, none⟩ = some (.int .i64 a2) := (blk_cell HQ.out 2).trans rfl
  go_upto_region 4 with (go_at_call 43; go_loud ((with_reducible refine (precinctref02_Num.calls a2 0 a2 ⟨#[]⟩ [] _ rfl).mono ?_); rintro e u2 ⟨v_, rfl, hr, hb⟩; obtain ⟨A2, d2, e_⟩ := Kd.R_slice hr; subst e_; have hR := Aside0.mk (Kd.R_reads' hr); have hB := Aside0.mk hb; clear hb hr c2))
  have hq := blk_alloc (blk_below HQ.out hB.out) (.cells #[.int .i64 0, .int .i64 a2, .string ⟨#[]⟩, .slice A2 0 d2] 58)
  have hx0 := blk_alloc (blk_below HX0.out hB.out) (.cells #[.int .i64 0, .int .i64 a2, .string ⟨#[]⟩, .slice A2 0 d2] 58)
  have hc0 := Kd.C_alloc (Kd.C_below HC0.out hB.out) (.cells #[.int .i64 0, .int .i64 a2, .string ⟨#[]⟩, .slice A2 0 d2] 58)
  have hx1 := blk_alloc (blk_below HX1.out hB.out) (.cells #[.int .i64 0, .int .i64 a2, .string ⟨#[]⟩, .slice A2 0 d2] 58)
  have hc1 := Kd.C_alloc (Kd.C_below HC1.out hB.out) (.cells #[.int .i64 0, .int .i64 a2, .string ⟨#[]⟩, .slice A2 0 d2] 58)
  have hx2 := blk_new u2 (.cells #[.int .i64 0, .int .i64 a2, .string ⟨#[]⟩, .slice A2 0 d2] 58)
  have hc2 := Kd.C_alloc hR.out.2.2 (.cells #[.int .i64 0, .int .i64 a2, .string ⟨#[]⟩, .slice A2 0 d2] 58)
  have hb := below_alloc (below_then HB.out (below_size HB.out) hB.out) (.cells #[.int .i64 0, .int .i64 a2, .string ⟨#[]⟩, .slice A2 0 d2] 58)
  clear HQ HB hB hR HX0 HC0 HX1 HC1
  generalize u2.alloc (.cells #[.int .i64 0, .int .i64 a2, .string ⟨#[]⟩, .slice A2 0 d2] 58) = w3 at hq hx0 hc0 hx1 hc1 hx2 hc2 hb ⊢
  generalize u2.heap.size = g2 at hx2 ⊢
  have HB := Aside0.mk hb
  have HQ := Aside0.mk hq
  have HX0 := Aside0.mk hx0
  have HC0 := Aside0.mk hc0
  have HX1 := Aside0.mk hx1
  have HC1 := Aside0.mk hc1
  have HX2 := Aside0.mk hx2
  have HC2 := Aside0.mk hc2
  clear hb hq hx0 hc0 hx1 hc1 hx2 hc2
  have c3 : w3.cell? ⟨w.heap.size, 3, none⟩ = some (.int .i64 a3) := (blk_cell HQ.out 3).trans rfl
  go_upto_region 5 with (go_at_call 43; go_loud ((with_reducible refine (precinctref02_Num.calls a3 0 a3 ⟨#[]⟩ [] _ rfl).mono ?_); rintro e u3 ⟨v_, rfl, hr, hb⟩; obtain ⟨A3, d3, e_⟩ := Kd.R_slice hr; subst e_; have hR := Aside0.mk (Kd.R_reads' hr); have hB := Aside0.mk hb; clear hb hr c3))
  have hq := blk_alloc (blk_below HQ.out hB.out) (.cells #[.int .i64 0, .int .i64 a3, .string ⟨#[]⟩, .slice A3 0 d3] 58)
  have hx0 := blk_alloc (blk_below HX0.out hB.out) (.cells #[.int .i64 0, .int .i64 a3, .string ⟨#[]⟩, .slice A3 0 d3] 58)
  have hc0 := Kd.C_alloc (Kd.C_below HC0.out hB.out) (.cells #[.int .i64 0, .int .i64 a3, .string ⟨#[]⟩, .slice A3 0 d3] 58)
  have hx1 := blk_alloc (blk_below HX1.out hB.out) (.cells #[.int .i64 0, .int .i64 a3, .string ⟨#[]⟩, .slice A3 0 d3] 58)
  have hc1 := Kd.C_alloc (Kd.C_below HC1.out hB.out) (.cells #[.int .i64 0, .int .i64 a3, .string ⟨#[]⟩, .slice A3 0 d3] 58)
  have hx2 := blk_alloc (blk_below HX2.out hB.out) (.cells #[.int .i64 0, .int .i64 a3, .string ⟨#[]⟩, .slice A3 0 d3] 58)
  have hc2 := Kd.C_alloc (Kd.C_below HC2.out hB.out) (.cells #[.int .i64 0, .int .i64 a3, .string ⟨#[]⟩, .slice A3 0 d3] 58)
  have hx3 := blk_new u3 (.cells #[.int .i64 0, .int .i64 a3, .string ⟨#[]⟩, .slice A3 0 d3] 58)
  have hc3 := Kd.C_alloc hR.out.2.2 (.cells #[.int .i64 0, .int .i64 a3, .string ⟨#[]⟩, .slice A3 0 d3] 58)
  have hb := below_alloc (below_then HB.out (below_size HB.out) hB.out) (.cells #[.int .i64 0, .int .i64 a3, .string ⟨#[]⟩, .slice A3 0 d3] 58)
  clear HQ HB hB hR HX0 HC0 HX1 HC1 HX2 HC2
  generalize u3.alloc (.cells #[.int .i64 0, .int .i64 a3, .string ⟨#[]⟩, .slice A3 0 d3] 58) = w4 at hq hx0 hc0 hx1 hc1 hx2 hc2 hx3 hc3 hb ⊢
  generalize u3.heap.size = g3 at hx3 ⊢
  have HB := Aside0.mk hb
  have HQ := Aside0.mk hq
  have HX0 := Aside0.mk hx0
  have HC0 := Aside0.mk hc0
  have HX1 := Aside0.mk hx1
  have HC1 := Aside0.mk hc1
  have HX2 := Aside0.mk hx2
  have HC2 := Aside0.mk hc2
  have HX3 := Aside0.mk hx3
  have HC3 := Aside0.mk hc3
  clear hb hq hx0 hc0 hx1 hc1 hx2 hc2 hx3 hc3
  have x0_0 : w4.cell? ⟨g0, 0, none⟩ = some (.int .i64 0) := (blk_cell HX0.out 0).trans rfl
  have x0_1 : w4.cell? ⟨g0, 1, none⟩ = some (.int .i64 a0) := (blk_cell HX0.out 1).trans rfl
  have x0_2 : w4.cell? ⟨g0, 2, none⟩ = some (.string ⟨#[]⟩) := (blk_cell HX0.out 2).trans rfl
  have x0_3 : w4.cell? ⟨g0, 3, none⟩ = some (.slice A0 0 d0) := (blk_cell HX0.out 3).trans rfl
  have x1_0 : w4.cell? ⟨g1, 0, none⟩ = some (.int .i64 0) := (blk_cell HX1.out 0).trans rfl
  have x1_1 : w4.cell? ⟨g1, 1, none⟩ = some (.int .i64 a1) := (blk_cell HX1.out 1).trans rfl
  have x1_2 : w4.cell? ⟨g1, 2, none⟩ = some (.string ⟨#[]⟩) := (blk_cell HX1.out 2).trans rfl
  have x1_3 : w4.cell? ⟨g1, 3, none⟩ = some (.slice A1 0 d1) := (blk_cell HX1.out 3).trans rfl
  have x2_0 : w4.cell? ⟨g2, 0, none⟩ = some (.int .i64 0) := (blk_cell HX2.out 0).trans rfl
  have x2_1 : w4.cell? ⟨g2, 1, none⟩ = some (.int .i64 a2) := (blk_cell HX2.out 1).trans rfl
  have x2_2 : w4.cell? ⟨g2, 2, none⟩ = some (.string ⟨#[]⟩) := (blk_cell HX2.out 2).trans rfl
  have x2_3 : w4.cell? ⟨g2, 3, none⟩ = some (.slice A2 0 d2) := (blk_cell HX2.out 3).trans rfl
  have x3_0 : w4.cell? ⟨g3, 0, none⟩ = some (.int .i64 0) := (blk_cell HX3.out 0).trans rfl
  have x3_1 : w4.cell? ⟨g3, 1, none⟩ = some (.int .i64 a3) := (blk_cell HX3.out 1).trans rfl
  have x3_2 : w4.cell? ⟨g3, 2, none⟩ = some (.string ⟨#[]⟩) := (blk_cell HX3.out 2).trans rfl
  have x3_3 : w4.cell? ⟨g3, 3, none⟩ = some (.slice A3 0 d3) := (blk_cell HX3.out 3).trans rfl
  have hbR := below_alloc (Below.refl w4.heap.size w4) (.cells #[.int .i64 0, .int .i64 a0, .string ⟨#[]⟩, .slice A0 0 d0, .int .i64 0, .int .i64 a1, .string ⟨#[]⟩, .slice A1 0 d1, .int .i64 0, .int .i64 a2, .string ⟨#[]⟩, .slice A2 0 d2, .int .i64 0, .int .i64 a3, .string ⟨#[]⟩, .slice A3 0 d3] 58)
  have hrow := blk_new w4 (.cells #[.int .i64 0, .int .i64 a0, .string ⟨#[]⟩, .slice A0 0 d0, .int .i64 0, .int .i64 a1, .string ⟨#[]⟩, .slice A1 0 d1, .int .i64 0, .int .i64 a2, .string ⟨#[]⟩, .slice A2 0 d2, .int .i64 0, .int .i64 a3, .string ⟨#[]⟩, .slice A3 0 d3] 58)
  have hC4 := row4 (⟨0, a0, ⟨#[]⟩, []⟩ : W) (⟨0, a1, ⟨#[]⟩, []⟩ : W) (⟨0, a2, ⟨#[]⟩, []⟩ : W) (⟨0, a3, ⟨#[]⟩, []⟩ : W) hrow (Kd.C_below HC0.out hbR) (Nat.zero_le _) (Kd.C_below HC1.out hbR) (Nat.zero_le _) (Kd.C_below HC2.out hbR) (Nat.zero_le _) (Kd.C_below HC3.out hbR) (Nat.zero_le _)
  have HB9 := Aside0.mk (below_then HB.out (below_size HB.out) hbR)
  have HP := Aside0.mk (show Calls Tryd.prog 44 #[.agg #[.int .i64 2, .int .i64 0, .string ⟨#[]⟩, .slice (some ⟨w4.heap.size, 0, none⟩) 4 4]] (w4.alloc (.cells #[.int .i64 0, .int .i64 a0, .string ⟨#[]⟩, .slice A0 0 d0, .int .i64 0, .int .i64 a1, .string ⟨#[]⟩, .slice A1 0 d1, .int .i64 0, .int .i64 a2, .string ⟨#[]⟩, .slice A2 0 d2, .int .i64 0, .int .i64 a3, .string ⟨#[]⟩, .slice A3 0 d3] 58)) fun e w' => e = .returned (.tuple #[.string t1, .int .i64 t2]) ∧ Below (w4.alloc (.cells #[.int .i64 0, .int .i64 a0, .string ⟨#[]⟩, .slice A0 0 d0, .int .i64 0, .int .i64 a1, .string ⟨#[]⟩, .slice A1 0 d1, .int .i64 0, .int .i64 a2, .string ⟨#[]⟩, .slice A2 0 d2, .int .i64 0, .int .i64 a3, .string ⟨#[]⟩, .slice A3 0 d3] 58)).heap.size (w4.alloc (.cells #[.int .i64 0, .int .i64 a0, .string ⟨#[]⟩, .slice A0 0 d0, .int .i64 0, .int .i64 a1, .string ⟨#[]⟩, .slice A1 0 d1, .int .i64 0, .int .i64 a2, .string ⟨#[]⟩, .slice A2 0 d2, .int .i64 0, .int .i64 a3, .string ⟨#[]⟩, .slice A3 0 d3] 58)) w' from precinctref02_Put.calls k 2 0 ⟨#[]⟩ (some ⟨w4.heap.size, 0, none⟩) 4 [⟨0, a0, ⟨#[]⟩, []⟩, ⟨0, a1, ⟨#[]⟩, []⟩, ⟨0, a2, ⟨#[]⟩, []⟩, ⟨0, a3, ⟨#[]⟩, []⟩] t1 t2 _ hC4 (Nat.le_refl _) HF.out)
  clear hbR hrow hC4 HB HQ HX0 HC0 HX1 HC1 HX2 HC2 HX3 HC3
  go_wp2_with (go_at_call 44; go_loud ((with_reducible refine HP.out.mono ?_); rintro e w10 ⟨rfl, hb⟩; have HB10 := Aside0.mk (below_then HB9.out (below_size HB9.out) hb); clear hb))
  go_ret
  exact ⟨rfl, HB10.out⟩
end Go.Proofs.YtpbnfnaebdmagaaDoor.Rb9
-- printed by a program of this session out of the translation; see NOTES.md
namespace Go.Proofs.YtpbnfnaebdmagaaDoor.PT
open Go.RowKit Go.Proofs.YtpbnfnaebdmagaaDoorW.PrintWords Go.Proofs.YtpbnfnaebdmagaaDoorW.PrintLast Go.Proofs.YtpbnfnaebdmagaaDoorW.PrintMore
attribute [local go_sem] max2_int min2_int max_two min_two max_three min_three max_four min_four   -- for this text's walks alone
set_option linter.unusedVariables false
set_option linter.unusedSimpArgs false

/-! ### precinctref09_Bytes: function 27 -/
def precinctref09_Bytes.f (k : Nat) (a0_0 : Int) (a0_1 : Int) (a0_2 : Int) (a0_3 : Int) : Option (ByteArray) := Rb9.bytes9 k a0_0 a0_1 a0_2 a0_3
theorem precinctref09_Bytes.mono : ∀ a0 a1 a2 a3 k, LeO (precinctref09_Bytes.f k a0 a1 a2 a3) (precinctref09_Bytes.f (k + 1) a0 a1 a2 a3) := fun a0 a1 a2 a3 k => LeO.bind (precinctref02_Put.mono _ _ _ _ k) (fun _ => LeO.refl _)
theorem precinctref09_Bytes.calls (k : Nat) (a0_0 : Int) (a0_1 : Int) (a0_2 : Int) (a0_3 : Int) (r : ByteArray) (w : World) (h : precinctref09_Bytes.f k a0_0 a0_1 a0_2 a0_3 = some r) :
  Calls Tryd.prog 27 #[.agg #[.int .i64 a0_0, .int .i64 a0_1, .int .i64 a0_2, .int .i64 a0_3]] w fun e w' => e = .returned (.string r) ∧ Below w.heap.size w w' := Rb9.bytes9_calls k a0_0 a0_1 a0_2 a0_3 r w h

end Go.Proofs.YtpbnfnaebdmagaaDoor.PT
-- printed by a program of this session out of the translation; see NOTES.md
namespace Go.Proofs.YtpbnfnaebdmagaaDoor.PT
open Go.RowKit Go.Proofs.YtpbnfnaebdmagaaDoorW.PrintWords Go.Proofs.YtpbnfnaebdmagaaDoorW.PrintLast Go.Proofs.YtpbnfnaebdmagaaDoorW.PrintMore Go.Proofs.YtpbnfnaebdmagaaDoorRb
attribute [local go_sem] max2_int min2_int max_two min_two max_three min_three max_four min_four   -- for this text's walks alone
set_option linter.unusedVariables false
set_option linter.unusedSimpArgs false

/-! ### precinctref09_Mint: function 13 -/
def precinctref09_Mint.f (k : Nat) (a0 : ByteArray) (a1_0 : Int) (a1_1 : Int) (a1_2 : Int) (a1_3 : Int) : Option (ByteArray) := (precinctref09_Bytes.f k a1_0 a1_1 a1_2 a1_3).bind fun t347 => ((precinctref05_Tag.f a0 t347).bind fun t348 => (if t347.size + t348.size ≤ 9223372036854775807 then (some (t347 ++ t348)) else (none)))
theorem precinctref09_Mint.mono : ∀ a0 a1 a2 a3 a4 k, LeO (precinctref09_Mint.f k a0 a1 a2 a3 a4) (precinctref09_Mint.f (k + 1) a0 a1 a2 a3 a4) := by
 intro a0 a1 a2 a3 a4 k
 unfold precinctref09_Mint.f
 repeat' first
   | (with_reducible exact precinctref09_Bytes.mono _ _ _ _ _)
   | (with_reducible exact LeO.refl _)
   | (with_reducible exact LeO.none _)
   | (with_reducible refine LeO.ite ?_ ?_)
   | (with_reducible refine LeO.bind ?_ (fun _ => ?_))
   | exact precinctref09_Bytes.mono _ _ _ _ _
   | exact LeO.none _
   | refine LeO.ite ?_ ?_
   | refine LeO.bind ?_ (fun _ => ?_)
set_option maxHeartbeats 8000000 in
set_option maxRecDepth 100000 in
theorem precinctref09_Mint.calls (k : Nat) (a0 : ByteArray) (a1_0 : Int) (a1_1 : Int) (a1_2 : Int) (a1_3 : Int) (r : ByteArray) (w : World) (h : precinctref09_Mint.f k a0 a1_0 a1_1 a1_2 a1_3 = some r) :
  Calls Tryd.prog 13 #[.string a0, .agg #[.int .i64 a1_0, .int .i64 a1_1, .int .i64 a1_2, .int .i64 a1_3]] w fun e w' => e = .returned (.string r) ∧ Below w.heap.size w w' := by
 have hu27 := Tryd.underlying27
 have HB := Aside0.mk (Below.refl w.heap.size w)
 have H : ((precinctref09_Bytes.f k a1_0 a1_1 a1_2 a1_3).bind fun t347 => ((precinctref05_Tag.f a0 t347).bind fun t348 => (if t347.size + t348.size ≤ 9223372036854775807 then (some (t347 ++ t348)) else (none)))) = some r := h
 clear h
 replace H := Option.bind_eq_some_iff.mp H
 obtain ⟨t347, A30, H⟩ := H
 replace H : ((precinctref05_Tag.f a0 t347).bind fun t348 => (if t347.size + t348.size ≤ 9223372036854775807 then (some (t347 ++ t348)) else (none))) = some r := H
 have A3 := Aside0.mk A30
 clear A30
 replace H := Option.bind_eq_some_iff.mp H
 obtain ⟨t348, A40, H⟩ := H
 replace H : (if t347.size + t348.size ≤ 9223372036854775807 then (some (t347 ++ t348)) else (none)) = some r := H
 have A4 := Aside0.mk A40
 clear A40
 by_cases c5 : t347.size + t348.size ≤ 9223372036854775807
 ·rw [if_pos c5] at H
  have c5b0 := eq_true c5
  have c5b1 : decide (t347.size + t348.size ≤ 9223372036854775807) = true := decide_eq_true c5
  try have c5b2 : (9223372036854775807 < t347.size + t348.size) = False := eq_false (Nat.not_lt.2 c5)
  obtain rfl := Option.some.inj H
  go_enter Tryd.func13, Tryd.ntmps13
  go_wp2_with (first | ((with_reducible refine gate_dst (N := 3) rfl ?_); refine box_event ?hg (N := 3) ?hd (cs := #[.int .i64 a1_0, .int .i64 a1_1, .int .i64 a1_2, .int .i64 a1_3]) (t := 27) ?hr ?_; (case hd => rfl); (case hg => rfl); (case hr => first | (go_simp; done) | (go_simp; rfl)); intro gb346 hg w6 hbox hb; have n0_ := Aside0.mk (below_step bb hb); have n1_ := Aside0.mk (hbox); have n2_ := Aside0.mk ((by rw [hg]; exact (below_size bb) : w.heap.size ≤ gb346)); have n3_ := Aside0.mk ((by rw [hg]; exact (below_size bb) : w.heap.size ≤ gb346)); clear HB; have HB := n0_; have BK346 := n1_; have GW346 := n2_; have GE346 := n3_; clear n0_ n1_ n2_ n3_; clear hb hbox hg; have hcz7_0 : w6.cell? ⟨gb346, 0, none⟩ = some (.int .i64 a1_0) := (blk_cell BK346.out 0).trans rfl; have hcz7_1 : w6.cell? ⟨gb346, 1, none⟩ = some (.int .i64 a1_1) := (blk_cell BK346.out 1).trans rfl; have hcz7_2 : w6.cell? ⟨gb346, 2, none⟩ = some (.int .i64 a1_2) := (blk_cell BK346.out 2).trans rfl; have hcz7_3 : w6.cell? ⟨gb346, 3, none⟩ = some (.int .i64 a1_3) := (blk_cell BK346.out 3).trans rfl; have hfz7_0 := blk_frozen BK346.out 0; have hfz7_1 := blk_frozen BK346.out 1; have hfz7_2 := blk_frozen BK346.out 2; have hfz7_3 := blk_frozen BK346.out 3) | ((with_reducible refine gate_callee (f := 27) rfl ?_); refine goesL_ (some 8) rfl rfl Tryd.func27 (by kernel_rfl) rfl #[.agg #[.int .i64 a1_0, .int .i64 a1_1, .int .i64 a1_2, .int .i64 a1_3]] rfl ag ?_; (with_reducible refine (precinctref09_Bytes.calls k a1_0 a1_1 a1_2 a1_3 t347 _ A3.out).mono ?_); rintro e w8 ⟨rfl, hb⟩; refine ⟨_, rfl, ?_⟩; have n0_ := Aside0.mk (blk_below (rb BK346.out) hb); have n1_ := Aside0.mk (below_step bb hb); clear BK346; clear HB; have BK346 := n0_; have HB := n1_; clear n0_ n1_; (try clear hb); (try clear hb2); (try clear hk); (try clear hi)) | ((with_reducible refine gate_callee (f := 28) rfl ?_); refine goesL_ (some 11) rfl rfl Tryd.func28 (by kernel_rfl) rfl #[.string a0, .string t347] rfl ag ?_; (with_reducible refine (precinctref05_Tag.calls a0 t347 t348 _ A4.out).mono ?_); rintro e w9 ⟨rfl, hb⟩; refine ⟨_, rfl, ?_⟩; have n0_ := Aside0.mk (blk_below (rb BK346.out) hb); have n1_ := Aside0.mk (below_step bb hb); clear BK346; clear HB; have BK346 := n0_; have HB := n1_; clear n0_ n1_; (try clear hb); (try clear hb2); (try clear hk); (try clear hi)))
  go_ret
  exact ⟨by first | rfl | (simp [errW_none, errW_some] <;> rfl) | (simp [*, errW_none, errW_some] <;> rfl), bb⟩
 ·rw [if_neg c5] at H
  exact absurd H (by simp)

end Go.Proofs.YtpbnfnaebdmagaaDoor.PT
-- printed by a program of this session out of the translation; see NOTES.md
namespace Go.Proofs.YtpbnfnaebdmagaaDoor.PT
open Go.RowKit Go.Proofs.YtpbnfnaebdmagaaDoorW.PrintWords Go.Proofs.YtpbnfnaebdmagaaDoorW.PrintLast Go.Proofs.YtpbnfnaebdmagaaDoorW.PrintMore Go.Proofs.YtpbnfnaebdmagaaDoorRb
attribute [local go_sem] max2_int min2_int max_two min_two max_three min_three max_four min_four   -- for this text's walks alone
set_option linter.unusedVariables false
set_option linter.unusedSimpArgs false

/-! ### mac_Derive: function 29 -/
def mac_Derive.f (k : Nat) (a0 : ByteArray) (a1 : ByteArray) (a2 : Int) : Option (ByteArray) := (pack_Str.f a1).bind fun bt349 => ((pack_Num.f a2).bind fun bt355 => ((pack_All.f (([(⟨bt349.1, bt349.2.1, bt349.2.2.1, bt349.2.2.2⟩ : S51), (⟨bt355.1, bt355.2.1, bt355.2.2.1, bt355.2.2.2⟩ : S51)] : List (S51)))).bind fun bt364 => ((pack_Put.f k bt364.1 bt364.2.1 bt364.2.2.1 bt364.2.2.2).bind fun bt370 => (if bt370.2 = 0 then ((mac_Tag.f a0 bt370.1).bind fun t372 => (some t372)) else (some (⟨#[]⟩ : ByteArray))))))
theorem mac_Derive.mono : ∀ a0 a1 a2 k, LeO (mac_Derive.f k a0 a1 a2) (mac_Derive.f (k + 1) a0 a1 a2) := by
 intro a0 a1 a2 k
 unfold mac_Derive.f
 repeat' first
   | (with_reducible exact pack_Put.mono _ _ _ _ _)
   | (with_reducible exact LeO.refl _)
   | (with_reducible exact LeO.none _)
   | (with_reducible refine LeO.ite ?_ ?_)
   | (with_reducible refine LeO.bind ?_ (fun _ => ?_))
   | exact pack_Put.mono _ _ _ _ _
   | exact LeO.none _
   | refine LeO.ite ?_ ?_
   | refine LeO.bind ?_ (fun _ => ?_)
set_option maxHeartbeats 8000000 in
set_option maxRecDepth 100000 in
theorem mac_Derive.calls (k : Nat) (a0 : ByteArray) (a1 : ByteArray) (a2 : Int) (r : ByteArray) (w : World) (h : mac_Derive.f k a0 a1 a2 = some r) (HTab : Aside0 (Sha.Tab w) := by first | exact HTab | exact Aside0.mk (HTab.out.step (by repeat (first | (with_reducible first | exact HB.out | apply below_alloc | apply pw_below_drewN | apply below_drew1 | refine below_set ?_ (Aside0.out (by assumption))) | exact HB.out)))) :
  Calls Tryd.prog 29 #[.string a0, .string a1, .int .i64 a2] w fun e w' => e = .returned (.string r) ∧ Below w.heap.size w w' := by
 have HB := Aside0.mk (Below.refl w.heap.size w)
 have H : ((pack_Str.f a1).bind fun bt349 => ((pack_Num.f a2).bind fun bt355 => ((pack_All.f (([(⟨bt349.1, bt349.2.1, bt349.2.2.1, bt349.2.2.2⟩ : S51), (⟨bt355.1, bt355.2.1, bt355.2.2.1, bt355.2.2.2⟩ : S51)] : List (S51)))).bind fun bt364 => ((pack_Put.f k bt364.1 bt364.2.1 bt364.2.2.1 bt364.2.2.2).bind fun bt370 => (if bt370.2 = 0 then ((mac_Tag.f a0 bt370.1).bind fun t372 => (some t372)) else (some (⟨#[]⟩ : ByteArray))))))) = some r := h
 clear h
 replace H := Option.bind_eq_some_iff.mp H
 obtain ⟨⟨t349, t350, t351, t352⟩, A40, H⟩ := H
 replace H : ((pack_Num.f a2).bind fun bt355 => ((pack_All.f (([(⟨t349, t350, t351, t352⟩ : S51), (⟨bt355.1, bt355.2.1, bt355.2.2.1, bt355.2.2.2⟩ : S51)] : List (S51)))).bind fun bt364 => ((pack_Put.f k bt364.1 bt364.2.1 bt364.2.2.1 bt364.2.2.2).bind fun bt370 => (if bt370.2 = 0 then ((mac_Tag.f a0 bt370.1).bind fun t372 => (some t372)) else (some (⟨#[]⟩ : ByteArray)))))) = some r := H
 have A4 := Aside0.mk A40
 clear A40
 replace H := Option.bind_eq_some_iff.mp H
 obtain ⟨⟨t355, t356, t357, t358⟩, A50, H⟩ := H
 replace H : ((pack_All.f (([(⟨t349, t350, t351, t352⟩ : S51), (⟨t355, t356, t357, t358⟩ : S51)] : List (S51)))).bind fun bt364 => ((pack_Put.f k bt364.1 bt364.2.1 bt364.2.2.1 bt364.2.2.2).bind fun bt370 => (if bt370.2 = 0 then ((mac_Tag.f a0 bt370.1).bind fun t372 => (some t372)) else (some (⟨#[]⟩ : ByteArray))))) = some r := H
 have A5 := Aside0.mk A50
 clear A50
 obtain ⟨y361, hy361⟩ : ∃ y_ : List (S51), y_ = (([(⟨t349, t350, t351, t352⟩ : S51), (⟨t355, t356, t357, t358⟩ : S51)] : List (S51))) := ⟨_, rfl⟩
 replace H : ((pack_All.f y361).bind fun bt364 => ((pack_Put.f k bt364.1 bt364.2.1 bt364.2.2.1 bt364.2.2.2).bind fun bt370 => (if bt370.2 = 0 then ((mac_Tag.f a0 bt370.1).bind fun t372 => (some t372)) else (some (⟨#[]⟩ : ByteArray))))) = some r := by first | (rw [hy361]; with_reducible exact H) | (have H2_ := (Option.bind_some _ _).symm.trans H; rw [hy361]; with_reducible exact H2_) | (have H2_ := (Option.bind_some _ _).symm.trans H; with_reducible exact H2_) | with_reducible exact H | (rw [hy361]; exact H) | exact H
 have Ny361 := Aside0.mk hy361
 clear hy361
 replace H := Option.bind_eq_some_iff.mp H
 obtain ⟨⟨t364, t365, t366, t367⟩, A60, H⟩ := H
 replace H : ((pack_Put.f k t364 t365 t366 t367).bind fun bt370 => (if bt370.2 = 0 then ((mac_Tag.f a0 bt370.1).bind fun t372 => (some t372)) else (some (⟨#[]⟩ : ByteArray)))) = some r := H
 have A6 := Aside0.mk A60
 clear A60
 replace H := Option.bind_eq_some_iff.mp H
 obtain ⟨⟨t370, t371⟩, A70, H⟩ := H
 replace H : (if t371 = 0 then ((mac_Tag.f a0 t370).bind fun t372 => (some t372)) else (some (⟨#[]⟩ : ByteArray))) = some r := H
 have A7 := Aside0.mk A70
 clear A70
 by_cases c8 : t371 = 0
 ·rw [if_pos c8] at H
  have c8b0 : (t371 == 0) = true := beq_iff_eq.mpr c8
  have c8b1 : (t371 != 0) = false := bne_eq_false_iff_eq.mpr c8
  clear c8
  replace H := Option.bind_eq_some_iff.mp H
  obtain ⟨t372, A90, H⟩ := H
  replace H : (some t372) = some r := H
  have A9 := Aside0.mk A90
  clear A90
  obtain rfl := Option.some.inj H
  go_enter Tryd.func29, Tryd.ntmps29
  go_wp2_with (first | ((with_reducible refine gate_callee (f := 47) rfl ?_); refine goesL_ (some 11) rfl rfl Tryd.func47 (by kernel_rfl) rfl #[.string a1] rfl ag ?_; (with_reducible refine (pack_Str.calls a1 t349 t350 t351 t352 _ A4.out).mono ?_); rintro e w10 ⟨v353, rfl, ho0, hb⟩; refine ⟨_, rfl, ?_⟩; have n0_ := Aside0.mk (Kd.N_lower (Kd.N_mono (ok' := fun k_ => True) (Kd.R_N (Kd.R_bound ho0)) (fun k_ hk_ => trivial)) (below_size bb)); have n1_ := Aside0.mk (below_step bb hb); clear HB; have HO354 := n0_; have HB := n1_; clear n0_ n1_; (try clear hb); (try clear hb2); (try clear hk); (try clear hi); (try clear ho0)) | ((with_reducible refine gate_callee (f := 25) rfl ?_); refine goesL_ (some 13) rfl rfl Tryd.func25 (by kernel_rfl) rfl #[.int .i64 a2] rfl ag ?_; (with_reducible refine (pack_Num.calls a2 t355 t356 t357 t358 _ A5.out).mono ?_); rintro e w11 ⟨v359, rfl, ho0, hb⟩; refine ⟨_, rfl, ?_⟩; have n0_ := Aside0.mk (Kd.N_elder' (kN HO354.out) (by first | exact Kd.N_base ho0 | exact Kd.N_base (Kd.R_N ho0)) hb); have n1_ := Aside0.mk (Kd.N_lower (Kd.N_mono (ok' := fun k_ => some k_ ≠ (v353 : Value).ownBlock) (Kd.R_N (Kd.R_bound ho0)) (fun k_ hk_ => (Kd.fresh' (Kd.N_lt (kN HO354.out)) k_ hk_.2.1))) (below_size bb)); have n2_ := Aside0.mk (below_step bb hb); clear HO354; clear HB; have HO354 := n0_; have HO360 := n1_; have HB := n2_; clear n0_ n1_ n2_; (try clear hb); (try clear hb2); (try clear hk); (try clear hi); (try clear ho0); obtain ⟨Ao12, co12, eo12⟩ := Kd.N_slice HO354.out; subst eo12; obtain ⟨Ao13, co13, eo13⟩ := Kd.N_slice HO360.out; subst eo13) | ((with_reducible refine gate_dst (N := 14) rfl ?_); refine Kd.N_lit k51 _ 51 ?hg (N' := 14) ?hd (xs := ([(⟨t349, t350, t351, t352⟩ : S51), (⟨t355, t356, t357, t358⟩ : S51)] : List (S51))) (inner := [.int .i64 t349, .int .i64 t350, .string t351, .slice Ao12 t352.length co12, .int .i64 t355, .int .i64 t356, .string t357, .slice Ao13 t358.length co13]) (ok := (fun _ => True)) (okp := (fun _ => True)) ?hr ?hp (fun _ hk => hk) ((show ∀ k_, w11.heap.size ≤ k_ → (fun _ => True) k_ from fun k_ hk => trivial) _ (Nat.le_refl _)) (Below.refl _ _) (Nat.le_refl _) (by simp) ?_; (case hd => rfl); (case hg => rfl); (case hr => first | (go_simp; done) | (go_simp; rfl)); (case hp => exact (Reps.c4 (show Kd.FK k51 _ _ (⟨t349, t350, t351, t352⟩ : S51) [.int .i64 t349, .int .i64 t350, .string t351, .slice Ao12 t352.length co12] from (k51_mkF _ _ (⟨t349, t350, t351, t352⟩ : S51) (Kd.N_reads' (Kd.N_mono (ok' := (fun _ => True)) (HO354.out) (fun k_ hk => trivial))).2.1 (Kd.N_F (Kd.N_mono (ok' := (fun _ => True)) (HO354.out) (fun k_ hk => trivial))))) (Reps.c4 (show Kd.FK k51 _ _ (⟨t355, t356, t357, t358⟩ : S51) [.int .i64 t355, .int .i64 t356, .string t357, .slice Ao13 t358.length co13] from (k51_mkF _ _ (⟨t355, t356, t357, t358⟩ : S51) (Kd.N_reads' (Kd.N_mono (ok' := (fun _ => True)) (HO360.out) (fun k_ hk => trivial))).2.1 (Kd.N_F (Kd.N_mono (ok' := (fun _ => True)) (HO360.out) (fun k_ hk => trivial))))) (Reps.none _ _)))); intro v362 w14 ho15 hb hg_ hnew_; clear hg_ hnew_; (first | rw [← Ny361.out] at ho15 | (simp only [Int.reduceToNat] at ho15; rw [← Ny361.out] at ho15)); have n0_ := Aside0.mk (Kd.N_lower ho15 (below_size bb)); have n1_ := Aside0.mk (below_step bb hb); clear HB; clear HO354; clear HO360; have HO363 := n0_; have HB := n1_; clear n0_ n1_; clear hb ho15; obtain ⟨Ao16, co16, eo16⟩ := Kd.N_slice HO363.out; subst eo16) | ((with_reducible refine gate_callee (f := 24) rfl ?_); refine goesL_ (some 15) rfl rfl Tryd.func24 (by kernel_rfl) rfl #[.slice Ao16 y361.length co16] rfl ag ?_; (with_reducible refine (pack_All.calls (fun k_ => True) _ _ y361 t364 t365 t366 t367 _ ?side1 A6.out).mono ?_); (case side1 => exact Kd.N_V (HO363.out)); rintro e w17 ⟨v368, rfl, ho0, hb⟩; refine ⟨_, rfl, ?_⟩; have n0_ := Aside0.mk (Kd.N_elder' (kN HO363.out) (by first | exact Kd.N_base ho0 | exact Kd.N_base (Kd.R_N ho0)) hb); have n1_ := Aside0.mk (Kd.N_lower (Kd.N_mono (ok' := fun k_ => True) ho0 (fun k_ hk_ => trivial)) (below_size bb)); have n2_ := Aside0.mk (below_step bb hb); clear HO363; clear HB; have HO363 := n0_; have HO369 := n1_; have HB := n2_; clear n0_ n1_ n2_; (try clear hb); (try clear hb2); (try clear hk); (try clear hi); (try clear ho0); obtain ⟨Ao18, co18, eo18⟩ := Kd.N_slice HO369.out; subst eo18) | ((with_reducible refine gate_callee (f := 23) rfl ?_); refine goesL_ (some 16) rfl rfl Tryd.func23 (by kernel_rfl) rfl #[.agg #[.int .i64 t364, .int .i64 t365, .string t366, .slice Ao18 t367.length co18]] rfl ag ?_; (with_reducible refine (pack_Put.calls k t364 t365 t366 _ _ t367 t370 t371 _ ?side1 ?side2 A7.out).mono ?_); (case side1 => repeat (first | exact (Kd.N_reads' HO369.out).2.2 | (with_reducible refine Kd.C_alloc ?_ _) | (with_reducible refine Kd.C_drewN ?_ _) | (with_reducible refine Kd.C_drew ?_))); (case side2 => exact (Kd.N_reads' HO369.out).2.1); rintro e w19 ⟨rfl, hb⟩; refine ⟨_, rfl, ?_⟩; have n0_ := Aside0.mk (Kd.N_below (kN HO363.out) hb); have n1_ := Aside0.mk (Kd.N_below (kN HO369.out) hb); have n2_ := Aside0.mk (below_step bb hb); clear HO363; clear HO369; clear HB; have HO363 := n0_; have HO369 := n1_; have HB := n2_; clear n0_ n1_ n2_; (try clear hb); (try clear hb2); (try clear hk); (try clear hi)) | ((with_reducible refine gate_callee (f := 26) rfl ?_); refine goesL_ (some 23) rfl rfl Tryd.func26 (by kernel_rfl) rfl #[.string a0, .string t370] rfl ag ?_; (with_reducible refine (mac_Tag.calls a0 t370 t372 _ A9.out).mono ?_); rintro e w20 ⟨rfl, hb⟩; refine ⟨_, rfl, ?_⟩; have n0_ := Aside0.mk (Kd.N_below (kN HO363.out) hb); have n1_ := Aside0.mk (Kd.N_below (kN HO369.out) hb); have n2_ := Aside0.mk (below_step bb hb); clear HO363; clear HO369; clear HB; have HO363 := n0_; have HO369 := n1_; have HB := n2_; clear n0_ n1_ n2_; (try clear hb); (try clear hb2); (try clear hk); (try clear hi)))
  go_ret
  exact ⟨by first | rfl | (simp [errW_none, errW_some] <;> rfl) | (simp [*, errW_none, errW_some] <;> rfl), bb⟩
 ·rw [if_neg c8] at H
  have c8b0 : (t371 == 0) = false := beq_eq_false_iff_ne.mpr c8
  have c8b1 : (t371 != 0) = true := bne_iff_ne.mpr c8
  obtain rfl := Option.some.inj H
  go_enter Tryd.func29, Tryd.ntmps29
  go_wp2_with (first | ((with_reducible refine gate_callee (f := 47) rfl ?_); refine goesL_ (some 11) rfl rfl Tryd.func47 (by kernel_rfl) rfl #[.string a1] rfl ag ?_; (with_reducible refine (pack_Str.calls a1 t349 t350 t351 t352 _ A4.out).mono ?_); rintro e w21 ⟨v353, rfl, ho0, hb⟩; refine ⟨_, rfl, ?_⟩; have n0_ := Aside0.mk (Kd.N_lower (Kd.N_mono (ok' := fun k_ => True) (Kd.R_N (Kd.R_bound ho0)) (fun k_ hk_ => trivial)) (below_size bb)); have n1_ := Aside0.mk (below_step bb hb); clear HB; have HO354 := n0_; have HB := n1_; clear n0_ n1_; (try clear hb); (try clear hb2); (try clear hk); (try clear hi); (try clear ho0)) | ((with_reducible refine gate_callee (f := 25) rfl ?_); refine goesL_ (some 13) rfl rfl Tryd.func25 (by kernel_rfl) rfl #[.int .i64 a2] rfl ag ?_; (with_reducible refine (pack_Num.calls a2 t355 t356 t357 t358 _ A5.out).mono ?_); rintro e w22 ⟨v359, rfl, ho0, hb⟩; refine ⟨_, rfl, ?_⟩; have n0_ := Aside0.mk (Kd.N_elder' (kN HO354.out) (by first | exact Kd.N_base ho0 | exact Kd.N_base (Kd.R_N ho0)) hb); have n1_ := Aside0.mk (Kd.N_lower (Kd.N_mono (ok' := fun k_ => some k_ ≠ (v353 : Value).ownBlock) (Kd.R_N (Kd.R_bound ho0)) (fun k_ hk_ => (Kd.fresh' (Kd.N_lt (kN HO354.out)) k_ hk_.2.1))) (below_size bb)); have n2_ := Aside0.mk (below_step bb hb); clear HO354; clear HB; have HO354 := n0_; have HO360 := n1_; have HB := n2_; clear n0_ n1_ n2_; (try clear hb); (try clear hb2); (try clear hk); (try clear hi); (try clear ho0); obtain ⟨Ao23, co23, eo23⟩ := Kd.N_slice HO354.out; subst eo23; obtain ⟨Ao24, co24, eo24⟩ := Kd.N_slice HO360.out; subst eo24) | ((with_reducible refine gate_dst (N := 14) rfl ?_); refine Kd.N_lit k51 _ 51 ?hg (N' := 14) ?hd (xs := ([(⟨t349, t350, t351, t352⟩ : S51), (⟨t355, t356, t357, t358⟩ : S51)] : List (S51))) (inner := [.int .i64 t349, .int .i64 t350, .string t351, .slice Ao23 t352.length co23, .int .i64 t355, .int .i64 t356, .string t357, .slice Ao24 t358.length co24]) (ok := (fun _ => True)) (okp := (fun _ => True)) ?hr ?hp (fun _ hk => hk) ((show ∀ k_, w22.heap.size ≤ k_ → (fun _ => True) k_ from fun k_ hk => trivial) _ (Nat.le_refl _)) (Below.refl _ _) (Nat.le_refl _) (by simp) ?_; (case hd => rfl); (case hg => rfl); (case hr => first | (go_simp; done) | (go_simp; rfl)); (case hp => exact (Reps.c4 (show Kd.FK k51 _ _ (⟨t349, t350, t351, t352⟩ : S51) [.int .i64 t349, .int .i64 t350, .string t351, .slice Ao23 t352.length co23] from (k51_mkF _ _ (⟨t349, t350, t351, t352⟩ : S51) (Kd.N_reads' (Kd.N_mono (ok' := (fun _ => True)) (HO354.out) (fun k_ hk => trivial))).2.1 (Kd.N_F (Kd.N_mono (ok' := (fun _ => True)) (HO354.out) (fun k_ hk => trivial))))) (Reps.c4 (show Kd.FK k51 _ _ (⟨t355, t356, t357, t358⟩ : S51) [.int .i64 t355, .int .i64 t356, .string t357, .slice Ao24 t358.length co24] from (k51_mkF _ _ (⟨t355, t356, t357, t358⟩ : S51) (Kd.N_reads' (Kd.N_mono (ok' := (fun _ => True)) (HO360.out) (fun k_ hk => trivial))).2.1 (Kd.N_F (Kd.N_mono (ok' := (fun _ => True)) (HO360.out) (fun k_ hk => trivial))))) (Reps.none _ _)))); intro v362 w25 ho26 hb hg_ hnew_; clear hg_ hnew_; (first | rw [← Ny361.out] at ho26 | (simp only [Int.reduceToNat] at ho26; rw [← Ny361.out] at ho26)); have n0_ := Aside0.mk (Kd.N_lower ho26 (below_size bb)); have n1_ := Aside0.mk (below_step bb hb); clear HB; clear HO354; clear HO360; have HO363 := n0_; have HB := n1_; clear n0_ n1_; clear hb ho26; obtain ⟨Ao27, co27, eo27⟩ := Kd.N_slice HO363.out; subst eo27) | ((with_reducible refine gate_callee (f := 24) rfl ?_); refine goesL_ (some 15) rfl rfl Tryd.func24 (by kernel_rfl) rfl #[.slice Ao27 y361.length co27] rfl ag ?_; (with_reducible refine (pack_All.calls (fun k_ => True) _ _ y361 t364 t365 t366 t367 _ ?side1 A6.out).mono ?_); (case side1 => exact Kd.N_V (HO363.out)); rintro e w28 ⟨v368, rfl, ho0, hb⟩; refine ⟨_, rfl, ?_⟩; have n0_ := Aside0.mk (Kd.N_elder' (kN HO363.out) (by first | exact Kd.N_base ho0 | exact Kd.N_base (Kd.R_N ho0)) hb); have n1_ := Aside0.mk (Kd.N_lower (Kd.N_mono (ok' := fun k_ => True) ho0 (fun k_ hk_ => trivial)) (below_size bb)); have n2_ := Aside0.mk (below_step bb hb); clear HO363; clear HB; have HO363 := n0_; have HO369 := n1_; have HB := n2_; clear n0_ n1_ n2_; (try clear hb); (try clear hb2); (try clear hk); (try clear hi); (try clear ho0); obtain ⟨Ao29, co29, eo29⟩ := Kd.N_slice HO369.out; subst eo29) | ((with_reducible refine gate_callee (f := 23) rfl ?_); refine goesL_ (some 16) rfl rfl Tryd.func23 (by kernel_rfl) rfl #[.agg #[.int .i64 t364, .int .i64 t365, .string t366, .slice Ao29 t367.length co29]] rfl ag ?_; (with_reducible refine (pack_Put.calls k t364 t365 t366 _ _ t367 t370 t371 _ ?side1 ?side2 A7.out).mono ?_); (case side1 => repeat (first | exact (Kd.N_reads' HO369.out).2.2 | (with_reducible refine Kd.C_alloc ?_ _) | (with_reducible refine Kd.C_drewN ?_ _) | (with_reducible refine Kd.C_drew ?_))); (case side2 => exact (Kd.N_reads' HO369.out).2.1); rintro e w30 ⟨rfl, hb⟩; refine ⟨_, rfl, ?_⟩; have n0_ := Aside0.mk (Kd.N_below (kN HO363.out) hb); have n1_ := Aside0.mk (Kd.N_below (kN HO369.out) hb); have n2_ := Aside0.mk (below_step bb hb); clear HO363; clear HO369; clear HB; have HO363 := n0_; have HO369 := n1_; have HB := n2_; clear n0_ n1_ n2_; (try clear hb); (try clear hb2); (try clear hk); (try clear hi)))
  go_ret
  exact ⟨by first | rfl | (simp [errW_none, errW_some] <;> rfl) | (simp [*, errW_none, errW_some] <;> rfl), bb⟩

end Go.Proofs.YtpbnfnaebdmagaaDoor.PT
-- printed by a program of this session out of the translation; see NOTES.md
namespace Go.Proofs.YtpbnfnaebdmagaaDoor.PT
open Go.RowKit Go.Proofs.YtpbnfnaebdmagaaDoorW.PrintWords Go.Proofs.YtpbnfnaebdmagaaDoorW.PrintLast Go.Proofs.YtpbnfnaebdmagaaDoorW.PrintMore Go.Proofs.YtpbnfnaebdmagaaDoorRb
attribute [local go_sem] max2_int min2_int max_two min_two max_three min_three max_four min_four   -- for this text's walks alone
set_option linter.unusedVariables false
set_option linter.unusedSimpArgs false

/-! ### token_Key: function 14 -/
def token_Key.f (k : Nat) (a0 : ByteArray) (a1 : Int) : Option (ByteArray) := (mac_Derive.f k a0 (⟨#[116, 101, 110, 97, 110, 116]⟩ : ByteArray) a1).bind fun t373 => (some t373)
theorem token_Key.mono : ∀ a0 a1 k, LeO (token_Key.f k a0 a1) (token_Key.f (k + 1) a0 a1) := by
 intro a0 a1 k
 unfold token_Key.f
 repeat' first
   | (with_reducible exact mac_Derive.mono _ _ _ _)
   | (with_reducible exact LeO.refl _)
   | (with_reducible exact LeO.none _)
   | (with_reducible refine LeO.ite ?_ ?_)
   | (with_reducible refine LeO.bind ?_ (fun _ => ?_))
   | exact mac_Derive.mono _ _ _ _
   | exact LeO.none _
   | refine LeO.ite ?_ ?_
   | refine LeO.bind ?_ (fun _ => ?_)
set_option maxHeartbeats 8000000 in
set_option maxRecDepth 100000 in
theorem token_Key.calls (k : Nat) (a0 : ByteArray) (a1 : Int) (r : ByteArray) (w : World) (h : token_Key.f k a0 a1 = some r) (HTab : Aside0 (Sha.Tab w) := by first | exact HTab | exact Aside0.mk (HTab.out.step (by repeat (first | (with_reducible first | exact HB.out | apply below_alloc | apply pw_below_drewN | apply below_drew1 | refine below_set ?_ (Aside0.out (by assumption))) | exact HB.out)))) :
  Calls Tryd.prog 14 #[.string a0, .int .i64 a1] w fun e w' => e = .returned (.string r) ∧ Below w.heap.size w w' := by
 have HB := Aside0.mk (Below.refl w.heap.size w)
 have H : ((mac_Derive.f k a0 (⟨#[116, 101, 110, 97, 110, 116]⟩ : ByteArray) a1).bind fun t373 => (some t373)) = some r := h
 clear h
 replace H := Option.bind_eq_some_iff.mp H
 obtain ⟨t373, A30, H⟩ := H
 replace H : (some t373) = some r := H
 have A3 := Aside0.mk A30
 clear A30
 obtain rfl := Option.some.inj H
 go_enter Tryd.func14, Tryd.ntmps14
 go_wp2_with (first | ((with_reducible refine gate_callee (f := 29) rfl ?_); refine goesL_ (some 7) rfl rfl Tryd.func29 (by kernel_rfl) rfl #[.string a0, .string (⟨#[116, 101, 110, 97, 110, 116]⟩ : ByteArray), .int .i64 a1] rfl ag ?_; (with_reducible refine (mac_Derive.calls k a0 (⟨#[116, 101, 110, 97, 110, 116]⟩ : ByteArray) a1 t373 _ A3.out).mono ?_); rintro e w4 ⟨rfl, hb⟩; refine ⟨_, rfl, ?_⟩; have n0_ := Aside0.mk (below_step bb hb); clear HB; have HB := n0_; clear n0_; (try clear hb); (try clear hb2); (try clear hk); (try clear hi)))
 go_ret
 exact ⟨by first | rfl | (simp [errW_none, errW_some] <;> rfl) | (simp [*, errW_none, errW_some] <;> rfl), bb⟩

end Go.Proofs.YtpbnfnaebdmagaaDoor.PT
-- printed by a program of this session out of the translation; see NOTES.md
namespace Go.Proofs.YtpbnfnaebdmagaaDoor.PT
open Go.RowKit Go.Proofs.YtpbnfnaebdmagaaDoorW.PrintWords Go.Proofs.YtpbnfnaebdmagaaDoorW.PrintLast Go.Proofs.YtpbnfnaebdmagaaDoorW.PrintMore Go.Proofs.YtpbnfnaebdmagaaDoorRb
attribute [local go_sem] max2_int min2_int max_two min_two max_three min_three max_four min_four   -- for this text's walks alone
set_option linter.unusedVariables false
set_option linter.unusedSimpArgs false

/-! ### precinctref02_Str: function 48 -/
def precinctref02_Str.f (a0 : ByteArray) : Option (Int × Int × ByteArray × (List (S58))) := some (1, 0, a0, ([] : List (S58)))
set_option maxHeartbeats 8000000 in
set_option maxRecDepth 100000 in
theorem precinctref02_Str.calls (a0 : ByteArray) (r1 : Int) (r2 : Int) (r3 : ByteArray) (r4 : List (S58)) (w : World) (h : precinctref02_Str.f a0 = some (r1, r2, r3, r4)) :
  Calls Tryd.prog 48 #[.string a0] w fun e w' => ∃ v3_ : Value, e = .returned (.agg #[.int .i64 r1, .int .i64 r2, .string r3, v3_]) ∧ Kd.R k58 58 w' w.heap.size (fun _ => True) v3_ r4 ∧ Below w.heap.size w w' := by
 have hu58 := Tryd.underlying58
 have HB := Aside0.mk (Below.refl w.heap.size w)
 have H : (some (1, 0, a0, ([] : List (S58)))) = some (r1, r2, r3, r4) := h
 clear h
 simp only [Option.some.injEq, Prod.mk.injEq] at H
 obtain ⟨rfl, rfl, rfl, rfl⟩ := H
 go_enter Tryd.func48, Tryd.ntmps48
 go_wp2_with (first | ((with_reducible refine gate_dst (N := 2) rfl ?_); refine box_event ?hg (N := 2) ?hd (cs := #[.int .i64 0, .int .i64 0, .string (⟨#[]⟩ : ByteArray), .slice none 0 0]) (t := 58) ?hr ?_; (case hd => rfl); (case hg => rfl); (case hr => first | (go_simp; done) | (go_simp; rfl)); intro gb374 hg w2 hbox hb; have n0_ := Aside0.mk (below_step bb hb); have n1_ := Aside0.mk (hbox); have n2_ := Aside0.mk ((by rw [hg]; exact (below_size bb) : w.heap.size ≤ gb374)); have n3_ := Aside0.mk ((by rw [hg]; exact (below_size bb) : w.heap.size ≤ gb374)); clear HB; have HB := n0_; have BK374 := n1_; have GW374 := n2_; have GE374 := n3_; clear n0_ n1_ n2_ n3_; clear hb hbox hg; have hcz3_0 : w2.cell? ⟨gb374, 0, none⟩ = some (.int .i64 0) := (blk_cell BK374.out 0).trans rfl; have hcz3_1 : w2.cell? ⟨gb374, 1, none⟩ = some (.int .i64 0) := (blk_cell BK374.out 1).trans rfl; have hcz3_2 : w2.cell? ⟨gb374, 2, none⟩ = some (.string (⟨#[]⟩ : ByteArray)) := (blk_cell BK374.out 2).trans rfl; have hcz3_3 : w2.cell? ⟨gb374, 3, none⟩ = some (.slice none 0 0) := (blk_cell BK374.out 3).trans rfl; have hfz3_0 := blk_frozen BK374.out 0; have hfz3_1 := blk_frozen BK374.out 1; have hfz3_2 := blk_frozen BK374.out 2; have hfz3_3 := blk_frozen BK374.out 3))
 refine bodyPost_ret (results_cell_row rfl _ _ gb374 58 #[.int .i64 1, .int .i64 0, .string a0, .slice none 0 0] (0, 0) _ rfl (rb (blk_put (cs := #[.int .i64 1, .int .i64 0, .string a0, .slice none 0 0]) (rb (blk_put (cs := #[.int .i64 1, .int .i64 0, .string (⟨#[]⟩ : ByteArray), .slice none 0 0]) (rb (blk_put (cs := #[.int .i64 1, .int .i64 0, .string (⟨#[]⟩ : ByteArray), .slice none 0 0]) (rb (blk_put (cs := #[.int .i64 0, .int .i64 0, .string (⟨#[]⟩ : ByteArray), .slice none 0 0]) (rb BK374.out) 0 _ rfl)) 1 _ rfl)) 2 _ rfl)) 3 _ rfl)) Tryd.underlying58 rfl (by kernel_rfl)) rfl ?_
 exact ⟨_, by first | rfl | (simp [errW_none, errW_some] <;> rfl) | (simp [*, errW_none, errW_some] <;> rfl), kn, bb⟩

end Go.Proofs.YtpbnfnaebdmagaaDoor.PT
namespace Go.Proofs.YtpbnfnaebdmagaaDoor.Dv
set_option linter.unusedVariables false
set_option linter.unusedSimpArgs false
open Go Go.RowKit Go.Proofs.YtpbnfnaebdmagaaDoor.Plain Go.Proofs.YtpbnfnaebdmagaaDoor.Vs Go.Proofs.YtpbnfnaebdmagaaDoor.PT Go.Proofs.YtpbnfnaebdmagaaDoorW.PrintWords Go.Proofs.YtpbnfnaebdmagaaDoorW.PrintLast Go.Proofs.YtpbnfnaebdmagaaDoorW.PrintMore
theorem row2 {W1 : World} {g : Nat} {A B : Option Addr} {a b : Nat} (x y : W) (h : W1.heap[g]? = some (.cells #[.int .i64 x.f0, .int .i64 x.f1, .string x.f2, .slice A x.f3.length a, .int .i64 y.f0, .int .i64 y.f1, .string y.f2, .slice B y.f3.length b] 58 (0, 0)))
    (hx : Kd.C k58 W1 A x.f3.length x.f3) (lx : x.f3.length ≤ a) (hy : Kd.C k58 W1 B y.f3.length y.f3) (ly : y.f3.length ≤ b) :
    Kd.C k58 W1 (some ⟨g, 0, none⟩) 2 [x, y] := by
  have hadd : ∀ n : Nat, (⟨g, 0, none⟩ : Addr).add n = ⟨g, n, none⟩ := fun n => by unfold Addr.add; split <;> simp_all
  refine ⟨rfl, by decide, fun _ => ⟨⟨g, 0, none⟩, rfl, fun j p hj => ?_⟩⟩
  match j, hj with
  | 0, hj =>
    obtain rfl : x = p := by simpa using hj
    refine ⟨_, rfl, k58_mk W1 x lx hx, fun i u hi => ?_⟩
    rw [hadd, blk_cell h]
    match i, hi with
    | 0, hi => exact hi
    | 1, hi => exact hi
    | 2, hi => exact hi
    | 3, hi => exact hi
    | i + 4, hi => simp at hi
  | 1, hj =>
    obtain rfl : y = p := by simpa using hj
    refine ⟨_, rfl, k58_mk W1 y ly hy, fun i u hi => ?_⟩
    rw [hadd, blk_cell h]
    match i, hi with
    | 0, hi => exact hi
    | 1, hi => exact hi
    | 2, hi => exact hi
    | 3, hi => exact hi
    | i + 4, hi => simp at hi
  | j + 2, hj => simp at hj
def derive (k : Nat) (key p : ByteArray) (n : Int) : Option ByteArray := (precinctref02_Put.f k 2 0 ⟨#[]⟩ [⟨1, 0, p, []⟩, ⟨0, n, ⟨#[]⟩, []⟩]).bind fun t => if t.2 = 0 then precinctref05_Tag.f key t.1 else some ⟨#[]⟩
set_option maxHeartbeats 8000000 in
set_option maxRecDepth 100000 in
theorem derive_calls (k : Nat) (key a0 : ByteArray) (a1 : Int) (r : ByteArray) (w : World) (h : derive k key a0 a1 = some r) :
    Calls Tryd.prog 30 #[.string key, .string a0, .int .i64 a1] w fun e w' => e = .returned (.string r) ∧ Below w.heap.size w w' := by
  obtain ⟨⟨t1, t2⟩, h1, h2⟩ := Option.bind_eq_some_iff.mp h
  have HF := Aside0.mk h1
  have H2 := Aside0.mk h2
  clear h h1 h2
  have hu := Tryd.underlying58
  have HB1 := Aside0.mk (Below.refl w.heap.size w)
  go_enter Tryd.func30, Tryd.ntmps30
  go_upto_region 2 with (go_at_call 48; go_loud ((with_reducible refine (precinctref02_Str.calls a0 1 0 a0 [] _ rfl).mono ?_); rintro e w2 ⟨v3, rfl, hr, hb⟩; obtain ⟨A1, d1, e1⟩ := Kd.R_slice hr; subst e1; have hR1 := Aside0.mk (Kd.R_reads' hr); have hb2 := Aside0.mk hb; clear hb hr))
  have hx := blk_new w2 (.cells #[.int .i64 1, .int .i64 0, .string a0, .slice A1 0 d1] 58)
  have hcx := Kd.C_alloc hR1.out.2.2 (.cells #[.int .i64 1, .int .i64 0, .string a0, .slice A1 0 d1] 58)
  have hb := below_alloc (below_then HB1.out (below_size HB1.out) hb2.out) (.cells #[.int .i64 1, .int .i64 0, .string a0, .slice A1 0 d1] 58)
  generalize w2.alloc (.cells #[.int .i64 1, .int .i64 0, .string a0, .slice A1 0 d1] 58) = w3 at hx hcx hb ⊢
  generalize w2.heap.size = gx at hx ⊢
  have HB3 := Aside0.mk hb
  have HX3 := Aside0.mk hx
  have HCX := Aside0.mk hcx
  clear hx hcx hb HB1 hb2
  go_upto_region 3 with (go_at_call 43; go_loud ((with_reducible refine (precinctref02_Num.calls a1 0 a1 ⟨#[]⟩ [] _ rfl).mono ?_); rintro e w4 ⟨v4, rfl, hr, hb⟩; obtain ⟨A2, d2, e2⟩ := Kd.R_slice hr; subst e2; have hR2 := Aside0.mk (Kd.R_reads' hr); have hb4 := Aside0.mk hb; clear hb hr))
  have hx := blk_alloc (blk_below HX3.out hb4.out) (.cells #[.int .i64 0, .int .i64 a1, .string ⟨#[]⟩, .slice A2 0 d2] 58)
  have hy := blk_new w4 (.cells #[.int .i64 0, .int .i64 a1, .string ⟨#[]⟩, .slice A2 0 d2] 58)
  have hcx := Kd.C_alloc (Kd.C_below HCX.out hb4.out) (.cells #[.int .i64 0, .int .i64 a1, .string ⟨#[]⟩, .slice A2 0 d2] 58)
  have hcy := Kd.C_alloc hR2.out.2.2 (.cells #[.int .i64 0, .int .i64 a1, .string ⟨#[]⟩, .slice A2 0 d2] 58)
  have hb := below_alloc (below_then HB3.out (below_size HB3.out) hb4.out) (.cells #[.int .i64 0, .int .i64 a1, .string ⟨#[]⟩, .slice A2 0 d2] 58)
  generalize w4.alloc (.cells #[.int .i64 0, .int .i64 a1, .string ⟨#[]⟩, .slice A2 0 d2] 58) = w7 at hx hy hcx hcy hb ⊢
  generalize w4.heap.size = gy at hy ⊢
  have HB7 := Aside0.mk hb
  have HCX7 := Aside0.mk hcx
  have HCY7 := Aside0.mk hcy
  have x0 : w7.cell? ⟨gx, 0, none⟩ = some (.int .i64 1) := (blk_cell hx 0).trans rfl
  have x1 : w7.cell? ⟨gx, 1, none⟩ = some (.int .i64 0) := (blk_cell hx 1).trans rfl
  have x2 : w7.cell? ⟨gx, 2, none⟩ = some (.string a0) := (blk_cell hx 2).trans rfl
  have x3 : w7.cell? ⟨gx, 3, none⟩ = some (.slice A1 0 d1) := (blk_cell hx 3).trans rfl
  have y0 : w7.cell? ⟨gy, 0, none⟩ = some (.int .i64 0) := (blk_cell hy 0).trans rfl
  have y1 : w7.cell? ⟨gy, 1, none⟩ = some (.int .i64 a1) := (blk_cell hy 1).trans rfl
  have y2 : w7.cell? ⟨gy, 2, none⟩ = some (.string ⟨#[]⟩) := (blk_cell hy 2).trans rfl
  have y3 : w7.cell? ⟨gy, 3, none⟩ = some (.slice A2 0 d2) := (blk_cell hy 3).trans rfl
  clear hx hy hcx hcy hb HB3 HX3 HCX hb4
  have hbR := below_alloc (Below.refl w7.heap.size w7) (.cells #[.int .i64 1, .int .i64 0, .string a0, .slice A1 0 d1, .int .i64 0, .int .i64 a1, .string ⟨#[]⟩, .slice A2 0 d2] 58)
  have hrow := blk_new w7 (.cells #[.int .i64 1, .int .i64 0, .string a0, .slice A1 0 d1, .int .i64 0, .int .i64 a1, .string ⟨#[]⟩, .slice A2 0 d2] 58)
  have hC2 := row2 (⟨1, 0, a0, []⟩ : W) (⟨0, a1, ⟨#[]⟩, []⟩ : W) hrow (Kd.C_below HCX7.out hbR) (Nat.zero_le _) (Kd.C_below HCY7.out hbR) (Nat.zero_le _)
  have hB9 := below_then HB7.out (below_size HB7.out) hbR
  have HP := Aside0.mk (show Calls Tryd.prog 44 #[.agg #[.int .i64 2, .int .i64 0, .string ⟨#[]⟩, .slice (some ⟨w7.heap.size, 0, none⟩) 2 2]] (w7.alloc (.cells #[.int .i64 1, .int .i64 0, .string a0, .slice A1 0 d1, .int .i64 0, .int .i64 a1, .string ⟨#[]⟩, .slice A2 0 d2] 58)) fun e w' => e = .returned (.tuple #[.string t1, .int .i64 t2]) ∧ Below (w7.alloc (.cells #[.int .i64 1, .int .i64 0, .string a0, .slice A1 0 d1, .int .i64 0, .int .i64 a1, .string ⟨#[]⟩, .slice A2 0 d2] 58)).heap.size (w7.alloc (.cells #[.int .i64 1, .int .i64 0, .string a0, .slice A1 0 d1, .int .i64 0, .int .i64 a1, .string ⟨#[]⟩, .slice A2 0 d2] 58)) w' from precinctref02_Put.calls k 2 0 ⟨#[]⟩ (some ⟨w7.heap.size, 0, none⟩) 2 [⟨1, 0, a0, []⟩, ⟨0, a1, ⟨#[]⟩, []⟩] t1 t2 _ hC2 (Nat.le_refl _) HF.out)
  have HB9 := Aside0.mk hB9
  clear hbR hrow hC2 hB9 HCX7 HCY7
  have h2 := H2.out
  by_cases k1 : t2 = 0
  · rw [if_pos k1] at h2
    have HT := Aside0.mk h2
    have k1b : (t2 != 0) = false := by simp [k1]
    clear k1 h2 H2
    go_wp2_with (first | (go_at_call 44; go_loud ((with_reducible refine HP.out.mono ?_); rintro e w10 ⟨rfl, hb⟩; have HB10 := Aside0.mk (below_then HB9.out (below_size HB9.out) hb); clear hb)) | (go_at_call 28; go_loud ((with_reducible refine (precinctref05_Tag.calls key t1 r _ HT.out).mono ?_); rintro e w11 ⟨rfl, hb⟩; have HB11 := Aside0.mk (below_then HB10.out (below_size HB10.out) hb); clear hb)))
    go_ret
    exact ⟨rfl, HB11.out⟩
  · rw [if_neg k1] at h2
    obtain rfl := Option.some.inj h2
    have k1b : (t2 != 0) = true := by simp [k1]
    clear k1 h2 H2
    go_wp2_with (go_at_call 44; go_loud ((with_reducible refine HP.out.mono ?_); rintro e w10 ⟨rfl, hb⟩; have HB10 := Aside0.mk (below_then HB9.out (below_size HB9.out) hb); clear hb))
    go_ret
    exact ⟨rfl, HB10.out⟩
end Go.Proofs.YtpbnfnaebdmagaaDoor.Dv
-- printed by a program of this session out of the translation; see NOTES.md
namespace Go.Proofs.YtpbnfnaebdmagaaDoor.PT
open Go.RowKit Go.Proofs.YtpbnfnaebdmagaaDoorW.PrintWords Go.Proofs.YtpbnfnaebdmagaaDoorW.PrintLast Go.Proofs.YtpbnfnaebdmagaaDoorW.PrintMore
attribute [local go_sem] max2_int min2_int max_two min_two max_three min_three max_four min_four   -- for this text's walks alone
set_option linter.unusedVariables false
set_option linter.unusedSimpArgs false

/-! ### precinctref05_Derive: function 30 -/
def precinctref05_Derive.f (k : Nat) (a0 : ByteArray) (a1 : ByteArray) (a2 : Int) : Option (ByteArray) := Dv.derive k a0 a1 a2
theorem precinctref05_Derive.mono : ∀ a0 a1 a2 k, LeO (precinctref05_Derive.f k a0 a1 a2) (precinctref05_Derive.f (k + 1) a0 a1 a2) := fun a0 a1 a2 k => LeO.bind (precinctref02_Put.mono _ _ _ _ k) (fun _ => LeO.refl _)
theorem precinctref05_Derive.calls (k : Nat) (a0 : ByteArray) (a1 : ByteArray) (a2 : Int) (r : ByteArray) (w : World) (h : precinctref05_Derive.f k a0 a1 a2 = some r) :
  Calls Tryd.prog 30 #[.string a0, .string a1, .int .i64 a2] w fun e w' => e = .returned (.string r) ∧ Below w.heap.size w w' := Dv.derive_calls k a0 a1 a2 r w h

end Go.Proofs.YtpbnfnaebdmagaaDoor.PT
-- printed by a program of this session out of the translation; see NOTES.md
namespace Go.Proofs.YtpbnfnaebdmagaaDoor.PT
open Go.RowKit Go.Proofs.YtpbnfnaebdmagaaDoorW.PrintWords Go.Proofs.YtpbnfnaebdmagaaDoorW.PrintLast Go.Proofs.YtpbnfnaebdmagaaDoorW.PrintMore Go.Proofs.YtpbnfnaebdmagaaDoorRb
attribute [local go_sem] max2_int min2_int max_two min_two max_three min_three max_four min_four   -- for this text's walks alone
set_option linter.unusedVariables false
set_option linter.unusedSimpArgs false

/-! ### precinctref09_Key: function 15 -/
def precinctref09_Key.f (k : Nat) (a0 : ByteArray) (a1 : Int) : Option (ByteArray) := (precinctref05_Derive.f k a0 (⟨#[116, 101, 110, 97, 110, 116]⟩ : ByteArray) a1).bind fun t375 => (some t375)
theorem precinctref09_Key.mono : ∀ a0 a1 k, LeO (precinctref09_Key.f k a0 a1) (precinctref09_Key.f (k + 1) a0 a1) := by
 intro a0 a1 k
 unfold precinctref09_Key.f
 repeat' first
   | (with_reducible exact precinctref05_Derive.mono _ _ _ _)
   | (with_reducible exact LeO.refl _)
   | (with_reducible exact LeO.none _)
   | (with_reducible refine LeO.ite ?_ ?_)
   | (with_reducible refine LeO.bind ?_ (fun _ => ?_))
   | exact precinctref05_Derive.mono _ _ _ _
   | exact LeO.none _
   | refine LeO.ite ?_ ?_
   | refine LeO.bind ?_ (fun _ => ?_)
set_option maxHeartbeats 8000000 in
set_option maxRecDepth 100000 in
theorem precinctref09_Key.calls (k : Nat) (a0 : ByteArray) (a1 : Int) (r : ByteArray) (w : World) (h : precinctref09_Key.f k a0 a1 = some r) :
  Calls Tryd.prog 15 #[.string a0, .int .i64 a1] w fun e w' => e = .returned (.string r) ∧ Below w.heap.size w w' := by
 have HB := Aside0.mk (Below.refl w.heap.size w)
 have H : ((precinctref05_Derive.f k a0 (⟨#[116, 101, 110, 97, 110, 116]⟩ : ByteArray) a1).bind fun t375 => (some t375)) = some r := h
 clear h
 replace H := Option.bind_eq_some_iff.mp H
 obtain ⟨t375, A30, H⟩ := H
 replace H : (some t375) = some r := H
 have A3 := Aside0.mk A30
 clear A30
 obtain rfl := Option.some.inj H
 go_enter Tryd.func15, Tryd.ntmps15
 go_wp2_with (first | ((with_reducible refine gate_callee (f := 30) rfl ?_); refine goesL_ (some 7) rfl rfl Tryd.func30 (by kernel_rfl) rfl #[.string a0, .string (⟨#[116, 101, 110, 97, 110, 116]⟩ : ByteArray), .int .i64 a1] rfl ag ?_; (with_reducible refine (precinctref05_Derive.calls k a0 (⟨#[116, 101, 110, 97, 110, 116]⟩ : ByteArray) a1 t375 _ A3.out).mono ?_); rintro e w4 ⟨rfl, hb⟩; refine ⟨_, rfl, ?_⟩; have n0_ := Aside0.mk (below_step bb hb); clear HB; have HB := n0_; clear n0_; (try clear hb); (try clear hb2); (try clear hk); (try clear hi)))
 go_ret
 exact ⟨by first | rfl | (simp [errW_none, errW_some] <;> rfl) | (simp [*, errW_none, errW_some] <;> rfl), bb⟩

end Go.Proofs.YtpbnfnaebdmagaaDoor.PT
-- printed by a program of this session out of the translation; see NOTES.md
namespace Go.Proofs.YtpbnfnaebdmagaaDoor.PT
open Go.RowKit Go.Proofs.YtpbnfnaebdmagaaDoorW.PrintWords Go.Proofs.YtpbnfnaebdmagaaDoorW.PrintLast Go.Proofs.YtpbnfnaebdmagaaDoorW.PrintMore Go.Proofs.YtpbnfnaebdmagaaDoorRb
attribute [local go_sem] max2_int min2_int max_two min_two max_three min_three max_four min_four   -- for this text's walks alone
set_option linter.unusedVariables false
set_option linter.unusedSimpArgs false

/-! ### precinctlaw09_TokenMints: function 4 -/
def precinctlaw09_TokenMints.f (k : Nat) (a0 : ByteArray) (a1_0 : Int) (a1_1 : Int) (a1_2 : Int) (a1_3 : Int) (a2 : Int) : Option (Bool) := if 0 ≤ (mn (a0.size : Int) 500) then (if (mn (a0.size : Int) 500) ≤ (a0.size : Int) then ((precinctlaw09_wakes.f k).bind fun t377 => (if t377 = true then ((token_Mint.f k (a0.extract 0 ((mn (a0.size : Int) 500) : Int).toNat) a1_0 a1_1 a1_2 a1_3).bind fun t378 => ((precinctref09_Mint.f k (a0.extract 0 ((mn (a0.size : Int) 500) : Int).toNat) a1_0 a1_1 a1_2 a1_3).bind fun t379 => (if t378.toList = t379.toList then ((token_Key.f k (a0.extract 0 ((mn (a0.size : Int) 500) : Int).toNat) a2).bind fun t380 => ((precinctref09_Key.f k (a0.extract 0 ((mn (a0.size : Int) 500) : Int).toNat) a2).bind fun t381 => (some (t380.toList == t381.toList)))) else (some false)))) else (some false))) else (none)) else (none)
theorem precinctlaw09_TokenMints.mono : ∀ a0 a1 a2 a3 a4 a5 k, LeO (precinctlaw09_TokenMints.f k a0 a1 a2 a3 a4 a5) (precinctlaw09_TokenMints.f (k + 1) a0 a1 a2 a3 a4 a5) := by
 intro a0 a1 a2 a3 a4 a5 k
 unfold precinctlaw09_TokenMints.f
 repeat' first
   | (with_reducible exact precinctlaw09_wakes.mono _)
   | (with_reducible exact precinctref09_Key.mono _ _ _)
   | (with_reducible exact precinctref09_Mint.mono _ _ _ _ _ _)
   | (with_reducible exact token_Key.mono _ _ _)
   | (with_reducible exact token_Mint.mono _ _ _ _ _ _)
   | (with_reducible exact LeO.refl _)
   | (with_reducible exact LeO.none _)
   | (with_reducible refine LeO.ite ?_ ?_)
   | (with_reducible refine LeO.bind ?_ (fun _ => ?_))
   | exact precinctlaw09_wakes.mono _
   | exact precinctref09_Key.mono _ _ _
   | exact precinctref09_Mint.mono _ _ _ _ _ _
   | exact token_Key.mono _ _ _
   | exact token_Mint.mono _ _ _ _ _ _
   | exact LeO.none _
   | refine LeO.ite ?_ ?_
   | refine LeO.bind ?_ (fun _ => ?_)
def precinctlaw09_TokenMints.T2 : Bool × List (List Nat × List Nat) := (true, [([], []), ([0, 0], [0]), ([1], [1]), ([1], [1]), ([2, 3, 1, 1], [1, 2, 3]), ([1], [1]), ([1], [1]), ([5, 6, 4, 1], [1, 5, 6]), ([4, 7, 1], [1, 4, 7]), ([1, 8], [1, 8]), ([9, 7], [9]), ([10], [10]), ([10], [10]), ([11, 12, 10, 10], [10, 11, 12]), ([10], [10]), ([10], [10]), ([14, 15, 13, 10], [10, 14, 15]), ([13, 16, 10], [10, 13, 16]), ([10, 17], [10, 17]), ([18, 16, 0, 1, 2, 3, 4, 5, 6, 7, 8, 9, 10, 11, 12, 13, 14, 15, 16, 17, 18], [18])])
def precinctlaw09_TokenMints.B2 : List Nat := [0, 1, 3, 3, 15, 3, 3, 127, 255, 511, 1023, 2047, 2047, 8191, 2047, 2047, 65535, 131071, 262143, 524287]
theorem precinctlaw09_TokenMints.tab2 : rtab .any (opsOf Tryd.f4 2) = precinctlaw09_TokenMints.T2 := by kernel_rfl
theorem precinctlaw09_TokenMints.bits2 : waitsOk precinctlaw09_TokenMints.T2.2 precinctlaw09_TokenMints.B2 = true := by kernel_rfl
set_option maxHeartbeats 8000000 in
set_option maxRecDepth 100000 in
theorem precinctlaw09_TokenMints.calls (k : Nat) (a0 : ByteArray) (a1_0 : Int) (a1_1 : Int) (a1_2 : Int) (a1_3 : Int) (a2 : Int) (r : Bool) (w : World) (hT_ : Aside0 (r = true)) (h : precinctlaw09_TokenMints.f k a0 a1_0 a1_1 a1_2 a1_3 a2 = some r) (HTab : Aside0 (Sha.Tab w) := by first | exact HTab | exact Aside0.mk (HTab.out.step (by repeat (first | (with_reducible first | exact HB.out | apply below_alloc | apply pw_below_drewN | apply below_drew1 | refine below_set ?_ (Aside0.out (by assumption))) | exact HB.out)))) :
  Calls Tryd.prog 4 #[.string a0, .agg #[.int .i64 a1_0, .int .i64 a1_1, .int .i64 a1_2, .int .i64 a1_3], .int .i64 a2] w fun e w' => e = .returned (.bool r) ∧ Below w.heap.size w w' := by
 have hu32 := Tryd.underlying32
 have HB := Aside0.mk (Below.refl w.heap.size w)
 have H : (if 0 ≤ (mn (a0.size : Int) 500) then (if (mn (a0.size : Int) 500) ≤ (a0.size : Int) then ((precinctlaw09_wakes.f k).bind fun t377 => (if t377 = true then ((token_Mint.f k (a0.extract 0 ((mn (a0.size : Int) 500) : Int).toNat) a1_0 a1_1 a1_2 a1_3).bind fun t378 => ((precinctref09_Mint.f k (a0.extract 0 ((mn (a0.size : Int) 500) : Int).toNat) a1_0 a1_1 a1_2 a1_3).bind fun t379 => (if t378.toList = t379.toList then ((token_Key.f k (a0.extract 0 ((mn (a0.size : Int) 500) : Int).toNat) a2).bind fun t380 => ((precinctref09_Key.f k (a0.extract 0 ((mn (a0.size : Int) 500) : Int).toNat) a2).bind fun t381 => (some (t380.toList == t381.toList)))) else (some false)))) else (some false))) else (none)) else (none)) = some r := h
 clear h
 obtain ⟨ji4, hji4⟩ : ∃ j_ : Int, (mn (a0.size : Int) 500) = j_ := ⟨_, rfl⟩
 replace H : (if 0 ≤ (ji4) then (if (ji4) ≤ (a0.size : Int) then ((precinctlaw09_wakes.f k).bind fun t377 => (if t377 = true then ((token_Mint.f k (a0.extract 0 ((ji4) : Int).toNat) a1_0 a1_1 a1_2 a1_3).bind fun t378 => ((precinctref09_Mint.f k (a0.extract 0 ((ji4) : Int).toNat) a1_0 a1_1 a1_2 a1_3).bind fun t379 => (if t378.toList = t379.toList then ((token_Key.f k (a0.extract 0 ((ji4) : Int).toNat) a2).bind fun t380 => ((precinctref09_Key.f k (a0.extract 0 ((ji4) : Int).toNat) a2).bind fun t381 => (some (t380.toList == t381.toList)))) else (some false)))) else (some false))) else (none)) else (none)) = some r := by first | (rw [hji4] at H; exact H) | (simp only [hji4] at H ⊢; exact H)
 (try (have hji4h : ji4 ≤ 500 := by (rw [← hji4]; unfold mn; (repeat' split) <;> omega)))
 (try (have hji4g : ji4 ≤ 64 := by omega))
 (try (have hji4l : 0 ≤ ji4 := by (rw [← hji4]; unfold mn; (repeat' split) <;> omega)))
 (try (have hji4m : 0 ≤ ji4 := by omega))
 have hji4_ : (if 500 < (a0.size : Int) then 500 else (a0.size : Int)) = ji4 := hji4
 by_cases c5 : 0 ≤ (ji4)
 ·rw [if_pos c5] at H
  have c5b0 := eq_true c5
  have c5b1 : decide (0 ≤ (ji4)) = true := decide_eq_true c5
  clear c5
  by_cases c6 : (ji4) ≤ (a0.size : Int)
  ·rw [if_pos c6] at H
   have c6b0 := eq_true c6
   have c6b1 : decide ((ji4) ≤ (a0.size : Int)) = true := decide_eq_true c6
   clear c6
   replace H := Option.bind_eq_some_iff.mp H
   obtain ⟨t377, A70, H⟩ := H
   replace H : (if t377 = true then ((token_Mint.f k (a0.extract 0 ((ji4) : Int).toNat) a1_0 a1_1 a1_2 a1_3).bind fun t378 => ((precinctref09_Mint.f k (a0.extract 0 ((ji4) : Int).toNat) a1_0 a1_1 a1_2 a1_3).bind fun t379 => (if t378.toList = t379.toList then ((token_Key.f k (a0.extract 0 ((ji4) : Int).toNat) a2).bind fun t380 => ((precinctref09_Key.f k (a0.extract 0 ((ji4) : Int).toNat) a2).bind fun t381 => (some (t380.toList == t381.toList)))) else (some false)))) else (some false)) = some r := H
   have A7 := Aside0.mk A70
   clear A70
   by_cases c8 : t377 = true
   ·subst c8
    have H1 : ((token_Mint.f k (a0.extract 0 ((ji4) : Int).toNat) a1_0 a1_1 a1_2 a1_3).bind fun t378 => ((precinctref09_Mint.f k (a0.extract 0 ((ji4) : Int).toNat) a1_0 a1_1 a1_2 a1_3).bind fun t379 => (if t378.toList = t379.toList then ((token_Key.f k (a0.extract 0 ((ji4) : Int).toNat) a2).bind fun t380 => ((precinctref09_Key.f k (a0.extract 0 ((ji4) : Int).toNat) a2).bind fun t381 => (some (t380.toList == t381.toList)))) else (some false)))) = some r := by rw [if_pos rfl] at H; exact H
    clear H
    have H := H1
    clear H1
    replace H := Option.bind_eq_some_iff.mp H
    obtain ⟨t378, A90, H⟩ := H
    replace H : ((precinctref09_Mint.f k (a0.extract 0 ((ji4) : Int).toNat) a1_0 a1_1 a1_2 a1_3).bind fun t379 => (if t378.toList = t379.toList then ((token_Key.f k (a0.extract 0 ((ji4) : Int).toNat) a2).bind fun t380 => ((precinctref09_Key.f k (a0.extract 0 ((ji4) : Int).toNat) a2).bind fun t381 => (some (t380.toList == t381.toList)))) else (some false))) = some r := H
    have A9 := Aside0.mk A90
    clear A90
    replace H := Option.bind_eq_some_iff.mp H
    obtain ⟨t379, A100, H⟩ := H
    replace H : (if t378.toList = t379.toList then ((token_Key.f k (a0.extract 0 ((ji4) : Int).toNat) a2).bind fun t380 => ((precinctref09_Key.f k (a0.extract 0 ((ji4) : Int).toNat) a2).bind fun t381 => (some (t380.toList == t381.toList)))) else (some false)) = some r := H
    have A10 := Aside0.mk A100
    clear A100
    by_cases c11 : t378.toList = t379.toList
    ·rw [if_pos c11] at H
     have c11b0 : (t378.toList == t379.toList) = true := beq_iff_eq.mpr c11
     have c11b1 : (t378.toList != t379.toList) = false := bne_eq_false_iff_eq.mpr c11
     clear c11
     replace H := Option.bind_eq_some_iff.mp H
     obtain ⟨t380, A120, H⟩ := H
     replace H : ((precinctref09_Key.f k (a0.extract 0 ((ji4) : Int).toNat) a2).bind fun t381 => (some (t380.toList == t381.toList))) = some r := H
     have A12 := Aside0.mk A120
     clear A120
     replace H := Option.bind_eq_some_iff.mp H
     obtain ⟨t381, A130, H⟩ := H
     replace H : (some (t380.toList == t381.toList)) = some r := H
     have A13 := Aside0.mk A130
     clear A130
     obtain rfl := Option.some.inj H
     go_enter Tryd.func4, Tryd.ntmps4
     try go_wp2_with (first | ((with_reducible refine gate_dst (N := 4) rfl ?_); refine box_event ?hg (N := 4) ?hd (cs := #[.int .i64 a1_0, .int .i64 a1_1, .int .i64 a1_2, .int .i64 a1_3]) (t := 32) ?hr ?_; (case hd => rfl); (case hg => rfl); (case hr => first | (go_simp; done) | (go_simp; rfl)); intro gb376 hg w14 hbox hb; have n0_ := Aside0.mk (below_step bb hb); have n1_ := Aside0.mk (hbox); have n2_ := Aside0.mk ((by rw [hg]; exact (below_size bb) : w.heap.size ≤ gb376)); have n3_ := Aside0.mk ((by rw [hg]; exact (below_size bb) : w.heap.size ≤ gb376)); clear HB; have HB := n0_; have BK376 := n1_; have GW376 := n2_; have GE376 := n3_; clear n0_ n1_ n2_ n3_; clear hb hbox hg))
     have n0_ := Aside0.mk (blk_drew BK376.out)
     have n1_ := Aside0.mk (below_drew1 HB.out)
     clear BK376
     clear HB
     have BK376 := n0_
     have HB := n1_
     clear n0_ n1_
     refine start_ (n := 20) (S := fun w' => w'.cell? ⟨gb376, 0, none⟩ = some (.int .i64 a1_0) ∧ w'.cell? ⟨gb376, 1, none⟩ = some (.int .i64 a1_1) ∧ w'.cell? ⟨gb376, 2, none⟩ = some (.int .i64 a1_2) ∧ w'.cell? ⟨gb376, 3, none⟩ = some (.int .i64 a1_3)) (ds := []) #[false, false, false, false, false, false, false, false, false, false, false, false, false, false, false, false, false, false, false, false] (by kernel_rfl) rfl rfl ⟨(blk_cell BK376.out 0).trans rfl, (blk_cell BK376.out 1).trans rfl, (blk_cell BK376.out 2).trans rfl, (blk_cell BK376.out 3).trans rfl⟩ (fun hHeld => ?_); refine with_tabW precinctlaw09_TokenMints.tab2 precinctlaw09_TokenMints.bits2 (fun HT_ HW_ => ?_)
     generalize w14.drew = w15 at BK376 HB hHeld ⊢
     refine one_ (i := 0) (N := some 12) #[true, false, false, false, false, false, false, false, false, false, false, false, false, false, false, false, false, false, false, false] rfl rfl (one_of HT_.out (by kernel_rfl)) (by decide) (fun K hK => ?_)
     refine goes_ Tryd.func11 (by kernel_rfl) rfl #[] (by rfl) rfl rfl ag ?_
     with_reducible refine (precinctlaw09_wakes.calls k  true _ A7.out).mono ?_
     rintro e w16 ⟨rfl, hb⟩
     refine ⟨_, rfl, ?_⟩
     have n0_ := Aside0.mk (blk_below (rb BK376.out) hb)
     have n1_ := Aside0.mk (below_step bb hb)
     clear BK376
     clear HB
     have BK376 := n0_
     have HB := n1_
     clear n0_ n1_
     (try clear hb)
     (try clear hb2)
     (try clear hk)
     (try clear hi)
     refine hK.out _ _ ⟨(blk_cell BK376.out 0).trans rfl, (blk_cell BK376.out 1).trans rfl, (blk_cell BK376.out 2).trans rfl, (blk_cell BK376.out 3).trans rfl⟩ (fun hHeld => ?_)
     clear hK K
     refine norm_ (a' := ?_) ?_ ?_
     rotate_left
     ·show Act.put _ (some 12) _ = _
      simp only [Act.put, List.setIfInBounds_toArray, List.set_cons_zero, List.set_cons_succ, i64_w, i32_w]
      rfl
     refine pure_ (i := 1) (N := some 13) (v := ?_) (a' := ?_) #[true, true, false, false, false, false, false, false, false, false, false, false, false, false, false, false, false, false, false, false] rfl rfl (any_of HT_.out (by kernel_rfl)) (fun _ _ _ h => h) (Or.inl ⟨by rfl, ?_⟩) ?_ ?_
     rotate_left
     ·intro w'
      go_simp
      with_reducible rfl
     rotate_left
     ·simp only [Act.put, List.setIfInBounds_toArray, List.set_cons_zero, List.set_cons_succ, i64_w, i32_w]
      rfl
     refine pure_ (i := 2) (N := some 14) (v := ?_) (a' := ?_) #[true, true, true, false, false, false, false, false, false, false, false, false, false, false, false, false, false, false, false, false] rfl rfl (any_of HT_.out (by kernel_rfl)) (fun _ _ _ h => h) (Or.inl ⟨by rfl, ?_⟩) ?_ ?_
     rotate_left
     ·intro w'
      go_simp
      with_reducible rfl
     rotate_left
     ·simp only [Act.put, List.setIfInBounds_toArray, List.set_cons_zero, List.set_cons_succ, i64_w, i32_w]
      rfl
     refine pure_ (i := 5) (N := some 17) (v := ?_) (a' := ?_) #[true, true, true, false, false, true, false, false, false, false, false, false, false, false, false, false, false, false, false, false] rfl rfl (any_of HT_.out (by kernel_rfl)) (fun _ _ _ h => h) (Or.inl ⟨by rfl, ?_⟩) ?_ ?_
     rotate_left
     ·intro w'
      go_simp
      with_reducible rfl
     rotate_left
     ·simp only [Act.put, List.setIfInBounds_toArray, List.set_cons_zero, List.set_cons_succ, i64_w, i32_w]
      rfl
     refine take_ (i := 3) (N := some 15) (v := ?_) (a' := ?_) #[true, true, true, true, false, true, false, false, false, false, false, false, false, false, false, false, false, false, false, false] rfl rfl (take_ofW HT_.out HW_.out (by kernel_rfl)) (fun _ _ _ h => h) (Or.inl ⟨by rfl, ?_⟩) hHeld ?_ ?_
     rotate_left
     ·rintro w' ⟨s0, s1, s2, s3⟩
      go_simp
      with_reducible rfl
     rotate_left
     ·simp only [Act.put, List.setIfInBounds_toArray, List.set_cons_zero, List.set_cons_succ, i64_w, i32_w]
      rfl
     refine take_ (i := 6) (N := some 18) (v := ?_) (a' := ?_) #[true, true, true, true, false, true, true, false, false, false, false, false, false, false, false, false, false, false, false, false] rfl rfl (take_ofW HT_.out HW_.out (by kernel_rfl)) (fun _ _ _ h => h) (Or.inl ⟨by rfl, ?_⟩) hHeld ?_ ?_
     rotate_left
     ·rintro w' ⟨s0, s1, s2, s3⟩
      go_simp
      with_reducible rfl
     rotate_left
     ·simp only [Act.put, List.setIfInBounds_toArray, List.set_cons_zero, List.set_cons_succ, i64_w, i32_w]
      rfl
     refine one_ (i := 4) (N := some 16) #[true, true, true, true, true, true, true, false, false, false, false, false, false, false, false, false, false, false, false, false] rfl rfl (one_of HT_.out (by kernel_rfl)) (by decide) (fun K hK => ?_)
     refine goes_ Tryd.func12 (by kernel_rfl) rfl #[.string (a0.extract 0 ((ji4) : Int).toNat), .agg #[.int .i64 a1_0, .int .i64 a1_1, .int .i64 a1_2, .int .i64 a1_3]] (by rfl) rfl rfl (by (try simp only [List.map_toArray, List.map_cons, List.map_nil]); first | done | (simp only [hji4]; rfl) | rfl | (simp only [List.length_drop, List.length_take]; rfl)) ?_
     with_reducible refine (token_Mint.calls k (a0.extract 0 ((ji4) : Int).toNat) a1_0 a1_1 a1_2 a1_3 t378 _ A9.out).mono ?_
     rintro e w17 ⟨rfl, hb⟩
     refine ⟨_, rfl, ?_⟩
     have n0_ := Aside0.mk (blk_below (rb BK376.out) hb)
     have n1_ := Aside0.mk (below_step bb hb)
     clear BK376
     clear HB
     have BK376 := n0_
     have HB := n1_
     clear n0_ n1_
     (try clear hb)
     (try clear hb2)
     (try clear hk)
     (try clear hi)
     refine hK.out _ _ ⟨(blk_cell BK376.out 0).trans rfl, (blk_cell BK376.out 1).trans rfl, (blk_cell BK376.out 2).trans rfl, (blk_cell BK376.out 3).trans rfl⟩ (fun hHeld => ?_)
     clear hK K
     refine norm_ (a' := ?_) ?_ ?_
     rotate_left
     ·show Act.put _ (some 16) _ = _
      simp only [Act.put, List.setIfInBounds_toArray, List.set_cons_zero, List.set_cons_succ, i64_w, i32_w]
      rfl
     refine one_ (i := 7) (N := some 19) #[true, true, true, true, true, true, true, true, false, false, false, false, false, false, false, false, false, false, false, false] rfl rfl (one_of HT_.out (by kernel_rfl)) (by decide) (fun K hK => ?_)
     refine goes_ Tryd.func13 (by kernel_rfl) rfl #[.string (a0.extract 0 ((ji4) : Int).toNat), .agg #[.int .i64 a1_0, .int .i64 a1_1, .int .i64 a1_2, .int .i64 a1_3]] (by rfl) rfl rfl (by (try simp only [List.map_toArray, List.map_cons, List.map_nil]); first | done | (simp only [hji4]; rfl) | rfl | (simp only [List.length_drop, List.length_take]; rfl)) ?_
     with_reducible refine (precinctref09_Mint.calls k (a0.extract 0 ((ji4) : Int).toNat) a1_0 a1_1 a1_2 a1_3 t379 _ A10.out).mono ?_
     rintro e w18 ⟨rfl, hb⟩
     refine ⟨_, rfl, ?_⟩
     have n0_ := Aside0.mk (blk_below (rb BK376.out) hb)
     have n1_ := Aside0.mk (below_step bb hb)
     clear BK376
     clear HB
     have BK376 := n0_
     have HB := n1_
     clear n0_ n1_
     (try clear hb)
     (try clear hb2)
     (try clear hk)
     (try clear hi)
     refine hK.out _ _ ⟨(blk_cell BK376.out 0).trans rfl, (blk_cell BK376.out 1).trans rfl, (blk_cell BK376.out 2).trans rfl, (blk_cell BK376.out 3).trans rfl⟩ (fun hHeld => ?_)
     clear hK K
     refine norm_ (a' := ?_) ?_ ?_
     rotate_left
     ·show Act.put _ (some 19) _ = _
      simp only [Act.put, List.setIfInBounds_toArray, List.set_cons_zero, List.set_cons_succ, i64_w, i32_w]
      rfl
     refine pure_ (i := 8) (N := some 20) (v := ?_) (a' := ?_) #[true, true, true, true, true, true, true, true, true, false, false, false, false, false, false, false, false, false, false, false] rfl rfl (any_of HT_.out (by kernel_rfl)) (fun _ _ _ h => h) (Or.inl ⟨by rfl, ?_⟩) ?_ ?_
     rotate_left
     ·intro w'
      go_simp
      with_reducible rfl
     rotate_left
     ·simp only [Act.put, List.setIfInBounds_toArray, List.set_cons_zero, List.set_cons_succ, i64_w, i32_w]
      rfl
     refine pure_ (i := 9) (N := some 21) (v := ?_) (a' := ?_) #[true, true, true, true, true, true, true, true, true, true, false, false, false, false, false, false, false, false, false, false] rfl rfl (any_of HT_.out (by kernel_rfl)) (fun _ _ _ h => h) (Or.inl ⟨by rfl, ?_⟩) ?_ ?_
     rotate_left
     ·intro w'
      go_simp
      with_reducible rfl
     rotate_left
     ·simp only [Act.put, List.setIfInBounds_toArray, List.set_cons_zero, List.set_cons_succ, i64_w, i32_w]
      rfl
     refine pure_ (i := 10) (N := some 22) (v := ?_) (a' := ?_) #[true, true, true, true, true, true, true, true, true, true, true, false, false, false, false, false, false, false, false, false] rfl rfl (any_of HT_.out (by kernel_rfl)) (fun _ _ _ h => h) (Or.inl ⟨by rfl, ?_⟩) ?_ ?_
     rotate_left
     ·intro w'
      go_simp
      with_reducible rfl
     rotate_left
     ·simp only [Act.put, List.setIfInBounds_toArray, List.set_cons_zero, List.set_cons_succ, i64_w, i32_w]
      rfl
     refine pure_ (i := 11) (N := some 23) (v := ?_) (a' := ?_) #[true, true, true, true, true, true, true, true, true, true, true, true, false, false, false, false, false, false, false, false] rfl rfl (any_of HT_.out (by kernel_rfl)) (fun _ _ _ h => h) (Or.inl ⟨by rfl, ?_⟩) ?_ ?_
     rotate_left
     ·intro w'
      go_simp
      with_reducible rfl
     rotate_left
     ·simp only [Act.put, List.setIfInBounds_toArray, List.set_cons_zero, List.set_cons_succ, i64_w, i32_w]
      rfl
     refine pure_ (i := 12) (N := some 24) (v := ?_) (a' := ?_) #[true, true, true, true, true, true, true, true, true, true, true, true, true, false, false, false, false, false, false, false] rfl rfl (any_of HT_.out (by kernel_rfl)) (fun _ _ _ h => h) (Or.inl ⟨by rfl, ?_⟩) ?_ ?_
     rotate_left
     ·intro w'
      go_simp
      with_reducible rfl
     rotate_left
     ·simp only [Act.put, List.setIfInBounds_toArray, List.set_cons_zero, List.set_cons_succ, i64_w, i32_w]
      rfl
     refine pure_ (i := 14) (N := some 26) (v := ?_) (a' := ?_) #[true, true, true, true, true, true, true, true, true, true, true, true, true, false, true, false, false, false, false, false] rfl rfl (any_of HT_.out (by kernel_rfl)) (fun _ _ _ h => h) (Or.inl ⟨by rfl, ?_⟩) ?_ ?_
     rotate_left
     ·intro w'
      go_simp
      with_reducible rfl
     rotate_left
     ·simp only [Act.put, List.setIfInBounds_toArray, List.set_cons_zero, List.set_cons_succ, i64_w, i32_w]
      rfl
     refine pure_ (i := 15) (N := some 27) (v := ?_) (a' := ?_) #[true, true, true, true, true, true, true, true, true, true, true, true, true, false, true, true, false, false, false, false] rfl rfl (any_of HT_.out (by kernel_rfl)) (fun _ _ _ h => h) (Or.inl ⟨by rfl, ?_⟩) ?_ ?_
     rotate_left
     ·intro w'
      go_simp
      with_reducible rfl
     rotate_left
     ·simp only [Act.put, List.setIfInBounds_toArray, List.set_cons_zero, List.set_cons_succ, i64_w, i32_w]
      rfl
     refine one_ (i := 13) (N := some 25) #[true, true, true, true, true, true, true, true, true, true, true, true, true, true, true, true, false, false, false, false] rfl rfl (one_of HT_.out (by kernel_rfl)) (by decide) (fun K hK => ?_)
     refine goes_ Tryd.func14 (by kernel_rfl) rfl #[.string (a0.extract 0 ((ji4) : Int).toNat), .int .i64 a2] (by rfl) rfl rfl (by (try simp only [List.map_toArray, List.map_cons, List.map_nil]); first | done | (simp only [hji4]; rfl) | rfl | (simp only [List.length_drop, List.length_take]; rfl)) ?_
     with_reducible refine (token_Key.calls k (a0.extract 0 ((ji4) : Int).toNat) a2 t380 _ A12.out).mono ?_
     rintro e w19 ⟨rfl, hb⟩
     refine ⟨_, rfl, ?_⟩
     have n0_ := Aside0.mk (blk_below (rb BK376.out) hb)
     have n1_ := Aside0.mk (below_step bb hb)
     clear BK376
     clear HB
     have BK376 := n0_
     have HB := n1_
     clear n0_ n1_
     (try clear hb)
     (try clear hb2)
     (try clear hk)
     (try clear hi)
     refine hK.out _ _ ⟨(blk_cell BK376.out 0).trans rfl, (blk_cell BK376.out 1).trans rfl, (blk_cell BK376.out 2).trans rfl, (blk_cell BK376.out 3).trans rfl⟩ (fun hHeld => ?_)
     clear hK K
     refine norm_ (a' := ?_) ?_ ?_
     rotate_left
     ·show Act.put _ (some 25) _ = _
      simp only [Act.put, List.setIfInBounds_toArray, List.set_cons_zero, List.set_cons_succ, i64_w, i32_w]
      rfl
     refine one_ (i := 16) (N := some 28) #[true, true, true, true, true, true, true, true, true, true, true, true, true, true, true, true, true, false, false, false] rfl rfl (one_of HT_.out (by kernel_rfl)) (by decide) (fun K hK => ?_)
     refine goes_ Tryd.func15 (by kernel_rfl) rfl #[.string (a0.extract 0 ((ji4) : Int).toNat), .int .i64 a2] (by rfl) rfl rfl (by (try simp only [List.map_toArray, List.map_cons, List.map_nil]); first | done | (simp only [hji4]; rfl) | rfl | (simp only [List.length_drop, List.length_take]; rfl)) ?_
     with_reducible refine (precinctref09_Key.calls k (a0.extract 0 ((ji4) : Int).toNat) a2 t381 _ A13.out).mono ?_
     rintro e w20 ⟨rfl, hb⟩
     refine ⟨_, rfl, ?_⟩
     have n0_ := Aside0.mk (blk_below (rb BK376.out) hb)
     have n1_ := Aside0.mk (below_step bb hb)
     clear BK376
     clear HB
     have BK376 := n0_
     have HB := n1_
     clear n0_ n1_
     (try clear hb)
     (try clear hb2)
     (try clear hk)
     (try clear hi)
     refine hK.out _ _ ⟨(blk_cell BK376.out 0).trans rfl, (blk_cell BK376.out 1).trans rfl, (blk_cell BK376.out 2).trans rfl, (blk_cell BK376.out 3).trans rfl⟩ (fun hHeld => ?_)
     clear hK K
     refine norm_ (a' := ?_) ?_ ?_
     rotate_left
     ·show Act.put _ (some 28) _ = _
      simp only [Act.put, List.setIfInBounds_toArray, List.set_cons_zero, List.set_cons_succ, i64_w, i32_w]
      rfl
     refine pure_ (i := 17) (N := some 29) (v := ?_) (a' := ?_) #[true, true, true, true, true, true, true, true, true, true, true, true, true, true, true, true, true, true, false, false] rfl rfl (any_of HT_.out (by kernel_rfl)) (fun _ _ _ h => h) (Or.inl ⟨by rfl, ?_⟩) ?_ ?_
     rotate_left
     ·intro w'
      go_simp
      with_reducible rfl
     rotate_left
     ·simp only [Act.put, List.setIfInBounds_toArray, List.set_cons_zero, List.set_cons_succ, i64_w, i32_w]
      rfl
     refine pure_ (i := 18) (N := some 30) (v := ?_) (a' := ?_) #[true, true, true, true, true, true, true, true, true, true, true, true, true, true, true, true, true, true, true, false] rfl rfl (any_of HT_.out (by kernel_rfl)) (fun _ _ _ h => h) (Or.inl ⟨by rfl, ?_⟩) ?_ ?_
     rotate_left
     ·intro w'
      go_simp
      with_reducible rfl
     rotate_left
     ·simp only [Act.put, List.setIfInBounds_toArray, List.set_cons_zero, List.set_cons_succ, i64_w, i32_w]
      rfl
     refine pure_ (i := 19) (N := some 6) (v := ?_) (a' := ?_) #[true, true, true, true, true, true, true, true, true, true, true, true, true, true, true, true, true, true, true, true] rfl rfl (any_of HT_.out (by kernel_rfl)) (fun _ _ _ h => h) (Or.inl ⟨by rfl, ?_⟩) ?_ ?_
     rotate_left
     ·intro w'
      go_simp
      with_reducible rfl
     rotate_left
     ·simp only [Act.put, List.setIfInBounds_toArray, List.set_cons_zero, List.set_cons_succ, i64_w, i32_w]
      rfl
     refine done_ (done_of HT_.out (by kernel_rfl)) ?_
     try go_wp2
     go_ret
     exact ⟨by first | rfl | (simp [errW_none, errW_some] <;> rfl) | (simp only [← hji4]; first | rfl | (simp [errW_none, errW_some] <;> rfl)) | (simp [*, errW_none, errW_some] <;> rfl), bb⟩
    ·rw [if_neg c11] at H
     have c11b0 : (t378.toList == t379.toList) = false := beq_eq_false_iff_ne.mpr c11
     have c11b1 : (t378.toList != t379.toList) = true := bne_iff_ne.mpr c11
     exact absurd ((Option.some.inj H).trans hT_.out) (by decide)
   ·replace c8 := Bool.eq_false_iff.mpr c8
    subst c8
    have H1 : (some false) = some r := by rw [if_neg (show ¬ (false = true) by decide)] at H; exact H
    clear H
    have H := H1
    clear H1
    exact absurd ((Option.some.inj H).trans hT_.out) (by decide)
  ·rw [if_neg c6] at H
   exact absurd H (by simp)
 ·rw [if_neg c5] at H
  exact absurd H (by simp)

end Go.Proofs.YtpbnfnaebdmagaaDoor.PT
namespace Go.Proofs.YtpbnfnaebdmagaaDoor.Pv
set_option linter.unusedVariables false
set_option linter.unusedSimpArgs false
open Go Go.RowKit Go.Proofs.YtpbnfnaebdmagaaDoor.Plain Go.Proofs.YtpbnfnaebdmagaaDoor.WordsA Go.Proofs.YtpbnfnaebdmagaaDoor.Pk Go.Proofs.YtpbnfnaebdmagaaDoor.Vs Go.Proofs.YtpbnfnaebdmagaaDoor.PT Go.Proofs.YtpbnfnaebdmagaaDoorW.PrintWords Go.Proofs.YtpbnfnaebdmagaaDoorW.PrintLast Go.Proofs.YtpbnfnaebdmagaaDoorW.PrintMore
theorem rnum_loop : ∀ (m k : Nat) (n : Int), 0 ≤ n → n < 256 ^ m → m ≤ 8 → m < k → precinctref02_number.l0 k (strOfNums (puts m n)) = some (strOfNums [1, (wdl 9 n : Int)] ++ strOfNums (puts (wdl 9 n) n))
  | _, 0, _, _, _, _, h => absurd h (by omega)
  | 0, k + 1, n, h0, h1, _, _ => by
    obtain rfl : n = 0 := by simp at h1; omega
    have hz : (strOfNums (puts 0 0)).size = 0 := rfl
    simp only [precinctref02_number.l0]
    rw [if_neg (by rw [hz]; decide), hz, wdl_zero]
    rfl
  | m + 1, k + 1, n, h0, h1, hm, hk => by
    have hp : (0 : Int) < 256 ^ m := Int.pow_pos (by decide)
    have hsz : (strOfNums (puts (m + 1) n)).size = m + 1 := by rw [size_strOfNums, puts_length]
    have hd : n / 256 ^ m % 256 = n / 256 ^ m := by
      rw [Int.pow_succ] at h1
      have g1 : 0 ≤ n / 256 ^ m := Int.ediv_nonneg h0 (by omega)
      have g2 : n / 256 ^ m < 256 := Int.ediv_lt_of_lt_mul hp (by rw [Int.mul_comm]; exact h1)
      omega
    have hb : bt (strOfNums (puts (m + 1) n)) 0 = n / 256 ^ m := by
      have := bt_nums (puts (m + 1) n) 0 (by rw [puts_length]; omega) (puts_byte (m + 1) n)
      rw [puts_front] at this ⊢
      rw [show ((0 : Nat) : Int) = 0 from rfl] at this
      rw [this]; simpa using hd
    simp only [precinctref02_number.l0]
    rw [if_pos (by omega), if_pos (by omega), hb]
    by_cases c : n / 256 ^ m = 0
    · have hlt : n < 256 ^ m := by
        have := Int.emod_add_mul_ediv n (256 ^ m)
        rw [c] at this
        have := Int.emod_lt_of_pos n hp
        omega
      rw [if_pos c, if_pos (by omega), puts_front, nums_cut]
      exact rnum_loop m k n h0 hlt (by omega) (by omega)
    · have hge : 256 ^ m ≤ n := by
        rcases Int.lt_or_le n (256 ^ m) with h | h
        · exact absurd (Int.ediv_eq_zero_of_lt h0 h) c
        · exact h
      have hw : wdl 9 n = m + 1 := wdl_eq m 9 n hge h1 (by omega)
      rw [if_neg c, hw, Option.bind_some, hsz]
      have h2 : (strOfNums [1, (m + 1 : Nat) % 256]).size = 2 := rfl
      have h3 : (((m + 1 : Nat) : Int)) % 256 = ((m + 1 : Nat) : Int) := by omega
      rw [h3]
      have h4 : (strOfNums [1, ((m + 1 : Nat) : Int)]).size = 2 := rfl
      rw [if_pos (by omega)]
theorem rnum_some {b : Int} (k : Nat) (h : -9223372036854775808 ≤ b ∧ b ≤ 9223372036854775807) (hk : 12 ≤ k) : precinctref02_number.f k b = some (intB b) := by
  have r := foldR_range h
  unfold precinctref02_number.f
  rw [rfold_some h.1 h.2, Option.bind_some]
  rw [show (if 0 ≤ b then 2 * b else -2 * b - 1) = foldR b from rfl]
  rw [rput_some k r.1 r.2 (by omega), Option.bind_some]
  have e : put 8 (foldR b) = strOfNums (puts 8 (foldR b)) := rfl
  rw [e, rnum_loop 8 k (foldR b) r.1 (by have : (256 : Int) ^ 8 = 18446744073709551616 := by decide
                                         omega) (by omega) (by omega), intB_eq b h]
theorem rone_le {a b : Int} {c : ByteArray} {l : List W} {d : Int} {K K' : Nat} (h : K ≤ K') {r} (e : precinctref02_one.f K a b c l d = some r) : precinctref02_one.f K' a b c l d = some r := up_le (fun k => precinctref02_one.mono a b c l d k) h e
abbrev shown (t : ByteArray × Int) : ByteArray × Int := (if t.2 = 0 then t.1 else (⟨#[]⟩ : ByteArray), t.2)
/-- the bytes of those from i on -/
theorem rone_loop (l : List V) (d : Int) (hl : l.length ≤ 256) (h0 : 0 ≤ d) (h1 : d < 8) (x0 x1 : Int) (x2 : ByteArray) (K : Nat) (hK : ∀ x ∈ l, (putV x (d + 1)).1.size ≤ 140737488355328 → precinctref02_one.f K (toW x).f0 (toW x).f1 (toW x).f2 (toW x).f3 (d + 1) = some (shown (putV x (d + 1)))) :
    ∀ (n : Nat) (i : Nat) (s : ByteArray), i + n = l.length → s.size + (putVs (l.drop i) (d + 1)).1.size ≤ 140737488355328 →
      precinctref02_one.l0 (K + n + 1) d s i x0 x1 x2 (toWs l) = some (if (putVs (l.drop i) (d + 1)).2 = 0 then s ++ (putVs (l.drop i) (d + 1)).1 else (⟨#[]⟩ : ByteArray), (putVs (l.drop i) (d + 1)).2)
  | 0, i, s, hi, hs => by
    have hw : (toWs l).length = l.length := by rw [toWs_map, List.length_map]
    have hd : l.drop i = [] := List.drop_eq_nil_of_le (by omega)
    simp only [precinctref02_one.l0]
    rw [if_neg (by omega), hd]
    simp only [putVs, if_true]
    rw [show s ++ (⟨#[]⟩ : ByteArray) = s from ByteArray.append_empty]
  | n + 1, i, s, hi, hs => by
    have hw : (toWs l).length = l.length := by rw [toWs_map, List.length_map]
    have hil : i < l.length := by omega
    have ⟨hm, he⟩ := rdV l (i : Int) (by omega) (by omega)
    have hx : rd_T51 l (i : Int) = l[i] := by
      unfold rd_T51
      rw [Int.toNat_natCast, List.getD_eq_getElem?_getD, List.getElem?_eq_getElem hil, Option.getD_some]
    have hd : l.drop i = l[i] :: l.drop (i + 1) := List.drop_eq_getElem_cons hil
    rw [hx] at hm he
    rw [hd] at hs ⊢
    have e1 : wrap64 (d + 1) = d + 1 := by unfold wrap64; omega
    have e2 : wrap64 ((i : Int) + 1) = ((i + 1 : Nat) : Int) := by unfold wrap64; omega
    rw [show K + (n + 1) + 1 = (K + n + 1) + 1 by omega]
    generalize hq : K + n + 1 = q
    simp only [precinctref02_one.l0]
    rw [if_pos (by omega), if_pos (by omega), he, e1, e2]
    by_cases c : (putV l[i] (d + 1)).2 = 0
    · have hP : putVs (l[i] :: l.drop (i + 1)) (d + 1) = ((putV l[i] (d + 1)).1 ++ (putVs (l.drop (i + 1)) (d + 1)).1, (putVs (l.drop (i + 1)) (d + 1)).2) := by simp only [putVs]; rw [if_pos c]
      rw [hP] at hs ⊢
      have hs' : s.size + ((putV l[i] (d + 1)).1.size + (putVs (l.drop (i + 1)) (d + 1)).1.size) ≤ 140737488355328 := by rw [← size_app]; exact hs
      rw [rone_le (show K ≤ q by omega) (hK _ hm (by omega)), Option.bind_some, if_pos c]
      simp only [shown, if_pos c]
      rw [if_pos (by omega)]
      rw [← hq, rone_loop l d hl h0 h1 x0 x1 x2 K hK n (i + 1) (s ++ (putV l[i] (d + 1)).1) (by omega) (by rw [size_app]; omega)]
      rw [ByteArray.append_assoc]
    · have hP : putVs (l[i] :: l.drop (i + 1)) (d + 1) = ((putV l[i] (d + 1)).1, (putV l[i] (d + 1)).2) := by simp only [putVs]; rw [if_neg c]
      rw [hP] at hs ⊢
      have hsx : (putV l[i] (d + 1)).1.size ≤ 140737488355328 := by
        have h : s.size + (putV l[i] (d + 1)).1.size ≤ 140737488355328 := hs
        omega
      rw [rone_le (show K ≤ q by omega) (hK _ hm hsx), Option.bind_some, if_neg c]
      simp only [shown, if_neg c]
theorem rone_some : ∀ (x : V) (d : Int), 0 ≤ d → d ≤ 8 → Wf x → ∃ K, (putV x d).1.size ≤ 140737488355328 → precinctref02_one.f K (toW x).f0 (toW x).f1 (toW x).f2 (toW x).f3 d = some (shown (putV x d)) := by
  refine V_ind (fun a b c l ih d h0 h1 hw => ?_)
  simp only [Wf, Wfs_iff] at hw
  have hwl : (toWs l).length = l.length := by rw [toWs_map, List.length_map]
  have hTW : toW ⟨a, b, c, l⟩ = ⟨a, b, c, toWs l⟩ := by simp only [toW]
  rw [hTW]
  show ∃ K, (putV ⟨a, b, c, l⟩ d).1.size ≤ 140737488355328 → precinctref02_one.f K a b c (toWs l) d = some (shown (putV ⟨a, b, c, l⟩ d))
  by_cases c0 : a = 0
  · refine ⟨20, fun _ => ?_⟩
    have hP : putV ⟨a, b, c, l⟩ d = (intB b, 0) := by simp only [putV]; rw [if_pos c0]
    rw [hP]
    simp only [precinctref02_one.f]
    rw [if_pos c0, rnum_some 19 hw.1 (by omega)]
    rfl
  by_cases c1 : a = 1
  · refine ⟨20, fun _ => ?_⟩
    by_cases c2 : (c.size : Int) > 4096
    · have hP : putV ⟨a, b, c, l⟩ d = (⟨#[]⟩, 5) := by simp only [putV]; rw [if_neg c0, if_pos c1, if_pos c2]
      rw [hP]
      simp only [precinctref02_one.f]
      rw [if_neg c0, if_pos c1, if_pos c2]; rfl
    · have hP : putV ⟨a, b, c, l⟩ d = ((⟨#[2]⟩ : ByteArray) ++ (textR c).1, 0) := by simp only [putV]; rw [if_neg c0, if_pos c1, if_neg c2]
      have ht : textR c = (put 2 c.size ++ c, 0) := by unfold textR; rw [if_neg (by omega)]
      have hz : (put 2 c.size ++ c).size = 2 + c.size := by rw [size_app, size_put]; rfl
      rw [hP]
      simp only [precinctref02_one.f]
      rw [if_neg c0, if_pos c1, if_neg c2, rtext_some 19 (by omega) (by omega), Option.bind_some, ht]
      rw [if_pos (by show 1 + (put 2 c.size ++ c).size ≤ _; omega)]
      rfl
  by_cases c2 : a = 2
  · by_cases c3 : (l.length : Int) > 256
    · refine ⟨20, fun _ => ?_⟩
      have hP : putV ⟨a, b, c, l⟩ d = (⟨#[]⟩, 5) := by simp only [putV]; rw [if_neg c0, if_neg c1, if_pos c2, if_pos c3]
      rw [hP]
      simp only [precinctref02_one.f, precinctref02_one.j0]
      rw [if_neg c0, if_neg c1, if_pos c2, if_pos (by rw [hwl]; exact c3)]
      rfl
    by_cases c4 : d ≥ 8
    · refine ⟨20, fun _ => ?_⟩
      have hP : putV ⟨a, b, c, l⟩ d = (⟨#[]⟩, 5) := by simp only [putV]; rw [if_neg c0, if_neg c1, if_pos c2, if_neg c3, if_pos c4]
      rw [hP]
      simp only [precinctref02_one.f, precinctref02_one.j0]
      rw [if_neg c0, if_neg c1, if_pos c2, if_neg (by rw [hwl]; exact c3), if_pos (decide_eq_true c4)]
      rfl
    obtain ⟨K, hK⟩ := up_all (Q := fun K x => (putV x (d + 1)).1.size ≤ 140737488355328 → precinctref02_one.f K (toW x).f0 (toW x).f1 (toW x).f2 (toW x).f3 (d + 1) = some (shown (putV x (d + 1)))) (fun K K' x h e hs => rone_le h (e hs)) l (fun x hx => ih x hx (d + 1) (by omega) (by omega) (hw.2 x hx))
    refine ⟨max 20 (K + l.length + 1) + 2, fun hs => ?_⟩
    have hP : putV ⟨a, b, c, l⟩ d = (headB l.length (putVs l (d + 1)).1, (putVs l (d + 1)).2) := by simp only [putV]; rw [if_neg c0, if_neg c1, if_pos c2, if_neg c3, if_neg c4]
    rw [hP] at hs ⊢
    have hs2 : (headB l.length (putVs l (d + 1)).1).size ≤ 140737488355328 := hs
    have hz3 : ((⟨#[3]⟩ : ByteArray) ++ put 2 (l.length : Int)).size = 3 := by rw [size_app, size_put]; rfl
    unfold headB at hs2
    rw [size_app, hz3] at hs2
    have hu : IntKind.u64.wrap (l.length : Int) = (l.length : Int) := by rw [wu64]; omega
    have hL := rone_loop l d (by omega) h0 (by omega) a b c K hK l.length 0 ((⟨#[3]⟩ : ByteArray) ++ put 2 (l.length : Int)) (by omega) (by rw [hz3, List.drop_zero]; exact hs2)
    rw [List.drop_zero] at hL
    have hL2 := up_le (f := fun k => precinctref02_one.l0 k d ((⟨#[3]⟩ : ByteArray) ++ put 2 (l.length : Int)) ((0 : Nat) : Int) a b c (toWs l)) (fun k => (precinctref02_one.mono_l k).2.2 _ _ _ _ _ _ _) (show K + l.length + 1 ≤ max 20 (K + l.length + 1) by omega) hL
    have hq20 : 20 ≤ max 20 (K + l.length + 1) := Nat.le_max_left _ _
    generalize max 20 (K + l.length + 1) = q at hL2 hq20 ⊢
    simp only [precinctref02_one.f, precinctref02_one.j0]
    rw [if_neg c0, if_neg c1, if_pos c2, if_neg (by rw [hwl]; exact c3), if_neg (by simpa using c4), hwl, hu]
    rw [rput_some _ (by omega) (by omega) (by omega), Option.bind_some, if_pos (by rw [size_put]; omega)]
    exact hL2
  · refine ⟨20, fun _ => ?_⟩
    have hP : putV ⟨a, b, c, l⟩ d = (⟨#[]⟩, 2) := by simp only [putV]; rw [if_neg c0, if_neg c1, if_neg c2]
    rw [hP]
    simp only [precinctref02_one.f]
    rw [if_neg c0, if_neg c1, if_neg c2]
    rfl
theorem refPut_some (x : V) (hw : Wf x) (hs : (putV x 0).1.size ≤ 140737488355328) : ∃ K, ∀ k, K ≤ k → precinctref02_Put.f k (toW x).f0 (toW x).f1 (toW x).f2 (toW x).f3 = some (shown (putV x 0)) := by
  obtain ⟨K, hK⟩ := rone_some x 0 (by omega) (by omega) hw
  refine ⟨K, fun k hk => ?_⟩
  unfold precinctref02_Put.f
  rw [rone_le hk (hK hs)]
  rfl
end Go.Proofs.YtpbnfnaebdmagaaDoor.Pv
namespace Go.Proofs.YtpbnfnaebdmagaaDoor.Dv
set_option linter.unusedVariables false
set_option linter.unusedSimpArgs false
open Go Go.RowKit Go.Proofs.YtpbnfnaebdmagaaDoor.Plain Go.Proofs.YtpbnfnaebdmagaaDoor.Vs Go.Proofs.YtpbnfnaebdmagaaDoor.Pv Go.Proofs.YtpbnfnaebdmagaaDoor.PT Go.Proofs.YtpbnfnaebdmagaaDoorW.PrintWords Go.Proofs.YtpbnfnaebdmagaaDoorW.PrintLast Go.Proofs.YtpbnfnaebdmagaaDoorW.PrintMore
def derV (p : ByteArray) (n : Int) : V := ⟨2, 0, ⟨#[]⟩, [⟨1, 0, p, []⟩, ⟨0, n, ⟨#[]⟩, []⟩]⟩
def derB (key p : ByteArray) (n : Int) : ByteArray := if (putV (derV p n) 0).2 = 0 then Sha.tagK key (putV (derV p n) 0).1 else ⟨#[]⟩
theorem derV_wf {p : ByteArray} {n : Int} (hn : -9223372036854775808 ≤ n ∧ n ≤ 9223372036854775807) : Wf (derV p n) := by
  unfold derV
  simp only [Wf, Wfs, and_true]
  refine ⟨by omega, by omega, hn⟩
theorem derV_size (p : ByteArray) (n : Int) : (putV (derV p n) 0).1.size ≤ 100000 := by
  have h1 := size_putV (derV p n) 0
  have h2 : nodes (derV p n) ≤ 3 := by unfold derV; simp only [nodes, nodess]; omega
  omega
theorem all_some {l : List V} (h : l.length < 2513169434916) : pack_All.f l = some (2, 0, ⟨#[]⟩, l) := by
  unfold pack_All.f pack_Value_39.f
  simp only [Option.bind_some, List.nil_append, List.length_nil]
  rw [if_pos (by omega), Option.bind_some]
theorem derive_some {key p : ByteArray} {n : Int} (hk : key.size ≤ 281474976710000) (hn : -9223372036854775808 ≤ n ∧ n ≤ 9223372036854775807) : ∃ K, ∀ k, K ≤ k → mac_Derive.f k key p n = some (derB key p n) := by
  have hs := derV_size p n
  obtain ⟨K, hK⟩ := packPut_some (derV p n) (derV_wf hn) (by omega)
  refine ⟨K, fun k hk' => ?_⟩
  have e := hK k hk'
  have e' : Go.Proofs.YtpbnfnaebdmagaaDoor.PT.pack_Put.f k 2 0 ⟨#[]⟩ [⟨1, 0, p, []⟩, ⟨0, n, ⟨#[]⟩, []⟩] = _ := e
  unfold mac_Derive.f pack_Str.f pack_Num.f
  simp only [Option.bind_some]
  rw [all_some (by simp)]
  simp only [Option.bind_some]
  rw [e', Option.bind_some]
  unfold derB
  by_cases h0 : (putV (derV p n) 0).2 = 0
  · simp only [h0, if_true]
    unfold mac_Tag.f
    rw [if_pos ⟨hk, by omega⟩]; rfl
  · simp only [h0, if_false]
theorem rderive_some {key p : ByteArray} {n : Int} (hk : key.size ≤ 281474976710000) (hn : -9223372036854775808 ≤ n ∧ n ≤ 9223372036854775807) : ∃ K, ∀ k, K ≤ k → precinctref05_Derive.f k key p n = some (derB key p n) := by
  have hs := derV_size p n
  obtain ⟨K, hK⟩ := refPut_some (derV p n) (derV_wf hn) (by omega)
  refine ⟨K, fun k hk' => ?_⟩
  have e := hK k hk'
  have e' : precinctref02_Put.f k 2 0 ⟨#[]⟩ [⟨1, 0, p, []⟩, ⟨0, n, ⟨#[]⟩, []⟩] = _ := e
  unfold precinctref05_Derive.f derive
  rw [e', Option.bind_some]
  unfold derB
  by_cases h0 : (putV (derV p n) 0).2 = 0
  · simp only [h0, if_true]
    unfold precinctref05_Tag.f
    rw [if_pos ⟨hk, by omega⟩]
  · simp only [h0, if_false]
end Go.Proofs.YtpbnfnaebdmagaaDoor.Dv
namespace Go.Proofs.YtpbnfnaebdmagaaDoor.Tk
set_option linter.unusedVariables false
set_option linter.unusedSimpArgs false
open Go Go.RowKit Go.Proofs.YtpbnfnaebdmagaaDoor.Plain Go.Proofs.YtpbnfnaebdmagaaDoor.Vs Go.Proofs.YtpbnfnaebdmagaaDoor.Pv Go.Proofs.YtpbnfnaebdmagaaDoor.PT Go.Proofs.YtpbnfnaebdmagaaDoorW.PrintWords Go.Proofs.YtpbnfnaebdmagaaDoorW.PrintLast Go.Proofs.YtpbnfnaebdmagaaDoorW.PrintMore
theorem rmint_some {key : ByteArray} {a b c d : Int} (hk : key.size ≤ 281474976710000) (ha : i64 a) (hb : i64 b) (hc : i64 c) (hd : i64 d) : ∃ K, ∀ k, K ≤ k → precinctref09_Mint.f k key a b c d = some (mintR key a b c d) := by
  have hs := tok_size a b c d
  have ht := Sha.tagK_size key (tokB a b c d)
  obtain ⟨K, hK⟩ := refPut_some (tokV a b c d) (tok_wf ha hb hc hd) (by unfold tokB at hs; omega)
  refine ⟨K, fun k hk' => ?_⟩
  have e := hK k hk'
  have e1 : shown (putV (tokV a b c d) 0) = (tokB a b c d, 0) := by
    show (if (putV (tokV a b c d) 0).2 = 0 then (putV (tokV a b c d) 0).1 else (⟨#[]⟩ : ByteArray), (putV (tokV a b c d) 0).2) = _
    rw [tok_ok, if_pos rfl]
    rfl
  rw [e1] at e
  have e' : precinctref02_Put.f k 2 0 ⟨#[]⟩ [⟨0, a, ⟨#[]⟩, []⟩, ⟨0, b, ⟨#[]⟩, []⟩, ⟨0, c, ⟨#[]⟩, []⟩, ⟨0, d, ⟨#[]⟩, []⟩] = some (tokB a b c d, 0) := e
  unfold precinctref09_Mint.f precinctref09_Bytes.f Rb9.bytes9
  rw [e', Option.bind_some, Option.bind_some]
  show ((precinctref05_Tag.f key (tokB a b c d)).bind fun t => if (tokB a b c d).size + t.size ≤ 9223372036854775807 then some (tokB a b c d ++ t) else none) = _
  unfold precinctref05_Tag.f
  rw [if_pos ⟨hk, by omega⟩, Option.bind_some, if_pos (by omega)]
  rfl
theorem mints_pure (a0 : ByteArray) (a b c d n : Int) (h0 : a0.size ≤ 140737488351232) (ha : i64 a) (hb : i64 b) (hc : i64 c) (hd : i64 d) (hn : i64 n) : ∃ k, precinctlaw09_TokenMints.f k a0 a b c d n = some true := by
  have m0 : 0 ≤ mn (a0.size : Int) 500 ∧ mn (a0.size : Int) 500 ≤ 500 ∧ mn (a0.size : Int) 500 ≤ a0.size := by unfold mn; split <;> omega
  have hz : (a0.extract 0 ((mn (a0.size : Int) 500) : Int).toNat).size ≤ 281474976710000 := by rw [ByteArray.size_extract]; omega
  obtain ⟨K1, e1⟩ := wakes_some
  obtain ⟨K2, e2⟩ := mint_some hz ha hb hc hd
  obtain ⟨K3, e3⟩ := rmint_some hz ha hb hc hd
  obtain ⟨K4, e4⟩ := Dv.derive_some (p := ⟨#[116, 101, 110, 97, 110, 116]⟩) (n := n) hz hn
  obtain ⟨K5, e5⟩ := Dv.rderive_some (p := ⟨#[116, 101, 110, 97, 110, 116]⟩) (n := n) hz hn
  refine ⟨max K1 (max K2 (max K3 (max K4 K5))), ?_⟩
  unfold precinctlaw09_TokenMints.f token_Key.f precinctref09_Key.f
  rw [if_pos m0.1, if_pos m0.2.2, e1 _ (by omega), Option.bind_some, if_pos rfl, e2 _ (by omega), Option.bind_some, e3 _ (by omega), Option.bind_some, if_pos rfl, e4 _ (by omega), e5 _ (by omega)]
  simp
theorem mints_walk (a0 : ByteArray) (a b c d n : Int) (w : World) (HT : Sha.Tab w) (h0 : a0.size ≤ 140737488351232) (ha : (Lit.int .i64 a).wf = true) (hb : (Lit.int .i64 b).wf = true) (hc : (Lit.int .i64 c).wf = true) (hd : (Lit.int .i64 d).wf = true) (hn : (Lit.int .i64 n).wf = true) :
    Calls Tryd.prog 4 #[.string a0, .agg #[.int .i64 a, .int .i64 b, .int .i64 c, .int .i64 d], .int .i64 n] w fun e w' => e = .returned (.bool true) ∧ Below w.heap.size w w' := by
  obtain ⟨k, h⟩ := mints_pure a0 a b c d n h0 (wf_i64 ha) (wf_i64 hb) (wf_i64 hc) (wf_i64 hd) (wf_i64 hn)
  have HTab := Aside0.mk HT
  exact precinctlaw09_TokenMints.calls k a0 a b c d n true w ⟨rfl⟩ h HTab
end Go.Proofs.YtpbnfnaebdmagaaDoor.Tk
