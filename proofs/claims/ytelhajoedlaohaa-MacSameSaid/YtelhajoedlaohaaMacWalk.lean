/-
  The law MacSame, walked.
-/
import Derived.Test.YtelhajoedlaohaaPMx1
import Derived.Test.YtelhajoedlaohaaMacSame
import Derived.Tactics
import Derived.Tactics2
namespace Go.Proofs.Ytelhajoedlaohaa.Ms
set_option linter.unusedVariables false
set_option linter.unusedSimpArgs false
open Go Go.RowKit Go.Proofs.Ytelhajoedlaohaa.Plain Go.Proofs.Ytelhajoedlaohaa.PM Go.Proofs.YtelhajoedlaohaaW.PrintWords Go.Proofs.YtelhajoedlaohaaW.PrintLast Go.Proofs.YtelhajoedlaohaaW.PrintMore
attribute [local go_sem] max2_int min2_int max_two min_two max_three min_three max_four min_four
set_option maxHeartbeats 8000000 in
set_option maxRecDepth 100000 in
theorem law_walk (k : Nat) (a b : ByteArray) (at_ : Int) (t : Bool) (w : World) (sa : a.size ≤ 140737488351232)
    (A1 : Aside0 (mac_Same.f k ⟨#[97]⟩ ⟨#[97]⟩ = some true)) (A2 : Aside0 (mac_Same.f k a b = some t)) (A3 : Aside0 (precinctref05_Same.f a b = some t)) (A4 : Aside0 (mac_Same.f k a a = some true)) (A5 : Aside0 (mac_Same.f k a (a ++ ⟨#[0]⟩) = some false)) (A6 : Aside0 (mac_Same.f k (⟨#[0]⟩ ++ a) a = some false))
    (A7 : Aside0 (∀ i : Nat, i < a.size → mac_Same.f k a (flip a i) = some false)) (A8 : Aside0 (∀ i : Nat, i < a.size → mac_Same.f k (flip a i) a = some false)) :
    Calls Try.prog 3 #[.string a, .string b, .int .i64 at_] w fun e w' => e = .returned (.bool true) ∧ Below w.heap.size w w' := by
  have HB := Aside0.mk (Below.refl w.heap.size w)
  have kb := fun W => print_bytes (P := Try.prog) 9 23 5 Try.underlying9 Try.underlying23 Try.underlying5 a W
  cases t
  all_goals
    go_enter Try.func3, Try.ntmps3
    go_upto_region 3 with (first | ((with_reducible refine gate_callee (f := 10) rfl ?_); refine goesL_ (some 8) rfl rfl Try.func10 (by kernel_rfl) rfl #[.string ⟨#[97]⟩, .string ⟨#[97]⟩] rfl (by (try simp only [List.map_toArray, List.map_cons, List.map_nil]); first | done | rfl) ?_; (with_reducible refine (mac_Same.calls k _ _ true _ A1.out).mono ?_); rintro e w8 ⟨rfl, hb⟩; refine ⟨_, rfl, ?_⟩; have n0_ := Aside0.mk (below_step (by repeat (first | (with_reducible first | exact HB.out | apply below_alloc | apply pw_below_drewN | apply below_drew1) | exact HB.out)) hb); clear HB; have HB := n0_; clear n0_; (try clear hb)) | (go_at_call 10; (with_reducible refine (mac_Same.calls k _ _ _ _ A2.out).mono ?_); rintro e w13 ⟨rfl, hb⟩; have n0_ := Aside0.mk (below_step (by repeat (first | (with_reducible first | exact HB.out | apply below_alloc | apply pw_below_drewN | apply below_drew1) | exact HB.out)) hb); clear HB; have HB := n0_; clear n0_; (try clear hb)) | (go_at_call 11; (with_reducible refine (precinctref05_Same.calls a b _ _ A3.out).mono ?_); rintro e w16 ⟨rfl, hb⟩; have n0_ := Aside0.mk (below_step (by repeat (first | (with_reducible first | exact HB.out | apply below_alloc | apply pw_below_drewN | apply below_drew1) | exact HB.out)) hb.below); clear HB; have HB := n0_; clear n0_; (try clear hb)) | (go_at_call 10; (with_reducible refine (mac_Same.calls k _ _ true _ A4.out).mono ?_); rintro e w22 ⟨rfl, hb⟩; have n0_ := Aside0.mk (below_step (by repeat (first | (with_reducible first | exact HB.out | apply below_alloc | apply pw_below_drewN | apply below_drew1) | exact HB.out)) hb); clear HB; have HB := n0_; clear n0_; (try clear hb)) | (go_at_call 10; (with_reducible refine (mac_Same.calls k _ _ false _ A5.out).mono ?_); rintro e w29 ⟨rfl, hb⟩; have n0_ := Aside0.mk (below_step (by repeat (first | (with_reducible first | exact HB.out | apply below_alloc | apply pw_below_drewN | apply below_drew1) | exact HB.out)) hb); clear HB; have HB := n0_; clear n0_; (try clear hb)) | (go_at_call 10; (with_reducible refine (mac_Same.calls k _ _ false _ A6.out).mono ?_); rintro e w35 ⟨rfl, hb⟩; have n0_ := Aside0.mk (below_step (by repeat (first | (with_reducible first | exact HB.out | apply below_alloc | apply pw_below_drewN | apply below_drew1) | exact HB.out)) hb); clear HB; have HB := n0_; clear n0_; (try clear hb)))
  all_goals
    by_cases c9 : a.toList.isEmpty = true
    · go_wp2
      go_ret
      exact ⟨rfl, HB.out⟩
    · have c9 : a.toList.isEmpty = false := Bool.eq_false_iff.mpr c9
      go_upto_region 6 with fail
      have HB2 : Below w.heap.size w (Lib.bytesWorld w35 5 a) := bytes_below HB.out (below_size HB.out) 5 a
      have hn : a.size ≠ 0 := fun h0 => by
        have hl : a.data.toList.length = a.size := Array.length_toList
        have he : a.toList = [] := by rw [toList_data]; exact List.eq_nil_of_length_eq_zero (by omega)
        rw [he] at c9
        exact absurd c9 (by decide)
      obtain ⟨m, hm_, hm0⟩ : ∃ m : Int, (if (0 : Int) < at_ then at_ else 0) = m ∧ 0 ≤ m := ⟨_, rfl, by split <;> omega⟩
      obtain ⟨i, hi, hlt⟩ : ∃ i : Nat, Int.tmod m (a.size : Int) = (i : Int) ∧ i < a.size := by
        refine ⟨(Int.tmod m (a.size : Int)).toNat, ?_, ?_⟩
        · have := Int.tmod_nonneg (a.size : Int) hm0; omega
        · have := Int.tmod_lt_of_pos m (show (0 : Int) < (a.size : Int) by omega)
          have := Int.tmod_nonneg (a.size : Int) hm0
          omega
      have hr := bytes_reads w35 5 a (by omega)
      have hcell : (Lib.bytesWorld w35 5 a).cell? ⟨w35.heap.size, i, none⟩ = some (.int .u8 (bt a i)) := by
        rw [Lib.bytesWorld_cell w35 5 a i hlt]
        have hl : a.data.toList.length = a.size := Array.length_toList
        rw [bt_nat a i (by omega), List.getD_eq_getElem?_getD, List.getElem?_eq_getElem (by omega), Option.getD_some]
      have hfz : (Lib.bytesWorld w35 5 a).frozen? ⟨w35.heap.size, i, none⟩ = false := by
        have hsz : i < (Lib.bytesCells w35 5 a).size := by simp [Lib.bytesCells]; omega
        simp [World.frozen?, Lib.bytesWorld_at_new]
        omega
      generalize Lib.bytesWorld w35 5 a = W at HB2 hr hcell hfz ⊢
      have hi0 : (0 : Int) ≤ (i : Int) := by omega
      have hi1 : (i : Int) < (a.size : Int) := by omega
      have hn0 : ¬ (a.size : Int) = 0 := by omega
      go_upto_region 7 with fail
      have hr2 := reads_set hr i hlt (bits .xor .u8 (bt a i) 1) hcell
      have HB3 : Below w.heap.size w (W.setCell ⟨w35.heap.size, i, none⟩ (.int .u8 (bits .xor .u8 (bt a i) 1))) := HB2.setCell (below_size HB.out) _
      generalize W.setCell ⟨w35.heap.size, i, none⟩ (.int .u8 (bits .xor .u8 (bt a i) 1)) = W2 at hr2 HB3 ⊢
      have ks0 := string_of_reads (P := Try.prog) Try.underlying23 Try.underlying5 Try.underlying9 hr2 (c := grownCap w35 a.size 0 5)
      have B7 := Aside0.mk (A7.out i hlt)
      have B8 := Aside0.mk (A8.out i hlt)
      unfold flip at B7 B8
      generalize hcs : strOfNums ((bytesOf a).set i (bits .xor .u8 (bt a i) 1)) = c at ks0 B7 B8
      have HB := Aside0.mk HB3
      have hr3 := Aside0.mk hr2
      go_wp2_with (first | ((with_reducible refine gate_callee (f := 10) rfl ?_); refine goesL_ (some 54) rfl rfl Try.func10 (by kernel_rfl) rfl #[.string a, .string c] rfl (by (try simp only [List.map_toArray, List.map_cons, List.map_nil]); first | done | rfl) ?_; (with_reducible refine (mac_Same.calls k _ _ false _ B7.out).mono ?_); rintro e w54 ⟨rfl, hb⟩; refine ⟨_, rfl, ?_⟩; have n0_ := Aside0.mk (below_step HB.out hb); clear HB; have HB := n0_; clear n0_; have ks1 := string_of_reads (P := Try.prog) Try.underlying23 Try.underlying5 Try.underlying9 (hr3.out.below hb) (c := grownCap w35 a.size 0 5); rw [hcs] at ks1; (try clear hb)) | (go_at_call 10; (with_reducible refine (mac_Same.calls k _ _ false _ B8.out).mono ?_); rintro e w60 ⟨rfl, hb⟩; have n0_ := Aside0.mk (below_step (by repeat (first | (with_reducible first | exact HB.out | apply below_alloc | apply pw_below_drewN | apply below_drew1) | exact HB.out)) hb); clear HB; have HB := n0_; clear n0_; (try clear hb)))
      go_ret
      exact ⟨rfl, HB.out⟩
end Go.Proofs.Ytelhajoedlaohaa.Ms
