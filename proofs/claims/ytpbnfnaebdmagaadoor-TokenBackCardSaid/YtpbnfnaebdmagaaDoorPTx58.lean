-- printed by a program of this session out of the translation; see NOTES.md
import Derived.Test.YtpbnfnaebdmagaaDoorH1
import Derived.Test.YtpbnfnaebdmagaaDoorH4
import Derived.Test.YtpbnfnaebdmagaaDoorPTx55
import Derived.Test.YtpbnfnaebdmagaaDoorH0
namespace Go.Proofs.YtpbnfnaebdmagaaDoor.PT
open Go.RowKit Go.Proofs.YtpbnfnaebdmagaaDoorW.PrintWords Go.Proofs.YtpbnfnaebdmagaaDoorW.PrintLast Go.Proofs.YtpbnfnaebdmagaaDoorW.PrintMore Go.Proofs.YtpbnfnaebdmagaaDoorRb
attribute [local go_sem] max2_int min2_int max_two min_two max_three min_three max_four min_four   -- for this text's walks alone
set_option linter.unusedVariables false
set_option linter.unusedSimpArgs false

attribute [local go_sem high] eqA23
/-! ### precinctlaw09_TokenBack: function 6 -/
def precinctlaw09_TokenBack.j0 : Nat → ByteArray → Bool → Int → Int → Int → Int → ByteArray → Int → Int → Option (Bool)
 | 0, _, _, _, _, _, _, _, _, _ => none
 | k + 1, x5, x50, x416000, x416001, x416002, x416003, x417000, x417001, x417002 => if x50 = true then (some false) else (if x417002 = x416002 then (if x417001 > x416003 then ((token_Verify.f k x417000 x5 x417001 x416002).bind fun bt425 => (some (bt425.2.2.2.2 == 21))) else (some true)) else ((token_Verify.f k x417000 x5 (mn x417001 x416003) x417002).bind fun bt431 => (if bt431.2.2.2.2 = 22 then (if x417001 > x416003 then ((token_Verify.f k x417000 x5 x417001 x416002).bind fun bt437 => (some (bt437.2.2.2.2 == 21))) else (some true)) else (some false))))
def precinctlaw09_TokenBack.f (k : Nat) (a0_0 : Int) (a0_1 : Int) (a0_2 : Int) (a0_3 : Int) (a1_0 : ByteArray) (a1_1 : Int) (a1_2 : Int) : Option (Bool) := (token_Mint.f k a1_0 ((mx 0 a0_0) % 2147483648) ((mx 0 a0_1) % 2147483648) a0_2 a0_3).bind fun t417 => ((token_Verify.f k a1_0 t417 (mn a1_1 a0_3) a0_2).bind fun bt418 => ((precinctlaw09_wakes.f k).bind fun t424 => (if t424 = true then (if bt418.2.2.2.2 = 0 then (precinctlaw09_TokenBack.j0 k t417 (!(bt418.1 == ((mx 0 a0_0) % 2147483648)) || (!(bt418.2.1 == ((mx 0 a0_1) % 2147483648)) || (!(bt418.2.2.1 == a0_2) || (!(bt418.2.2.2.1 == a0_3))))) ((mx 0 a0_0) % 2147483648) ((mx 0 a0_1) % 2147483648) a0_2 a0_3 a1_0 a1_1 a1_2) else (precinctlaw09_TokenBack.j0 k t417 true ((mx 0 a0_0) % 2147483648) ((mx 0 a0_1) % 2147483648) a0_2 a0_3 a1_0 a1_1 a1_2)) else (precinctlaw09_TokenBack.j0 k t417 true ((mx 0 a0_0) % 2147483648) ((mx 0 a0_1) % 2147483648) a0_2 a0_3 a1_0 a1_1 a1_2))))
theorem precinctlaw09_TokenBack.mono_l : ∀ k, (∀ y0 y1 y2 y3 y4 y5 y6 y7 y8, LeO (precinctlaw09_TokenBack.j0 k y0 y1 y2 y3 y4 y5 y6 y7 y8) (precinctlaw09_TokenBack.j0 (k + 1) y0 y1 y2 y3 y4 y5 y6 y7 y8))
 | 0 => fun _ _ _ _ _ _ _ _ _ r h => by simp [precinctlaw09_TokenBack.j0] at h
 | k + 1 => by
  have ih0 := precinctlaw09_TokenBack.mono_l k
  ·intro y0 y1 y2 y3 y4 y5 y6 y7 y8
   unfold precinctlaw09_TokenBack.j0
   repeat' first
   | (with_reducible exact ih0 _ _ _ _ _ _ _ _ _)
   | (with_reducible exact precinctlaw09_wakes.mono _)
   | (with_reducible exact token_Mint.mono _ _ _ _ _ _)
   | (with_reducible exact token_Verify.mono _ _ _ _ _)
   | (with_reducible exact LeO.refl _)
   | (with_reducible exact LeO.none _)
   | (with_reducible refine LeO.ite ?_ ?_)
   | (with_reducible refine LeO.bind ?_ (fun _ => ?_))
   | exact ih0 _ _ _ _ _ _ _ _ _
   | exact precinctlaw09_wakes.mono _
   | exact token_Mint.mono _ _ _ _ _ _
   | exact token_Verify.mono _ _ _ _ _
   | exact LeO.none _
   | refine LeO.ite ?_ ?_
   | refine LeO.bind ?_ (fun _ => ?_)
theorem precinctlaw09_TokenBack.mono : ∀ a0 a1 a2 a3 a4 a5 a6 k, LeO (precinctlaw09_TokenBack.f k a0 a1 a2 a3 a4 a5 a6) (precinctlaw09_TokenBack.f (k + 1) a0 a1 a2 a3 a4 a5 a6) := by
 intro a0 a1 a2 a3 a4 a5 a6 k
 have ih0 := precinctlaw09_TokenBack.mono_l k
 unfold precinctlaw09_TokenBack.f
 repeat' first
   | (with_reducible exact ih0 _ _ _ _ _ _ _ _ _)
   | (with_reducible exact precinctlaw09_wakes.mono _)
   | (with_reducible exact token_Mint.mono _ _ _ _ _ _)
   | (with_reducible exact token_Verify.mono _ _ _ _ _)
   | (with_reducible exact LeO.refl _)
   | (with_reducible exact LeO.none _)
   | (with_reducible refine LeO.ite ?_ ?_)
   | (with_reducible refine LeO.bind ?_ (fun _ => ?_))
   | exact ih0 _ _ _ _ _ _ _ _ _
   | exact precinctlaw09_wakes.mono _
   | exact token_Mint.mono _ _ _ _ _ _
   | exact token_Verify.mono _ _ _ _ _
   | exact LeO.none _
   | refine LeO.ite ?_ ?_
   | refine LeO.bind ?_ (fun _ => ?_)
set_option maxHeartbeats 8000000 in
set_option maxRecDepth 100000 in
theorem precinctlaw09_TokenBack.calls (k : Nat) (a0_0 : Int) (a0_1 : Int) (a0_2 : Int) (a0_3 : Int) (a1_0 : ByteArray) (a1_1 : Int) (a1_2 : Int) (r : Bool) (w : World) (hT_ : Aside0 (r = true)) (h : precinctlaw09_TokenBack.f k a0_0 a0_1 a0_2 a0_3 a1_0 a1_1 a1_2 = some r) (HTab : Aside0 (Sha.Tab w) := by first | exact HTab | exact Aside0.mk (HTab.out.step (by repeat (first | (with_reducible first | exact HB.out | apply below_alloc | apply pw_below_drewN | apply below_drew1 | refine below_set ?_ (Aside0.out (by assumption))) | exact HB.out)))) :
  Calls Tryd.prog 6 #[.agg #[.int .i64 a0_0, .int .i64 a0_1, .int .i64 a0_2, .int .i64 a0_3], .agg #[.string a1_0, .int .i64 a1_1, .int .i64 a1_2]] w fun e w' => e = .returned (.bool r) ∧ Below w.heap.size w w' := by
 have hu32 := Tryd.underlying32
 have hu38 := Tryd.underlying38
 have hu23 := Tryd.underlying23
 have HB := Aside0.mk (Below.refl w.heap.size w)
 have H : ((token_Mint.f k a1_0 ((mx 0 a0_0) % 2147483648) ((mx 0 a0_1) % 2147483648) a0_2 a0_3).bind fun t417 => ((token_Verify.f k a1_0 t417 (mn a1_1 a0_3) a0_2).bind fun bt418 => ((precinctlaw09_wakes.f k).bind fun t424 => (if t424 = true then (if bt418.2.2.2.2 = 0 then (precinctlaw09_TokenBack.j0 k t417 (!(bt418.1 == ((mx 0 a0_0) % 2147483648)) || (!(bt418.2.1 == ((mx 0 a0_1) % 2147483648)) || (!(bt418.2.2.1 == a0_2) || (!(bt418.2.2.2.1 == a0_3))))) ((mx 0 a0_0) % 2147483648) ((mx 0 a0_1) % 2147483648) a0_2 a0_3 a1_0 a1_1 a1_2) else (precinctlaw09_TokenBack.j0 k t417 true ((mx 0 a0_0) % 2147483648) ((mx 0 a0_1) % 2147483648) a0_2 a0_3 a1_0 a1_1 a1_2)) else (precinctlaw09_TokenBack.j0 k t417 true ((mx 0 a0_0) % 2147483648) ((mx 0 a0_1) % 2147483648) a0_2 a0_3 a1_0 a1_1 a1_2))))) = some r := h
 clear h
 obtain ⟨ji3, hji3⟩ : ∃ j_ : Int, (mx 0 a0_0) = j_ := ⟨_, rfl⟩
 replace H : ((token_Mint.f k a1_0 ((ji3) % 2147483648) ((mx 0 a0_1) % 2147483648) a0_2 a0_3).bind fun t417 => ((token_Verify.f k a1_0 t417 (mn a1_1 a0_3) a0_2).bind fun bt418 => ((precinctlaw09_wakes.f k).bind fun t424 => (if t424 = true then (if bt418.2.2.2.2 = 0 then (precinctlaw09_TokenBack.j0 k t417 (!(bt418.1 == ((ji3) % 2147483648)) || (!(bt418.2.1 == ((mx 0 a0_1) % 2147483648)) || (!(bt418.2.2.1 == a0_2) || (!(bt418.2.2.2.1 == a0_3))))) ((ji3) % 2147483648) ((mx 0 a0_1) % 2147483648) a0_2 a0_3 a1_0 a1_1 a1_2) else (precinctlaw09_TokenBack.j0 k t417 true ((ji3) % 2147483648) ((mx 0 a0_1) % 2147483648) a0_2 a0_3 a1_0 a1_1 a1_2)) else (precinctlaw09_TokenBack.j0 k t417 true ((ji3) % 2147483648) ((mx 0 a0_1) % 2147483648) a0_2 a0_3 a1_0 a1_1 a1_2))))) = some r := by first | (rw [hji3] at H; exact H) | (simp only [hji3] at H ⊢; exact H)
 (try (have hji3l : 0 ≤ ji3 := by (rw [← hji3]; unfold mx; (repeat' split) <;> omega)))
 (try (have hji3m : 0 ≤ ji3 := by omega))
 have hji3_ : (if 0 < a0_0 then a0_0 else 0) = ji3 := hji3
 obtain ⟨ji4, hji4⟩ : ∃ j_ : Int, (mx 0 a0_1) = j_ := ⟨_, rfl⟩
 replace H : ((token_Mint.f k a1_0 ((ji3) % 2147483648) ((ji4) % 2147483648) a0_2 a0_3).bind fun t417 => ((token_Verify.f k a1_0 t417 (mn a1_1 a0_3) a0_2).bind fun bt418 => ((precinctlaw09_wakes.f k).bind fun t424 => (if t424 = true then (if bt418.2.2.2.2 = 0 then (precinctlaw09_TokenBack.j0 k t417 (!(bt418.1 == ((ji3) % 2147483648)) || (!(bt418.2.1 == ((ji4) % 2147483648)) || (!(bt418.2.2.1 == a0_2) || (!(bt418.2.2.2.1 == a0_3))))) ((ji3) % 2147483648) ((ji4) % 2147483648) a0_2 a0_3 a1_0 a1_1 a1_2) else (precinctlaw09_TokenBack.j0 k t417 true ((ji3) % 2147483648) ((ji4) % 2147483648) a0_2 a0_3 a1_0 a1_1 a1_2)) else (precinctlaw09_TokenBack.j0 k t417 true ((ji3) % 2147483648) ((ji4) % 2147483648) a0_2 a0_3 a1_0 a1_1 a1_2))))) = some r := by first | (rw [hji4] at H; exact H) | (simp only [hji4] at H ⊢; exact H)
 (try (have hji4l : 0 ≤ ji4 := by (rw [← hji4]; unfold mx; (repeat' split) <;> omega)))
 (try (have hji4m : 0 ≤ ji4 := by omega))
 have hji4_ : (if 0 < a0_1 then a0_1 else 0) = ji4 := hji4
 replace H := Option.bind_eq_some_iff.mp H
 obtain ⟨t417, A50, H⟩ := H
 replace H : ((token_Verify.f k a1_0 t417 (mn a1_1 a0_3) a0_2).bind fun bt418 => ((precinctlaw09_wakes.f k).bind fun t424 => (if t424 = true then (if bt418.2.2.2.2 = 0 then (precinctlaw09_TokenBack.j0 k t417 (!(bt418.1 == ((ji3) % 2147483648)) || (!(bt418.2.1 == ((ji4) % 2147483648)) || (!(bt418.2.2.1 == a0_2) || (!(bt418.2.2.2.1 == a0_3))))) ((ji3) % 2147483648) ((ji4) % 2147483648) a0_2 a0_3 a1_0 a1_1 a1_2) else (precinctlaw09_TokenBack.j0 k t417 true ((ji3) % 2147483648) ((ji4) % 2147483648) a0_2 a0_3 a1_0 a1_1 a1_2)) else (precinctlaw09_TokenBack.j0 k t417 true ((ji3) % 2147483648) ((ji4) % 2147483648) a0_2 a0_3 a1_0 a1_1 a1_2)))) = some r := H
 have A5 := Aside0.mk A50
 clear A50
 obtain ⟨ji6, hji6⟩ : ∃ j_ : Int, (mn a1_1 a0_3) = j_ := ⟨_, rfl⟩
 replace H : ((token_Verify.f k a1_0 t417 (ji6) a0_2).bind fun bt418 => ((precinctlaw09_wakes.f k).bind fun t424 => (if t424 = true then (if bt418.2.2.2.2 = 0 then (precinctlaw09_TokenBack.j0 k t417 (!(bt418.1 == ((ji3) % 2147483648)) || (!(bt418.2.1 == ((ji4) % 2147483648)) || (!(bt418.2.2.1 == a0_2) || (!(bt418.2.2.2.1 == a0_3))))) ((ji3) % 2147483648) ((ji4) % 2147483648) a0_2 a0_3 a1_0 a1_1 a1_2) else (precinctlaw09_TokenBack.j0 k t417 true ((ji3) % 2147483648) ((ji4) % 2147483648) a0_2 a0_3 a1_0 a1_1 a1_2)) else (precinctlaw09_TokenBack.j0 k t417 true ((ji3) % 2147483648) ((ji4) % 2147483648) a0_2 a0_3 a1_0 a1_1 a1_2)))) = some r := by first | (rw [hji6] at H; exact H) | (simp only [hji6] at H ⊢; exact H)
 (try rw [hji6] at A5)
 have hji6_ : (if a0_3 < a1_1 then a0_3 else a1_1) = ji6 := hji6
 replace H := Option.bind_eq_some_iff.mp H
 obtain ⟨⟨t418, t419, t420, t421, t422⟩, A70, H⟩ := H
 replace H : ((precinctlaw09_wakes.f k).bind fun t424 => (if t424 = true then (if t422 = 0 then (precinctlaw09_TokenBack.j0 k t417 (!(t418 == ((ji3) % 2147483648)) || (!(t419 == ((ji4) % 2147483648)) || (!(t420 == a0_2) || (!(t421 == a0_3))))) ((ji3) % 2147483648) ((ji4) % 2147483648) a0_2 a0_3 a1_0 a1_1 a1_2) else (precinctlaw09_TokenBack.j0 k t417 true ((ji3) % 2147483648) ((ji4) % 2147483648) a0_2 a0_3 a1_0 a1_1 a1_2)) else (precinctlaw09_TokenBack.j0 k t417 true ((ji3) % 2147483648) ((ji4) % 2147483648) a0_2 a0_3 a1_0 a1_1 a1_2))) = some r := H
 have A7 := Aside0.mk A70
 clear A70
 have HC8 := Aside0.mk H
 clear H
 go_enter Tryd.func6, Tryd.ntmps6
 go_upto_region 4 with (first | ((with_reducible refine gate_dst (N := 2) rfl ?_); refine box_event ?hg (N := 2) ?hd (cs := #[.int .i64 a0_0, .int .i64 a0_1, .int .i64 a0_2, .int .i64 a0_3]) (t := 32) ?hr ?_; (case hd => rfl); (case hg => rfl); (case hr => first | (go_simp; done) | (go_simp; rfl)); intro gb415 hg w9 hbox hb; have n0_ := Aside0.mk (below_step bb hb); have n1_ := Aside0.mk (hbox); have n2_ := Aside0.mk ((by rw [hg]; exact (below_size bb) : w.heap.size ≤ gb415)); have n3_ := Aside0.mk ((by rw [hg]; exact (below_size bb) : w.heap.size ≤ gb415)); clear HB; have HB := n0_; have BK415 := n1_; have GW415 := n2_; have GE415 := n3_; clear n0_ n1_ n2_ n3_; clear hb hbox hg) | ((with_reducible refine gate_dst (N := 3) rfl ?_); refine box_event ?hg (N := 3) ?hd (cs := #[.string a1_0, .int .i64 a1_1, .int .i64 a1_2]) (t := 38) ?hr ?_; (case hd => rfl); (case hg => rfl); (case hr => first | (go_simp; done) | (go_simp; rfl)); intro gb416 hg w10 hbox hb; have n0_ := Aside0.mk (blk_below (rb BK415.out) hb); have n1_ := Aside0.mk (below_step bb hb); have n2_ := Aside0.mk (hbox); have n3_ := Aside0.mk ((by rw [hg]; exact (below_size bb) : w.heap.size ≤ gb416)); have n4_ := Aside0.mk ((by rw [hg]; exact (below_size bb) : w.heap.size ≤ gb416)); have n5_ := Aside0.mk ((by rw [hg]; exact Nat.ne_of_lt (blk_lt (rb BK415.out)) : gb415 ≠ gb416)); have n6_ := Aside0.mk ((by rw [hg]; exact Nat.ne_of_gt (blk_lt (rb BK415.out)) : gb416 ≠ gb415)); clear BK415; clear HB; have BK415 := n0_; have HB := n1_; have BK416 := n2_; have GW416 := n3_; have GE416 := n4_; have NB415_416 := n5_; have NB416_415 := n6_; clear n0_ n1_ n2_ n3_ n4_ n5_ n6_; clear hb hbox hg; have hnb11 := NB415_416.out; have hnc11 := NB416_415.out; have hcz12_0 : w10.cell? ⟨gb415, 0, none⟩ = some (.int .i64 a0_0) := (blk_cell BK415.out 0).trans rfl; have hcz12_1 : w10.cell? ⟨gb415, 1, none⟩ = some (.int .i64 a0_1) := (blk_cell BK415.out 1).trans rfl; have hcz12_2 : w10.cell? ⟨gb415, 2, none⟩ = some (.int .i64 a0_2) := (blk_cell BK415.out 2).trans rfl; have hcz12_3 : w10.cell? ⟨gb415, 3, none⟩ = some (.int .i64 a0_3) := (blk_cell BK415.out 3).trans rfl; have hfz12_0 := blk_frozen BK415.out 0; have hfz12_1 := blk_frozen BK415.out 1; have hfz12_2 := blk_frozen BK415.out 2; have hfz12_3 := blk_frozen BK415.out 3; have hcz13_0 : w10.cell? ⟨gb416, 0, none⟩ = some (.string a1_0) := (blk_cell BK416.out 0).trans rfl; have hcz13_1 : w10.cell? ⟨gb416, 1, none⟩ = some (.int .i64 a1_1) := (blk_cell BK416.out 1).trans rfl; have hcz13_2 : w10.cell? ⟨gb416, 2, none⟩ = some (.int .i64 a1_2) := (blk_cell BK416.out 2).trans rfl; have hfz13_0 := blk_frozen BK416.out 0; have hfz13_1 := blk_frozen BK416.out 1; have hfz13_2 := blk_frozen BK416.out 2) | ((with_reducible refine gate_callee (f := 12) rfl ?_); refine goesL_ (some 25) rfl rfl Tryd.func12 (by kernel_rfl) rfl #[.string a1_0, .agg #[.int .i64 ((ji3) % 2147483648), .int .i64 ((ji4) % 2147483648), .int .i64 a0_2, .int .i64 a0_3]] rfl (by (try simp only [List.map_toArray, List.map_cons, List.map_nil]); first | done | (simp only [hji3, hji4]; rfl) | rfl | (simp only [List.length_drop, List.length_take]; rfl)) ?_; (with_reducible refine (token_Mint.calls k a1_0 ((ji3) % 2147483648) ((ji4) % 2147483648) a0_2 a0_3 t417 _ A5.out).mono ?_); rintro e w14 ⟨rfl, hb⟩; refine ⟨_, rfl, ?_⟩; have n0_ := Aside0.mk (blk_below (rb (blk_put (cs := #[.int .i64 ((ji3) % 2147483648), .int .i64 a0_1, .int .i64 a0_2, .int .i64 a0_3]) (rb (blk_put (cs := #[.int .i64 a0_0, .int .i64 a0_1, .int .i64 a0_2, .int .i64 a0_3]) (rb BK415.out) 0 _ rfl)) 1 _ rfl)) hb); have n1_ := Aside0.mk (blk_below (rb (blk_far (rb (blk_far (rb BK416.out) NB416_415.out _)) NB416_415.out _)) hb); have n2_ := Aside0.mk (below_step bb hb); clear BK415; clear BK416; clear HB; have BK415 := n0_; have BK416 := n1_; have HB := n2_; clear n0_ n1_ n2_; (try clear hb); (try clear hb2); (try clear hk); (try clear hi); have hcz15_0 : w14.cell? ⟨gb416, 0, none⟩ = some (.string a1_0) := (blk_cell BK416.out 0).trans rfl; have hcz15_1 : w14.cell? ⟨gb416, 1, none⟩ = some (.int .i64 a1_1) := (blk_cell BK416.out 1).trans rfl; have hcz15_2 : w14.cell? ⟨gb416, 2, none⟩ = some (.int .i64 a1_2) := (blk_cell BK416.out 2).trans rfl; have hfz15_0 := blk_frozen BK416.out 0; have hfz15_1 := blk_frozen BK416.out 1; have hfz15_2 := blk_frozen BK416.out 2; have hcz16_0 : w14.cell? ⟨gb415, 0, none⟩ = some (.int .i64 ((ji3) % 2147483648)) := (blk_cell BK415.out 0).trans rfl; have hcz16_1 : w14.cell? ⟨gb415, 1, none⟩ = some (.int .i64 ((ji4) % 2147483648)) := (blk_cell BK415.out 1).trans rfl; have hcz16_2 : w14.cell? ⟨gb415, 2, none⟩ = some (.int .i64 a0_2) := (blk_cell BK415.out 2).trans rfl; have hcz16_3 : w14.cell? ⟨gb415, 3, none⟩ = some (.int .i64 a0_3) := (blk_cell BK415.out 3).trans rfl; have hfz16_0 := blk_frozen BK415.out 0; have hfz16_1 := blk_frozen BK415.out 1; have hfz16_2 := blk_frozen BK415.out 2; have hfz16_3 := blk_frozen BK415.out 3) | ((with_reducible refine gate_callee (f := 16) rfl ?_); refine goesL_ (some 37) rfl rfl Tryd.func16 (by kernel_rfl) rfl #[.string a1_0, .string t417, .int .i64 ji6, .int .i64 a0_2] rfl (by (try simp only [List.map_toArray, List.map_cons, List.map_nil]); first | done | (simp only [hji6]; rfl) | rfl | (simp only [List.length_drop, List.length_take]; rfl)) ?_; (with_reducible refine (token_Verify.calls k a1_0 t417 ji6 a0_2 t418 t419 t420 t421 t422 _ A7.out).mono ?_); rintro e w17 ⟨rfl, hb⟩; refine ⟨_, rfl, ?_⟩; have n0_ := Aside0.mk (blk_below (rb BK415.out) hb); have n1_ := Aside0.mk (blk_below (rb BK416.out) hb); have n2_ := Aside0.mk (below_step bb hb); clear BK415; clear BK416; clear HB; have BK415 := n0_; have BK416 := n1_; have HB := n2_; clear n0_ n1_ n2_; (try clear hb); (try clear hb2); (try clear hk); (try clear hi)) | ((with_reducible refine gate_dst (N := 6) rfl ?_); refine box_event ?hg (N := 6) ?hd (cs := #[.int .i64 0, .int .i64 0, .int .i64 0, .int .i64 0]) (t := 23) ?hr ?_; (case hd => rfl); (case hg => rfl); (case hr => first | (go_simp; done) | (go_simp; rfl)); intro gb423 hg w18 hbox hb; have n0_ := Aside0.mk (blk_below (rb BK415.out) hb); have n1_ := Aside0.mk (blk_below (rb BK416.out) hb); have n2_ := Aside0.mk (below_step bb hb); have n3_ := Aside0.mk (hbox); have n4_ := Aside0.mk ((by rw [hg]; exact (below_size bb) : w.heap.size ≤ gb423)); have n5_ := Aside0.mk ((by rw [hg]; exact (below_size bb) : w.heap.size ≤ gb423)); have n6_ := Aside0.mk ((by rw [hg]; exact Nat.ne_of_lt (blk_lt (rb BK415.out)) : gb415 ≠ gb423)); have n7_ := Aside0.mk ((by rw [hg]; exact Nat.ne_of_gt (blk_lt (rb BK415.out)) : gb423 ≠ gb415)); have n8_ := Aside0.mk ((by rw [hg]; exact Nat.ne_of_lt (blk_lt (rb BK416.out)) : gb416 ≠ gb423)); have n9_ := Aside0.mk ((by rw [hg]; exact Nat.ne_of_gt (blk_lt (rb BK416.out)) : gb423 ≠ gb416)); clear BK415; clear BK416; clear HB; have BK415 := n0_; have BK416 := n1_; have HB := n2_; have BK423 := n3_; have GW423 := n4_; have GE423 := n5_; have NB415_423 := n6_; have NB423_415 := n7_; have NB416_423 := n8_; have NB423_416 := n9_; clear n0_ n1_ n2_ n3_ n4_ n5_ n6_ n7_ n8_ n9_; clear hb hbox hg; have hnb19 := NB423_415.out; have hnc19 := NB415_423.out; have hnb20 := NB423_416.out; have hnc20 := NB416_423.out; have hcz21_0 : w18.cell? ⟨gb423, 0, none⟩ = some (.int .i64 0) := (blk_cell BK423.out 0).trans rfl; have hcz21_1 : w18.cell? ⟨gb423, 1, none⟩ = some (.int .i64 0) := (blk_cell BK423.out 1).trans rfl; have hcz21_2 : w18.cell? ⟨gb423, 2, none⟩ = some (.int .i64 0) := (blk_cell BK423.out 2).trans rfl; have hcz21_3 : w18.cell? ⟨gb423, 3, none⟩ = some (.int .i64 0) := (blk_cell BK423.out 3).trans rfl; have hfz21_0 := blk_frozen BK423.out 0; have hfz21_1 := blk_frozen BK423.out 1; have hfz21_2 := blk_frozen BK423.out 2; have hfz21_3 := blk_frozen BK423.out 3))
 (try simp only [Act.put, List.setIfInBounds_toArray, List.set_cons_zero, List.set_cons_succ])
 go_cut [50] (fun v50 wc => ∃ (kq : Nat) (x50_7 : Bool), v50 = .bool x50_7 ∧ Aside0 (precinctlaw09_TokenBack.j0 kq t417 x50_7 ((ji3) % 2147483648) ((ji4) % 2147483648) a0_2 a0_3 a1_0 a1_1 a1_2 = some r) ∧ Aside0 (kq ≤ k) ∧ Aside0 (wc.heap[gb415]? = some (.cells #[.int .i64 ((ji3) % 2147483648), .int .i64 ((ji4) % 2147483648), .int .i64 a0_2, .int .i64 a0_3] 32 (0, 0))) ∧ Aside0 (wc.heap[gb416]? = some (.cells #[.string a1_0, .int .i64 a1_1, .int .i64 a1_2] 38 (0, 0))) ∧ Aside0 (wc.heap[gb423]? = some (.cells #[.int .i64 t418, .int .i64 t419, .int .i64 t420, .int .i64 t421] 23 (0, 0))) ∧ Aside0 (Below w.heap.size w wc))
 case first =>
  have H := HC8.out
  clear HC8
  replace H := Option.bind_eq_some_iff.mp H
  obtain ⟨t424, A220, H⟩ := H
  replace H : (if t424 = true then (if t422 = 0 then (precinctlaw09_TokenBack.j0 k t417 (!(t418 == ((ji3) % 2147483648)) || (!(t419 == ((ji4) % 2147483648)) || (!(t420 == a0_2) || (!(t421 == a0_3))))) ((ji3) % 2147483648) ((ji4) % 2147483648) a0_2 a0_3 a1_0 a1_1 a1_2) else (precinctlaw09_TokenBack.j0 k t417 true ((ji3) % 2147483648) ((ji4) % 2147483648) a0_2 a0_3 a1_0 a1_1 a1_2)) else (precinctlaw09_TokenBack.j0 k t417 true ((ji3) % 2147483648) ((ji4) % 2147483648) a0_2 a0_3 a1_0 a1_1 a1_2)) = some r := H
  have A22 := Aside0.mk A220
  clear A220
  by_cases c23 : t424 = true
  ·subst c23
   have H1 : (if t422 = 0 then (precinctlaw09_TokenBack.j0 k t417 (!(t418 == ((ji3) % 2147483648)) || (!(t419 == ((ji4) % 2147483648)) || (!(t420 == a0_2) || (!(t421 == a0_3))))) ((ji3) % 2147483648) ((ji4) % 2147483648) a0_2 a0_3 a1_0 a1_1 a1_2) else (precinctlaw09_TokenBack.j0 k t417 true ((ji3) % 2147483648) ((ji4) % 2147483648) a0_2 a0_3 a1_0 a1_1 a1_2)) = some r := by rw [if_pos rfl] at H; exact H
   clear H
   have H := H1
   clear H1
   by_cases c24 : t422 = 0
   ·rw [if_pos c24] at H
    have c24b0 : (t422 == 0) = true := beq_iff_eq.mpr c24
    have c24b1 : (t422 != 0) = false := bne_eq_false_iff_eq.mpr c24
    clear c24
    have hq_ : t418 = ((ji3) % 2147483648) ∧ t419 = ((ji4) % 2147483648) ∧ t420 = (a0_2) ∧ t421 = (a0_3) := by
     refine Decidable.byContradiction fun hq => ?_
     have hx : (!(t418 == ((ji3) % 2147483648)) || (!(t419 == ((ji4) % 2147483648)) || (!(t420 == a0_2) || (!(t421 == a0_3))))) = true := by
      simp only [Bool.or_eq_true, Bool.not_eq_true', beq_eq_false_iff_ne, ne_eq]
      omega
     rw [hx] at H
     cases k with
     | zero => simp [precinctlaw09_TokenBack.j0] at H
     | succ k => rw [precinctlaw09_TokenBack.j0, if_pos rfl, hT_.out] at H; exact absurd (Option.some.inj H) (by decide)
    obtain ⟨q0_, q1_, q2_, q3_⟩ := hq_
    have q0a : (t418 == ((ji3) % 2147483648)) = true := beq_iff_eq.mpr q0_
    have q0b : decide (t418 = ((ji3) % 2147483648)) = true := decide_eq_true q0_
    have q0c : (t418 = ((ji3) % 2147483648)) = True := eq_true q0_
    have q0d : (t418 != ((ji3) % 2147483648)) = false := bne_eq_false_iff_eq.mpr q0_
    clear q0_
    have q1a : (t419 == ((ji4) % 2147483648)) = true := beq_iff_eq.mpr q1_
    have q1b : decide (t419 = ((ji4) % 2147483648)) = true := decide_eq_true q1_
    have q1c : (t419 = ((ji4) % 2147483648)) = True := eq_true q1_
    have q1d : (t419 != ((ji4) % 2147483648)) = false := bne_eq_false_iff_eq.mpr q1_
    clear q1_
    have q2a : (t420 == (a0_2)) = true := beq_iff_eq.mpr q2_
    have q2b : decide (t420 = (a0_2)) = true := decide_eq_true q2_
    have q2c : (t420 = (a0_2)) = True := eq_true q2_
    have q2d : (t420 != (a0_2)) = false := bne_eq_false_iff_eq.mpr q2_
    clear q2_
    have q3a : (t421 == (a0_3)) = true := beq_iff_eq.mpr q3_
    have q3b : decide (t421 = (a0_3)) = true := decide_eq_true q3_
    have q3c : (t421 = (a0_3)) = True := eq_true q3_
    have q3d : (t421 != (a0_3)) = false := bne_eq_false_iff_eq.mpr q3_
    clear q3_
    have hx : (!(t418 == ((ji3) % 2147483648)) || (!(t419 == ((ji4) % 2147483648)) || (!(t420 == a0_2) || (!(t421 == a0_3))))) = false := by rw [q0a, q1a, q2a, q3a]; rfl
    rw [hx] at H
    clear hx
    (first | rw [c24b0] | (simp only [i64_w, i32_w]; rw [c24b0]) | skip)
    have H' := Aside0.mk H
    clear H
    go_wp2_with (first | ((with_reducible refine gate_callee (f := 11) rfl ?_); refine goesL_ (some 40) rfl rfl Tryd.func11 (by kernel_rfl) rfl #[] rfl ag ?_; (with_reducible refine (precinctlaw09_wakes.calls k  true _ A22.out).mono ?_); rintro e w25 ⟨rfl, hb⟩; refine ⟨_, rfl, ?_⟩; have n0_ := Aside0.mk (blk_below (rb (blk_far (rb (blk_far (rb (blk_far (rb (blk_far (rb BK415.out) NB415_423.out _)) NB415_423.out _)) NB415_423.out _)) NB415_423.out _)) hb); have n1_ := Aside0.mk (blk_below (rb (blk_far (rb (blk_far (rb (blk_far (rb (blk_far (rb BK416.out) NB416_423.out _)) NB416_423.out _)) NB416_423.out _)) NB416_423.out _)) hb); have n2_ := Aside0.mk (blk_below (rb (blk_put (cs := #[.int .i64 t418, .int .i64 t419, .int .i64 t420, .int .i64 0]) (rb (blk_put (cs := #[.int .i64 t418, .int .i64 t419, .int .i64 0, .int .i64 0]) (rb (blk_put (cs := #[.int .i64 t418, .int .i64 0, .int .i64 0, .int .i64 0]) (rb (blk_put (cs := #[.int .i64 0, .int .i64 0, .int .i64 0, .int .i64 0]) (rb BK423.out) 0 _ rfl)) 1 _ rfl)) 2 _ rfl)) 3 _ rfl)) hb); have n3_ := Aside0.mk (below_step bb hb); clear BK415; clear BK416; clear BK423; clear HB; have BK415 := n0_; have BK416 := n1_; have BK423 := n2_; have HB := n3_; clear n0_ n1_ n2_ n3_; (try clear hb); (try clear hb2); (try clear hk); (try clear hi); have hnb26 := NB423_415.out; have hnc26 := NB415_423.out; have hnb27 := NB423_416.out; have hnc27 := NB416_423.out; have hcz28_0 : w25.cell? ⟨gb423, 0, none⟩ = some (.int .i64 t418) := (blk_cell BK423.out 0).trans rfl; have hcz28_1 : w25.cell? ⟨gb423, 1, none⟩ = some (.int .i64 t419) := (blk_cell BK423.out 1).trans rfl; have hcz28_2 : w25.cell? ⟨gb423, 2, none⟩ = some (.int .i64 t420) := (blk_cell BK423.out 2).trans rfl; have hcz28_3 : w25.cell? ⟨gb423, 3, none⟩ = some (.int .i64 t421) := (blk_cell BK423.out 3).trans rfl; have hfz28_0 := blk_frozen BK423.out 0; have hfz28_1 := blk_frozen BK423.out 1; have hfz28_2 := blk_frozen BK423.out 2; have hfz28_3 := blk_frozen BK423.out 3; have hnb29 := NB415_416.out; have hnc29 := NB416_415.out; have hcz30_0 : w25.cell? ⟨gb415, 0, none⟩ = some (.int .i64 ((ji3) % 2147483648)) := (blk_cell BK415.out 0).trans rfl; have hcz30_1 : w25.cell? ⟨gb415, 1, none⟩ = some (.int .i64 ((ji4) % 2147483648)) := (blk_cell BK415.out 1).trans rfl; have hcz30_2 : w25.cell? ⟨gb415, 2, none⟩ = some (.int .i64 a0_2) := (blk_cell BK415.out 2).trans rfl; have hcz30_3 : w25.cell? ⟨gb415, 3, none⟩ = some (.int .i64 a0_3) := (blk_cell BK415.out 3).trans rfl; have hfz30_0 := blk_frozen BK415.out 0; have hfz30_1 := blk_frozen BK415.out 1; have hfz30_2 := blk_frozen BK415.out 2; have hfz30_3 := blk_frozen BK415.out 3))
    go_meet
    case rel => exact ⟨_, false, (by first | rfl | (simp; done) | (simp only [← hji3, ← hji4] <;> (first | rfl | simp)) | (simp [*]; done)), H', ⟨by first | omega | exact Nat.le_refl _⟩, ⟨by (with_reducible repeat (first | refine blk_drewN ?_ _ | refine blk_drew ?_ | refine blk_alloc ?_ _)); exact BK415.out⟩, ⟨by (with_reducible repeat (first | refine blk_drewN ?_ _ | refine blk_drew ?_ | refine blk_alloc ?_ _)); exact BK416.out⟩, ⟨by (with_reducible repeat (first | refine blk_drewN ?_ _ | refine blk_drew ?_ | refine blk_alloc ?_ _)); exact BK423.out⟩, ⟨bb⟩⟩
   ·rw [if_neg c24] at H
    have c24b0 : (t422 == 0) = false := beq_eq_false_iff_ne.mpr c24
    have c24b1 : (t422 != 0) = true := bne_iff_ne.mpr c24
    (first | rw [c24b0] | (simp only [i64_w, i32_w]; rw [c24b0]) | skip)
    have H' := Aside0.mk H
    clear H
    go_wp2_with (first | ((with_reducible refine gate_callee (f := 11) rfl ?_); refine goesL_ (some 40) rfl rfl Tryd.func11 (by kernel_rfl) rfl #[] rfl ag ?_; (with_reducible refine (precinctlaw09_wakes.calls k  true _ A22.out).mono ?_); rintro e w31 ⟨rfl, hb⟩; refine ⟨_, rfl, ?_⟩; have n0_ := Aside0.mk (blk_below (rb (blk_far (rb (blk_far (rb (blk_far (rb (blk_far (rb BK415.out) NB415_423.out _)) NB415_423.out _)) NB415_423.out _)) NB415_423.out _)) hb); have n1_ := Aside0.mk (blk_below (rb (blk_far (rb (blk_far (rb (blk_far (rb (blk_far (rb BK416.out) NB416_423.out _)) NB416_423.out _)) NB416_423.out _)) NB416_423.out _)) hb); have n2_ := Aside0.mk (blk_below (rb (blk_put (cs := #[.int .i64 t418, .int .i64 t419, .int .i64 t420, .int .i64 0]) (rb (blk_put (cs := #[.int .i64 t418, .int .i64 t419, .int .i64 0, .int .i64 0]) (rb (blk_put (cs := #[.int .i64 t418, .int .i64 0, .int .i64 0, .int .i64 0]) (rb (blk_put (cs := #[.int .i64 0, .int .i64 0, .int .i64 0, .int .i64 0]) (rb BK423.out) 0 _ rfl)) 1 _ rfl)) 2 _ rfl)) 3 _ rfl)) hb); have n3_ := Aside0.mk (below_step bb hb); clear BK415; clear BK416; clear BK423; clear HB; have BK415 := n0_; have BK416 := n1_; have BK423 := n2_; have HB := n3_; clear n0_ n1_ n2_ n3_; (try clear hb); (try clear hb2); (try clear hk); (try clear hi)))
    go_meet
    case rel => exact ⟨_, (true), (by first | rfl | (simp; done) | (simp [*]; done)), H', ⟨by first | omega | exact Nat.le_refl _⟩, ⟨by (with_reducible repeat (first | refine blk_drewN ?_ _ | refine blk_drew ?_ | refine blk_alloc ?_ _)); exact BK415.out⟩, ⟨by (with_reducible repeat (first | refine blk_drewN ?_ _ | refine blk_drew ?_ | refine blk_alloc ?_ _)); exact BK416.out⟩, ⟨by (with_reducible repeat (first | refine blk_drewN ?_ _ | refine blk_drew ?_ | refine blk_alloc ?_ _)); exact BK423.out⟩, ⟨bb⟩⟩
  ·replace c23 := Bool.eq_false_iff.mpr c23
   subst c23
   have H1 : (precinctlaw09_TokenBack.j0 k t417 true ((ji3) % 2147483648) ((ji4) % 2147483648) a0_2 a0_3 a1_0 a1_1 a1_2) = some r := by rw [if_neg (show ¬ (false = true) by decide)] at H; exact H
   clear H
   have H := H1
   clear H1
   have H' := Aside0.mk H
   clear H
   go_wp2_with (first | ((with_reducible refine gate_callee (f := 11) rfl ?_); refine goesL_ (some 40) rfl rfl Tryd.func11 (by kernel_rfl) rfl #[] rfl ag ?_; (with_reducible refine (precinctlaw09_wakes.calls k  false _ A22.out).mono ?_); rintro e w32 ⟨rfl, hb⟩; refine ⟨_, rfl, ?_⟩; have n0_ := Aside0.mk (blk_below (rb (blk_far (rb (blk_far (rb (blk_far (rb (blk_far (rb BK415.out) NB415_423.out _)) NB415_423.out _)) NB415_423.out _)) NB415_423.out _)) hb); have n1_ := Aside0.mk (blk_below (rb (blk_far (rb (blk_far (rb (blk_far (rb (blk_far (rb BK416.out) NB416_423.out _)) NB416_423.out _)) NB416_423.out _)) NB416_423.out _)) hb); have n2_ := Aside0.mk (blk_below (rb (blk_put (cs := #[.int .i64 t418, .int .i64 t419, .int .i64 t420, .int .i64 0]) (rb (blk_put (cs := #[.int .i64 t418, .int .i64 t419, .int .i64 0, .int .i64 0]) (rb (blk_put (cs := #[.int .i64 t418, .int .i64 0, .int .i64 0, .int .i64 0]) (rb (blk_put (cs := #[.int .i64 0, .int .i64 0, .int .i64 0, .int .i64 0]) (rb BK423.out) 0 _ rfl)) 1 _ rfl)) 2 _ rfl)) 3 _ rfl)) hb); have n3_ := Aside0.mk (below_step bb hb); clear BK415; clear BK416; clear BK423; clear HB; have BK415 := n0_; have BK416 := n1_; have BK423 := n2_; have HB := n3_; clear n0_ n1_ n2_ n3_; (try clear hb); (try clear hb2); (try clear hk); (try clear hi)))
   go_meet
   case rel => exact ⟨_, (true), (by first | rfl | (simp; done) | (simp [*]; done)), H', ⟨by first | omega | exact Nat.le_refl _⟩, ⟨by (with_reducible repeat (first | refine blk_drewN ?_ _ | refine blk_drew ?_ | refine blk_alloc ?_ _)); exact BK415.out⟩, ⟨by (with_reducible repeat (first | refine blk_drewN ?_ _ | refine blk_drew ?_ | refine blk_alloc ?_ _)); exact BK416.out⟩, ⟨by (with_reducible repeat (first | refine blk_drewN ?_ _ | refine blk_drew ?_ | refine blk_alloc ?_ _)); exact BK423.out⟩, ⟨bb⟩⟩
 case rest =>
  clear HC8
  try clear c1
  try clear c2
  try clear p2
  try clear c6
  try clear c11
  try clear c12
  try clear c16
  try clear c19
  try clear c20
  try clear c23
  try clear c24
  try clear c24b0
  try clear c24b1
  try clear c26
  try clear c27
  try clear c29
  try clear hcz12_0
  try clear hcz12_1
  try clear hcz12_2
  try clear hcz12_3
  try clear hcz13_0
  try clear hcz13_1
  try clear hcz13_2
  try clear hcz15_0
  try clear hcz15_1
  try clear hcz15_2
  try clear hcz16_0
  try clear hcz16_1
  try clear hcz16_2
  try clear hcz16_3
  try clear hcz21_0
  try clear hcz21_1
  try clear hcz21_2
  try clear hcz21_3
  try clear hcz28_0
  try clear hcz28_1
  try clear hcz28_2
  try clear hcz28_3
  try clear hcz30_0
  try clear hcz30_1
  try clear hcz30_2
  try clear hcz30_3
  try clear hfz12_0
  try clear hfz12_1
  try clear hfz12_2
  try clear hfz12_3
  try clear hfz13_0
  try clear hfz13_1
  try clear hfz13_2
  try clear hfz15_0
  try clear hfz15_1
  try clear hfz15_2
  try clear hfz16_0
  try clear hfz16_1
  try clear hfz16_2
  try clear hfz16_3
  try clear hfz21_0
  try clear hfz21_1
  try clear hfz21_2
  try clear hfz21_3
  try clear hfz28_0
  try clear hfz28_1
  try clear hfz28_2
  try clear hfz28_3
  try clear hfz30_0
  try clear hfz30_1
  try clear hfz30_2
  try clear hfz30_3
  obtain ⟨kq, x50_7, rfl, HA, HJ7, BK415, BK416, BK423, HB⟩ := hcut
  cases kq with
  | zero => exact absurd HA.out (by simp [precinctlaw09_TokenBack.j0])
  | succ kj7 =>
   have H := HA.out
   clear HA
   simp only [precinctlaw09_TokenBack.j0] at H
   by_cases c33 : x50_7 = true
   ·subst c33
    have H1 : (some false) = some r := by rw [if_pos rfl] at H; exact H
    clear H
    have H := H1
    clear H1
    exact absurd ((Option.some.inj H).trans hT_.out) (by decide)
   ·replace c33 := Bool.eq_false_iff.mpr c33
    subst c33
    have H1 : (if a1_2 = a0_2 then (if a1_1 > a0_3 then ((token_Verify.f kj7 a1_0 t417 a1_1 a0_2).bind fun bt425 => (some (bt425.2.2.2.2 == 21))) else (some true)) else ((token_Verify.f kj7 a1_0 t417 (mn a1_1 a0_3) a1_2).bind fun bt431 => (if bt431.2.2.2.2 = 22 then (if a1_1 > a0_3 then ((token_Verify.f kj7 a1_0 t417 a1_1 a0_2).bind fun bt437 => (some (bt437.2.2.2.2 == 21))) else (some true)) else (some false)))) = some r := by rw [if_neg (show ¬ (false = true) by decide)] at H; exact H
    clear H
    have H := H1
    clear H1
    by_cases c34 : a1_2 = a0_2
    ·rw [if_pos c34] at H
     have c34b0 : (a1_2 == a0_2) = true := beq_iff_eq.mpr c34
     have c34b1 : (a1_2 != a0_2) = false := bne_eq_false_iff_eq.mpr c34
     clear c34
     by_cases c35 : a1_1 > a0_3
     ·rw [if_pos c35] at H
      have c35b0 : decide (a0_3 < a1_1) = true := decide_eq_true c35
      clear c35
      replace H := Option.bind_eq_some_iff.mp H
      obtain ⟨⟨t425, t426, t427, t428, t429⟩, A360, H⟩ := H
      replace H : (some (t429 == 21)) = some r := H
      have A36 := Aside0.mk A360
      clear A360
      obtain rfl := Option.some.inj H
      have hnb37 := NB416_415.out
      have hnc37 := NB415_416.out
      have hnb38 := NB416_423.out
      have hnc38 := NB423_416.out
      have hcz39_0 : wc.cell? ⟨gb416, 0, none⟩ = some (.string a1_0) := (blk_cell BK416.out 0).trans rfl
      have hcz39_1 : wc.cell? ⟨gb416, 1, none⟩ = some (.int .i64 a1_1) := (blk_cell BK416.out 1).trans rfl
      have hcz39_2 : wc.cell? ⟨gb416, 2, none⟩ = some (.int .i64 a1_2) := (blk_cell BK416.out 2).trans rfl
      have hfz39_0 := blk_frozen BK416.out 0
      have hfz39_1 := blk_frozen BK416.out 1
      have hfz39_2 := blk_frozen BK416.out 2
      have hnb40 := NB415_423.out
      have hnc40 := NB423_415.out
      have hcz41_0 : wc.cell? ⟨gb415, 0, none⟩ = some (.int .i64 ((ji3) % 2147483648)) := (blk_cell BK415.out 0).trans rfl
      have hcz41_1 : wc.cell? ⟨gb415, 1, none⟩ = some (.int .i64 ((ji4) % 2147483648)) := (blk_cell BK415.out 1).trans rfl
      have hcz41_2 : wc.cell? ⟨gb415, 2, none⟩ = some (.int .i64 a0_2) := (blk_cell BK415.out 2).trans rfl
      have hcz41_3 : wc.cell? ⟨gb415, 3, none⟩ = some (.int .i64 a0_3) := (blk_cell BK415.out 3).trans rfl
      have hfz41_0 := blk_frozen BK415.out 0
      have hfz41_1 := blk_frozen BK415.out 1
      have hfz41_2 := blk_frozen BK415.out 2
      have hfz41_3 := blk_frozen BK415.out 3
      go_wp2_with (first | ((with_reducible refine gate_callee (f := 16) rfl ?_); refine goesL_ (some 85) rfl rfl Tryd.func16 (by kernel_rfl) rfl #[.string a1_0, .string t417, .int .i64 a1_1, .int .i64 a0_2] rfl ag ?_; (with_reducible refine (token_Verify.calls kj7 a1_0 t417 a1_1 a0_2 t425 t426 t427 t428 t429 _ A36.out).mono ?_); rintro e w42 ⟨rfl, hb⟩; refine ⟨_, rfl, ?_⟩; have n0_ := Aside0.mk (blk_below (rb BK415.out) hb); have n1_ := Aside0.mk (blk_below (rb BK416.out) hb); have n2_ := Aside0.mk (blk_below (rb BK423.out) hb); have n3_ := Aside0.mk (below_step bb hb); clear BK415; clear BK416; clear BK423; clear HB; have BK415 := n0_; have BK416 := n1_; have BK423 := n2_; have HB := n3_; clear n0_ n1_ n2_ n3_; (try clear hb); (try clear hb2); (try clear hk); (try clear hi)) | ((with_reducible refine gate_dst (N := 10) rfl ?_); refine box_event ?hg (N := 10) ?hd (cs := #[.int .i64 0, .int .i64 0, .int .i64 0, .int .i64 0]) (t := 23) ?hr ?_; (case hd => rfl); (case hg => rfl); (case hr => first | (go_simp; done) | (go_simp; rfl)); intro gb430 hg w43 hbox hb; have n0_ := Aside0.mk (blk_below (rb BK415.out) hb); have n1_ := Aside0.mk (blk_below (rb BK416.out) hb); have n2_ := Aside0.mk (blk_below (rb BK423.out) hb); have n3_ := Aside0.mk (below_step bb hb); have n4_ := Aside0.mk (hbox); have n5_ := Aside0.mk ((by rw [hg]; exact (below_size bb) : w.heap.size ≤ gb430)); have n6_ := Aside0.mk ((by rw [hg]; exact (below_size bb) : w.heap.size ≤ gb430)); have n7_ := Aside0.mk ((by rw [hg]; exact Nat.ne_of_lt (blk_lt (rb BK415.out)) : gb415 ≠ gb430)); have n8_ := Aside0.mk ((by rw [hg]; exact Nat.ne_of_gt (blk_lt (rb BK415.out)) : gb430 ≠ gb415)); have n9_ := Aside0.mk ((by rw [hg]; exact Nat.ne_of_lt (blk_lt (rb BK416.out)) : gb416 ≠ gb430)); have n10_ := Aside0.mk ((by rw [hg]; exact Nat.ne_of_gt (blk_lt (rb BK416.out)) : gb430 ≠ gb416)); have n11_ := Aside0.mk ((by rw [hg]; exact Nat.ne_of_lt (blk_lt (rb BK423.out)) : gb423 ≠ gb430)); have n12_ := Aside0.mk ((by rw [hg]; exact Nat.ne_of_gt (blk_lt (rb BK423.out)) : gb430 ≠ gb423)); clear BK415; clear BK416; clear BK423; clear HB; have BK415 := n0_; have BK416 := n1_; have BK423 := n2_; have HB := n3_; have BK430 := n4_; have GW430 := n5_; have GE430 := n6_; have NB415_430 := n7_; have NB430_415 := n8_; have NB416_430 := n9_; have NB430_416 := n10_; have NB423_430 := n11_; have NB430_423 := n12_; clear n0_ n1_ n2_ n3_ n4_ n5_ n6_ n7_ n8_ n9_ n10_ n11_ n12_; clear hb hbox hg; have hnb44 := NB430_415.out; have hnc44 := NB415_430.out; have hnb45 := NB430_416.out; have hnc45 := NB416_430.out; have hnb46 := NB430_423.out; have hnc46 := NB423_430.out; have hcz47_0 : w43.cell? ⟨gb430, 0, none⟩ = some (.int .i64 0) := (blk_cell BK430.out 0).trans rfl; have hcz47_1 : w43.cell? ⟨gb430, 1, none⟩ = some (.int .i64 0) := (blk_cell BK430.out 1).trans rfl; have hcz47_2 : w43.cell? ⟨gb430, 2, none⟩ = some (.int .i64 0) := (blk_cell BK430.out 2).trans rfl; have hcz47_3 : w43.cell? ⟨gb430, 3, none⟩ = some (.int .i64 0) := (blk_cell BK430.out 3).trans rfl; have hfz47_0 := blk_frozen BK430.out 0; have hfz47_1 := blk_frozen BK430.out 1; have hfz47_2 := blk_frozen BK430.out 2; have hfz47_3 := blk_frozen BK430.out 3))
      go_ret
      exact ⟨by first | rfl | (simp [errW_none, errW_some] <;> rfl) | (simp only [← hji3, ← hji4, ← hji6]; first | rfl | (simp [errW_none, errW_some] <;> rfl)) | (simp [*, errW_none, errW_some] <;> rfl), bb⟩
     ·rw [if_neg c35] at H
      have c35b0 : decide (a0_3 < a1_1) = false := decide_eq_false c35
      clear c35
      obtain rfl := Option.some.inj H
      have hnb48 := NB416_415.out
      have hnc48 := NB415_416.out
      have hnb49 := NB416_423.out
      have hnc49 := NB423_416.out
      have hcz50_0 : wc.cell? ⟨gb416, 0, none⟩ = some (.string a1_0) := (blk_cell BK416.out 0).trans rfl
      have hcz50_1 : wc.cell? ⟨gb416, 1, none⟩ = some (.int .i64 a1_1) := (blk_cell BK416.out 1).trans rfl
      have hcz50_2 : wc.cell? ⟨gb416, 2, none⟩ = some (.int .i64 a1_2) := (blk_cell BK416.out 2).trans rfl
      have hfz50_0 := blk_frozen BK416.out 0
      have hfz50_1 := blk_frozen BK416.out 1
      have hfz50_2 := blk_frozen BK416.out 2
      have hnb51 := NB415_423.out
      have hnc51 := NB423_415.out
      have hcz52_0 : wc.cell? ⟨gb415, 0, none⟩ = some (.int .i64 ((ji3) % 2147483648)) := (blk_cell BK415.out 0).trans rfl
      have hcz52_1 : wc.cell? ⟨gb415, 1, none⟩ = some (.int .i64 ((ji4) % 2147483648)) := (blk_cell BK415.out 1).trans rfl
      have hcz52_2 : wc.cell? ⟨gb415, 2, none⟩ = some (.int .i64 a0_2) := (blk_cell BK415.out 2).trans rfl
      have hcz52_3 : wc.cell? ⟨gb415, 3, none⟩ = some (.int .i64 a0_3) := (blk_cell BK415.out 3).trans rfl
      have hfz52_0 := blk_frozen BK415.out 0
      have hfz52_1 := blk_frozen BK415.out 1
      have hfz52_2 := blk_frozen BK415.out 2
      have hfz52_3 := blk_frozen BK415.out 3
      go_wp2
      go_ret
      exact ⟨by first | rfl | (simp [errW_none, errW_some] <;> rfl) | (simp only [← hji3, ← hji4, ← hji6]; first | rfl | (simp [errW_none, errW_some] <;> rfl)) | (simp [*, errW_none, errW_some] <;> rfl), bb⟩
    ·rw [if_neg c34] at H
     have c34b0 : (a1_2 == a0_2) = false := beq_eq_false_iff_ne.mpr c34
     have c34b1 : (a1_2 != a0_2) = true := bne_iff_ne.mpr c34
     obtain ⟨ji53, hji53⟩ : ∃ j_ : Int, (mn a1_1 a0_3) = j_ := ⟨_, rfl⟩
     replace H : ((token_Verify.f kj7 a1_0 t417 (ji53) a1_2).bind fun bt431 => (if bt431.2.2.2.2 = 22 then (if a1_1 > a0_3 then ((token_Verify.f kj7 a1_0 t417 a1_1 a0_2).bind fun bt437 => (some (bt437.2.2.2.2 == 21))) else (some true)) else (some false))) = some r := by first | (rw [hji53] at H; exact H) | (simp only [hji53] at H ⊢; exact H)
     have hji53_ : (if a0_3 < a1_1 then a0_3 else a1_1) = ji53 := hji53
     obtain rfl : ji53 = ji6 := hji53_.symm.trans hji6_
     clear hji53_
     replace H := Option.bind_eq_some_iff.mp H
     obtain ⟨⟨t431, t432, t433, t434, t435⟩, A540, H⟩ := H
     replace H : (if t435 = 22 then (if a1_1 > a0_3 then ((token_Verify.f kj7 a1_0 t417 a1_1 a0_2).bind fun bt437 => (some (bt437.2.2.2.2 == 21))) else (some true)) else (some false)) = some r := H
     have A54 := Aside0.mk A540
     clear A540
     by_cases c55 : t435 = 22
     ·rw [if_pos c55] at H
      have c55b0 : (t435 == 22) = true := beq_iff_eq.mpr c55
      have c55b1 : (t435 != 22) = false := bne_eq_false_iff_eq.mpr c55
      clear c55
      by_cases c56 : a1_1 > a0_3
      ·rw [if_pos c56] at H
       have c56b0 : decide (a0_3 < a1_1) = true := decide_eq_true c56
       clear c56
       replace H := Option.bind_eq_some_iff.mp H
       obtain ⟨⟨t437, t438, t439, t440, t441⟩, A570, H⟩ := H
       replace H : (some (t441 == 21)) = some r := H
       have A57 := Aside0.mk A570
       clear A570
       obtain rfl := Option.some.inj H
       have hnb58 := NB416_415.out
       have hnc58 := NB415_416.out
       have hnb59 := NB416_423.out
       have hnc59 := NB423_416.out
       have hcz60_0 : wc.cell? ⟨gb416, 0, none⟩ = some (.string a1_0) := (blk_cell BK416.out 0).trans rfl
       have hcz60_1 : wc.cell? ⟨gb416, 1, none⟩ = some (.int .i64 a1_1) := (blk_cell BK416.out 1).trans rfl
       have hcz60_2 : wc.cell? ⟨gb416, 2, none⟩ = some (.int .i64 a1_2) := (blk_cell BK416.out 2).trans rfl
       have hfz60_0 := blk_frozen BK416.out 0
       have hfz60_1 := blk_frozen BK416.out 1
       have hfz60_2 := blk_frozen BK416.out 2
       have hnb61 := NB415_423.out
       have hnc61 := NB423_415.out
       have hcz62_0 : wc.cell? ⟨gb415, 0, none⟩ = some (.int .i64 ((ji3) % 2147483648)) := (blk_cell BK415.out 0).trans rfl
       have hcz62_1 : wc.cell? ⟨gb415, 1, none⟩ = some (.int .i64 ((ji4) % 2147483648)) := (blk_cell BK415.out 1).trans rfl
       have hcz62_2 : wc.cell? ⟨gb415, 2, none⟩ = some (.int .i64 a0_2) := (blk_cell BK415.out 2).trans rfl
       have hcz62_3 : wc.cell? ⟨gb415, 3, none⟩ = some (.int .i64 a0_3) := (blk_cell BK415.out 3).trans rfl
       have hfz62_0 := blk_frozen BK415.out 0
       have hfz62_1 := blk_frozen BK415.out 1
       have hfz62_2 := blk_frozen BK415.out 2
       have hfz62_3 := blk_frozen BK415.out 3
       go_wp2_with (first | ((with_reducible refine gate_callee (f := 16) rfl ?_); refine goesL_ (some 67) rfl rfl Tryd.func16 (by kernel_rfl) rfl #[.string a1_0, .string t417, .int .i64 ji53, .int .i64 a1_2] rfl (by (try simp only [List.map_toArray, List.map_cons, List.map_nil]); first | done | (simp only [hji53]; rfl) | rfl | (simp only [List.length_drop, List.length_take]; rfl)) ?_; (with_reducible refine (token_Verify.calls kj7 a1_0 t417 ji53 a1_2 t431 t432 t433 t434 t435 _ A54.out).mono ?_); rintro e w63 ⟨rfl, hb⟩; refine ⟨_, rfl, ?_⟩; have n0_ := Aside0.mk (blk_below (rb BK415.out) hb); have n1_ := Aside0.mk (blk_below (rb BK416.out) hb); have n2_ := Aside0.mk (blk_below (rb BK423.out) hb); have n3_ := Aside0.mk (below_step bb hb); clear BK415; clear BK416; clear BK423; clear HB; have BK415 := n0_; have BK416 := n1_; have BK423 := n2_; have HB := n3_; clear n0_ n1_ n2_ n3_; (try clear hb); (try clear hb2); (try clear hk); (try clear hi)) | ((with_reducible refine gate_dst (N := 8) rfl ?_); refine box_event ?hg (N := 8) ?hd (cs := #[.int .i64 0, .int .i64 0, .int .i64 0, .int .i64 0]) (t := 23) ?hr ?_; (case hd => rfl); (case hg => rfl); (case hr => first | (go_simp; done) | (go_simp; rfl)); intro gb436 hg w64 hbox hb; have n0_ := Aside0.mk (blk_below (rb BK415.out) hb); have n1_ := Aside0.mk (blk_below (rb BK416.out) hb); have n2_ := Aside0.mk (blk_below (rb BK423.out) hb); have n3_ := Aside0.mk (below_step bb hb); have n4_ := Aside0.mk (hbox); have n5_ := Aside0.mk ((by rw [hg]; exact (below_size bb) : w.heap.size ≤ gb436)); have n6_ := Aside0.mk ((by rw [hg]; exact (below_size bb) : w.heap.size ≤ gb436)); have n7_ := Aside0.mk ((by rw [hg]; exact Nat.ne_of_lt (blk_lt (rb BK415.out)) : gb415 ≠ gb436)); have n8_ := Aside0.mk ((by rw [hg]; exact Nat.ne_of_gt (blk_lt (rb BK415.out)) : gb436 ≠ gb415)); have n9_ := Aside0.mk ((by rw [hg]; exact Nat.ne_of_lt (blk_lt (rb BK416.out)) : gb416 ≠ gb436)); have n10_ := Aside0.mk ((by rw [hg]; exact Nat.ne_of_gt (blk_lt (rb BK416.out)) : gb436 ≠ gb416)); have n11_ := Aside0.mk ((by rw [hg]; exact Nat.ne_of_lt (blk_lt (rb BK423.out)) : gb423 ≠ gb436)); have n12_ := Aside0.mk ((by rw [hg]; exact Nat.ne_of_gt (blk_lt (rb BK423.out)) : gb436 ≠ gb423)); clear BK415; clear BK416; clear BK423; clear HB; have BK415 := n0_; have BK416 := n1_; have BK423 := n2_; have HB := n3_; have BK436 := n4_; have GW436 := n5_; have GE436 := n6_; have NB415_436 := n7_; have NB436_415 := n8_; have NB416_436 := n9_; have NB436_416 := n10_; have NB423_436 := n11_; have NB436_423 := n12_; clear n0_ n1_ n2_ n3_ n4_ n5_ n6_ n7_ n8_ n9_ n10_ n11_ n12_; clear hb hbox hg; have hnb65 := NB436_415.out; have hnc65 := NB415_436.out; have hnb66 := NB436_416.out; have hnc66 := NB416_436.out; have hnb67 := NB436_423.out; have hnc67 := NB423_436.out; have hcz68_0 : w64.cell? ⟨gb436, 0, none⟩ = some (.int .i64 0) := (blk_cell BK436.out 0).trans rfl; have hcz68_1 : w64.cell? ⟨gb436, 1, none⟩ = some (.int .i64 0) := (blk_cell BK436.out 1).trans rfl; have hcz68_2 : w64.cell? ⟨gb436, 2, none⟩ = some (.int .i64 0) := (blk_cell BK436.out 2).trans rfl; have hcz68_3 : w64.cell? ⟨gb436, 3, none⟩ = some (.int .i64 0) := (blk_cell BK436.out 3).trans rfl; have hfz68_0 := blk_frozen BK436.out 0; have hfz68_1 := blk_frozen BK436.out 1; have hfz68_2 := blk_frozen BK436.out 2; have hfz68_3 := blk_frozen BK436.out 3; have hcz69_0 : w64.cell? ⟨gb416, 0, none⟩ = some (.string a1_0) := (blk_cell BK416.out 0).trans rfl; have hcz69_1 : w64.cell? ⟨gb416, 1, none⟩ = some (.int .i64 a1_1) := (blk_cell BK416.out 1).trans rfl; have hcz69_2 : w64.cell? ⟨gb416, 2, none⟩ = some (.int .i64 a1_2) := (blk_cell BK416.out 2).trans rfl; have hfz69_0 := blk_frozen BK416.out 0; have hfz69_1 := blk_frozen BK416.out 1; have hfz69_2 := blk_frozen BK416.out 2; have hcz70_0 : w64.cell? ⟨gb415, 0, none⟩ = some (.int .i64 ((ji3) % 2147483648)) := (blk_cell BK415.out 0).trans rfl; have hcz70_1 : w64.cell? ⟨gb415, 1, none⟩ = some (.int .i64 ((ji4) % 2147483648)) := (blk_cell BK415.out 1).trans rfl; have hcz70_2 : w64.cell? ⟨gb415, 2, none⟩ = some (.int .i64 a0_2) := (blk_cell BK415.out 2).trans rfl; have hcz70_3 : w64.cell? ⟨gb415, 3, none⟩ = some (.int .i64 a0_3) := (blk_cell BK415.out 3).trans rfl; have hfz70_0 := blk_frozen BK415.out 0; have hfz70_1 := blk_frozen BK415.out 1; have hfz70_2 := blk_frozen BK415.out 2; have hfz70_3 := blk_frozen BK415.out 3) | ((with_reducible refine gate_callee (f := 16) rfl ?_); refine goesL_ (some 85) rfl rfl Tryd.func16 (by kernel_rfl) rfl #[.string a1_0, .string t417, .int .i64 a1_1, .int .i64 a0_2] rfl ag ?_; (with_reducible refine (token_Verify.calls kj7 a1_0 t417 a1_1 a0_2 t437 t438 t439 t440 t441 _ A57.out).mono ?_); rintro e w71 ⟨rfl, hb⟩; refine ⟨_, rfl, ?_⟩; have n0_ := Aside0.mk (blk_below (rb (blk_far (rb (blk_far (rb (blk_far (rb (blk_far (rb BK415.out) NB415_436.out _)) NB415_436.out _)) NB415_436.out _)) NB415_436.out _)) hb); have n1_ := Aside0.mk (blk_below (rb (blk_far (rb (blk_far (rb (blk_far (rb (blk_far (rb BK416.out) NB416_436.out _)) NB416_436.out _)) NB416_436.out _)) NB416_436.out _)) hb); have n2_ := Aside0.mk (blk_below (rb (blk_far (rb (blk_far (rb (blk_far (rb (blk_far (rb BK423.out) NB423_436.out _)) NB423_436.out _)) NB423_436.out _)) NB423_436.out _)) hb); have n3_ := Aside0.mk (blk_below (rb (blk_put (cs := #[.int .i64 t431, .int .i64 t432, .int .i64 t433, .int .i64 0]) (rb (blk_put (cs := #[.int .i64 t431, .int .i64 t432, .int .i64 0, .int .i64 0]) (rb (blk_put (cs := #[.int .i64 t431, .int .i64 0, .int .i64 0, .int .i64 0]) (rb (blk_put (cs := #[.int .i64 0, .int .i64 0, .int .i64 0, .int .i64 0]) (rb BK436.out) 0 _ rfl)) 1 _ rfl)) 2 _ rfl)) 3 _ rfl)) hb); have n4_ := Aside0.mk (below_step bb hb); clear BK415; clear BK416; clear BK423; clear BK436; clear HB; have BK415 := n0_; have BK416 := n1_; have BK423 := n2_; have BK436 := n3_; have HB := n4_; clear n0_ n1_ n2_ n3_ n4_; (try clear hb); (try clear hb2); (try clear hk); (try clear hi)) | ((with_reducible refine gate_dst (N := 10) rfl ?_); refine box_event ?hg (N := 10) ?hd (cs := #[.int .i64 0, .int .i64 0, .int .i64 0, .int .i64 0]) (t := 23) ?hr ?_; (case hd => rfl); (case hg => rfl); (case hr => first | (go_simp; done) | (go_simp; rfl)); intro gb442 hg w72 hbox hb; have n0_ := Aside0.mk (blk_below (rb BK415.out) hb); have n1_ := Aside0.mk (blk_below (rb BK416.out) hb); have n2_ := Aside0.mk (blk_below (rb BK423.out) hb); have n3_ := Aside0.mk (blk_below (rb BK436.out) hb); have n4_ := Aside0.mk (below_step bb hb); have n5_ := Aside0.mk (hbox); have n6_ := Aside0.mk ((by rw [hg]; exact (below_size bb) : w.heap.size ≤ gb442)); have n7_ := Aside0.mk ((by rw [hg]; exact (below_size bb) : w.heap.size ≤ gb442)); have n8_ := Aside0.mk ((by rw [hg]; exact Nat.ne_of_lt (blk_lt (rb BK415.out)) : gb415 ≠ gb442)); have n9_ := Aside0.mk ((by rw [hg]; exact Nat.ne_of_gt (blk_lt (rb BK415.out)) : gb442 ≠ gb415)); have n10_ := Aside0.mk ((by rw [hg]; exact Nat.ne_of_lt (blk_lt (rb BK416.out)) : gb416 ≠ gb442)); have n11_ := Aside0.mk ((by rw [hg]; exact Nat.ne_of_gt (blk_lt (rb BK416.out)) : gb442 ≠ gb416)); have n12_ := Aside0.mk ((by rw [hg]; exact Nat.ne_of_lt (blk_lt (rb BK423.out)) : gb423 ≠ gb442)); have n13_ := Aside0.mk ((by rw [hg]; exact Nat.ne_of_gt (blk_lt (rb BK423.out)) : gb442 ≠ gb423)); have n14_ := Aside0.mk ((by rw [hg]; exact Nat.ne_of_lt (blk_lt (rb BK436.out)) : gb436 ≠ gb442)); have n15_ := Aside0.mk ((by rw [hg]; exact Nat.ne_of_gt (blk_lt (rb BK436.out)) : gb442 ≠ gb436)); clear BK415; clear BK416; clear BK423; clear BK436; clear HB; have BK415 := n0_; have BK416 := n1_; have BK423 := n2_; have BK436 := n3_; have HB := n4_; have BK442 := n5_; have GW442 := n6_; have GE442 := n7_; have NB415_442 := n8_; have NB442_415 := n9_; have NB416_442 := n10_; have NB442_416 := n11_; have NB423_442 := n12_; have NB442_423 := n13_; have NB436_442 := n14_; have NB442_436 := n15_; clear n0_ n1_ n2_ n3_ n4_ n5_ n6_ n7_ n8_ n9_ n10_ n11_ n12_ n13_ n14_ n15_; clear hb hbox hg; have hnb73 := NB442_415.out; have hnc73 := NB415_442.out; have hnb74 := NB442_416.out; have hnc74 := NB416_442.out; have hnb75 := NB442_423.out; have hnc75 := NB423_442.out; have hnb76 := NB442_436.out; have hnc76 := NB436_442.out; have hcz77_0 : w72.cell? ⟨gb442, 0, none⟩ = some (.int .i64 0) := (blk_cell BK442.out 0).trans rfl; have hcz77_1 : w72.cell? ⟨gb442, 1, none⟩ = some (.int .i64 0) := (blk_cell BK442.out 1).trans rfl; have hcz77_2 : w72.cell? ⟨gb442, 2, none⟩ = some (.int .i64 0) := (blk_cell BK442.out 2).trans rfl; have hcz77_3 : w72.cell? ⟨gb442, 3, none⟩ = some (.int .i64 0) := (blk_cell BK442.out 3).trans rfl; have hfz77_0 := blk_frozen BK442.out 0; have hfz77_1 := blk_frozen BK442.out 1; have hfz77_2 := blk_frozen BK442.out 2; have hfz77_3 := blk_frozen BK442.out 3))
       go_ret
       exact ⟨by first | rfl | (simp [errW_none, errW_some] <;> rfl) | (simp only [← hji3, ← hji4, ← hji6, ← hji53]; first | rfl | (simp [errW_none, errW_some] <;> rfl)) | (simp [*, errW_none, errW_some] <;> rfl), bb⟩
      ·rw [if_neg c56] at H
       have c56b0 : decide (a0_3 < a1_1) = false := decide_eq_false c56
       clear c56
       obtain rfl := Option.some.inj H
       have hnb78 := NB416_415.out
       have hnc78 := NB415_416.out
       have hnb79 := NB416_423.out
       have hnc79 := NB423_416.out
       have hcz80_0 : wc.cell? ⟨gb416, 0, none⟩ = some (.string a1_0) := (blk_cell BK416.out 0).trans rfl
       have hcz80_1 : wc.cell? ⟨gb416, 1, none⟩ = some (.int .i64 a1_1) := (blk_cell BK416.out 1).trans rfl
       have hcz80_2 : wc.cell? ⟨gb416, 2, none⟩ = some (.int .i64 a1_2) := (blk_cell BK416.out 2).trans rfl
       have hfz80_0 := blk_frozen BK416.out 0
       have hfz80_1 := blk_frozen BK416.out 1
       have hfz80_2 := blk_frozen BK416.out 2
       have hnb81 := NB415_423.out
       have hnc81 := NB423_415.out
       have hcz82_0 : wc.cell? ⟨gb415, 0, none⟩ = some (.int .i64 ((ji3) % 2147483648)) := (blk_cell BK415.out 0).trans rfl
       have hcz82_1 : wc.cell? ⟨gb415, 1, none⟩ = some (.int .i64 ((ji4) % 2147483648)) := (blk_cell BK415.out 1).trans rfl
       have hcz82_2 : wc.cell? ⟨gb415, 2, none⟩ = some (.int .i64 a0_2) := (blk_cell BK415.out 2).trans rfl
       have hcz82_3 : wc.cell? ⟨gb415, 3, none⟩ = some (.int .i64 a0_3) := (blk_cell BK415.out 3).trans rfl
       have hfz82_0 := blk_frozen BK415.out 0
       have hfz82_1 := blk_frozen BK415.out 1
       have hfz82_2 := blk_frozen BK415.out 2
       have hfz82_3 := blk_frozen BK415.out 3
       go_wp2_with (first | ((with_reducible refine gate_callee (f := 16) rfl ?_); refine goesL_ (some 67) rfl rfl Tryd.func16 (by kernel_rfl) rfl #[.string a1_0, .string t417, .int .i64 ji53, .int .i64 a1_2] rfl (by (try simp only [List.map_toArray, List.map_cons, List.map_nil]); first | done | (simp only [hji53]; rfl) | rfl | (simp only [List.length_drop, List.length_take]; rfl)) ?_; (with_reducible refine (token_Verify.calls kj7 a1_0 t417 ji53 a1_2 t431 t432 t433 t434 t435 _ A54.out).mono ?_); rintro e w83 ⟨rfl, hb⟩; refine ⟨_, rfl, ?_⟩; have n0_ := Aside0.mk (blk_below (rb BK415.out) hb); have n1_ := Aside0.mk (blk_below (rb BK416.out) hb); have n2_ := Aside0.mk (blk_below (rb BK423.out) hb); have n3_ := Aside0.mk (below_step bb hb); clear BK415; clear BK416; clear BK423; clear HB; have BK415 := n0_; have BK416 := n1_; have BK423 := n2_; have HB := n3_; clear n0_ n1_ n2_ n3_; (try clear hb); (try clear hb2); (try clear hk); (try clear hi)) | ((with_reducible refine gate_dst (N := 8) rfl ?_); refine box_event ?hg (N := 8) ?hd (cs := #[.int .i64 0, .int .i64 0, .int .i64 0, .int .i64 0]) (t := 23) ?hr ?_; (case hd => rfl); (case hg => rfl); (case hr => first | (go_simp; done) | (go_simp; rfl)); intro gb436 hg w84 hbox hb; have n0_ := Aside0.mk (blk_below (rb BK415.out) hb); have n1_ := Aside0.mk (blk_below (rb BK416.out) hb); have n2_ := Aside0.mk (blk_below (rb BK423.out) hb); have n3_ := Aside0.mk (below_step bb hb); have n4_ := Aside0.mk (hbox); have n5_ := Aside0.mk ((by rw [hg]; exact (below_size bb) : w.heap.size ≤ gb436)); have n6_ := Aside0.mk ((by rw [hg]; exact (below_size bb) : w.heap.size ≤ gb436)); have n7_ := Aside0.mk ((by rw [hg]; exact Nat.ne_of_lt (blk_lt (rb BK415.out)) : gb415 ≠ gb436)); have n8_ := Aside0.mk ((by rw [hg]; exact Nat.ne_of_gt (blk_lt (rb BK415.out)) : gb436 ≠ gb415)); have n9_ := Aside0.mk ((by rw [hg]; exact Nat.ne_of_lt (blk_lt (rb BK416.out)) : gb416 ≠ gb436)); have n10_ := Aside0.mk ((by rw [hg]; exact Nat.ne_of_gt (blk_lt (rb BK416.out)) : gb436 ≠ gb416)); have n11_ := Aside0.mk ((by rw [hg]; exact Nat.ne_of_lt (blk_lt (rb BK423.out)) : gb423 ≠ gb436)); have n12_ := Aside0.mk ((by rw [hg]; exact Nat.ne_of_gt (blk_lt (rb BK423.out)) : gb436 ≠ gb423)); clear BK415; clear BK416; clear BK423; clear HB; have BK415 := n0_; have BK416 := n1_; have BK423 := n2_; have HB := n3_; have BK436 := n4_; have GW436 := n5_; have GE436 := n6_; have NB415_436 := n7_; have NB436_415 := n8_; have NB416_436 := n9_; have NB436_416 := n10_; have NB423_436 := n11_; have NB436_423 := n12_; clear n0_ n1_ n2_ n3_ n4_ n5_ n6_ n7_ n8_ n9_ n10_ n11_ n12_; clear hb hbox hg; have hnb85 := NB436_415.out; have hnc85 := NB415_436.out; have hnb86 := NB436_416.out; have hnc86 := NB416_436.out; have hnb87 := NB436_423.out; have hnc87 := NB423_436.out; have hcz88_0 : w84.cell? ⟨gb436, 0, none⟩ = some (.int .i64 0) := (blk_cell BK436.out 0).trans rfl; have hcz88_1 : w84.cell? ⟨gb436, 1, none⟩ = some (.int .i64 0) := (blk_cell BK436.out 1).trans rfl; have hcz88_2 : w84.cell? ⟨gb436, 2, none⟩ = some (.int .i64 0) := (blk_cell BK436.out 2).trans rfl; have hcz88_3 : w84.cell? ⟨gb436, 3, none⟩ = some (.int .i64 0) := (blk_cell BK436.out 3).trans rfl; have hfz88_0 := blk_frozen BK436.out 0; have hfz88_1 := blk_frozen BK436.out 1; have hfz88_2 := blk_frozen BK436.out 2; have hfz88_3 := blk_frozen BK436.out 3; have hcz89_0 : w84.cell? ⟨gb416, 0, none⟩ = some (.string a1_0) := (blk_cell BK416.out 0).trans rfl; have hcz89_1 : w84.cell? ⟨gb416, 1, none⟩ = some (.int .i64 a1_1) := (blk_cell BK416.out 1).trans rfl; have hcz89_2 : w84.cell? ⟨gb416, 2, none⟩ = some (.int .i64 a1_2) := (blk_cell BK416.out 2).trans rfl; have hfz89_0 := blk_frozen BK416.out 0; have hfz89_1 := blk_frozen BK416.out 1; have hfz89_2 := blk_frozen BK416.out 2; have hcz90_0 : w84.cell? ⟨gb415, 0, none⟩ = some (.int .i64 ((ji3) % 2147483648)) := (blk_cell BK415.out 0).trans rfl; have hcz90_1 : w84.cell? ⟨gb415, 1, none⟩ = some (.int .i64 ((ji4) % 2147483648)) := (blk_cell BK415.out 1).trans rfl; have hcz90_2 : w84.cell? ⟨gb415, 2, none⟩ = some (.int .i64 a0_2) := (blk_cell BK415.out 2).trans rfl; have hcz90_3 : w84.cell? ⟨gb415, 3, none⟩ = some (.int .i64 a0_3) := (blk_cell BK415.out 3).trans rfl; have hfz90_0 := blk_frozen BK415.out 0; have hfz90_1 := blk_frozen BK415.out 1; have hfz90_2 := blk_frozen BK415.out 2; have hfz90_3 := blk_frozen BK415.out 3))
       go_ret
       exact ⟨by first | rfl | (simp [errW_none, errW_some] <;> rfl) | (simp only [← hji3, ← hji4, ← hji6, ← hji53]; first | rfl | (simp [errW_none, errW_some] <;> rfl)) | (simp [*, errW_none, errW_some] <;> rfl), bb⟩
     ·rw [if_neg c55] at H
      have c55b0 : (t435 == 22) = false := beq_eq_false_iff_ne.mpr c55
      have c55b1 : (t435 != 22) = true := bne_iff_ne.mpr c55
      exact absurd ((Option.some.inj H).trans hT_.out) (by decide)

end Go.Proofs.YtpbnfnaebdmagaaDoor.PT
