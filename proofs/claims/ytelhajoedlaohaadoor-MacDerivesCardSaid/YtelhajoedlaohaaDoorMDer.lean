/-
  The bytes of a value, plain: pack's are these.
  The bytes of a value, plain: the document's are these.
  The statement MacDerives: both derive the tag of the bytes of a list of the purpose and the number.
-/
import Derived.Test.YtelhajoedlaohaaDoorPDx0
import Derived.Test.YtelhajoedlaohaaDoorPDx8
import Derived.Test.YtelhajoedlaohaaDoorMPut
import Derived.Test.YtelhajoedlaohaaDoorMVal
import Derived.Test.YtelhajoedlaohaaDoorMRefD
import Derived.Test.YtelhajoedlaohaaDoorMRef
import Derived.Test.YtelhajoedlaohaaDoorMLow
import Derived.Test.YtelhajoedlaohaaDoorPDx19
import Derived.Test.YtelhajoedlaohaaDoorShaLaw
-- printed by a program of this session out of the translation; see NOTES.md
namespace Go.Proofs.YtelhajoedlaohaaDoor.PD
open Go.RowKit Go.Proofs.YtelhajoedlaohaaDoorW.PrintWords Go.Proofs.YtelhajoedlaohaaDoorW.PrintLast Go.Proofs.YtelhajoedlaohaaDoorW.PrintMore
attribute [local go_sem] max2_int min2_int max_two min_two max_three min_three max_four min_four   -- for this text's walks alone
set_option linter.unusedVariables false
set_option linter.unusedSimpArgs false

/-! ### mac_Derive: function 26 -/
def mac_Derive.f (k : Nat) (a0 : ByteArray) (a1 : ByteArray) (a2 : Int) : Option (ByteArray) := (pack_Str.f a1).bind fun bt121 => ((pack_Num.f a2).bind fun bt127 => ((pack_All.f (([(⟨bt121.1, bt121.2.1, bt121.2.2.1, bt121.2.2.2⟩ : S66), (⟨bt127.1, bt127.2.1, bt127.2.2.1, bt127.2.2.2⟩ : S66)] : List (S66)))).bind fun bt136 => ((pack_Put.f k bt136.1 bt136.2.1 bt136.2.2.1 bt136.2.2.2).bind fun bt142 => (if bt142.2 = 0 then ((mac_Tag.f a0 bt142.1).bind fun t144 => (some t144)) else (some (⟨#[]⟩ : ByteArray))))))
theorem mac_Derive.mono : ∀ a0 a1 a2 k, LeO (mac_Derive.f k a0 a1 a2) (mac_Derive.f (k + 1) a0 a1 a2) := by
  intro a0 a1 a2 k
  unfold mac_Derive.f
  repeat' first
      | (with_reducible exact pack_Put.mono _ _ _ _ _)
      | (with_reducible exact LeO.refl _)
      | (with_reducible exact LeO.none _)
      | (with_reducible refine LeO.ite ?_ ?_)
      | (with_reducible refine LeO.bind ?_ (fun _ => ?_))
      | exact pack_Put.mono _ _ _ _ _
      | exact LeO.none _
      | refine LeO.ite ?_ ?_
      | refine LeO.bind ?_ (fun _ => ?_)
set_option maxHeartbeats 8000000 in
set_option maxRecDepth 100000 in
theorem mac_Derive.calls (k : Nat) (a0 : ByteArray) (a1 : ByteArray) (a2 : Int) (r : ByteArray) (w : World) (h : mac_Derive.f k a0 a1 a2 = some r) (HTab : Aside0 (Sha.Tab w) := by first | exact HTab | exact Aside0.mk (HTab.out.step (by repeat (first | (with_reducible first | exact HB.out | apply below_alloc | apply pw_below_drewN | apply below_drew1) | exact HB.out)))) :
    Calls Tryd.prog 26 #[.string a0, .string a1, .int .i64 a2] w fun e w' => e = .returned (.string r) ∧ Below w.heap.size w w' := by
  have HB := Aside0.mk (Below.refl w.heap.size w)
  have H : ((pack_Str.f a1).bind fun bt121 => ((pack_Num.f a2).bind fun bt127 => ((pack_All.f (([(⟨bt121.1, bt121.2.1, bt121.2.2.1, bt121.2.2.2⟩ : S66), (⟨bt127.1, bt127.2.1, bt127.2.2.1, bt127.2.2.2⟩ : S66)] : List (S66)))).bind fun bt136 => ((pack_Put.f k bt136.1 bt136.2.1 bt136.2.2.1 bt136.2.2.2).bind fun bt142 => (if bt142.2 = 0 then ((mac_Tag.f a0 bt142.1).bind fun t144 => (some t144)) else (some (⟨#[]⟩ : ByteArray))))))) = some r := h
  clear h
  replace H := Option.bind_eq_some_iff.mp H
  obtain ⟨⟨t121, t122, t123, t124⟩, A40, H⟩ := H
  replace H : ((pack_Num.f a2).bind fun bt127 => ((pack_All.f (([(⟨t121, t122, t123, t124⟩ : S66), (⟨bt127.1, bt127.2.1, bt127.2.2.1, bt127.2.2.2⟩ : S66)] : List (S66)))).bind fun bt136 => ((pack_Put.f k bt136.1 bt136.2.1 bt136.2.2.1 bt136.2.2.2).bind fun bt142 => (if bt142.2 = 0 then ((mac_Tag.f a0 bt142.1).bind fun t144 => (some t144)) else (some (⟨#[]⟩ : ByteArray)))))) = some r := H
  have A4 := Aside0.mk A40
  clear A40
  replace H := Option.bind_eq_some_iff.mp H
  obtain ⟨⟨t127, t128, t129, t130⟩, A50, H⟩ := H
  replace H : ((pack_All.f (([(⟨t121, t122, t123, t124⟩ : S66), (⟨t127, t128, t129, t130⟩ : S66)] : List (S66)))).bind fun bt136 => ((pack_Put.f k bt136.1 bt136.2.1 bt136.2.2.1 bt136.2.2.2).bind fun bt142 => (if bt142.2 = 0 then ((mac_Tag.f a0 bt142.1).bind fun t144 => (some t144)) else (some (⟨#[]⟩ : ByteArray))))) = some r := H
  have A5 := Aside0.mk A50
  clear A50
  obtain ⟨y133, hy133⟩ : ∃ y_ : List (S66), y_ = (([(⟨t121, t122, t123, t124⟩ : S66), (⟨t127, t128, t129, t130⟩ : S66)] : List (S66))) := ⟨_, rfl⟩
  replace H : ((pack_All.f y133).bind fun bt136 => ((pack_Put.f k bt136.1 bt136.2.1 bt136.2.2.1 bt136.2.2.2).bind fun bt142 => (if bt142.2 = 0 then ((mac_Tag.f a0 bt142.1).bind fun t144 => (some t144)) else (some (⟨#[]⟩ : ByteArray))))) = some r := by first | (rw [hy133]; with_reducible exact H) | (have H2_ := (Option.bind_some _ _).symm.trans H; rw [hy133]; with_reducible exact H2_) | (have H2_ := (Option.bind_some _ _).symm.trans H; with_reducible exact H2_) | with_reducible exact H | (rw [hy133]; exact H) | exact H
  have Ny133 := Aside0.mk hy133
  clear hy133
  replace H := Option.bind_eq_some_iff.mp H
  obtain ⟨⟨t136, t137, t138, t139⟩, A60, H⟩ := H
  replace H : ((pack_Put.f k t136 t137 t138 t139).bind fun bt142 => (if bt142.2 = 0 then ((mac_Tag.f a0 bt142.1).bind fun t144 => (some t144)) else (some (⟨#[]⟩ : ByteArray)))) = some r := H
  have A6 := Aside0.mk A60
  clear A60
  replace H := Option.bind_eq_some_iff.mp H
  obtain ⟨⟨t142, t143⟩, A70, H⟩ := H
  replace H : (if t143 = 0 then ((mac_Tag.f a0 t142).bind fun t144 => (some t144)) else (some (⟨#[]⟩ : ByteArray))) = some r := H
  have A7 := Aside0.mk A70
  clear A70
  by_cases c8 : t143 = 0
  · rw [if_pos c8] at H
    have c8b0 : (t143 == 0) = true := beq_iff_eq.mpr c8
    have c8b1 : (t143 != 0) = false := bne_eq_false_iff_eq.mpr c8
    clear c8
    replace H := Option.bind_eq_some_iff.mp H
    obtain ⟨t144, A90, H⟩ := H
    replace H : (some t144) = some r := H
    have A9 := Aside0.mk A90
    clear A90
    obtain rfl := Option.some.inj H
    go_enter Tryd.func26, Tryd.ntmps26
    go_wp2_with (first | ((with_reducible refine gate_callee (f := 43) rfl ?_); refine goesL_ (some 11) rfl rfl Tryd.func43 (by kernel_rfl) rfl #[.string a1] rfl (by (try simp only [List.map_toArray, List.map_cons, List.map_nil]); first | done | rfl | (simp only [List.length_drop, List.length_take]; rfl)) ?_; (with_reducible refine (pack_Str.calls a1 t121 t122 t123 t124 _ A4.out).mono ?_); rintro e w10 ⟨v125, rfl, ho0, hb⟩; refine ⟨_, rfl, ?_⟩; have n0_ := Aside0.mk (Kd.N_lower (Kd.N_mono (ok' := fun k_ => True) (Kd.R_N (Kd.R_bound ho0)) (fun k_ hk_ => trivial)) (below_size (by repeat (first | (with_reducible first | exact HB.out | apply below_alloc | apply pw_below_drewN | apply below_drew1) | exact HB.out)))); have n1_ := Aside0.mk (below_step (by repeat (first | (with_reducible first | exact HB.out | apply below_alloc | apply pw_below_drewN | apply below_drew1) | exact HB.out)) hb); clear HB; have HO126 := n0_; have HB := n1_; clear n0_ n1_; (try clear hb); (try clear hb2); (try clear hk); (try clear hi); (try clear ho0)) | ((with_reducible refine gate_callee (f := 44) rfl ?_); refine goesL_ (some 13) rfl rfl Tryd.func44 (by kernel_rfl) rfl #[.int .i64 a2] rfl (by (try simp only [List.map_toArray, List.map_cons, List.map_nil]); first | done | rfl | (simp only [List.length_drop, List.length_take]; rfl)) ?_; (with_reducible refine (pack_Num.calls a2 t127 t128 t129 t130 _ A5.out).mono ?_); rintro e w11 ⟨v131, rfl, ho0, hb⟩; refine ⟨_, rfl, ?_⟩; have n0_ := Aside0.mk (Kd.N_elder' (by (with_reducible repeat (first | apply Kd.N_alloc | apply Kd.N_drewN | apply Kd.N_drew)); exact HO126.out) (by first | exact Kd.N_base ho0 | exact Kd.N_base (Kd.R_N ho0)) hb); have n1_ := Aside0.mk (Kd.N_lower (Kd.N_mono (ok' := fun k_ => some k_ ≠ (v125 : Value).ownBlock) (Kd.R_N (Kd.R_bound ho0)) (fun k_ hk_ => (Kd.fresh' (Kd.N_lt (by (with_reducible repeat (first | apply Kd.N_alloc | apply Kd.N_drewN | apply Kd.N_drew)); exact HO126.out)) k_ hk_.2.1))) (below_size (by repeat (first | (with_reducible first | exact HB.out | apply below_alloc | apply pw_below_drewN | apply below_drew1) | exact HB.out)))); have n2_ := Aside0.mk (below_step (by repeat (first | (with_reducible first | exact HB.out | apply below_alloc | apply pw_below_drewN | apply below_drew1) | exact HB.out)) hb); clear HO126; clear HB; have HO126 := n0_; have HO132 := n1_; have HB := n2_; clear n0_ n1_ n2_; (try clear hb); (try clear hb2); (try clear hk); (try clear hi); (try clear ho0); obtain ⟨Ao12, co12, eo12⟩ := Kd.N_slice HO126.out; subst eo12; obtain ⟨Ao13, co13, eo13⟩ := Kd.N_slice HO132.out; subst eo13) | ((with_reducible refine gate_dst (N := 14) rfl ?_); refine Kd.N_lit k66 _ 66 ?hg (N' := 14) ?hd (xs := ([(⟨t121, t122, t123, t124⟩ : S66), (⟨t127, t128, t129, t130⟩ : S66)] : List (S66))) (inner := [.int .i64 t121, .int .i64 t122, .string t123, .slice Ao12 t124.length co12, .int .i64 t127, .int .i64 t128, .string t129, .slice Ao13 t130.length co13]) (ok := (fun _ => True)) (okp := (fun _ => True)) ?hr ?hp (fun _ hk => hk) ((show ∀ k_, w11.heap.size ≤ k_ → (fun _ => True) k_ from fun k_ hk => trivial) _ (Nat.le_refl _)) (Below.refl _ _) (Nat.le_refl _) (by simp) ?_; (case hd => rfl); (case hg => rfl); (case hr => first | (go_simp; done) | (go_simp; rfl)); (case hp => exact (Reps.c4 (show Kd.FK k66 _ _ (⟨t121, t122, t123, t124⟩ : S66) [.int .i64 t121, .int .i64 t122, .string t123, .slice Ao12 t124.length co12] from (k66_mkF _ _ (⟨t121, t122, t123, t124⟩ : S66) (Kd.N_reads' (Kd.N_mono (ok' := (fun _ => True)) (HO126.out) (fun k_ hk => trivial))).2.1 (Kd.N_F (Kd.N_mono (ok' := (fun _ => True)) (HO126.out) (fun k_ hk => trivial))))) (Reps.c4 (show Kd.FK k66 _ _ (⟨t127, t128, t129, t130⟩ : S66) [.int .i64 t127, .int .i64 t128, .string t129, .slice Ao13 t130.length co13] from (k66_mkF _ _ (⟨t127, t128, t129, t130⟩ : S66) (Kd.N_reads' (Kd.N_mono (ok' := (fun _ => True)) (HO132.out) (fun k_ hk => trivial))).2.1 (Kd.N_F (Kd.N_mono (ok' := (fun _ => True)) (HO132.out) (fun k_ hk => trivial))))) (Reps.none _ _)))); intro v134 w14 ho15 hb hg_ hnew_; clear hg_ hnew_; (first | rw [← Ny133.out] at ho15 | (simp only [Int.reduceToNat] at ho15; rw [← Ny133.out] at ho15)); have n0_ := Aside0.mk (Kd.N_lower ho15 (below_size (by repeat (first | (with_reducible first | exact HB.out | apply below_alloc | apply pw_below_drewN | apply below_drew1) | exact HB.out)))); have n1_ := Aside0.mk (below_step (by repeat (first | (with_reducible first | exact HB.out | apply below_alloc | apply pw_below_drewN | apply below_drew1) | exact HB.out)) hb); clear HB; clear HO126; clear HO132; have HO135 := n0_; have HB := n1_; clear n0_ n1_; clear hb ho15; obtain ⟨Ao16, co16, eo16⟩ := Kd.N_slice HO135.out; subst eo16) | ((with_reducible refine gate_callee (f := 42) rfl ?_); refine goesL_ (some 15) rfl rfl Tryd.func42 (by kernel_rfl) rfl #[.slice Ao16 y133.length co16] rfl (by (try simp only [List.map_toArray, List.map_cons, List.map_nil]); first | done | rfl | (simp only [List.length_drop, List.length_take]; rfl)) ?_; (with_reducible refine (pack_All.calls (fun k_ => True) _ _ y133 t136 t137 t138 t139 _ ?side1 A6.out).mono ?_); (case side1 => exact Kd.N_V (HO135.out)); rintro e w17 ⟨v140, rfl, ho0, hb⟩; refine ⟨_, rfl, ?_⟩; have n0_ := Aside0.mk (Kd.N_elder' (by (with_reducible repeat (first | apply Kd.N_alloc | apply Kd.N_drewN | apply Kd.N_drew)); exact HO135.out) (by first | exact Kd.N_base ho0 | exact Kd.N_base (Kd.R_N ho0)) hb); have n1_ := Aside0.mk (Kd.N_lower (Kd.N_mono (ok' := fun k_ => True) ho0 (fun k_ hk_ => trivial)) (below_size (by repeat (first | (with_reducible first | exact HB.out | apply below_alloc | apply pw_below_drewN | apply below_drew1) | exact HB.out)))); have n2_ := Aside0.mk (below_step (by repeat (first | (with_reducible first | exact HB.out | apply below_alloc | apply pw_below_drewN | apply below_drew1) | exact HB.out)) hb); clear HO135; clear HB; have HO135 := n0_; have HO141 := n1_; have HB := n2_; clear n0_ n1_ n2_; (try clear hb); (try clear hb2); (try clear hk); (try clear hi); (try clear ho0); obtain ⟨Ao18, co18, eo18⟩ := Kd.N_slice HO141.out; subst eo18) | ((with_reducible refine gate_callee (f := 41) rfl ?_); refine goesL_ (some 16) rfl rfl Tryd.func41 (by kernel_rfl) rfl #[.agg #[.int .i64 t136, .int .i64 t137, .string t138, .slice Ao18 t139.length co18]] rfl (by (try simp only [List.map_toArray, List.map_cons, List.map_nil]); first | done | rfl | (simp only [List.length_drop, List.length_take]; rfl)) ?_; (with_reducible refine (pack_Put.calls k t136 t137 t138 _ _ t139 t142 t143 _ ?side1 ?side2 A7.out).mono ?_); (case side1 => repeat (first | exact (Kd.N_reads' HO141.out).2.2 | (with_reducible refine Kd.C_alloc ?_ _) | (with_reducible refine Kd.C_drewN ?_ _) | (with_reducible refine Kd.C_drew ?_))); (case side2 => exact (Kd.N_reads' HO141.out).2.1); rintro e w19 ⟨rfl, hb⟩; refine ⟨_, rfl, ?_⟩; have n0_ := Aside0.mk (Kd.N_below (by (with_reducible repeat (first | apply Kd.N_alloc | apply Kd.N_drewN | apply Kd.N_drew)); exact HO135.out) hb); have n1_ := Aside0.mk (Kd.N_below (by (with_reducible repeat (first | apply Kd.N_alloc | apply Kd.N_drewN | apply Kd.N_drew)); exact HO141.out) hb); have n2_ := Aside0.mk (below_step (by repeat (first | (with_reducible first | exact HB.out | apply below_alloc | apply pw_below_drewN | apply below_drew1) | exact HB.out)) hb); clear HO135; clear HO141; clear HB; have HO135 := n0_; have HO141 := n1_; have HB := n2_; clear n0_ n1_ n2_; (try clear hb); (try clear hb2); (try clear hk); (try clear hi)) | ((with_reducible refine gate_callee (f := 24) rfl ?_); refine goesL_ (some 23) rfl rfl Tryd.func24 (by kernel_rfl) rfl #[.string a0, .string t142] rfl (by (try simp only [List.map_toArray, List.map_cons, List.map_nil]); first | done | rfl | (simp only [List.length_drop, List.length_take]; rfl)) ?_; (with_reducible refine (mac_Tag.calls a0 t142 t144 _ A9.out).mono ?_); rintro e w20 ⟨rfl, hb⟩; refine ⟨_, rfl, ?_⟩; have n0_ := Aside0.mk (Kd.N_below (by (with_reducible repeat (first | apply Kd.N_alloc | apply Kd.N_drewN | apply Kd.N_drew)); exact HO135.out) hb); have n1_ := Aside0.mk (Kd.N_below (by (with_reducible repeat (first | apply Kd.N_alloc | apply Kd.N_drewN | apply Kd.N_drew)); exact HO141.out) hb); have n2_ := Aside0.mk (below_step (by repeat (first | (with_reducible first | exact HB.out | apply below_alloc | apply pw_below_drewN | apply below_drew1) | exact HB.out)) hb); clear HO135; clear HO141; clear HB; have HO135 := n0_; have HO141 := n1_; have HB := n2_; clear n0_ n1_ n2_; (try clear hb); (try clear hb2); (try clear hk); (try clear hi)))
    go_ret
    exact ⟨by first | rfl | (simp [errW_none, errW_some] <;> rfl) | (simp [*, errW_none, errW_some] <;> rfl), by repeat (first | (with_reducible first | exact HB.out | apply below_alloc | apply pw_below_drewN | apply below_drew1) | exact HB.out)⟩
  · rw [if_neg c8] at H
    have c8b0 : (t143 == 0) = false := beq_eq_false_iff_ne.mpr c8
    have c8b1 : (t143 != 0) = true := bne_iff_ne.mpr c8
    obtain rfl := Option.some.inj H
    go_enter Tryd.func26, Tryd.ntmps26
    go_wp2_with (first | ((with_reducible refine gate_callee (f := 43) rfl ?_); refine goesL_ (some 11) rfl rfl Tryd.func43 (by kernel_rfl) rfl #[.string a1] rfl (by (try simp only [List.map_toArray, List.map_cons, List.map_nil]); first | done | rfl | (simp only [List.length_drop, List.length_take]; rfl)) ?_; (with_reducible refine (pack_Str.calls a1 t121 t122 t123 t124 _ A4.out).mono ?_); rintro e w21 ⟨v125, rfl, ho0, hb⟩; refine ⟨_, rfl, ?_⟩; have n0_ := Aside0.mk (Kd.N_lower (Kd.N_mono (ok' := fun k_ => True) (Kd.R_N (Kd.R_bound ho0)) (fun k_ hk_ => trivial)) (below_size (by repeat (first | (with_reducible first | exact HB.out | apply below_alloc | apply pw_below_drewN | apply below_drew1) | exact HB.out)))); have n1_ := Aside0.mk (below_step (by repeat (first | (with_reducible first | exact HB.out | apply below_alloc | apply pw_below_drewN | apply below_drew1) | exact HB.out)) hb); clear HB; have HO126 := n0_; have HB := n1_; clear n0_ n1_; (try clear hb); (try clear hb2); (try clear hk); (try clear hi); (try clear ho0)) | ((with_reducible refine gate_callee (f := 44) rfl ?_); refine goesL_ (some 13) rfl rfl Tryd.func44 (by kernel_rfl) rfl #[.int .i64 a2] rfl (by (try simp only [List.map_toArray, List.map_cons, List.map_nil]); first | done | rfl | (simp only [List.length_drop, List.length_take]; rfl)) ?_; (with_reducible refine (pack_Num.calls a2 t127 t128 t129 t130 _ A5.out).mono ?_); rintro e w22 ⟨v131, rfl, ho0, hb⟩; refine ⟨_, rfl, ?_⟩; have n0_ := Aside0.mk (Kd.N_elder' (by (with_reducible repeat (first | apply Kd.N_alloc | apply Kd.N_drewN | apply Kd.N_drew)); exact HO126.out) (by first | exact Kd.N_base ho0 | exact Kd.N_base (Kd.R_N ho0)) hb); have n1_ := Aside0.mk (Kd.N_lower (Kd.N_mono (ok' := fun k_ => some k_ ≠ (v125 : Value).ownBlock) (Kd.R_N (Kd.R_bound ho0)) (fun k_ hk_ => (Kd.fresh' (Kd.N_lt (by (with_reducible repeat (first | apply Kd.N_alloc | apply Kd.N_drewN | apply Kd.N_drew)); exact HO126.out)) k_ hk_.2.1))) (below_size (by repeat (first | (with_reducible first | exact HB.out | apply below_alloc | apply pw_below_drewN | apply below_drew1) | exact HB.out)))); have n2_ := Aside0.mk (below_step (by repeat (first | (with_reducible first | exact HB.out | apply below_alloc | apply pw_below_drewN | apply below_drew1) | exact HB.out)) hb); clear HO126; clear HB; have HO126 := n0_; have HO132 := n1_; have HB := n2_; clear n0_ n1_ n2_; (try clear hb); (try clear hb2); (try clear hk); (try clear hi); (try clear ho0); obtain ⟨Ao23, co23, eo23⟩ := Kd.N_slice HO126.out; subst eo23; obtain ⟨Ao24, co24, eo24⟩ := Kd.N_slice HO132.out; subst eo24) | ((with_reducible refine gate_dst (N := 14) rfl ?_); refine Kd.N_lit k66 _ 66 ?hg (N' := 14) ?hd (xs := ([(⟨t121, t122, t123, t124⟩ : S66), (⟨t127, t128, t129, t130⟩ : S66)] : List (S66))) (inner := [.int .i64 t121, .int .i64 t122, .string t123, .slice Ao23 t124.length co23, .int .i64 t127, .int .i64 t128, .string t129, .slice Ao24 t130.length co24]) (ok := (fun _ => True)) (okp := (fun _ => True)) ?hr ?hp (fun _ hk => hk) ((show ∀ k_, w22.heap.size ≤ k_ → (fun _ => True) k_ from fun k_ hk => trivial) _ (Nat.le_refl _)) (Below.refl _ _) (Nat.le_refl _) (by simp) ?_; (case hd => rfl); (case hg => rfl); (case hr => first | (go_simp; done) | (go_simp; rfl)); (case hp => exact (Reps.c4 (show Kd.FK k66 _ _ (⟨t121, t122, t123, t124⟩ : S66) [.int .i64 t121, .int .i64 t122, .string t123, .slice Ao23 t124.length co23] from (k66_mkF _ _ (⟨t121, t122, t123, t124⟩ : S66) (Kd.N_reads' (Kd.N_mono (ok' := (fun _ => True)) (HO126.out) (fun k_ hk => trivial))).2.1 (Kd.N_F (Kd.N_mono (ok' := (fun _ => True)) (HO126.out) (fun k_ hk => trivial))))) (Reps.c4 (show Kd.FK k66 _ _ (⟨t127, t128, t129, t130⟩ : S66) [.int .i64 t127, .int .i64 t128, .string t129, .slice Ao24 t130.length co24] from (k66_mkF _ _ (⟨t127, t128, t129, t130⟩ : S66) (Kd.N_reads' (Kd.N_mono (ok' := (fun _ => True)) (HO132.out) (fun k_ hk => trivial))).2.1 (Kd.N_F (Kd.N_mono (ok' := (fun _ => True)) (HO132.out) (fun k_ hk => trivial))))) (Reps.none _ _)))); intro v134 w25 ho26 hb hg_ hnew_; clear hg_ hnew_; (first | rw [← Ny133.out] at ho26 | (simp only [Int.reduceToNat] at ho26; rw [← Ny133.out] at ho26)); have n0_ := Aside0.mk (Kd.N_lower ho26 (below_size (by repeat (first | (with_reducible first | exact HB.out | apply below_alloc | apply pw_below_drewN | apply below_drew1) | exact HB.out)))); have n1_ := Aside0.mk (below_step (by repeat (first | (with_reducible first | exact HB.out | apply below_alloc | apply pw_below_drewN | apply below_drew1) | exact HB.out)) hb); clear HB; clear HO126; clear HO132; have HO135 := n0_; have HB := n1_; clear n0_ n1_; clear hb ho26; obtain ⟨Ao27, co27, eo27⟩ := Kd.N_slice HO135.out; subst eo27) | ((with_reducible refine gate_callee (f := 42) rfl ?_); refine goesL_ (some 15) rfl rfl Tryd.func42 (by kernel_rfl) rfl #[.slice Ao27 y133.length co27] rfl (by (try simp only [List.map_toArray, List.map_cons, List.map_nil]); first | done | rfl | (simp only [List.length_drop, List.length_take]; rfl)) ?_; (with_reducible refine (pack_All.calls (fun k_ => True) _ _ y133 t136 t137 t138 t139 _ ?side1 A6.out).mono ?_); (case side1 => exact Kd.N_V (HO135.out)); rintro e w28 ⟨v140, rfl, ho0, hb⟩; refine ⟨_, rfl, ?_⟩; have n0_ := Aside0.mk (Kd.N_elder' (by (with_reducible repeat (first | apply Kd.N_alloc | apply Kd.N_drewN | apply Kd.N_drew)); exact HO135.out) (by first | exact Kd.N_base ho0 | exact Kd.N_base (Kd.R_N ho0)) hb); have n1_ := Aside0.mk (Kd.N_lower (Kd.N_mono (ok' := fun k_ => True) ho0 (fun k_ hk_ => trivial)) (below_size (by repeat (first | (with_reducible first | exact HB.out | apply below_alloc | apply pw_below_drewN | apply below_drew1) | exact HB.out)))); have n2_ := Aside0.mk (below_step (by repeat (first | (with_reducible first | exact HB.out | apply below_alloc | apply pw_below_drewN | apply below_drew1) | exact HB.out)) hb); clear HO135; clear HB; have HO135 := n0_; have HO141 := n1_; have HB := n2_; clear n0_ n1_ n2_; (try clear hb); (try clear hb2); (try clear hk); (try clear hi); (try clear ho0); obtain ⟨Ao29, co29, eo29⟩ := Kd.N_slice HO141.out; subst eo29) | ((with_reducible refine gate_callee (f := 41) rfl ?_); refine goesL_ (some 16) rfl rfl Tryd.func41 (by kernel_rfl) rfl #[.agg #[.int .i64 t136, .int .i64 t137, .string t138, .slice Ao29 t139.length co29]] rfl (by (try simp only [List.map_toArray, List.map_cons, List.map_nil]); first | done | rfl | (simp only [List.length_drop, List.length_take]; rfl)) ?_; (with_reducible refine (pack_Put.calls k t136 t137 t138 _ _ t139 t142 t143 _ ?side1 ?side2 A7.out).mono ?_); (case side1 => repeat (first | exact (Kd.N_reads' HO141.out).2.2 | (with_reducible refine Kd.C_alloc ?_ _) | (with_reducible refine Kd.C_drewN ?_ _) | (with_reducible refine Kd.C_drew ?_))); (case side2 => exact (Kd.N_reads' HO141.out).2.1); rintro e w30 ⟨rfl, hb⟩; refine ⟨_, rfl, ?_⟩; have n0_ := Aside0.mk (Kd.N_below (by (with_reducible repeat (first | apply Kd.N_alloc | apply Kd.N_drewN | apply Kd.N_drew)); exact HO135.out) hb); have n1_ := Aside0.mk (Kd.N_below (by (with_reducible repeat (first | apply Kd.N_alloc | apply Kd.N_drewN | apply Kd.N_drew)); exact HO141.out) hb); have n2_ := Aside0.mk (below_step (by repeat (first | (with_reducible first | exact HB.out | apply below_alloc | apply pw_below_drewN | apply below_drew1) | exact HB.out)) hb); clear HO135; clear HO141; clear HB; have HO135 := n0_; have HO141 := n1_; have HB := n2_; clear n0_ n1_ n2_; (try clear hb); (try clear hb2); (try clear hk); (try clear hi)))
    go_ret
    exact ⟨by first | rfl | (simp [errW_none, errW_some] <;> rfl) | (simp [*, errW_none, errW_some] <;> rfl), by repeat (first | (with_reducible first | exact HB.out | apply below_alloc | apply pw_below_drewN | apply below_drew1) | exact HB.out)⟩

end Go.Proofs.YtelhajoedlaohaaDoor.PD
-- printed by a program of this session out of the translation; see NOTES.md
namespace Go.Proofs.YtelhajoedlaohaaDoor.PD
open Go.RowKit Go.Proofs.YtelhajoedlaohaaDoorW.PrintWords Go.Proofs.YtelhajoedlaohaaDoorW.PrintLast Go.Proofs.YtelhajoedlaohaaDoorW.PrintMore
attribute [local go_sem] max2_int min2_int max_two min_two max_three min_three max_four min_four   -- for this text's walks alone
set_option linter.unusedVariables false
set_option linter.unusedSimpArgs false

/-! ### precinctlaw05_MacDerives: function 9 -/
def precinctlaw05_MacDerives.f (k : Nat) (a0 : ByteArray) (a1 : ByteArray) (a2 : Int) : Option (Bool) := if 0 ≤ (mn (a0.size : Int) 3000) then (if (mn (a0.size : Int) 3000) ≤ (a0.size : Int) then ((mac_Derive.f k (⟨#[107]⟩ : ByteArray) (⟨#[112]⟩ : ByteArray) 1).bind fun t170 => (if (t170.size : Int) = 32 then ((mac_Derive.f k (a0.extract 0 ((mn (a0.size : Int) 3000) : Int).toNat) a1 a2).bind fun t171 => ((precinctref05_Derive.f k (a0.extract 0 ((mn (a0.size : Int) 3000) : Int).toNat) a1 a2).bind fun t172 => (some (t171.toList == t172.toList)))) else (some false))) else (none)) else (none)
theorem precinctlaw05_MacDerives.mono : ∀ a0 a1 a2 k, LeO (precinctlaw05_MacDerives.f k a0 a1 a2) (precinctlaw05_MacDerives.f (k + 1) a0 a1 a2) := by
  intro a0 a1 a2 k
  unfold precinctlaw05_MacDerives.f
  repeat' first
      | (with_reducible exact mac_Derive.mono _ _ _ _)
      | (with_reducible exact precinctref05_Derive.mono _ _ _ _)
      | (with_reducible exact LeO.refl _)
      | (with_reducible exact LeO.none _)
      | (with_reducible refine LeO.ite ?_ ?_)
      | (with_reducible refine LeO.bind ?_ (fun _ => ?_))
      | exact mac_Derive.mono _ _ _ _
      | exact precinctref05_Derive.mono _ _ _ _
      | exact LeO.none _
      | refine LeO.ite ?_ ?_
      | refine LeO.bind ?_ (fun _ => ?_)
set_option maxHeartbeats 8000000 in
set_option maxRecDepth 100000 in
theorem precinctlaw05_MacDerives.calls (k : Nat) (a0 : ByteArray) (a1 : ByteArray) (a2 : Int) (r : Bool) (w : World) (hT_ : Aside0 (r = true)) (h : precinctlaw05_MacDerives.f k a0 a1 a2 = some r) (HTab : Aside0 (Sha.Tab w) := by first | exact HTab | exact Aside0.mk (HTab.out.step (by repeat (first | (with_reducible first | exact HB.out | apply below_alloc | apply pw_below_drewN | apply below_drew1) | exact HB.out)))) :
    Calls Tryd.prog 9 #[.string a0, .string a1, .int .i64 a2] w fun e w' => e = .returned (.bool r) ∧ Below w.heap.size w w' := by
  have HB := Aside0.mk (Below.refl w.heap.size w)
  have H : (if 0 ≤ (mn (a0.size : Int) 3000) then (if (mn (a0.size : Int) 3000) ≤ (a0.size : Int) then ((mac_Derive.f k (⟨#[107]⟩ : ByteArray) (⟨#[112]⟩ : ByteArray) 1).bind fun t170 => (if (t170.size : Int) = 32 then ((mac_Derive.f k (a0.extract 0 ((mn (a0.size : Int) 3000) : Int).toNat) a1 a2).bind fun t171 => ((precinctref05_Derive.f k (a0.extract 0 ((mn (a0.size : Int) 3000) : Int).toNat) a1 a2).bind fun t172 => (some (t171.toList == t172.toList)))) else (some false))) else (none)) else (none)) = some r := h
  clear h
  obtain ⟨ji4, hji4⟩ : ∃ j_ : Int, (mn (a0.size : Int) 3000) = j_ := ⟨_, rfl⟩
  replace H : (if 0 ≤ (ji4) then (if (ji4) ≤ (a0.size : Int) then ((mac_Derive.f k (⟨#[107]⟩ : ByteArray) (⟨#[112]⟩ : ByteArray) 1).bind fun t170 => (if (t170.size : Int) = 32 then ((mac_Derive.f k (a0.extract 0 ((ji4) : Int).toNat) a1 a2).bind fun t171 => ((precinctref05_Derive.f k (a0.extract 0 ((ji4) : Int).toNat) a1 a2).bind fun t172 => (some (t171.toList == t172.toList)))) else (some false))) else (none)) else (none)) = some r := by first | (rw [hji4] at H; exact H) | (simp only [hji4] at H ⊢; exact H)
  (try (have hji4h : ji4 ≤ 3000 := by (rw [← hji4]; unfold mn; (repeat' split) <;> omega)))
  (try (have hji4g : ji4 ≤ 64 := by omega))
  (try (have hji4l : 0 ≤ ji4 := by (rw [← hji4]; unfold mn; (repeat' split) <;> omega)))
  (try (have hji4m : 0 ≤ ji4 := by omega))
  have hji4_ : (if 3000 < (a0.size : Int) then 3000 else (a0.size : Int)) = ji4 := hji4
  by_cases c5 : 0 ≤ (ji4)
  · rw [if_pos c5] at H
    have c5b0 := eq_true c5
    have c5b1 : decide (0 ≤ (ji4)) = true := decide_eq_true c5
    clear c5
    by_cases c6 : (ji4) ≤ (a0.size : Int)
    · rw [if_pos c6] at H
      have c6b0 := eq_true c6
      have c6b1 : decide ((ji4) ≤ (a0.size : Int)) = true := decide_eq_true c6
      clear c6
      replace H := Option.bind_eq_some_iff.mp H
      obtain ⟨t170, A70, H⟩ := H
      replace H : (if (t170.size : Int) = 32 then ((mac_Derive.f k (a0.extract 0 ((ji4) : Int).toNat) a1 a2).bind fun t171 => ((precinctref05_Derive.f k (a0.extract 0 ((ji4) : Int).toNat) a1 a2).bind fun t172 => (some (t171.toList == t172.toList)))) else (some false)) = some r := H
      have A7 := Aside0.mk A70
      clear A70
      by_cases c8 : (t170.size : Int) = 32
      · rw [if_pos c8] at H
        have c8b0 : ((t170.size : Int) == 32) = true := beq_iff_eq.mpr c8
        have c8b1 : ((t170.size : Int) != 32) = false := bne_eq_false_iff_eq.mpr c8
        clear c8
        replace H := Option.bind_eq_some_iff.mp H
        obtain ⟨t171, A90, H⟩ := H
        replace H : ((precinctref05_Derive.f k (a0.extract 0 ((ji4) : Int).toNat) a1 a2).bind fun t172 => (some (t171.toList == t172.toList))) = some r := H
        have A9 := Aside0.mk A90
        clear A90
        replace H := Option.bind_eq_some_iff.mp H
        obtain ⟨t172, A100, H⟩ := H
        replace H : (some (t171.toList == t172.toList)) = some r := H
        have A10 := Aside0.mk A100
        clear A100
        obtain rfl := Option.some.inj H
        go_enter Tryd.func9, Tryd.ntmps9
        go_wp2_with (first | ((with_reducible refine gate_callee (f := 26) rfl ?_); refine goesL_ (some 12) rfl rfl Tryd.func26 (by kernel_rfl) rfl #[.string (⟨#[107]⟩ : ByteArray), .string (⟨#[112]⟩ : ByteArray), .int .i64 1] rfl (by (try simp only [List.map_toArray, List.map_cons, List.map_nil]); first | done | rfl | (simp only [List.length_drop, List.length_take]; rfl)) ?_; (with_reducible refine (mac_Derive.calls k (⟨#[107]⟩ : ByteArray) (⟨#[112]⟩ : ByteArray) 1 t170 _ A7.out).mono ?_); rintro e w11 ⟨rfl, hb⟩; refine ⟨_, rfl, ?_⟩; have n0_ := Aside0.mk (below_step (by repeat (first | (with_reducible first | exact HB.out | apply below_alloc | apply pw_below_drewN | apply below_drew1) | exact HB.out)) hb); clear HB; have HB := n0_; clear n0_; (try clear hb); (try clear hb2); (try clear hk); (try clear hi)) | (go_at_call 26; (with_reducible refine (mac_Derive.calls k (a0.extract 0 ((ji4) : Int).toNat) a1 a2 t171 _ A9.out).mono ?_); rintro e w12 ⟨rfl, hb⟩; have n0_ := Aside0.mk (below_step (by repeat (first | (with_reducible first | exact HB.out | apply below_alloc | apply pw_below_drewN | apply below_drew1) | exact HB.out)) hb); clear HB; have HB := n0_; clear n0_; (try clear hb); (try clear hb2); (try clear hk); (try clear hi)) | (go_at_call 27; (with_reducible refine (precinctref05_Derive.calls k (a0.extract 0 ((ji4) : Int).toNat) a1 a2 t172 _ A10.out).mono ?_); rintro e w13 ⟨rfl, hb⟩; have n0_ := Aside0.mk (below_step (by repeat (first | (with_reducible first | exact HB.out | apply below_alloc | apply pw_below_drewN | apply below_drew1) | exact HB.out)) hb); clear HB; have HB := n0_; clear n0_; (try clear hb); (try clear hb2); (try clear hk); (try clear hi)))
        go_ret
        exact ⟨by first | rfl | (simp [errW_none, errW_some] <;> rfl) | (simp only [← hji4]; first | rfl | (simp [errW_none, errW_some] <;> rfl)) | (simp [*, errW_none, errW_some] <;> rfl), by repeat (first | (with_reducible first | exact HB.out | apply below_alloc | apply pw_below_drewN | apply below_drew1) | exact HB.out)⟩
      · rw [if_neg c8] at H
        have c8b0 : ((t170.size : Int) == 32) = false := beq_eq_false_iff_ne.mpr c8
        have c8b1 : ((t170.size : Int) != 32) = true := bne_iff_ne.mpr c8
        exact absurd ((Option.some.inj H).trans hT_.out) (by decide)
    · rw [if_neg c6] at H
      exact absurd H (by simp)
  · rw [if_neg c5] at H
    exact absurd H (by simp)

/-- THE ONE PURE STATEMENT of precinctlaw05_MacDerives: yours. -/
def precinctlaw05_MacDerives.Pure : Prop := ∀ (a0 : ByteArray) (a1 : ByteArray) (a2 : Int), a0.size ≤ 140737488351232 → a1.size ≤ 140737488351232 → (Lit.int .i64 a2).wf = true → ∃ k, precinctlaw05_MacDerives.f k a0 a1 a2 = some true
theorem precinctlaw05_MacDerives.walk (P : precinctlaw05_MacDerives.Pure) (a0 : ByteArray) (a1 : ByteArray) (a2 : Int) (w : World) (w0 : a0.size ≤ 140737488351232) (w1 : a1.size ≤ 140737488351232) (w2 : (Lit.int .i64 a2).wf = true) (HTab : Aside0 (Sha.Tab w)) :
    Calls Tryd.prog 9 #[.string a0, .string a1, .int .i64 a2] w fun e w' => e = .returned (.bool true) ∧ Below w.heap.size w w' := by
  obtain ⟨k, h⟩ := P a0 a1 a2 w0 w1 w2
  refine (precinctlaw05_MacDerives.calls k a0 a1 a2 true w ⟨rfl⟩ h).mono ?_
  rintro e w' ⟨rfl, hd⟩
  exact ⟨rfl, hd⟩

end Go.Proofs.YtelhajoedlaohaaDoor.PD
namespace Go.Proofs.YtelhajoedlaohaaDoor.Pv
set_option linter.unusedVariables false
set_option linter.unusedSimpArgs false
open Go Go.RowKit Go.Proofs.YtelhajoedlaohaaDoor.Plain Go.Proofs.YtelhajoedlaohaaDoor.WordsA Go.Proofs.YtelhajoedlaohaaDoor.Pk Go.Proofs.YtelhajoedlaohaaDoor.Vs Go.Proofs.YtelhajoedlaohaaDoor.PD Go.Proofs.YtelhajoedlaohaaDoorW.PrintWords Go.Proofs.YtelhajoedlaohaaDoorW.PrintLast Go.Proofs.YtelhajoedlaohaaDoorW.PrintMore
mutual
def putV : V → Int → ByteArray × Int
  | ⟨a, b, c, l⟩, d => if a = 0 then (intB b, 0) else if a = 1 then (if (c.size : Int) > 4096 then (⟨#[]⟩, 5) else ((⟨#[2]⟩ : ByteArray) ++ (textR c).1, 0))
    else if a = 2 then (if (l.length : Int) > 256 then (⟨#[]⟩, 5) else if d ≥ 8 then (⟨#[]⟩, 5) else (headB l.length (putVs l (d + 1)).1, (putVs l (d + 1)).2)) else (⟨#[]⟩, 2)
def putVs : List V → Int → ByteArray × Int
  | [], _ => (⟨#[]⟩, 0)
  | x :: r, d => if (putV x d).2 = 0 then ((putV x d).1 ++ (putVs r d).1, (putVs r d).2) else ((putV x d).1, (putV x d).2)
end
mutual
/-- its numbers are numbers -/
def Wf : V → Prop
  | ⟨_, b, _, l⟩ => (-9223372036854775808 ≤ b ∧ b ≤ 9223372036854775807) ∧ Wfs l
def Wfs : List V → Prop
  | [] => True
  | x :: l => Wf x ∧ Wfs l
end
mutual
def nodes : V → Nat
  | ⟨_, _, _, l⟩ => 1 + nodess l
def nodess : List V → Nat
  | [] => 0
  | x :: l => nodes x + nodess l
end
theorem Wfs_iff : ∀ l, Wfs l ↔ ∀ x ∈ l, Wf x
  | [] => by simp [Wfs]
  | x :: l => by simp [Wfs, Wfs_iff l]
theorem size_app (a b : ByteArray) : (a ++ b).size = a.size + b.size := ByteArray.size_append
theorem wdl_le (n : Int) : ∀ k, wdl k n ≤ k
  | 0 => Nat.le_refl _
  | k + 1 => by
    unfold wdl
    split
    · have := wdl_le (n / 256) k; omega
    · omega
theorem size_int (b : Int) : (intB b).size ≤ 20 := by
  unfold intB
  rw [size_app, size_app, size_put, size_put]
  have : (⟨#[1]⟩ : ByteArray).size = 1 := rfl
  omega
mutual
theorem size_putV : ∀ (x : V) (d : Int), (putV x d).1.size ≤ 4200 * nodes x
  | ⟨a, b, c, l⟩, d => by
    have hz : (⟨#[]⟩ : ByteArray).size = 0 := rfl
    have h2 : (⟨#[2]⟩ : ByteArray).size = 1 := rfl
    have h3 : (⟨#[3]⟩ : ByteArray).size = 1 := rfl
    have hi := size_int b
    simp only [putV, nodes]
    split
    · show (intB b).size ≤ _; omega
    · split
      · split
        · show (⟨#[]⟩ : ByteArray).size ≤ _; omega
        · show ((⟨#[2]⟩ : ByteArray) ++ (textR c).1).size ≤ _
          rw [size_app]
          unfold textR
          split
          · show _ + (⟨#[]⟩ : ByteArray).size ≤ _; omega
          · show _ + (put 2 c.size ++ c).size ≤ _
            rw [size_app, size_put]; omega
      · split
        · split
          · show (⟨#[]⟩ : ByteArray).size ≤ _; omega
          · split
            · show (⟨#[]⟩ : ByteArray).size ≤ _; omega
            · have := size_putVs l (d + 1)
              show (headB l.length (putVs l (d + 1)).1).size ≤ _
              unfold headB
              rw [size_app, size_app, size_put]; omega
        · show (⟨#[]⟩ : ByteArray).size ≤ _; omega
theorem size_putVs : ∀ (l : List V) (d : Int), (putVs l d).1.size ≤ 4200 * nodess l
  | [], d => Nat.zero_le _
  | x :: r, d => by
    have h1 := size_putV x d
    have h2 := size_putVs r d
    simp only [putVs, nodess]
    split
    · show ((putV x d).1 ++ (putVs r d).1).size ≤ _
      rw [size_app]; omega
    · show (putV x d).1.size ≤ _; omega
end
theorem pput_le {a b : Int} {c : ByteArray} {l : List V} {d : Int} {K K' : Nat} (h : K ≤ K') {r} (e : pack_put.f K a b c l d = some r) : pack_put.f K' a b c l d = some r := up_le (fun k => pack_put.mono k a b c l d) h e
theorem putL_le {f g : V → Int → Option (ByteArray × Int)} (h : ∀ x e r, f x e = some r → g x e = some r) (l : List V) (d : Int) {r} (e : putL f l d = some r) : putL g l d = some r := putL_mono (fun x e r hr => h x e r hr) l d r e
mutual
theorem pput_some : ∀ (x : V) (d : Int), 0 ≤ d → d ≤ 8 → Wf x → ∃ K, pack_put.f K x.f0 x.f1 x.f2 x.f3 d = some (putV x d)
  | ⟨a, b, c, l⟩, d, h0, h1, hw => by
    simp only [Wf] at hw
    by_cases c0 : a = 0
    · refine ⟨1, ?_⟩
      simp only [pack_put.f, putV]
      rw [if_pos c0, if_pos c0, if_pos hw.1]
    by_cases c1 : a = 1
    · refine ⟨1, ?_⟩
      simp only [pack_put.f, putV]
      rw [if_neg c0, if_neg c0, if_pos c1, if_pos c1]
      split <;> rfl
    by_cases c2 : a = 2
    · by_cases c3 : (l.length : Int) > 256
      · refine ⟨1, ?_⟩
        simp only [pack_put.f, putV]
        rw [if_neg c0, if_neg c0, if_neg c1, if_neg c1, if_pos c2, if_pos c2, if_pos c3, if_pos c3]
      by_cases c4 : d ≥ 8
      · refine ⟨1, ?_⟩
        simp only [pack_put.f, putV]
        rw [if_neg c0, if_neg c0, if_neg c1, if_neg c1, if_pos c2, if_pos c2, if_neg c3, if_neg c3, if_pos c4, if_pos c4]
      obtain ⟨K, hK⟩ := pputs_some l (d + 1) (by omega) (by omega) hw.2
      have e1 : wrap64 (d + 1) = d + 1 := by unfold wrap64; omega
      refine ⟨K + 1, ?_⟩
      simp only [pack_put.f, putV]
      rw [if_neg c0, if_neg c0, if_neg c1, if_neg c1, if_pos c2, if_pos c2, if_neg c3, if_neg c3, if_neg c4, if_neg c4, e1, hK]
      rfl
    · refine ⟨1, ?_⟩
      simp only [pack_put.f, putV]
      rw [if_neg c0, if_neg c0, if_neg c1, if_neg c1, if_neg c2, if_neg c2]
theorem pputs_some : ∀ (l : List V) (d : Int), 0 ≤ d → d ≤ 8 → Wfs l → ∃ K, putL (fun x e => pack_put.f K x.f0 x.f1 x.f2 x.f3 e) l d = some (putVs l d)
  | [], d, _, _, _ => ⟨0, rfl⟩
  | x :: r, d, h0, h1, hw => by
    simp only [Wfs] at hw
    obtain ⟨K1, e1⟩ := pput_some x d h0 h1 hw.1
    obtain ⟨K2, e2⟩ := pputs_some r d h0 h1 hw.2
    refine ⟨max K1 K2, ?_⟩
    simp only [putL, putVs]
    rw [pput_le (Nat.le_max_left K1 K2) e1, Option.bind_some]
    by_cases c : (putV x d).2 = 0
    · rw [if_pos c, if_pos c, putL_le (fun x e r hr => pput_le (Nat.le_max_right K1 K2) hr) r d e2]
      rfl
    · rw [if_neg c, if_neg c]
end
/-- pack.Put of a value -/
theorem packPut_some (x : V) (hw : Wf x) (hs : (putV x 0).1.size ≤ 140737488355328) : ∃ K, ∀ k, K ≤ k → Go.Proofs.YtelhajoedlaohaaDoor.PD.pack_Put.f k x.f0 x.f1 x.f2 x.f3 = some (if (putV x 0).2 = 0 then (putV x 0).1 else (⟨#[]⟩ : ByteArray), (putV x 0).2) := by
  obtain ⟨K, hK⟩ := pput_some x 0 (by omega) (by omega) hw
  refine ⟨K, fun k hk => ?_⟩
  show (pack_put.f k x.f0 x.f1 x.f2 x.f3 0).bind _ = _
  rw [pput_le hk hK, Option.bind_some, if_pos hs]
/-! #### the document's -/
theorem wdl_eq (m : Nat) : ∀ (k : Nat) (n : Int), (256 : Int) ^ m ≤ n → n < 256 ^ (m + 1) → m + 1 ≤ k → wdl k n = m + 1 := by
  induction m with
  | zero =>
    intro k n h0 h1 hk
    cases k with
    | zero => exact absurd hk (by decide)
    | succ k =>
      rw [Int.pow_zero] at h0
      rw [Nat.zero_add, Int.pow_succ, Int.pow_zero, Int.one_mul] at h1
      have hn : n > 0 := by omega
      have : n / 256 = 0 := by omega
      rw [wdl_step k n hn, this]
      cases k <;> simp [wdl]
  | succ m ih =>
    intro k n h0 h1 hk
    cases k with
    | zero => exact absurd hk (Nat.not_succ_le_zero _)
    | succ k =>
      have hp : (0 : Int) < 256 ^ m := Int.pow_pos (by decide)
      have h0' : (256 : Int) ^ m * 256 ≤ n := by rw [← Int.pow_succ]; exact h0
      have h1' : n < (256 : Int) ^ (m + 1) * 256 := by rw [← Int.pow_succ]; exact h1
      generalize hq : (256 : Int) ^ m = q at h0' hp ih
      generalize hq1 : (256 : Int) ^ (m + 1) = q1 at h1' ih
      have hn : n > 0 := by omega
      rw [wdl_step k n hn, ih k (n / 256) (by omega) (by omega) (by omega)]
theorem wdl_zero (k : Nat) : wdl k 0 = 0 := by cases k <;> simp [wdl]
theorem nums_cut (x : Int) (xs : List Int) : (strOfNums (x :: xs)).extract 1 (strOfNums (x :: xs)).size = strOfNums xs := by
  apply ByteArray.ext
  simp [strOfNums, ByteArray.size]
  exact List.take_of_length_le (by simp)
theorem foldR_range {b : Int} (h : -9223372036854775808 ≤ b ∧ b ≤ 9223372036854775807) : 0 ≤ foldR b ∧ foldR b < 18446744073709551616 := by
  unfold foldR; split <;> omega
theorem intB_eq (b : Int) (h : -9223372036854775808 ≤ b ∧ b ≤ 9223372036854775807) : intB b = strOfNums [1, (wdl 9 (foldR b) : Int)] ++ strOfNums (puts (wdl 9 (foldR b)) (foldR b)) := by
  have hw : wdl 9 (foldR b) ≤ 8 := by
    have r := foldR_range h
    have h9 := wdl_le (foldR b) 8
    have h8 : (256 : Int) ^ 8 = 18446744073709551616 := by decide
    have e : wdl 9 (foldR b) = wdl 8 (foldR b) := wdl_more 8 (foldR b) (by omega)
    omega
  unfold intB put
  have e1 : (max (0 : Int) (min 1 8)).toNat = 1 := rfl
  have e2 : (max (0 : Int) (min (wdl 9 (foldR b) : Int) 8)).toNat = wdl 9 (foldR b) := by omega
  rw [e1, e2]
  congr 1
  have e3 : puts 1 (wdl 9 (foldR b) : Int) = [(wdl 9 (foldR b) : Int) % 256] := rfl
  rw [e3, show (wdl 9 (foldR b) : Int) % 256 = (wdl 9 (foldR b) : Int) by omega]
  rw [show (⟨#[1]⟩ : ByteArray) = strOfNums [1] from rfl, ← strOfNums_append]
  rfl
end Go.Proofs.YtelhajoedlaohaaDoor.Pv
namespace Go.Proofs.YtelhajoedlaohaaDoor.Pv
set_option linter.unusedVariables false
set_option linter.unusedSimpArgs false
open Go Go.RowKit Go.Proofs.YtelhajoedlaohaaDoor.Plain Go.Proofs.YtelhajoedlaohaaDoor.WordsA Go.Proofs.YtelhajoedlaohaaDoor.Pk Go.Proofs.YtelhajoedlaohaaDoor.Vs Go.Proofs.YtelhajoedlaohaaDoor.PD Go.Proofs.YtelhajoedlaohaaDoorW.PrintWords Go.Proofs.YtelhajoedlaohaaDoorW.PrintLast Go.Proofs.YtelhajoedlaohaaDoorW.PrintMore
theorem rnum_loop : ∀ (m k : Nat) (n : Int), 0 ≤ n → n < 256 ^ m → m ≤ 8 → m < k → precinctref02_number.l0 k (strOfNums (puts m n)) = some (strOfNums [1, (wdl 9 n : Int)] ++ strOfNums (puts (wdl 9 n) n))
  | _, 0, _, _, _, _, h => absurd h (by omega)
  | 0, k + 1, n, h0, h1, _, _ => by
    obtain rfl : n = 0 := by simp at h1; omega
    have hz : (strOfNums (puts 0 0)).size = 0 := rfl
    simp only [precinctref02_number.l0]
    rw [if_neg (by rw [hz]; decide), hz, wdl_zero]
    rfl
  | m + 1, k + 1, n, h0, h1, hm, hk => by
    have hp : (0 : Int) < 256 ^ m := Int.pow_pos (by decide)
    have hsz : (strOfNums (puts (m + 1) n)).size = m + 1 := by rw [size_strOfNums, puts_length]
    have hd : n / 256 ^ m % 256 = n / 256 ^ m := by
      rw [Int.pow_succ] at h1
      have g1 : 0 ≤ n / 256 ^ m := Int.ediv_nonneg h0 (by omega)
      have g2 : n / 256 ^ m < 256 := Int.ediv_lt_of_lt_mul hp (by rw [Int.mul_comm]; exact h1)
      omega
    have hb : bt (strOfNums (puts (m + 1) n)) 0 = n / 256 ^ m := by
      have := bt_nums (puts (m + 1) n) 0 (by rw [puts_length]; omega) (puts_byte (m + 1) n)
      rw [puts_front] at this ⊢
      rw [show ((0 : Nat) : Int) = 0 from rfl] at this
      rw [this]; simpa using hd
    simp only [precinctref02_number.l0]
    rw [if_pos (by omega), if_pos (by omega), hb]
    by_cases c : n / 256 ^ m = 0
    · have hlt : n < 256 ^ m := by
        have := Int.emod_add_mul_ediv n (256 ^ m)
        rw [c] at this
        have := Int.emod_lt_of_pos n hp
        omega
      rw [if_pos c, if_pos (by omega), puts_front, nums_cut]
      exact rnum_loop m k n h0 hlt (by omega) (by omega)
    · have hge : 256 ^ m ≤ n := by
        rcases Int.lt_or_le n (256 ^ m) with h | h
        · exact absurd (Int.ediv_eq_zero_of_lt h0 h) c
        · exact h
      have hw : wdl 9 n = m + 1 := wdl_eq m 9 n hge h1 (by omega)
      rw [if_neg c, hw, Option.bind_some, hsz]
      have h2 : (strOfNums [1, (m + 1 : Nat) % 256]).size = 2 := rfl
      have h3 : (((m + 1 : Nat) : Int)) % 256 = ((m + 1 : Nat) : Int) := by omega
      rw [h3]
      have h4 : (strOfNums [1, ((m + 1 : Nat) : Int)]).size = 2 := rfl
      rw [if_pos (by omega)]
theorem rnum_some {b : Int} (k : Nat) (h : -9223372036854775808 ≤ b ∧ b ≤ 9223372036854775807) (hk : 12 ≤ k) : precinctref02_number.f k b = some (intB b) := by
  have r := foldR_range h
  unfold precinctref02_number.f
  rw [rfold_some h.1 h.2, Option.bind_some]
  rw [show (if 0 ≤ b then 2 * b else -2 * b - 1) = foldR b from rfl]
  rw [rput_some k r.1 r.2 (by omega), Option.bind_some]
  have e : put 8 (foldR b) = strOfNums (puts 8 (foldR b)) := rfl
  rw [e, rnum_loop 8 k (foldR b) r.1 (by have : (256 : Int) ^ 8 = 18446744073709551616 := by decide
                                         omega) (by omega) (by omega), intB_eq b h]
theorem rone_le {a b : Int} {c : ByteArray} {l : List W} {d : Int} {K K' : Nat} (h : K ≤ K') {r} (e : precinctref02_one.f K a b c l d = some r) : precinctref02_one.f K' a b c l d = some r := up_le (fun k => precinctref02_one.mono a b c l d k) h e
abbrev shown (t : ByteArray × Int) : ByteArray × Int := (if t.2 = 0 then t.1 else (⟨#[]⟩ : ByteArray), t.2)
/-- the bytes of those from i on -/
theorem rone_loop (l : List V) (d : Int) (hl : l.length ≤ 256) (h0 : 0 ≤ d) (h1 : d < 8) (x0 x1 : Int) (x2 : ByteArray) (K : Nat) (hK : ∀ x ∈ l, (putV x (d + 1)).1.size ≤ 140737488355328 → precinctref02_one.f K (toW x).f0 (toW x).f1 (toW x).f2 (toW x).f3 (d + 1) = some (shown (putV x (d + 1)))) :
    ∀ (n : Nat) (i : Nat) (s : ByteArray), i + n = l.length → s.size + (putVs (l.drop i) (d + 1)).1.size ≤ 140737488355328 →
      precinctref02_one.l0 (K + n + 1) d s i x0 x1 x2 (toWs l) = some (if (putVs (l.drop i) (d + 1)).2 = 0 then s ++ (putVs (l.drop i) (d + 1)).1 else (⟨#[]⟩ : ByteArray), (putVs (l.drop i) (d + 1)).2)
  | 0, i, s, hi, hs => by
    have hw : (toWs l).length = l.length := by rw [toWs_map, List.length_map]
    have hd : l.drop i = [] := List.drop_eq_nil_of_le (by omega)
    simp only [precinctref02_one.l0]
    rw [if_neg (by omega), hd]
    simp only [putVs, if_true]
    rw [show s ++ (⟨#[]⟩ : ByteArray) = s from ByteArray.append_empty]
  | n + 1, i, s, hi, hs => by
    have hw : (toWs l).length = l.length := by rw [toWs_map, List.length_map]
    have hil : i < l.length := by omega
    have ⟨hm, he⟩ := rdV l (i : Int) (by omega) (by omega)
    have hx : rd_T66 l (i : Int) = l[i] := by
      unfold rd_T66
      rw [Int.toNat_natCast, List.getD_eq_getElem?_getD, List.getElem?_eq_getElem hil, Option.getD_some]
    have hd : l.drop i = l[i] :: l.drop (i + 1) := List.drop_eq_getElem_cons hil
    rw [hx] at hm he
    rw [hd] at hs ⊢
    have e1 : wrap64 (d + 1) = d + 1 := by unfold wrap64; omega
    have e2 : wrap64 ((i : Int) + 1) = ((i + 1 : Nat) : Int) := by unfold wrap64; omega
    rw [show K + (n + 1) + 1 = (K + n + 1) + 1 by omega]
    generalize hq : K + n + 1 = q
    simp only [precinctref02_one.l0]
    rw [if_pos (by omega), if_pos (by omega), he, e1, e2]
    by_cases c : (putV l[i] (d + 1)).2 = 0
    · have hP : putVs (l[i] :: l.drop (i + 1)) (d + 1) = ((putV l[i] (d + 1)).1 ++ (putVs (l.drop (i + 1)) (d + 1)).1, (putVs (l.drop (i + 1)) (d + 1)).2) := by simp only [putVs]; rw [if_pos c]
      rw [hP] at hs ⊢
      have hs' : s.size + ((putV l[i] (d + 1)).1.size + (putVs (l.drop (i + 1)) (d + 1)).1.size) ≤ 140737488355328 := by rw [← size_app]; exact hs
      rw [rone_le (show K ≤ q by omega) (hK _ hm (by omega)), Option.bind_some, if_pos c]
      simp only [shown, if_pos c]
      rw [if_pos (by omega)]
      rw [← hq, rone_loop l d hl h0 h1 x0 x1 x2 K hK n (i + 1) (s ++ (putV l[i] (d + 1)).1) (by omega) (by rw [size_app]; omega)]
      rw [ByteArray.append_assoc]
    · have hP : putVs (l[i] :: l.drop (i + 1)) (d + 1) = ((putV l[i] (d + 1)).1, (putV l[i] (d + 1)).2) := by simp only [putVs]; rw [if_neg c]
      rw [hP] at hs ⊢
      have hsx : (putV l[i] (d + 1)).1.size ≤ 140737488355328 := by
        have h : s.size + (putV l[i] (d + 1)).1.size ≤ 140737488355328 := hs
        omega
      rw [rone_le (show K ≤ q by omega) (hK _ hm hsx), Option.bind_some, if_neg c]
      simp only [shown, if_neg c]
theorem rone_some : ∀ (x : V) (d : Int), 0 ≤ d → d ≤ 8 → Wf x → ∃ K, (putV x d).1.size ≤ 140737488355328 → precinctref02_one.f K (toW x).f0 (toW x).f1 (toW x).f2 (toW x).f3 d = some (shown (putV x d)) := by
  refine V_ind (fun a b c l ih d h0 h1 hw => ?_)
  simp only [Wf, Wfs_iff] at hw
  have hwl : (toWs l).length = l.length := by rw [toWs_map, List.length_map]
  have hTW : toW ⟨a, b, c, l⟩ = ⟨a, b, c, toWs l⟩ := by simp only [toW]
  rw [hTW]
  show ∃ K, (putV ⟨a, b, c, l⟩ d).1.size ≤ 140737488355328 → precinctref02_one.f K a b c (toWs l) d = some (shown (putV ⟨a, b, c, l⟩ d))
  by_cases c0 : a = 0
  · refine ⟨20, fun _ => ?_⟩
    have hP : putV ⟨a, b, c, l⟩ d = (intB b, 0) := by simp only [putV]; rw [if_pos c0]
    rw [hP]
    simp only [precinctref02_one.f]
    rw [if_pos c0, rnum_some 19 hw.1 (by omega)]
    rfl
  by_cases c1 : a = 1
  · refine ⟨20, fun _ => ?_⟩
    by_cases c2 : (c.size : Int) > 4096
    · have hP : putV ⟨a, b, c, l⟩ d = (⟨#[]⟩, 5) := by simp only [putV]; rw [if_neg c0, if_pos c1, if_pos c2]
      rw [hP]
      simp only [precinctref02_one.f]
      rw [if_neg c0, if_pos c1, if_pos c2]; rfl
    · have hP : putV ⟨a, b, c, l⟩ d = ((⟨#[2]⟩ : ByteArray) ++ (textR c).1, 0) := by simp only [putV]; rw [if_neg c0, if_pos c1, if_neg c2]
      have ht : textR c = (put 2 c.size ++ c, 0) := by unfold textR; rw [if_neg (by omega)]
      have hz : (put 2 c.size ++ c).size = 2 + c.size := by rw [size_app, size_put]; rfl
      rw [hP]
      simp only [precinctref02_one.f]
      rw [if_neg c0, if_pos c1, if_neg c2, rtext_some 19 (by omega) (by omega), Option.bind_some, ht]
      rw [if_pos (by show 1 + (put 2 c.size ++ c).size ≤ _; omega)]
      rfl
  by_cases c2 : a = 2
  · by_cases c3 : (l.length : Int) > 256
    · refine ⟨20, fun _ => ?_⟩
      have hP : putV ⟨a, b, c, l⟩ d = (⟨#[]⟩, 5) := by simp only [putV]; rw [if_neg c0, if_neg c1, if_pos c2, if_pos c3]
      rw [hP]
      simp only [precinctref02_one.f, precinctref02_one.j0]
      rw [if_neg c0, if_neg c1, if_pos c2, if_pos (by rw [hwl]; exact c3)]
      rfl
    by_cases c4 : d ≥ 8
    · refine ⟨20, fun _ => ?_⟩
      have hP : putV ⟨a, b, c, l⟩ d = (⟨#[]⟩, 5) := by simp only [putV]; rw [if_neg c0, if_neg c1, if_pos c2, if_neg c3, if_pos c4]
      rw [hP]
      simp only [precinctref02_one.f, precinctref02_one.j0]
      rw [if_neg c0, if_neg c1, if_pos c2, if_neg (by rw [hwl]; exact c3), if_pos (decide_eq_true c4)]
      rfl
    obtain ⟨K, hK⟩ := up_all (Q := fun K x => (putV x (d + 1)).1.size ≤ 140737488355328 → precinctref02_one.f K (toW x).f0 (toW x).f1 (toW x).f2 (toW x).f3 (d + 1) = some (shown (putV x (d + 1)))) (fun K K' x h e hs => rone_le h (e hs)) l (fun x hx => ih x hx (d + 1) (by omega) (by omega) (hw.2 x hx))
    refine ⟨max 20 (K + l.length + 1) + 2, fun hs => ?_⟩
    have hP : putV ⟨a, b, c, l⟩ d = (headB l.length (putVs l (d + 1)).1, (putVs l (d + 1)).2) := by simp only [putV]; rw [if_neg c0, if_neg c1, if_pos c2, if_neg c3, if_neg c4]
    rw [hP] at hs ⊢
    have hs2 : (headB l.length (putVs l (d + 1)).1).size ≤ 140737488355328 := hs
    have hz3 : ((⟨#[3]⟩ : ByteArray) ++ put 2 (l.length : Int)).size = 3 := by rw [size_app, size_put]; rfl
    unfold headB at hs2
    rw [size_app, hz3] at hs2
    have hu : IntKind.u64.wrap (l.length : Int) = (l.length : Int) := by rw [wu64]; omega
    have hL := rone_loop l d (by omega) h0 (by omega) a b c K hK l.length 0 ((⟨#[3]⟩ : ByteArray) ++ put 2 (l.length : Int)) (by omega) (by rw [hz3, List.drop_zero]; exact hs2)
    rw [List.drop_zero] at hL
    have hL2 := up_le (f := fun k => precinctref02_one.l0 k d ((⟨#[3]⟩ : ByteArray) ++ put 2 (l.length : Int)) ((0 : Nat) : Int) a b c (toWs l)) (fun k => (precinctref02_one.mono_l k).2.2 _ _ _ _ _ _ _) (show K + l.length + 1 ≤ max 20 (K + l.length + 1) by omega) hL
    have hq20 : 20 ≤ max 20 (K + l.length + 1) := Nat.le_max_left _ _
    generalize max 20 (K + l.length + 1) = q at hL2 hq20 ⊢
    simp only [precinctref02_one.f, precinctref02_one.j0]
    rw [if_neg c0, if_neg c1, if_pos c2, if_neg (by rw [hwl]; exact c3), if_neg (by simpa using c4), hwl, hu]
    rw [rput_some _ (by omega) (by omega) (by omega), Option.bind_some, if_pos (by rw [size_put]; omega)]
    exact hL2
  · refine ⟨20, fun _ => ?_⟩
    have hP : putV ⟨a, b, c, l⟩ d = (⟨#[]⟩, 2) := by simp only [putV]; rw [if_neg c0, if_neg c1, if_neg c2]
    rw [hP]
    simp only [precinctref02_one.f]
    rw [if_neg c0, if_neg c1, if_neg c2]
    rfl
theorem refPut_some (x : V) (hw : Wf x) (hs : (putV x 0).1.size ≤ 140737488355328) : ∃ K, ∀ k, K ≤ k → precinctref02_Put.f k (toW x).f0 (toW x).f1 (toW x).f2 (toW x).f3 = some (shown (putV x 0)) := by
  obtain ⟨K, hK⟩ := rone_some x 0 (by omega) (by omega) hw
  refine ⟨K, fun k hk => ?_⟩
  unfold precinctref02_Put.f
  rw [rone_le hk (hK hs)]
  rfl
end Go.Proofs.YtelhajoedlaohaaDoor.Pv
namespace Go.Proofs.YtelhajoedlaohaaDoor.Dv
set_option linter.unusedVariables false
set_option linter.unusedSimpArgs false
open Go Go.RowKit Go.Proofs.YtelhajoedlaohaaDoor.Plain Go.Proofs.YtelhajoedlaohaaDoor.Vs Go.Proofs.YtelhajoedlaohaaDoor.Pv Go.Proofs.YtelhajoedlaohaaDoor.PD Go.Proofs.YtelhajoedlaohaaDoorW.PrintWords Go.Proofs.YtelhajoedlaohaaDoorW.PrintLast Go.Proofs.YtelhajoedlaohaaDoorW.PrintMore
def derV (p : ByteArray) (n : Int) : V := ⟨2, 0, ⟨#[]⟩, [⟨1, 0, p, []⟩, ⟨0, n, ⟨#[]⟩, []⟩]⟩
def derB (key p : ByteArray) (n : Int) : ByteArray := if (putV (derV p n) 0).2 = 0 then Sha.tagK key (putV (derV p n) 0).1 else ⟨#[]⟩
theorem derV_wf {p : ByteArray} {n : Int} (hn : -9223372036854775808 ≤ n ∧ n ≤ 9223372036854775807) : Wf (derV p n) := by
  unfold derV
  simp only [Wf, Wfs, and_true]
  refine ⟨by omega, by omega, hn⟩
theorem derV_size (p : ByteArray) (n : Int) : (putV (derV p n) 0).1.size ≤ 100000 := by
  have h1 := size_putV (derV p n) 0
  have h2 : nodes (derV p n) ≤ 3 := by unfold derV; simp only [nodes, nodess]; omega
  omega
theorem all_some {l : List V} (h : l.length < 2513169434916) : pack_All.f l = some (2, 0, ⟨#[]⟩, l) := by
  unfold pack_All.f pack_Value.f
  simp only [Option.bind_some, List.nil_append, List.length_nil]
  rw [if_pos (by omega), Option.bind_some]
theorem derive_some {key p : ByteArray} {n : Int} (hk : key.size ≤ 281474976710000) (hn : -9223372036854775808 ≤ n ∧ n ≤ 9223372036854775807) : ∃ K, ∀ k, K ≤ k → mac_Derive.f k key p n = some (derB key p n) := by
  have hs := derV_size p n
  obtain ⟨K, hK⟩ := packPut_some (derV p n) (derV_wf hn) (by omega)
  refine ⟨K, fun k hk' => ?_⟩
  have e := hK k hk'
  have e' : Go.Proofs.YtelhajoedlaohaaDoor.PD.pack_Put.f k 2 0 ⟨#[]⟩ [⟨1, 0, p, []⟩, ⟨0, n, ⟨#[]⟩, []⟩] = _ := e
  unfold mac_Derive.f pack_Str.f pack_Num.f
  simp only [Option.bind_some]
  rw [all_some (by simp)]
  simp only [Option.bind_some]
  rw [e', Option.bind_some]
  unfold derB
  by_cases h0 : (putV (derV p n) 0).2 = 0
  · simp only [h0, if_true]
    unfold mac_Tag.f
    rw [if_pos ⟨hk, by omega⟩]; rfl
  · simp only [h0, if_false]
theorem rderive_some {key p : ByteArray} {n : Int} (hk : key.size ≤ 281474976710000) (hn : -9223372036854775808 ≤ n ∧ n ≤ 9223372036854775807) : ∃ K, ∀ k, K ≤ k → precinctref05_Derive.f k key p n = some (derB key p n) := by
  have hs := derV_size p n
  obtain ⟨K, hK⟩ := refPut_some (derV p n) (derV_wf hn) (by omega)
  refine ⟨K, fun k hk' => ?_⟩
  have e := hK k hk'
  have e' : precinctref02_Put.f k 2 0 ⟨#[]⟩ [⟨1, 0, p, []⟩, ⟨0, n, ⟨#[]⟩, []⟩] = _ := e
  unfold precinctref05_Derive.f derive
  rw [e', Option.bind_some]
  unfold derB
  by_cases h0 : (putV (derV p n) 0).2 = 0
  · simp only [h0, if_true]
    unfold precinctref05_Tag.f
    rw [if_pos ⟨hk, by omega⟩]
  · simp only [h0, if_false]
theorem der_kp : (derB ⟨#[107]⟩ ⟨#[112]⟩ 1).size = 32 := by
  have h0 : (putV (derV ⟨#[112]⟩ 1) 0).2 = 0 := by
    unfold derV
    have hs : ((4096 : Int) < ((⟨#[112]⟩ : ByteArray).size : Int)) = False := eq_false (by decide)
    simp [putV, putVs, hs]
  unfold derB
  rw [if_pos h0, Sha.tagK_size]
theorem pure : precinctlaw05_MacDerives.Pure := by
  intro a0 a1 a2 h0 h1 h2
  have hn := wf_i64 h2
  have m0 : 0 ≤ mn (a0.size : Int) 3000 ∧ mn (a0.size : Int) 3000 ≤ 3000 ∧ mn (a0.size : Int) 3000 ≤ a0.size := by unfold mn; split <;> omega
  have hz : (a0.extract 0 ((mn (a0.size : Int) 3000) : Int).toNat).size ≤ 281474976710000 := by rw [ByteArray.size_extract]; omega
  obtain ⟨K1, e1⟩ := derive_some (key := ⟨#[107]⟩) (p := ⟨#[112]⟩) (n := 1) (by decide) (by omega)
  obtain ⟨K2, e2⟩ := derive_some (p := a1) (n := a2) hz hn
  obtain ⟨K3, e3⟩ := rderive_some (p := a1) (n := a2) hz hn
  refine ⟨max K1 (max K2 K3), ?_⟩
  unfold precinctlaw05_MacDerives.f
  rw [if_pos m0.1, if_pos m0.2.2, e1 _ (by omega), Option.bind_some, if_pos (by rw [der_kp]; rfl), e2 _ (by omega), e3 _ (by omega)]
  simp
theorem derives_walk (a0 a1 : ByteArray) (a2 : Int) (w : World) (HT : Sha.Tab w) (h0 : a0.size ≤ 140737488351232) (h1 : a1.size ≤ 140737488351232) (h2 : (Lit.int .i64 a2).wf = true) :
    Calls Tryd.prog 9 #[.string a0, .string a1, .int .i64 a2] w fun e w' => e = .returned (.bool true) ∧ Below w.heap.size w w' := by
  obtain ⟨k, h⟩ := pure a0 a1 a2 h0 h1 h2
  have HTab := Aside0.mk HT
  exact precinctlaw05_MacDerives.calls k a0 a1 a2 true w ⟨rfl⟩ h HTab
end Go.Proofs.YtelhajoedlaohaaDoor.Dv
