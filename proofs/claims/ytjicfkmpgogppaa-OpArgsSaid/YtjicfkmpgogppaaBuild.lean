/-
  The statements' builder of values: what it builds (the walk).
-/
import Derived.Test.YtjicfkmpgogppaaH0
import Derived.Test.YtjicfkmpgogppaaH3
import Derived.Tactics
import Derived.LoopTactic
import Derived.Outline
import Derived.Recover
import Derived.WalkSmall
import Derived.Deep.CutRange
import Derived.Deep.RegionHeld3
namespace Go.Proofs.Ytjicfkmpgogppaa.Bu
set_option linter.unusedVariables false
set_option linter.unusedSimpArgs false
open Go Go.RowKit Go.Proofs.Ytjicfkmpgogppaa.Plain Go.Proofs.Ytjicfkmpgogppaa.PA Go.Proofs.YtjicfkmpgogppaaW.PrintWords Go.Proofs.YtjicfkmpgogppaaW.PrintLast Go.Proofs.YtjicfkmpgogppaaW.PrintMore
set_option maxHeartbeats 8000000 in
set_option maxRecDepth 100000 in
theorem next_some (m : Nat) (bat bl bn : Nat) (A : Option Addr) (c : Nat) (l : List I) (a : Nat) (deep : Int) (w0 w : World) (hE : Env w0 w bat bl bn A c l a) (hc : l.length ≤ c) (hl : (l.length : Int) ≤ 9223372036854775807) (ha : a < l.length) (ha4 : a < 400) (x : I) (hx : l.getD a z147 = x) (hd0 : 0 ≤ deep) (hd1 : deep ≤ 12) (hm : deep < 12 → 1 ≤ m)
    (total : List V) (fin : Nat) (hkd : kids l.length (fun b => nextV l m (deep + 1) b) x.f3 deep 400 0 (a + 1) = (total, fin))
    (ih : deep < 12 → NextOk m bat bl bn A c l (deep + 1) w0) :
    Calls Try.prog 69 #[.int .i64 deep, .pointer (some ⟨bat, 0, none⟩), .pointer (some ⟨bl, 0, none⟩), .pointer (some ⟨bn, 0, none⟩)] w fun e w' => ∃ (Av Aw : Option Addr) (cv cw : Nat), e = .returned (.tuple #[.agg #[.int .i64 x.f0, .int .i64 x.f1, .string x.f2, .slice Av total.length cv], .agg #[.int .i64 x.f0, .int .i64 x.f1, .string x.f2, .slice Aw (toWs total).length cw]]) ∧ Kd.R k54 54 w' w.heap.size (fun _ => True) (.slice Av total.length cv) total ∧ Kd.R k57 57 w' w.heap.size (fun _ => True) (.slice Aw (toWs total).length cw) (toWs total) ∧ w'.heap[bat]? = some (.cells #[.int .i64 fin] 3 (0, 0)) ∧ KeepBut w w' bat none ∧ Below w0.heap.size w0 w' := by
  have hu := Try.underlying54
  have hu2 := Try.underlying57
  have hu3 := Try.underlying147
  have HE := Aside0.mk hE
  have HKD0 := Aside0.mk hkd
  have HIH := Aside0.mk ih
  have H0 := Aside0.mk (below_size hE.hB)
  have HM := Aside0.mk hm
  clear hkd ih hm
  obtain ⟨ad, rfl, i0, i1, i2, i3⟩ := at_T147 hE.hC (a : Int) (by omega) (by omega)
  have hxr : rd_T147 l (a : Int) = x := by unfold rd_T147; rw [Int.toNat_natCast]; exact hx
  rw [hxr, Int.toNat_natCast] at i0 i1 i2 i3
  have j0 := World.block_lt_of_cell? w0 _ i0
  have j1 := World.block_lt_of_cell? w0 _ i1
  have j2 := World.block_lt_of_cell? w0 _ i2
  have j3 := World.block_lt_of_cell? w0 _ i3
  clear hE hx hxr
  go_enter Try.func69, Try.ntmps69
  go_upto_region 1 with fail
  have hE2 : Env w0 ((w.alloc ZV).alloc ZW) bat bl bn (some ad) c l a := HE.out.below (below_alloc (below_alloc (Below.refl _ _) _) _)
  have hv : ((w.alloc ZV).alloc ZW).heap[w.heap.size]? = some (.cells #[.int .i64 0, .int .i64 0, .string ⟨#[]⟩, .slice none 0 0] 54 (0, 0)) := blk_alloc (blk_new w ZV) ZW
  have hw : ((w.alloc ZV).alloc ZW).heap[w.heap.size + 1]? = some (.cells #[.int .i64 0, .int .i64 0, .string ⟨#[]⟩, .slice none 0 0] 57 (0, 0)) := by
    have h := blk_new (w.alloc ZV) ZW
    rw [al_size] at h; exact h
  have hb : Below w.heap.size w ((w.alloc ZV).alloc ZW) := below_alloc (below_alloc (Below.refl _ _) _) _
  have hs : ((w.alloc ZV).alloc ZW).heap.size = w.heap.size + 2 := by rw [al_size, al_size]
  generalize (w.alloc ZV).alloc ZW = w2 at hE2 hv hw hb hs ⊢
  have e0 : w2.cell? ⟨bat, 0, none⟩ = some (.int .i64 a) := (blk_cell hE2.hat 0).trans rfl
  have f0 := blk_frozen hE2.hat 0
  have e1 : w2.cell? ⟨bl, 0, none⟩ = some (.slice (some ad) l.length c) := (blk_cell hE2.hl 0).trans rfl
  replace i0 := (hE2.hB.cell j0).trans i0
  replace i1 := (hE2.hB.cell j1).trans i1
  replace i2 := (hE2.hB.cell j2).trans i2
  replace i3 := (hE2.hB.cell j3).trans i3
  have HE2 := Aside0.mk hE2
  have HV := Aside0.mk hv
  have HW := Aside0.mk hw
  have HB := Aside0.mk hb
  have HS := Aside0.mk hs
  clear hv hw hb hs hE2 HE j0 j1 j2 j3
  have hd1' : decide (l.length ≤ a) = false := decide_eq_false (by omega)
  have hd2 : decide ((400 : Int) ≤ (a : Int)) = false := decide_eq_false (by omega)
  have hai : (a : Int) < (l.length : Int) := by omega
  have ha0 : (0 : Int) ≤ (a : Int) := by omega
  have ha5 : (a : Int) ≤ 400 := by omega
  go_upto_region 4 with fail
  have hE3 : Env w0 (w2.alloc (.cells #[.int .i64 x.f0, .int .i64 x.f1, .string x.f2, .int .i64 x.f3] 147)) bat bl bn (some ad) c l a := HE2.out.below (below_alloc (Below.refl _ _) _)
  have hv : (w2.alloc (.cells #[.int .i64 x.f0, .int .i64 x.f1, .string x.f2, .int .i64 x.f3] 147)).heap[w.heap.size]? = _ := blk_alloc HV.out _
  have hw : (w2.alloc (.cells #[.int .i64 x.f0, .int .i64 x.f1, .string x.f2, .int .i64 x.f3] 147)).heap[w.heap.size + 1]? = _ := blk_alloc HW.out _
  have hx : (w2.alloc (.cells #[.int .i64 x.f0, .int .i64 x.f1, .string x.f2, .int .i64 x.f3] 147)).heap[w2.heap.size]? = some (.cells #[.int .i64 x.f0, .int .i64 x.f1, .string x.f2, .int .i64 x.f3] 147 (0, 0)) := blk_new w2 _
  have hb : Below w.heap.size w (w2.alloc (.cells #[.int .i64 x.f0, .int .i64 x.f1, .string x.f2, .int .i64 x.f3] 147)) := below_alloc HB.out _
  have hs : (w2.alloc (.cells #[.int .i64 x.f0, .int .i64 x.f1, .string x.f2, .int .i64 x.f3] 147)).heap.size = w.heap.size + 3 := by rw [al_size, HS.out]
  have hbx := HS.out
  generalize w2.alloc (.cells #[.int .i64 x.f0, .int .i64 x.f1, .string x.f2, .int .i64 x.f3] 147) = w3 at hE3 hv hw hx hb hs ⊢
  generalize w2.heap.size = bx at hx hbx ⊢
  clear e0 f0 e1 i0 i1 i2 i3 HE2 HV HW HB HS
  have e0 : w3.cell? ⟨bat, 0, none⟩ = some (.int .i64 a) := (blk_cell hE3.hat 0).trans rfl
  have f0 := blk_frozen hE3.hat 0
  have HE3 := Aside0.mk hE3
  have HV := Aside0.mk hv
  have HW := Aside0.mk hw
  have HX := Aside0.mk hx
  have HB := Aside0.mk hb
  have HS := Aside0.mk hs
  have HBX := Aside0.mk hbx
  clear hv hw hx hb hs hE3 hbx
  go_upto_region 5 with fail
  have hk : KeepBut w (w3.setCell ⟨bat, 0, none⟩ (.int .i64 ((a : Int) + 1))) bat none := (KeepBut.of_below HB.out _ _).set_ 0 _
  have hat : (w3.setCell ⟨bat, 0, none⟩ (.int .i64 ((a : Int) + 1))).heap[bat]? = some (.cells #[.int .i64 ((a + 1 : Nat) : Int)] 3 (0, 0)) := blk_put HE3.out.hat 0 _ rfl
  have hE4 : Env w0 (w3.setCell ⟨bat, 0, none⟩ (.int .i64 ((a : Int) + 1))) bat bl bn (some ad) c l (a + 1) := HE3.out.keep ((KeepBut.refl w3 bat none).set_ 0 _) (HE3.out.hB.setCell HE3.out.ga _) hat
  have hv : (w3.setCell ⟨bat, 0, none⟩ (.int .i64 ((a : Int) + 1))).heap[w.heap.size]? = _ := blk_far HV.out (blk_ne HV.out HE3.out.hat (by decide)) _
  have hw : (w3.setCell ⟨bat, 0, none⟩ (.int .i64 ((a : Int) + 1))).heap[w.heap.size + 1]? = _ := blk_far HW.out (blk_ne HW.out HE3.out.hat (by decide)) _
  have hx : (w3.setCell ⟨bat, 0, none⟩ (.int .i64 ((a : Int) + 1))).heap[bx]? = _ := blk_far HX.out (blk_ne HX.out HE3.out.hat (by decide)) _
  generalize w3.setCell ⟨bat, 0, none⟩ (.int .i64 ((a : Int) + 1)) = w4 at hE4 hv hw hx hk ⊢
  clear e0 f0 HE3 HV HW HX HB HS hat
  have HE := Aside0.mk hE4
  have HV := Aside0.mk hv
  have HW := Aside0.mk hw
  have HX := Aside0.mk hx
  have HK := Aside0.mk hk
  clear hv hw hx hE4 hk
  go_cut [8, 9] from 29 to 42 (fun v8 v9 wc => ∃ bv bw : Nat, v8 = .pointer (some ⟨bv, 0, none⟩) ∧ v9 = .pointer (some ⟨bw, 0, none⟩) ∧ Aside0 (w4.heap.size ≤ bv) ∧ Aside0 (w4.heap.size ≤ bw) ∧ Aside0 (wc.heap[bv]? = some (.cells #[.int .i64 x.f0, .int .i64 x.f1, .string x.f2, .slice none 0 0] 54 (0, 0))) ∧ Aside0 (wc.heap[bw]? = some (.cells #[.int .i64 x.f0, .int .i64 x.f1, .string x.f2, .slice none 0 0] 57 (0, 0))) ∧ Aside0 (Below w4.heap.size w4 wc))
  case first =>
    have hHeldS : ∀ w' : World, w'.heap[bx]? = some (.cells #[.int .i64 x.f0, .int .i64 x.f1, .string x.f2, .int .i64 x.f3] 147 (0, 0)) → (w'.cell? ⟨bx, 0, none⟩ = some (.int .i64 x.f0) ∧ w'.cell? ⟨bx, 1, none⟩ = some (.int .i64 x.f1) ∧ w'.cell? ⟨bx, 2, none⟩ = some (.string x.f2) ∧ w'.cell? ⟨bx, 3, none⟩ = some (.int .i64 x.f3)) := fun w' h => ⟨(blk_cell h 0).trans rfl, (blk_cell h 1).trans rfl, (blk_cell h 2).trans rfl, (blk_cell h 3).trans rfl⟩
    refine start_ (n := 18) (ds := []) (S := fun w' => w'.cell? ⟨bx, 0, none⟩ = some (.int .i64 x.f0) ∧ w'.cell? ⟨bx, 1, none⟩ = some (.int .i64 x.f1) ∧ w'.cell? ⟨bx, 2, none⟩ = some (.string x.f2) ∧ w'.cell? ⟨bx, 3, none⟩ = some (.int .i64 x.f3)) #[false, false, false, false, false, false, false, false, false, false, false, false, false, false, false, false, false, false] (by kernel_rfl) rfl rfl (hHeldS _ (blk_drew HX.out)) (fun hHeld => ?_)
    refine Rg.pu 0 (some 29) ?_
    refine Rg.tk 1 (some 30) hHeld ?_
    refine Rg.pu 2 (some 31) ?_
    refine Rg.tk 3 (some 32) hHeld ?_
    refine Rg.pu 4 (some 33) ?_
    refine Rg.tk 5 (some 34) hHeld ?_
    refine Rg.pu 6 (some 35) ?_
    refine Rg.pu 7 (some 36) ?_
    refine Rg.tk 8 (some 37) hHeld ?_
    refine Rg.pu 9 (some 38) ?_
    refine Rg.tk 10 (some 39) hHeld ?_
    refine Rg.pu 11 (some 40) ?_
    refine Rg.tk 12 (some 41) hHeld ?_
    refine Rg.pu 13 (some 42) ?_
    have hX4 : w4.drew.heap[bx]? = some (.cells #[.int .i64 x.f0, .int .i64 x.f1, .string x.f2, .int .i64 x.f3] 147 (0, 0)) := blk_drew HX.out
    have hb4 : Below w4.heap.size w4 w4.drew := below_drew (Below.refl _ _)
    have hz4 : w4.heap.size = w4.drew.heap.size := rfl
    generalize w4.drew = w5 at hHeld hX4 hb4 hz4 ⊢
    refine join_ (σ := Nat × Nat) 2 #[true, true, true, true, true, true, true, true, true, true, true, true, true, true, true, true, false, false] (fun s => [(8, .pointer (some ⟨s.1, 0, none⟩)), (9, .pointer (some ⟨s.2, 0, none⟩))]) (fun s w' => w4.heap.size ≤ s.1 ∧ w4.heap.size ≤ s.2 ∧ w'.heap[s.1]? = some (.cells #[.int .i64 0, .int .i64 0, .string ⟨#[]⟩, .slice none 0 0] 54 (0, 0)) ∧ w'.heap[s.2]? = some (.cells #[.int .i64 0, .int .i64 0, .string ⟨#[]⟩, .slice none 0 0] 57 (0, 0)) ∧ w'.heap[bx]? = some (.cells #[.int .i64 x.f0, .int .i64 x.f1, .string x.f2, .int .i64 x.f3] 147 (0, 0)) ∧ Below w4.heap.size w4 w') ?_ (fun hcont => ?_)
    · rintro ⟨bv, bw⟩ w6 ⟨gv, gw, hv, hw, hx, hb⟩
      dsimp only at gv gw hv hw hx hb
      have hne : bv ≠ bw := blk_ne hv hw (by decide)
      have hnx : bx ≠ bv := blk_ne hx hv (by decide)
      have hny : bx ≠ bw := blk_ne hx hw (by decide)
      have c0 : w6.cell? ⟨bv, 0, none⟩ = some (.int .i64 0) := (blk_cell hv 0).trans rfl
      have p0 := blk_frozen hv 0
      have c1 : w6.cell? ⟨bv, 1, none⟩ = some (.int .i64 0) := (blk_cell hv 1).trans rfl
      have p1 := blk_frozen hv 1
      have c2 : w6.cell? ⟨bv, 2, none⟩ = some (.string ⟨#[]⟩) := (blk_cell hv 2).trans rfl
      have p2 := blk_frozen hv 2
      have c3 : w6.cell? ⟨bv, 3, none⟩ = some (.slice none 0 0) := (blk_cell hv 3).trans rfl
      have p3 := blk_frozen hv 3
      refine norm_ (a' := ?_) ?_ ?_
      rotate_left
      · simp only [putAll, Act.put, List.setIfInBounds_toArray, List.set_cons_zero, List.set_cons_succ]
        rfl
      refine one_ (i := 16) (N := none) #[true, true, true, true, true, true, true, true, true, true, true, true, true, true, true, true, true, false] rfl rfl (by kernel_rfl) (by simp) (fun K hK => ?_)
      refine skip_ (w1 := set4 w6 bv (.int .i64 x.f0) (.int .i64 x.f1) (.string x.f2) (.slice none 0 0)) (by rfl) rfl ?_ ?_
      · first | (go_simp; done) | (go_simp; with_reducible rfl)
      have hv1 := set4_v hv (.int .i64 x.f0) (.int .i64 x.f1) (.string x.f2) (.slice none 0 0)
      have hw1 := (set4_o hne.symm (.int .i64 x.f0) (.int .i64 x.f1) (.string x.f2) (.slice none 0 0)).trans hw
      have hx1 := (set4_o hnx (.int .i64 x.f0) (.int .i64 x.f1) (.string x.f2) (.slice none 0 0)).trans hx
      have hb1 := set4_below hb gv (.int .i64 x.f0) (.int .i64 x.f1) (.string x.f2) (.slice none 0 0)
      generalize set4 w6 bv (.int .i64 x.f0) (.int .i64 x.f1) (.string x.f2) (.slice none 0 0) = w7 at hv1 hw1 hx1 hb1 ⊢
      refine hK.out _ _ (hHeldS _ hx1) (fun hHeld => ?_)
      clear hK K c0 c1 c2 c3 p0 p1 p2 p3
      have c0 : w7.cell? ⟨bw, 0, none⟩ = some (.int .i64 0) := (blk_cell hw1 0).trans rfl
      have p0 := blk_frozen hw1 0
      have c1 : w7.cell? ⟨bw, 1, none⟩ = some (.int .i64 0) := (blk_cell hw1 1).trans rfl
      have p1 := blk_frozen hw1 1
      have c2 : w7.cell? ⟨bw, 2, none⟩ = some (.string ⟨#[]⟩) := (blk_cell hw1 2).trans rfl
      have p2 := blk_frozen hw1 2
      have c3 : w7.cell? ⟨bw, 3, none⟩ = some (.slice none 0 0) := (blk_cell hw1 3).trans rfl
      have p3 := blk_frozen hw1 3
      refine one_ (i := 17) (N := none) #[true, true, true, true, true, true, true, true, true, true, true, true, true, true, true, true, true, true] rfl rfl (by kernel_rfl) (by simp) (fun K hK => ?_)
      refine skip_ (w1 := set4 w7 bw (.int .i64 x.f0) (.int .i64 x.f1) (.string x.f2) (.slice none 0 0)) (by rfl) rfl ?_ ?_
      · first | (go_simp; done) | (go_simp; with_reducible rfl)
      refine hK.out _ _ (hHeldS _ ((set4_o hny _ _ _ _).trans hx1)) (fun hHeld => ?_)
      refine done_ (by kernel_rfl) ?_
      (try go_wp2)
      go_meet
      case rel => exact ⟨bv, bw, rfl, rfl, ⟨gv⟩, ⟨gw⟩, ⟨(set4_o hne _ _ _ _).trans hv1⟩, ⟨set4_v hw1 _ _ _ _⟩, ⟨set4_below hb1 gw _ _ _ _⟩⟩
    refine two_ (i := 14) (j := 15) (Ni := some 8) (Nj := some 9) #[true, true, true, true, true, true, true, true, true, true, true, true, true, true, true, false, false, false] #[true, true, true, true, true, true, true, true, true, true, true, true, true, true, false, true, false, false] rfl rfl rfl rfl (by kernel_rfl) (by simp) (by simp) (fun K hK => ?_) (fun K hK => ?_)
    · refine value_ (w1 := w5.alloc ZV) (v := .pointer (some ⟨w5.heap.size, 0, none⟩)) (by rfl) rfl ?_ ?_
      · first | (go_simp; done) | (go_simp; with_reducible rfl)
      refine hK.out _ _ (hHeldS _ (blk_alloc hX4 _)) (fun hHeld => ?_)
      clear hK K
      refine norm_ (a' := ?_) ?_ ?_
      rotate_left
      · show Act.put _ (some 8) _ = _
        simp only [Act.put, List.setIfInBounds_toArray, List.set_cons_zero, List.set_cons_succ, i64_w, i32_w]
        rfl
      refine one_ (i := 15) (N := some 9) #[true, true, true, true, true, true, true, true, true, true, true, true, true, true, true, true, false, false] rfl rfl (by kernel_rfl) (by simp) (fun K hK => ?_)
      refine value_ (w1 := (w5.alloc ZV).alloc ZW) (v := .pointer (some ⟨(w5.alloc ZV).heap.size, 0, none⟩)) (by rfl) rfl ?_ ?_
      · first | (go_simp; done) | (go_simp; with_reducible rfl)
      refine hK.out _ _ (hHeldS _ (blk_alloc (blk_alloc hX4 _) _)) (fun hHeld => ?_)
      clear hK K
      have hc := hcont (w5.heap.size, (w5.alloc ZV).heap.size) ((w5.alloc ZV).alloc ZW) ⟨Nat.le_of_eq hz4, by rw [al_size, hz4]; omega, blk_alloc (blk_new w5 _) _, blk_new (w5.alloc _) _, blk_alloc (blk_alloc hX4 _) _, below_alloc (below_alloc hb4 _) _⟩
      simp only [putAll, Act.put, List.setIfInBounds_toArray, List.set_cons_zero, List.set_cons_succ] at hc
      refine norm_ (a' := ?_) ?_ ?_
      rotate_left
      · show Act.put _ (some 9) _ = _
        simp only [Act.put, List.setIfInBounds_toArray, List.set_cons_zero, List.set_cons_succ, i64_w, i32_w]
        rfl
      exact hc
    · refine value_ (w1 := w5.alloc ZW) (v := .pointer (some ⟨w5.heap.size, 0, none⟩)) (by rfl) rfl ?_ ?_
      · first | (go_simp; done) | (go_simp; with_reducible rfl)
      refine hK.out _ _ (hHeldS _ (blk_alloc hX4 _)) (fun hHeld => ?_)
      clear hK K
      refine norm_ (a' := ?_) ?_ ?_
      rotate_left
      · show Act.put _ (some 9) _ = _
        simp only [Act.put, List.setIfInBounds_toArray, List.set_cons_zero, List.set_cons_succ, i64_w, i32_w]
        rfl
      refine one_ (i := 14) (N := some 8) #[true, true, true, true, true, true, true, true, true, true, true, true, true, true, true, true, false, false] rfl rfl (by kernel_rfl) (by simp) (fun K hK => ?_)
      refine value_ (w1 := (w5.alloc ZW).alloc ZV) (v := .pointer (some ⟨(w5.alloc ZW).heap.size, 0, none⟩)) (by rfl) rfl ?_ ?_
      · first | (go_simp; done) | (go_simp; with_reducible rfl)
      refine hK.out _ _ (hHeldS _ (blk_alloc (blk_alloc hX4 _) _)) (fun hHeld => ?_)
      clear hK K
      have hc := hcont ((w5.alloc ZW).heap.size, w5.heap.size) ((w5.alloc ZW).alloc ZV) ⟨by rw [al_size, hz4]; omega, Nat.le_of_eq hz4, blk_new (w5.alloc _) _, blk_alloc (blk_new w5 _) _, blk_alloc (blk_alloc hX4 _) _, below_alloc (below_alloc hb4 _) _⟩
      simp only [putAll, Act.put, List.setIfInBounds_toArray, List.set_cons_zero, List.set_cons_succ] at hc
      refine norm_ (a' := ?_) ?_ ?_
      rotate_left
      · show Act.put _ (some 8) _ = _
        simp only [Act.put, List.setIfInBounds_toArray, List.set_cons_zero, List.set_cons_succ, i64_w, i32_w]
        rfl
      exact hc
  case rest =>
    obtain ⟨bv, bw, rfl, rfl, GV, GW, hv8, hw9, hb8⟩ := hcut
    have hlt := blk_lt HX.out
    have hbx' := HBX.out
    have HGV : Aside0 (w.heap.size ≤ bv) := ⟨by have := GV.out; omega⟩
    have HGW : Aside0 (w.heap.size ≤ bw) := ⟨by have := GW.out; omega⟩
    have HFR := Aside0.mk (show Fr w0 w wc bat bl bn bv bw bx (some ad) c l (a + 1) x (.slice none 0 0) (.slice none 0 0) from ⟨HE.out.below hb8.out, hv8.out, hw9.out, blk_below HV.out hb8.out, blk_below HW.out hb8.out, blk_below HX.out hb8.out, HK.out.trans (KeepBut.of_below hb8.out bat none) (.inl rfl), by have := GV.out; omega, by have := GW.out; omega, H0.out⟩)
    clear GV GW hv8 hw9 hb8 HE HV HW HX HK HBX hlt hbx'
    go_wp2
    go_loopw [10] (fun v10 wr => ∃ (a' j : Nat) (acc rs : List V) (Av Aw : Option Addr) (cv cw : Nat), v10 = .int .i64 (acc.length : Int) ∧ acc.length + (a + 1) ≤ a' ∧ acc.length ≤ 400 ∧ 400 ≤ j + a' ∧ Aside0 (kids l.length (fun b => nextV l m (deep + 1) b) x.f3 deep j acc.length a' = (rs, fin)) ∧ Aside0 (acc ++ rs = total) ∧ Aside0 (Fr w0 w wr bat bl bn bv bw bx (some ad) c l a' x (.slice Av acc.length cv) (.slice Aw (toWs acc).length cw)) ∧ Aside0 (Kd.R k54 54 wr w.heap.size (OK w bat bl bn bv bw bx) (.slice Av acc.length cv) acc) ∧ Aside0 (Kd.R k57 57 wr w.heap.size (OK w bat bl bn bv bw bx) (.slice Aw (toWs acc).length cw) (toWs acc))) (fun v10 _ => 401 - (intOf v10).toNat)
    case atStart => exact ⟨a + 1, 400, [], total, none, none, 0, 0, rfl, by simp, by simp, by omega, HKD0, ⟨rfl⟩, HFR, ⟨Kd.R_nil _ _ _ _ _⟩, ⟨Kd.R_nil _ _ _ _ _⟩⟩
    case round =>
      clear HFR HKD0
      obtain ⟨a', j, acc, rs, Av, Aw, cv, cw, rfl, hla, hl4, hj, HKD, HT, FR, HOV, HOW⟩ := hrel
      have hx3 : wr.cell? ⟨bx, 3, none⟩ = some (.int .i64 x.f3) := (blk_cell FR.out.hx 3).trans rfl
      have hca : wr.cell? ⟨bat, 0, none⟩ = some (.int .i64 a') := (blk_cell FR.out.env.hat 0).trans rfl
      have hcl : wr.cell? ⟨bl, 0, none⟩ = some (.slice (some ad) l.length c) := (blk_cell FR.out.env.hl 0).trans rfl
      go_upto_region 7 with fail
      go_cut [60] from 43 to 81 (fun v60 wd => v60 = .bool (decide ((acc.length : Int) < x.f3 ∧ deep < 12 ∧ a' < l.length ∧ a' < 400)) ∧ wd = wr)
      case first =>
        by_cases k1 : (acc.length : Int) < x.f3
        · have k1' : decide ((acc.length : Int) < x.f3) = true := decide_eq_true k1
          by_cases k2 : deep < 12
          · have k2' : decide (deep < 12) = true := decide_eq_true k2
            by_cases k3 : a' < l.length
            · have k3' : decide (a' < l.length) = true := decide_eq_true k3
              by_cases k4 : (a' : Int) < 400
              · have k4' : decide ((a' : Int) < 400) = true := decide_eq_true k4
                go_wp2
                go_meet
                case rel => exact ⟨congrArg Value.bool (decide_eq_true (p := (acc.length : Int) < x.f3 ∧ deep < 12 ∧ a' < l.length ∧ a' < 400) ⟨k1, k2, k3, by omega⟩).symm, rfl⟩
              · have k4' : decide ((a' : Int) < 400) = false := decide_eq_false k4
                go_wp2
                go_meet
                case rel => exact ⟨congrArg Value.bool (decide_eq_false (p := (acc.length : Int) < x.f3 ∧ deep < 12 ∧ a' < l.length ∧ a' < 400) (fun h => by omega)).symm, rfl⟩
            · have k3' : decide (a' < l.length) = false := decide_eq_false k3
              go_wp2
              go_meet
              case rel => exact ⟨congrArg Value.bool (decide_eq_false (p := (acc.length : Int) < x.f3 ∧ deep < 12 ∧ a' < l.length ∧ a' < 400) (fun h => by omega)).symm, rfl⟩
          · have k2' : decide (deep < 12) = false := decide_eq_false k2
            go_wp2
            go_meet
            case rel => exact ⟨congrArg Value.bool (decide_eq_false (p := (acc.length : Int) < x.f3 ∧ deep < 12 ∧ a' < l.length ∧ a' < 400) (fun h => by omega)).symm, rfl⟩
        · have k1' : decide ((acc.length : Int) < x.f3) = false := decide_eq_false k1
          go_wp2
          go_meet
          case rel => exact ⟨congrArg Value.bool (decide_eq_false (p := (acc.length : Int) < x.f3 ∧ deep < 12 ∧ a' < l.length ∧ a' < 400) (fun h => by omega)).symm, rfl⟩
      case rest =>
      obtain ⟨rfl, rfl⟩ := hcut
      by_cases hgo : (acc.length : Int) < x.f3 ∧ deep < 12 ∧ a' < l.length ∧ a' < 400
      · have hgo' : decide ((acc.length : Int) < x.f3 ∧ deep < 12 ∧ a' < l.length ∧ a' < 400) = true := decide_eq_true hgo
        obtain ⟨j', rfl⟩ : ∃ j', j = j' + 1 := ⟨j - 1, by omega⟩
        obtain ⟨y, hy⟩ : ∃ y, y = (nextV l m (deep + 1) a').1 := ⟨_, rfl⟩
        obtain ⟨a'', hya⟩ : ∃ a'', a'' = (nextV l m (deep + 1) a').2 := ⟨_, rfl⟩
        have hlt : a' < a'' := by
          obtain ⟨m', hm'⟩ : ∃ m', m = m' + 1 := ⟨m - 1, by have := HM.out hgo.2.1; omega⟩
          rw [hya, hm']; exact next_lt l m' (deep + 1) a' hgo.2.2.1 hgo.2.2.2
        have hkd := HKD.out
        simp only [kids] at hkd
        rw [if_pos ⟨hgo.1, hgo.2.1, hgo.2.2.1, hgo.2.2.2⟩, ← hy, ← hya, Prod.mk.injEq] at hkd
        obtain ⟨rs', hrs'⟩ : ∃ rs', rs' = (kids l.length (fun b => nextV l m (deep + 1) b) x.f3 deep j' ((acc.length : Int) + 1) a'').1 := ⟨_, rfl⟩
        rw [← hrs'] at hkd
        obtain ⟨hk1, hk2⟩ := hkd
        have HKD' : Aside0 (kids l.length (fun b => nextV l m (deep + 1) b) x.f3 deep j' ((acc.length : Int) + 1) a'' = (rs', fin)) := ⟨Prod.ext hrs'.symm hk2⟩
        have HT' : Aside0 (acc ++ ([y] ++ rs') = total) := ⟨by have h := HT.out; rw [← hk1] at h; exact h⟩
        have HC0 := Aside0.mk (HIH.out hgo.2.1 a' wc FR.out.env)
        rw [← hy, ← hya] at HC0
        clear hk1 hk2 hrs' HKD HT hy hya
        have hcn : wc.cell? ⟨bn, 0, none⟩ = some (.func (.func 69) #[] #[.pointer (some ⟨bat, 0, none⟩), .pointer (some ⟨bl, 0, none⟩), .pointer (some ⟨bn, 0, none⟩)]) := (blk_cell FR.out.env.hn 0).trans rfl
        have hdl : deep < 12 := hgo.2.1
        have ha4' : a' < 400 := hgo.2.2.2
        go_upto_region 10 with (go_at_call 69; go_loud ((with_reducible refine HC0.out.mono ?_); rintro e w4 ⟨Ay, Az, cy, cz, rfl, hnv, hnw, hat, hk, hb⟩))
        have F4 := FR.out.at_ hk hb hat
        have hne := F4
        have ov4 : Kd.R k54 54 w4 w.heap.size (OK w bat bl bn bv bw bx) (.slice Av acc.length cv) acc := Kd.R_keep HOV.out hk (fun k o => o.a)
        have ow4 : Kd.R k57 57 w4 w.heap.size (OK w bat bl bn bv bw bx) (.slice Aw (toWs acc).length cw) (toWs acc) := Kd.R_keep HOW.out hk (fun k o => o.a)
        have hlv : ∀ k, (Value.slice Av acc.length cv).ownBlock = some k → k < wc.heap.size := Kd.R_lt HOV.out
        have hlw : ∀ k, (Value.slice Aw (toWs acc).length cw).ownBlock = some k → k < wc.heap.size := Kd.R_lt HOW.out
        have hsz : wc.heap.size ≤ w4.heap.size := hk.1
        have hwz : w.heap.size ≤ wc.heap.size := FR.out.hk.1
        have nv4 : Kd.R k54 54 w4 w.heap.size (fun k => OK w bat bl bn bv bw bx k ∧ some k ≠ (Value.slice Av acc.length cv).ownBlock) (.slice Ay y.f3.length cy) y.f3 := Kd.R_lower (Kd.R_mono (Kd.R_bound hnv) (fun k o => ⟨FR.out.ok o.2.1, fun e => by have := hlv k e.symm; have := o.2.1; omega⟩)) hwz
        have nw4 : Kd.R k57 57 w4 w.heap.size (fun k => OK w bat bl bn bv bw bx k ∧ some k ≠ (Value.slice Aw (toWs acc).length cw).ownBlock) (.slice Az (toWs y.f3).length cz) (toWs y.f3) := Kd.R_lower (Kd.R_mono (Kd.R_bound hnw) (fun k o => ⟨FR.out.ok o.2.1, fun e => by have := hlw k e.symm; have := o.2.1; omega⟩)) hwz
        have F5 := F4.below (below_alloc (below_alloc (Below.refl w4.heap.size w4) (.cells #[.int .i64 y.f0, .int .i64 y.f1, .string y.f2, .slice Ay y.f3.length cy] 54)) (.cells #[.int .i64 y.f0, .int .i64 y.f1, .string y.f2, .slice Az (toWs y.f3).length cz] 57))
        have ha5 := blk_alloc (blk_new w4 (.cells #[.int .i64 y.f0, .int .i64 y.f1, .string y.f2, .slice Ay y.f3.length cy] 54)) (.cells #[.int .i64 y.f0, .int .i64 y.f1, .string y.f2, .slice Az (toWs y.f3).length cz] 57)
        have hb5 := blk_new (w4.alloc (.cells #[.int .i64 y.f0, .int .i64 y.f1, .string y.f2, .slice Ay y.f3.length cy] 54)) (.cells #[.int .i64 y.f0, .int .i64 y.f1, .string y.f2, .slice Az (toWs y.f3).length cz] 57)
        rw [al_size] at hb5
        have ov5 := Kd.R_alloc (Kd.R_alloc ov4 (.cells #[.int .i64 y.f0, .int .i64 y.f1, .string y.f2, .slice Ay y.f3.length cy] 54)) (.cells #[.int .i64 y.f0, .int .i64 y.f1, .string y.f2, .slice Az (toWs y.f3).length cz] 57)
        have ow5 := Kd.R_alloc (Kd.R_alloc ow4 (.cells #[.int .i64 y.f0, .int .i64 y.f1, .string y.f2, .slice Ay y.f3.length cy] 54)) (.cells #[.int .i64 y.f0, .int .i64 y.f1, .string y.f2, .slice Az (toWs y.f3).length cz] 57)
        have nv5 := Kd.R_alloc (Kd.R_alloc nv4 (.cells #[.int .i64 y.f0, .int .i64 y.f1, .string y.f2, .slice Ay y.f3.length cy] 54)) (.cells #[.int .i64 y.f0, .int .i64 y.f1, .string y.f2, .slice Az (toWs y.f3).length cz] 57)
        have nw5 := Kd.R_alloc (Kd.R_alloc nw4 (.cells #[.int .i64 y.f0, .int .i64 y.f1, .string y.f2, .slice Ay y.f3.length cy] 54)) (.cells #[.int .i64 y.f0, .int .i64 y.f1, .string y.f2, .slice Az (toWs y.f3).length cz] 57)
        generalize (w4.alloc (.cells #[.int .i64 y.f0, .int .i64 y.f1, .string y.f2, .slice Ay y.f3.length cy] 54)).alloc (.cells #[.int .i64 y.f0, .int .i64 y.f1, .string y.f2, .slice Az (toWs y.f3).length cz] 57) = w6 at F5 ha5 hb5 ov5 ow5 nv5 nw5 ⊢
        have HAN : Aside0 (some w4.heap.size ≠ (Value.slice Av acc.length cv).ownBlock ∧ some (w4.heap.size + 1) ≠ (Value.slice Aw (toWs acc).length cw).ownBlock) := ⟨fun e => by have := hlv _ e.symm; omega, fun e => by have := hlw _ e.symm; omega⟩
        generalize w4.heap.size = ba at ha5 hb5 HAN ⊢
        generalize ba + 1 = bb at hb5 HAN ⊢
        have HAL : Aside0 (acc.length ≤ 400) := ⟨hl4⟩
        have HWL : Aside0 ((toWs acc).length ≤ 400) := ⟨by rw [toWs_len]; exact hl4⟩
        have FR5 := Aside0.mk F5
        have HA := Aside0.mk ha5
        have HBB := Aside0.mk hb5
        have HOV5 := Aside0.mk ov5
        have HOW5 := Aside0.mk ow5
        have HNV := Aside0.mk nv5
        have HNW := Aside0.mk nw5
        clear FR HOV HOW HC0 hcn hx3 hca hcl F4 hne ov4 ow4 hlv hlw hsz hwz nv4 nw4 hnv hnw hat hk hb F5 ha5 hb5 ov5 ow5 nv5 nw5
        have FR := FR5
        have HOV := HOV5
        have HOW := HOW5
        clear FR5 HOV5 HOW5
        have hHeldS : ∀ w' : World, Fr w0 w w' bat bl bn bv bw bx (some ad) c l a'' x (.slice Av acc.length cv) (.slice Aw (toWs acc).length cw) → w'.heap[ba]? = some (.cells ([.int .i64 y.f0, .int .i64 y.f1, .string y.f2, .slice Ay y.f3.length cy] : List Value).toArray 54 (0, 0)) → w'.heap[bb]? = some (.cells ([.int .i64 y.f0, .int .i64 y.f1, .string y.f2, .slice Az (toWs y.f3).length cz] : List Value).toArray 57 (0, 0)) → (w'.cell? ⟨bv, 3, none⟩ = some (.slice Av acc.length cv) ∧ w'.cell? ⟨ba, 0, none⟩ = some (.int .i64 y.f0) ∧ w'.cell? ⟨ba, 1, none⟩ = some (.int .i64 y.f1) ∧ w'.cell? ⟨ba, 2, none⟩ = some (.string y.f2) ∧ w'.cell? ⟨ba, 3, none⟩ = some (.slice Ay y.f3.length cy) ∧ w'.cell? ⟨bw, 3, none⟩ = some (.slice Aw (toWs acc).length cw) ∧ w'.cell? ⟨bb, 0, none⟩ = some (.int .i64 y.f0) ∧ w'.cell? ⟨bb, 1, none⟩ = some (.int .i64 y.f1) ∧ w'.cell? ⟨bb, 2, none⟩ = some (.string y.f2) ∧ w'.cell? ⟨bb, 3, none⟩ = some (.slice Az (toWs y.f3).length cz)) := fun w' f ha hb => ⟨(blk_cell f.hv 3).trans rfl, (blk_cell ha 0).trans rfl, (blk_cell ha 1).trans rfl, (blk_cell ha 2).trans rfl, (blk_cell ha 3).trans rfl, (blk_cell f.hw 3).trans rfl, (blk_cell hb 0).trans rfl, (blk_cell hb 1).trans rfl, (blk_cell hb 2).trans rfl, (blk_cell hb 3).trans rfl⟩
        have F := FR.out.below (below_drew (Below.refl _ _))
        have ha := blk_drew HA.out
        have hb := blk_drew HBB.out
        have ov := Kd.R_drew HOV.out
        have ow := Kd.R_drew HOW.out
        have nv := Kd.R_drew HNV.out
        have nw := Kd.R_drew HNW.out
        refine start_ (n := 14) (ds := [11, 13]) (S := fun w' => w'.cell? ⟨bv, 3, none⟩ = some (.slice Av acc.length cv) ∧ w'.cell? ⟨ba, 0, none⟩ = some (.int .i64 y.f0) ∧ w'.cell? ⟨ba, 1, none⟩ = some (.int .i64 y.f1) ∧ w'.cell? ⟨ba, 2, none⟩ = some (.string y.f2) ∧ w'.cell? ⟨ba, 3, none⟩ = some (.slice Ay y.f3.length cy) ∧ w'.cell? ⟨bw, 3, none⟩ = some (.slice Aw (toWs acc).length cw) ∧ w'.cell? ⟨bb, 0, none⟩ = some (.int .i64 y.f0) ∧ w'.cell? ⟨bb, 1, none⟩ = some (.int .i64 y.f1) ∧ w'.cell? ⟨bb, 2, none⟩ = some (.string y.f2) ∧ w'.cell? ⟨bb, 3, none⟩ = some (.slice Az (toWs y.f3).length cz)) #[false, false, false, false, false, false, false, false, false, false, false, false, false, false] (by kernel_rfl) rfl rfl (hHeldS _ F ha hb) (fun hHeld => ?_)
        clear FR HA HBB HOV HOW HNV HNW
        generalize w6.drew = w7 at hHeld F ha hb ov ow nv nw ⊢
        refine Rg.pu 0 (some 70) ?_
        refine Rg.tk 1 (some 71) hHeld ?_
        refine Rg.tk 2 (some 72) hHeld ?_
        refine Rg.pu 5 (some 75) ?_
        refine Rg.tk 6 (some 76) hHeld ?_
        refine Rg.tk 7 (some 77) hHeld ?_
        refine join_ (σ := Nat × Nat × Value × Value) 3 #[true, true, true, true, true, true, true, true, true, true, true, false, false, false] (fun s => [(73, .slice (some ⟨s.1, 0, none⟩) 1 1), (78, .slice (some ⟨s.2.1, 0, none⟩) 1 1), (74, s.2.2.1), (79, s.2.2.2), (80, .pointer (some ⟨bv, 3, none⟩))]) (fun s w' => (∃ (A1 : Option Addr) (c1 : Nat), s.2.2.1 = .slice A1 (acc ++ [y]).length c1) ∧ (∃ (A1 : Option Addr) (c1 : Nat), s.2.2.2 = .slice A1 (toWs (acc ++ [y])).length c1) ∧ Fr w0 w w' bat bl bn bv bw bx (some ad) c l a'' x (.slice Av acc.length cv) (.slice Aw (toWs acc).length cw) ∧ Kd.R k54 54 w' w.heap.size (OK w bat bl bn bv bw bx) s.2.2.1 (acc ++ [y]) ∧ Kd.R k57 57 w' w.heap.size (OK w bat bl bn bv bw bx) s.2.2.2 (toWs (acc ++ [y]))) ?_ (fun hcont => ?_)
        · rintro ⟨g1, g2, v1, v2⟩ w8 ⟨⟨A1, c1, e1⟩, ⟨A2, c2, e2⟩, F8, ov8, ow8⟩
          dsimp only at e1 e2 ov8 ow8
          subst e1; subst e2
          clear hHeld ha hb ov ow nv nw F
          refine norm_ (a' := ?_) ?_ ?_
          rotate_left
          · simp only [putAll, Act.put, List.setIfInBounds_toArray, List.set_cons_zero, List.set_cons_succ]
            rfl
          have q0 : w8.cell? ⟨bv, 3, none⟩ = some (.slice Av acc.length cv) := (blk_cell F8.hv 3).trans rfl
          have q1 := blk_frozen F8.hv 3
          refine last_ (i := 11) (N := none) #[true, true, true, true, true, true, true, true, true, true, true, true, false, false] rfl rfl (by kernel_rfl) (by simp) (fun K hK => ?_)
          refine skip_ (w1 := w8.setCell ⟨bv, 3, none⟩ (.slice A1 (acc ++ [y]).length c1)) (by rfl) rfl ?_ ?_
          · first | (go_simp; done) | (go_simp; with_reducible rfl)
          have F9 := F8.setV (.slice A1 (acc ++ [y]).length c1) HGV.out
          have ov9 := Kd.R_far ov8 (p := ⟨bv, 3, none⟩) (fun k o => o.v) (.slice A1 (acc ++ [y]).length c1)
          have ow9 := Kd.R_far ow8 (p := ⟨bv, 3, none⟩) (fun k o => o.v) (.slice A1 (acc ++ [y]).length c1)
          generalize w8.setCell ⟨bv, 3, none⟩ (.slice A1 (acc ++ [y]).length c1) = w9 at F9 ov9 ow9 ⊢
          refine hK.out _ _ ?_
          clear hK K q0 q1
          refine Rg.pu 12 (some 81) ?_
          have q0 : w9.cell? ⟨bw, 3, none⟩ = some (.slice Aw (toWs acc).length cw) := (blk_cell F9.hw 3).trans rfl
          have q1 := blk_frozen F9.hw 3
          refine last_ (i := 13) (N := none) #[true, true, true, true, true, true, true, true, true, true, true, true, true, true] rfl rfl (by kernel_rfl) (by simp) (fun K hK => ?_)
          refine skip_ (w1 := w9.setCell ⟨bw, 3, none⟩ (.slice A2 (toWs (acc ++ [y])).length c2)) (by rfl) rfl ?_ ?_
          · first | (go_simp; done) | (go_simp; with_reducible rfl)
          have F10 := F9.setW (.slice A2 (toWs (acc ++ [y])).length c2) HGW.out
          have ov10 := Kd.R_far ov9 (p := ⟨bw, 3, none⟩) (fun k o => o.w_) (.slice A2 (toWs (acc ++ [y])).length c2)
          have ow10 := Kd.R_far ow9 (p := ⟨bw, 3, none⟩) (fun k o => o.w_) (.slice A2 (toWs (acc ++ [y])).length c2)
          refine hK.out _ _ ?_
          clear hK K q0 q1
          refine done_ (by kernel_rfl) ?_
          (try go_wp2)
          go_roundw
          case rel => exact ⟨a'', j', acc ++ [y], rs', A1, A2, c1, c2, by simp, by simp only [List.length_append, List.length_singleton]; omega, by simp only [List.length_append, List.length_singleton]; omega, by omega, ⟨by have h := HKD'.out; rw [show ((acc ++ [y]).length : Int) = (acc.length : Int) + 1 by simp]; exact h⟩, ⟨by rw [List.append_assoc]; exact HT'.out⟩, ⟨F10⟩, ⟨ov10⟩, ⟨ow10⟩⟩
          case measure => simp [intOf]; omega
        refine two_ (i := 3) (j := 8) (Ni := some 73) (Nj := some 78) #[true, true, true, true, false, true, true, true, false, false, false, false, false, false] #[true, true, true, false, false, true, true, true, true, false, false, false, false, false] rfl rfl rfl rfl (by kernel_rfl) (by simp) (by simp) (fun K hK => ?_) (fun K hK => ?_)
        · skip
          refine value_ (w1 := w7.alloc (.cells #[.int .i64 y.f0, .int .i64 y.f1, .string y.f2, .slice Ay y.f3.length cy] 54)) (v := .slice (some ⟨w7.heap.size, 0, none⟩) 1 1) (by rfl) rfl ?_ ?_
          · first | (go_simp; done) | (go_simp; with_reducible rfl)
          have hboxV : (w7.alloc (.cells #[.int .i64 y.f0, .int .i64 y.f1, .string y.f2, .slice Ay y.f3.length cy] 54)).heap[w7.heap.size]? = some (.cells ([.int .i64 y.f0, .int .i64 y.f1, .string y.f2, .slice Ay y.f3.length cy] : List Value).toArray 54 (0, 0)) := blk_new w7 _
          replace F := F.below (below_alloc (Below.refl _ _) (.cells #[.int .i64 y.f0, .int .i64 y.f1, .string y.f2, .slice Ay y.f3.length cy] 54))
          replace ha := blk_alloc ha (.cells #[.int .i64 y.f0, .int .i64 y.f1, .string y.f2, .slice Ay y.f3.length cy] 54)
          replace hb := blk_alloc hb (.cells #[.int .i64 y.f0, .int .i64 y.f1, .string y.f2, .slice Ay y.f3.length cy] 54)
          replace ov := Kd.R_alloc ov (.cells #[.int .i64 y.f0, .int .i64 y.f1, .string y.f2, .slice Ay y.f3.length cy] 54)
          replace ow := Kd.R_alloc ow (.cells #[.int .i64 y.f0, .int .i64 y.f1, .string y.f2, .slice Ay y.f3.length cy] 54)
          replace nv := Kd.R_alloc nv (.cells #[.int .i64 y.f0, .int .i64 y.f1, .string y.f2, .slice Ay y.f3.length cy] 54)
          replace nw := Kd.R_alloc nw (.cells #[.int .i64 y.f0, .int .i64 y.f1, .string y.f2, .slice Ay y.f3.length cy] 54)
          generalize hgV : w7.heap.size = gV at hboxV ⊢
          generalize w7.alloc (.cells #[.int .i64 y.f0, .int .i64 y.f1, .string y.f2, .slice Ay y.f3.length cy] 54) = u11 at F ha hb ov ow nv nw hboxV ⊢
          clear hgV
          refine hK.out _ _ (hHeldS _ F ha hb) (fun hHeld => ?_)
          clear hK K
          refine norm_ (a' := ?_) ?_ ?_
          rotate_left
          · show Act.put _ (some 73) _ = _
            simp only [Act.put, List.setIfInBounds_toArray, List.set_cons_zero, List.set_cons_succ, i64_w, i32_w]
            rfl
          refine two_ (i := 4) (j := 8) (Ni := some 74) (Nj := some 78) #[true, true, true, true, true, true, true, true, false, false, false, false, false, false] #[true, true, true, true, false, true, true, true, true, false, false, false, false, false] rfl rfl rfl rfl (by kernel_rfl) (by simp) (by simp) (fun K hK => ?_) (fun K hK => ?_)
          · skip
            refine Kd.R_append_rows_step k54 (Rr := fun z d => z = y ∧ d = [.int .i64 y.f0, .int .i64 y.f1, .string y.f2, .slice Ay y.f3.length cy]) (w0 := u11) w.heap.size (by rfl) (.tmp 71) (.tmp 73) 52 54 (.agg #[(.int .i64 0), (.int .i64 0), (.string ⟨#[]⟩), (.slice none 0 0)]) 56 rfl Try.underlying52 info54 rfl (by decide) (by decide) (.slice Av acc.length cv) acc [y] (some ⟨gV, 0, none⟩) 1 1 (OK w bat bl bn bv bw bx) (fun k => OK w bat bl bn bv bw bx k ∧ some k ≠ ((.slice Av acc.length cv) : Value).ownBlock) rfl rfl ov (box_reads hboxV rfl) ?_ (fun _ hk => hk) (fun k hk => F.ok hk) (Below.refl _ _) F.hk.1 (by have := HAL.out; have := HWL.out; omega) ?_
            · rintro z d ⟨rfl, rfl⟩; exact k54_mkM _ _ _ z nv
            intro vV u12 ho_ hbl_ hgr_ hat_
            have hrow : ∀ k, ((.slice Av acc.length cv) : Value).ownBlock = some k → OK w bat bl bn bv bw bx k := fun k e => ov.1 k e
            replace F := F.grown hgr_ hrow
            replace ha := blk_grown ha hgr_ (HAN.out.1)
            replace hb := blk_grown hb hgr_ (Kd.R_ne ov hb (by decide))
            replace ow := Kd.R_over ow ov (by decide) hgr_
            replace nw := Kd.R_over nw ov (by decide) hgr_
            replace ov := ho_
            clear ho_ hbl_ hgr_ hat_ hrow nv hboxV
            refine hK.out _ _ (hHeldS _ F ha hb) (fun hHeld => ?_)
            clear hK K
            refine norm_ (a' := ?_) ?_ ?_
            rotate_left
            · show Act.put _ (some 74) _ = _
              simp only [Act.put, List.setIfInBounds_toArray, List.set_cons_zero, List.set_cons_succ, i64_w, i32_w]
              rfl
            refine Rg.pu 10 (some 80) ?_
            refine one_ (i := 8) (N := some 78) #[true, true, true, true, true, true, true, true, true, false, true, false, false, false] rfl rfl (by kernel_rfl) (by simp) (fun K hK => ?_)
            refine value_ (w1 := u12.alloc (.cells #[.int .i64 y.f0, .int .i64 y.f1, .string y.f2, .slice Az (toWs y.f3).length cz] 57)) (v := .slice (some ⟨u12.heap.size, 0, none⟩) 1 1) (by rfl) rfl ?_ ?_
            · first | (go_simp; done) | (go_simp; with_reducible rfl)
            have hboxW : (u12.alloc (.cells #[.int .i64 y.f0, .int .i64 y.f1, .string y.f2, .slice Az (toWs y.f3).length cz] 57)).heap[u12.heap.size]? = some (.cells ([.int .i64 y.f0, .int .i64 y.f1, .string y.f2, .slice Az (toWs y.f3).length cz] : List Value).toArray 57 (0, 0)) := blk_new u12 _
            replace F := F.below (below_alloc (Below.refl _ _) (.cells #[.int .i64 y.f0, .int .i64 y.f1, .string y.f2, .slice Az (toWs y.f3).length cz] 57))
            replace ha := blk_alloc ha (.cells #[.int .i64 y.f0, .int .i64 y.f1, .string y.f2, .slice Az (toWs y.f3).length cz] 57)
            replace hb := blk_alloc hb (.cells #[.int .i64 y.f0, .int .i64 y.f1, .string y.f2, .slice Az (toWs y.f3).length cz] 57)
            replace ov := Kd.R_alloc ov (.cells #[.int .i64 y.f0, .int .i64 y.f1, .string y.f2, .slice Az (toWs y.f3).length cz] 57)
            replace ow := Kd.R_alloc ow (.cells #[.int .i64 y.f0, .int .i64 y.f1, .string y.f2, .slice Az (toWs y.f3).length cz] 57)
            replace nw := Kd.R_alloc nw (.cells #[.int .i64 y.f0, .int .i64 y.f1, .string y.f2, .slice Az (toWs y.f3).length cz] 57)
            generalize hgW : u12.heap.size = gW at hboxW ⊢
            generalize u12.alloc (.cells #[.int .i64 y.f0, .int .i64 y.f1, .string y.f2, .slice Az (toWs y.f3).length cz] 57) = u13 at F ha hb ov ow nw hboxW ⊢
            clear hgW
            refine hK.out _ _ (hHeldS _ F ha hb) (fun hHeld => ?_)
            clear hK K
            refine norm_ (a' := ?_) ?_ ?_
            rotate_left
            · show Act.put _ (some 78) _ = _
              simp only [Act.put, List.setIfInBounds_toArray, List.set_cons_zero, List.set_cons_succ, i64_w, i32_w]
              rfl
            refine one_ (i := 9) (N := some 79) #[true, true, true, true, true, true, true, true, true, true, true, false, false, false] rfl rfl (by kernel_rfl) (by simp) (fun K hK => ?_)
            refine Kd.R_append_rows_step k57 (Rr := fun z d => z = (toW y) ∧ d = [.int .i64 y.f0, .int .i64 y.f1, .string y.f2, .slice Az (toWs y.f3).length cz]) (w0 := u13) w.heap.size (by rfl) (.tmp 76) (.tmp 78) 55 57 (.agg #[(.int .i64 0), (.int .i64 0), (.string ⟨#[]⟩), (.slice none 0 0)]) 56 rfl Try.underlying55 info57 rfl (by decide) (by decide) (.slice Aw (toWs acc).length cw) (toWs acc) [(toW y)] (some ⟨gW, 0, none⟩) 1 1 (OK w bat bl bn bv bw bx) (fun k => OK w bat bl bn bv bw bx k ∧ some k ≠ ((.slice Aw (toWs acc).length cw) : Value).ownBlock) rfl rfl ow (box_reads hboxW rfl) ?_ (fun _ hk => hk) (fun k hk => F.ok hk) (Below.refl _ _) F.hk.1 (by have := HAL.out; have := HWL.out; omega) ?_
            · rintro z d ⟨rfl, rfl⟩; exact mkMW _ _ _ y nw
            intro vW u14 ho_ hbl_ hgr_ hat_
            have hrow : ∀ k, ((.slice Aw (toWs acc).length cw) : Value).ownBlock = some k → OK w bat bl bn bv bw bx k := fun k e => ow.1 k e
            replace F := F.grown hgr_ hrow
            replace hb := blk_grown hb hgr_ (HAN.out.2)
            replace ha := blk_grown ha hgr_ (Kd.R_ne ow ha (by decide))
            replace ov := Kd.R_over ov ow (by decide) hgr_
            replace ow := ho_
            clear ho_ hbl_ hgr_ hat_ hrow nw hboxW
            refine hK.out _ _ (hHeldS _ F ha hb) (fun hHeld => ?_)
            clear hK K
            refine norm_ (a' := ?_) ?_ ?_
            rotate_left
            · show Act.put _ (some 79) _ = _
              simp only [Act.put, List.setIfInBounds_toArray, List.set_cons_zero, List.set_cons_succ, i64_w, i32_w]
              rfl
            obtain ⟨A1, c1, e1⟩ := Kd.R_slice ov
            obtain ⟨A2, c2, e2⟩ := Kd.R_slice ow
            have ew : toWs (acc ++ [y]) = toWs acc ++ [toW y] := toWs_snoc acc y
            have hc_ := hcont (gV, gW, vV, vW) u14 ⟨⟨A1, c1, e1⟩, ⟨A2, c2, by rw [ew]; exact e2⟩, F, ov, by rw [ew]; exact ow⟩
            simp only [putAll, Act.put, List.setIfInBounds_toArray, List.set_cons_zero, List.set_cons_succ] at hc_
            exact hc_
          · skip
            refine value_ (w1 := u11.alloc (.cells #[.int .i64 y.f0, .int .i64 y.f1, .string y.f2, .slice Az (toWs y.f3).length cz] 57)) (v := .slice (some ⟨u11.heap.size, 0, none⟩) 1 1) (by rfl) rfl ?_ ?_
            · first | (go_simp; done) | (go_simp; with_reducible rfl)
            have hboxW : (u11.alloc (.cells #[.int .i64 y.f0, .int .i64 y.f1, .string y.f2, .slice Az (toWs y.f3).length cz] 57)).heap[u11.heap.size]? = some (.cells ([.int .i64 y.f0, .int .i64 y.f1, .string y.f2, .slice Az (toWs y.f3).length cz] : List Value).toArray 57 (0, 0)) := blk_new u11 _
            replace hboxV := blk_alloc hboxV (.cells #[.int .i64 y.f0, .int .i64 y.f1, .string y.f2, .slice Az (toWs y.f3).length cz] 57)
            replace F := F.below (below_alloc (Below.refl _ _) (.cells #[.int .i64 y.f0, .int .i64 y.f1, .string y.f2, .slice Az (toWs y.f3).length cz] 57))
            replace ha := blk_alloc ha (.cells #[.int .i64 y.f0, .int .i64 y.f1, .string y.f2, .slice Az (toWs y.f3).length cz] 57)
            replace hb := blk_alloc hb (.cells #[.int .i64 y.f0, .int .i64 y.f1, .string y.f2, .slice Az (toWs y.f3).length cz] 57)
            replace ov := Kd.R_alloc ov (.cells #[.int .i64 y.f0, .int .i64 y.f1, .string y.f2, .slice Az (toWs y.f3).length cz] 57)
            replace ow := Kd.R_alloc ow (.cells #[.int .i64 y.f0, .int .i64 y.f1, .string y.f2, .slice Az (toWs y.f3).length cz] 57)
            replace nv := Kd.R_alloc nv (.cells #[.int .i64 y.f0, .int .i64 y.f1, .string y.f2, .slice Az (toWs y.f3).length cz] 57)
            replace nw := Kd.R_alloc nw (.cells #[.int .i64 y.f0, .int .i64 y.f1, .string y.f2, .slice Az (toWs y.f3).length cz] 57)
            generalize hgW : u11.heap.size = gW at hboxW ⊢
            generalize u11.alloc (.cells #[.int .i64 y.f0, .int .i64 y.f1, .string y.f2, .slice Az (toWs y.f3).length cz] 57) = u12 at F ha hb ov ow nv nw hboxW hboxV ⊢
            clear hgW
            refine hK.out _ _ (hHeldS _ F ha hb) (fun hHeld => ?_)
            clear hK K
            refine norm_ (a' := ?_) ?_ ?_
            rotate_left
            · show Act.put _ (some 78) _ = _
              simp only [Act.put, List.setIfInBounds_toArray, List.set_cons_zero, List.set_cons_succ, i64_w, i32_w]
              rfl
            refine one_ (i := 4) (N := some 74) #[true, true, true, true, true, true, true, true, true, false, false, false, false, false] rfl rfl (by kernel_rfl) (by simp) (fun K hK => ?_)
            refine Kd.R_append_rows_step k54 (Rr := fun z d => z = y ∧ d = [.int .i64 y.f0, .int .i64 y.f1, .string y.f2, .slice Ay y.f3.length cy]) (w0 := u12) w.heap.size (by rfl) (.tmp 71) (.tmp 73) 52 54 (.agg #[(.int .i64 0), (.int .i64 0), (.string ⟨#[]⟩), (.slice none 0 0)]) 56 rfl Try.underlying52 info54 rfl (by decide) (by decide) (.slice Av acc.length cv) acc [y] (some ⟨gV, 0, none⟩) 1 1 (OK w bat bl bn bv bw bx) (fun k => OK w bat bl bn bv bw bx k ∧ some k ≠ ((.slice Av acc.length cv) : Value).ownBlock) rfl rfl ov (box_reads hboxV rfl) ?_ (fun _ hk => hk) (fun k hk => F.ok hk) (Below.refl _ _) F.hk.1 (by have := HAL.out; have := HWL.out; omega) ?_
            · rintro z d ⟨rfl, rfl⟩; exact k54_mkM _ _ _ z nv
            intro vV u13 ho_ hbl_ hgr_ hat_
            have hrow : ∀ k, ((.slice Av acc.length cv) : Value).ownBlock = some k → OK w bat bl bn bv bw bx k := fun k e => ov.1 k e
            replace F := F.grown hgr_ hrow
            replace ha := blk_grown ha hgr_ (HAN.out.1)
            replace hb := blk_grown hb hgr_ (Kd.R_ne ov hb (by decide))
            replace ow := Kd.R_over ow ov (by decide) hgr_
            replace nw := Kd.R_over nw ov (by decide) hgr_
            replace hboxW := blk_grown hboxW hgr_ (Kd.R_ne ov hboxW (by decide))
            replace ov := ho_
            clear ho_ hbl_ hgr_ hat_ hrow nv hboxV
            refine hK.out _ _ (hHeldS _ F ha hb) (fun hHeld => ?_)
            clear hK K
            refine norm_ (a' := ?_) ?_ ?_
            rotate_left
            · show Act.put _ (some 74) _ = _
              simp only [Act.put, List.setIfInBounds_toArray, List.set_cons_zero, List.set_cons_succ, i64_w, i32_w]
              rfl
            refine Rg.pu 10 (some 80) ?_
            refine one_ (i := 9) (N := some 79) #[true, true, true, true, true, true, true, true, true, true, true, false, false, false] rfl rfl (by kernel_rfl) (by simp) (fun K hK => ?_)
            refine Kd.R_append_rows_step k57 (Rr := fun z d => z = (toW y) ∧ d = [.int .i64 y.f0, .int .i64 y.f1, .string y.f2, .slice Az (toWs y.f3).length cz]) (w0 := u13) w.heap.size (by rfl) (.tmp 76) (.tmp 78) 55 57 (.agg #[(.int .i64 0), (.int .i64 0), (.string ⟨#[]⟩), (.slice none 0 0)]) 56 rfl Try.underlying55 info57 rfl (by decide) (by decide) (.slice Aw (toWs acc).length cw) (toWs acc) [(toW y)] (some ⟨gW, 0, none⟩) 1 1 (OK w bat bl bn bv bw bx) (fun k => OK w bat bl bn bv bw bx k ∧ some k ≠ ((.slice Aw (toWs acc).length cw) : Value).ownBlock) rfl rfl ow (box_reads hboxW rfl) ?_ (fun _ hk => hk) (fun k hk => F.ok hk) (Below.refl _ _) F.hk.1 (by have := HAL.out; have := HWL.out; omega) ?_
            · rintro z d ⟨rfl, rfl⟩; exact mkMW _ _ _ y nw
            intro vW u14 ho_ hbl_ hgr_ hat_
            have hrow : ∀ k, ((.slice Aw (toWs acc).length cw) : Value).ownBlock = some k → OK w bat bl bn bv bw bx k := fun k e => ow.1 k e
            replace F := F.grown hgr_ hrow
            replace hb := blk_grown hb hgr_ (HAN.out.2)
            replace ha := blk_grown ha hgr_ (Kd.R_ne ow ha (by decide))
            replace ov := Kd.R_over ov ow (by decide) hgr_
            replace ow := ho_
            clear ho_ hbl_ hgr_ hat_ hrow nw hboxW
            refine hK.out _ _ (hHeldS _ F ha hb) (fun hHeld => ?_)
            clear hK K
            refine norm_ (a' := ?_) ?_ ?_
            rotate_left
            · show Act.put _ (some 79) _ = _
              simp only [Act.put, List.setIfInBounds_toArray, List.set_cons_zero, List.set_cons_succ, i64_w, i32_w]
              rfl
            obtain ⟨A1, c1, e1⟩ := Kd.R_slice ov
            obtain ⟨A2, c2, e2⟩ := Kd.R_slice ow
            have ew : toWs (acc ++ [y]) = toWs acc ++ [toW y] := toWs_snoc acc y
            have hc_ := hcont (gV, gW, vV, vW) u14 ⟨⟨A1, c1, e1⟩, ⟨A2, c2, by rw [ew]; exact e2⟩, F, ov, by rw [ew]; exact ow⟩
            simp only [putAll, Act.put, List.setIfInBounds_toArray, List.set_cons_zero, List.set_cons_succ] at hc_
            exact hc_
        · skip
          refine value_ (w1 := w7.alloc (.cells #[.int .i64 y.f0, .int .i64 y.f1, .string y.f2, .slice Az (toWs y.f3).length cz] 57)) (v := .slice (some ⟨w7.heap.size, 0, none⟩) 1 1) (by rfl) rfl ?_ ?_
          · first | (go_simp; done) | (go_simp; with_reducible rfl)
          have hboxW : (w7.alloc (.cells #[.int .i64 y.f0, .int .i64 y.f1, .string y.f2, .slice Az (toWs y.f3).length cz] 57)).heap[w7.heap.size]? = some (.cells ([.int .i64 y.f0, .int .i64 y.f1, .string y.f2, .slice Az (toWs y.f3).length cz] : List Value).toArray 57 (0, 0)) := blk_new w7 _
          replace F := F.below (below_alloc (Below.refl _ _) (.cells #[.int .i64 y.f0, .int .i64 y.f1, .string y.f2, .slice Az (toWs y.f3).length cz] 57))
          replace ha := blk_alloc ha (.cells #[.int .i64 y.f0, .int .i64 y.f1, .string y.f2, .slice Az (toWs y.f3).length cz] 57)
          replace hb := blk_alloc hb (.cells #[.int .i64 y.f0, .int .i64 y.f1, .string y.f2, .slice Az (toWs y.f3).length cz] 57)
          replace ov := Kd.R_alloc ov (.cells #[.int .i64 y.f0, .int .i64 y.f1, .string y.f2, .slice Az (toWs y.f3).length cz] 57)
          replace ow := Kd.R_alloc ow (.cells #[.int .i64 y.f0, .int .i64 y.f1, .string y.f2, .slice Az (toWs y.f3).length cz] 57)
          replace nv := Kd.R_alloc nv (.cells #[.int .i64 y.f0, .int .i64 y.f1, .string y.f2, .slice Az (toWs y.f3).length cz] 57)
          replace nw := Kd.R_alloc nw (.cells #[.int .i64 y.f0, .int .i64 y.f1, .string y.f2, .slice Az (toWs y.f3).length cz] 57)
          generalize hgW : w7.heap.size = gW at hboxW ⊢
          generalize w7.alloc (.cells #[.int .i64 y.f0, .int .i64 y.f1, .string y.f2, .slice Az (toWs y.f3).length cz] 57) = u11 at F ha hb ov ow nv nw hboxW ⊢
          clear hgW
          refine hK.out _ _ (hHeldS _ F ha hb) (fun hHeld => ?_)
          clear hK K
          refine norm_ (a' := ?_) ?_ ?_
          rotate_left
          · show Act.put _ (some 78) _ = _
            simp only [Act.put, List.setIfInBounds_toArray, List.set_cons_zero, List.set_cons_succ, i64_w, i32_w]
            rfl
          refine one_ (i := 3) (N := some 73) #[true, true, true, true, false, true, true, true, true, false, false, false, false, false] rfl rfl (by kernel_rfl) (by simp) (fun K hK => ?_)
          refine value_ (w1 := u11.alloc (.cells #[.int .i64 y.f0, .int .i64 y.f1, .string y.f2, .slice Ay y.f3.length cy] 54)) (v := .slice (some ⟨u11.heap.size, 0, none⟩) 1 1) (by rfl) rfl ?_ ?_
          · first | (go_simp; done) | (go_simp; with_reducible rfl)
          have hboxV : (u11.alloc (.cells #[.int .i64 y.f0, .int .i64 y.f1, .string y.f2, .slice Ay y.f3.length cy] 54)).heap[u11.heap.size]? = some (.cells ([.int .i64 y.f0, .int .i64 y.f1, .string y.f2, .slice Ay y.f3.length cy] : List Value).toArray 54 (0, 0)) := blk_new u11 _
          replace hboxW := blk_alloc hboxW (.cells #[.int .i64 y.f0, .int .i64 y.f1, .string y.f2, .slice Ay y.f3.length cy] 54)
          replace F := F.below (below_alloc (Below.refl _ _) (.cells #[.int .i64 y.f0, .int .i64 y.f1, .string y.f2, .slice Ay y.f3.length cy] 54))
          replace ha := blk_alloc ha (.cells #[.int .i64 y.f0, .int .i64 y.f1, .string y.f2, .slice Ay y.f3.length cy] 54)
          replace hb := blk_alloc hb (.cells #[.int .i64 y.f0, .int .i64 y.f1, .string y.f2, .slice Ay y.f3.length cy] 54)
          replace ov := Kd.R_alloc ov (.cells #[.int .i64 y.f0, .int .i64 y.f1, .string y.f2, .slice Ay y.f3.length cy] 54)
          replace ow := Kd.R_alloc ow (.cells #[.int .i64 y.f0, .int .i64 y.f1, .string y.f2, .slice Ay y.f3.length cy] 54)
          replace nv := Kd.R_alloc nv (.cells #[.int .i64 y.f0, .int .i64 y.f1, .string y.f2, .slice Ay y.f3.length cy] 54)
          replace nw := Kd.R_alloc nw (.cells #[.int .i64 y.f0, .int .i64 y.f1, .string y.f2, .slice Ay y.f3.length cy] 54)
          generalize hgV : u11.heap.size = gV at hboxV ⊢
          generalize u11.alloc (.cells #[.int .i64 y.f0, .int .i64 y.f1, .string y.f2, .slice Ay y.f3.length cy] 54) = u12 at F ha hb ov ow nv nw hboxV hboxW ⊢
          clear hgV
          refine hK.out _ _ (hHeldS _ F ha hb) (fun hHeld => ?_)
          clear hK K
          refine norm_ (a' := ?_) ?_ ?_
          rotate_left
          · show Act.put _ (some 73) _ = _
            simp only [Act.put, List.setIfInBounds_toArray, List.set_cons_zero, List.set_cons_succ, i64_w, i32_w]
            rfl
          refine one_ (i := 4) (N := some 74) #[true, true, true, true, true, true, true, true, true, false, false, false, false, false] rfl rfl (by kernel_rfl) (by simp) (fun K hK => ?_)
          refine Kd.R_append_rows_step k54 (Rr := fun z d => z = y ∧ d = [.int .i64 y.f0, .int .i64 y.f1, .string y.f2, .slice Ay y.f3.length cy]) (w0 := u12) w.heap.size (by rfl) (.tmp 71) (.tmp 73) 52 54 (.agg #[(.int .i64 0), (.int .i64 0), (.string ⟨#[]⟩), (.slice none 0 0)]) 56 rfl Try.underlying52 info54 rfl (by decide) (by decide) (.slice Av acc.length cv) acc [y] (some ⟨gV, 0, none⟩) 1 1 (OK w bat bl bn bv bw bx) (fun k => OK w bat bl bn bv bw bx k ∧ some k ≠ ((.slice Av acc.length cv) : Value).ownBlock) rfl rfl ov (box_reads hboxV rfl) ?_ (fun _ hk => hk) (fun k hk => F.ok hk) (Below.refl _ _) F.hk.1 (by have := HAL.out; have := HWL.out; omega) ?_
          · rintro z d ⟨rfl, rfl⟩; exact k54_mkM _ _ _ z nv
          intro vV u13 ho_ hbl_ hgr_ hat_
          have hrow : ∀ k, ((.slice Av acc.length cv) : Value).ownBlock = some k → OK w bat bl bn bv bw bx k := fun k e => ov.1 k e
          replace F := F.grown hgr_ hrow
          replace ha := blk_grown ha hgr_ (HAN.out.1)
          replace hb := blk_grown hb hgr_ (Kd.R_ne ov hb (by decide))
          replace ow := Kd.R_over ow ov (by decide) hgr_
          replace nw := Kd.R_over nw ov (by decide) hgr_
          replace hboxW := blk_grown hboxW hgr_ (Kd.R_ne ov hboxW (by decide))
          replace ov := ho_
          clear ho_ hbl_ hgr_ hat_ hrow nv hboxV
          refine hK.out _ _ (hHeldS _ F ha hb) (fun hHeld => ?_)
          clear hK K
          refine norm_ (a' := ?_) ?_ ?_
          rotate_left
          · show Act.put _ (some 74) _ = _
            simp only [Act.put, List.setIfInBounds_toArray, List.set_cons_zero, List.set_cons_succ, i64_w, i32_w]
            rfl
          refine Rg.pu 10 (some 80) ?_
          refine one_ (i := 9) (N := some 79) #[true, true, true, true, true, true, true, true, true, true, true, false, false, false] rfl rfl (by kernel_rfl) (by simp) (fun K hK => ?_)
          refine Kd.R_append_rows_step k57 (Rr := fun z d => z = (toW y) ∧ d = [.int .i64 y.f0, .int .i64 y.f1, .string y.f2, .slice Az (toWs y.f3).length cz]) (w0 := u13) w.heap.size (by rfl) (.tmp 76) (.tmp 78) 55 57 (.agg #[(.int .i64 0), (.int .i64 0), (.string ⟨#[]⟩), (.slice none 0 0)]) 56 rfl Try.underlying55 info57 rfl (by decide) (by decide) (.slice Aw (toWs acc).length cw) (toWs acc) [(toW y)] (some ⟨gW, 0, none⟩) 1 1 (OK w bat bl bn bv bw bx) (fun k => OK w bat bl bn bv bw bx k ∧ some k ≠ ((.slice Aw (toWs acc).length cw) : Value).ownBlock) rfl rfl ow (box_reads hboxW rfl) ?_ (fun _ hk => hk) (fun k hk => F.ok hk) (Below.refl _ _) F.hk.1 (by have := HAL.out; have := HWL.out; omega) ?_
          · rintro z d ⟨rfl, rfl⟩; exact mkMW _ _ _ y nw
          intro vW u14 ho_ hbl_ hgr_ hat_
          have hrow : ∀ k, ((.slice Aw (toWs acc).length cw) : Value).ownBlock = some k → OK w bat bl bn bv bw bx k := fun k e => ow.1 k e
          replace F := F.grown hgr_ hrow
          replace hb := blk_grown hb hgr_ (HAN.out.2)
          replace ha := blk_grown ha hgr_ (Kd.R_ne ow ha (by decide))
          replace ov := Kd.R_over ov ow (by decide) hgr_
          replace ow := ho_
          clear ho_ hbl_ hgr_ hat_ hrow nw hboxW
          refine hK.out _ _ (hHeldS _ F ha hb) (fun hHeld => ?_)
          clear hK K
          refine norm_ (a' := ?_) ?_ ?_
          rotate_left
          · show Act.put _ (some 79) _ = _
            simp only [Act.put, List.setIfInBounds_toArray, List.set_cons_zero, List.set_cons_succ, i64_w, i32_w]
            rfl
          obtain ⟨A1, c1, e1⟩ := Kd.R_slice ov
          obtain ⟨A2, c2, e2⟩ := Kd.R_slice ow
          have ew : toWs (acc ++ [y]) = toWs acc ++ [toW y] := toWs_snoc acc y
          have hc_ := hcont (gV, gW, vV, vW) u14 ⟨⟨A1, c1, e1⟩, ⟨A2, c2, by rw [ew]; exact e2⟩, F, ov, by rw [ew]; exact ow⟩
          simp only [putAll, Act.put, List.setIfInBounds_toArray, List.set_cons_zero, List.set_cons_succ] at hc_
          exact hc_
      · have hgo' : decide ((acc.length : Int) < x.f3 ∧ deep < 12 ∧ a' < l.length ∧ a' < 400) = false := decide_eq_false hgo
        have hks : kids l.length (fun b => nextV l m (deep + 1) b) x.f3 deep j acc.length a' = ([], a') := by
          cases j with
          | zero => rfl
          | succ j => simp only [kids]; rw [if_neg (fun h => hgo ⟨h.1, h.2.1, h.2.2.1, h.2.2.2⟩)]
        have hkd := HKD.out
        rw [hks, Prod.mk.injEq] at hkd
        obtain ⟨hr1, hr2⟩ := hkd
        have ht := HT.out
        rw [← hr1, List.append_nil] at ht
        subst ht
        subst hr2
        clear HKD HT hks hr1
        go_upto_region 11 with fail
        have hHeldS : ∀ w' : World, w'.heap[bv]? = some (.cells #[.int .i64 x.f0, .int .i64 x.f1, .string x.f2, .slice Av acc.length cv] 54 (0, 0)) → w'.heap[bw]? = some (.cells #[.int .i64 x.f0, .int .i64 x.f1, .string x.f2, .slice Aw (toWs acc).length cw] 57 (0, 0)) → (w'.cell? ⟨bv, 0, none⟩ = some (.int .i64 x.f0) ∧ w'.cell? ⟨bv, 1, none⟩ = some (.int .i64 x.f1) ∧ w'.cell? ⟨bv, 2, none⟩ = some (.string x.f2) ∧ w'.cell? ⟨bv, 3, none⟩ = some (.slice Av acc.length cv) ∧ w'.cell? ⟨bw, 0, none⟩ = some (.int .i64 x.f0) ∧ w'.cell? ⟨bw, 1, none⟩ = some (.int .i64 x.f1) ∧ w'.cell? ⟨bw, 2, none⟩ = some (.string x.f2) ∧ w'.cell? ⟨bw, 3, none⟩ = some (.slice Aw (toWs acc).length cw)) := fun w' hv hw => ⟨(blk_cell hv 0).trans rfl, (blk_cell hv 1).trans rfl, (blk_cell hv 2).trans rfl, (blk_cell hv 3).trans rfl, (blk_cell hw 0).trans rfl, (blk_cell hw 1).trans rfl, (blk_cell hw 2).trans rfl, (blk_cell hw 3).trans rfl⟩
        have F := FR.out.below (below_drew (Below.refl _ _))
        have ov := Kd.R_drew HOV.out
        have ow := Kd.R_drew HOW.out
        refine start_ (n := 4) (ds := []) (S := fun w' => w'.cell? ⟨bv, 0, none⟩ = some (.int .i64 x.f0) ∧ w'.cell? ⟨bv, 1, none⟩ = some (.int .i64 x.f1) ∧ w'.cell? ⟨bv, 2, none⟩ = some (.string x.f2) ∧ w'.cell? ⟨bv, 3, none⟩ = some (.slice Av acc.length cv) ∧ w'.cell? ⟨bw, 0, none⟩ = some (.int .i64 x.f0) ∧ w'.cell? ⟨bw, 1, none⟩ = some (.int .i64 x.f1) ∧ w'.cell? ⟨bw, 2, none⟩ = some (.string x.f2) ∧ w'.cell? ⟨bw, 3, none⟩ = some (.slice Aw (toWs acc).length cw)) #[false, false, false, false] (by kernel_rfl) rfl rfl (hHeldS _ F.hv F.hw) (fun hHeld => ?_)
        clear FR HOV HOW
        generalize wc.drew = w7 at hHeld F ov ow ⊢
        refine Rg.tk 0 (some 82) hHeld ?_
        refine Rg.tk 1 (some 83) hHeld ?_
        have c0 : w7.cell? ⟨w.heap.size, 0, none⟩ = some (.int .i64 0) := (blk_cell F.hr 0).trans rfl
        have p0 := blk_frozen F.hr 0
        have c1 : w7.cell? ⟨w.heap.size, 1, none⟩ = some (.int .i64 0) := (blk_cell F.hr 1).trans rfl
        have p1 := blk_frozen F.hr 1
        have c2 : w7.cell? ⟨w.heap.size, 2, none⟩ = some (.string ⟨#[]⟩) := (blk_cell F.hr 2).trans rfl
        have p2 := blk_frozen F.hr 2
        have c3 : w7.cell? ⟨w.heap.size, 3, none⟩ = some (.slice none 0 0) := (blk_cell F.hr 3).trans rfl
        have p3 := blk_frozen F.hr 3
        refine one_ (i := 2) (N := none) #[true, true, true, false] rfl rfl (by kernel_rfl) (by simp) (fun K hK => ?_)
        refine skip_ (w1 := set4 w7 w.heap.size (.int .i64 x.f0) (.int .i64 x.f1) (.string x.f2) (.slice Av acc.length cv)) (by rfl) rfl ?_ ?_
        · first | (go_simp; done) | (go_simp; with_reducible rfl)
        have n1 : bw ≠ w.heap.size := blk_ne F.hw F.hr (by decide)
        have n2 : w.heap.size + 1 ≠ bv := blk_ne F.hs F.hv (by decide)
        have hv1 := (set4_o F.nv (.int .i64 x.f0) (.int .i64 x.f1) (.string x.f2) (.slice Av acc.length cv)).trans F.hv
        have hw1 := (set4_o n1 (.int .i64 x.f0) (.int .i64 x.f1) (.string x.f2) (.slice Av acc.length cv)).trans F.hw
        have hr1 := set4_v F.hr (.int .i64 x.f0) (.int .i64 x.f1) (.string x.f2) (.slice Av acc.length cv)
        have hs1 := (set4_o (w := w7) (bv := w.heap.size) (k := w.heap.size + 1) (by omega) (.int .i64 x.f0) (.int .i64 x.f1) (.string x.f2) (.slice Av acc.length cv)).trans F.hs
        have hz1 : ∀ k, k ≠ w.heap.size → (set4 w7 w.heap.size (.int .i64 x.f0) (.int .i64 x.f1) (.string x.f2) (.slice Av acc.length cv)).heap[k]? = w7.heap[k]? := fun k hk => set4_o hk _ _ _ _
        have hB1 := set4_below F.env.hB F.h0 (.int .i64 x.f0) (.int .i64 x.f1) (.string x.f2) (.slice Av acc.length cv)
        have hZ1 : w.heap.size ≤ (set4 w7 w.heap.size (.int .i64 x.f0) (.int .i64 x.f1) (.string x.f2) (.slice Av acc.length cv)).heap.size := by have := F.hk.1; simpa [World.setCell] using this
        generalize set4 w7 w.heap.size (.int .i64 x.f0) (.int .i64 x.f1) (.string x.f2) (.slice Av acc.length cv) = w8 at hv1 hw1 hr1 hs1 hz1 hB1 hZ1 ⊢
        refine hK.out _ _ (hHeldS _ hv1 hw1) (fun hHeld => ?_)
        clear hK K c0 c1 c2 c3 p0 p1 p2 p3
        have c0 : w8.cell? ⟨w.heap.size + 1, 0, none⟩ = some (.int .i64 0) := (blk_cell hs1 0).trans rfl
        have p0 := blk_frozen hs1 0
        have c1 : w8.cell? ⟨w.heap.size + 1, 1, none⟩ = some (.int .i64 0) := (blk_cell hs1 1).trans rfl
        have p1 := blk_frozen hs1 1
        have c2 : w8.cell? ⟨w.heap.size + 1, 2, none⟩ = some (.string ⟨#[]⟩) := (blk_cell hs1 2).trans rfl
        have p2 := blk_frozen hs1 2
        have c3 : w8.cell? ⟨w.heap.size + 1, 3, none⟩ = some (.slice none 0 0) := (blk_cell hs1 3).trans rfl
        have p3 := blk_frozen hs1 3
        refine one_ (i := 3) (N := none) #[true, true, true, true] rfl rfl (by kernel_rfl) (by simp) (fun K hK => ?_)
        refine skip_ (w1 := set4 w8 (w.heap.size + 1) (.int .i64 x.f0) (.int .i64 x.f1) (.string x.f2) (.slice Aw (toWs acc).length cw)) (by rfl) rfl ?_ ?_
        · first | (go_simp; done) | (go_simp; with_reducible rfl)
        have hv2 := (set4_o n2.symm (.int .i64 x.f0) (.int .i64 x.f1) (.string x.f2) (.slice Aw (toWs acc).length cw)).trans hv1
        have hw2 := (set4_o F.nw (.int .i64 x.f0) (.int .i64 x.f1) (.string x.f2) (.slice Aw (toWs acc).length cw)).trans hw1
        have hr2 := (set4_o (w := w8) (bv := w.heap.size + 1) (k := w.heap.size) (by omega) (.int .i64 x.f0) (.int .i64 x.f1) (.string x.f2) (.slice Aw (toWs acc).length cw)).trans hr1
        have hs2 := set4_v hs1 (.int .i64 x.f0) (.int .i64 x.f1) (.string x.f2) (.slice Aw (toWs acc).length cw)
        have hz2 : ∀ k, k ≠ w.heap.size → k ≠ w.heap.size + 1 → (set4 w8 (w.heap.size + 1) (.int .i64 x.f0) (.int .i64 x.f1) (.string x.f2) (.slice Aw (toWs acc).length cw)).heap[k]? = w7.heap[k]? := fun k hk hk' => (set4_o hk' _ _ _ _).trans (hz1 k hk)
        have hB2 := set4_below hB1 (Nat.le_trans F.h0 (Nat.le_succ _)) (.int .i64 x.f0) (.int .i64 x.f1) (.string x.f2) (.slice Aw (toWs acc).length cw)
        have hZ2 : w.heap.size ≤ (set4 w8 (w.heap.size + 1) (.int .i64 x.f0) (.int .i64 x.f1) (.string x.f2) (.slice Aw (toWs acc).length cw)).heap.size := by simpa [World.setCell] using hZ1
        generalize set4 w8 (w.heap.size + 1) (.int .i64 x.f0) (.int .i64 x.f1) (.string x.f2) (.slice Aw (toWs acc).length cw) = w9 at hv2 hw2 hr2 hs2 hz2 hB2 hZ2 ⊢
        refine hK.out _ _ (hHeldS _ hv2 hw2) (fun hHeld => ?_)
        clear hK K c0 c1 c2 c3 p0 p1 p2 p3
        refine done_ (by kernel_rfl) ?_
        (try go_wp2)
        refine ⟨rfl, _, next_results _ w.heap.size (w.heap.size + 1) _ x.f0 x.f1 x.f0 x.f1 x.f2 x.f2 Av Aw acc.length (toWs acc).length cv cw rfl rfl hr2 hs2, Av, Aw, cv, cw, rfl, Kd.R_mono (Kd.R_move ov (fun k o => hz2 k o.r o.s)) (fun _ _ => trivial), Kd.R_mono (Kd.R_move ow (fun k o => hz2 k o.r o.s)) (fun _ _ => trivial), (hz2 bat (blk_ne F.env.hat F.hr (by decide)) (blk_ne F.env.hat F.hs (by decide))).trans F.env.hat, ⟨hZ2, fun k h1 h2 h3 => (hz2 k (by omega) (by omega)).trans (F.hk.2 k h1 h2 h3)⟩, hB2⟩
end Go.Proofs.Ytjicfkmpgogppaa.Bu
