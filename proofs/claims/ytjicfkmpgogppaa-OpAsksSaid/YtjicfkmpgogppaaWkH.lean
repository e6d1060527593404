/-
  op's wakes, walked by hand: one request, one answer.
-/
import Derived.Test.YtjicfkmpgogppaaAgW
import Derived.Test.YtjicfkmpgogppaaH2
import Derived.Test.YtjicfkmpgogppaaH1
import Derived.Test.YtjicfkmpgogppaaH0
namespace Go.Proofs.Ytjicfkmpgogppaa.Wh
set_option linter.unusedVariables false
set_option linter.unusedSimpArgs false
open Go Go.RowKit Go.Proofs.Ytjicfkmpgogppaa.Plain Go.Proofs.Ytjicfkmpgogppaa.Vs Go.Proofs.Ytjicfkmpgogppaa.Sh Go.Proofs.Ytjicfkmpgogppaa.PA Go.Proofs.YtjicfkmpgogppaaW.PrintWords Go.Proofs.YtjicfkmpgogppaaW.PrintLast Go.Proofs.YtjicfkmpgogppaaW.PrintMore
open Go.Proofs.Ytjicfkmpgogppaa.Gv (strV numV allV E0)
open Go.Proofs.Ytjicfkmpgogppaa.Ag (num0 str0)
theorem all1 (l : List V) (hl : l.length ≤ 1000000) (A : Option Addr) (c : Nat) (hc : l.length ≤ c) (ok : Nat → Prop) (w : World) (hF : Kd.F k54 w ok A l.length l) :
    Calls Try.prog 40 #[.slice A l.length c] w fun e w' => ∃ A1 c1, e = .returned (.agg #[.int .i64 2, .int .i64 0, .string E0, .slice A1 l.length c1]) ∧ l.length ≤ c1 ∧ Kd.F k54 w' (fun _ => True) A1 l.length l ∧ Bl w w' := by
  refine (pack_All.calls ok A c l 2 0 E0 l w (Kd.V_mk hc hF) (Gv.all_some l hl)).mono fun e w' hp => ?_
  obtain ⟨v, rfl, hN, hb⟩ := hp
  obtain ⟨A1, c1, rfl, l1, hF1⟩ := Kd.N_V (base' := 0) hN
  exact ⟨A1, c1, rfl, l1, Kd.F_mono hF1 (fun _ _ => trivial), hb⟩
theorem put_val : ∀ w A c, Kd.C k54 w A 3 [strV ⟨#[116]⟩, numV 1, allV []] → 3 ≤ c → Calls Try.prog 70 #[.agg #[.int .i64 2, .int .i64 0, .string E0, .slice A 3 c]] w fun e w' => e = .returned (.tuple #[.string ⟨#[3, 0, 3, 2, 0, 1, 116, 1, 1, 2, 3, 0, 0]⟩, .int .i64 0]) ∧ Bl w w' := fun w A c hC hc =>
  pack_Put.calls 24 2 0 E0 A c [strV ⟨#[116]⟩, numV 1, allV []] ⟨#[3, 0, 3, 2, 0, 1, 116, 1, 1, 2, 3, 0, 0]⟩ 0 w hC hc (by kernel_rfl)
theorem put_ans : ∀ w A c, Kd.C k54 w A 2 [numV 0, numV 7] → 2 ≤ c → Calls Try.prog 70 #[.agg #[.int .i64 2, .int .i64 0, .string E0, .slice A 2 c]] w fun e w' => e = .returned (.tuple #[.string ⟨#[3, 0, 2, 1, 0, 1, 1, 14]⟩, .int .i64 0]) ∧ Bl w w' := fun w A c hC hc =>
  pack_Put.calls 24 2 0 E0 A c [numV 0, numV 7] ⟨#[3, 0, 2, 1, 0, 1, 1, 14]⟩ 0 w hC hc (by kernel_rfl)
theorem get_val (w : World) : Calls Try.prog 75 #[.string ⟨#[3, 0, 3, 2, 0, 1, 116, 1, 1, 2, 3, 0, 0]⟩] w fun e w' => ∃ A c, e = .returned (.tuple #[.agg #[.int .i64 2, .int .i64 0, .string E0, .slice A 3 c], .int .i64 0]) ∧ Kd.F k54 w' (fun k => w.heap.size ≤ k) A 3 [strV ⟨#[116]⟩, numV 1, allV []] ∧ Bl w w' := by
  refine (pack_Get.calls ⟨#[3, 0, 3, 2, 0, 1, 116, 1, 1, 2, 3, 0, 0]⟩ 2 0 E0 [strV ⟨#[116]⟩, numV 1, allV []] 0 w (by kernel_rfl)).mono fun e w' hp => ?_
  obtain ⟨v, rfl, hR, hb⟩ := hp
  obtain ⟨A, c, rfl, l1, hC⟩ := Kd.R_V (base' := 0) (Kd.R_bound hR)
  exact ⟨A, c, rfl, Kd.F_mono hC (fun k hk => hk.2.1), hb⟩
theorem foot3 {w : World} {A5 : Option Addr} {c5 g : Nat} (hF : Kd.F k54 w (fun _ => True) A5 0 []) (h : w.heap[g]? = some (.cells #[.int .i64 1, .int .i64 0, .string ⟨#[116]⟩, .slice none 0 0, .int .i64 0, .int .i64 1, .string E0, .slice none 0 0, .int .i64 2, .int .i64 0, .string E0, .slice A5 0 c5] 54 (0, 0))) : Kd.F k54 w (fun _ => True) (some ⟨g, 0, none⟩) 3 [strV ⟨#[116]⟩, numV 1, allV []] :=
  Ag.foot_of (fun _ => True) trivial h [strV ⟨#[116]⟩, numV 1, allV []] (by simp) (fun j x hj => by
    match j, hj with
    | 0, hj => obtain rfl : strV ⟨#[116]⟩ = x := by simpa using hj
               exact ⟨none, 0, Nat.le_refl _, Kd.F_nil _ _ _, rfl, rfl, rfl, rfl⟩
    | 1, hj => obtain rfl : numV 1 = x := by simpa using hj
               exact ⟨none, 0, Nat.le_refl _, Kd.F_nil _ _ _, rfl, rfl, rfl, rfl⟩
    | 2, hj => obtain rfl : allV [] = x := by simpa using hj
               exact ⟨A5, c5, Nat.zero_le _, hF, rfl, rfl, rfl, rfl⟩
    | j + 3, hj => simp at hj)
set_option maxHeartbeats 4000000 in
set_option maxRecDepth 100000 in
theorem put1 (w : World) : Calls Try.prog 29 #[.agg #[.string ⟨#[116]⟩, .int .i64 1, .slice none 0 0]] w fun e w' => e = .returned (.tuple #[.string ⟨#[3, 0, 3, 2, 0, 1, 116, 1, 1, 2, 3, 0, 0]⟩, .int .i64 0]) ∧ Bl w w' := by
  have hu := Try.underlying75
  have hu2 := Try.underlying54
  have H := (St.start w).alloc #[.string ⟨#[116]⟩, .int .i64 1, .slice none 0 0] 75
  go_enter Try.func29, Try.ntmps29
  go_upto_region 1 with fail
  generalize w.alloc (.cells #[.string ⟨#[116]⟩, .int .i64 1, .slice none 0 0] 75) = w1 at H ⊢
  obtain ⟨g1, hg1⟩ : ∃ g, w.heap.size = g := ⟨_, rfl⟩
  rw [hg1] at H ⊢
  clear hg1
  have H := H.drew
  have cc := H.c 0 rfl
  have HA0 := Aside0.mk (fun w' => (show Calls Try.prog 40 #[.slice none 0 0] w' (fun e w'' => ∃ A1 c1, e = .returned (.agg #[.int .i64 2, .int .i64 0, .string E0, .slice A1 0 c1]) ∧ 0 ≤ c1 ∧ Kd.F k54 w'' (fun _ => True) A1 0 [] ∧ Bl w' w'') from all1 [] (by simp) none 0 (Nat.le_refl _) (fun _ => True) w' (Kd.F_nil _ _ _)))
  have HA3 := Aside0.mk (fun w' A (hF : Kd.F k54 w' (fun _ => True) A 3 [strV ⟨#[116]⟩, numV 1, allV []]) => (show Calls Try.prog 40 #[.slice A 3 3] w' (fun e w'' => ∃ A1 c1, e = .returned (.agg #[.int .i64 2, .int .i64 0, .string E0, .slice A1 3 c1]) ∧ 3 ≤ c1 ∧ Kd.F k54 w'' (fun _ => True) A1 3 [strV ⟨#[116]⟩, numV 1, allV []] ∧ Bl w' w'') from all1 [strV ⟨#[116]⟩, numV 1, allV []] (by simp) A 3 (Nat.le_refl _) (fun _ => True) w' hF))
  go_region_held3 (fun w' => w'.cell? ⟨g1, 0, none⟩ = some (.string ⟨#[116]⟩) ∧ w'.cell? ⟨g1, 1, none⟩ = some (.int .i64 1) ∧ w'.cell? ⟨g1, 2, none⟩ = some (.slice none 0 0)) (go_keep) (first | (go_at_call 64; (with_reducible refine (str0 _ _).mono ?_); rintro e wq ⟨rfl, hq⟩; have H := H.go hq; have cc := H.c 0 rfl; clear hq) | (go_at_call 48; (with_reducible refine (num0 _ _).mono ?_); rintro e wq ⟨rfl, hq⟩; have H := H.go hq; have cc := H.c 0 rfl; clear hq) | (go_at_call 40; (with_reducible refine (HA0.out _).mono ?_); rintro e wq ⟨A5, c5, rfl, l5, hF5, hq⟩; have HF5 := Aside0.mk hF5; have H := H.go hq; have cc := H.c 0 rfl; clear hq hF5 l5) | (go_at_call 40; have H := H.alloc #[.int .i64 1, .int .i64 0, .string ⟨#[116]⟩, .slice none 0 0, .int .i64 0, .int .i64 1, .string E0, .slice none 0 0, .int .i64 2, .int .i64 0, .string E0, .slice A5 0 c5] 54; (with_reducible refine (HA3.out _ _ ?b).mono ?_); (case b => exact foot3 (Kd.F_alloc HF5.out _) (H.mem 0 rfl)); rintro e wq ⟨A6, c6, rfl, l6, hF6, hq⟩; have HF6 := Aside0.mk hF6; have HL6 := Aside0.mk l6; have H := H.go hq; have cc := H.c 1 rfl; clear hq hF6 l6) | (go_at_call 70; (with_reducible refine (put_val _ A6 c6 (Kd.F_now HF6.out) HL6.out).mono ?_); rintro e wq ⟨rfl, hq⟩; have H := H.go hq; have cc := H.c 1 rfl; clear hq))
  go_wp2
  go_ret2
  exact ⟨rfl, H.hb⟩
set_option maxHeartbeats 4000000 in
set_option maxRecDepth 100000 in
theorem bytes1 (w : World) : Calls Try.prog 32 #[.agg #[.int .i64 0, .int .i64 0, .int .i64 7, .string E0, .slice none 0 0]] w fun e w' => e = .returned (.string ⟨#[3, 0, 2, 1, 0, 1, 1, 14]⟩) ∧ Bl w w' := by
  have hu := Try.underlying82
  have hu2 := Try.underlying54
  have H := (St.start w).alloc #[.int .i64 0, .int .i64 0, .int .i64 7, .string E0, .slice none 0 0] 82
  go_enter Try.func32, Try.ntmps32
  go_upto_region 1 with fail
  generalize w.alloc (.cells #[.int .i64 0, .int .i64 0, .int .i64 7, .string E0, .slice none 0 0] 82) = w1 at H ⊢
  obtain ⟨g1, hg1⟩ : ∃ g, w.heap.size = g := ⟨_, rfl⟩
  rw [hg1] at H ⊢
  clear hg1
  have H := H.drew
  have cc := H.c 0 rfl
  have HA2 := Aside0.mk (fun w' A (hF : Kd.F k54 w' (fun _ => True) A 2 [numV 0, numV 7]) => (show Calls Try.prog 40 #[.slice A 2 2] w' (fun e w'' => ∃ A1 c1, e = .returned (.agg #[.int .i64 2, .int .i64 0, .string E0, .slice A1 2 c1]) ∧ 2 ≤ c1 ∧ Kd.F k54 w'' (fun _ => True) A1 2 [numV 0, numV 7] ∧ Bl w' w'') from all1 [numV 0, numV 7] (by simp) A 2 (Nat.le_refl _) (fun _ => True) w' hF))
  go_region_held3 (fun w' => w'.cell? ⟨g1, 0, none⟩ = some (.int .i64 0) ∧ w'.cell? ⟨g1, 1, none⟩ = some (.int .i64 0) ∧ w'.cell? ⟨g1, 2, none⟩ = some (.int .i64 7) ∧ w'.cell? ⟨g1, 3, none⟩ = some (.string E0) ∧ w'.cell? ⟨g1, 4, none⟩ = some (.slice none 0 0)) (go_keep) (first | (go_at_call 48; (with_reducible refine (num0 _ _).mono ?_); rintro e wq ⟨rfl, hq⟩; have H := H.go hq; have cc := H.c 0 rfl; clear hq) | (go_at_call 40; have H := H.alloc #[.int .i64 0, .int .i64 0, .string E0, .slice none 0 0, .int .i64 0, .int .i64 7, .string E0, .slice none 0 0] 54; (with_reducible refine (HA2.out _ _ ?b).mono ?_); (case b => exact Ag.foot_flat (fun _ => True) trivial [numV 0, numV 7] (by simp [numV]) (by simp) (H.mem 0 rfl)); rintro e wq ⟨A6, c6, rfl, l6, hF6, hq⟩; have HF6 := Aside0.mk hF6; have HL6 := Aside0.mk l6; have H := H.go hq; have cc := H.c 1 rfl; clear hq hF6 l6) | (go_at_call 70; (with_reducible refine (put_ans _ A6 c6 (Kd.F_now HF6.out) HL6.out).mono ?_); rintro e wq ⟨rfl, hq⟩; have H := H.go hq; have cc := H.c 1 rfl; clear hq))
  go_wp2
  exact bodyPost_ret (results_tmp Try.results32 _ _ _) rfl ⟨rfl, H.hb⟩
set_option maxHeartbeats 4000000 in
set_option maxRecDepth 100000 in
theorem get1 (w : World) : Calls Try.prog 34 #[.string ⟨#[3, 0, 3, 2, 0, 1, 116, 1, 1, 2, 3, 0, 0]⟩] w fun e w' => ∃ A c, e = .returned (.tuple #[.agg #[.string ⟨#[116]⟩, .int .i64 1, .slice A 0 c], .int .i64 0]) ∧ Bl w w' := by
  have hu := Try.underlying75
  have hu2 := Try.underlying54
  have H := (St.start w).alloc #[.string ⟨#[]⟩, .int .i64 0, .slice none 0 0] 75
  go_enter Try.func34, Try.ntmps34
  go_upto_region 1 with fail
  generalize w.alloc (.cells #[.string ⟨#[]⟩, .int .i64 0, .slice none 0 0] 75) = w1 at H ⊢
  obtain ⟨g1, hg1⟩ : ∃ g, w.heap.size = g := ⟨_, rfl⟩
  rw [hg1] at H ⊢
  clear hg1
  go_upto_region 4 with (go_at_call 75; go_loud ((with_reducible refine (get_val _).mono ?_); rintro e wq ⟨A, c, rfl, hC, hq⟩; have HC := Aside0.mk (Kd.F_now hC); have HIN := Aside0.mk (fun ad (hA : A = some ad) => Nat.lt_of_lt_of_le (H.lt 0 rfl) (Kd.F_in hC hA (by decide) (by decide))); replace H := H.go hq; clear hC hq))
  obtain ⟨ad, B0, d0, rfl, x00, x01, x02, x03, l0, y0⟩ := Sm.atV HC.out 0 (by decide) (by simp)
  obtain ⟨ad1, B1, d1, e1, x10, x11, x12, x13, l1, y1⟩ := Sm.atV HC.out 1 (by decide) (by simp)
  obtain rfl : ad = ad1 := Option.some.inj e1
  obtain ⟨ad2, A9, c9, e2, x20, x21, x22, x23, l2, y2⟩ := Sm.atV HC.out 2 (by decide) (by simp)
  obtain rfl : ad = ad2 := Option.some.inj e2
  simp only [Nat.zero_mul, Nat.reduceMul, Addr.add_zero', Addr.add_succ', strV, numV, allV, List.getElem_cons_zero, List.getElem_cons_succ, List.length_nil] at x00 x02 x10 x11 x20 x23
  clear e1 e2 x01 x03 x12 x13 x21 x22 l0 l1 l2 y0 y1 y2 HC
  replace H := H.alloc #[.int .i64 2, .int .i64 0, .string E0, .slice (some ad) 3 c] 54
  replace x00 := (World.cell?_alloc_lt wq (.cells #[.int .i64 2, .int .i64 0, .string E0, .slice (some ad) 3 c] 54) _ (World.block_lt_of_cell? wq _ x00)).trans x00
  replace x02 := (World.cell?_alloc_lt wq (.cells #[.int .i64 2, .int .i64 0, .string E0, .slice (some ad) 3 c] 54) _ (World.block_lt_of_cell? wq _ x02)).trans x02
  replace x10 := (World.cell?_alloc_lt wq (.cells #[.int .i64 2, .int .i64 0, .string E0, .slice (some ad) 3 c] 54) _ (World.block_lt_of_cell? wq _ x10)).trans x10
  replace x11 := (World.cell?_alloc_lt wq (.cells #[.int .i64 2, .int .i64 0, .string E0, .slice (some ad) 3 c] 54) _ (World.block_lt_of_cell? wq _ x11)).trans x11
  replace x20 := (World.cell?_alloc_lt wq (.cells #[.int .i64 2, .int .i64 0, .string E0, .slice (some ad) 3 c] 54) _ (World.block_lt_of_cell? wq _ x20)).trans x20
  replace x23 := (World.cell?_alloc_lt wq (.cells #[.int .i64 2, .int .i64 0, .string E0, .slice (some ad) 3 c] 54) _ (World.block_lt_of_cell? wq _ x23)).trans x23
  generalize wq.alloc (.cells #[.int .i64 2, .int .i64 0, .string E0, .slice (some ad) 3 c] 54) = w2 at H x00 x02 x10 x11 x20 x23 ⊢
  generalize wq.heap.size = g2 at H ⊢
  have cc := H.c 0 rfl
  have n1 : g1 ≠ g2 := Nat.ne_of_lt (H.gt 0 1 (by decide) rfl rfl)
  go_upto_region 10 with fail
  have hE := H.drew
  have q1 := H.q 1 rfl
  have z1 := H.c 1 rfl
  have na : ad.block ≠ g1 := fun e => by
    have := HIN.out ad rfl
    omega
  have nb : g1 ≠ ad.block := na.symm
  go_region_held3 (fun w' => w'.cell? ⟨g2, 3, none⟩ = some (.slice (some ad) 3 c) ∧ w'.cell? ⟨ad.block, ad.off + 2, none⟩ = some (.string ⟨#[116]⟩) ∧ w'.cell? ⟨ad.block, ad.off + 4 + 1, none⟩ = some (.int .i64 1) ∧ w'.cell? ⟨ad.block, ad.off + 8 + 3, none⟩ = some (.slice A9 0 c9)) (go_keep) (fail)
  have H9 := (H.sets 1 [.string ⟨#[116]⟩, .int .i64 1, .slice A9 0 c9] rfl rfl rfl).drew
  clear cc n1 hE q1 z1 na nb x00 x02 x10 x11 x20 x23
  go_wp2
  exact bodyPost_ret (results_ct Try.results34 _ _ g1 75 #[.string ⟨#[116]⟩, .int .i64 1, .slice A9 0 c9] (0, 0) _ rfl (H9.mem 1 rfl) hu rfl (by kernel_rfl)) rfl ⟨A9, c9, rfl, H9.hb⟩
set_option maxHeartbeats 4000000 in
set_option maxRecDepth 100000 in
theorem wakes1 (w : World) : Calls Try.prog 31 #[] w fun e w' => e = .returned (.bool true) ∧ Bl w w' := by
  have hu := Try.underlying75
  have hu2 := Try.underlying54
  have hu3 := Try.underlying82
  have H := St.start w
  go_enter Try.func31, Try.ntmps31
  go_upto_region 2 with (go_at_call 48; go_loud ((with_reducible refine (num0 _ _).mono ?_); rintro e wq ⟨rfl, hq⟩; have H := H.go hq; clear hq))
  have H := H.alloc #[.int .i64 0, .int .i64 0, .int .i64 7, .string E0, .slice none 0 0] 82
  generalize wq.alloc (.cells #[.int .i64 0, .int .i64 0, .int .i64 7, .string E0, .slice none 0 0] 82) = w1 at H ⊢
  generalize wq.heap.size = g1 at H ⊢
  go_upto_region 3 with (go_at_call 29; go_loud ((with_reducible refine (put1 _).mono ?_); rintro e wq ⟨rfl, hq⟩; have H := H.go hq; clear hq))
  go_upto_region 4 with (go_at_call 34; go_loud ((with_reducible refine (get1 _).mono ?_); rintro e wq ⟨A, c, rfl, hq⟩; have H := H.go hq; clear hq))
  have H := H.alloc #[.string ⟨#[116]⟩, .int .i64 1, .slice A 0 c] 75
  generalize wq.alloc (.cells #[.string ⟨#[116]⟩, .int .i64 1, .slice A 0 c] 75) = w2 at H ⊢
  generalize wq.heap.size = g2 at H ⊢
  have cc := H.c 1 rfl
  have c2 := H.c 0 rfl
  go_wp2_with (go_at_call 32; go_loud ((with_reducible refine (bytes1 _).mono ?_); rintro e wq ⟨rfl, hq⟩; have H := H.go hq; have cc := H.c 1 rfl; have c2 := H.c 0 rfl; clear hq))
  exact bodyPost_ret (results_tmp Try.results31 _ _ _) rfl ⟨rfl, H.hb⟩
end Go.Proofs.Ytjicfkmpgogppaa.Wh
