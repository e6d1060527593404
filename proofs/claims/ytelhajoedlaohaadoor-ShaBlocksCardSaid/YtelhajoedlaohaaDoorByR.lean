/-
  The document's ByRoots, walked.
-/
import Derived.Test.YtelhajoedlaohaaDoorRootsK
namespace Go.Proofs.YtelhajoedlaohaaDoor.Sha
set_option linter.unusedVariables false
set_option linter.unusedSimpArgs false
open Go Go.RowKit Go.Proofs.YtelhajoedlaohaaDoor.Plain Go.Proofs.YtelhajoedlaohaaDoor.PS Go.Proofs.YtelhajoedlaohaaDoorW.PrintWords Go.Proofs.YtelhajoedlaohaaDoorW.PrintLast Go.Proofs.YtelhajoedlaohaaDoorW.PrintMore
/-- no number from 2 up to 1 + k divides p -/
def prim (p : Nat) : Nat → Bool
  | 0 => true
  | k + 1 => prim p k && !(p % (k + 2) == 0)
def isP (p : Nat) : Bool := prim p (p - 2)
/-- how many primes lie below p -/
def cnt (p : Nat) : Nat := (P64.filter (fun q => decide (q < p))).length
def stepOk (p : Nat) : Bool := decide (p < 2) || (decide (cnt p < 64) && (if isP p then decide (cnt (p + 1) = cnt p + 1) && decide (G P64 (cnt p) = p) else decide (cnt (p + 1) = cnt p)))
set_option maxRecDepth 1000000 in
theorem steps_ok : (List.range 312).all stepOk = true := by decide +kernel
theorem cnt_two : cnt 2 = 0 := by decide
theorem cnt_end : cnt 312 = 64 := by decide +kernel
theorem step_ok (p : Nat) (h2 : 2 ≤ p) (h : p < 312) : cnt p < 64 ∧ (isP p = true → cnt (p + 1) = cnt p + 1 ∧ G P64 (cnt p) = p) ∧ (isP p = false → cnt (p + 1) = cnt p) := by
  have hs := List.all_eq_true.mp steps_ok p (List.mem_range.mpr h)
  unfold stepOk at hs
  rw [Bool.or_eq_true, Bool.and_eq_true] at hs
  rcases hs with hs | ⟨h1, hs⟩
  · have := of_decide_eq_true hs; omega
  · refine ⟨of_decide_eq_true h1, ?_, ?_⟩
    · intro hp
      rw [if_pos hp, Bool.and_eq_true] at hs
      exact ⟨of_decide_eq_true hs.1, of_decide_eq_true hs.2⟩
    · intro hp
      rw [if_neg (by rw [hp]; decide)] at hs
      exact of_decide_eq_true hs
def byR : Nat → List Nat
  | 0 => List.replicate 64 0
  | n + 1 => (byR n).set n (G roots n)
theorem byR_all : byR 64 = roots := by decide +kernel
theorem byR_length : ∀ n, (byR n).length = 64
  | 0 => by simp [byR]
  | n + 1 => by rw [byR, List.length_set, byR_length n]
set_option maxHeartbeats 4000000 in
set_option maxRecDepth 1000000 in
theorem byroots_walk (w : World) :
    Calls Tryd.prog 13 #[] w fun e w' => e = .returned (.agg (arr .u32 roots)) ∧ Below w.heap.size w w' := by
  have hkL := (Tryd.underlying29 : Tryd.prog.underlying 29 = _)
  go_enter Tryd.func13, Tryd.ntmps13
  go_upto_region 2 with fail
  have he : arr .u32 (byR 0) = z64 := rfl
  have hB := Aside0.mk (below_alloc (below_alloc (Below.refl w.heap.size w) (.cells z64 29)) (.cells z64 29))
  have hz : (w.alloc (.cells z64 29)).heap.size = w.heap.size + 1 := by show (w.heap.push _).size = _; exact Array.size_push _
  have h0 := Aside0.mk (blk_alloc (z64_blk w) (.cells z64 29))
  have h1 : Aside0 (((w.alloc (.cells z64 29)).alloc (.cells z64 29)).heap[w.heap.size + 1]? = some (.cells (arr .u32 (byR 0)) 29 (0, 0))) := ⟨by
    have h := z64_blk (w.alloc (.cells z64 29))
    rw [hz] at h; exact h⟩
  clear he hz
  generalize (w.alloc (.cells z64 29)).alloc (.cells z64 29) = w1 at hB h0 h1 ⊢
  go_wp2
  go_loopw [2, 3] (fun v2 v3 wr => ∃ p : Nat, 2 ≤ p ∧ p ≤ 312 ∧ v2 = .int .i64 (cnt p : Nat) ∧ v3 = .int .u64 (p : Nat) ∧ Aside0 (wr.heap[w.heap.size]? = some (.cells (arr .u32 (List.replicate 64 0)) 29 (0, 0))) ∧ Aside0 (wr.heap[w.heap.size + 1]? = some (.cells (arr .u32 (byR (cnt p))) 29 (0, 0))) ∧ Aside0 (Below w.heap.size w wr)) (fun _ v3 _ => 312 - (intOf v3).toNat)
  case atStart => exact ⟨2, by omega, by omega, by rw [cnt_two]; rfl, rfl, h0, h1, hB⟩
  case round =>
    clear h0 h1 hB
    obtain ⟨p, hp2, hp, rfl, rfl, h0, h1, hB⟩ := hrel
    have hp0 : (2 : Int) ≤ (p : Int) := by omega
    by_cases hlt : p < 312
    · obtain ⟨hc, hyes, hno⟩ := step_ok p hp2 hlt
      have HY := Aside0.mk hyes
      have HN := Aside0.mk hno
      have hipd : isP p = prim p (p - 2) := rfl
      have HIP := Aside0.mk hipd
      have hroot := Aside0.mk (fun h : isP p = true => (hyes h).2 ▸ root_at (cnt p) hc)
      clear hyes hno hipd
      generalize hcn : cnt p = n at hc HY HN h1 hroot ⊢
      have HCN := Aside0.mk hcn
      clear hcn
      have d1 : (n : Int) < 64 := by omega
      have d2 : (p : Int) < 312 := by omega
      obtain ⟨wo, rfl⟩ : ∃ wo : World, wo = wr := ⟨_, rfl⟩
      have hpr0 : Aside0 (prim p 0 = true) := ⟨rfl⟩
      go_wp2
      go_loopw [4, 5] (fun v4 v5 wr => ∃ k : Nat, k ≤ p - 2 ∧ v4 = .bool (prim p k) ∧ v5 = .int .u64 ((k : Int) + 2) ∧ wr = wo) (fun _ v5 _ => p - (intOf v5).toNat)
      case atStart => exact ⟨0, by omega, rfl, rfl, rfl⟩
      case round =>
        obtain ⟨k, hk, rfl, rfl, rfl⟩ := hrel
        have hk0 : (0 : Int) ≤ (k : Int) := by omega
        by_cases hkl : k < p - 2
        · have e1 : (k : Int) + 2 < (p : Int) := by omega
          have e2 : ¬ ((k : Int) + 2) = 0 := by omega
          have w5 : (k : Int) + 2 + 1 = ((k + 1 : Nat) : Int) + 2 := by omega
          by_cases hd : p % (k + 2) = 0
          · have hpn : Aside0 (prim p (k + 1) = false) := ⟨by rw [prim, hd]; simp⟩
            have e3 : (p : Int) % ((k : Int) + 2) = 0 := by
              have : ((p % (k + 2) : Nat) : Int) = 0 := by rw [hd]; rfl
              rw [Int.natCast_emod] at this
              simpa using this
            have HW5 := Aside0.mk w5
            clear hd w5
            go_wp2
            go_roundw
            case rel => first | exact ⟨k + 1, by omega, (by rw [hpn.out]), (by first | rfl | (congr 1; omega)), (by first | rfl | trivial)⟩ | ((repeat apply Exists.intro); exact ⟨⟨k + 1, by omega, (by rw [hpn.out]), (by first | rfl | (congr 1; omega)), (by first | rfl | trivial)⟩, rfl⟩)
            case measure => simp [intOf]; omega
          · have hpn : Aside0 (prim p (k + 1) = prim p k) := ⟨by rw [prim, beq_eq_false_iff_ne.mpr hd]; simp⟩
            have e3 : ¬ (p : Int) % ((k : Int) + 2) = 0 := by
              intro h
              apply hd
              have : ((p % (k + 2) : Nat) : Int) = 0 := by rw [Int.natCast_emod]; simpa using h
              omega
            have HW5 := Aside0.mk w5
            clear hd w5
            go_wp2
            go_roundw
            case rel => first | exact ⟨k + 1, by omega, (by rw [hpn.out]), (by first | rfl | (congr 1; omega)), (by first | rfl | trivial)⟩ | ((repeat apply Exists.intro); exact ⟨⟨k + 1, by omega, (by rw [hpn.out]), (by first | rfl | (congr 1; omega)), (by first | rfl | trivial)⟩, rfl⟩)
            case measure => simp [intOf]; omega
        · obtain rfl : k = p - 2 := by omega
          have e1 : ¬ ((p - 2 : Nat) : Int) + 2 < (p : Int) := by omega
          have hip := HIP.out
          cases hb : isP p with
          | true =>
            have hpr : prim p (p - 2) = true := by rw [← hip]; exact hb
            have hr := hroot.out hb
            have HC1 := Aside0.mk (HY.out hb)
            rw [hpr]
            clear hpr hip hb hroot HY HN HIP
            have hfr := fun i => blk_frozen h1.out i
            have hcl : wr.cell? ⟨w.heap.size + 1, n, none⟩ = some (.int .u32 (G (byR n) n : Nat)) := (blk_cell h1.out n).trans (arr_at _ _ _ (by rw [byR_length]; exact hc))
            have HR := Aside0.mk hr
            go_upto_region 14 with (go_at_call 31; (with_reducible refine (precinctref04_root.calls 1000 (p : Int) _ _ HR.out).mono ?_); rintro e w5 ⟨rfl, hb⟩; have hcl5 := (hb.cell (World.block_lt_of_cell? wr _ hcl)).trans hcl; have h05 := Aside0.mk (blk_below h0.out hb); have h15 := blk_below h1.out hb; have hfr5 := fun i => blk_frozen h15 i; have h15 := Aside0.mk h15; have hB5 := Aside0.mk (below_step hB.out hb); clear hb hcl hfr)
            have hb2 : Aside0 ((w5.setCell ⟨w.heap.size + 1, n, none⟩ (.int .u32 ((G roots n : Nat) : Int))).heap[w.heap.size + 1]? = some (.cells (arr .u32 (byR (n + 1))) 29 (0, 0))) := ⟨by rw [byR]; exact blk_put h15.out n _ (arr_set _ _ _ _)⟩
            have hb0 := Aside0.mk (blk_far h05.out (p := ⟨w.heap.size + 1, n, none⟩) (by show _ ≠ w.heap.size + 1; omega) (.int .u32 ((G roots n : Nat) : Int)))
            have hbB := Aside0.mk (hB5.out.setCell (p := ⟨w.heap.size + 1, n, none⟩) (by show w.heap.size ≤ w.heap.size + 1; omega) (.int .u32 ((G roots n : Nat) : Int)))
            have hb2' : Aside0 ((w5.setCell ⟨w.heap.size + 1, n, none⟩ (.int .u32 ((G roots n : Nat) : Int))).heap[w.heap.size + 1]? = some (.cells (arr .u32 (byR (cnt (p + 1)))) 29 (0, 0))) := ⟨by rw [HC1.out.1]; exact hb2.out⟩
            have e9 : (n : Int) + 1 = ((cnt (p + 1) : Nat) : Int) := by rw [HC1.out.1]; omega
            have HE9 := Aside0.mk e9
            clear hb2 e9 hcl5 hfr5 HC1
            generalize hG : G roots n = x at hb2' hb0 hbB
            have hG' : roots[n]?.getD 0 = x := hG
            rw [hG']
            clear hG hG'
            generalize w5.setCell ⟨w.heap.size + 1, n, none⟩ (.int .u32 (x : Int)) = w6 at hb2' hb0 hbB ⊢
            go_wp2
            go_roundw
            case rel => first | exact ⟨p + 1, by omega, by omega, by rw [← HE9.out], by go_num, hb0, hb2', hbB⟩ | ((repeat apply Exists.intro); exact ⟨⟨p + 1, by omega, by omega, by rw [← HE9.out], by go_num, hb0, hb2', hbB⟩, rfl⟩)
            case measure => simp [intOf]; omega
          | false =>
            have hpr : prim p (p - 2) = false := by rw [← hip]; exact hb
            have hc1 := Aside0.mk (HN.out hb)
            rw [hpr]
            clear hpr hip hb hroot HY HN HIP
            have h1' : Aside0 (wr.heap[w.heap.size + 1]? = some (.cells (arr .u32 (byR (cnt (p + 1)))) 29 (0, 0))) := ⟨by rw [hc1.out]; exact h1.out⟩
            have e9 : (n : Int) = ((cnt (p + 1) : Nat) : Int) := by rw [hc1.out]
            have HE9 := Aside0.mk e9
            clear e9
            go_wp2
            go_roundw
            case rel => first | exact ⟨p + 1, by omega, by omega, by rw [← HE9.out], by go_num, h0, h1', hB⟩ | ((repeat apply Exists.intro); exact ⟨⟨p + 1, by omega, by omega, by rw [← HE9.out], by go_num, h0, h1', hB⟩, rfl⟩)
            case measure => simp [intOf]; omega
    · obtain rfl : p = 312 := by omega
      rw [cnt_end] at h1 ⊢
      rw [byR_all] at h1
      have hsz : (arr .u32 roots).size = 64 := by rw [arr_size, roots_length]
      have hrow := fun h : wr.heap[w.heap.size]? = some (.cells (arr .u32 (List.replicate 64 0)) 29 (0, 0)) => arr_row .u32 (List.replicate 64 0) roots h (by simp [roots_length])
      have hrow := Aside0.mk (hrow h0.out)
      have hbl := Aside0.mk (below_setCells (Nat.le_refl w.heap.size) (arr .u32 roots).toList 0 _ hB.out)
      have hth : Aside0 (wr.there w.heap.size 0 64) := ⟨fun j hj => ⟨by rw [Nat.zero_add, blk_cell h0.out j, arr_at .u32 _ j (by simpa using hj)]; rfl, blk_frozen h0.out _⟩⟩
      have hone := Aside0.mk (arr_one .u32 roots)
      obtain ⟨R, hRE⟩ : ∃ R, arr .u32 roots = R := ⟨_, rfl⟩
      rw [hRE] at h1 hrow hbl hone hsz
      have HRE := Aside0.mk hRE
      clear hRE
      have hin : Aside0 ((Tryd.prog.info? 29).map (·.size) = some R.size) := ⟨by rw [hsz]; kernel_rfl⟩
      have hth : Aside0 (wr.there w.heap.size 0 R.size) := ⟨by rw [hsz]; exact hth.out⟩
      clear hsz
      go_wp2_with (first
        | (refine wpList_load_row rfl 29 (.tmp 1) rfl (w.heap.size + 1) (by rfl) 29 _ (0, 0) _ h1.out hkL rfl hin.out ?_)
        | (refine wpList_store_mid rfl 29 (.tmp 0) (.tmp 27) rfl w.heap.size 0 R (by rfl) (by rfl) hth.out hin.out hone.out ?_))
      exact bodyPost_ret (v := .agg R) (results_cell_row rfl _ _ w.heap.size 29 _ (0, 0) _ (by rfl) hrow.out hkL rfl hin.out) rfl ⟨by rw [HRE.out], hbl.out⟩
end Go.Proofs.YtelhajoedlaohaaDoor.Sha
