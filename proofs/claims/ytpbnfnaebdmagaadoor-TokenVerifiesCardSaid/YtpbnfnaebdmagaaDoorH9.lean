/-
  The document's mac.
-/
import Derived.Test.YtpbnfnaebdmagaaDoorH4
import Derived.Test.YtpbnfnaebdmagaaDoorH1
namespace Go.Proofs.YtpbnfnaebdmagaaDoor.Sha
set_option linter.unusedVariables false
set_option linter.unusedSimpArgs false
open Go Go.RowKit Go.Proofs.YtpbnfnaebdmagaaDoor.Plain Go.Proofs.YtpbnfnaebdmagaaDoor.PT Go.Proofs.YtpbnfnaebdmagaaDoorW.PrintWords Go.Proofs.YtpbnfnaebdmagaaDoorW.PrintLast Go.Proofs.YtpbnfnaebdmagaaDoorW.PrintMore
theorem ix_bt (s : ByteArray) (i : Nat) (h : i < s.size) (w : World) : (Instr.index 9 (.string s) (.int .i64 (i : Int))).run Tryd.prog w = .ok (.int .u8 (bt s (i : Int))) w := by
  have hr := Go.run_index_string (P := Tryd.prog) (w := w) 9 s .i64 (i : Int) Tryd.underlying9
  rw [hr, dif_pos (by omega)]
  unfold bt
  rw [dif_pos (by omega)]
theorem nums_snoc (l : List Int) (v : Int) : strOfNums (l ++ [v]) = strOfNums l ++ strOfNums [v] := strOfNums_append l [v]
theorem conv1 (W : World) (v : Int) : (convert 45 9 (.slice (some ⟨W.heap.size, 0, none⟩) 1 1)).run Tryd.prog (W.alloc (.cells #[.int .u8 v] 5)) = .ok (.string (strOfNums [v])) (W.alloc (.cells #[.int .u8 v] 5)) := by
  refine string_of_reads (P := Tryd.prog) Tryd.underlying45 Tryd.underlying5 Tryd.underlying9 ⟨rfl, by decide, fun _ => ⟨_, rfl, fun j hj => ?_⟩⟩
  obtain rfl : j = 0 := by omega
  exact blk_cell (blk_new W (.cells #[.int .u8 v] 5)) 0
set_option maxHeartbeats 4000000 in
set_option maxRecDepth 100000 in
theorem rlaid_walk (key : ByteArray) (x : Int) (w : World) (hs : key.size ≤ 281474976710656) (hx0 : 0 ≤ x) (hx1 : x ≤ 255) :
    Calls Tryd.prog 65 #[.agg (arr .u32 roots), .string key, .int .u8 x] w fun e w' => e = .returned (.string (laidK key x)) ∧ Below w.heap.size w w' := by
  have hkL := (Tryd.underlying90 : Tryd.prog.underlying 90 = _)
  have HS := Aside0.mk hs
  have hkz := keyB_size key
  have hQ : laidK key x = strOfNums (laidL (keyB key) x 64) := rfl
  have hW := fun w => Aside0.mk (with_walk roots key w roots_length roots_bnd hs)
  have hsz : (arr .u32 roots).size = 64 := by rw [arr_size, roots_length]
  generalize arr .u32 roots = R at hW hsz ⊢
  have hin : Aside0 ((Tryd.prog.info? 90).map (·.size) = some R.size) := ⟨by rw [hsz]; kernel_rfl⟩
  clear hsz
  have hcase : (64 < key.size ∧ keyB key = sumK roots key) ∨ (¬ 64 < key.size ∧ keyB key = key) := by
    unfold keyB
    split
    · exact Or.inl ⟨by assumption, rfl⟩
    · exact Or.inr ⟨by assumption, rfl⟩
  generalize laidK key x = Z at hQ ⊢
  go_enter Tryd.func65, Tryd.ntmps65
  go_upto_region 1 with fail
  have HR := Aside0.mk (blk_new w (.cells R 90))
  have HB := Aside0.mk (below_alloc (Below.refl w.heap.size w) (.cells R 90))
  generalize w.alloc (.cells R 90) = w1 at HR HB ⊢
  rcases hcase with ⟨h64, hk⟩ | ⟨h64, hk⟩
  · have d1 : decide (64 < (key.size : Int)) = true := by simp; omega
    rw [← hk] at hW
    clear hk
    generalize keyB key = K at hkz hQ hW
    have HQ := Aside0.mk hQ
    clear hQ
    go_upto_region 3 with (first
      | (refine wpList_load_row rfl 90 (.tmp 3) rfl w.heap.size (by rfl) 90 _ (0, 0) _ HR.out hkL rfl hin.out ?_)
      | (go_at_call 66; (with_reducible refine ((hW _).out).mono ?_); rintro e w2 ⟨rfl, hb⟩; have HB2 := Aside0.mk (below_step HB.out hb); clear hb))
    clear hW d1 h64 HR HB
    have HB := HB2
    clear HB2
    have he0 : (⟨#[]⟩ : ByteArray) = strOfNums (laidL K x 0) := rfl
    rw [show (⟨#[]⟩ : ByteArray) = strOfNums (laidL K x 0) from rfl] 
    go_wp2
    go_loopw [7, 8] (fun v7 v8 wr => ∃ i : Nat, i ≤ 64 ∧ v7 = .string (strOfNums (laidL K x i)) ∧ v8 = .int .i64 i ∧ Aside0 (Below w.heap.size w wr)) (fun _ v8 _ => 64 - (intOf v8).toNat)
    case atStart => exact ⟨0, by omega, rfl, rfl, HB⟩
    case round =>
      clear HB
      obtain ⟨i, hi, rfl, rfl, HB⟩ := hrel
      have hi0 : (0 : Int) ≤ (i : Int) := by omega
      by_cases hlt : i < 64
      · have d1 : (i : Int) < 64 := by omega
        have hsn : Aside0 (strOfNums (laidL K x (i + 1)) = strOfNums (laidL K x i) ++ strOfNums [bits .xor .u8 (keyAt K i) x]) := ⟨by rw [laidL_succ, nums_snoc]⟩
        have hsz : (strOfNums (laidL K x i)).size = i := by rw [size_strOfNums, laidL_length]
        generalize strOfNums (laidL K x i) = T at hsn hsz ⊢
        have kc := conv1
        have c5 : ∀ v : Int, (T.size + (strOfNums [v]).size ≤ 9223372036854775807) = True := fun v => eq_true (by rw [size_strOfNums]; simp; omega)
        have c6 : ∀ v : Int, (9223372036854775807 < T.size + (strOfNums [v]).size) = False := fun v => eq_false (by rw [size_strOfNums]; simp; omega)
        clear hsz
        by_cases hkl : i < K.size
        · have d2 : (i : Int) < (K.size : Int) := by omega
          have ix := ix_bt K i hkl
          have hka : keyAt K i = bt K i := by unfold keyAt; rw [if_pos hkl]
          rw [hka] at hsn
          generalize bt K (i : Int) = kx at ix hsn
          clear hka
          have d3 : decide ((i : Int) < (K.size : Int)) = true := decide_eq_true d2
          go_wp2
          go_roundw
          case rel => first | exact ⟨i + 1, by omega, by rw [hsn.out], by go_num, ⟨below_alloc HB.out _⟩⟩ | ((repeat apply Exists.intro); exact ⟨⟨i + 1, by omega, by rw [hsn.out], by go_num, ⟨below_alloc HB.out _⟩⟩, rfl⟩)
          case measure => simp [intOf]; omega
        · have d2 : ¬ (i : Int) < (K.size : Int) := by omega
          have hka : keyAt K i = 0 := by unfold keyAt; rw [if_neg hkl]
          rw [hka] at hsn
          clear hka
          have d3 : decide ((i : Int) < (K.size : Int)) = false := decide_eq_false d2
          go_wp2
          go_roundw
          case rel => first | exact ⟨i + 1, by omega, by rw [hsn.out], by go_num, ⟨below_alloc HB.out _⟩⟩ | ((repeat apply Exists.intro); exact ⟨⟨i + 1, by omega, by rw [hsn.out], by go_num, ⟨below_alloc HB.out _⟩⟩, rfl⟩)
          case measure => simp [intOf]; omega
      · obtain rfl : i = 64 := by omega
        go_wp2
        go_ret
        exact ⟨by rw [HQ.out]; rfl, HB.out⟩
  · have d1 : decide (64 < (key.size : Int)) = false := by simp; omega
    rw [hk] at hkz hQ
    have HQ := Aside0.mk hQ
    clear hQ hk hW
    go_upto_region 3 with fail
    clear d1 h64 HR
    have he0 : (⟨#[]⟩ : ByteArray) = strOfNums (laidL key x 0) := rfl
    rw [show (⟨#[]⟩ : ByteArray) = strOfNums (laidL key x 0) from rfl] 
    go_wp2
    go_loopw [7, 8] (fun v7 v8 wr => ∃ i : Nat, i ≤ 64 ∧ v7 = .string (strOfNums (laidL key x i)) ∧ v8 = .int .i64 i ∧ Aside0 (Below w.heap.size w wr)) (fun _ v8 _ => 64 - (intOf v8).toNat)
    case atStart => exact ⟨0, by omega, rfl, rfl, HB⟩
    case round =>
      clear HB
      obtain ⟨i, hi, rfl, rfl, HB⟩ := hrel
      have hi0 : (0 : Int) ≤ (i : Int) := by omega
      by_cases hlt : i < 64
      · have d1 : (i : Int) < 64 := by omega
        have hsn : Aside0 (strOfNums (laidL key x (i + 1)) = strOfNums (laidL key x i) ++ strOfNums [bits .xor .u8 (keyAt key i) x]) := ⟨by rw [laidL_succ, nums_snoc]⟩
        have hsz : (strOfNums (laidL key x i)).size = i := by rw [size_strOfNums, laidL_length]
        generalize strOfNums (laidL key x i) = T at hsn hsz ⊢
        have kc := conv1
        have c5 : ∀ v : Int, (T.size + (strOfNums [v]).size ≤ 9223372036854775807) = True := fun v => eq_true (by rw [size_strOfNums]; simp; omega)
        have c6 : ∀ v : Int, (9223372036854775807 < T.size + (strOfNums [v]).size) = False := fun v => eq_false (by rw [size_strOfNums]; simp; omega)
        clear hsz
        by_cases hkl : i < key.size
        · have d2 : (i : Int) < (key.size : Int) := by omega
          have ix := ix_bt key i hkl
          have hka : keyAt key i = bt key i := by unfold keyAt; rw [if_pos hkl]
          rw [hka] at hsn
          generalize bt key (i : Int) = kx at ix hsn
          clear hka
          have d3 : decide ((i : Int) < (key.size : Int)) = true := decide_eq_true d2
          go_wp2
          go_roundw
          case rel => first | exact ⟨i + 1, by omega, by rw [hsn.out], by go_num, ⟨below_alloc HB.out _⟩⟩ | ((repeat apply Exists.intro); exact ⟨⟨i + 1, by omega, by rw [hsn.out], by go_num, ⟨below_alloc HB.out _⟩⟩, rfl⟩)
          case measure => simp [intOf]; omega
        · have d2 : ¬ (i : Int) < (key.size : Int) := by omega
          have hka : keyAt key i = 0 := by unfold keyAt; rw [if_neg hkl]
          rw [hka] at hsn
          clear hka
          have d3 : decide ((i : Int) < (key.size : Int)) = false := decide_eq_false d2
          go_wp2
          go_roundw
          case rel => first | exact ⟨i + 1, by omega, by rw [hsn.out], by go_num, ⟨below_alloc HB.out _⟩⟩ | ((repeat apply Exists.intro); exact ⟨⟨i + 1, by omega, by rw [hsn.out], by go_num, ⟨below_alloc HB.out _⟩⟩, rfl⟩)
          case measure => simp [intOf]; omega
      · obtain rfl : i = 64 := by omega
        go_wp2
        go_ret
        exact ⟨by rw [HQ.out]; rfl, HB.out⟩
set_option maxHeartbeats 4000000 in
set_option maxRecDepth 100000 in
theorem rmwith_walk (key text : ByteArray) (w : World) (hs : key.size ≤ 281474976710000) (ht : text.size ≤ 281474976710000) :
    Calls Tryd.prog 46 #[.agg (arr .u32 roots), .string key, .string text] w fun e w' => e = .returned (.string (tagK key text)) ∧ Below w.heap.size w w' := by
  have hkL := (Tryd.underlying90 : Tryd.prog.underlying 90 = _)
  have hI : ∀ w, Aside0 (Calls Tryd.prog 65 #[.agg (arr .u32 roots), .string key, .int .u8 54] w fun e w' => e = .returned (.string (innerK key)) ∧ Below w.heap.size w w') := fun w => Aside0.mk (rlaid_walk key 54 w (by omega) (by decide) (by decide))
  have hO : ∀ w, Aside0 (Calls Tryd.prog 65 #[.agg (arr .u32 roots), .string key, .int .u8 92] w fun e w' => e = .returned (.string (outerK key)) ∧ Below w.heap.size w w') := fun w => Aside0.mk (rlaid_walk key 92 w (by omega) (by decide) (by decide))
  have zo : (outerK key).size = 64 := laidK_size _ _
  have zi : (innerK key).size = 64 := laidK_size _ _
  have zs : (sumK roots (innerK key ++ text)).size = 32 := sumK_size _ _
  have h1 := fun w => Aside0.mk (with_walk roots (innerK key ++ text) w roots_length roots_bnd (by rw [ByteArray.size_append]; omega))
  have h2 := fun w => Aside0.mk (with_walk roots (outerK key ++ sumK roots (innerK key ++ text)) w roots_length roots_bnd (by rw [ByteArray.size_append]; omega))
  have HQ : Aside0 (tagK key text = sumK roots (outerK key ++ sumK roots (innerK key ++ text))) := ⟨rfl⟩
  have c1 : ((innerK key).size + text.size ≤ 9223372036854775807) = True := eq_true (by omega)
  have c2 : (9223372036854775807 < (innerK key).size + text.size) = False := eq_false (by omega)
  have c3 : ((outerK key).size + (sumK roots (innerK key ++ text)).size ≤ 9223372036854775807) = True := eq_true (by omega)
  have c4 : (9223372036854775807 < (outerK key).size + (sumK roots (innerK key ++ text)).size) = False := eq_false (by omega)
  clear zo zi zs
  have hsz : (arr .u32 roots).size = 64 := by rw [arr_size, roots_length]
  generalize arr .u32 roots = R at hI hO h1 h2 hsz ⊢
  have hin : Aside0 ((Tryd.prog.info? 90).map (·.size) = some R.size) := ⟨by rw [hsz]; kernel_rfl⟩
  clear hsz
  generalize outerK key = O at hO h2 HQ c3 c4
  generalize innerK key = I at hI h1 h2 HQ c1 c2 c3 c4
  generalize sumK roots (I ++ text) = D at h1 h2 HQ c3 c4
  go_enter Tryd.func46, Tryd.ntmps46
  go_upto_region 1 with fail
  have HR := Aside0.mk (blk_new w (.cells R 90))
  have HB := Aside0.mk (below_alloc (Below.refl w.heap.size w) (.cells R 90))
  generalize w.alloc (.cells R 90) = w1 at HR HB ⊢
  go_upto_region 2 with (first
    | (refine wpList_load_row rfl 90 (.tmp 3) rfl w.heap.size (by rfl) 90 _ (0, 0) _ HR.out hkL rfl hin.out ?_)
    | (go_at_call 65; (with_reducible refine ((hI _).out).mono ?_); rintro e w2 ⟨rfl, hb⟩; have HB2 := Aside0.mk (below_step HB.out hb); have HR2 := Aside0.mk (blk_below HR.out hb); clear hb))
  clear HB HR
  go_upto_region 3 with (first
    | (refine wpList_load_row rfl 90 (.tmp 3) rfl w.heap.size (by rfl) 90 _ (0, 0) _ HR2.out hkL rfl hin.out ?_)
    | (go_at_call 65; (with_reducible refine ((hO _).out).mono ?_); rintro e w3 ⟨rfl, hb⟩; have HB3 := Aside0.mk (below_step HB2.out hb); have HR3 := Aside0.mk (blk_below HR2.out hb); clear hb))
  clear HB2 HR2
  go_upto_region 4 with (first
    | (refine wpList_load_row rfl 90 (.tmp 3) rfl w.heap.size (by rfl) 90 _ (0, 0) _ HR3.out hkL rfl hin.out ?_)
    | (go_at_call 66; (with_reducible refine ((h1 _).out).mono ?_); rintro e w4 ⟨rfl, hb⟩; have HB4 := Aside0.mk (below_step HB3.out hb); have HR4 := Aside0.mk (blk_below HR3.out hb); clear hb))
  clear HB3 HR3
  go_wp2_with (first
    | (refine wpList_load_row rfl 90 (.tmp 3) rfl w.heap.size (by rfl) 90 _ (0, 0) _ HR4.out hkL rfl hin.out ?_)
    | (go_at_call 66; (with_reducible refine ((h2 _).out).mono ?_); rintro e w5 ⟨rfl, hb⟩; have HB5 := Aside0.mk (below_step HB4.out hb); clear hb))
  go_ret
  exact ⟨by rw [HQ.out]; rfl, HB5.out⟩
set_option maxHeartbeats 4000000 in
set_option maxRecDepth 1000000 in
theorem rtag_walk (key text : ByteArray) (w : World) (hs : key.size ≤ 281474976710000) (ht : text.size ≤ 281474976710000) :
    Calls Tryd.prog 28 #[.string key, .string text] w fun e w' => e = .returned (.string (tagK key text)) ∧ Below w.heap.size w w' := by
  have hkL := (Tryd.underlying90 : Tryd.prog.underlying 90 = _)
  have hW := fun w => Aside0.mk (rmwith_walk key text w hs ht)
  have hR := fun w => Aside0.mk (roots_arr w)
  have hrow : ∀ w : World, Aside0 (((w.alloc (.cells z64 90)).setCells w.heap.size 0 (arr .u32 roots).toList).heap[w.heap.size]? = some (.cells (arr .u32 roots) 90 (0, 0))) := fun w => ⟨arr_row .u32 (List.replicate 64 0) roots (z64_blk w) (by simp [roots_length])⟩
  have hsz : (arr .u32 roots).size = 64 := by rw [arr_size, roots_length]
  have hone := Aside0.mk (arr_one .u32 roots)
  generalize arr .u32 roots = R at hW hR hsz hone hrow
  have hin : Aside0 ((Tryd.prog.info? 90).map (·.size) = some R.size) := ⟨by rw [hsz]; kernel_rfl⟩
  have hsz := Aside0.mk hsz
  go_enter Tryd.func28, Tryd.ntmps28
  go_upto_region 1 with fail
  go_upto_region 2 with (first
    | (go_at_call 45; (with_reducible refine ((hR _).out).mono ?_); rintro e w1 ⟨rfl, hb⟩; have HB1 := Aside0.mk hb; clear hb)
    | (refine wpList_store_mid rfl 90 (.tmp 5) (.tmp 6) rfl _ 0 R (by rfl) (by rfl) (z64_there _ _ hsz.out) hin.out hone.out ?_))
  have HR := hrow w1
  have HB := Aside0.mk (below_setCells (below_size HB1.out) R.toList 0 _ (below_alloc HB1.out (.cells z64 90)))
  generalize (w1.alloc (.cells z64 90)).setCells w1.heap.size 0 R.toList = w2 at HR HB ⊢
  generalize w1.heap.size = g at HR ⊢
  go_wp2_with (first
    | (refine wpList_load_row rfl 90 (.tmp 5) rfl g (by rfl) 90 _ (0, 0) _ HR.out hkL rfl hin.out ?_)
    | (go_at_call 46; (with_reducible refine ((hW _).out).mono ?_); rintro e w4 ⟨rfl, hb⟩; have HB4 := Aside0.mk (below_step HB.out hb); clear hb))
  go_ret
  exact ⟨rfl, HB4.out⟩
end Go.Proofs.YtpbnfnaebdmagaaDoor.Sha
-- printed by a program of this session out of the translation; see NOTES.md
namespace Go.Proofs.YtpbnfnaebdmagaaDoor.PT
open Go.RowKit Go.Proofs.YtpbnfnaebdmagaaDoorW.PrintWords Go.Proofs.YtpbnfnaebdmagaaDoorW.PrintLast Go.Proofs.YtpbnfnaebdmagaaDoorW.PrintMore
attribute [local go_sem] max2_int min2_int max_two min_two max_three min_three max_four min_four   -- for this text's walks alone
set_option linter.unusedVariables false
set_option linter.unusedSimpArgs false

/-! ### precinctref05_Tag: function 28 -/
def precinctref05_Tag.f (a0 : ByteArray) (a1 : ByteArray) : Option (ByteArray) := if a0.size ≤ 281474976710000 ∧ a1.size ≤ 281474976710000 then some (Sha.tagK a0 a1) else none
theorem precinctref05_Tag.calls (a0 : ByteArray) (a1 : ByteArray) (r : ByteArray) (w : World) (h : precinctref05_Tag.f a0 a1 = some r) :
  Calls Tryd.prog 28 #[.string a0, .string a1] w fun e w' => e = .returned (.string r) ∧ Below w.heap.size w w' := by
 unfold precinctref05_Tag.f at h
 split at h
 ·rename_i hc
  obtain rfl := Option.some.inj h
  exact Sha.rtag_walk a0 a1 w hc.1 hc.2
 ·cases h

end Go.Proofs.YtpbnfnaebdmagaaDoor.PT
