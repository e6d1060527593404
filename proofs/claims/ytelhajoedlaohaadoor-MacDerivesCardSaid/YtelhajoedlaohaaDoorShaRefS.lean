/-
  The document's Begin, Roots and Text.
-/
import Derived.Test.YtelhajoedlaohaaDoorShaQ
import Derived.Test.YtelhajoedlaohaaDoorShaS
namespace Go.Proofs.YtelhajoedlaohaaDoor.Sha
set_option linter.unusedVariables false
set_option linter.unusedSimpArgs false
open Go Go.RowKit Go.Proofs.YtelhajoedlaohaaDoor.Plain Go.Proofs.YtelhajoedlaohaaDoor.PD Go.Proofs.YtelhajoedlaohaaDoor.WordsA Go.Proofs.YtelhajoedlaohaaDoor.Bld Go.Proofs.YtelhajoedlaohaaDoorW.PrintWords Go.Proofs.YtelhajoedlaohaaDoorW.PrintLast Go.Proofs.YtelhajoedlaohaaDoorW.PrintMore
/-- what each round adds -/
def roots : List Nat := [1116352408, 1899447441, 3049323471, 3921009573, 961987163, 1508970993, 2453635748, 2870763221, 3624381080, 310598401, 607225278, 1426881987, 1925078388, 2162078206, 2614888103, 3248222580, 3835390401, 4022224774, 264347078, 604807628, 770255983, 1249150122, 1555081692, 1996064986, 2554220882, 2821834349, 2952996808, 3210313671, 3336571891, 3584528711, 113926993, 338241895, 666307205, 773529912, 1294757372, 1396182291, 1695183700, 1986661051, 2177026350, 2456956037, 2730485921, 2820302411, 3259730800, 3345764771, 3516065817, 3600352804, 4094571909, 275423344, 430227734, 506948616, 659060556, 883997877, 958139571, 1322822218, 1537002063, 1747873779, 1955562222, 2024104815, 2227730452, 2361852424, 2428436474, 2756734187, 3204031479, 3329325298]
theorem roots_length : roots.length = 64 := by decide
theorem roots_bnd : bnd roots 4294967296 := by unfold bnd; decide
abbrev rootsV : Array Value := #[.int .u32 1116352408, .int .u32 1899447441, .int .u32 3049323471, .int .u32 3921009573, .int .u32 961987163, .int .u32 1508970993, .int .u32 2453635748, .int .u32 2870763221, .int .u32 3624381080, .int .u32 310598401, .int .u32 607225278, .int .u32 1426881987, .int .u32 1925078388, .int .u32 2162078206, .int .u32 2614888103, .int .u32 3248222580, .int .u32 3835390401, .int .u32 4022224774, .int .u32 264347078, .int .u32 604807628, .int .u32 770255983, .int .u32 1249150122, .int .u32 1555081692, .int .u32 1996064986, .int .u32 2554220882, .int .u32 2821834349, .int .u32 2952996808, .int .u32 3210313671, .int .u32 3336571891, .int .u32 3584528711, .int .u32 113926993, .int .u32 338241895, .int .u32 666307205, .int .u32 773529912, .int .u32 1294757372, .int .u32 1396182291, .int .u32 1695183700, .int .u32 1986661051, .int .u32 2177026350, .int .u32 2456956037, .int .u32 2730485921, .int .u32 2820302411, .int .u32 3259730800, .int .u32 3345764771, .int .u32 3516065817, .int .u32 3600352804, .int .u32 4094571909, .int .u32 275423344, .int .u32 430227734, .int .u32 506948616, .int .u32 659060556, .int .u32 883997877, .int .u32 958139571, .int .u32 1322822218, .int .u32 1537002063, .int .u32 1747873779, .int .u32 1955562222, .int .u32 2024104815, .int .u32 2227730452, .int .u32 2361852424, .int .u32 2428436474, .int .u32 2756734187, .int .u32 3204031479, .int .u32 3329325298]
theorem roots_v : arr .u32 roots = rootsV := rfl
set_option maxHeartbeats 4000000 in
set_option maxRecDepth 100000 in
theorem rbegin_lit (w : World) :
    Calls Tryd.prog 51 #[] w fun e w' => e = .returned (.agg initV) ∧ Below w.heap.size w w' := by
  go_enter Tryd.func51, Tryd.ntmps51
  go_wp2
  exact bodyPost_ret (v := .agg initV) (by simp [results, Tryd.results51, go_sem]) rfl ⟨rfl, below_alloc (Below.refl _ _) _⟩
set_option maxHeartbeats 4000000 in
set_option maxRecDepth 1000000 in
theorem roots_walk (w : World) :
    Calls Tryd.prog 32 #[] w fun e w' => e = .returned (.agg rootsV) ∧ Below w.heap.size w w' := by
  have hu := (Tryd.underlying29 : Tryd.prog.underlying 29 = _)
  go_enter Tryd.func32, Tryd.ntmps32
  go_upto_region 1 with fail
  have hb0 : (w.alloc (.cells (arr .u32 (List.replicate 64 0)) 29)).heap[w.heap.size]? = some (.cells (arr .u32 (List.replicate 64 0)) 29 (0, 0)) := blk_new w _
  have he : arr .u32 (List.replicate 64 0) = #[.int .u32 0, .int .u32 0, .int .u32 0, .int .u32 0, .int .u32 0, .int .u32 0, .int .u32 0, .int .u32 0, .int .u32 0, .int .u32 0, .int .u32 0, .int .u32 0, .int .u32 0, .int .u32 0, .int .u32 0, .int .u32 0, .int .u32 0, .int .u32 0, .int .u32 0, .int .u32 0, .int .u32 0, .int .u32 0, .int .u32 0, .int .u32 0, .int .u32 0, .int .u32 0, .int .u32 0, .int .u32 0, .int .u32 0, .int .u32 0, .int .u32 0, .int .u32 0, .int .u32 0, .int .u32 0, .int .u32 0, .int .u32 0, .int .u32 0, .int .u32 0, .int .u32 0, .int .u32 0, .int .u32 0, .int .u32 0, .int .u32 0, .int .u32 0, .int .u32 0, .int .u32 0, .int .u32 0, .int .u32 0, .int .u32 0, .int .u32 0, .int .u32 0, .int .u32 0, .int .u32 0, .int .u32 0, .int .u32 0, .int .u32 0, .int .u32 0, .int .u32 0, .int .u32 0, .int .u32 0, .int .u32 0, .int .u32 0, .int .u32 0, .int .u32 0] := by rfl
  rw [← he]
  clear he
  have HB := Aside0.mk (below_alloc (Below.refl w.heap.size w) (.cells (arr .u32 (List.replicate 64 0)) 29))
  generalize w.alloc (.cells (arr .u32 (List.replicate 64 0)) 29) = w2 at hb0 HB ⊢
  have hth : Aside0 (w2.there w.heap.size 0 rootsV.size) := ⟨fun j hj => ⟨by rw [Nat.zero_add, blk_cell hb0 j, arr_at .u32 _ j (by simpa using hj)]; rfl, blk_frozen hb0 _⟩⟩
  have hrow := Aside0.mk (arr_row .u32 (List.replicate 64 0) roots hb0 (by simp [roots_length]))
  have hbl := Aside0.mk (below_setCells (Nat.le_refl w.heap.size) (arr .u32 roots).toList 0 _ HB.out)
  rw [roots_v] at hrow hbl
  have hin : Aside0 ((Tryd.prog.info? 29).map (·.size) = some rootsV.size) := ⟨by kernel_rfl⟩
  have hone : Aside0 (rootsV.all (·.oneCell') = true) := ⟨arr_one .u32 roots⟩
  clear hb0
  go_wp2_with (refine wpList_store_mid rfl 29 (.tmp 0) (.tmp 1) rfl w.heap.size 0 rootsV (by rfl) (by rfl) hth.out hin.out hone.out ?_)
  exact bodyPost_ret (v := .agg rootsV) (results_cell_row rfl _ _ w.heap.size 29 _ (0, 0) _ (by rfl) hrow.out hu rfl hin.out) rfl ⟨rfl, hbl.out⟩
set_option maxHeartbeats 4000000 in
set_option maxRecDepth 1000000 in
theorem rtext_walk (k : Nat) (hk : 10 ≤ k) (s : List Nat) (w : World) (hs : s.length = 8) (hsb : bnd s 4294967296) :
    Calls Tryd.prog 53 #[.agg (arr .u32 s)] w fun e w' => e = .returned (.string (txt s 8)) ∧ Below w.heap.size w w' := by
  have HS := Aside0.mk hs
  have HK := Aside0.mk hk
  have HSB := Aside0.mk hsb
  clear hs hk hsb
  go_enter Tryd.func53, Tryd.ntmps53
  go_upto_region 2 with fail
  have hb0 := Aside0.mk (blk_new w (.cells (arr .u32 s) 23))
  have HB := Aside0.mk (below_alloc (Below.refl w.heap.size w) (.cells (arr .u32 s) 23))
  generalize w.alloc (.cells (arr .u32 s) 23) = w2 at hb0 HB ⊢
  have hx0 : (⟨#[]⟩ : ByteArray) = txt s 0 := rfl
  go_wp2
  go_loopw [3, 4] (fun v3 v4 wr => ∃ i : Nat, i ≤ 8 ∧ v3 = .string (txt s i) ∧ v4 = .int .i64 i ∧ Aside0 (wr.heap[w.heap.size]? = some (.cells (arr .u32 s) 23 (0, 0))) ∧ Aside0 (Below w.heap.size w wr)) (fun _ v4 _ => 8 - (intOf v4).toNat)
  case atStart => exact ⟨0, by omega, rfl, rfl, hb0, HB⟩
  case round =>
    clear hb0 HB
    obtain ⟨i, hi, rfl, rfl, HC, HB⟩ := hrel
    have hi0 : (0 : Int) ≤ (i : Int) := by omega
    by_cases hlt : i < 8
    · have d1 : (i : Int) < 8 := by omega
      have hx := G_lt HSB.out (by decide) i
      have hcl : wr.cell? ⟨w.heap.size, i, none⟩ = some (.int .u32 (G s i : Nat)) := (blk_cell HC.out i).trans (arr_at _ _ _ (by rw [HS.out]; exact hlt))
      have hput := Aside0.mk (rput_some (w := 4) (n := (G s i : Nat)) k (by omega) (by omega) HK.out)
      have htx : Aside0 (txt s (i + 1) = txt s i ++ put 4 (G s i : Nat)) := ⟨rfl⟩
      have hsz := txt_size s i
      have hpz : (put 4 (G s i : Nat)).size = 4 := by rw [size_put]; omega
      generalize G s i = x at hcl hx hput hpz htx
      generalize put 4 (x : Int) = px at hput hpz htx
      obtain ⟨T, hT⟩ : ∃ T, txt s i = T := ⟨_, rfl⟩
      rw [hT] at htx hsz ⊢
      have hw64 : IntKind.u64.wrap (x : Int) = (x : Int) := IntWalk.u64_in _ (by omega)
      have c5 : (T.size + px.size ≤ 9223372036854775807) = True := eq_true (by omega)
      have c6 : (9223372036854775807 < T.size + px.size) = False := eq_false (by omega)
      clear hsz hpz hT hx0
      have y0 : (0 : Int) ≤ (i : Int) ∧ (i : Int) < 8 := by omega
      go_wp2_with (go_at_call 62; (with_reducible refine (precinctref01_Put.calls k 4 (x : Int) px _ hput.out).mono ?_); rintro e w3 ⟨rfl, hb⟩; have HC3 := Aside0.mk (blk_below HC.out hb); have HB3 := Aside0.mk (below_step HB.out hb); clear hb)
      go_roundw
      case rel => first | exact ⟨i + 1, by omega, by rw [htx.out], by go_num, HC3, HB3⟩ | ((repeat apply Exists.intro); exact ⟨⟨i + 1, by omega, by rw [htx.out], by go_num, HC3, HB3⟩, rfl⟩)
      case measure => simp [intOf]; omega
    · obtain rfl : i = 8 := by omega
      go_wp2
      go_ret
      exact ⟨rfl, HB.out⟩
end Go.Proofs.YtelhajoedlaohaaDoor.Sha
