/-
  The statements MacLays, MacTags and MacWhole, walked.
-/
import Derived.Test.YtelhajoedlaohaaDoorMacR
namespace Go.Proofs.YtelhajoedlaohaaDoor.Sha
set_option linter.unusedVariables false
set_option linter.unusedSimpArgs false
open Go Go.RowKit Go.Proofs.YtelhajoedlaohaaDoor.Plain Go.Proofs.YtelhajoedlaohaaDoor.PS Go.Proofs.YtelhajoedlaohaaDoorW.PrintWords Go.Proofs.YtelhajoedlaohaaDoorW.PrintLast Go.Proofs.YtelhajoedlaohaaDoorW.PrintMore
attribute [local go_sem] max2_int min2_int max_two min_two max_three min_three max_four min_four
set_option maxRecDepth 100000 in
theorem fox_tag : ((tagK ⟨#[107, 101, 121]⟩ ⟨#[84, 104, 101, 32, 113, 117, 105, 99, 107, 32, 98, 114, 111, 119, 110, 32, 102, 111, 120, 32, 106, 117, 109, 112, 115, 32, 111, 118, 101, 114, 32, 116, 104, 101, 32, 108, 97, 122, 121, 32, 100, 111, 103]⟩).data.toList).take 4 = [247, 188, 131, 244] := by decide +kernel
set_option maxHeartbeats 4000000 in
set_option maxRecDepth 100000 in
theorem wakes05 (w : World) (HT : Tab w) :
    Calls Tryd.prog 23 #[] w fun e w' => e = .returned (.bool true) ∧ Below w.heap.size w w' := by
  have HW := fun w h => Aside0.mk (tag_walk ⟨#[107, 101, 121]⟩ ⟨#[84, 104, 101, 32, 113, 117, 105, 99, 107, 32, 98, 114, 111, 119, 110, 32, 102, 111, 120, 32, 106, 117, 109, 112, 115, 32, 111, 118, 101, 114, 32, 116, 104, 101, 32, 108, 97, 122, 121, 32, 100, 111, 103]⟩ w h (by decide) (by decide))
  have h1 : (tagK ⟨#[107, 101, 121]⟩ ⟨#[84, 104, 101, 32, 113, 117, 105, 99, 107, 32, 98, 114, 111, 119, 110, 32, 102, 111, 120, 32, 106, 117, 109, 112, 115, 32, 111, 118, 101, 114, 32, 116, 104, 101, 32, 108, 97, 122, 121, 32, 100, 111, 103]⟩).size = 32 := tagK_size _ _
  have h2 : ((tagK ⟨#[107, 101, 121]⟩ ⟨#[84, 104, 101, 32, 113, 117, 105, 99, 107, 32, 98, 114, 111, 119, 110, 32, 102, 111, 120, 32, 106, 117, 109, 112, 115, 32, 111, 118, 101, 114, 32, 116, 104, 101, 32, 108, 97, 122, 121, 32, 100, 111, 103]⟩).extract 0 4).toList = [247, 188, 131, 244] := by
    rw [cut_list _ _ rfl 0 4 (by have h : (tagK ⟨#[107, 101, 121]⟩ ⟨#[84, 104, 101, 32, 113, 117, 105, 99, 107, 32, 98, 114, 111, 119, 110, 32, 102, 111, 120, 32, 106, 117, 109, 112, 115, 32, 111, 118, 101, 114, 32, 116, 104, 101, 32, 108, 97, 122, 121, 32, 100, 111, 103]⟩).data.toList.length = _ := Array.length_toList; have h3 : (tagK ⟨#[107, 101, 121]⟩ ⟨#[84, 104, 101, 32, 113, 117, 105, 99, 107, 32, 98, 114, 111, 119, 110, 32, 102, 111, 120, 32, 106, 117, 109, 112, 115, 32, 111, 118, 101, 114, 32, 116, 104, 101, 32, 108, 97, 122, 121, 32, 100, 111, 103]⟩).data.size = 32 := h1; omega)]
    exact fox_tag
  generalize tagK ⟨#[107, 101, 121]⟩ ⟨#[84, 104, 101, 32, 113, 117, 105, 99, 107, 32, 98, 114, 111, 119, 110, 32, 102, 111, 120, 32, 106, 117, 109, 112, 115, 32, 111, 118, 101, 114, 32, 116, 104, 101, 32, 108, 97, 122, 121, 32, 100, 111, 103]⟩ = C at HW h1 h2
  have HT := Aside0.mk HT
  go_enter Tryd.func23, Tryd.ntmps23
  go_wp2_with (go_at_call 24; (with_reducible refine ((HW _ HT.out).out).mono ?_); rintro e w1 ⟨rfl, hb⟩; have HB1 := Aside0.mk hb; clear hb)
  go_ret
  exact ⟨rfl, HB1.out⟩
set_option maxHeartbeats 4000000 in
set_option maxRecDepth 100000 in
theorem lays_walk (s : ByteArray) (w : World) (HT : Tab w) (hs : s.size ≤ 140737488351232) :
    Calls Tryd.prog 6 #[.string s] w fun e w' => e = .returned (.bool true) ∧ Below w.heap.size w w' := by
  have HT := Aside0.mk HT
  have h0 := fun w h => Aside0.mk (inner_walk ⟨#[]⟩ w h (by decide))
  have hz : (innerK ⟨#[]⟩).size = 64 := laidK_size _ _
  generalize innerK ⟨#[]⟩ = E0 at h0 hz
  have hI := fun (t : ByteArray) w h (ht : t.size ≤ 281474976710656) => Aside0.mk (inner_walk t w h ht)
  have hO := fun (t : ByteArray) w h (ht : t.size ≤ 281474976710656) => Aside0.mk (outer_walk t w h ht)
  have rI := fun (t : ByteArray) w (ht : t.size ≤ 281474976710656) => Aside0.mk (rinner_walk t w ht)
  have rO := fun (t : ByteArray) w (ht : t.size ≤ 281474976710656) => Aside0.mk (router_walk t w ht)
  go_enter Tryd.func6, Tryd.ntmps6
  go_upto_region 2 with fail
  obtain ⟨t, ht, hts⟩ : ∃ t, s.extract 0 (if (3000 : Int) < (s.size : Int) then 3000 else (s.size : Int)).toNat = t ∧ t.size ≤ 281474976710656 := ⟨_, rfl, by rw [ByteArray.size_extract]; omega⟩
  rw [ht]
  have hI' := fun w h => hI t w h hts
  have hO' := fun w h => hO t w h hts
  have rI' := fun w => rI t w hts
  have rO' := fun w => rO t w hts
  clear hI hO rI rO ht hts
  generalize innerK t = A at hI' rI'
  generalize outerK t = B at hO' rO'
  go_wp2_with (first
    | (go_at_call 19; (with_reducible refine ((h0 _ HT.out).out).mono ?_); rintro e w1 ⟨rfl, hb⟩; have HB1 := Aside0.mk hb; have HT1 := Aside0.mk (HT.out.step hb); clear hb h0)
    | (go_at_call 19; (with_reducible refine ((hI' _ HT1.out).out).mono ?_); rintro e w2 ⟨rfl, hb⟩; have HB2 := Aside0.mk (below_step HB1.out hb); have HT2 := Aside0.mk (HT1.out.step hb); clear hb)
    | (go_at_call 20; (with_reducible refine ((rI' _).out).mono ?_); rintro e w3 ⟨rfl, hb⟩; have HB3 := Aside0.mk (below_step HB2.out hb); have HT3 := Aside0.mk (HT2.out.step hb); clear hb)
    | (go_at_call 21; (with_reducible refine ((hO' _ HT3.out).out).mono ?_); rintro e w4 ⟨rfl, hb⟩; have HB4 := Aside0.mk (below_step HB3.out hb); clear hb)
    | (go_at_call 22; (with_reducible refine ((rO' _).out).mono ?_); rintro e w5 ⟨rfl, hb⟩; have HB5 := Aside0.mk (below_step HB4.out hb); clear hb))
  all_goals
    go_ret
    exact ⟨rfl, HB5.out⟩
set_option maxHeartbeats 4000000 in
set_option maxRecDepth 100000 in
theorem tags_walk (a b : ByteArray) (w : World) (HT : Tab w) (ha : a.size ≤ 140737488351232) (hb : b.size ≤ 140737488351232) :
    Calls Tryd.prog 7 #[.string a, .string b] w fun e w' => e = .returned (.bool true) ∧ Below w.heap.size w w' := by
  have HT := Aside0.mk HT
  have hT := fun (s t : ByteArray) w h (hs : s.size ≤ 281474976710000) (ht : t.size ≤ 281474976710000) => Aside0.mk (tag_walk s t w h hs ht)
  have rT := fun (s t : ByteArray) w (hs : s.size ≤ 281474976710000) (ht : t.size ≤ 281474976710000) => Aside0.mk (rtag_walk s t w hs ht)
  go_enter Tryd.func7, Tryd.ntmps7
  go_upto_region 1 with fail
  obtain ⟨ma, hma, la, lb⟩ : ∃ ma : Nat, (if (3000 : Int) < (a.size : Int) then (3000 : Int) else (a.size : Int)) = (ma : Int) ∧ ma ≤ a.size ∧ ma ≤ 3000 := by
    split
    · exact ⟨3000, rfl, by omega, by omega⟩
    · exact ⟨a.size, rfl, by omega, by omega⟩
  obtain ⟨mb, hmb, ka, kb⟩ : ∃ mb : Nat, (if (3000 : Int) < (b.size : Int) then (3000 : Int) else (b.size : Int)) = (mb : Int) ∧ mb ≤ b.size ∧ mb ≤ 3000 := by
    split
    · exact ⟨3000, rfl, by omega, by omega⟩
    · exact ⟨b.size, rfl, by omega, by omega⟩
  have la' : (ma : Int) ≤ (a.size : Int) := by omega
  have ka' : (mb : Int) ≤ (b.size : Int) := by omega
  have l0 : (0 : Int) ≤ (ma : Int) := by omega
  have k0 : (0 : Int) ≤ (mb : Int) := by omega
  go_still (by kernel_rfl)
  change Exit.then _ _ _ _ w.drew
  have hza : (a.extract 0 ma).size ≤ 281474976710000 := by rw [ByteArray.size_extract]; omega
  have hzb : (b.extract 0 mb).size ≤ 281474976710000 := by rw [ByteArray.size_extract]; omega
  clear hma hmb la lb ka kb la' ka' l0 k0
  generalize a.extract 0 ma = s at hza ⊢
  generalize b.extract 0 mb = t at hzb ⊢
  have hT' := fun w h => hT s t w h hza hzb
  have rT' := fun w => rT s t w hza hzb
  clear hT rT hza hzb
  generalize tagK s t = C at hT' rT'
  have HB := Aside0.mk (below_drew1 (Below.refl w.heap.size w))
  have HT := Aside0.mk (HT.out.step HB.out)
  generalize w.drew = w0 at HB HT ⊢
  go_wp2_with (first
    | (go_at_call 23; (with_reducible refine (wakes05 _ HT.out).mono ?_); rintro e w1 ⟨rfl, hb⟩; have HB1 := Aside0.mk (below_step HB.out hb); have HT1 := Aside0.mk (HT.out.step hb); clear hb)
    | (go_at_call 24; (with_reducible refine ((hT' _ HT1.out).out).mono ?_); rintro e w2 ⟨rfl, hb⟩; have HB2 := Aside0.mk (below_step HB1.out hb); clear hb)
    | (go_at_call 25; (with_reducible refine ((rT' _).out).mono ?_); rintro e w3 ⟨rfl, hb⟩; have HB3 := Aside0.mk (below_step HB2.out hb); clear hb))
  go_ret
  exact ⟨rfl, HB3.out⟩
end Go.Proofs.YtelhajoedlaohaaDoor.Sha
