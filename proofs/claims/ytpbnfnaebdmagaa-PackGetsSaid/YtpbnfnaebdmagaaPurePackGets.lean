/-
  PackGets: every bytes are read as the document says, or have its error.
-/
import Derived.Test.YtpbnfnaebdmagaaPXx11
import Derived.Test.YtpbnfnaebdmagaaRf
namespace Go.Proofs.Ytpbnfnaebdmagaa.Pure
set_option linter.unusedVariables false
set_option linter.unusedSimpArgs false
open Go Go.RowKit Go.Proofs.Ytpbnfnaebdmagaa.Plain Go.Proofs.Ytpbnfnaebdmagaa.Words Go.Proofs.Ytpbnfnaebdmagaa.Vr Go.Proofs.Ytpbnfnaebdmagaa.Vs Go.Proofs.Ytpbnfnaebdmagaa.Rr Go.Proofs.Ytpbnfnaebdmagaa.PX Go.Proofs.YtpbnfnaebdmagaaW.PrintWords Go.Proofs.YtpbnfnaebdmagaaW.PrintLast Go.Proofs.YtpbnfnaebdmagaaW.PrintMore
theorem PackGets_pure (s : ByteArray) (hs : s.size ≤ 140737488351232 * 4) : ∃ k, precinctlaw02_PackGets.f k s = some true := by
  obtain ⟨k0, hk0⟩ := Wk.wakes
  obtain ⟨r, hr⟩ := valR_total mkV noV s 20 0 0 (by omega) (by omega) (by omega)
  have hw : valR mkW noW 20 s 0 0 = some (r.1, toW r.2.1, r.2.2) := by rw [valR_to, hr]; rfl
  obtain ⟨K, hK⟩ := rread_good hs 20 0 0 _ (by omega) (by omega) (by omega) (by omega) hw
  have sm := valR_small s 20 0 0 r hr
  have hg : pack_Get.f s = if r.1 = 0 then (if r.2.2 < (s.size : Int) then some (0, 0, ⟨#[]⟩, [], 4) else some (r.2.1.f0, r.2.1.f1, r.2.1.f2, r.2.1.f3, 0)) else some (0, 0, ⟨#[]⟩, [], r.1) := by
    unfold pack_Get.f
    rw [if_pos hs]
    exact (congrArg (fun t => Option.bind t _) hr).trans rfl
  have hG : ∀ k, K ≤ k → precinctref02_Get.f k s = if r.1 = 0 then (if r.2.2 < (s.size : Int) then some (0, 0, ⟨#[]⟩, [], 4) else some ((toW r.2.1).f0, (toW r.2.1).f1, (toW r.2.1).f2, (toW r.2.1).f3, 0)) else some (0, 0, ⟨#[]⟩, [], r.1) := by
    intro k hk
    unfold precinctref02_Get.f
    rw [rread_le hk hK]
    rfl
  obtain ⟨K2, hK2⟩ := same_toW r.2.1 sm
  obtain ⟨K3, hK3⟩ := same_toW noV small_no
  have e0 : toW noV = (⟨0, 0, ⟨#[]⟩, []⟩ : W) := by simp [toW, toWs]
  rw [e0] at hK3
  refine ⟨max k0 (max K (max K2 K3)), ?_⟩
  unfold precinctlaw02_PackGets.f
  rw [hg, hG _ (by omega), up_le (fun k => precinctlaw02_wakes.mono k) (by omega) hk0]
  by_cases c : r.1 = 0
  · rw [if_pos c, if_pos c]
    by_cases c2 : r.2.2 < (s.size : Int)
    · rw [if_pos c2, if_pos c2]
      simp only [Option.bind_some, if_true]
      rw [up_le (fun k => precinctlaw02_same.mono _ _ _ _ _ _ _ _ k) (by omega) hK3]
      rfl
    · rw [if_neg c2, if_neg c2]
      simp only [Option.bind_some, if_true]
      rw [up_le (fun k => precinctlaw02_same.mono _ _ _ _ _ _ _ _ k) (by omega) hK2]
      rfl
  · rw [if_neg c, if_neg c]
    simp only [Option.bind_some, if_true]
    rw [up_le (fun k => precinctlaw02_same.mono _ _ _ _ _ _ _ _ k) (by omega) hK3]
    rfl
theorem PackGets : precinctlaw02_PackGets.Pure := fun a0 h => PackGets_pure a0 (by omega)
end Go.Proofs.Ytpbnfnaebdmagaa.Pure
