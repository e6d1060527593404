/-
  What the document's Parse comes to.
-/
import Derived.Test.YtpbnfnaebdmagaaDoorH10
import Derived.Test.YtpbnfnaebdmagaaDoorPTx18
import Derived.Test.YtpbnfnaebdmagaaDoorH4
namespace Go.Proofs.YtpbnfnaebdmagaaDoor.Tk
set_option linter.unusedVariables false
set_option linter.unusedSimpArgs false
open Go Go.RowKit Go.Proofs.YtpbnfnaebdmagaaDoor.Plain Go.Proofs.YtpbnfnaebdmagaaDoor.Words Go.Proofs.YtpbnfnaebdmagaaDoor.Vr Go.Proofs.YtpbnfnaebdmagaaDoor.Vs Go.Proofs.YtpbnfnaebdmagaaDoor.Rr Go.Proofs.YtpbnfnaebdmagaaDoor.PT Go.Proofs.YtpbnfnaebdmagaaDoorW.PrintWords Go.Proofs.YtpbnfnaebdmagaaDoorW.PrintLast Go.Proofs.YtpbnfnaebdmagaaDoorW.PrintMore
theorem getP_ref (s : ByteArray) (hs : s.size ≤ 140737488351232 * 4) : ∃ K, ∀ k, K ≤ k → precinctref02_Get.f k s = some ((toW (getP s).2).f0, (toW (getP s).2).f1, (toW (getP s).2).f2, (toW (getP s).2).f3, (getP s).1) := by
  obtain ⟨r, hr⟩ := valR_total mkV noV s 20 0 0 (by omega) (by omega) (by omega)
  have hw : valR mkW noW 20 s 0 0 = some (r.1, toW r.2.1, r.2.2) := by rw [valR_to, hr]; rfl
  obtain ⟨K, hK⟩ := rread_good hs 20 0 0 _ (by omega) (by omega) (by omega) (by omega) hw
  refine ⟨K, fun k hk => ?_⟩
  have e0 : toW noV = (⟨0, 0, ⟨#[]⟩, []⟩ : W) := by simp [toW, toWs]
  unfold precinctref02_Get.f getP
  rw [rread_le hk hK, hr]
  by_cases c : r.1 = 0
  · by_cases c2 : r.2.2 < (s.size : Int)
    · simp only [ans, Option.bind_some, c, c2, if_true, e0]
    · simp only [ans, Option.bind_some, c, c2, if_true, if_false]
  · simp only [ans, Option.bind_some, c, if_false, e0]
/-- the document's reader of the four numbers -/
theorem rl0 (k : Nat) (s : ByteArray) (h : 32 ≤ s.size) (hs : s.size ≤ 140737488351232) (a b c d : V) (x y : Int) (z : ByteArray) :
    precinctref09_Parse.l0 (k + 5) s ((s.size : Int) - 32) 0 0 0 0 0 x y z (toWs [a, b, c, d]) = some (body s [a, b, c, d]) := by
  have hn : ((s.size : Int) - 32).toNat = s.size - 32 := by omega
  have e : toWs [a, b, c, d] = [toW a, toW b, toW c, toW d] := by simp [toWs]
  have w1 : wrap64 (0 + 1) = 1 := by rw [w64 (by omega) (by omega)]; rfl
  have w2 : wrap64 (1 + 1) = 2 := by rw [w64 (by omega) (by omega)]; rfl
  have w3 : wrap64 (2 + 1) = 3 := by rw [w64 (by omega) (by omega)]; rfl
  have w4 : wrap64 (3 + 1) = 4 := by rw [w64 (by omega) (by omega)]; rfl
  have r0 : rd_T58 [toW a, toW b, toW c, toW d] 0 = toW a := rfl
  have r1 : rd_T58 [toW a, toW b, toW c, toW d] 1 = toW b := rfl
  have r2 : rd_T58 [toW a, toW b, toW c, toW d] 2 = toW c := rfl
  have r3 : rd_T58 [toW a, toW b, toW c, toW d] 3 = toW d := rfl
  rw [e, body4]
  simp only [precinctref09_Parse.l0, List.length_cons, List.length_nil, w1, w2, w3, w4, r0, r1, r2, r3, toW_0, toW_1, hn]
  by_cases a0 : a.f0 = 0
  · by_cases a1 : a.f1 < 0
    · have n1 : ¬ (0 ≤ a.f1) := by omega
      simp [a0, a1, n1]
    · have n1 : 0 ≤ a.f1 := by omega
      by_cases a2 : 2147483647 < a.f1
      · have n2 : ¬ (a.f1 ≤ 2147483647) := by omega
        simp [a0, a1, n1, a2, n2]
      · have n2 : a.f1 ≤ 2147483647 := by omega
        by_cases b0 : b.f0 = 0
        · by_cases b1 : b.f1 < 0
          · have m1 : ¬ (0 ≤ b.f1) := by omega
            simp [a0, a1, a2, n1, n2, b0, b1, m1]
          · have m1 : 0 ≤ b.f1 := by omega
            by_cases b2 : 2147483647 < b.f1
            · have m2 : ¬ (b.f1 ≤ 2147483647) := by omega
              simp [a0, a1, a2, n1, n2, b0, b1, m1, b2, m2]
            · have m2 : b.f1 ≤ 2147483647 := by omega
              by_cases c0 : c.f0 = 0
              · by_cases d0 : d.f0 = 0
                · have h' : (32 : Int) ≤ (s.size : Int) := by omega
                  have h'' : (s.size : Int) - 32 ≤ (s.size : Int) := by omega
                  have h3 : (0 : Int) ≤ (s.size : Int) - 32 := by omega
                  simp [a0, a1, a2, n1, n2, b0, b1, m1, b2, m2, c0, d0, h, h', h'', h3]
                · simp [a0, a1, a2, n1, n2, b0, b1, m1, b2, m2, c0, d0]
              · simp [a0, a1, a2, n1, n2, b0, b1, m1, b2, m2, c0]
        · simp [a0, a1, a2, n1, n2, b0]
  · simp [a0]
theorem toWs_length (l : List V) : (toWs l).length = l.length := by rw [toWs_map, List.length_map]
theorem rparse_some (s : ByteArray) (hs : s.size ≤ 140737488351232) : ∃ K, ∀ k, K ≤ k → precinctref09_Parse.f k s = some (parseR s) := by
  obtain ⟨K, hK⟩ := getP_ref (s.extract 0 (s.size - 32)) (by rw [ByteArray.size_extract]; omega)
  refine ⟨K + 6, fun k hk => ?_⟩
  obtain ⟨k, rfl⟩ : ∃ m, k = m + 6 := ⟨k - 6, by omega⟩
  have hw : wrap64 ((s.size : Int) - 32) = (s.size : Int) - 32 := w64 (by omega) (by omega)
  unfold precinctref09_Parse.f parseR
  rw [hw]
  by_cases h : s.size < 32
  · rw [if_pos (by omega), if_pos h]
  · have hn : ((s.size : Int) - 32).toNat = s.size - 32 := by omega
    rw [if_neg (by omega), if_pos (by omega), if_pos (by omega), if_neg h, hn, hK _ (by omega), Option.bind_some]
    generalize getP (s.extract 0 (s.size - 32)) = r
    simp only [toW_0, toW_3]
    by_cases h0 : r.1 = 0
    · rw [if_pos h0, if_pos h0]
      by_cases h2 : r.2.f0 = 2
      · rw [if_pos h2, if_pos h2, precinctref09_Parse.j0, toWs_length]
        by_cases h4 : r.2.f3.length = 4
        · obtain ⟨a, b, c, d, e⟩ := four h4
          rw [e, if_neg (by simp)]
          exact rl0 k s (by omega) hs a b c d _ _ _
        · have hb : ((r.2.f3.length : Int) != 4) = true := bne_iff_ne.mpr (by omega)
          rw [hb, body_other s _ h4, if_pos rfl]
      · rw [if_neg h2, if_neg h2, precinctref09_Parse.j0, if_pos rfl]
    · rw [if_neg h0, if_neg h0]
end Go.Proofs.YtpbnfnaebdmagaaDoor.Tk
