/-
  What token.Verify comes to; what is minted is verified.
-/
import Derived.Test.YtpbnfnaebdmagaaDoorPTx55
import Derived.Test.YtpbnfnaebdmagaaDoorH4
import Derived.Test.YtpbnfnaebdmagaaDoorH6
namespace Go.Proofs.YtpbnfnaebdmagaaDoor.Tk
set_option linter.unusedVariables false
set_option linter.unusedSimpArgs false
open Go Go.RowKit Go.Proofs.YtpbnfnaebdmagaaDoor.Plain Go.Proofs.YtpbnfnaebdmagaaDoor.Words Go.Proofs.YtpbnfnaebdmagaaDoor.Vr Go.Proofs.YtpbnfnaebdmagaaDoor.Vs Go.Proofs.YtpbnfnaebdmagaaDoor.Rr Go.Proofs.YtpbnfnaebdmagaaDoor.Pv Go.Proofs.YtpbnfnaebdmagaaDoor.PT Go.Proofs.YtpbnfnaebdmagaaDoorW.PrintWords Go.Proofs.YtpbnfnaebdmagaaDoorW.PrintLast Go.Proofs.YtpbnfnaebdmagaaDoorW.PrintMore
theorem parse_long {s : ByteArray} (h : (parseR s).2.2.2.2.2 = 0) : 32 ≤ s.size := by
  rcases Nat.lt_or_ge s.size 32 with c | c
  · unfold parseR at h
    rw [if_pos c] at h
    exact absurd h (by decide)
  · exact c
theorem body_tag (s : ByteArray) (l : List V) : (body s l).2.2.2.2.1.size ≤ s.size := by
  unfold body
  split
  · split
    · show (s.extract (s.size - 32) s.size).size ≤ s.size
      rw [ByteArray.size_extract]; omega
    · exact Nat.zero_le _
  · exact Nat.zero_le _
theorem parse_tag (s : ByteArray) : (parseR s).2.2.2.2.1.size ≤ s.size := by
  unfold parseR
  generalize getP (s.extract 0 (s.size - 32)) = r
  split
  · exact Nat.zero_le _
  · split
    · split
      · exact body_tag _ _
      · exact Nat.zero_le _
    · exact Nat.zero_le _
/-- what Verify answers -/
def verR (key s : ByteArray) (now epoch : Int) : Int × Int × Int × Int × Int :=
  if (parseR s).2.2.2.2.2 = 0 then (if (parseR s).2.2.2.2.1.toList = (Sha.tagK key (s.extract 0 (s.size - 32))).toList then (if now > (parseR s).2.2.2.1 then (0, 0, 0, 0, 21) else (if (parseR s).2.2.1 = epoch then ((parseR s).1, (parseR s).2.1, (parseR s).2.2.1, (parseR s).2.2.2.1, 0) else (0, 0, 0, 0, 22))) else (0, 0, 0, 0, 20)) else (0, 0, 0, 0, (parseR s).2.2.2.2.2)
theorem cut_size (s : ByteArray) : (s.extract 0 (s.size - 32)).size ≤ s.size := by rw [ByteArray.size_extract]; omega
theorem verify_some {key s : ByteArray} (now epoch : Int) (hk : key.size ≤ 281474976710000) (hs : s.size ≤ 140737488351232) : ∃ K, ∀ k, K ≤ k → token_Verify.f k key s now epoch = some (verR key s now epoch) := by
  refine ⟨s.size + 40, fun k hk' => ?_⟩
  obtain ⟨k, rfl⟩ : ∃ m, k = m + 1 := ⟨k - 1, by omega⟩
  have hw : wrap64 ((s.size : Int) - 32) = (s.size : Int) - 32 := w64 (by omega) (by omega)
  have ht := parse_tag s
  have hl := @parse_long s
  have hc := cut_size s
  have hn : ((s.size : Int) - 32).toNat = s.size - 32 := by omega
  unfold token_Verify.f
  rw [parse_some s hs, Option.bind_some, hw]
  unfold verR
  generalize parseR s = p at ht hl ⊢
  by_cases h0 : p.2.2.2.2.2 = 0
  · have hl := hl h0
    have hz := Sha.tagK_size key (s.extract 0 (s.size - 32))
    rw [if_pos h0, if_pos h0, if_pos (by omega), if_pos (by omega), hn]
    unfold mac_Tag.f
    rw [if_pos ⟨hk, by omega⟩, Option.bind_some, Ms.same_is _ _ (by omega) (by omega) _ (by omega), Option.bind_some]
    by_cases h1 : p.2.2.2.2.1.toList = (Sha.tagK key (s.extract 0 (s.size - 32))).toList
    · rw [if_pos (beq_iff_eq.mpr h1), if_pos h1]
      split
      · rfl
      · split <;> rfl
    · rw [if_neg (fun e => h1 (beq_iff_eq.mp e)), if_neg h1]
  · rw [if_neg h0, if_neg h0]
theorem ver_mint (key : ByteArray) {a b c d : Int} (now epoch : Int) (ha : i64 a) (hb : i64 b) (hc : i64 c) (hd : i64 d) (h0 : 0 ≤ a ∧ a ≤ 2147483647) (h1 : 0 ≤ b ∧ b ≤ 2147483647) :
    verR key (mintR key a b c d) now epoch = if now > d then (0, 0, 0, 0, 21) else (if c = epoch then (a, b, c, d, 0) else (0, 0, 0, 0, 22)) := by
  have hz := mint_size key a b c d
  have hn : (mintR key a b c d).size - 32 = (tokB a b c d).size := by omega
  unfold verR
  rw [parse_mint key ha hb hc hd h0 h1, hn, mint_head]
  simp only [if_true]
end Go.Proofs.YtpbnfnaebdmagaaDoor.Tk
