/-
  TokenBack: what is minted is verified, up to its time, in its epoch, and by no other.
-/
import Derived.Test.YtpbnfnaebdmagaaDoorPTx58
import Derived.Test.YtpbnfnaebdmagaaDoorTokV
namespace Go.Proofs.YtpbnfnaebdmagaaDoor.Tk
set_option linter.unusedVariables false
set_option linter.unusedSimpArgs false
open Go Go.RowKit Go.Proofs.YtpbnfnaebdmagaaDoor.Plain Go.Proofs.YtpbnfnaebdmagaaDoor.Words Go.Proofs.YtpbnfnaebdmagaaDoor.Vr Go.Proofs.YtpbnfnaebdmagaaDoor.Vs Go.Proofs.YtpbnfnaebdmagaaDoor.Rr Go.Proofs.YtpbnfnaebdmagaaDoor.Pv Go.Proofs.YtpbnfnaebdmagaaDoor.PT Go.Proofs.YtpbnfnaebdmagaaDoorW.PrintWords Go.Proofs.YtpbnfnaebdmagaaDoorW.PrintLast Go.Proofs.YtpbnfnaebdmagaaDoorW.PrintMore
theorem back_pure (a b c d : Int) (key : ByteArray) (now epoch : Int) (hk : key.size ≤ 140737488351232) (ha : i64 a) (hb : i64 b) (hc : i64 c) (hd : i64 d) : ∃ k, precinctlaw09_TokenBack.f k a b c d key now epoch = some true := by
  obtain ⟨a0, a1⟩ := mod31 a ha
  obtain ⟨b0, b1⟩ := mod31 b hb
  unfold precinctlaw09_TokenBack.f
  generalize (mx 0 a) % 2147483648 = a' at a0 a1 ⊢
  generalize (mx 0 b) % 2147483648 = b' at b0 b1 ⊢
  have za : i64 a' := ⟨by omega, by omega⟩
  have zb : i64 b' := ⟨by omega, by omega⟩
  have zs : (mintR key a' b' c d).size ≤ 140737488351232 := by
    have h1 := mint_size key a' b' c d
    have h2 := tok_size a' b' c d
    omega
  have zk : key.size ≤ 281474976710000 := by omega
  have hm : mn now d ≤ d := by unfold mn; split <;> omega
  obtain ⟨K1, e1⟩ := wakes_some
  obtain ⟨K2, e2⟩ := mint_some zk za zb hc hd
  obtain ⟨K3, e3⟩ := verify_some (mn now d) c zk zs
  obtain ⟨K4, e4⟩ := verify_some (mn now d) epoch zk zs
  obtain ⟨K5, e5⟩ := verify_some now c zk zs
  simp only [ver_mint key _ _ za zb hc hd ⟨a0, a1⟩ ⟨b0, b1⟩] at e3 e4 e5
  rw [if_neg (by omega)] at e3
  simp only [if_true] at e3
  rw [if_neg (by omega)] at e4
  refine ⟨max K1 (max K2 (max K3 (max K4 K5))) + 1, ?_⟩
  rw [e2 _ (by omega), Option.bind_some, e3 _ (by omega), Option.bind_some, e1 _ (by omega), Option.bind_some, if_pos rfl, if_pos rfl]
  have hf : (!(a' == a') || (!(b' == b') || (!(c == c) || !(d == d)))) = false := by simp
  simp only
  rw [hf, precinctlaw09_TokenBack.j0, if_neg (by decide)]
  by_cases h1 : epoch = c
  · rw [if_pos h1]
    by_cases h2 : now > d
    · rw [if_pos h2, e5 _ (by omega), if_pos h2]; rfl
    · rw [if_neg h2]
  · rw [if_neg h1, e4 _ (by omega), if_neg (fun e => h1 e.symm), Option.bind_some, if_pos rfl]
    by_cases h2 : now > d
    · rw [if_pos h2, e5 _ (by omega), if_pos h2]; rfl
    · rw [if_neg h2]
theorem back_walk (a b c d : Int) (key : ByteArray) (now epoch : Int) (w : World) (HT : Sha.Tab w) (hk : key.size ≤ 140737488351232) (ha : (Lit.int .i64 a).wf = true) (hb : (Lit.int .i64 b).wf = true) (hc : (Lit.int .i64 c).wf = true) (hd : (Lit.int .i64 d).wf = true) :
    Calls Tryd.prog 6 #[.agg #[.int .i64 a, .int .i64 b, .int .i64 c, .int .i64 d], .agg #[.string key, .int .i64 now, .int .i64 epoch]] w fun e w' => e = .returned (.bool true) ∧ Below w.heap.size w w' := by
  obtain ⟨k, h⟩ := back_pure a b c d key now epoch hk (wf_i64 ha) (wf_i64 hb) (wf_i64 hc) (wf_i64 hd)
  have HTab := Aside0.mk HT
  exact precinctlaw09_TokenBack.calls k a b c d key now epoch true w ⟨rfl⟩ h HTab
end Go.Proofs.YtpbnfnaebdmagaaDoor.Tk
