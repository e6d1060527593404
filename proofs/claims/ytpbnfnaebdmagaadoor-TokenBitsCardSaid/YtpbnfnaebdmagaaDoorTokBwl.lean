/-
  TokenBits: a token with one bit of its tag turned is none, nor is one that is cut off.
-/
import Derived.Test.YtpbnfnaebdmagaaDoorTokBw
namespace Go.Proofs.YtpbnfnaebdmagaaDoor.Tk
set_option linter.unusedVariables false
set_option linter.unusedSimpArgs false
open Go Go.RowKit Go.Proofs.YtpbnfnaebdmagaaDoor.Plain Go.Proofs.YtpbnfnaebdmagaaDoor.Words Go.Proofs.YtpbnfnaebdmagaaDoor.PT Go.Proofs.YtpbnfnaebdmagaaDoorW.PrintWords Go.Proofs.YtpbnfnaebdmagaaDoorW.PrintLast Go.Proofs.YtpbnfnaebdmagaaDoorW.PrintMore
theorem bits_walk (a b c d : Int) (key : ByteArray) (now epoch bit : Int) (w : World) (HT : Sha.Tab w) (hk : key.size ≤ 140737488351232) (ha : (Lit.int .i64 a).wf = true) (hb : (Lit.int .i64 b).wf = true) (hc : (Lit.int .i64 c).wf = true) (hd : (Lit.int .i64 d).wf = true) (hbit : (Lit.int .i64 bit).wf = true) :
    Calls Tryd.prog 7 #[.agg #[.int .i64 a, .int .i64 b, .int .i64 c, .int .i64 d], .agg #[.string key, .int .i64 now, .int .i64 epoch], .int .i64 bit] w fun e w' => e = .returned (.bool true) ∧ Below w.heap.size w w' := by
  obtain ⟨a0, a1⟩ := mod31 a (wf_i64 ha)
  obtain ⟨b0, b1⟩ := mod31 b (wf_i64 hb)
  have zc : i64 c := wf_i64 hc
  have zd : i64 d := wf_i64 hd
  obtain ⟨a', hA⟩ : ∃ a', mx 0 a % 2147483648 = a' := ⟨_, rfl⟩
  obtain ⟨b', hB⟩ : ∃ b', mx 0 b % 2147483648 = b' := ⟨_, rfl⟩
  rw [hA] at a0 a1
  rw [hB] at b0 b1
  have za : i64 a' := ⟨by omega, by omega⟩
  have zb : i64 b' := ⟨by omega, by omega⟩
  have z1 := mint_size key a' b' c d
  have z2 := tok_size a' b' c d
  have zk : key.size ≤ 281474976710000 := by omega
  have hm0 : 0 ≤ mx 0 bit := by unfold mx; split <;> omega
  obtain ⟨n, hn⟩ : ∃ n : Nat, mx 0 bit % 256 = (n : Int) := ⟨(mx 0 bit % 256).toNat, by omega⟩
  have hn2 : n < 256 := by omega
  obtain ⟨p, hp⟩ : ∃ p, p = (mintR key a' b' c d).size - 32 + n / 8 := ⟨_, rfl⟩
  have v1 := ver_turned key (a := a') (b := b') d c (n / 8) (n % 8) (by omega) (Nat.mod_lt _ (by decide)) za zb zc zd ⟨a0, a1⟩ ⟨b0, b1⟩ p hp
  have hl : ((bytesOf (mintR key a' b' c d)).set p (bits .xor .u8 (bt (mintR key a' b' c d) (p : Int)) (2 ^ (n % 8)))).length = (mintR key a' b' c d).size := by rw [List.length_set, bytesOf_length]
  generalize hxs : (bytesOf (mintR key a' b' c d)).set p (bits .xor .u8 (bt (mintR key a' b' c d) (p : Int)) (2 ^ (n % 8))) = xs at v1 hl
  have hl2 : (xs.take (n % 32)).length < 32 := by rw [List.length_take]; have := Nat.mod_lt n (show 0 < 32 by decide); omega
  have v2 := ver_short key (strOfNums (xs.take (n % 32))) d c (by rw [size_strOfNums]; exact hl2)
  obtain ⟨K1, e1⟩ := wakes_some
  obtain ⟨K2, e2⟩ := mint_some (key := key) zk za zb zc zd
  obtain ⟨K3, e3⟩ := verify_some (key := key) (s := strOfNums xs) d c zk (by rw [size_strOfNums]; omega)
  obtain ⟨K4, e4⟩ := verify_some (key := key) (s := strOfNums (xs.take (n % 32))) d c zk (by rw [size_strOfNums]; omega)
  have HTab := Aside0.mk HT
  refine bits_calls (max K1 (max K2 (max K3 K4))) a b c d key now epoch bit a' b' (mintR key a' b' c d) n p w HTab hA hB hn hn2 (e2 _ (by omega)) (e1 _ (by omega)) (by omega) (by omega) hp ?_ ?_
  · rw [hxs, e3 _ (by omega), v1]
  · rw [hxs, e4 _ (by omega), v2]
end Go.Proofs.YtpbnfnaebdmagaaDoor.Tk
