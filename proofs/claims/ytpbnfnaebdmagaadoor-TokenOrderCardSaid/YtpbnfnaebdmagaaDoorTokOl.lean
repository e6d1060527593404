/-
  TokenOrder: a wrong tag is told first, then a late token, of whatever epoch.
-/
import Derived.Test.YtpbnfnaebdmagaaDoorTokOw
namespace Go.Proofs.YtpbnfnaebdmagaaDoor.Tk
set_option linter.unusedVariables false
set_option linter.unusedSimpArgs false
open Go Go.RowKit Go.Proofs.YtpbnfnaebdmagaaDoor.Plain Go.Proofs.YtpbnfnaebdmagaaDoor.Words Go.Proofs.YtpbnfnaebdmagaaDoor.PT Go.Proofs.YtpbnfnaebdmagaaDoorW.PrintWords Go.Proofs.YtpbnfnaebdmagaaDoorW.PrintLast Go.Proofs.YtpbnfnaebdmagaaDoorW.PrintMore
theorem order_walk (a b c d : Int) (key : ByteArray) (now epoch : Int) (other : ByteArray) (w : World) (HT : Sha.Tab w) (hk : key.size ≤ 140737488351232) (ha : (Lit.int .i64 a).wf = true) (hb : (Lit.int .i64 b).wf = true) (hc : (Lit.int .i64 c).wf = true) (hd : (Lit.int .i64 d).wf = true) :
    Calls Tryd.prog 8 #[.agg #[.int .i64 a, .int .i64 b, .int .i64 c, .int .i64 d], .agg #[.string key, .int .i64 now, .int .i64 epoch], .string other] w fun e w' => e = .returned (.bool true) ∧ Below w.heap.size w w' := by
  obtain ⟨a0, a1⟩ := mod31 a (wf_i64 ha)
  obtain ⟨b0, b1⟩ := mod31 b (wf_i64 hb)
  have zc : i64 c := wf_i64 hc
  have zd0 : i64 d := wf_i64 hd
  obtain ⟨a', hA⟩ : ∃ a', mx 0 a % 2147483648 = a' := ⟨_, rfl⟩
  obtain ⟨b', hB⟩ : ∃ b', mx 0 b % 2147483648 = b' := ⟨_, rfl⟩
  obtain ⟨d', hD⟩ : ∃ d', mn d 4611686018427387904 = d' := ⟨_, rfl⟩
  obtain ⟨n, hN⟩ : ∃ n, mn (other.size : Int) 31 = n := ⟨_, rfl⟩
  rw [hA] at a0 a1
  rw [hB] at b0 b1
  have hd2 : d' ≤ 4611686018427387904 ∧ -9223372036854775808 ≤ d' := by
    have := zd0.1
    rw [← hD]; unfold mn; split <;> omega
  have hn2 : 0 ≤ n ∧ n ≤ 31 := by rw [← hN]; unfold mn; split <;> omega
  have zd : i64 d' := ⟨by omega, by omega⟩
  have za : i64 a' := ⟨by omega, by omega⟩
  have zb : i64 b' := ⟨by omega, by omega⟩
  have z1 := mint_size key a' b' c d'
  have z2 := tok_size a' b' c d'
  have zk : key.size ≤ 281474976710000 := by omega
  have hw : IntKind.i64.wrap (d' + 1) = d' + 1 := by rw [wi64, w64 (by omega) (by omega)]
  obtain ⟨p, hp⟩ : ∃ p, p = (mintR key a' b' c d').size - 1 := ⟨_, rfl⟩
  have v1 := ver_turned key (a := a') (b := b') (d' + 1) epoch 31 0 (by omega) (by omega) za zb zc zd ⟨a0, a1⟩ ⟨b0, b1⟩ p (by omega)
  have e20 : (2 : Int) ^ 0 = 1 := rfl
  rw [e20] at v1
  have hl : ((bytesOf (mintR key a' b' c d')).set p (bits .xor .u8 (bt (mintR key a' b' c d') (p : Int)) 1)).length = (mintR key a' b' c d').size := by rw [List.length_set, bytesOf_length]
  generalize hxs : (bytesOf (mintR key a' b' c d')).set p (bits .xor .u8 (bt (mintR key a' b' c d') (p : Int)) 1) = xs at v1 hl
  have v2 := ver_short key (other.extract 0 n.toNat) now epoch (by rw [ByteArray.size_extract]; omega)
  have v3 := ver_mint key (a := a') (b := b') (c := c) (d := d') (d' + 1) epoch za zb zc zd ⟨a0, a1⟩ ⟨b0, b1⟩
  rw [if_pos (by omega)] at v3
  obtain ⟨K1, e1⟩ := wakes_some
  obtain ⟨K2, e2⟩ := mint_some (key := key) zk za zb zc zd
  obtain ⟨K3, e3⟩ := verify_some (key := key) (s := strOfNums xs) (d' + 1) epoch zk (by rw [size_strOfNums]; omega)
  obtain ⟨K4, e4⟩ := verify_some (key := key) (s := other.extract 0 n.toNat) now epoch zk (by rw [ByteArray.size_extract]; omega)
  obtain ⟨K5, e5⟩ := verify_some (key := key) (s := mintR key a' b' c d') (d' + 1) epoch zk (by omega)
  have HTab := Aside0.mk HT
  refine order_calls (max K1 (max K2 (max K3 (max K4 K5)))) a b c d key now epoch other a' b' d' (d' + 1) n (mintR key a' b' c d') p w HTab hA hB hD hw hN (e2 _ (by omega)) (e1 _ (by omega)) (by omega) (by omega) hp ?_ ?_ ?_
  · rw [hxs, e3 _ (by omega), v1]
  · rw [e5 _ (by omega), v3]
  · rw [e4 _ (by omega), v2]
end Go.Proofs.YtpbnfnaebdmagaaDoor.Tk
