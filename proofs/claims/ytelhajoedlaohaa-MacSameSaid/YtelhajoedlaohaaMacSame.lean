/-
  mac.Same tells which texts are the same: plain.
-/
import Derived.Test.YtelhajoedlaohaaPMx1
import Derived.Test.YtelhajoedlaohaaPlain
namespace Go.Proofs.Ytelhajoedlaohaa.Ms
set_option linter.unusedVariables false
set_option linter.unusedSimpArgs false
open Go Go.RowKit Go.Proofs.Ytelhajoedlaohaa.Plain Go.Proofs.Ytelhajoedlaohaa.PM Go.Proofs.YtelhajoedlaohaaW.PrintWords Go.Proofs.YtelhajoedlaohaaW.PrintLast Go.Proofs.YtelhajoedlaohaaW.PrintMore
theorem bv8 (x : Int) (h0 : 0 ≤ x) (h1 : x < 256) : (BitVec.ofInt 8 x).toNat = x.toNat := by
  rw [BitVec.toNat_ofInt]; omega
theorem xor_u8 (x y : Int) (h0 : 0 ≤ x) (h1 : x < 256) (k0 : 0 ≤ y) (k1 : y < 256) : bits .xor .u8 x y = ((x.toNat ^^^ y.toNat : Nat) : Int) := by
  show IntKind.u8.wrap ((BitVec.ofInt 8 x ^^^ BitVec.ofInt 8 y).toNat : Int) = _
  rw [BitVec.toNat_xor, bv8 x h0 h1, bv8 y k0 k1]
  have := Nat.xor_lt_two_pow (x := x.toNat) (y := y.toNat) (n := 8) (by omega) (by omega)
  simp [IntKind.wrap, IntKind.bits, IntKind.signed]
  omega
theorem xor_zero_iff (x y : Nat) : x ^^^ y = 0 ↔ x = y := by
  constructor
  · intro h
    have : x ^^^ y ^^^ y = y := by rw [h, Nat.zero_xor]
    rw [Nat.xor_assoc, Nat.xor_self, Nat.xor_zero] at this
    exact this
  · rintro rfl; exact Nat.xor_self x
theorem or_zero_iff (x y : Nat) : x ||| y = 0 ↔ x = 0 ∧ y = 0 := by
  constructor
  · intro h
    have h1 : x ≤ x ||| y := Nat.left_le_or
    have h2 : y ≤ x ||| y := Nat.right_le_or
    omega
  · rintro ⟨rfl, rfl⟩; rfl
theorem bt_out (s : ByteArray) (i : Int) (h : (s.size : Int) ≤ i) : bt s i = 0 := by
  unfold bt
  rw [dif_neg (by omega)]
/-- one step of the sum of differences -/
theorem mix (x p q : Int) (hx : 0 ≤ x ∧ x < 18446744073709551616) (hp : 0 ≤ p ∧ p ≤ 255) (hq : 0 ≤ q ∧ q ≤ 255) :
    (0 ≤ bits .or .u64 x (IntKind.u64.wrap (bits .xor .u8 p q)) ∧ bits .or .u64 x (IntKind.u64.wrap (bits .xor .u8 p q)) < 18446744073709551616) ∧ (bits .or .u64 x (IntKind.u64.wrap (bits .xor .u8 p q)) = 0 ↔ x = 0 ∧ p = q) := by
  rw [xor_u8 p q (by omega) (by omega) (by omega) (by omega)]
  have h8 := Nat.xor_lt_two_pow (x := p.toNat) (y := q.toNat) (n := 8) (by omega) (by omega)
  have hz := xor_zero_iff p.toNat q.toNat
  generalize p.toNat ^^^ q.toNat = z at h8 hz
  rw [wu64, Int.emod_eq_of_lt (by omega) (by omega), or_u64 x z (by omega) (by omega) (by omega) (by omega)]
  have h64 := Nat.or_lt_two_pow (x := x.toNat) (y := (z : Int).toNat) (n := 64) (by omega) (by omega)
  have ho := or_zero_iff x.toNat (z : Int).toNat
  generalize x.toNat ||| (z : Int).toNat = u at h64 ho
  refine ⟨by omega, ?_⟩
  constructor
  · intro h
    have h1 := ho.mp (by omega)
    have h2 := hz.mp (by omega)
    omega
  · rintro ⟨h1, h2⟩
    have h3 := hz.mpr (by omega)
    have h4 := ho.mpr (by omega)
    omega
theorem same_loop (a b : ByteArray) (M : Int) (hM : M ≤ 9223372036854775806) : ∀ (d : Nat) (i x : Int), 0 ≤ i → i + d = M → 0 ≤ x ∧ x < 18446744073709551616 →
    ∃ r : Bool, mac_Same.l0 (d + 1) a b x M i = some r ∧ (r = true ↔ x = 0 ∧ ∀ j : Int, i ≤ j → j < M → bt a j = bt b j)
  | 0, i, x, h0, h, hx => by
    refine ⟨x == 0, ?_, ?_⟩
    · simp only [mac_Same.l0]
      rw [if_neg (by omega)]
    · constructor
      · intro h1
        exact ⟨by simpa using h1, fun j j0 j1 => by omega⟩
      · rintro ⟨rfl, _⟩; rfl
  | d + 1, i, x, h0, h, hx => by
    have e1 : wrap64 (i + 1) = i + 1 := by unfold wrap64; omega
    have pa := bt_range a i
    have pb := bt_range b i
    obtain ⟨hr, hy⟩ := mix x (bt a i) (bt b i) hx pa pb
    have hs : mac_Same.l0 (d + 1 + 1) a b x M i = mac_Same.l0 (d + 1) a b (bits .or .u64 x (IntKind.u64.wrap (bits .xor .u8 (bt a i) (bt b i)))) M (i + 1) := by
      rw [mac_Same.l0, if_pos (by omega), e1]
      by_cases c1 : i < (a.size : Int)
      · rw [if_pos c1, if_pos h0]
        by_cases c2 : i < (b.size : Int)
        · rw [if_pos c2]
        · rw [if_neg c2, bt_out b i (by omega)]
      · rw [if_neg c1, bt_out a i (by omega)]
        by_cases c2 : i < (b.size : Int)
        · rw [if_pos c2, if_pos h0]
        · rw [if_neg c2, bt_out b i (by omega)]
    rw [hs]
    obtain ⟨r, h1, h2⟩ := same_loop a b M hM d (i + 1) _ (by omega) (by omega) hr
    refine ⟨r, h1, h2.trans ?_⟩
    rw [hy]
    constructor
    · rintro ⟨⟨g1, g2⟩, g3⟩
      refine ⟨g1, fun j j0 j1 => ?_⟩
      by_cases c : j = i
      · rw [c]; exact g2
      · exact g3 j (by omega) j1
    · rintro ⟨g1, g2⟩
      exact ⟨⟨g1, g2 i (by omega) (by omega)⟩, fun j j0 j1 => g2 j (by omega) j1⟩
theorem bt_nat (s : ByteArray) (i : Nat) (h : i < s.data.toList.length) : bt s i = ((s.data.toList[i]).toNat : Int) := by
  have hl : s.data.toList.length = s.size := Array.length_toList
  have h' : (i : Int).toNat < s.size := by omega
  unfold bt
  rw [dif_pos h']
  simp only [Int.toNat_natCast, Array.getElem_toList]
  rfl
theorem same_bytes (a b : ByteArray) (hs : a.size = b.size) (h : ∀ j : Int, 0 ≤ j → j < a.size → bt a j = bt b j) : a.data.toList = b.data.toList := by
  have la : a.data.toList.length = a.size := Array.length_toList
  have lb : b.data.toList.length = b.size := Array.length_toList
  refine List.ext_getElem (by omega) (fun i h1 h2 => ?_)
  have e := h i (by omega) (by omega)
  rw [bt_nat a i h1, bt_nat b i h2] at e
  exact UInt8.toNat_inj.mp (by omega)
theorem same_is (a b : ByteArray) (ha : a.size ≤ 140737488351232 * 4) (hb : b.size ≤ 140737488351232 * 4) : ∀ k, max a.size b.size + 1 ≤ k → mac_Same.f k a b = some (a.toList == b.toList) := by
  intro k hk
  have hM : mx (a.size : Int) (b.size : Int) = ((max a.size b.size : Nat) : Int) := by unfold mx; split <;> omega
  have wa : IntKind.u64.wrap (a.size : Int) = a.size := by rw [wu64]; omega
  have wb : IntKind.u64.wrap (b.size : Int) = b.size := by rw [wu64]; omega
  have hx : bits .xor .u64 (a.size : Int) (b.size : Int) = ((a.size ^^^ b.size : Nat) : Int) := by rw [xor_u64 _ _ (by omega) (by omega) (by omega) (by omega)]; rfl
  have hlt := Nat.xor_lt_two_pow (x := a.size) (y := b.size) (n := 64) (by omega) (by omega)
  obtain ⟨r, h1, h2⟩ := same_loop a b (max a.size b.size : Nat) (by omega) (max a.size b.size) 0 ((a.size ^^^ b.size : Nat) : Int) (by omega) (by omega) (by omega)
  have hr : r = (a.toList == b.toList) := by
    rw [Bool.eq_iff_iff, h2, beq_iff_eq, toList_data, toList_data]
    constructor
    · rintro ⟨g1, g2⟩
      have hz := (xor_zero_iff a.size b.size).mp (by omega)
      exact same_bytes a b hz (fun j j0 j1 => g2 j j0 (by omega))
    · intro h
      have e : a = b := ByteArray.ext (Array.ext' h)
      subst e
      exact ⟨by rw [Nat.xor_self]; rfl, fun _ _ _ => rfl⟩
  have h0 : mac_Same.f (max a.size b.size + 1) a b = some (a.toList == b.toList) := by
    unfold mac_Same.f
    rw [wa, wb, hx, hM, h1, hr]
  clear h1 h2 hr
  induction k with
  | zero => omega
  | succ m ih =>
    rcases Nat.lt_or_ge m (max a.size b.size + 1) with h | h
    · rw [show m + 1 = max a.size b.size + 1 by omega]; exact h0
    · exact mac_Same.mono a b m _ (ih h)
theorem same_self (a : ByteArray) (ha : a.size ≤ 140737488351232 * 4) (k : Nat) (hk : a.size + 1 ≤ k) : mac_Same.f k a a = some true := by
  rw [same_is a a ha ha k (by omega)]; simp
theorem same_not (a b : ByteArray) (ha : a.size ≤ 140737488351232 * 4) (hb : b.size ≤ 140737488351232 * 4) (hne : a ≠ b) (k : Nat) (hk : max a.size b.size + 1 ≤ k) : mac_Same.f k a b = some false := by
  rw [same_is a b ha hb k hk]
  congr 1
  rw [Bool.eq_false_iff]
  intro he
  rw [beq_iff_eq, toList_data, toList_data] at he
  exact hne (ByteArray.ext (Array.ext' he))
/-- a text with one bit of one byte turned -/
def flip (a : ByteArray) (i : Nat) : ByteArray := strOfNums ((bytesOf a).set i (bits .xor .u8 (bt a i) 1))
theorem flip_size (a : ByteArray) (i : Nat) : (flip a i).size = a.size := by
  unfold flip
  rw [size_strOfNums, List.length_set, bytesOf_length]
theorem bt_nums (xs : List Int) (i : Nat) (h : i < xs.length) (hx : 0 ≤ xs[i] ∧ xs[i] < 256) : bt (strOfNums xs) i = xs[i] := by
  have hl : (strOfNums xs).data.toList.length = xs.length := by rw [Array.length_toList]; exact size_strOfNums xs
  rw [bt_nat _ i (by omega)]
  simp [strOfNums]
  omega
theorem flip_ne (a : ByteArray) (i : Nat) (h : i < a.size) : a ≠ flip a i := by
  intro e
  have hl : ((bytesOf a).set i (bits .xor .u8 (bt a i) 1)).length = a.size := by rw [List.length_set, bytesOf_length]
  have hr := bt_range a i
  have hx := xor_u8 (bt a i) 1 (by omega) (by omega) (by omega) (by omega)
  have h8 := Nat.xor_lt_two_pow (x := (bt a i).toNat) (y := (1 : Int).toNat) (n := 8) (by omega) (by omega)
  have hb : bt (flip a i) i = bits .xor .u8 (bt a i) 1 := by
    unfold flip
    rw [bt_nums _ i (by omega) (by rw [List.getElem_set_self, hx]; omega), List.getElem_set_self]
  rw [← e, hx] at hb
  have h1 : (bt a i).toNat ^^^ (1 : Int).toNat = (bt a i).toNat := by omega
  have h2 : (bt a i).toNat ^^^ ((bt a i).toNat ^^^ (1 : Int).toNat) = 0 := by rw [h1, Nat.xor_self]
  rw [← Nat.xor_assoc, Nat.xor_self, Nat.zero_xor] at h2
  exact absurd h2 (by decide)
theorem app_ne_r (a : ByteArray) : a ≠ a ++ (⟨#[0]⟩ : ByteArray) := fun e => by
  have h : a.size = (a ++ (⟨#[0]⟩ : ByteArray)).size := congrArg ByteArray.size e
  rw [ByteArray.size_append] at h
  have : (⟨#[0]⟩ : ByteArray).size = 1 := rfl
  omega
theorem app_ne_l (a : ByteArray) : (⟨#[0]⟩ : ByteArray) ++ a ≠ a := fun e => by
  have h : ((⟨#[0]⟩ : ByteArray) ++ a).size = a.size := congrArg ByteArray.size e
  rw [ByteArray.size_append] at h
  have : (⟨#[0]⟩ : ByteArray).size = 1 := rfl
  omega
theorem reads_set {W : World} {g n : Nat} {xs : List Int} (h : ReadsInt W .u8 (some ⟨g, 0, none⟩) n xs) (i : Nat) (hi : i < n) (v : Int) {old : Value} (hc : W.cell? ⟨g, i, none⟩ = some old) : ReadsInt (W.setCell ⟨g, i, none⟩ (.int .u8 v)) .u8 (some ⟨g, 0, none⟩) n (xs.set i v) := by
  refine ⟨by rw [List.length_set]; exact h.1, h.2.1, fun hp => ?_⟩
  obtain ⟨ad, e, hcell⟩ := h.2.2 hp
  obtain rfl := Option.some.inj e
  have hn := h.1
  refine ⟨_, rfl, fun j hj => ?_⟩
  have hc2 := hcell j hj
  rw [add_plain] at hc2 ⊢
  by_cases c : j = i
  · subst c
    rw [World.cell?_setCell_same _ _ _ hc]
    simp [List.getD_eq_getElem?_getD, List.getElem?_set, hn, hi]
  · rw [World.cell?_setCell_other _ _ _ _ (show (⟨g, i, none⟩ : Addr) ≠ ⟨g, j, none⟩ from fun e => c (by injection e with _ e2; exact e2.symm)), hc2]
    simp [List.getD_eq_getElem?_getD, List.getElem?_set, Ne.symm c]
end Go.Proofs.Ytelhajoedlaohaa.Ms
