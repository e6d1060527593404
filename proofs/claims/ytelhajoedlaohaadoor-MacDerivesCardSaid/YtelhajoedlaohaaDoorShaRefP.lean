/-
  The document's block over natural numbers is the program's.
-/
import Derived.Test.YtelhajoedlaohaaDoorShaRef0
namespace Go.Proofs.YtelhajoedlaohaaDoor.Sha
set_option linter.unusedVariables false
set_option linter.unusedSimpArgs false
open Go Go.RowKit Go.Proofs.YtelhajoedlaohaaDoorW.PrintWords Go.Proofs.YtelhajoedlaohaaDoorW.PrintLast Go.Proofs.YtelhajoedlaohaaDoorW.PrintMore
/-- a word, byte by byte -/
def acc (b : List Nat) (t : Nat) : Nat → Nat
  | 0 => 0
  | i + 1 => (acc b t i * 256 % 4294967296 + G b (4 * t + i)) % 4294967296
theorem acc_lt (b : List Nat) (t : Nat) : ∀ i, acc b t i < 4294967296
  | 0 => by unfold acc; decide
  | i + 1 => Nat.mod_lt _ (by decide)
theorem or_add (a x k m : Nat) (hm : m = 2 ^ k) (h : x < m) : a * m ||| x = a * m + x := by
  subst hm
  rw [Nat.mul_comm]; exact (Nat.two_pow_add_eq_or_of_lt h a).symm
theorem byte_mod (a m : Nat) (ha : a < 256) (hm : m ≤ 16777216) : a * m % 4294967296 = a * m :=
  Nat.mod_eq_of_lt (Nat.lt_of_le_of_lt (Nat.mul_le_mul (show a ≤ 255 by omega) hm) (by decide))
theorem or_four (a b c d : Nat) (ha : a < 256) (hb : b < 256) (hc : c < 256) (hd : d < 256) :
    ((a * 16777216 % 4294967296 ||| b * 65536 % 4294967296) ||| c * 256 % 4294967296) ||| d = ((a * 256 + b) * 256 + c) * 256 + d := by
  have e1 := byte_mod a 16777216 ha (by decide)
  have e2 := byte_mod b 65536 hb (by decide)
  have e3 := byte_mod c 256 hc (by decide)
  have f1 : a * 16777216 ||| b * 65536 = (a * 256 + b) * 65536 := by
    clear e1 e2 e3
    rw [or_add a (b * 65536) 24 16777216 (by decide) (by omega)]; omega
  have f2 : (a * 256 + b) * 65536 ||| c * 256 = ((a * 256 + b) * 256 + c) * 256 := by
    clear e1 e2 e3 f1
    rw [or_add (a * 256 + b) (c * 256) 16 65536 (by decide) (by omega)]; omega
  rw [e1, e2, e3, f1, f2, or_add _ d 8 256 (by decide) hd]
theorem acc_first (b : List Nat) (t : Nat) (hb : bnd b 256) : acc b t 4 = first b t := by
  have h0 := G_lt hb (by decide) (4 * t)
  have h1 := G_lt hb (by decide) (4 * t + 1)
  have h2 := G_lt hb (by decide) (4 * t + 2)
  have h3 := G_lt hb (by decide) (4 * t + 3)
  unfold first
  rw [or_four _ _ _ _ h0 h1 h2 h3]
  simp only [acc, Nat.add_zero]
  generalize G b (4 * t) = x0 at *
  generalize G b (4 * t + 1) = x1 at *
  generalize G b (4 * t + 2) = x2 at *
  generalize G b (4 * t + 3) = x3 at *
  omega
theorem fill_zero (b : List Nat) : ∀ t j, t ≤ j → G (fill b t) j = 0
  | 0, j, _ => by
    unfold fill G
    rw [List.getD_eq_getElem?_getD]
    by_cases h : j < 64
    · rw [List.getElem?_replicate_of_lt h]; rfl
    · rw [List.getElem?_eq_none (by simp; omega)]; rfl
  | t + 1, j, h => by
    have := fill_zero b t j (by omega)
    unfold G at this ⊢
    rw [fill, List.getD_eq_getElem?_getD, List.getElem?_set_ne (by omega), ← List.getD_eq_getElem?_getD]
    exact this
theorem fill_set0 (b : List Nat) (t : Nat) (hb : bnd b 256) (h : t < 64) : (fill b t).set t (acc b t 0) = fill b t := by
  have hl := (fill_ok b hb t).1
  have hz := fill_zero b t t (Nat.le_refl _)
  apply List.ext_getElem?
  intro j
  by_cases hj : j = t
  · subst hj
    rw [List.getElem?_set_self (by omega)]
    unfold G at hz
    rw [List.getD_eq_getElem?_getD, List.getElem?_eq_getElem (by omega), Option.getD_some] at hz
    rw [List.getElem?_eq_getElem (by omega), hz]; rfl
  · rw [List.getElem?_set_ne (Ne.symm hj)]
theorem fill_set4 (b : List Nat) (t : Nat) (hb : bnd b 256) (h : t < 16) : (fill b t).set t (acc b t 4) = fill b (t + 1) := by
  rw [fill, next, if_pos h, acc_first b t hb]
theorem G_set (l : List Nat) (t x : Nat) (h : t < l.length) : G (l.set t x) t = x := by
  unfold G
  rw [List.getD_eq_getElem?_getD, List.getElem?_set_self h]; rfl
/-- the state moved on by one place, from the i-th on -/
def shiftL (v : List Nat) (i : Nat) : List Nat := v.take (i + 1) ++ (v.drop i).take (7 - i)
theorem shift_step {v0 v1 v2 v3 v4 v5 v6 v7 : Nat} (i : Nat) (h1 : 1 ≤ i) (h2 : i ≤ 7) :
    (shiftL [v0, v1, v2, v3, v4, v5, v6, v7] i).set i (G (shiftL [v0, v1, v2, v3, v4, v5, v6, v7] i) (i - 1)) = shiftL [v0, v1, v2, v3, v4, v5, v6, v7] (i - 1) := by
  rcases (show i = 1 ∨ i = 2 ∨ i = 3 ∨ i = 4 ∨ i = 5 ∨ i = 6 ∨ i = 7 by omega) with rfl | rfl | rfl | rfl | rfl | rfl | rfl <;> rfl
theorem shift_length {v0 v1 v2 v3 v4 v5 v6 v7 : Nat} (i : Nat) (h2 : i ≤ 7) : (shiftL [v0, v1, v2, v3, v4, v5, v6, v7] i).length = 8 := by
  rcases (show i = 0 ∨ i = 1 ∨ i = 2 ∨ i = 3 ∨ i = 4 ∨ i = 5 ∨ i = 6 ∨ i = 7 by omega) with rfl | rfl | rfl | rfl | rfl | rfl | rfl | rfl <;> rfl
theorem fin_comm (v s : List Nat) (hv : v.length = 8) (hs : s.length = 8) : fin s v 8 = fin v s 8 := by
  obtain ⟨a, b, c, d, e, f, g, h, rfl⟩ := eight hv
  obtain ⟨a', b', c', d', e', f', g', h', rfl⟩ := eight hs
  have e1 : fin [a', b', c', d', e', f', g', h'] [a, b, c, d, e, f, g, h] 8 = [(a + a') % 4294967296, (b + b') % 4294967296, (c + c') % 4294967296, (d + d') % 4294967296, (e + e') % 4294967296, (f + f') % 4294967296, (g + g') % 4294967296, (h + h') % 4294967296] := rfl
  have e2 : fin [a, b, c, d, e, f, g, h] [a', b', c', d', e', f', g', h'] 8 = [(a' + a) % 4294967296, (b' + b) % 4294967296, (c' + c) % 4294967296, (d' + d) % 4294967296, (e' + e) % 4294967296, (f' + f) % 4294967296, (g' + g) % 4294967296, (h' + h) % 4294967296] := rfl
  rw [e1, e2, Nat.add_comm a, Nat.add_comm b, Nat.add_comm c, Nat.add_comm d, Nat.add_comm e, Nat.add_comm f, Nat.add_comm g, Nat.add_comm h]
end Go.Proofs.YtelhajoedlaohaaDoor.Sha
