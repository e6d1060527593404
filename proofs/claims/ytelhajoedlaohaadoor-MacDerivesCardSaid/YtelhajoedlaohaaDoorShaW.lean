/-
  SHA-256 over natural numbers: what the program's text computes.
-/
import Derived.Test.YtelhajoedlaohaaDoorShaR
namespace Go.Proofs.YtelhajoedlaohaaDoor.Sha
set_option linter.unusedVariables false
set_option linter.unusedSimpArgs false
open Go Go.RowKit Go.Proofs.YtelhajoedlaohaaDoorW.PrintWords Go.Proofs.YtelhajoedlaohaaDoorW.PrintLast Go.Proofs.YtelhajoedlaohaaDoorW.PrintMore
abbrev G (l : List Nat) (i : Nat) : Nat := l.getD i 0
/-- a word of the block -/
def first (b : List Nat) (t : Nat) : Nat := ((G b (4 * t) * 16777216 % 4294967296 ||| G b (4 * t + 1) * 65536 % 4294967296) ||| G b (4 * t + 2) * 256 % 4294967296) ||| G b (4 * t + 3)
/-- a later word -/
def later (l : List Nat) (t : Nat) : Nat :=
  ((((rorN (G l (t - 2)) 17 ^^^ rorN (G l (t - 2)) 19) ^^^ G l (t - 2) / 1024) + G l (t - 7)) % 4294967296 + ((rorN (G l (t - 15)) 7 ^^^ rorN (G l (t - 15)) 18) ^^^ G l (t - 15) / 8)) % 4294967296 + G l (t - 16)
def next (b l : List Nat) (t : Nat) : Nat := if t < 16 then first b t else later l t % 4294967296
/-- the words, up to the t-th -/
def fill (b : List Nat) : Nat → List Nat
  | 0 => List.replicate 64 0
  | t + 1 => (fill b t).set t (next b (fill b t) t)
def one (k w : Nat) (v : List Nat) : Nat := ((((G v 7 + ((rorN (G v 4) 6 ^^^ rorN (G v 4) 11) ^^^ rorN (G v 4) 25)) % 4294967296 + ((G v 4 &&& G v 5) ^^^ ((4294967295 - G v 4) &&& G v 6))) % 4294967296 + k) % 4294967296 + w) % 4294967296
def two (v : List Nat) : Nat := (((rorN (G v 0) 2 ^^^ rorN (G v 0) 13) ^^^ rorN (G v 0) 22) + (((G v 0 &&& G v 1) ^^^ (G v 0 &&& G v 2)) ^^^ (G v 1 &&& G v 2))) % 4294967296
def rnd (k w : Nat) (v : List Nat) : List Nat := [(one k w v + two v) % 4294967296, G v 0, G v 1, G v 2, (G v 3 + one k w v) % 4294967296, G v 4, G v 5, G v 6]
/-- the state behind t rounds -/
def vst (ks ws s : List Nat) : Nat → List Nat
  | 0 => s
  | t + 1 => rnd (G ks t) (G ws t) (vst ks ws s t)
def fin (v : List Nat) (s : List Nat) : Nat → List Nat
  | 0 => s
  | i + 1 => (fin v s i).set i ((G (fin v s i) i + G v i) % 4294967296)
def block (ks s b : List Nat) : List Nat := fin (vst ks (fill b 64) s 64) s 8
def bnd (l : List Nat) (n : Nat) : Prop := ∀ x ∈ l, x < n
theorem G_lt {l : List Nat} {n : Nat} (h : bnd l n) (h0 : 0 < n) (i : Nat) : G l i < n := by
  unfold G
  rw [List.getD_eq_getElem?_getD]
  cases hi : l[i]? with
  | none => exact h0
  | some x => exact h x (List.mem_of_getElem? hi)
theorem bnd_set {l : List Nat} {n : Nat} (h : bnd l n) (i x : Nat) (hx : x < n) : bnd (l.set i x) n := fun y hy => by
  rcases List.mem_or_eq_of_mem_set hy with hy | rfl
  · exact h y hy
  · exact hx
theorem lt32_or {a b : Nat} (ha : a < 4294967296) (hb : b < 4294967296) : a ||| b < 4294967296 := Nat.or_lt_two_pow (n := 32) ha hb
theorem first_lt (b : List Nat) (t : Nat) (hb : bnd b 256) : first b t < 4294967296 := by
  unfold first
  have h3 := G_lt hb (by decide) (4 * t + 3)
  exact lt32_or (lt32_or (lt32_or (Nat.mod_lt _ (by decide)) (Nat.mod_lt _ (by decide))) (Nat.mod_lt _ (by decide))) (by omega)
theorem next_lt (b l : List Nat) (t : Nat) (hb : bnd b 256) : next b l t < 4294967296 := by
  unfold next
  split
  · exact first_lt b t hb
  · exact Nat.mod_lt _ (by decide)
theorem fill_ok (b : List Nat) (hb : bnd b 256) : ∀ t, (fill b t).length = 64 ∧ bnd (fill b t) 4294967296
  | 0 => ⟨by simp [fill], fun x hx => by rw [List.eq_of_mem_replicate hx]; decide⟩
  | t + 1 => by
    obtain ⟨h1, h2⟩ := fill_ok b hb t
    exact ⟨by simp [fill, h1], bnd_set h2 _ _ (next_lt b _ t hb)⟩
theorem rnd_ok (k w : Nat) (v : List Nat) (hv : bnd v 4294967296) : (rnd k w v).length = 8 ∧ bnd (rnd k w v) 4294967296 := by
  refine ⟨rfl, fun x hx => ?_⟩
  have h := G_lt hv (by decide)
  simp only [rnd, List.mem_cons, List.not_mem_nil, or_false] at hx
  rcases hx with rfl | rfl | rfl | rfl | rfl | rfl | rfl | rfl
  · exact Nat.mod_lt _ (by decide)
  · exact h 0
  · exact h 1
  · exact h 2
  · exact Nat.mod_lt _ (by decide)
  · exact h 4
  · exact h 5
  · exact h 6
theorem vst_ok (ks ws s : List Nat) (hl : s.length = 8) (hs : bnd s 4294967296) : ∀ t, (vst ks ws s t).length = 8 ∧ bnd (vst ks ws s t) 4294967296
  | 0 => ⟨hl, hs⟩
  | t + 1 => rnd_ok _ _ _ (vst_ok ks ws s hl hs t).2
theorem fin_ok (v s : List Nat) (hl : s.length = 8) (hs : bnd s 4294967296) : ∀ t, (fin v s t).length = 8 ∧ bnd (fin v s t) 4294967296
  | 0 => ⟨hl, hs⟩
  | t + 1 => by
    obtain ⟨h1, h2⟩ := fin_ok v s hl hs t
    exact ⟨by simp [fin, h1], bnd_set h2 _ _ (Nat.mod_lt _ (by decide))⟩
theorem block_ok (ks s b : List Nat) (hl : s.length = 8) (hs : bnd s 4294967296) : (block ks s b).length = 8 ∧ bnd (block ks s b) 4294967296 := fin_ok _ s hl hs 8
theorem eight {l : List Nat} (h : l.length = 8) : ∃ a b c d e f g i, l = [a, b, c, d, e, f, g, i] := by
  match l, h with
  | [a, b, c, d, e, f, g, i], _ => exact ⟨a, b, c, d, e, f, g, i, rfl⟩
/-- the cells of an array of numbers -/
def arr (k : IntKind) (l : List Nat) : Array Value := (l.map fun n : Nat => Value.int k (n : Int)).toArray
theorem arr_size (k : IntKind) (l : List Nat) : (arr k l).size = l.length := by simp [arr]
theorem arr_at (k : IntKind) (l : List Nat) (i : Nat) (h : i < l.length) : (arr k l)[i]? = some (.int k (G l i : Nat)) := by
  unfold arr G
  rw [List.getElem?_toArray, List.getElem?_map, List.getElem?_eq_getElem h, List.getD_eq_getElem?_getD, List.getElem?_eq_getElem h]
  rfl
theorem arr_set (k : IntKind) (l : List Nat) (i x : Nat) : (arr k l).setIfInBounds i (.int k (x : Int)) = arr k (l.set i x) := by
  unfold arr
  rw [List.setIfInBounds_toArray, List.map_set]
theorem arr_one (k : IntKind) (l : List Nat) : (arr k l).all (·.oneCell') = true := by
  unfold arr
  rw [Array.all_eq_true_iff_forall_mem]
  intro v hv
  rw [List.mem_toArray, List.mem_map] at hv
  obtain ⟨n, _, rfl⟩ := hv
  rfl
end Go.Proofs.YtelhajoedlaohaaDoor.Sha
