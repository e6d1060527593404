/-
  Plain facts on numbers, bits and bytes: no program in sight.
  The blocks that a walk knows: a list of them, the newest first.
  Byte texts put one behind the other: what stands at a place of them.
-/
import Derived.Laws.BitsLemmas
import Derived.RowKit
import GoSem.Claim
import Derived.Laws.BytesArg
import Derived.Test.YtjicfkmpgogppaaH0
namespace Go.Proofs.Ytjicfkmpgogppaa.Plain
set_option linter.unusedVariables false
set_option linter.unusedSimpArgs false
open Go Go.RowKit Go.Proofs.YtjicfkmpgogppaaW.PrintWords Go.Proofs.YtjicfkmpgogppaaW.PrintLast Go.Proofs.YtjicfkmpgogppaaW.PrintMore


theorem wu64 (n : Int) : IntKind.u64.wrap n = n % 18446744073709551616 := by simp [IntKind.wrap, IntKind.bits, IntKind.signed]
theorem wi64 (n : Int) : IntKind.i64.wrap n = wrap64 n := by unfold wrap64; exact IntKind.wrap_i64 n
theorem bv64 (x : Int) (h0 : 0 ≤ x) (h1 : x < 18446744073709551616) : (BitVec.ofInt 64 x).toNat = x.toNat := by
  rw [BitVec.toNat_ofInt]; omega
theorem xor_u64 (x y : Int) (h0 : 0 ≤ x) (h1 : x < 18446744073709551616) (k0 : 0 ≤ y) (k1 : y < 18446744073709551616) : bits .xor .u64 x y = ((x.toNat ^^^ y.toNat : Nat) : Int) := by
  show IntKind.u64.wrap ((BitVec.ofInt 64 x ^^^ BitVec.ofInt 64 y).toNat : Int) = _
  rw [BitVec.toNat_xor, bv64 x h0 h1, bv64 y k0 k1]
  have := Nat.xor_lt_two_pow (x := x.toNat) (y := y.toNat) (n := 64) (by omega) (by omega)
  rw [wu64]; omega
theorem or_u64 (x y : Int) (h0 : 0 ≤ x) (h1 : x < 18446744073709551616) (k0 : 0 ≤ y) (k1 : y < 18446744073709551616) : bits .or .u64 x y = ((x.toNat ||| y.toNat : Nat) : Int) := by
  show IntKind.u64.wrap ((BitVec.ofInt 64 x ||| BitVec.ofInt 64 y).toNat : Int) = _
  rw [BitVec.toNat_or, bv64 x h0 h1, bv64 y k0 k1]
  have := Nat.or_lt_two_pow (x := x.toNat) (y := y.toNat) (n := 64) (by omega) (by omega)
  rw [wu64]; omega
theorem and_u64 (x y : Int) (h0 : 0 ≤ x) (h1 : x < 18446744073709551616) (k0 : 0 ≤ y) (k1 : y < 18446744073709551616) : bits .and .u64 x y = ((x.toNat &&& y.toNat : Nat) : Int) := by
  show IntKind.u64.wrap ((BitVec.ofInt 64 x &&& BitVec.ofInt 64 y).toNat : Int) = _
  rw [BitVec.toNat_and, bv64 x h0 h1, bv64 y k0 k1]
  have := Nat.and_lt_two_pow (y := y.toNat) x.toNat (n := 64) (by omega)
  rw [wu64]; omega
theorem nat_xor_ones (n k : Nat) (h : n < 2 ^ k) : n ^^^ (2 ^ k - 1) = 2 ^ k - 1 - n := by
  have e : (BitVec.ofNat k n ^^^ BitVec.allOnes k).toNat = 2 ^ k - 1 - n := by
    rw [BitVec.xor_allOnes, BitVec.toNat_not, BitVec.toNat_ofNat, Nat.mod_eq_of_lt h]
  rw [BitVec.toNat_xor, BitVec.toNat_ofNat, Nat.mod_eq_of_lt h, BitVec.toNat_allOnes] at e
  exact e
theorem xor64_zero (x : Int) (h0 : 0 ≤ x) (h1 : x < 18446744073709551616) : bits .xor .u64 x 0 = x := by
  rw [xor_u64 x 0 h0 h1 (by omega) (by omega)]; simp; omega
theorem xor64_ones (x : Int) (h0 : 0 ≤ x) (h1 : x < 18446744073709551616) : bits .xor .u64 x 18446744073709551615 = 18446744073709551615 - x := by
  rw [xor_u64 x _ h0 h1 (by omega) (by omega)]
  have := nat_xor_ones x.toNat 64 (by omega)
  have e : (18446744073709551615 : Int).toNat = 2 ^ 64 - 1 := rfl
  rw [e, this]; omega
theorem xori_zero (x : Int) (h0 : 0 ≤ x) (h1 : x < 9223372036854775808) : bits .xor .i64 x 0 = x := by
  show IntKind.i64.wrap ((BitVec.ofInt 64 x ^^^ BitVec.ofInt 64 0).toNat : Int) = _
  rw [BitVec.toNat_xor, bv64 x h0 (by omega), bv64 0 (by omega) (by omega), wi64]
  simp [wrap64]; omega
theorem xori_neg (x : Int) (h0 : 0 ≤ x) (h1 : x < 9223372036854775808) : bits .xor .i64 x (-1) = -x - 1 := by
  show IntKind.i64.wrap ((BitVec.ofInt 64 x ^^^ BitVec.ofInt 64 (-1)).toNat : Int) = _
  have e : (BitVec.ofInt 64 (-1)).toNat = 2 ^ 64 - 1 := by decide
  rw [BitVec.toNat_xor, bv64 x h0 (by omega), e, nat_xor_ones x.toNat 64 (by omega), wi64]
  unfold wrap64; omega
theorem and_one (x : Int) (h0 : 0 ≤ x) (h1 : x < 18446744073709551616) : bits .and .u64 x 1 = x % 2 := by
  rw [and_u64 x 1 h0 h1 (by omega) (by omega)]
  have e : (1 : Int).toNat = 1 := rfl
  rw [e, Nat.and_one_is_mod]; omega

theorem w64 {n : Int} (h : -9223372036854775808 ≤ n) (h' : n ≤ 9223372036854775807) : wrap64 n = n := by unfold wrap64; omega
/-! #### bytes of numbers -/
/-- the lowest w bytes of n, the highest first -/
def puts : Nat → Int → List Int
  | 0, _ => []
  | w + 1, n => puts w (n / 256) ++ [n % 256]
theorem puts_length (w : Nat) : ∀ n, (puts w n).length = w := by
  induction w with
  | zero => intro n; rfl
  | succ w ih => intro n; simp [puts, ih]
theorem pow8 (d : Nat) : (2 : Int) ^ (8 * (d : Int)).toNat = 256 ^ d := by
  rw [show (8 * (d : Int)).toNat = 8 * d by omega, Int.pow_mul]; rfl
theorem pow256 (i : Nat) (h : i ≤ 7) : (256 : Int) ^ i ≤ 256 ^ 7 := by
  have : i = 0 ∨ i = 1 ∨ i = 2 ∨ i = 3 ∨ i = 4 ∨ i = 5 ∨ i = 6 ∨ i = 7 := by omega
  rcases this with rfl | rfl | rfl | rfl | rfl | rfl | rfl | rfl <;> decide
theorem puts_front (w : Nat) : ∀ n : Int, puts (w + 1) n = (n / 256 ^ w % 256) :: puts w n := by
  induction w with
  | zero => intro n; simp [puts]
  | succ w ih =>
    intro n
    have e : puts (w + 1 + 1) n = puts (w + 1) (n / 256) ++ [n % 256] := rfl
    rw [e, ih, Int.ediv_ediv_of_nonneg (by decide), ← Int.pow_succ']
    rfl
theorem size_strOfNums (xs : List Int) : (strOfNums xs).size = xs.length := by
  show (Array.size _) = _
  simp
/-- what Put answers -/
def put (w n : Int) : ByteArray := strOfNums (puts (max 0 (min w 8)).toNat n)
theorem size_put (w n : Int) : (put w n).size = (max 0 (min w 8)).toNat := by unfold put; rw [size_strOfNums, puts_length]

/-- the number that stands in i bytes at a -/
def gets (s : ByteArray) (a : Int) : Nat → Int
  | 0 => 0
  | i + 1 => gets s a i * 256 + bt s (a + i)
theorem gets_lt (s : ByteArray) (a : Int) (i : Nat) : 0 ≤ gets s a i ∧ gets s a i < 256 ^ i := by
  induction i with
  | zero => simp [gets]
  | succ i ih =>
    have hb := bt_range s (a + i)
    simp only [gets, Int.pow_succ]
    omega
/-- what Get answers -/
def getR (s : ByteArray) (a w : Int) : Int × Int × Int :=
  if w < 1 ∨ w > 8 ∨ a < 0 ∨ a > s.size then (0, 0, 2) else if (s.size : Int) - a < w then (0, 0, 3) else (gets s a w.toNat, a + w, 0)

/-! #### numbers narrowed -/
theorem toList_loop (bs : ByteArray) (i : Nat) (r : List UInt8) : ByteArray.toList.loop bs i r = r.reverse ++ bs.data.toList.drop i := by
  induction h : bs.size - i generalizing i r with
  | zero =>
    unfold ByteArray.toList.loop
    have hs : bs.data.toList.length = bs.size := by simp
    rw [if_neg (by omega), List.drop_eq_nil_of_le (by omega)]; simp
  | succ d ih =>
    unfold ByteArray.toList.loop
    have hs : bs.data.toList.length = bs.size := by simp
    rw [if_pos (by omega), ih (i + 1) _ (by omega), List.drop_eq_getElem_cons (i := i) (by omega)]
    simp [ByteArray.get!]
    show bs.data[i]! = _
    rw [getElem!_pos bs.data i (by show i < bs.size; omega)]
theorem toList_data (bs : ByteArray) : bs.toList = bs.data.toList := by
  unfold ByteArray.toList; rw [toList_loop]; simp
/-! #### words turned -/
end Go.Proofs.Ytjicfkmpgogppaa.Plain
namespace Go.Proofs.Ytjicfkmpgogppaa.Sh
set_option linter.unusedVariables false
set_option linter.unusedSimpArgs false
open Go Go.RowKit Go.Proofs.YtjicfkmpgogppaaW.PrintWords Go.Proofs.YtjicfkmpgogppaaW.PrintLast Go.Proofs.YtjicfkmpgogppaaW.PrintMore
def Bl (a b : World) : Prop := Below a.heap.size a b
theorem Bl.refl (a : World) : Bl a a := Below.refl _ _
theorem Bl.trans {a b c : World} (h : Bl a b) (k : Bl b c) : Bl a c := below_then h h.size k
theorem Bl.alloc {a b : World} (h : Bl a b) (o : Obj) : Bl a (b.alloc o) := below_alloc h o
theorem new_size (w : World) (o : Obj) : (w.alloc o).heap.size = w.heap.size + 1 := Array.size_push _
/-- a block: its number, its cells, its type -/
abbrev Blk := Nat × Array Value × TypeId
/-- from w0 on the walk has come to w; these blocks of its own hold these cells -/
structure St (w0 w : World) (L : List Blk) : Prop where
  hb : Below w0.heap.size w0 w
  bl : ∀ x ∈ L, w.heap[x.1]? = some (.cells x.2.1 x.2.2 (0, 0)) ∧ w0.heap.size ≤ x.1
  so : L.Pairwise (fun x y => y.1 < x.1)
section
variable {w0 w w1 : World} {L L' : List Blk} {g g' : Nat} {cs cs' : Array Value} {t t' : TypeId}
theorem St.start (w : World) : St w w [] := ⟨Below.refl _ _, fun _ h => absurd h List.not_mem_nil, List.Pairwise.nil⟩
theorem St.mem (h : St w0 w L) (n : Nat) (e : L[n]? = some (g, cs, t)) : w.heap[g]? = some (.cells cs t (0, 0)) := (h.bl _ (List.mem_of_getElem? e)).1
theorem St.ge (h : St w0 w L) (n : Nat) (e : L[n]? = some (g, cs, t)) : w0.heap.size ≤ g := (h.bl _ (List.mem_of_getElem? e)).2
theorem St.lt (h : St w0 w L) (n : Nat) (e : L[n]? = some (g, cs, t)) : g < w.heap.size := blk_lt (h.mem n e)
theorem St.c (h : St w0 w L) (n : Nat) (e : L[n]? = some (g, cs, t)) (i : Nat) : w.cell? ⟨g, i, none⟩ = cs[i]? := blk_cell (h.mem n e) i
theorem St.q (h : St w0 w L) (n : Nat) (e : L[n]? = some (g, cs, t)) (i : Nat) : w.frozen? ⟨g, i, none⟩ = false := blk_frozen (h.mem n e) i
theorem St.gt (h : St w0 w L) (n m : Nat) (hnm : n < m) (e : L[n]? = some (g, cs, t)) (e' : L[m]? = some (g', cs', t')) : g' < g := by
  obtain ⟨h1, e1⟩ := List.getElem?_eq_some_iff.1 e
  obtain ⟨h2, e2⟩ := List.getElem?_eq_some_iff.1 e'
  have := List.pairwise_iff_getElem.1 h.so n m h1 h2 hnm
  rw [e1, e2] at this
  exact this
theorem St.alloc (h : St w0 w L) (cs : Array Value) (t : TypeId) : St w0 (w.alloc (.cells cs t)) ((w.heap.size, cs, t) :: L) := by
  refine ⟨below_alloc h.hb _, fun x hx => ?_, List.pairwise_cons.2 ⟨fun y hy => blk_lt (h.bl y hy).1, h.so⟩⟩
  rcases List.mem_cons.1 hx with rfl | hx
  · exact ⟨blk_new _ _, h.hb.size⟩
  · exact ⟨blk_alloc (h.bl x hx).1 _, (h.bl x hx).2⟩
theorem St.allocN (h : St w0 w L) (cs : Array Value) (t : TypeId) (g : Nat) (hg : w.heap.size = g) : St w0 (w.alloc (.cells cs t)) ((g, cs, t) :: L) := hg ▸ h.alloc cs t
theorem St.go (h : St w0 w L) (hq : Bl w w1) : St w0 w1 L := ⟨below_then h.hb h.hb.size hq, fun x hx => ⟨blk_below (h.bl x hx).1 hq, (h.bl x hx).2⟩, h.so⟩
theorem St.drew (h : St w0 w L) : St w0 w.drew L := ⟨below_drew h.hb, h.bl, h.so⟩
theorem St.grown (h : St w0 w L) (hb : Below w0.heap.size w0 w1) {row : Option Nat} (hg : w.grownBy w1 row) (hn : ∀ x ∈ L, some x.1 ≠ row) : St w0 w1 L := ⟨hb, fun x m => ⟨blk_grown (h.bl x m).1 hg (hn x m), (h.bl x m).2⟩, h.so⟩
theorem St.set (h : St w0 w L) (n i : Nat) (v : Value) (e : L[n]? = some (g, cs, t)) (hL : L.set n (g, cs.setIfInBounds i v, t) = L') : St w0 (w.setCell ⟨g, i, none⟩ v) L' := by
  subst hL
  obtain ⟨h1, e1⟩ := List.getElem?_eq_some_iff.1 e
  refine ⟨below_set h.hb (h.ge n e), fun x hx => ?_, ?_⟩
  · obtain ⟨m, hm, rfl⟩ := List.mem_iff_getElem.1 hx
    rw [List.length_set] at hm
    by_cases c : n = m
    · subst c
      rw [List.getElem_set_self]
      exact ⟨blk_put (h.mem n e) i v rfl, h.ge n e⟩
    · rw [List.getElem_set_ne c]
      have hx := h.bl _ (List.getElem_mem hm)
      refine ⟨blk_far hx.1 ?_ v, hx.2⟩
      rcases Nat.lt_or_gt_of_ne c with c | c
      · have := List.pairwise_iff_getElem.1 h.so n m h1 hm c
        rw [e1] at this
        exact Nat.ne_of_lt this
      · have := List.pairwise_iff_getElem.1 h.so m n hm h1 c
        rw [e1] at this
        exact Nat.ne_of_gt this
  · refine List.pairwise_iff_getElem.2 fun i1 j1 hi hj hij => ?_
    rw [List.length_set] at hi hj
    have := List.pairwise_iff_getElem.1 h.so i1 j1 hi hj hij
    rw [List.getElem_set, List.getElem_set]
    split <;> split <;> simp_all
/-- a block's cells, from i on, stored one by one -/
def sets (w : World) (g : Nat) : Nat → List Value → World
  | _, [] => w
  | i, v :: vs => sets (w.setCell ⟨g, i, none⟩ v) g (i + 1) vs
def upd (cs : Array Value) : Nat → List Value → Array Value
  | _, [] => cs
  | i, v :: vs => upd (cs.setIfInBounds i v) (i + 1) vs
theorem sets_o {g k : Nat} (hk : k ≠ g) : ∀ (vs : List Value) (i : Nat) (w : World), (sets w g i vs).heap[k]? = w.heap[k]?
  | [], _, _ => rfl
  | v :: vs, i, w => (sets_o hk vs (i + 1) _).trans (Below.heap_setCell w ⟨g, i, none⟩ v k hk)
theorem set_set_ (L : List Blk) (n : Nat) (a b : Blk) : (L.set n a).set n b = L.set n b := by simp
theorem St.sets' (t : TypeId) (n : Nat) : ∀ (vs : List Value) (i : Nat) (w : World) (L : List Blk) (cs : Array Value), St w0 w L → L[n]? = some (g, cs, t) → St w0 (sets w g i vs) (L.set n (g, upd cs i vs, t))
  | [], i, w, L, cs, h, e => by
    have : L.set n (g, cs, t) = L := by
      obtain ⟨h1, e1⟩ := List.getElem?_eq_some_iff.1 e
      rw [← e1, List.set_getElem_self]
    show St w0 w (L.set n (g, cs, t))
    rw [this]; exact h
  | v :: vs, i, w, L, cs, h, e => by
    have h1 := h.set n i v e rfl
    have e1 : (L.set n (g, cs.setIfInBounds i v, t))[n]? = some (g, cs.setIfInBounds i v, t) := by
      rw [List.getElem?_set_self (List.getElem?_eq_some_iff.1 e).1]
    have := St.sets' t n vs (i + 1) _ _ _ h1 e1
    rw [set_set_] at this
    exact this
theorem upd_all : ∀ (vs pre old : List Value), old.length = vs.length → upd (pre ++ old).toArray pre.length vs = (pre ++ vs).toArray
  | [], pre, old, h => by
    obtain rfl := List.eq_nil_of_length_eq_zero h
    rfl
  | v :: vs, pre, [], h => by simp at h
  | v :: vs, pre, x :: old, h => by
    have e : ((pre ++ x :: old).toArray).setIfInBounds pre.length v = ((pre ++ [v]) ++ old).toArray := by
      rw [List.setIfInBounds_toArray]
      congr 1
      rw [List.set_append_right _ _ (Nat.le_refl _), Nat.sub_self]
      simp
    have ih := upd_all vs (pre ++ [v]) old (by simpa using h)
    rw [List.length_append] at ih
    show upd (((pre ++ x :: old).toArray).setIfInBounds pre.length v) (pre.length + 1) vs = _
    rw [e]
    refine ih.trans ?_
    simp
theorem St.sets (h : St w0 w L) (n : Nat) (vs : List Value) (e : L[n]? = some (g, cs, t)) (hl : cs.size = vs.length) (hL : L.set n (g, vs.toArray, t) = L') : St w0 (Sh.sets w g 0 vs) L' := by
  have := St.sets' t n vs 0 w L cs h e
  have e2 : upd cs 0 vs = vs.toArray := by
    have := upd_all vs [] cs.toList (by rw [Array.length_toList]; exact hl)
    simpa using this
  rw [e2, hL] at this
  exact this
end
end Go.Proofs.Ytjicfkmpgogppaa.Sh
namespace Go.Proofs.Ytjicfkmpgogppaa.Plain
set_option linter.unusedVariables false
set_option linter.unusedSimpArgs false
open Go Go.RowKit Go.Proofs.YtjicfkmpgogppaaW.PrintWords Go.Proofs.YtjicfkmpgogppaaW.PrintLast Go.Proofs.YtjicfkmpgogppaaW.PrintMore
theorem data_append (A B : ByteArray) : (A ++ B).data.toList = A.data.toList ++ B.data.toList := by
  rw [ByteArray.data_append, Array.toList_append]
end Go.Proofs.Ytjicfkmpgogppaa.Plain
