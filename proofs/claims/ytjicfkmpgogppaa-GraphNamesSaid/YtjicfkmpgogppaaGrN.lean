/-
  Names turned: what is wrong with a workflow, and which nodes wait for which, is as it was. Plain.
-/
import Derived.Test.YtjicfkmpgogppaaGrM
import Derived.Test.YtjicfkmpgogppaaBytes
namespace Go.Proofs.Ytjicfkmpgogppaa.Gr
set_option linter.unusedVariables false
set_option linter.unusedSimpArgs false
open Go Go.RowKit Go.Proofs.Ytjicfkmpgogppaa.Plain Go.Proofs.Ytjicfkmpgogppaa.PG Go.Proofs.YtjicfkmpgogppaaW.PrintWords Go.Proofs.YtjicfkmpgogppaaW.PrintLast Go.Proofs.YtjicfkmpgogppaaW.PrintMore
/-- a small letter k letters on -/
def tb (k c : Int) : Int := if 97 ≤ c ∧ c ≤ 122 then 97 + (c - 97 + k) % 26 else c
def turn (k : Int) (s : ByteArray) : ByteArray := strOfNums ((s.data.toList.map fun b => (b.toNat : Int)).map (tb k))
theorem tb_range {k c : Int} (h : 0 ≤ c ∧ c < 256) : 0 ≤ tb k c ∧ tb k c < 256 := by
  unfold tb
  split <;> omega
theorem tb_inj {k a b : Int} (h : tb k a = tb k b) : a = b := by
  unfold tb at h
  split at h <;> split at h <;> omega
theorem tb_isL (k c : Int) : Nm.isL (tb k c) = Nm.isL c := by
  unfold Nm.isL tb
  rw [Bool.eq_iff_iff, decide_eq_true_iff, decide_eq_true_iff]
  split <;> omega
theorem turn_data (k : Int) (s : ByteArray) : (turn k s).data.toList = s.data.toList.map fun b => UInt8.ofNat (tb k b.toNat).toNat := by
  have e : (turn k s).data.toList = ((s.data.toList.map fun b => (b.toNat : Int)).map (tb k)).map fun n => UInt8.ofNat n.toNat := rfl
  rw [e, List.map_map, List.map_map]
  rfl
theorem turn_size (k : Int) (s : ByteArray) : (turn k s).size = s.size := by
  unfold turn
  rw [size_strOfNums, List.length_map, List.length_map, Array.length_toList]
  rfl
theorem byte_tb (k : Int) (b : UInt8) : ((UInt8.ofNat (tb k b.toNat).toNat).toNat : Int) = tb k b.toNat := by
  have h := tb_range (k := k) (c := (b.toNat : Int)) (by have := UInt8.toNat_lt b; omega)
  rw [UInt8.toNat_ofNat']
  omega
theorem turn_eq (k : Int) (a b : ByteArray) : (turn k a).toList = (turn k b).toList ↔ a.toList = b.toList := by
  rw [toList_data, toList_data, toList_data, toList_data, turn_data, turn_data]
  constructor
  · intro h
    refine (List.map_inj_right (f := fun b : UInt8 => UInt8.ofNat (tb k b.toNat).toNat) ?_).1 h
    intro x y e
    have e2 := congrArg (fun z : UInt8 => (z.toNat : Int)) e
    simp only [byte_tb] at e2
    have e3 := tb_inj e2
    exact UInt8.toNat_inj.1 (by omega)
  · intro h; rw [h]
theorem turn_bt (k : Int) (s : ByteArray) (j : Nat) (h : j < s.size) : bt (turn k s) j = tb k (bt s j) := by
  rw [Plain.bt_data _ _ (by rw [turn_size]; exact h), Plain.bt_data _ _ h, turn_data]
  have hl : j < s.data.toList.length := by rw [Array.length_toList]; exact h
  rw [List.getD_eq_getElem?_getD, List.getElem?_map, List.getD_eq_getElem?_getD, List.getElem?_eq_getElem hl]
  simp only [Option.map_some, Option.getD_some]
  exact byte_tb k _
theorem turn_named (k : Int) (s : ByteArray) : Nm.named (turn k s) = Nm.named s := by
  unfold Nm.named
  rw [turn_size]
  congr 1
  rw [Bool.eq_iff_iff, List.all_eq_true, List.all_eq_true]
  constructor
  · intro h j hj
    have := h j hj
    rwa [turn_bt k s j (List.mem_range.1 hj), tb_isL] at this
  · intro h j hj
    rw [turn_bt k s j (List.mem_range.1 hj), tb_isL]
    exact h j hj
/-- a node under another name, with other names of those it waits for -/
def ren (k : Int) (x : A_) : A_ := ⟨turn k x.f0, x.f1.map (turn k), x.f2, x.f3, x.f4, x.f5⟩
theorem fd_ren (k : Int) (s : ByteArray) : ∀ (l : List A_) (i : Int), Fi.findN (l.map (ren k)) (turn k s) i = Fi.findN l s i
  | [], _ => rfl
  | x :: l, i => by
    rw [List.map_cons]
    unfold Fi.findN
    rw [fd_ren k s l (i + 1)]
    have e : (ren k x).f0.toList = (turn k s).toList ↔ x.f0.toList = s.toList := turn_eq k x.f0 s
    by_cases h : x.f0.toList = s.toList
    · rw [if_pos h, if_pos (e.2 h)]
    · rw [if_neg h, if_neg (fun g => h (e.1 g))]
theorem nd_ren (k : Int) (l : List A_) (i : Nat) (h : i < l.length) : nd (l.map (ren k)) i = ren k (nd l i) := by
  unfold nd
  rw [List.getD_eq_getElem?_getD, List.getElem?_map, List.getD_eq_getElem?_getD, List.getElem?_eq_getElem h]
  rfl
theorem mk_ren (k : Int) (l : List A_) : ∀ (ds : List ByteArray) (m : Nat), mk (l.map (ren k)) (ds.map (turn k)) m = mk l ds m
  | [], m => rfl
  | d :: ds, m => by
    have e1 : mk (l.map (ren k)) ((d :: ds).map (turn k)) m = mk (l.map (ren k)) (ds.map (turn k)) (if 0 ≤ fd (l.map (ren k)) (turn k d) then m ||| 2 ^ (fd (l.map (ren k)) (turn k d)).toNat else m) := rfl
    have e2 : mk l (d :: ds) m = mk l ds (if 0 ≤ fd l d then m ||| 2 ^ (fd l d).toNat else m) := rfl
    have e3 : fd (l.map (ren k)) (turn k d) = fd l d := fd_ren k d l 0
    rw [e1, e2, e3, mk_ren k l ds]
theorem msk_ren (k : Int) (l : List A_) (i : Nat) (h : i < l.length) : msk (l.map (ren k)) i = msk l i := by
  unfold msk
  rw [nd_ren k l i h]
  exact mk_ren k l _ 0
theorem any_ren (k : Int) (s : ByteArray) (ds : List ByteArray) : ((ds.map (turn k)).any fun d => d.toList == (turn k s).toList) = ds.any fun d => d.toList == s.toList := by
  rw [List.any_map]
  congr 1
  funext d
  show ((turn k d).toList == (turn k s).toList) = _
  rw [Bool.eq_iff_iff, beq_iff_eq, beq_iff_eq]
  exact turn_eq k d s
theorem adj_ren (k : Int) (l : List A_) (i j : Nat) (hi : i < l.length) (hj : j < l.length) : adj (l.map (ren k)) i j = adj l i j := by
  unfold adj
  rw [nd_ren k l i hi, nd_ren k l j hj]
  exact any_ren k _ _
theorem nodeErr_ren (k : Int) (x : A_) : nodeErr (ren k x) = nodeErr x := by
  unfold nodeErr ren
  simp only [List.length_map]
theorem e1_ren (k : Int) (l : List A_) (i : Nat) (h : i < l.length) : e1 (l.map (ren k)) i = e1 l i := by
  unfold e1
  rw [nd_ren k l i h, nodeErr_ren]
  have e3 : fd (l.map (ren k)) (ren k (nd l i)).f0 = fd l (nd l i).f0 := fd_ren k _ l 0
  have e4 : Nm.named (ren k (nd l i)).f0 = Nm.named (nd l i).f0 := turn_named k _
  rw [e3, e4]
theorem okF_congr {f g : Nat → Bool} : ∀ (d k : Nat), (∀ j, k ≤ j → j < k + d → f j = g j) → okF f d k = okF g d k
  | 0, _, _ => rfl
  | d + 1, k, h => by
    unfold okF
    rw [h k (Nat.le_refl _) (by omega), okF_congr d (k + 1) (fun j h1 h2 => h j (by omega) (by omega))]
theorem dep_ren (k : Int) (ds : List ByteArray) (j : Nat) (h : j < ds.length) : dep (ds.map (turn k)) j = turn k (dep ds j) := by
  unfold dep
  rw [List.getD_eq_getElem?_getD, List.getElem?_map, List.getD_eq_getElem?_getD, List.getElem?_eq_getElem h]
  rfl
theorem depsOk_ren (k : Int) (l : List A_) (ds : List ByteArray) : depsOk (l.map (ren k)) (ds.map (turn k)) = depsOk l ds := by
  unfold depsOk
  rw [List.length_map]
  refine okF_congr _ _ (fun j _ hj => ?_)
  have hj' : j < ds.length := by omega
  unfold depOk
  rw [dep_ren k ds j hj']
  have e3 : fd (l.map (ren k)) (turn k (dep ds j)) = fd l (dep ds j) := fd_ren k _ l 0
  rw [e3]
  congr 1
  refine okF_congr _ _ (fun m _ hm => ?_)
  rw [dep_ren k ds m (by omega)]
  rw [Bool.eq_iff_iff, bne_iff_ne, bne_iff_ne, ne_eq, ne_eq, turn_eq]
theorem e2_ren (k : Int) (l : List A_) (i : Nat) (h : i < l.length) : e2 (l.map (ren k)) i = e2 l i := by
  unfold e2
  rw [nd_ren k l i h]
  have e : depsOk (l.map (ren k)) (ren k (nd l i)).f1 = depsOk l (nd l i).f1 := depsOk_ren k l _
  rw [e]
theorem P_congr {w v : Nat → Nat → Bool} {n : Nat} (h : ∀ i j, i < n → j < n → w i j = v i j) : ∀ (k i j : Nat), k ≤ n → i < n → j < n → P w k i j = P v k i j
  | 0, i, j, _, hi, hj => h i j hi hj
  | k + 1, i, j, hk, hi, hj => by
    rw [P_succ, P_succ, P_congr h k i j (by omega) hi hj, P_congr h k i k (by omega) hi (by omega), P_congr h k k j (by omega) (by omega) hj]
theorem e3_ren (k : Int) (l : List A_) (i : Nat) (h : i < l.length) : e3 (l.map (ren k)) i = e3 l i := by
  unfold e3
  rw [List.length_map, P_congr (fun a b ha hb => adj_ren k l a b ha hb) l.length i i (Nat.le_refl _) h h]
/-- what is wrong is as it was -/
theorem chk_ren (k : Int) (nm : ByteArray) (l : List A_) : chk nm (l.map (ren k)) = chk nm l := by
  unfold chk
  rw [List.length_map, scan_congr _ _ (fun j _ hj => e1_ren k l j (by omega)), scan_congr _ _ (fun j _ hj => e2_ren k l j (by omega)), scan_congr _ _ (fun j _ hj => e3_ren k l j (by omega))]
/-- which nodes wait for which is as it was -/
theorem masks_ren (k : Int) (l : List A_) : (List.range (l.map (ren k)).length).map (msk (l.map (ren k))) = (List.range l.length).map (msk l) := by
  rw [List.length_map]
  exact List.map_congr_left fun i hi => msk_ren k l i (List.mem_range.1 hi)
end Go.Proofs.Ytjicfkmpgogppaa.Gr
