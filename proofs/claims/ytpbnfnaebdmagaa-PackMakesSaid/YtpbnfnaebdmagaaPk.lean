/-
  pack.put and pack.Put: what they come to.
  pack.Put, pack.All: what they come to.
-/
import Derived.Test.YtpbnfnaebdmagaaPXx2
import Derived.Test.YtpbnfnaebdmagaaBld
import Derived.Test.YtpbnfnaebdmagaaLow
import Derived.LoopTactic
import Derived.Outline
import Derived.Lib.Hide
namespace Go.Proofs.Ytpbnfnaebdmagaa.Pk
set_option linter.unusedVariables false
set_option linter.unusedSimpArgs false
open Go Go.RowKit Go.Proofs.Ytpbnfnaebdmagaa.Plain Go.Proofs.Ytpbnfnaebdmagaa.WordsA Go.Proofs.Ytpbnfnaebdmagaa.Bld Go.Proofs.Ytpbnfnaebdmagaa.PX Go.Proofs.YtpbnfnaebdmagaaW.PrintWords Go.Proofs.YtpbnfnaebdmagaaW.PrintLast Go.Proofs.YtpbnfnaebdmagaaW.PrintMore
/-- how many bytes a number has -/
def wdl : Nat → Int → Nat
  | 0, _ => 0
  | k + 1, n => if n > 0 then wdl k (n / 256) + 1 else 0
def foldR (n : Int) : Int := if 0 ≤ n then 2 * n else -2 * n - 1
def intB (n : Int) : ByteArray := ((⟨#[1]⟩ : ByteArray) ++ put 1 (wdl 9 (foldR n))) ++ put (wdl 9 (foldR n)) (foldR n)
def putL (f : S26 → Int → Option (ByteArray × Int)) : List S26 → Int → Option (ByteArray × Int)
  | [], _ => some (⟨#[]⟩, 0)
  | x :: r, d => (f x d).bind fun t => if t.2 = 0 then ((putL f r d).bind fun u => some (t.1 ++ u.1, u.2)) else some (t.1, t.2)
def headB (n : Nat) (u : ByteArray) : ByteArray := ((⟨#[3]⟩ : ByteArray) ++ put 2 n) ++ u
def pack_put.f : Nat → Int → Int → ByteArray → List S26 → Int → Option (ByteArray × Int)
  | 0, _, _, _, _, _ => none
  | k + 1, a0, a1, a2, l3, d =>
    if a0 = 0 then (if -9223372036854775808 ≤ a1 ∧ a1 ≤ 9223372036854775807 then some (intB a1, 0) else none)
    else if a0 = 1 then (if (a2.size : Int) > 4096 then some (⟨#[]⟩, 5) else some ((⟨#[2]⟩ : ByteArray) ++ (textR a2).1, 0))
    else if a0 = 2 then (if (l3.length : Int) > 256 then some (⟨#[]⟩, 5) else if d ≥ 8 then some (⟨#[]⟩, 5)
      else (putL (fun x e => pack_put.f k x.f0 x.f1 x.f2 x.f3 e) l3 (wrap64 (d + 1))).bind fun u => some (headB l3.length u.1, u.2))
    else some (⟨#[]⟩, 2)
theorem wdl_step (k : Nat) (n : Int) (h : n > 0) : wdl (k + 1) n = wdl k (n / 256) + 1 := by simp [wdl, h]
theorem wdl_more (k : Nat) : ∀ n : Int, n < 256 ^ k → wdl (k + 1) n = wdl k n := by
  induction k with
  | zero => intro n h; simp at h; simp [wdl]; omega
  | succ k ih =>
    intro n h
    by_cases c : n > 0
    · rw [wdl_step _ _ c, wdl_step _ _ c, ih]
      rw [Int.pow_succ] at h
      omega
    · simp [wdl, c]
theorem byteCells_strCells (s : ByteArray) : Lib.strCells s = Lib.byteCells s.data.toList := by
  simp [Lib.strCells, Lib.byteCells]
theorem bld_below {T e : TypeId} {B b : Nat} {bs : List Value} {w w1 : World} (h : Lib.IsBuilder T e B b bs w) (hb : Below w.heap.size w w1) : Lib.IsBuilder T e B b bs w1 := by
  have key : ∀ {p : Value}, Lib.BuilderAt T e B b p bs w → Lib.BuilderAt T e B b p bs w1 := by
    rintro p ⟨hB, v, hbk, hown, hne⟩
    exact ⟨hB, v, (hb.block b (blk_lt hbk)).trans hbk, pw_own_below hown hb, hne⟩
  rcases h with h | h
  · exact .inl (key h)
  · exact .inr (key h)
theorem bld_alloc {T e : TypeId} {B b : Nat} {bs : List Value} {w : World} (h : Lib.IsBuilder T e B b bs w) (o : Obj) : Lib.IsBuilder T e B b bs (w.alloc o) := bld_below h (below_alloc (Below.refl _ _) o)
theorem bld_drewN {T e : TypeId} {B b : Nat} {bs : List Value} {w : World} (h : Lib.IsBuilder T e B b bs w) (n : Nat) : Lib.IsBuilder T e B b bs (w.drewN n) := bld_below h (pw_below_drewN (Below.refl _ _) n)
theorem bld_lt {T e : TypeId} {B b : Nat} {bs : List Value} {w : World} (h : Lib.IsBuilder T e B b bs w) : b < w.heap.size := by
  rcases h with h | h <;> exact h.lt
theorem alloc_new (w : World) (o : Obj) : (w.alloc o).heap[w.heap.size]? = some o := by
  show (w.heap.push o)[w.heap.size]? = _
  simp
theorem below_step' {w0 w w1 : World} (h : Below w0.heap.size w0 w) (hb : Below w.heap.size w w1) : Below w0.heap.size w0 w1 := below_then h h.size hb
set_option maxHeartbeats 4000000 in
set_option maxRecDepth 100000 in
theorem put_int (a1 : Int) (a2 : ByteArray) (A3 : Option Addr) (n3 c3 : Nat) (d : Int) (bs : List UInt8) (b : Nat) (w0 w : World) (hn : -9223372036854775808 ≤ a1 ∧ a1 ≤ 9223372036854775807)
    (HB : Below w0.heap.size w0 w) (hI : Lib.IsBuilder 60 5 w0.heap.size b (Lib.byteCells bs) w) (hlen : bs.length + (intB a1).size ≤ 140737488355328) :
    Calls Try.prog 22 #[.pointer (some ⟨b, 0, none⟩), .agg #[.int .i64 0, .int .i64 a1, .string a2, .slice A3 n3 c3], .int .i64 d] w fun e w' =>
      e = .returned (.int .i64 0) ∧ Lib.IsBuilder 60 5 w0.heap.size b (Lib.byteCells (bs ++ (intB a1).data.toList)) w' ∧ Below w0.heap.size w0 w' ∧ KeepT b w w' := by
  have hF : Hid (words_Fold.f a1 = some (foldR a1)) := Lib.hid (fold_some hn.1 hn.2)
  have hF0 : 0 ≤ foldR a1 := by unfold foldR; split <;> omega
  have hF1 : foldR a1 < 18446744073709551616 := by unfold foldR; split <;> omega
  have hL : Hid (bs.length + (intB a1).size ≤ 140737488355328) := Lib.hid hlen
  have hI' : Hid (Lib.IsBuilder 60 5 w0.heap.size b (Lib.byteCells bs) w) := Lib.hid hI
  have HB' : Hid (Below w0.heap.size w0 w) := Lib.hid HB
  have hO : Hid (intB a1 = ((⟨#[1]⟩ : ByteArray) ++ put 1 (wdl 9 (foldR a1))) ++ put (wdl 9 (foldR a1)) (foldR a1)) := Lib.hid rfl
  clear hlen hI HB
  generalize foldR a1 = F at *
  have hu := Try.underlying26
  go_enter Try.func22, Try.ntmps22
  go_wp2_with (go_at_call 31; (with_reducible refine (words_Fold.calls a1 F _ hF.out).mono ?_); rintro e w' ⟨rfl, ⟨nd, rfl⟩⟩)
  go_loop [8, 9] (fun c m => ∃ (i : Nat) (x : Int), c = .int .i64 i ∧ m = .int .u64 x ∧ 0 ≤ x ∧ x < 256 ^ (8 - i) ∧ i ≤ 8 ∧ i + wdl (9 - i) x = wdl 9 F) (fun _ m => (intOf m).toNat)
  case atStart => exact ⟨0, F, rfl, rfl, hF0, hF1, by omega, by simp⟩
  case round =>
    obtain ⟨i, x, rfl, rfl, hx0, hx1, hi, hw⟩ := hrel
    by_cases hx : 0 < x
    · have hi8 : i < 8 := by
        rcases Nat.lt_or_ge i 8 with h | h
        · exact h
        · rw [show 8 - i = 0 by omega] at hx1; simp at hx1; omega
      have hw' : Hid (i + 1 + wdl (9 - (i + 1)) (x / 256) = wdl 9 F) := by
        refine Lib.hid ?_
        rw [show 9 - i = (9 - (i + 1)) + 1 by omega, wdl_step _ _ hx] at hw; omega
      have hx1' : Hid (x / 256 < 256 ^ (8 - (i + 1))) := by
        refine Lib.hid ?_
        rw [show 8 - i = (8 - (i + 1)) + 1 by omega, Int.pow_succ] at hx1; omega
      clear hw hx1
      go_wp2
      go_round
      case rel => exact ⟨i + 1, x / 256, by go_num, rfl, by omega, hx1'.out, by omega, hw'.out⟩
      case measure => simp [intOf]; omega
    · obtain rfl : x = 0 := by omega
      have hw' : i = wdl 9 F := by
        rw [← hw]
        cases h9 : 9 - i <;> simp [wdl]
      clear hw hx hx1
      subst hw'
      have hw8 : wdl 9 F ≤ 8 := hi
      have hP1 : Hid (words_Put.f 20 1 (wdl 9 F : Nat) = some (put 1 (wdl 9 F : Nat))) := Lib.hid (put_some 20 (by omega) (by omega) (by omega))
      have hP2 : Hid (words_Put.f 20 (wdl 9 F : Nat) F = some (put (wdl 9 F : Nat) F)) := Lib.hid (put_some 20 hF0 hF1 (by omega))
      have z1 : (put 1 (wdl 9 F : Nat)).size = 1 := by rw [size_put]; rfl
      have z2 : (put (wdl 9 F : Nat) F).size = wdl 9 F := by rw [size_put]; omega
      have t1 : 1 + (put 1 (wdl 9 F : Nat)).size ≤ 9223372036854775807 := by omega
      have t2 : 1 + (put 1 (wdl 9 F : Nat)).size + (put (wdl 9 F : Nat) F).size ≤ 9223372036854775807 := by omega
      clear z1 z2
      have t1b := eq_true t1
      have t1c : (9223372036854775807 < 1 + (put 1 (wdl 9 F : Nat)).size) = False := eq_false (Nat.not_lt.2 t1)
      have t2b := eq_true t2
      have t2c : (9223372036854775807 < 1 + (put 1 (wdl 9 F : Nat)).size + (put (wdl 9 F : Nat) F).size) = False := eq_false (Nat.not_lt.2 t2)
      clear t1 t2
      go_wp2_with (first
        | (go_at_call 33; (with_reducible refine (words_Put.calls 20 1 (wdl 9 F : Nat) _ _ hP1.out).mono ?_); rintro e w1 ⟨rfl, hb1⟩; have HB1 := Aside0.mk (below_step' (pw_below_drewN (below_alloc HB'.out _) nd) hb1); have HI1 := Aside0.mk (bld_below (bld_drewN (bld_alloc hI'.out _) nd) hb1); have HX1 := Aside0.mk (below_step' (pw_below_drewN (below_alloc (Below.refl w.heap.size w) _) nd) hb1); clear hb1)
        | (go_at_call 33; (with_reducible refine (words_Put.calls 20 (wdl 9 F : Nat) F _ _ hP2.out).mono ?_); rintro e w2 ⟨rfl, hb2⟩; have HB2 := Aside0.mk (below_step' HB1.out hb2); have HI2 := Aside0.mk (bld_below HI1.out hb2); have HX2 := Aside0.mk (below_step' HX1.out hb2); clear hb2)
        | (go_at_call 32; (with_reducible refine (writeString _ b _ (((⟨#[1]⟩ : ByteArray) ++ put 1 (wdl 9 F : Nat)) ++ put (wdl 9 F : Nat) F) _ HI2.out ?c1 HB2.out.size).mono ?_); (case c1 => rw [← hO.out, Lib.byteCells_length]; exact hL.out); rintro e w3 ⟨rfl, hI3, hb3, hk3⟩; have HI3 := Aside0.mk hI3; have HB3 := Aside0.mk hb3; have HK3 := Aside0.mk hk3; clear hI3 hb3 hk3))
      go_ret
      have e := HI3.out
      rw [← hO.out, byteCells_strCells] at e
      have e2 : Lib.byteCells (bs ++ (intB a1).data.toList) = Lib.byteCells bs ++ Lib.byteCells (intB a1).data.toList := by simp [Lib.byteCells]
      exact ⟨rfl, Or.inr (by rw [e2]; exact e), HB2.out.trans HB3.out, (KeepT.below HX2.out).trans HK3.out⟩
set_option maxHeartbeats 4000000 in
set_option maxRecDepth 100000 in
theorem put_text_long (a1 : Int) (a2 : ByteArray) (A3 : Option Addr) (n3 c3 : Nat) (d : Int) (bs : List UInt8) (b : Nat) (w0 w : World) (h : 4096 < a2.size)
    (HB : Below w0.heap.size w0 w) (hI : Lib.IsBuilder 60 5 w0.heap.size b (Lib.byteCells bs) w) :
    Calls Try.prog 22 #[.pointer (some ⟨b, 0, none⟩), .agg #[.int .i64 1, .int .i64 a1, .string a2, .slice A3 n3 c3], .int .i64 d] w fun e w' =>
      e = .returned (.int .i64 5) ∧ Lib.IsBuilder 60 5 w0.heap.size b (Lib.byteCells (bs ++ [])) w' ∧ Below w0.heap.size w0 w' ∧ KeepT b w w' := by
  have h1 : decide (4096 < a2.size) = true := decide_eq_true h
  have h2 : decide ((4096 : Int) < (a2.size : Int)) = true := decide_eq_true (by omega)
  clear h
  have hI' : Hid (Lib.IsBuilder 60 5 w0.heap.size b (Lib.byteCells bs) w) := Lib.hid hI
  have HB' : Hid (Below w0.heap.size w0 w) := Lib.hid HB
  clear hI HB
  have hu := Try.underlying26
  go_enter Try.func22, Try.ntmps22
  go_wp2
  go_ret
  refine ⟨rfl, by rw [List.append_nil]; exact bld_alloc hI'.out _, below_alloc HB'.out _, KeepT.below (below_alloc (Below.refl w.heap.size w) _)⟩
set_option maxHeartbeats 4000000 in
set_option maxRecDepth 100000 in
theorem put_text (a1 : Int) (a2 : ByteArray) (A3 : Option Addr) (n3 c3 : Nat) (d : Int) (bs : List UInt8) (b : Nat) (w0 w : World) (h : a2.size ≤ 4096)
    (HB : Below w0.heap.size w0 w) (hI : Lib.IsBuilder 60 5 w0.heap.size b (Lib.byteCells bs) w) (hlen : bs.length + ((⟨#[2]⟩ : ByteArray) ++ (textR a2).1).size ≤ 140737488355328) :
    Calls Try.prog 22 #[.pointer (some ⟨b, 0, none⟩), .agg #[.int .i64 1, .int .i64 a1, .string a2, .slice A3 n3 c3], .int .i64 d] w fun e w' =>
      e = .returned (.int .i64 0) ∧ Lib.IsBuilder 60 5 w0.heap.size b (Lib.byteCells (bs ++ ((⟨#[2]⟩ : ByteArray) ++ (textR a2).1).data.toList)) w' ∧ Below w0.heap.size w0 w' ∧ KeepT b w w' := by
  have h1 : decide (4096 < a2.size) = false := decide_eq_false (by omega)
  have h2 : decide ((4096 : Int) < (a2.size : Int)) = false := decide_eq_false (by omega)
  have hT : Hid (words_Text.f 20 a2 = some ((textR a2).1, (textR a2).2)) := Lib.hid (text_some 20 (by omega) (by omega))
  have hS : (textR a2).1.size = 2 + a2.size := by
    unfold textR; rw [if_neg (by omega)]; show (put 2 a2.size ++ a2).size = _; rw [ByteArray.size_append, size_put]; rfl
  have hL : Hid (bs.length + ((⟨#[2]⟩ : ByteArray) ++ (textR a2).1).size ≤ 140737488355328) := Lib.hid hlen
  clear hlen
  generalize (textR a2).1 = S at *
  generalize (textR a2).2 = E at *
  have t1 : 1 + S.size ≤ 9223372036854775807 := by omega
  clear h hS
  have t1b := eq_true t1
  have t1c : (9223372036854775807 < 1 + S.size) = False := eq_false (Nat.not_lt.2 t1)
  clear t1
  have hI' : Hid (Lib.IsBuilder 60 5 w0.heap.size b (Lib.byteCells bs) w) := Lib.hid hI
  have HB' : Hid (Below w0.heap.size w0 w) := Lib.hid HB
  clear hI HB
  have hu := Try.underlying26
  go_enter Try.func22, Try.ntmps22
  go_wp2_with (first
    | (go_at_call 34; (with_reducible refine (words_Text.calls 20 a2 S E _ hT.out).mono ?_); rintro e w1 ⟨rfl, hb1⟩; have HB1 := Aside0.mk (below_step' (below_alloc HB'.out _) hb1); have HI1 := Aside0.mk (bld_below (bld_alloc hI'.out _) hb1); have HX1 := Aside0.mk (below_step' (below_alloc (Below.refl w.heap.size w) _) hb1); clear hb1)
    | (go_at_call 32; (with_reducible refine (writeString _ b _ ((⟨#[2]⟩ : ByteArray) ++ S) _ HI1.out ?c1 HB1.out.size).mono ?_); (case c1 => rw [Lib.byteCells_length]; exact hL.out); rintro e w3 ⟨rfl, hI3, hb3, hk3⟩; have HI3 := Aside0.mk hI3; have HB3 := Aside0.mk hb3; have HK3 := Aside0.mk hk3; clear hI3 hb3 hk3))
  go_ret
  have e := HI3.out
  rw [byteCells_strCells] at e
  have e2 : Lib.byteCells (bs ++ ((⟨#[2]⟩ : ByteArray) ++ S).data.toList) = Lib.byteCells bs ++ Lib.byteCells ((⟨#[2]⟩ : ByteArray) ++ S).data.toList := by simp [Lib.byteCells]
  exact ⟨rfl, Or.inr (by rw [e2]; exact e), HB1.out.trans HB3.out, (KeepT.below HX1.out).trans HK3.out⟩
set_option maxHeartbeats 4000000 in
set_option maxRecDepth 100000 in
theorem put_list_long (a1 : Int) (a2 : ByteArray) (A3 : Option Addr) (n3 c3 : Nat) (d : Int) (bs : List UInt8) (b : Nat) (w0 w : World) (h : 256 < n3)
    (HB : Below w0.heap.size w0 w) (hI : Lib.IsBuilder 60 5 w0.heap.size b (Lib.byteCells bs) w) :
    Calls Try.prog 22 #[.pointer (some ⟨b, 0, none⟩), .agg #[.int .i64 2, .int .i64 a1, .string a2, .slice A3 n3 c3], .int .i64 d] w fun e w' =>
      e = .returned (.int .i64 5) ∧ Lib.IsBuilder 60 5 w0.heap.size b (Lib.byteCells (bs ++ [])) w' ∧ Below w0.heap.size w0 w' ∧ KeepT b w w' := by
  have h1 : decide (256 < n3) = true := decide_eq_true h
  have h2 : decide ((256 : Int) < (n3 : Int)) = true := decide_eq_true (by omega)
  clear h
  have hI' : Hid (Lib.IsBuilder 60 5 w0.heap.size b (Lib.byteCells bs) w) := Lib.hid hI
  have HB' : Hid (Below w0.heap.size w0 w) := Lib.hid HB
  clear hI HB
  have hu := Try.underlying26
  go_enter Try.func22, Try.ntmps22
  go_wp2
  go_ret
  refine ⟨rfl, by rw [List.append_nil]; exact bld_alloc hI'.out _, below_alloc HB'.out _, KeepT.below (below_alloc (Below.refl w.heap.size w) _)⟩
set_option maxHeartbeats 4000000 in
set_option maxRecDepth 100000 in
theorem put_list_deep (a1 : Int) (a2 : ByteArray) (A3 : Option Addr) (n3 c3 : Nat) (d : Int) (bs : List UInt8) (b : Nat) (w0 w : World) (h : n3 ≤ 256) (hd : 8 ≤ d)
    (HB : Below w0.heap.size w0 w) (hI : Lib.IsBuilder 60 5 w0.heap.size b (Lib.byteCells bs) w) :
    Calls Try.prog 22 #[.pointer (some ⟨b, 0, none⟩), .agg #[.int .i64 2, .int .i64 a1, .string a2, .slice A3 n3 c3], .int .i64 d] w fun e w' =>
      e = .returned (.int .i64 5) ∧ Lib.IsBuilder 60 5 w0.heap.size b (Lib.byteCells (bs ++ [])) w' ∧ Below w0.heap.size w0 w' ∧ KeepT b w w' := by
  have h1 : decide (256 < n3) = false := decide_eq_false (by omega)
  have h2 : decide ((256 : Int) < (n3 : Int)) = false := decide_eq_false (by omega)
  have h3 : decide (8 ≤ d) = true := decide_eq_true hd
  clear h hd
  have hI' : Hid (Lib.IsBuilder 60 5 w0.heap.size b (Lib.byteCells bs) w) := Lib.hid hI
  have HB' : Hid (Below w0.heap.size w0 w) := Lib.hid HB
  clear hI HB
  have hu := Try.underlying26
  go_enter Try.func22, Try.ntmps22
  go_wp2
  go_ret
  refine ⟨rfl, by rw [List.append_nil]; exact bld_alloc hI'.out _, below_alloc HB'.out _, KeepT.below (below_alloc (Below.refl w.heap.size w) _)⟩
set_option maxHeartbeats 4000000 in
set_option maxRecDepth 100000 in
theorem put_other (a1 : Int) (a2 : ByteArray) (A3 : Option Addr) (n3 c3 : Nat) (d : Int) (bs : List UInt8) (b : Nat) (w0 w : World) (k0 : Int) (h0 : k0 ≠ 0) (h1 : k0 ≠ 1) (h2 : k0 ≠ 2)
    (HB : Below w0.heap.size w0 w) (hI : Lib.IsBuilder 60 5 w0.heap.size b (Lib.byteCells bs) w) :
    Calls Try.prog 22 #[.pointer (some ⟨b, 0, none⟩), .agg #[.int .i64 k0, .int .i64 a1, .string a2, .slice A3 n3 c3], .int .i64 d] w fun e w' =>
      e = .returned (.int .i64 2) ∧ Lib.IsBuilder 60 5 w0.heap.size b (Lib.byteCells (bs ++ [])) w' ∧ Below w0.heap.size w0 w' ∧ KeepT b w w' := by
  have c0 : (k0 == 0) = false := beq_eq_false_iff_ne.mpr h0
  have c1 : (k0 == 1) = false := beq_eq_false_iff_ne.mpr h1
  have c2 : (k0 == 2) = false := beq_eq_false_iff_ne.mpr h2
  clear h0 h1 h2
  have hI' : Hid (Lib.IsBuilder 60 5 w0.heap.size b (Lib.byteCells bs) w) := Lib.hid hI
  have HB' : Hid (Below w0.heap.size w0 w) := Lib.hid HB
  clear hI HB
  have hu := Try.underlying26
  go_enter Try.func22, Try.ntmps22
  go_wp2
  go_ret
  refine ⟨rfl, by rw [List.append_nil]; exact bld_alloc hI'.out _, below_alloc HB'.out _, KeepT.below (below_alloc (Below.refl w.heap.size w) _)⟩
theorem byteCells_append (x y : List UInt8) : Lib.byteCells (x ++ y) = Lib.byteCells x ++ Lib.byteCells y := by simp [Lib.byteCells]
theorem putL_cons {f : S26 → Int → Option (ByteArray × Int)} {l : List S26} {j : Nat} {d : Int} {t : ByteArray} {e : Int} (hj : j < l.length) (h : putL f (l.drop j) d = some (t, e)) :
    ∃ t1 e1, f (rd_T26 l j) d = some (t1, e1) ∧ ((e1 = 0 ∧ ∃ t2, putL f (l.drop (j + 1)) d = some (t2, e) ∧ t = t1 ++ t2) ∨ (e1 ≠ 0 ∧ t = t1 ∧ e = e1)) := by
  have er : rd_T26 l (j : Int) = l[j] := by unfold rd_T26; rw [show ((j : Int)).toNat = j by omega, List.getD_eq_getElem?_getD, List.getElem?_eq_getElem hj]; rfl
  rw [List.drop_eq_getElem_cons hj] at h
  simp only [putL] at h
  obtain ⟨⟨t1, e1⟩, h1, h2⟩ := Option.bind_eq_some_iff.mp h
  refine ⟨t1, e1, by rw [er]; exact h1, ?_⟩
  by_cases c : e1 = 0
  · simp only [c, if_true] at h2
    obtain ⟨⟨t2, e2⟩, h3, h4⟩ := Option.bind_eq_some_iff.mp h2
    simp only [Option.some.injEq, Prod.mk.injEq] at h4
    obtain ⟨rfl, rfl⟩ := h4
    exact .inl ⟨c, t2, h3, rfl⟩
  · simp only [c, if_false, Option.some.injEq, Prod.mk.injEq] at h2
    exact .inr ⟨c, h2.1.symm, h2.2.symm⟩
set_option maxHeartbeats 8000000 in
set_option maxRecDepth 100000 in
theorem put_list (f : S26 → Int → Option (ByteArray × Int))
    (ih : ∀ (x : S26) (A : Option Addr) (c : Nat) (e : Int) (bs : List UInt8) (b : Nat) (r1 : ByteArray) (r2 : Int) (w0 w : World), Kd.C k26 w0 A x.f3.length x.f3 → x.f3.length ≤ c → Below w0.heap.size w0 w → Lib.IsBuilder 60 5 w0.heap.size b (Lib.byteCells bs) w → bs.length + r1.size ≤ 140737488355328 → f x e = some (r1, r2) →
      Calls Try.prog 22 #[.pointer (some ⟨b, 0, none⟩), .agg #[.int .i64 x.f0, .int .i64 x.f1, .string x.f2, .slice A x.f3.length c], .int .i64 e] w fun e w' =>
        e = .returned (.int .i64 r2) ∧ Lib.IsBuilder 60 5 w0.heap.size b (Lib.byteCells (bs ++ r1.data.toList)) w' ∧ Below w0.heap.size w0 w' ∧ KeepT b w w')
    (a1 : Int) (a2 : ByteArray) (A3 : Option Addr) (c3 : Nat) (l3 : List S26) (d : Int) (bs : List UInt8) (b : Nat) (u : ByteArray) (r2 : Int) (w0 w : World) (hr : Kd.C k26 w0 A3 l3.length l3) (hc : l3.length ≤ c3) (h : l3.length ≤ 256) (hd : d < 8)
    (HB : Below w0.heap.size w0 w) (hI : Lib.IsBuilder 60 5 w0.heap.size b (Lib.byteCells bs) w) (hlen : bs.length + (headB l3.length u).size ≤ 140737488355328) (hf : putL f l3 (wrap64 (d + 1)) = some (u, r2)) :
    Calls Try.prog 22 #[.pointer (some ⟨b, 0, none⟩), .agg #[.int .i64 2, .int .i64 a1, .string a2, .slice A3 l3.length c3], .int .i64 d] w fun e w' =>
      e = .returned (.int .i64 r2) ∧ Lib.IsBuilder 60 5 w0.heap.size b (Lib.byteCells (bs ++ (headB l3.length u).data.toList)) w' ∧ Below w0.heap.size w0 w' ∧ KeepT b w w' := by
  have h1 : decide (256 < l3.length) = false := decide_eq_false (by omega)
  have h2 : decide ((256 : Int) < (l3.length : Int)) = false := decide_eq_false (by omega)
  have h3 : decide (8 ≤ d) = false := decide_eq_false (by omega)
  have hP : Hid (words_Put.f 20 2 (l3.length : Nat) = some (put 2 (l3.length : Nat))) := Lib.hid (put_some 20 (by omega) (by omega) (by omega))
  have zp : (put 2 (l3.length : Nat)).size = 2 := by rw [size_put]; rfl
  have t1 : 1 + (put 2 (l3.length : Nat)).size ≤ 9223372036854775807 := by omega
  have hz3 : (headB l3.length u).size = 3 + u.size := by unfold headB; rw [ByteArray.size_append, ByteArray.size_append, zp]; rfl
  have hL : Hid (bs.length + 3 + u.size ≤ 140737488355328) := Lib.hid (by rw [hz3] at hlen; omega)
  have hz2 : Hid (((⟨#[3]⟩ : ByteArray) ++ put 2 l3.length).size = 3) := Lib.hid (by rw [ByteArray.size_append, zp]; rfl)
  clear hlen hz3 zp hd
  have t1b := eq_true t1
  have t1c : (9223372036854775807 < 1 + (put 2 (l3.length : Nat)).size) = False := eq_false (Nat.not_lt.2 t1)
  clear t1
  have HR := Aside0.mk hr
  have HC := Aside0.mk hc
  have HF := Aside0.mk hf
  have IH := Aside0.mk ih
  clear hr hc hf ih
  have hI' : Hid (Lib.IsBuilder 60 5 w0.heap.size b (Lib.byteCells bs) w) := Lib.hid hI
  have HB' : Hid (Below w0.heap.size w0 w) := Lib.hid HB
  clear hI HB
  have hu := Try.underlying26
  have hl9 : l3.length ≤ 9223372036854775807 := by omega
  go_enter Try.func22, Try.ntmps22
  go_wp2_with (first
    | (go_at_call 33; (with_reducible refine (words_Put.calls 20 2 (l3.length : Nat) _ _ hP.out).mono ?_); rintro e w1 ⟨rfl, hb1⟩; have HB1 := Aside0.mk (below_step' (below_alloc HB'.out _) hb1); have HI1 := Aside0.mk (bld_below (bld_alloc hI'.out _) hb1); have HX1 := Aside0.mk (below_step' (below_alloc (Below.refl w.heap.size w) _) hb1); have BK1 := Aside0.mk (blk_below (g := w.heap.size) (o := .cells #[.int .i64 2, .int .i64 a1, .string a2, .slice A3 l3.length c3] 26 (0, 0)) (alloc_new w _) hb1); clear hb1)
    | (go_at_call 32; (with_reducible refine (writeString _ b _ ((⟨#[3]⟩ : ByteArray) ++ put 2 (l3.length : Nat)) _ HI1.out ?c1 HB1.out.size).mono ?_); (case c1 => rw [Lib.byteCells_length, hz2.out]; have := hL.out; omega); rintro e w3 ⟨rfl, hI3, hb3, hk3⟩; have HI3 := Aside0.mk hI3; have HB3 := Aside0.mk (HB1.out.trans hb3); have HK3 := Aside0.mk ((KeepT.below HX1.out).trans hk3); have BK3 := Aside0.mk (hk3 w.heap.size _ _ _ (by decide) (Nat.ne_of_gt (bld_lt hI'.out)) BK1.out); clear hI3 hb3 hk3; have hcz0 : w3.cell? ⟨w.heap.size, 0, none⟩ = some (.int .i64 2) := (blk_cell BK3.out 0).trans rfl; have hcz3 : w3.cell? ⟨w.heap.size, 3, none⟩ = some (.slice A3 l3.length c3) := (blk_cell BK3.out 3).trans rfl))
  have hH : Hid (Lib.IsBuilder 60 5 w0.heap.size b (Lib.byteCells (bs ++ ((⟨#[3]⟩ : ByteArray) ++ put 2 l3.length).data.toList)) w3) := by
    refine Lib.hid ?_
    have e := HI3.out
    rw [byteCells_strCells] at e
    rw [byteCells_append]
    exact Or.inr e
  clear HI3 hI' HI1 BK1 BK3 hcz0 hcz3 HB1 HX1 hP t1b t1c h1 h2 h3
  go_loopw [76] (fun i wr => ∃ (j : Nat) (acc : List UInt8) (t : ByteArray), i = .int .i64 j ∧ j ≤ l3.length ∧ Aside0 (putL f (l3.drop j) (wrap64 (d + 1)) = some (t, r2)) ∧ Aside0 (acc ++ t.data.toList = bs ++ (headB l3.length u).data.toList) ∧ Aside0 (Lib.IsBuilder 60 5 w0.heap.size b (Lib.byteCells acc) wr) ∧ Aside0 (Below w0.heap.size w0 wr) ∧ Aside0 (KeepT b w wr)) (fun i _ => l3.length - (intOf i).toNat)
  case atStart => exact ⟨0, bs ++ ((⟨#[3]⟩ : ByteArray) ++ put 2 l3.length).data.toList, u, rfl, Nat.zero_le _, HF, ⟨by rw [show headB l3.length u = ((⟨#[3]⟩ : ByteArray) ++ put 2 l3.length) ++ u from rfl, data_append ((⟨#[3]⟩ : ByteArray) ++ put 2 l3.length) u, List.append_assoc]⟩, ⟨hH.out⟩, HB3, HK3⟩
  case round =>
    obtain ⟨j, acc, t, rfl, hj, HT, HE, HIr, HBr, HKr⟩ := hrel
    clear HB3 HK3 hH HF
    by_cases hlt : j < l3.length
    · obtain ⟨t1, e1, hf1, hcase⟩ := putL_cons hlt HT.out
      obtain ⟨ad, A', c', e', hx0, hx1, hx2, hx3, hl', hi'⟩ := at_T26 HR.out (j : Int) (by omega) (by omega)
      cases e'
      rw [show ((j : Int)).toNat = j by omega] at hx0 hx1 hx2 hx3
      replace hx0 := (HBr.out.cell (World.block_lt_of_cell? w0 _ hx0)).trans hx0
      replace hx1 := (HBr.out.cell (World.block_lt_of_cell? w0 _ hx1)).trans hx1
      replace hx2 := (HBr.out.cell (World.block_lt_of_cell? w0 _ hx2)).trans hx2
      replace hx3 := (HBr.out.cell (World.block_lt_of_cell? w0 _ hx3)).trans hx3
      have HF1 := Aside0.mk hf1
      have HI' := Aside0.mk hi'
      have HL' := Aside0.mk hl'
      have hsz : Hid (t1.size ≤ t.size) := by
        refine Lib.hid ?_
        rcases hcase with ⟨_, t2, _, rfl⟩ | ⟨_, rfl, _⟩
        · rw [ByteArray.size_append]; omega
        · exact Nat.le_refl _
      have hlen : Hid (acc.length + t1.size ≤ 140737488355328) := by
        refine Lib.hid ?_
        have e := congrArg List.length HE.out
        have a1 : t.data.toList.length = t.size := Array.length_toList
        have a2 : (headB l3.length u).data.toList.length = (headB l3.length u).size := Array.length_toList
        have a3 : (headB l3.length u).size = 3 + u.size := by unfold headB; rw [ByteArray.size_append, hz2.out]
        rw [List.length_append, List.length_append, a1, a2, a3] at e
        have := hL.out
        have := hsz.out
        omega
      clear hf1 hi' hl'
      generalize rd_T26 l3 (j : Int) = X at *
      by_cases he : e1 = 0
      · subst he
        obtain ⟨t2, HT2, rfl⟩ : ∃ t2, Aside0 (putL f (l3.drop (j + 1)) (wrap64 (d + 1)) = some (t2, r2)) ∧ t = t1 ++ t2 := by
          rcases hcase with ⟨_, t2, h2, rfl⟩ | ⟨h, _⟩
          · exact ⟨t2, ⟨h2⟩, rfl⟩
          · exact absurd rfl h
        clear hcase
        go_wp2_with (go_at_call 22; (with_reducible refine (IH.out X A' c' (wrap64 (d + 1)) acc b t1 0 w0 _ HI'.out HL'.out ?c1 ?c2 hlen.out HF1.out).mono ?_); (case c1 => exact below_alloc HBr.out _); (case c2 => exact bld_alloc HIr.out _); rintro e w4 ⟨rfl, hI4, hb4, hk4⟩; have HI4 := Aside0.mk hI4; have HB4 := Aside0.mk hb4; have HK4 := Aside0.mk ((HKr.out.trans (KeepT.below (below_alloc (Below.refl wr.heap.size wr) _))).trans hk4); clear hI4 hb4 hk4)
        go_roundw
        case rel => exact ⟨j + 1, acc ++ t1.data.toList, t2, by go_num, by omega, HT2, ⟨by rw [← HE.out, data_append, List.append_assoc]⟩, HI4, HB4, HK4⟩
        case measure => simp [intOf]; omega
      · obtain ⟨rfl, rfl⟩ : t = t1 ∧ r2 = e1 := by
          rcases hcase with ⟨h, _⟩ | ⟨_, h1, h2⟩
          · exact absurd h he
          · exact ⟨h1, h2⟩
        have he1 : (r2 == 0) = false := beq_eq_false_iff_ne.mpr he
        have he2 : (r2 != 0) = true := bne_iff_ne.mpr he
        clear hcase he
        go_wp2_with (go_at_call 22; (with_reducible refine (IH.out X A' c' (wrap64 (d + 1)) acc b t r2 w0 _ HI'.out HL'.out ?c1 ?c2 hlen.out HF1.out).mono ?_); (case c1 => exact below_alloc HBr.out _); (case c2 => exact bld_alloc HIr.out _); rintro e w4 ⟨rfl, hI4, hb4, hk4⟩; have HI4 := Aside0.mk hI4; have HB4 := Aside0.mk hb4; have HK4 := Aside0.mk ((HKr.out.trans (KeepT.below (below_alloc (Below.refl wr.heap.size wr) _))).trans hk4); clear hI4 hb4 hk4)
        go_ret
        exact ⟨rfl, by rw [← HE.out]; exact HI4.out, HB4.out, HK4.out⟩
    · have hd' : l3.drop j = [] := List.drop_eq_nil_of_le (by omega)
      have e := HT.out
      rw [hd'] at e
      simp only [putL, Option.some.injEq, Prod.mk.injEq] at e
      obtain ⟨rfl, rfl⟩ := e
      obtain rfl : j = l3.length := by omega
      clear hlt HT hd'
      go_wp2
      go_ret
      exact ⟨rfl, by rw [← HE.out]; simpa using HIr.out, HBr.out, HKr.out⟩
/-- pack.put: what it puts behind what stands in the builder, and its error -/
theorem pack_put.calls (k : Nat) : ∀ (a0 a1 : Int) (a2 : ByteArray) (A3 : Option Addr) (c3 : Nat) (l3 : List S26) (d : Int) (bs : List UInt8) (b : Nat) (r1 : ByteArray) (r2 : Int) (w0 w : World), Kd.C k26 w0 A3 l3.length l3 → l3.length ≤ c3 →
    Below w0.heap.size w0 w → Lib.IsBuilder 60 5 w0.heap.size b (Lib.byteCells bs) w → bs.length + r1.size ≤ 140737488355328 → pack_put.f k a0 a1 a2 l3 d = some (r1, r2) →
    Calls Try.prog 22 #[.pointer (some ⟨b, 0, none⟩), .agg #[.int .i64 a0, .int .i64 a1, .string a2, .slice A3 l3.length c3], .int .i64 d] w fun e w' =>
      e = .returned (.int .i64 r2) ∧ Lib.IsBuilder 60 5 w0.heap.size b (Lib.byteCells (bs ++ r1.data.toList)) w' ∧ Below w0.heap.size w0 w' ∧ KeepT b w w' := by
  induction k with
  | zero => intro a0 a1 a2 A3 c3 l3 d bs b r1 r2 w0 w _ _ _ _ _ h; simp [pack_put.f] at h
  | succ k ih =>
    intro a0 a1 a2 A3 c3 l3 d bs b r1 r2 w0 w hr hc HB hI hlen h
    have z0 : (⟨#[]⟩ : ByteArray).data.toList = [] := rfl
    simp only [pack_put.f] at h
    by_cases h0 : a0 = 0
    · rw [if_pos h0] at h
      by_cases hn : -9223372036854775808 ≤ a1 ∧ a1 ≤ 9223372036854775807
      · rw [if_pos hn] at h
        simp only [Option.some.injEq, Prod.mk.injEq] at h
        obtain ⟨rfl, rfl⟩ := h
        subst h0
        exact put_int a1 a2 A3 l3.length c3 d bs b w0 w hn HB hI hlen
      · rw [if_neg hn] at h; cases h
    rw [if_neg h0] at h
    by_cases h1 : a0 = 1
    · rw [if_pos h1] at h
      subst h1
      by_cases h2 : (a2.size : Int) > 4096
      · rw [if_pos h2] at h
        simp only [Option.some.injEq, Prod.mk.injEq] at h
        obtain ⟨rfl, rfl⟩ := h
        rw [z0]
        exact put_text_long a1 a2 A3 l3.length c3 d bs b w0 w (by omega) HB hI
      · rw [if_neg h2] at h
        simp only [Option.some.injEq, Prod.mk.injEq] at h
        obtain ⟨rfl, rfl⟩ := h
        exact put_text a1 a2 A3 l3.length c3 d bs b w0 w (by omega) HB hI hlen
    rw [if_neg h1] at h
    by_cases h2 : a0 = 2
    · rw [if_pos h2] at h
      subst h2
      by_cases h3 : (l3.length : Int) > 256
      · rw [if_pos h3] at h
        simp only [Option.some.injEq, Prod.mk.injEq] at h
        obtain ⟨rfl, rfl⟩ := h
        rw [z0]
        exact put_list_long a1 a2 A3 l3.length c3 d bs b w0 w (by omega) HB hI
      rw [if_neg h3] at h
      by_cases h4 : d ≥ 8
      · rw [if_pos h4] at h
        simp only [Option.some.injEq, Prod.mk.injEq] at h
        obtain ⟨rfl, rfl⟩ := h
        rw [z0]
        exact put_list_deep a1 a2 A3 l3.length c3 d bs b w0 w (by omega) h4 HB hI
      rw [if_neg h4] at h
      obtain ⟨⟨u, r⟩, hu, hh⟩ := Option.bind_eq_some_iff.mp h
      simp only [Option.some.injEq, Prod.mk.injEq] at hh
      obtain ⟨rfl, rfl⟩ := hh
      exact put_list (fun x e => pack_put.f k x.f0 x.f1 x.f2 x.f3 e) (fun x A c e bs b r1 r2 w0 w g1 g2 g3 g4 g5 g6 => ih x.f0 x.f1 x.f2 A c x.f3 e bs b r1 r2 w0 w g1 g2 g3 g4 g5 g6) a1 a2 A3 c3 l3 d bs b u r w0 w hr hc (by omega) (by omega) HB hI hlen hu
    · rw [if_neg h2] at h
      simp only [Option.some.injEq, Prod.mk.injEq] at h
      obtain ⟨rfl, rfl⟩ := h
      rw [z0]
      exact put_other a1 a2 A3 l3.length c3 d bs b w0 w a0 h0 h1 h2 HB hI
end Go.Proofs.Ytpbnfnaebdmagaa.Pk
namespace Go.Proofs.Ytpbnfnaebdmagaa.Pk
set_option linter.unusedVariables false
set_option linter.unusedSimpArgs false
open Go Go.RowKit Go.Proofs.Ytpbnfnaebdmagaa.Plain Go.Proofs.Ytpbnfnaebdmagaa.WordsA Go.Proofs.Ytpbnfnaebdmagaa.Bld Go.Proofs.Ytpbnfnaebdmagaa.PX Go.Proofs.YtpbnfnaebdmagaaW.PrintWords Go.Proofs.YtpbnfnaebdmagaaW.PrintLast Go.Proofs.YtpbnfnaebdmagaaW.PrintMore
theorem byteCells_nil : Lib.byteCells [] = [] := rfl
set_option maxHeartbeats 4000000 in
set_option maxRecDepth 100000 in
/-- pack.Put: a value's bytes, or its error -/
theorem pack_Put.calls0 (k : Nat) (a0 a1 : Int) (a2 : ByteArray) (A3 : Option Addr) (c3 : Nat) (l3 : List S26) (r1 : ByteArray) (r2 : Int) (w : World) (hr : Kd.C k26 w A3 l3.length l3) (hc : l3.length ≤ c3)
    (hlen : r1.size ≤ 140737488355328) (h : pack_put.f k a0 a1 a2 l3 0 = some (r1, r2)) :
    Calls Try.prog 10 #[.agg #[.int .i64 a0, .int .i64 a1, .string a2, .slice A3 l3.length c3]] w fun e w' =>
      e = .returned (.tuple #[.string (if r2 = 0 then r1 else ⟨#[]⟩), .int .i64 r2]) ∧ Below w.heap.size w w' := by
  have HR := Aside0.mk hr
  have HC := Aside0.mk hc
  have HF := Aside0.mk h
  have HL : Hid (([] : List UInt8).length + r1.size ≤ 140737488355328) := Lib.hid (by simpa using hlen)
  clear hr hc h hlen
  have hu := Try.underlying26
  have hca := Aside0.mk (Kd.C_alloc HR.out (.cells #[.int .i64 a0, .int .i64 a1, .string a2, .slice A3 l3.length c3] 26))
  have hfb : Aside0 (Lib.IsBuilder 60 5 (w.alloc (.cells #[.int .i64 a0, .int .i64 a1, .string a2, .slice A3 l3.length c3] 26)).heap.size (w.heap.size + 1) [] ((w.alloc (.cells #[.int .i64 a0, .int .i64 a1, .string a2, .slice A3 l3.length c3] 26)).alloc (.cells #[.pointer none, .slice none 0 0] 60))) := by
    have key : ∀ n, n = (w.alloc (.cells #[.int .i64 a0, .int .i64 a1, .string a2, .slice A3 l3.length c3] 26)).heap.size → Lib.IsBuilder 60 5 (w.alloc (.cells #[.int .i64 a0, .int .i64 a1, .string a2, .slice A3 l3.length c3] 26)).heap.size n [] ((w.alloc (.cells #[.int .i64 a0, .int .i64 a1, .string a2, .slice A3 l3.length c3] 26)).alloc (.cells #[.pointer none, .slice none 0 0] 60)) := by
      rintro n rfl; exact Lib.fresh_isBuilder _ _ _
    exact ⟨key _ (by show _ = (w.heap.push _).size; exact Array.size_push _ |>.symm)⟩
  have hb0 := Aside0.mk (below_alloc (Below.refl w.heap.size w) (.cells #[.int .i64 a0, .int .i64 a1, .string a2, .slice A3 l3.length c3] 26))
  have hst : Aside0 (∀ (w1 w2 : World), Below (w.alloc (.cells #[.int .i64 a0, .int .i64 a1, .string a2, .slice A3 l3.length c3] 26)).heap.size (w.alloc (.cells #[.int .i64 a0, .int .i64 a1, .string a2, .slice A3 l3.length c3] 26)) w1 → Below (w.alloc (.cells #[.int .i64 a0, .int .i64 a1, .string a2, .slice A3 l3.length c3] 26)).heap.size w1 w2 → Below w.heap.size w w2) := ⟨fun w1 w2 h1 h2 => below_step' hb0.out (h1.trans h2)⟩
  by_cases h0 : r2 = 0
  · subst h0
    go_enter Try.func10, Try.ntmps10
    go_wp2_with (first
      | (go_at_call 22; go_loud (with_reducible refine (pack_put.calls k a0 a1 a2 A3 c3 l3 0 [] _ r1 0 (w.alloc (.cells #[.int .i64 a0, .int .i64 a1, .string a2, .slice A3 l3.length c3] 26)) _ hca.out HC.out ?c1 ?c2 HL.out HF.out).mono ?_); (case c1 => exact below_alloc (Below.refl _ _) _); (case c2 => exact hfb.out); rintro e w1 ⟨rfl, hI1, hb1, hk1⟩; have HI1 := Aside0.mk hI1; have HB1 := Aside0.mk hb1; clear hI1 hb1 hk1)
      | (go_at_call 23; (with_reducible refine (string_any _ _ _ _ HI1.out ?c1).mono ?_); (case c1 => exact HB1.out.size); rintro e w2 ⟨rfl, hb2⟩; have HB2 := Aside0.mk (hst.out _ _ HB1.out hb2); clear hb2))
    go_ret2
    exact ⟨by simp, HB2.out⟩
  · have e1 : (r2 == 0) = false := beq_eq_false_iff_ne.mpr h0
    have e2 : (r2 != 0) = true := bne_iff_ne.mpr h0
    have hi : (if r2 = 0 then r1 else (⟨#[]⟩ : ByteArray)) = ⟨#[]⟩ := if_neg h0
    rw [hi]
    clear hi h0
    go_enter Try.func10, Try.ntmps10
    go_wp2_with (go_at_call 22; (with_reducible refine (pack_put.calls k a0 a1 a2 A3 c3 l3 0 [] _ r1 r2 (w.alloc (.cells #[.int .i64 a0, .int .i64 a1, .string a2, .slice A3 l3.length c3] 26)) _ hca.out HC.out ?c1 ?c2 HL.out HF.out).mono ?_); (case c1 => exact below_alloc (Below.refl _ _) _); (case c2 => exact hfb.out); rintro e w1 ⟨rfl, hI1, hb1, hk1⟩; have HI1 := Aside0.mk hI1; have HB1 := Aside0.mk hb1; clear hI1 hb1 hk1)
    go_ret2
    exact ⟨rfl, hst.out _ _ HB1.out (Below.refl _ _)⟩
def pack_Put.f (k : Nat) (a0 a1 : Int) (a2 : ByteArray) (l3 : List S26) : Option (ByteArray × Int) :=
  (pack_put.f k a0 a1 a2 l3 0).bind fun t => if t.1.size ≤ 140737488355328 then some (if t.2 = 0 then t.1 else (⟨#[]⟩ : ByteArray), t.2) else none
theorem pack_Put.calls (k : Nat) (a0 a1 : Int) (a2 : ByteArray) (A3 : Option Addr) (c3 : Nat) (l3 : List S26) (r1 : ByteArray) (r2 : Int) (w : World) (hr : Kd.C k26 w A3 l3.length l3) (hc : l3.length ≤ c3)
    (h : pack_Put.f k a0 a1 a2 l3 = some (r1, r2)) :
    Calls Try.prog 10 #[.agg #[.int .i64 a0, .int .i64 a1, .string a2, .slice A3 l3.length c3]] w fun e w' =>
      e = .returned (.tuple #[.string r1, .int .i64 r2]) ∧ Below w.heap.size w w' := by
  obtain ⟨⟨t1, t2⟩, h1, h2⟩ := Option.bind_eq_some_iff.mp h
  dsimp only at h2
  by_cases c : t1.size ≤ 140737488355328
  · rw [if_pos c] at h2
    simp only [Option.some.injEq, Prod.mk.injEq] at h2
    obtain ⟨rfl, rfl⟩ := h2
    exact pack_Put.calls0 k a0 a1 a2 A3 c3 l3 t1 t2 w hr hc c h1
  · rw [if_neg c] at h2; cases h2
theorem putL_mono {f g : S26 → Int → Option (ByteArray × Int)} (h : ∀ x e, LeO (f x e) (g x e)) : ∀ l d, LeO (putL f l d) (putL g l d)
  | [], _ => LeO.refl _
  | x :: r, d => by
    unfold putL
    exact LeO.bind (h x d) (fun t => LeO.ite (LeO.bind (putL_mono h r d) (fun _ => LeO.refl _)) (LeO.refl _))
theorem pack_put.mono : ∀ k a0 a1 a2 l3 d, LeO (pack_put.f k a0 a1 a2 l3 d) (pack_put.f (k + 1) a0 a1 a2 l3 d)
  | 0, _, _, _, _, _ => LeO.none _
  | k + 1, a0, a1, a2, l3, d => by
    unfold pack_put.f
    refine LeO.ite (LeO.refl _) (LeO.ite (LeO.refl _) (LeO.ite (LeO.ite (LeO.refl _) (LeO.ite (LeO.refl _) (LeO.bind (putL_mono (fun x e => pack_put.mono k _ _ _ _ _) _ _) (fun _ => LeO.refl _)))) (LeO.refl _)))
theorem pack_Put.mono (k : Nat) (a0 a1 : Int) (a2 : ByteArray) (l3 : List S26) : LeO (pack_Put.f k a0 a1 a2 l3) (pack_Put.f (k + 1) a0 a1 a2 l3) := LeO.bind (pack_put.mono k a0 a1 a2 l3 0) (fun _ => LeO.refl _)
end Go.Proofs.Ytpbnfnaebdmagaa.Pk
