/-
  A request's and an answer's bytes, plain: the program's are these.
-/
import Derived.Test.YtjicfkmpgogppaaPOx2
import Derived.Test.YtjicfkmpgogppaaPOx4
import Derived.Test.YtjicfkmpgogppaaPOx8
import Derived.Test.YtjicfkmpgogppaaPv
namespace Go.Proofs.Ytjicfkmpgogppaa.Op
set_option linter.unusedVariables false
set_option linter.unusedSimpArgs false
open Go Go.RowKit Go.Proofs.Ytjicfkmpgogppaa.Plain Go.Proofs.Ytjicfkmpgogppaa.Vs Go.Proofs.Ytjicfkmpgogppaa.Pv Go.Proofs.Ytjicfkmpgogppaa.PO Go.Proofs.YtjicfkmpgogppaaW.PrintWords Go.Proofs.YtjicfkmpgogppaaW.PrintLast Go.Proofs.YtjicfkmpgogppaaW.PrintMore
/-- a request as a value -/
def reqV (s : ByteArray) (o : Int) (l : List V) : V := ⟨2, 0, ⟨#[]⟩, [⟨1, 0, s, []⟩, ⟨0, o, ⟨#[]⟩, []⟩, ⟨2, 0, ⟨#[]⟩, l⟩]⟩
def ansV (c : Int) (x : V) : V := ⟨2, 0, ⟨#[]⟩, [⟨0, c, ⟨#[]⟩, []⟩, x]⟩
/-- a request's bytes, or its error -/
def reqB (s : ByteArray) (o : Int) (l : List V) : ByteArray × Int := if (putV (reqV s o l) 0).2 = 0 then (if ((putV (reqV s o l) 0).1.size : Int) > 4096 then (⟨#[]⟩, 5) else ((putV (reqV s o l) 0).1, 0)) else (⟨#[]⟩, (putV (reqV s o l) 0).2)
theorem reqV_wf {s : ByteArray} {o : Int} {l : List V} (ho : -9223372036854775808 ≤ o ∧ o ≤ 9223372036854775807) (hl : ∀ x ∈ l, Wf x) : Wf (reqV s o l) := by
  unfold reqV
  simp only [Wf, Wfs, and_true]
  refine ⟨by omega, by omega, ho, by omega, (Wfs_iff l).mpr hl⟩
theorem reqV_size {s : ByteArray} {o : Int} {l : List V} (h : nodess l ≤ 400) : (putV (reqV s o l) 0).1.size ≤ 1800000 := by
  have h1 := size_putV (reqV s o l) 0
  have h2 : nodes (reqV s o l) ≤ 404 := by unfold reqV; simp only [nodes, nodess]; omega
  omega
theorem ansV_wf {c : Int} {x : V} (hc : -9223372036854775808 ≤ c ∧ c ≤ 9223372036854775807) (hx : Wf x) : Wf (ansV c x) := by
  unfold ansV
  simp only [Wf, Wfs, and_true]
  exact ⟨by omega, hc, hx⟩
theorem ansV_size {c : Int} {x : V} (h : nodes x ≤ 400) : (putV (ansV c x) 0).1.size ≤ 1800000 := by
  have h1 := size_putV (ansV c x) 0
  have h2 : nodes (ansV c x) ≤ 402 := by unfold ansV; simp only [nodes, nodess]; omega
  omega
theorem all_some {l : List V} (h : l.length < 2513169434916) : pack_All.f l = some (2, 0, ⟨#[]⟩, l) := by
  unfold pack_All.f pack_Value_77.f
  simp only [Option.bind_some, List.nil_append, List.length_nil]
  rw [if_pos (by omega), Option.bind_some]
theorem opPut_some {s : ByteArray} {o : Int} {l : List V} (ho : -9223372036854775808 ≤ o ∧ o ≤ 9223372036854775807) (hl : ∀ x ∈ l, Wf x) (hn : l.length < 2513169434916) (hs : (putV (reqV s o l) 0).1.size ≤ 140737488355328) : ∃ K, ∀ k, K ≤ k → op_Put.f k s o l = some (reqB s o l) := by
  obtain ⟨K, hK⟩ := packPut_some (reqV s o l) (reqV_wf ho hl) hs
  refine ⟨K, fun k hk => ?_⟩
  have e := hK k hk
  unfold op_Put.f pack_Str.f pack_Num.f
  simp only [Option.bind_some]
  rw [all_some hn, Option.bind_some]
  dsimp only
  rw [all_some (by simp), Option.bind_some]
  dsimp only
  have e' : Go.Proofs.Ytjicfkmpgogppaa.PO.pack_Put.f k 2 0 ⟨#[]⟩ [⟨1, 0, s, []⟩, ⟨0, o, ⟨#[]⟩, []⟩, ⟨2, 0, ⟨#[]⟩, l⟩] = _ := e
  rw [e', Option.bind_some]
  dsimp only
  unfold reqB
  by_cases c : (putV (reqV s o l) 0).2 = 0
  · rw [if_pos c, if_pos c, if_pos c]
    split <;> rfl
  · rw [if_neg c, if_neg c]
/-- an answer's bytes -/
def ansB (c : Int) (x : V) : ByteArray := if (putV (ansV c x) 0).2 = 0 then (putV (ansV c x) 0).1 else ⟨#[]⟩
theorem opBytes_some {c : Int} {x : V} (hc : -9223372036854775808 ≤ c ∧ c ≤ 9223372036854775807) (hx : Wf x) (hs : (putV (ansV c x) 0).1.size ≤ 140737488355328) : ∃ K, ∀ k, K ≤ k → op_Answer_Bytes.f k c x.f0 x.f1 x.f2 x.f3 = some (ansB c x) := by
  obtain ⟨K, hK⟩ := packPut_some (ansV c x) (ansV_wf hc hx) hs
  refine ⟨K, fun k hk => ?_⟩
  have e := hK k hk
  unfold op_Answer_Bytes.f pack_Num.f
  simp only [Option.bind_some]
  rw [all_some (by simp), Option.bind_some]
  dsimp only
  have ex : (⟨x.f0, x.f1, x.f2, x.f3⟩ : V) = x := by cases x; rfl
  rw [ex]
  have e' : Go.Proofs.Ytjicfkmpgogppaa.PO.pack_Put.f k 2 0 ⟨#[]⟩ [⟨0, c, ⟨#[]⟩, []⟩, x] = _ := e
  rw [e', Option.bind_some]
  rfl
theorem built_list_wf (l : List Bu.I) (h : ∀ x ∈ l, -9223372036854775808 ≤ x.f1 ∧ x.f1 ≤ 9223372036854775807) : ∀ x ∈ (Bu.built l).f3, Wf x := by
  have hw := Bu.built_wf l h
  generalize Bu.built l = b at hw
  obtain ⟨a, b, c, m⟩ := b
  simp only [Wf, Wfs_iff] at hw
  exact hw.2
theorem built_list_nodes (l : List Bu.I) : nodess (Bu.built l).f3 ≤ 400 := by
  have hn := Bu.built_nodes l
  generalize Bu.built l = b at hn
  obtain ⟨a, b, c, m⟩ := b
  simp only [nodes] at hn
  show nodess m ≤ 400
  omega
theorem built_list_len (l : List Bu.I) : (Bu.built l).f3.length ≤ 1000 := ((Vs.Small_eq _).mp (Bu.built_small l)).1
end Go.Proofs.Ytjicfkmpgogppaa.Op
