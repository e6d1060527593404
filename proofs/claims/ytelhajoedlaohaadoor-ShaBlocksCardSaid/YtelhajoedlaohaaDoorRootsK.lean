/-
  The rounds' numbers by cubic roots: each one reckoned by the kernel.
-/
import Derived.Test.YtelhajoedlaohaaDoorShaRefW
import Derived.Test.YtelhajoedlaohaaDoorPSx3
namespace Go.Proofs.YtelhajoedlaohaaDoor.Sha
set_option linter.unusedVariables false
set_option linter.unusedSimpArgs false
open Go Go.RowKit Go.Proofs.YtelhajoedlaohaaDoor.Plain Go.Proofs.YtelhajoedlaohaaDoor.PS Go.Proofs.YtelhajoedlaohaaDoorW.PrintWords Go.Proofs.YtelhajoedlaohaaDoorW.PrintLast Go.Proofs.YtelhajoedlaohaaDoorW.PrintMore
/-- the first primes -/
def P64 : List Nat := [2, 3, 5, 7, 11, 13, 17, 19, 23, 29, 31, 37, 41, 43, 47, 53, 59, 61, 67, 71, 73, 79, 83, 89, 97, 101, 103, 107, 109, 113, 127, 131, 137, 139, 149, 151, 157, 163, 167, 173, 179, 181, 191, 193, 197, 199, 211, 223, 227, 229, 233, 239, 241, 251, 257, 263, 269, 271, 277, 281, 283, 293, 307, 311]
def rootOk (x : Nat × Nat) : Bool := precinctref04_root.f 1000 (x.1 : Int) == some (x.2 : Int)
set_option maxRecDepth 1000000 in
theorem rk0 : [(2, 1116352408), (3, 1899447441), (5, 3049323471), (7, 3921009573)].all rootOk = true := by decide +kernel
set_option maxRecDepth 1000000 in
theorem rk1 : [(11, 961987163), (13, 1508970993), (17, 2453635748), (19, 2870763221)].all rootOk = true := by decide +kernel
set_option maxRecDepth 1000000 in
theorem rk2 : [(23, 3624381080), (29, 310598401), (31, 607225278), (37, 1426881987)].all rootOk = true := by decide +kernel
set_option maxRecDepth 1000000 in
theorem rk3 : [(41, 1925078388), (43, 2162078206), (47, 2614888103), (53, 3248222580)].all rootOk = true := by decide +kernel
set_option maxRecDepth 1000000 in
theorem rk4 : [(59, 3835390401), (61, 4022224774), (67, 264347078), (71, 604807628)].all rootOk = true := by decide +kernel
set_option maxRecDepth 1000000 in
theorem rk5 : [(73, 770255983), (79, 1249150122), (83, 1555081692), (89, 1996064986)].all rootOk = true := by decide +kernel
set_option maxRecDepth 1000000 in
theorem rk6 : [(97, 2554220882), (101, 2821834349), (103, 2952996808), (107, 3210313671)].all rootOk = true := by decide +kernel
set_option maxRecDepth 1000000 in
theorem rk7 : [(109, 3336571891), (113, 3584528711), (127, 113926993), (131, 338241895)].all rootOk = true := by decide +kernel
set_option maxRecDepth 1000000 in
theorem rk8 : [(137, 666307205), (139, 773529912), (149, 1294757372), (151, 1396182291)].all rootOk = true := by decide +kernel
set_option maxRecDepth 1000000 in
theorem rk9 : [(157, 1695183700), (163, 1986661051), (167, 2177026350), (173, 2456956037)].all rootOk = true := by decide +kernel
set_option maxRecDepth 1000000 in
theorem rk10 : [(179, 2730485921), (181, 2820302411), (191, 3259730800), (193, 3345764771)].all rootOk = true := by decide +kernel
set_option maxRecDepth 1000000 in
theorem rk11 : [(197, 3516065817), (199, 3600352804), (211, 4094571909), (223, 275423344)].all rootOk = true := by decide +kernel
set_option maxRecDepth 1000000 in
theorem rk12 : [(227, 430227734), (229, 506948616), (233, 659060556), (239, 883997877)].all rootOk = true := by decide +kernel
set_option maxRecDepth 1000000 in
theorem rk13 : [(241, 958139571), (251, 1322822218), (257, 1537002063), (263, 1747873779)].all rootOk = true := by decide +kernel
set_option maxRecDepth 1000000 in
theorem rk14 : [(269, 1955562222), (271, 2024104815), (277, 2227730452), (281, 2361852424)].all rootOk = true := by decide +kernel
set_option maxRecDepth 1000000 in
theorem rk15 : [(283, 2428436474), (293, 2756734187), (307, 3204031479), (311, 3329325298)].all rootOk = true := by decide +kernel
theorem rk_pairs : P64.zip roots = [(2, 1116352408), (3, 1899447441), (5, 3049323471), (7, 3921009573)] ++ ([(11, 961987163), (13, 1508970993), (17, 2453635748), (19, 2870763221)] ++ ([(23, 3624381080), (29, 310598401), (31, 607225278), (37, 1426881987)] ++ ([(41, 1925078388), (43, 2162078206), (47, 2614888103), (53, 3248222580)] ++ ([(59, 3835390401), (61, 4022224774), (67, 264347078), (71, 604807628)] ++ ([(73, 770255983), (79, 1249150122), (83, 1555081692), (89, 1996064986)] ++ ([(97, 2554220882), (101, 2821834349), (103, 2952996808), (107, 3210313671)] ++ ([(109, 3336571891), (113, 3584528711), (127, 113926993), (131, 338241895)] ++ ([(137, 666307205), (139, 773529912), (149, 1294757372), (151, 1396182291)] ++ ([(157, 1695183700), (163, 1986661051), (167, 2177026350), (173, 2456956037)] ++ ([(179, 2730485921), (181, 2820302411), (191, 3259730800), (193, 3345764771)] ++ ([(197, 3516065817), (199, 3600352804), (211, 4094571909), (223, 275423344)] ++ ([(227, 430227734), (229, 506948616), (233, 659060556), (239, 883997877)] ++ ([(241, 958139571), (251, 1322822218), (257, 1537002063), (263, 1747873779)] ++ ([(269, 1955562222), (271, 2024104815), (277, 2227730452), (281, 2361852424)] ++ ([(283, 2428436474), (293, 2756734187), (307, 3204031479), (311, 3329325298)]))))))))))))))) := by decide +kernel
theorem rk_all : (P64.zip roots).all rootOk = true := by
  rw [rk_pairs]
  simp only [List.all_append, rk0, rk1, rk2, rk3, rk4, rk5, rk6, rk7, rk8, rk9, rk10, rk11, rk12, rk13, rk14, rk15, Bool.and_self]
theorem root_at (n : Nat) (h : n < 64) : precinctref04_root.f 1000 ((G P64 n : Nat) : Int) = some ((G roots n : Nat) : Int) := by
  have hl : P64.length = 64 := by decide
  have h1 : (P64.zip roots)[n]? = some (G P64 n, G roots n) := by
    have e1 : P64[n]? = some (G P64 n) := by unfold G; rw [List.getD_eq_getElem?_getD, List.getElem?_eq_getElem (by omega)]; rfl
    have e2 : roots[n]? = some (G roots n) := by unfold G; rw [List.getD_eq_getElem?_getD, List.getElem?_eq_getElem (by rw [roots_length]; omega)]; rfl
    rw [List.getElem?_zip_eq_some]
    exact ⟨e1, e2⟩
  have h2 := List.all_eq_true.mp rk_all _ (List.mem_of_getElem? h1)
  unfold rootOk at h2
  exact eq_of_beq h2
end Go.Proofs.YtelhajoedlaohaaDoor.Sha
