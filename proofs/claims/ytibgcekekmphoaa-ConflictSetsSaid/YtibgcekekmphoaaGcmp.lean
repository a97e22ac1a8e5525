/- cmp.Compare, cmp.Or and network.compare: what the printed functions answer. -/
import Derived.Test.YtibgcekekmphoaaP34A
import Derived.Test.YtibgcekekmphoaaP34E
namespace Go.Proofs.Ytibgcekekmphoaa.P34
open Go.RowKit Go.Proofs.YtibgcekekmphoaaW.PrintWords Go.Proofs.YtibgcekekmphoaaW.PrintLast Go.Proofs.YtibgcekekmphoaaW.PrintMore
set_option linter.unusedSimpArgs false

def cmpI (a b : Int) : Int := if a < b then -1 else if b < a then 1 else 0
theorem cmp_Compare_eq (a b : Int) : cmp_Compare_int.f a b = some (cmpI a b) := by
  unfold cmp_Compare_int.f cmp_isNaN_int.f cmpI
  simp
  split
  · rfl
  · split <;> rfl
def or2 (x y : Int) : Int := if x ≠ 0 then x else y
theorem cmp_Or_eq (x y : Int) : cmp_Or_int.f 3 [x, y] = some (or2 x y) := by
  unfold cmp_Or_int.f or2
  have w1 : wrap64 1 = 1 := by unfold wrap64; omega
  have w2 : wrap64 2 = 2 := by unfold wrap64; omega
  simp only [cmp_Or_int.l0, rd, List.length_cons, List.length_nil]
  by_cases hx : x = 0
  · subst hx
    by_cases hy : y = 0
    · subst hy
      simp [w1, w2]
    · simp [w1, w2, hy]
  · simp [hx]
def cmpL (a0 a1 b0 b1 : Int) : Int := or2 (cmpI a0 b0) (cmpI a1 b1)
theorem network_compare_eq (a0 a1 a2 b0 b1 b2 : Int) : network_compare.f 3 a0 a1 a2 b0 b1 b2 = some (cmpL a0 a1 b0 b1) := by
  unfold network_compare.f
  rw [cmp_Compare_eq, cmp_Compare_eq]
  simp only [Option.bind_some]
  rw [cmp_Or_eq]
  rfl
end Go.Proofs.Ytibgcekekmphoaa.P34
