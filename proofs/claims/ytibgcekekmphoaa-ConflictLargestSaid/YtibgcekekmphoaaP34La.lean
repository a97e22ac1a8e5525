-- Written by a program of this session (wip/tools) over the kit's print; Lean checks it.
import Derived.Test.YtibgcekekmphoaaP340
import Derived.Test.YtibgcekekmphoaaP34A
import Derived.Test.YtibgcekekmphoaaP34N
import Derived.Test.YtibgcekekmphoaaP34B
import Derived.Test.YtibgcekekmphoaaP34Se
import Derived.Test.YtibgcekekmphoaaGawake
import Derived.Test.YtibgcekekmphoaaGlargest
namespace Go.Proofs.Ytibgcekekmphoaa.P34
open Go.RowKit Go.Proofs.YtibgcekekmphoaaW.PrintWords Go.Proofs.YtibgcekekmphoaaW.PrintLast Go.Proofs.YtibgcekekmphoaaW.PrintMore
attribute [local go_sem] max2_int min2_int max_two min_two max_three min_three max_four min_four   -- for this text's walks alone
set_option linter.unusedVariables false
set_option linter.unusedSimpArgs false

/-! ### hopmeshlaw34_ConflictLargest: function 9 -/
mutual
def hopmeshlaw34_ConflictLargest.j0 : Nat → List (S44) → Int → Bool → Int → List (List Int) → Int → Int → List (S44) → List Int → Option (Bool)
 | 0, _, _, _, _, _, _, _, _, _ => none
 | k + 1, x1, x2, x31, x406000, x406001, x406002, x406003, x406004, x406005 => if x31 = true then (some true) else ((conflict_Largest.f k x406000 x406001 x406002 x406003 x406004 x406005 x1).bind fun bt409 => (if bt409.2 = 0 then ((slices_IsSorted_int_int.f k bt409.1).bind fun t413 => (hopmeshlaw34_ConflictLargest.j1 k x1 x2 bt409.1 (!t413) x406000 x406001 x406002 x406003 x406004 x406005)) else (hopmeshlaw34_ConflictLargest.j1 k x1 x2 bt409.1 true x406000 x406001 x406002 x406003 x406004 x406005)))
def hopmeshlaw34_ConflictLargest.j1 : Nat → List (S44) → Int → List Int → Bool → Int → List (List Int) → Int → Int → List (S44) → List Int → Option (Bool)
 | 0, _, _, _, _, _, _, _, _, _, _ => none
 | k + 1, x1, x2, x7, x44, x406000, x406001, x406002, x406003, x406004, x406005 => if x44 = true then (some false) else (hopmeshlaw34_ConflictLargest.l0 k x1 x2 x7 ([] : List (S36)) x7 (x7.length : Int) 0 x406000 x406001 x406002 x406003 x406004 x406005)
def hopmeshlaw34_ConflictLargest.l0 : Nat → List (S44) → Int → List Int → List (S36) → List Int → Int → Int → Int → List (List Int) → Int → Int → List (S44) → List Int → Option (Bool)
 | 0, _, _, _, _, _, _, _, _, _, _, _, _, _ => none
 | k + 1, x1, x2, x7, x9, x45, x46, x47, x406000, x406001, x406002, x406003, x406004, x406005 => if x47 < x46 then (if 0 ≤ x47 then (if x47 < (x45.length : Int) then (if (rd x45 x47) < 0 then (some false) else (if (rd x45 x47) ≥ (x1.length : Int) then (some false) else (if 0 ≤ (rd x45 x47) then (if (rd x45 x47) < (x1.length : Int) then (if x9.length < 3518437208883 then (hopmeshlaw34_ConflictLargest.l0 k x1 x2 x7 (x9 ++ [(⟨0, 0, (rd_T44 x1 (rd x45 x47)).f0, (rd_T44 x1 (rd x45 x47)).f1, 0⟩ : S36)]) x45 x46 (wrap64 (x47 + 1)) x406000 x406001 x406002 x406003 x406004 x406005) else (none)) else (none)) else (none)))) else (none)) else (none)) else (hopmeshlaw34_ConflictLargest.l1 k x1 x2 x7 x9 ([] : List (S36)) x1 (x1.length : Int) 0 x406000 x406001 x406002 x406003 x406004 x406005)
def hopmeshlaw34_ConflictLargest.l1 : Nat → List (S44) → Int → List Int → List (S36) → List (S36) → List (S44) → Int → Int → Int → List (List Int) → Int → Int → List (S44) → List Int → Option (Bool)
 | 0, _, _, _, _, _, _, _, _, _, _, _, _, _, _ => none
 | k + 1, x1, x2, x7, x9, x10, x74, x75, x76, x406000, x406001, x406002, x406003, x406004, x406005 => if x76 < x75 then (if 0 ≤ x76 then (if x76 < (x74.length : Int) then (if (Go.bits .and .u8 (shr .u8 x2 x76) 1) = 1 then (if x10.length < 3518437208883 then (hopmeshlaw34_ConflictLargest.l1 k x1 x2 x7 x9 (x10 ++ [(⟨0, 0, (rd_T44 x74 x76).f0, (rd_T44 x74 x76).f1, 0⟩ : S36)]) x74 x75 (wrap64 (x76 + 1)) x406000 x406001 x406002 x406003 x406004 x406005) else (none)) else (hopmeshlaw34_ConflictLargest.l1 k x1 x2 x7 x9 x10 x74 x75 (wrap64 (x76 + 1)) x406000 x406001 x406002 x406003 x406004 x406005)) else (none)) else (none)) else ((conflict_Good.f k x406000 x406001 x406002 x406003 x406004 x406005 x9).bind fun t425 => (if t425 = true then ((conflict_Good.f k x406000 x406001 x406002 x406003 x406004 x406005 x10).bind fun t426 => (if t426 = true then (hopmeshlaw34_ConflictLargest.j4 k x1 x7 (decide ((x10.length : Int) > (x9.length : Int))) x406000 x406001 x406002 x406003 x406004 x406005) else (hopmeshlaw34_ConflictLargest.j4 k x1 x7 false x406000 x406001 x406002 x406003 x406004 x406005))) else (hopmeshlaw34_ConflictLargest.j4 k x1 x7 true x406000 x406001 x406002 x406003 x406004 x406005)))
def hopmeshlaw34_ConflictLargest.j4 : Nat → List (S44) → List Int → Bool → Int → List (List Int) → Int → Int → List (S44) → List Int → Option (Bool)
 | 0, _, _, _, _, _, _, _, _, _ => none
 | k + 1, x1, x7, x110, x406000, x406001, x406002, x406003, x406004, x406005 => if x110 = true then (some false) else (if (x1.length : Int) = 0 then (some ((x7.length : Int) == 0)) else (if 0 ≤ (wrap64 ((x1.length : Int) - 1)) then (if (wrap64 ((x1.length : Int) - 1)) ≤ (x1.length : Int) then ((conflict_Largest.f k x406000 x406001 x406002 x406003 x406004 x406005 (x1.take ((wrap64 ((x1.length : Int) - 1)) : Int).toNat)).bind fun bt431 => (if bt431.2 = 0 then (if (bt431.1.length : Int) ≤ (x7.length : Int) then (some (decide ((x7.length : Int) ≤ (wrap64 ((bt431.1.length : Int) + 1))))) else (some false)) else (some false))) else (none)) else (none)))
end
def hopmeshlaw34_ConflictLargest.f (k : Nat) (a0_0 : Int) (l0_1 : List (List Int)) (a0_2 : Int) (a0_3 : Int) (l0_4 : List (S44)) (l0_5 : List Int) (l1 : List (S44)) (a2 : Int) : Option (Bool) := (hopmeshlaw34_awake.f).bind fun t406 => (if t406 = true then ((hopmeshref31_Few.f k a0_0 l0_1 a0_2 a0_3 l0_4 l0_5).bind fun t407 => (if t407 = true then (if (l1.length : Int) > 8 then (hopmeshlaw34_ConflictLargest.j0 k l1 a2 true a0_0 l0_1 a0_2 a0_3 l0_4 l0_5) else ((network_Check.f k a0_0 l0_1 a0_2 a0_3 l0_4 l0_5).bind fun t408 => (hopmeshlaw34_ConflictLargest.j0 k l1 a2 (t408 != 0) a0_0 l0_1 a0_2 a0_3 l0_4 l0_5))) else (hopmeshlaw34_ConflictLargest.j0 k l1 a2 true a0_0 l0_1 a0_2 a0_3 l0_4 l0_5))) else (some false))
theorem hopmeshlaw34_ConflictLargest.mono_l : ∀ k, (∀ y0 y1 y2 y3 y4 y5 y6 y7 y8, LeO (hopmeshlaw34_ConflictLargest.j0 k y0 y1 y2 y3 y4 y5 y6 y7 y8) (hopmeshlaw34_ConflictLargest.j0 (k + 1) y0 y1 y2 y3 y4 y5 y6 y7 y8)) ∧ (∀ y0 y1 y2 y3 y4 y5 y6 y7 y8 y9, LeO (hopmeshlaw34_ConflictLargest.j1 k y0 y1 y2 y3 y4 y5 y6 y7 y8 y9) (hopmeshlaw34_ConflictLargest.j1 (k + 1) y0 y1 y2 y3 y4 y5 y6 y7 y8 y9)) ∧ (∀ y0 y1 y2 y3 y4 y5 y6 y7 y8 y9 y10 y11 y12, LeO (hopmeshlaw34_ConflictLargest.l0 k y0 y1 y2 y3 y4 y5 y6 y7 y8 y9 y10 y11 y12) (hopmeshlaw34_ConflictLargest.l0 (k + 1) y0 y1 y2 y3 y4 y5 y6 y7 y8 y9 y10 y11 y12)) ∧ (∀ y0 y1 y2 y3 y4 y5 y6 y7 y8 y9 y10 y11 y12 y13, LeO (hopmeshlaw34_ConflictLargest.l1 k y0 y1 y2 y3 y4 y5 y6 y7 y8 y9 y10 y11 y12 y13) (hopmeshlaw34_ConflictLargest.l1 (k + 1) y0 y1 y2 y3 y4 y5 y6 y7 y8 y9 y10 y11 y12 y13)) ∧ (∀ y0 y1 y2 y3 y4 y5 y6 y7 y8, LeO (hopmeshlaw34_ConflictLargest.j4 k y0 y1 y2 y3 y4 y5 y6 y7 y8) (hopmeshlaw34_ConflictLargest.j4 (k + 1) y0 y1 y2 y3 y4 y5 y6 y7 y8))
 | 0 => ⟨fun _ _ _ _ _ _ _ _ _ r h => by simp [hopmeshlaw34_ConflictLargest.j0] at h, fun _ _ _ _ _ _ _ _ _ _ r h => by simp [hopmeshlaw34_ConflictLargest.j1] at h, fun _ _ _ _ _ _ _ _ _ _ _ _ _ r h => by simp [hopmeshlaw34_ConflictLargest.l0] at h, fun _ _ _ _ _ _ _ _ _ _ _ _ _ _ r h => by simp [hopmeshlaw34_ConflictLargest.l1] at h, fun _ _ _ _ _ _ _ _ _ r h => by simp [hopmeshlaw34_ConflictLargest.j4] at h⟩
 | k + 1 => by
  obtain ⟨ih0, ih1, ih2, ih3, ih4⟩ := hopmeshlaw34_ConflictLargest.mono_l k
  refine ⟨?_, ?_, ?_, ?_, ?_⟩
  ·
   intro y0 y1 y2 y3 y4 y5 y6 y7 y8
   unfold hopmeshlaw34_ConflictLargest.j0
   repeat' first
   | (with_reducible exact ih0 _ _ _ _ _ _ _ _ _)
   | (with_reducible exact ih1 _ _ _ _ _ _ _ _ _ _)
   | (with_reducible exact ih2 _ _ _ _ _ _ _ _ _ _ _ _ _)
   | (with_reducible exact ih3 _ _ _ _ _ _ _ _ _ _ _ _ _ _)
   | (with_reducible exact ih4 _ _ _ _ _ _ _ _ _)
   | (with_reducible exact conflict_Good.mono _ _ _ _ _ _ _ _)
   | (with_reducible exact conflict_Largest.mono _ _ _ _ _ _ _ _)
   | (with_reducible exact hopmeshref31_Few.mono _ _ _ _ _ _ _)
   | (with_reducible exact network_Check.mono _ _ _ _ _ _ _)
   | (with_reducible exact slices_IsSorted_int_int.mono _ _)
   | (with_reducible exact LeO.refl _)
   | (with_reducible exact LeO.none _)
   | (with_reducible refine LeO.ite ?_ ?_)
   | (with_reducible refine LeO.bind ?_ (fun _ => ?_))
   | exact ih0 _ _ _ _ _ _ _ _ _
   | exact ih1 _ _ _ _ _ _ _ _ _ _
   | exact ih2 _ _ _ _ _ _ _ _ _ _ _ _ _
   | exact ih3 _ _ _ _ _ _ _ _ _ _ _ _ _ _
   | exact ih4 _ _ _ _ _ _ _ _ _
   | exact conflict_Good.mono _ _ _ _ _ _ _ _
   | exact conflict_Largest.mono _ _ _ _ _ _ _ _
   | exact hopmeshref31_Few.mono _ _ _ _ _ _ _
   | exact network_Check.mono _ _ _ _ _ _ _
   | exact slices_IsSorted_int_int.mono _ _
   | exact LeO.none _
   | refine LeO.ite ?_ ?_
   | refine LeO.bind ?_ (fun _ => ?_)
  ·
   intro y0 y1 y2 y3 y4 y5 y6 y7 y8 y9
   unfold hopmeshlaw34_ConflictLargest.j1
   repeat' first
   | (with_reducible exact ih0 _ _ _ _ _ _ _ _ _)
   | (with_reducible exact ih1 _ _ _ _ _ _ _ _ _ _)
   | (with_reducible exact ih2 _ _ _ _ _ _ _ _ _ _ _ _ _)
   | (with_reducible exact ih3 _ _ _ _ _ _ _ _ _ _ _ _ _ _)
   | (with_reducible exact ih4 _ _ _ _ _ _ _ _ _)
   | (with_reducible exact conflict_Good.mono _ _ _ _ _ _ _ _)
   | (with_reducible exact conflict_Largest.mono _ _ _ _ _ _ _ _)
   | (with_reducible exact hopmeshref31_Few.mono _ _ _ _ _ _ _)
   | (with_reducible exact network_Check.mono _ _ _ _ _ _ _)
   | (with_reducible exact slices_IsSorted_int_int.mono _ _)
   | (with_reducible exact LeO.refl _)
   | (with_reducible exact LeO.none _)
   | (with_reducible refine LeO.ite ?_ ?_)
   | (with_reducible refine LeO.bind ?_ (fun _ => ?_))
   | exact ih0 _ _ _ _ _ _ _ _ _
   | exact ih1 _ _ _ _ _ _ _ _ _ _
   | exact ih2 _ _ _ _ _ _ _ _ _ _ _ _ _
   | exact ih3 _ _ _ _ _ _ _ _ _ _ _ _ _ _
   | exact ih4 _ _ _ _ _ _ _ _ _
   | exact conflict_Good.mono _ _ _ _ _ _ _ _
   | exact conflict_Largest.mono _ _ _ _ _ _ _ _
   | exact hopmeshref31_Few.mono _ _ _ _ _ _ _
   | exact network_Check.mono _ _ _ _ _ _ _
   | exact slices_IsSorted_int_int.mono _ _
   | exact LeO.none _
   | refine LeO.ite ?_ ?_
   | refine LeO.bind ?_ (fun _ => ?_)
  ·
   intro y0 y1 y2 y3 y4 y5 y6 y7 y8 y9 y10 y11 y12
   unfold hopmeshlaw34_ConflictLargest.l0
   repeat' first
   | (with_reducible exact ih0 _ _ _ _ _ _ _ _ _)
   | (with_reducible exact ih1 _ _ _ _ _ _ _ _ _ _)
   | (with_reducible exact ih2 _ _ _ _ _ _ _ _ _ _ _ _ _)
   | (with_reducible exact ih3 _ _ _ _ _ _ _ _ _ _ _ _ _ _)
   | (with_reducible exact ih4 _ _ _ _ _ _ _ _ _)
   | (with_reducible exact conflict_Good.mono _ _ _ _ _ _ _ _)
   | (with_reducible exact conflict_Largest.mono _ _ _ _ _ _ _ _)
   | (with_reducible exact hopmeshref31_Few.mono _ _ _ _ _ _ _)
   | (with_reducible exact network_Check.mono _ _ _ _ _ _ _)
   | (with_reducible exact slices_IsSorted_int_int.mono _ _)
   | (with_reducible exact LeO.refl _)
   | (with_reducible exact LeO.none _)
   | (with_reducible refine LeO.ite ?_ ?_)
   | (with_reducible refine LeO.bind ?_ (fun _ => ?_))
   | exact ih0 _ _ _ _ _ _ _ _ _
   | exact ih1 _ _ _ _ _ _ _ _ _ _
   | exact ih2 _ _ _ _ _ _ _ _ _ _ _ _ _
   | exact ih3 _ _ _ _ _ _ _ _ _ _ _ _ _ _
   | exact ih4 _ _ _ _ _ _ _ _ _
   | exact conflict_Good.mono _ _ _ _ _ _ _ _
   | exact conflict_Largest.mono _ _ _ _ _ _ _ _
   | exact hopmeshref31_Few.mono _ _ _ _ _ _ _
   | exact network_Check.mono _ _ _ _ _ _ _
   | exact slices_IsSorted_int_int.mono _ _
   | exact LeO.none _
   | refine LeO.ite ?_ ?_
   | refine LeO.bind ?_ (fun _ => ?_)
  ·
   intro y0 y1 y2 y3 y4 y5 y6 y7 y8 y9 y10 y11 y12 y13
   unfold hopmeshlaw34_ConflictLargest.l1
   repeat' first
   | (with_reducible exact ih0 _ _ _ _ _ _ _ _ _)
   | (with_reducible exact ih1 _ _ _ _ _ _ _ _ _ _)
   | (with_reducible exact ih2 _ _ _ _ _ _ _ _ _ _ _ _ _)
   | (with_reducible exact ih3 _ _ _ _ _ _ _ _ _ _ _ _ _ _)
   | (with_reducible exact ih4 _ _ _ _ _ _ _ _ _)
   | (with_reducible exact conflict_Good.mono _ _ _ _ _ _ _ _)
   | (with_reducible exact conflict_Largest.mono _ _ _ _ _ _ _ _)
   | (with_reducible exact hopmeshref31_Few.mono _ _ _ _ _ _ _)
   | (with_reducible exact network_Check.mono _ _ _ _ _ _ _)
   | (with_reducible exact slices_IsSorted_int_int.mono _ _)
   | (with_reducible exact LeO.refl _)
   | (with_reducible exact LeO.none _)
   | (with_reducible refine LeO.ite ?_ ?_)
   | (with_reducible refine LeO.bind ?_ (fun _ => ?_))
   | exact ih0 _ _ _ _ _ _ _ _ _
   | exact ih1 _ _ _ _ _ _ _ _ _ _
   | exact ih2 _ _ _ _ _ _ _ _ _ _ _ _ _
   | exact ih3 _ _ _ _ _ _ _ _ _ _ _ _ _ _
   | exact ih4 _ _ _ _ _ _ _ _ _
   | exact conflict_Good.mono _ _ _ _ _ _ _ _
   | exact conflict_Largest.mono _ _ _ _ _ _ _ _
   | exact hopmeshref31_Few.mono _ _ _ _ _ _ _
   | exact network_Check.mono _ _ _ _ _ _ _
   | exact slices_IsSorted_int_int.mono _ _
   | exact LeO.none _
   | refine LeO.ite ?_ ?_
   | refine LeO.bind ?_ (fun _ => ?_)
  ·
   intro y0 y1 y2 y3 y4 y5 y6 y7 y8
   unfold hopmeshlaw34_ConflictLargest.j4
   repeat' first
   | (with_reducible exact ih0 _ _ _ _ _ _ _ _ _)
   | (with_reducible exact ih1 _ _ _ _ _ _ _ _ _ _)
   | (with_reducible exact ih2 _ _ _ _ _ _ _ _ _ _ _ _ _)
   | (with_reducible exact ih3 _ _ _ _ _ _ _ _ _ _ _ _ _ _)
   | (with_reducible exact ih4 _ _ _ _ _ _ _ _ _)
   | (with_reducible exact conflict_Good.mono _ _ _ _ _ _ _ _)
   | (with_reducible exact conflict_Largest.mono _ _ _ _ _ _ _ _)
   | (with_reducible exact hopmeshref31_Few.mono _ _ _ _ _ _ _)
   | (with_reducible exact network_Check.mono _ _ _ _ _ _ _)
   | (with_reducible exact slices_IsSorted_int_int.mono _ _)
   | (with_reducible exact LeO.refl _)
   | (with_reducible exact LeO.none _)
   | (with_reducible refine LeO.ite ?_ ?_)
   | (with_reducible refine LeO.bind ?_ (fun _ => ?_))
   | exact ih0 _ _ _ _ _ _ _ _ _
   | exact ih1 _ _ _ _ _ _ _ _ _ _
   | exact ih2 _ _ _ _ _ _ _ _ _ _ _ _ _
   | exact ih3 _ _ _ _ _ _ _ _ _ _ _ _ _ _
   | exact ih4 _ _ _ _ _ _ _ _ _
   | exact conflict_Good.mono _ _ _ _ _ _ _ _
   | exact conflict_Largest.mono _ _ _ _ _ _ _ _
   | exact hopmeshref31_Few.mono _ _ _ _ _ _ _
   | exact network_Check.mono _ _ _ _ _ _ _
   | exact slices_IsSorted_int_int.mono _ _
   | exact LeO.none _
   | refine LeO.ite ?_ ?_
   | refine LeO.bind ?_ (fun _ => ?_)
theorem hopmeshlaw34_ConflictLargest.mono : ∀ a0 a1 a2 a3 a4 a5 a6 a7 k, LeO (hopmeshlaw34_ConflictLargest.f k a0 a1 a2 a3 a4 a5 a6 a7) (hopmeshlaw34_ConflictLargest.f (k + 1) a0 a1 a2 a3 a4 a5 a6 a7) := by
 intro a0 a1 a2 a3 a4 a5 a6 a7 k
 obtain ⟨ih0, ih1, ih2, ih3, ih4⟩ := hopmeshlaw34_ConflictLargest.mono_l k
 unfold hopmeshlaw34_ConflictLargest.f
 repeat' first
   | (with_reducible exact ih0 _ _ _ _ _ _ _ _ _)
   | (with_reducible exact ih1 _ _ _ _ _ _ _ _ _ _)
   | (with_reducible exact ih2 _ _ _ _ _ _ _ _ _ _ _ _ _)
   | (with_reducible exact ih3 _ _ _ _ _ _ _ _ _ _ _ _ _ _)
   | (with_reducible exact ih4 _ _ _ _ _ _ _ _ _)
   | (with_reducible exact conflict_Good.mono _ _ _ _ _ _ _ _)
   | (with_reducible exact conflict_Largest.mono _ _ _ _ _ _ _ _)
   | (with_reducible exact hopmeshref31_Few.mono _ _ _ _ _ _ _)
   | (with_reducible exact network_Check.mono _ _ _ _ _ _ _)
   | (with_reducible exact slices_IsSorted_int_int.mono _ _)
   | (with_reducible exact LeO.refl _)
   | (with_reducible exact LeO.none _)
   | (with_reducible refine LeO.ite ?_ ?_)
   | (with_reducible refine LeO.bind ?_ (fun _ => ?_))
   | exact ih0 _ _ _ _ _ _ _ _ _
   | exact ih1 _ _ _ _ _ _ _ _ _ _
   | exact ih2 _ _ _ _ _ _ _ _ _ _ _ _ _
   | exact ih3 _ _ _ _ _ _ _ _ _ _ _ _ _ _
   | exact ih4 _ _ _ _ _ _ _ _ _
   | exact conflict_Good.mono _ _ _ _ _ _ _ _
   | exact conflict_Largest.mono _ _ _ _ _ _ _ _
   | exact hopmeshref31_Few.mono _ _ _ _ _ _ _
   | exact network_Check.mono _ _ _ _ _ _ _
   | exact slices_IsSorted_int_int.mono _ _
   | exact LeO.none _
   | refine LeO.ite ?_ ?_
   | refine LeO.bind ?_ (fun _ => ?_)
def hopmeshlaw34_ConflictLargest.T14 : Bool × List (List Nat × List Nat) := (true, [([], []), ([], []), ([], []), ([1, 2], [1, 2]), ([3], [3]), ([4], [4]), ([], []), ([], []), ([6, 7], [6, 7]), ([8], [8]), ([9], [9]), ([5, 10], [5, 10]), ([11], [11]), ([0, 12], [0, 12]), ([13, 13, 0, 1, 2, 3, 4, 5, 6, 7, 8, 9, 10, 11, 12, 13], [0, 13])])
def hopmeshlaw34_ConflictLargest.B14 : List Nat := [0, 0, 0, 6, 14, 30, 0, 0, 192, 448, 960, 2046, 4094, 8191, 16383]
theorem hopmeshlaw34_ConflictLargest.tab14 : rtab .any (opsOf Try.f9 14) = hopmeshlaw34_ConflictLargest.T14 := by kernel_rfl
theorem hopmeshlaw34_ConflictLargest.bits14 : waitsOk hopmeshlaw34_ConflictLargest.T14.2 hopmeshlaw34_ConflictLargest.B14 = true := by kernel_rfl
def hopmeshlaw34_ConflictLargest.T26 : Bool × List (List Nat × List Nat) := (true, [([], []), ([], []), ([], []), ([2], [2]), ([3], [3]), ([1, 4], [1, 4]), ([0, 5], [0, 5]), ([6], [6]), ([7], [7]), ([7], [7]), ([8, 6, 0, 1, 2, 3, 4, 5, 6, 7, 8], [8]), ([9, 10, 0, 1, 2, 3, 4, 5, 6, 7, 8, 9, 10], [9])])
def hopmeshlaw34_ConflictLargest.B26 : List Nat := [0, 0, 0, 4, 12, 30, 63, 127, 255, 255, 511, 2047]
theorem hopmeshlaw34_ConflictLargest.tab26 : rtab .any (opsOf Try.f9 26) = hopmeshlaw34_ConflictLargest.T26 := by kernel_rfl
theorem hopmeshlaw34_ConflictLargest.bits26 : waitsOk hopmeshlaw34_ConflictLargest.T26.2 hopmeshlaw34_ConflictLargest.B26 = true := by kernel_rfl
set_option maxHeartbeats 8000000 in
set_option maxRecDepth 100000 in
theorem hopmeshlaw34_ConflictLargest.calls (k : Nat) (a0_0 : Int) (A0_1 : Option Addr) (c0_1 : Nat) (l0_1 : List (List Int)) (a0_2 : Int) (a0_3 : Int) (A0_4 : Option Addr) (c0_4 : Nat) (l0_4 : List (S44)) (A0_5 : Option Addr) (c0_5 : Nat) (l0_5 : List Int) (A1 : Option Addr) (c1 : Nat) (l1 : List (S44)) (a2 : Int) (r : Bool) (w : World) (hr0_1 : Kd.C (Kd.slice 3 (Kd.int .i64)) w A0_1 l0_1.length l0_1) (hc0_1 : l0_1.length ≤ c0_1) (hr0_4 : Kd.C k44 w A0_4 l0_4.length l0_4) (hc0_4 : l0_4.length ≤ c0_4) (hr0_5 : Kd.C (Kd.int .i64) w A0_5 l0_5.length l0_5) (hc0_5 : l0_5.length ≤ c0_5) (hr1 : Kd.C k44 w A1 l1.length l1) (hc1 : l1.length ≤ c1) (h : hopmeshlaw34_ConflictLargest.f k a0_0 l0_1 a0_2 a0_3 l0_4 l0_5 l1 a2 = some r) :
  Calls Try.prog 9 #[.agg #[.int .i64 a0_0, .slice A0_1 l0_1.length c0_1, .int .i64 a0_2, .int .i64 a0_3, .slice A0_4 l0_4.length c0_4, .slice A0_5 l0_5.length c0_5], .slice A1 l1.length c1, .int .u8 a2] w fun e w' => e = .returned (.bool r) ∧ Below w.heap.size w w' := by
 have hu26 := Try.underlying26
 have hu36 := Try.underlying36
 have hu44 := Try.underlying44
 have HR0_1 := Aside0.mk hr0_1
 have HC0_1 := Aside0.mk hc0_1
 clear hr0_1 hc0_1
 have HR0_4 := Aside0.mk hr0_4
 have HC0_4 := Aside0.mk hc0_4
 clear hr0_4 hc0_4
 have HR0_5 := Aside0.mk hr0_5
 have HC0_5 := Aside0.mk hc0_5
 clear hr0_5 hc0_5
 have HR1 := Aside0.mk hr1
 have HC1 := Aside0.mk hc1
 clear hr1 hc1
 have HB := Aside0.mk (Below.refl w.heap.size w)
 have H : ((hopmeshlaw34_awake.f).bind fun t406 => (if t406 = true then ((hopmeshref31_Few.f k a0_0 l0_1 a0_2 a0_3 l0_4 l0_5).bind fun t407 => (if t407 = true then (if (l1.length : Int) > 8 then (hopmeshlaw34_ConflictLargest.j0 k l1 a2 true a0_0 l0_1 a0_2 a0_3 l0_4 l0_5) else ((network_Check.f k a0_0 l0_1 a0_2 a0_3 l0_4 l0_5).bind fun t408 => (hopmeshlaw34_ConflictLargest.j0 k l1 a2 (t408 != 0) a0_0 l0_1 a0_2 a0_3 l0_4 l0_5))) else (hopmeshlaw34_ConflictLargest.j0 k l1 a2 true a0_0 l0_1 a0_2 a0_3 l0_4 l0_5))) else (some false))) = some r := h
 clear h
 replace H := Option.bind_eq_some_iff.mp H
 obtain ⟨t406, A40, H⟩ := H
 replace H : (if t406 = true then ((hopmeshref31_Few.f k a0_0 l0_1 a0_2 a0_3 l0_4 l0_5).bind fun t407 => (if t407 = true then (if (l1.length : Int) > 8 then (hopmeshlaw34_ConflictLargest.j0 k l1 a2 true a0_0 l0_1 a0_2 a0_3 l0_4 l0_5) else ((network_Check.f k a0_0 l0_1 a0_2 a0_3 l0_4 l0_5).bind fun t408 => (hopmeshlaw34_ConflictLargest.j0 k l1 a2 (t408 != 0) a0_0 l0_1 a0_2 a0_3 l0_4 l0_5))) else (hopmeshlaw34_ConflictLargest.j0 k l1 a2 true a0_0 l0_1 a0_2 a0_3 l0_4 l0_5))) else (some false)) = some r := H
 have A4 := Aside0.mk A40
 clear A40
 by_cases c5 : t406 = true
 ·
  subst c5
  have H1 : ((hopmeshref31_Few.f k a0_0 l0_1 a0_2 a0_3 l0_4 l0_5).bind fun t407 => (if t407 = true then (if (l1.length : Int) > 8 then (hopmeshlaw34_ConflictLargest.j0 k l1 a2 true a0_0 l0_1 a0_2 a0_3 l0_4 l0_5) else ((network_Check.f k a0_0 l0_1 a0_2 a0_3 l0_4 l0_5).bind fun t408 => (hopmeshlaw34_ConflictLargest.j0 k l1 a2 (t408 != 0) a0_0 l0_1 a0_2 a0_3 l0_4 l0_5))) else (hopmeshlaw34_ConflictLargest.j0 k l1 a2 true a0_0 l0_1 a0_2 a0_3 l0_4 l0_5))) = some r := by rw [if_pos rfl] at H; exact H
  clear H
  have H := H1
  clear H1
  have HC6 := Aside0.mk H
  clear H
  go_enter Try.func9, Try.ntmps9
  go_upto_region 3 with (first | ((with_reducible refine gate_dst (N := 3) rfl ?_); refine bx_ 3 #[.int .i64 a0_0, .slice A0_1 l0_1.length c0_1, .int .i64 a0_2, .int .i64 a0_3, .slice A0_4 l0_4.length c0_4, .slice A0_5 l0_5.length c0_5] 26 ?_; intro gb405 hg w7 hbox hb; have n0_ := Aside0.mk (below_step hb_ hb); have n1_ := Aside0.mk (hbox); have n2_ := Aside0.mk ((by rw [hg]; exact (below_size hb_) : w.heap.size ≤ gb405)); have n3_ := Aside0.mk ((by rw [hg]; exact (below_size hb_) : w.heap.size ≤ gb405)); clear HB; have HB := n0_; have BK405 := n1_; have GW405 := n2_; have GE405 := n3_; clear n0_ n1_ n2_ n3_; clear hb hbox hg) | ((with_reducible refine gate_callee (f := 11) rfl ?_); refine goesL_ (some 17) rfl rfl Try.func11 (by kernel_rfl) rfl #[] rfl am_ ?_; (with_reducible refine (hopmeshlaw34_awake.calls  true _ A4.out).mono ?_); rintro e w8 ⟨rfl, hb⟩; refine ⟨_, rfl, ?_⟩; have n0_ := bk_ BK405 hb; have n1_ := Aside0.mk (below_step hb_ hb); clear BK405; clear HB; have BK405 := n0_; have HB := n1_; clear n0_ n1_; (try clear hb); (try clear hb2); (try clear hk); (try clear hi)))
  (try simp only [Act.put, List.setIfInBounds_toArray, List.set_cons_zero, List.set_cons_succ])
  go_cut [31] (fun v31 wc => ∃ (kq : Nat) (x31_5 : Bool), v31 = .bool x31_5 ∧ Aside0 (hopmeshlaw34_ConflictLargest.j0 kq l1 a2 x31_5 a0_0 l0_1 a0_2 a0_3 l0_4 l0_5 = some r) ∧ Aside0 (kq ≤ k) ∧ Aside0 (wc.heap[gb405]? = some (.cells #[.int .i64 a0_0, (.slice A0_1 l0_1.length c0_1), .int .i64 a0_2, .int .i64 a0_3, (.slice A0_4 l0_4.length c0_4), (.slice A0_5 l0_5.length c0_5)] 26 (0, 0))) ∧ Aside0 (Below w.heap.size w wc))
  case first =>
   have H := HC6.out
   clear HC6
   replace H := Option.bind_eq_some_iff.mp H
   obtain ⟨t407, A90, H⟩ := H
   replace H : (if t407 = true then (if (l1.length : Int) > 8 then (hopmeshlaw34_ConflictLargest.j0 k l1 a2 true a0_0 l0_1 a0_2 a0_3 l0_4 l0_5) else ((network_Check.f k a0_0 l0_1 a0_2 a0_3 l0_4 l0_5).bind fun t408 => (hopmeshlaw34_ConflictLargest.j0 k l1 a2 (t408 != 0) a0_0 l0_1 a0_2 a0_3 l0_4 l0_5))) else (hopmeshlaw34_ConflictLargest.j0 k l1 a2 true a0_0 l0_1 a0_2 a0_3 l0_4 l0_5)) = some r := H
   have A9 := Aside0.mk A90
   clear A90
   by_cases c10 : t407 = true
   ·
    subst c10
    have H1 : (if (l1.length : Int) > 8 then (hopmeshlaw34_ConflictLargest.j0 k l1 a2 true a0_0 l0_1 a0_2 a0_3 l0_4 l0_5) else ((network_Check.f k a0_0 l0_1 a0_2 a0_3 l0_4 l0_5).bind fun t408 => (hopmeshlaw34_ConflictLargest.j0 k l1 a2 (t408 != 0) a0_0 l0_1 a0_2 a0_3 l0_4 l0_5))) = some r := by rw [if_pos rfl] at H; exact H
    clear H
    have H := H1
    clear H1
    by_cases c11 : (l1.length : Int) > 8
    ·
     rw [if_pos c11] at H
     have c11b0 : decide (8 < (l1.length : Int)) = true := decide_eq_true c11
     have c11b1 : decide (8 < l1.length) = true := decide_eq_true (by omega)
     clear c11
     (first | rw [c11b0] | (simp only [i64_w, i32_w]; rw [c11b0]) | skip)
     have H' := Aside0.mk H
     clear H
     have hcz12_0 := bc0 BK405
     have hcz12_1 := bc1 BK405
     have hcz12_2 := bc2 BK405
     have hcz12_3 := bc3 BK405
     have hcz12_4 := bc4 BK405
     have hcz12_5 := bc5 BK405
     have hfz12_0 := blk_frozen BK405.out 0
     have hfz12_1 := blk_frozen BK405.out 1
     have hfz12_2 := blk_frozen BK405.out 2
     have hfz12_3 := blk_frozen BK405.out 3
     have hfz12_4 := blk_frozen BK405.out 4
     have hfz12_5 := blk_frozen BK405.out 5
     go_wp2_with (first | ((with_reducible refine gate_callee (f := 12) rfl ?_); refine goesL_ (some 20) rfl rfl Try.func12 (by kernel_rfl) rfl #[.agg #[.int .i64 a0_0, .slice A0_1 l0_1.length c0_1, .int .i64 a0_2, .int .i64 a0_3, .slice A0_4 l0_4.length c0_4, .slice A0_5 l0_5.length c0_5]] rfl am_ ?_; (with_reducible refine (hopmeshref31_Few.calls k a0_0 _ _ l0_1 a0_2 a0_3 _ _ l0_4 _ _ l0_5 true _ ?side1 ?side2 ?side3 ?side4 ?side5 ?side6 A9.out).mono ?_); (case side1 | side3 | side5 => exact cb_); (case side2 | side4 | side6 => first | exact HC0_1.out | exact HC0_4.out | exact HC0_5.out); rintro e w13 ⟨rfl, hb⟩; refine ⟨_, rfl, ?_⟩; have n0_ := bk_ BK405 hb; have n1_ := Aside0.mk (below_step hb_ hb); clear BK405; clear HB; have BK405 := n0_; have HB := n1_; clear n0_ n1_; (try clear hb); (try clear hb2); (try clear hk); (try clear hi)))
     go_meet
     case rel => exact ⟨_, (true), rl_, H', ⟨by first | omega | exact Nat.le_refl _⟩, ⟨bj_ BK405⟩, ⟨hb_⟩⟩
    ·
     rw [if_neg c11] at H
     have c11b0 : decide (8 < (l1.length : Int)) = false := decide_eq_false c11
     have c11b1 : decide (8 < l1.length) = false := decide_eq_false (by omega)
     clear c11
     (first | rw [c11b0] | (simp only [i64_w, i32_w]; rw [c11b0]) | skip)
     replace H := Option.bind_eq_some_iff.mp H
     obtain ⟨t408, A140, H⟩ := H
     replace H : (hopmeshlaw34_ConflictLargest.j0 k l1 a2 (t408 != 0) a0_0 l0_1 a0_2 a0_3 l0_4 l0_5) = some r := H
     have A14 := Aside0.mk A140
     clear A140
     have H' := Aside0.mk H
     clear H
     have hcz15_0 := bc0 BK405
     have hcz15_1 := bc1 BK405
     have hcz15_2 := bc2 BK405
     have hcz15_3 := bc3 BK405
     have hcz15_4 := bc4 BK405
     have hcz15_5 := bc5 BK405
     have hfz15_0 := blk_frozen BK405.out 0
     have hfz15_1 := blk_frozen BK405.out 1
     have hfz15_2 := blk_frozen BK405.out 2
     have hfz15_3 := blk_frozen BK405.out 3
     have hfz15_4 := blk_frozen BK405.out 4
     have hfz15_5 := blk_frozen BK405.out 5
     go_wp2_with (first | ((with_reducible refine gate_callee (f := 12) rfl ?_); refine goesL_ (some 20) rfl rfl Try.func12 (by kernel_rfl) rfl #[.agg #[.int .i64 a0_0, .slice A0_1 l0_1.length c0_1, .int .i64 a0_2, .int .i64 a0_3, .slice A0_4 l0_4.length c0_4, .slice A0_5 l0_5.length c0_5]] rfl am_ ?_; (with_reducible refine (hopmeshref31_Few.calls k a0_0 _ _ l0_1 a0_2 a0_3 _ _ l0_4 _ _ l0_5 true _ ?side1 ?side2 ?side3 ?side4 ?side5 ?side6 A9.out).mono ?_); (case side1 | side3 | side5 => exact cb_); (case side2 | side4 | side6 => first | exact HC0_1.out | exact HC0_4.out | exact HC0_5.out); rintro e w16 ⟨rfl, hb⟩; refine ⟨_, rfl, ?_⟩; have n0_ := bk_ BK405 hb; have n1_ := Aside0.mk (below_step hb_ hb); clear BK405; clear HB; have BK405 := n0_; have HB := n1_; clear n0_ n1_; (try clear hb); (try clear hb2); (try clear hk); (try clear hi); have hcz17_0 := bc0 BK405; have hcz17_1 := bc1 BK405; have hcz17_2 := bc2 BK405; have hcz17_3 := bc3 BK405; have hcz17_4 := bc4 BK405; have hcz17_5 := bc5 BK405; have hfz17_0 := blk_frozen BK405.out 0; have hfz17_1 := blk_frozen BK405.out 1; have hfz17_2 := blk_frozen BK405.out 2; have hfz17_3 := blk_frozen BK405.out 3; have hfz17_4 := blk_frozen BK405.out 4; have hfz17_5 := blk_frozen BK405.out 5) | (go_at_call 15; (with_reducible refine (network_Check.calls k a0_0 _ _ l0_1 a0_2 a0_3 _ _ l0_4 _ _ l0_5 t408 _ ?side1 ?side2 ?side3 ?side4 ?side5 ?side6 A14.out).mono ?_); (case side1 | side3 | side5 => exact cb_); (case side2 | side4 | side6 => first | exact HC0_1.out | exact HC0_4.out | exact HC0_5.out); rintro e w18 ⟨rfl, hb⟩; have n0_ := bk_ BK405 hb; have n1_ := Aside0.mk (below_step hb_ hb); clear BK405; clear HB; have BK405 := n0_; have HB := n1_; clear n0_ n1_; (try clear hb); (try clear hb2); (try clear hk); (try clear hi)))
     go_meet
     case rel => exact ⟨_, ((t408 != 0)), rl_, H', ⟨by first | omega | exact Nat.le_refl _⟩, ⟨bj_ BK405⟩, ⟨hb_⟩⟩
   ·
    replace c10 := Bool.eq_false_iff.mpr c10
    subst c10
    have H1 : (hopmeshlaw34_ConflictLargest.j0 k l1 a2 true a0_0 l0_1 a0_2 a0_3 l0_4 l0_5) = some r := by rw [if_neg (show ¬ (false = true) by decide)] at H; exact H
    clear H
    have H := H1
    clear H1
    have H' := Aside0.mk H
    clear H
    have hcz19_0 := bc0 BK405
    have hcz19_1 := bc1 BK405
    have hcz19_2 := bc2 BK405
    have hcz19_3 := bc3 BK405
    have hcz19_4 := bc4 BK405
    have hcz19_5 := bc5 BK405
    have hfz19_0 := blk_frozen BK405.out 0
    have hfz19_1 := blk_frozen BK405.out 1
    have hfz19_2 := blk_frozen BK405.out 2
    have hfz19_3 := blk_frozen BK405.out 3
    have hfz19_4 := blk_frozen BK405.out 4
    have hfz19_5 := blk_frozen BK405.out 5
    go_wp2_with (first | ((with_reducible refine gate_callee (f := 12) rfl ?_); refine goesL_ (some 20) rfl rfl Try.func12 (by kernel_rfl) rfl #[.agg #[.int .i64 a0_0, .slice A0_1 l0_1.length c0_1, .int .i64 a0_2, .int .i64 a0_3, .slice A0_4 l0_4.length c0_4, .slice A0_5 l0_5.length c0_5]] rfl am_ ?_; (with_reducible refine (hopmeshref31_Few.calls k a0_0 _ _ l0_1 a0_2 a0_3 _ _ l0_4 _ _ l0_5 false _ ?side1 ?side2 ?side3 ?side4 ?side5 ?side6 A9.out).mono ?_); (case side1 | side3 | side5 => exact cb_); (case side2 | side4 | side6 => first | exact HC0_1.out | exact HC0_4.out | exact HC0_5.out); rintro e w20 ⟨rfl, hb⟩; refine ⟨_, rfl, ?_⟩; have n0_ := bk_ BK405 hb; have n1_ := Aside0.mk (below_step hb_ hb); clear BK405; clear HB; have BK405 := n0_; have HB := n1_; clear n0_ n1_; (try clear hb); (try clear hb2); (try clear hk); (try clear hi)))
    go_meet
    case rel => exact ⟨_, (true), rl_, H', ⟨by first | omega | exact Nat.le_refl _⟩, ⟨bj_ BK405⟩, ⟨hb_⟩⟩
  case rest =>
   clear HC6
   try clear c1; try clear p2; try clear c5; try clear c9; try clear c10; try clear c11; try clear c11b0; try clear c11b1; try clear c12; try clear hcz12_0; try clear hcz12_1; try clear hcz12_2; try clear hcz12_3; try clear hcz12_4; try clear hcz12_5; try clear hcz15_0; try clear hcz15_1; try clear hcz15_2; try clear hcz15_3; try clear hcz15_4; try clear hcz15_5; try clear hcz17_0; try clear hcz17_1; try clear hcz17_2; try clear hcz17_3; try clear hcz17_4; try clear hcz17_5; try clear hcz19_0; try clear hcz19_1; try clear hcz19_2; try clear hcz19_3; try clear hcz19_4; try clear hcz19_5; try clear hfz12_0; try clear hfz12_1; try clear hfz12_2; try clear hfz12_3; try clear hfz12_4; try clear hfz12_5; try clear hfz15_0; try clear hfz15_1; try clear hfz15_2; try clear hfz15_3; try clear hfz15_4; try clear hfz15_5; try clear hfz17_0; try clear hfz17_1; try clear hfz17_2; try clear hfz17_3; try clear hfz17_4; try clear hfz17_5; try clear hfz19_0; try clear hfz19_1; try clear hfz19_2; try clear hfz19_3; try clear hfz19_4; try clear hfz19_5
   (repeat clear BK405); (repeat clear HB)
   obtain ⟨kq, x31_5, rfl, HA, HJ5, BK405, HB⟩ := hcut
   cases kq with
   | zero => exact absurd HA.out (by simp [hopmeshlaw34_ConflictLargest.j0])
   | succ kj5 =>
    have H := HA.out
    clear HA
    simp only [hopmeshlaw34_ConflictLargest.j0] at H
    by_cases c21 : x31_5 = true
    ·
     subst c21
     have H1 : (some true) = some r := by rw [if_pos rfl] at H; exact H
     clear H
     have H := H1
     clear H1
     obtain rfl := Option.some.inj H
     go_wp2
     go_ret
     exact ⟨er_, hb_⟩
    ·
     replace c21 := Bool.eq_false_iff.mpr c21
     subst c21
     have H1 : ((conflict_Largest.f kj5 a0_0 l0_1 a0_2 a0_3 l0_4 l0_5 l1).bind fun bt409 => (if bt409.2 = 0 then ((slices_IsSorted_int_int.f kj5 bt409.1).bind fun t413 => (hopmeshlaw34_ConflictLargest.j1 kj5 l1 a2 bt409.1 (!t413) a0_0 l0_1 a0_2 a0_3 l0_4 l0_5)) else (hopmeshlaw34_ConflictLargest.j1 kj5 l1 a2 bt409.1 true a0_0 l0_1 a0_2 a0_3 l0_4 l0_5))) = some r := by rw [if_neg (show ¬ (false = true) by decide)] at H; exact H
     clear H
     have H := H1
     clear H1
     replace H := Option.bind_eq_some_iff.mp H
     obtain ⟨⟨t409, t412⟩, A220, H⟩ := H
     replace H : (if t412 = 0 then ((slices_IsSorted_int_int.f kj5 t409).bind fun t413 => (hopmeshlaw34_ConflictLargest.j1 kj5 l1 a2 t409 (!t413) a0_0 l0_1 a0_2 a0_3 l0_4 l0_5)) else (hopmeshlaw34_ConflictLargest.j1 kj5 l1 a2 t409 true a0_0 l0_1 a0_2 a0_3 l0_4 l0_5)) = some r := H
     have A22 := Aside0.mk A220
     clear A220
     have HC23 := Aside0.mk H
     clear H
     have hcz24_0 := bc0 BK405
     have hcz24_1 := bc1 BK405
     have hcz24_2 := bc2 BK405
     have hcz24_3 := bc3 BK405
     have hcz24_4 := bc4 BK405
     have hcz24_5 := bc5 BK405
     have hfz24_0 := blk_frozen BK405.out 0
     have hfz24_1 := blk_frozen BK405.out 1
     have hfz24_2 := blk_frozen BK405.out 2
     have hfz24_3 := blk_frozen BK405.out 3
     have hfz24_4 := blk_frozen BK405.out 4
     have hfz24_5 := blk_frozen BK405.out 5
     go_upto_region 6 with (first | ((with_reducible refine gate_callee (f := 28) rfl ?_); refine goesL_ (some 35) rfl rfl Try.func28 (by kernel_rfl) rfl #[.agg #[.int .i64 a0_0, .slice A0_1 l0_1.length c0_1, .int .i64 a0_2, .int .i64 a0_3, .slice A0_4 l0_4.length c0_4, .slice A0_5 l0_5.length c0_5], .slice A1 l1.length c1] rfl am_ ?_; (with_reducible refine (conflict_Largest.calls kj5 a0_0 _ _ l0_1 a0_2 a0_3 _ _ l0_4 _ _ l0_5 _ _ l1 t409 t412 _ ?side1 ?side2 ?side3 ?side4 ?side5 ?side6 ?side7 ?side8 A22.out).mono ?_); (case side1 | side3 | side5 | side7 => exact cb_); (case side2 | side4 | side6 | side8 => first | exact HC0_1.out | exact HC0_4.out | exact HC0_5.out | exact HC1.out); rintro e w25 ⟨v410, rfl, ho0, hb⟩; refine ⟨_, rfl, ?_⟩; have n0_ := Aside0.mk (Kd.R_lower ho0 (below_size hb_)); have n1_ := bk_ BK405 hb; have n2_ := Aside0.mk (below_step hb_ hb); clear BK405; clear HB; have HO411 := n0_; have BK405 := n1_; have HB := n2_; clear n0_ n1_ n2_; (try clear hb); (try clear hb2); (try clear hk); (try clear hi); (try clear ho0)))
     (try simp only [Act.put, List.setIfInBounds_toArray, List.set_cons_zero, List.set_cons_succ])
     go_cut [44] (fun v44 wc => ∃ (kq : Nat) (x44_22 : Bool), v44 = .bool x44_22 ∧ Aside0 (hopmeshlaw34_ConflictLargest.j1 kq l1 a2 t409 x44_22 a0_0 l0_1 a0_2 a0_3 l0_4 l0_5 = some r) ∧ Aside0 (kq ≤ kj5) ∧ Aside0 (Kd.R (Kd.int .i64) 3 wc w.heap.size (fun _ => True) v410 t409) ∧ Aside0 (wc.heap[gb405]? = some (.cells #[.int .i64 a0_0, (.slice A0_1 l0_1.length c0_1), .int .i64 a0_2, .int .i64 a0_3, (.slice A0_4 l0_4.length c0_4), (.slice A0_5 l0_5.length c0_5)] 26 (0, 0))) ∧ Aside0 (Below w.heap.size w wc))
     case first =>
      have H := HC23.out
      clear HC23
      by_cases c26 : t412 = 0
      ·
       rw [if_pos c26] at H
       have c26b0 : (t412 == 0) = true := beq_iff_eq.mpr c26
       have c26b1 : (t412 != 0) = false := bne_eq_false_iff_eq.mpr c26
       clear c26
       (first | rw [c26b0] | (simp only [i64_w, i32_w]; rw [c26b0]) | skip)
       replace H := Option.bind_eq_some_iff.mp H
       obtain ⟨t413, A270, H⟩ := H
       replace H : (hopmeshlaw34_ConflictLargest.j1 kj5 l1 a2 t409 (!t413) a0_0 l0_1 a0_2 a0_3 l0_4 l0_5) = some r := H
       have A27 := Aside0.mk A270
       clear A270
       have H' := Aside0.mk H
       clear H
       obtain ⟨Ao28, co28, eo28⟩ := Kd.R_slice HO411.out
       subst eo28
       go_wp2_with (first | (go_at_call 29; (with_reducible refine (slices_IsSorted_int_int.calls kj5 _ _ t409 t413 _ ?side1 ?side2 A27.out).mono ?_); (case side1 => repeat (first | exact (Kd.R_reads' HO411.out).2.2 | (with_reducible refine Kd.C_alloc ?_ _) | (with_reducible refine Kd.C_drewN ?_ _) | (with_reducible refine Kd.C_drew ?_))); (case side2 => exact (Kd.R_reads' HO411.out).2.1); rintro e w' ⟨rfl, ⟨nd, rfl⟩⟩))
       go_meet
       case rel => exact ⟨_, (!t413), rl_, H', ⟨by have := HJ5.out; first | omega | exact Nat.le_refl _⟩, ⟨kr_ HO411⟩, ⟨bj_ BK405⟩, ⟨hb_⟩⟩
      ·
       rw [if_neg c26] at H
       have c26b0 : (t412 == 0) = false := beq_eq_false_iff_ne.mpr c26
       have c26b1 : (t412 != 0) = true := bne_iff_ne.mpr c26
       (first | rw [c26b0] | (simp only [i64_w, i32_w]; rw [c26b0]) | skip)
       have H' := Aside0.mk H
       clear H
       go_wp2
       go_meet
       case rel => exact ⟨_, (true), rl_, H', ⟨by have := HJ5.out; first | omega | exact Nat.le_refl _⟩, ⟨kr_ HO411⟩, ⟨bj_ BK405⟩, ⟨hb_⟩⟩
     case rest =>
      clear HC23
      try clear c1; try clear c2; try clear p2; try clear c5; try clear c9; try clear c10; try clear c11; try clear c11b0; try clear c11b1; try clear c12; try clear c21; try clear c26; try clear c26b0; try clear c26b1; try clear c28; try clear hcz12_0; try clear hcz12_1; try clear hcz12_2; try clear hcz12_3; try clear hcz12_4; try clear hcz12_5; try clear hcz15_0; try clear hcz15_1; try clear hcz15_2; try clear hcz15_3; try clear hcz15_4; try clear hcz15_5; try clear hcz17_0; try clear hcz17_1; try clear hcz17_2; try clear hcz17_3; try clear hcz17_4; try clear hcz17_5; try clear hcz19_0; try clear hcz19_1; try clear hcz19_2; try clear hcz19_3; try clear hcz19_4; try clear hcz19_5; try clear hcz24_0; try clear hcz24_1; try clear hcz24_2; try clear hcz24_3; try clear hcz24_4; try clear hcz24_5; try clear hfz12_0; try clear hfz12_1; try clear hfz12_2; try clear hfz12_3; try clear hfz12_4; try clear hfz12_5; try clear hfz15_0; try clear hfz15_1; try clear hfz15_2; try clear hfz15_3; try clear hfz15_4; try clear hfz15_5; try clear hfz17_0; try clear hfz17_1; try clear hfz17_2; try clear hfz17_3; try clear hfz17_4; try clear hfz17_5; try clear hfz19_0; try clear hfz19_1; try clear hfz19_2; try clear hfz19_3; try clear hfz19_4; try clear hfz19_5; try clear hfz24_0; try clear hfz24_1; try clear hfz24_2; try clear hfz24_3; try clear hfz24_4; try clear hfz24_5; try clear p2
      (repeat clear HO_7); (repeat clear BK405); (repeat clear HB)
      obtain ⟨kq, x44_22, rfl, HA, HJ22, HO_7, BK405, HB⟩ := hcut
      cases kq with
      | zero => exact absurd HA.out (by simp [hopmeshlaw34_ConflictLargest.j1])
      | succ kj22 =>
       have H := HA.out
       clear HA
       simp only [hopmeshlaw34_ConflictLargest.j1] at H
       by_cases c29 : x44_22 = true
       ·
        subst c29
        have H1 : (some false) = some r := by rw [if_pos rfl] at H; exact H
        clear H
        have H := H1
        clear H1
        obtain rfl := Option.some.inj H
        go_wp2
        go_ret
        exact ⟨er_, hb_⟩
       ·
        replace c29 := Bool.eq_false_iff.mpr c29
        subst c29
        have H1 : (hopmeshlaw34_ConflictLargest.l0 kj22 l1 a2 t409 ([] : List (S36)) t409 (t409.length : Int) 0 a0_0 l0_1 a0_2 a0_3 l0_4 l0_5) = some r := by rw [if_neg (show ¬ (false = true) by decide)] at H; exact H
        clear H
        have H := H1
        clear H1
        have H' := Aside0.mk H
        clear H
        obtain ⟨Ao30, co30, eo30⟩ := Kd.R_slice HO_7.out
        subst eo30
        go_wp2
        go_loopg [9, 47] kj22 (fun kq v9 v47 w' => ∃ (x9_3 : List (S36)) (x47_3 : Int), v47 = .int .i64 x47_3 ∧ Aside0 (hopmeshlaw34_ConflictLargest.l0 kq l1 a2 t409 x9_3 t409 (t409.length : Int) x47_3 a0_0 l0_1 a0_2 a0_3 l0_4 l0_5 = some r) ∧ Aside0 (kq ≤ kj22) ∧ Aside0 (Kd.R (Kd.int .i64) 3 w' w.heap.size (fun _ => True) (.slice Ao30 t409.length co30) t409) ∧ Aside0 (Kd.R k36 36 w' w.heap.size (fun _ => True) v9 x9_3) ∧ Aside0 (Kd.R (Kd.int .i64) 3 w' w.heap.size (fun _ => True) (.slice Ao30 t409.length co30) t409) ∧ Aside0 (w'.heap[gb405]? = some (.cells #[.int .i64 a0_0, (.slice A0_1 l0_1.length c0_1), .int .i64 a0_2, .int .i64 a0_3, (.slice A0_4 l0_4.length c0_4), (.slice A0_5 l0_5.length c0_5)] 26 (0, 0))) ∧ Aside0 (Below w.heap.size w w'))
        case atStart => exact ⟨(([] : List (S36))), (0), rl_, H', ⟨Nat.le_refl _⟩, ⟨kr_ HO_7⟩, ⟨by first | exact Kd.R_nil _ _ _ _ _ | exact Kd.N_nil _ _ _ _ _ | exact Kd.V_nil _ _ _ _ _ | exact Kd.Q_nil _ _ _ _ _ | exact Kd.S_nil _ _ _ _ _⟩, ⟨kr_ HO_7⟩, ⟨bj_ BK405⟩, ⟨hb_⟩⟩
        case round =>
         clear H'
         try clear c1; try clear c2; try clear p2; try clear c5; try clear c9; try clear c10; try clear c11; try clear c11b0; try clear c11b1; try clear c12; try clear c21; try clear c26; try clear c26b0; try clear c26b1; try clear c28; try clear c29; try clear hcz12_0; try clear hcz12_1; try clear hcz12_2; try clear hcz12_3; try clear hcz12_4; try clear hcz12_5; try clear hcz15_0; try clear hcz15_1; try clear hcz15_2; try clear hcz15_3; try clear hcz15_4; try clear hcz15_5; try clear hcz17_0; try clear hcz17_1; try clear hcz17_2; try clear hcz17_3; try clear hcz17_4; try clear hcz17_5; try clear hcz19_0; try clear hcz19_1; try clear hcz19_2; try clear hcz19_3; try clear hcz19_4; try clear hcz19_5; try clear hcz24_0; try clear hcz24_1; try clear hcz24_2; try clear hcz24_3; try clear hcz24_4; try clear hcz24_5; try clear hfz12_0; try clear hfz12_1; try clear hfz12_2; try clear hfz12_3; try clear hfz12_4; try clear hfz12_5; try clear hfz15_0; try clear hfz15_1; try clear hfz15_2; try clear hfz15_3; try clear hfz15_4; try clear hfz15_5; try clear hfz17_0; try clear hfz17_1; try clear hfz17_2; try clear hfz17_3; try clear hfz17_4; try clear hfz17_5; try clear hfz19_0; try clear hfz19_1; try clear hfz19_2; try clear hfz19_3; try clear hfz19_4; try clear hfz19_5; try clear hfz24_0; try clear hfz24_1; try clear hfz24_2; try clear hfz24_3; try clear hfz24_4; try clear hfz24_5; try clear p2
         (repeat clear HO_7); (repeat clear HO_9); (repeat clear HO_45); (repeat clear BK405); (repeat clear HB)
         obtain ⟨x9_3, x47_3, rfl, HA, HK3, HO_7, HO_9, HO_45, BK405, HB⟩ := hrel
         cases gk with
         | zero => exact absurd HA.out (by simp [hopmeshlaw34_ConflictLargest.l0])
         | succ k3 =>
          have H := HA.out
          clear HA
          simp only [hopmeshlaw34_ConflictLargest.l0] at H
          by_cases c31 : x47_3 < (t409.length : Int)
          ·
           rw [if_pos c31] at H
           have c31b0 : decide (x47_3 < (t409.length : Int)) = true := decide_eq_true c31
           clear c31
           by_cases c32 : 0 ≤ x47_3
           ·
            rw [if_pos c32] at H
            have c32b0 : decide (0 ≤ x47_3) = true := decide_eq_true c32
            clear c32
            by_cases c33 : x47_3 < (t409.length : Int)
            ·
             rw [if_pos c33] at H
             have c33b0 : decide (x47_3 < (t409.length : Int)) = true := decide_eq_true c33
             clear c33
             by_cases c34 : (rd t409 x47_3) < 0
             ·
              rw [if_pos c34] at H
              have c34b0 : decide ((rd t409 x47_3) < 0) = true := decide_eq_true c34
              clear c34
              obtain rfl := Option.some.inj H
              have p414 : 0 ≤ (x47_3 : Int) := of_decide_eq_true (by assumption)
              have q414 : x47_3 < (t409.length : Int) := of_decide_eq_true (by assumption)
              obtain ⟨ad414, e414, hx414_0⟩ := Kd.at_int (Kd.R_reads' HO_45.out).2.2 x47_3 p414 q414
              cases e414
              replace p414 := eq_true p414
              replace q414 := eq_true q414
              go_wp2
              go_ret
              exact ⟨er_, hb_⟩
             ·
              rw [if_neg c34] at H
              have c34b0 : decide ((rd t409 x47_3) < 0) = false := decide_eq_false c34
              clear c34
              by_cases c35 : (rd t409 x47_3) ≥ (l1.length : Int)
              ·
               rw [if_pos c35] at H
               have c35b0 : decide ((l1.length : Int) ≤ (rd t409 x47_3)) = true := decide_eq_true c35
               clear c35
               obtain rfl := Option.some.inj H
               have p414 : 0 ≤ (x47_3 : Int) := of_decide_eq_true (by assumption)
               have q414 : x47_3 < (t409.length : Int) := of_decide_eq_true (by assumption)
               obtain ⟨ad414, e414, hx414_0⟩ := Kd.at_int (Kd.R_reads' HO_45.out).2.2 x47_3 p414 q414
               cases e414
               replace p414 := eq_true p414
               replace q414 := eq_true q414
               go_wp2
               go_ret
               exact ⟨er_, hb_⟩
              ·
               rw [if_neg c35] at H
               have c35b0 : decide ((l1.length : Int) ≤ (rd t409 x47_3)) = false := decide_eq_false c35
               clear c35
               by_cases c36 : 0 ≤ (rd t409 x47_3)
               ·
                rw [if_pos c36] at H
                have c36b0 : decide (0 ≤ (rd t409 x47_3)) = true := decide_eq_true c36
                clear c36
                by_cases c37 : (rd t409 x47_3) < (l1.length : Int)
                ·
                 rw [if_pos c37] at H
                 have c37b0 : decide ((rd t409 x47_3) < (l1.length : Int)) = true := decide_eq_true c37
                 clear c37
                 by_cases c38 : x9_3.length < 3518437208883
                 ·
                  rw [if_pos c38] at H
                  have LMc38 := Aside0.mk c38
                  clear c38
                  obtain ⟨y417, hy417⟩ : ∃ y_ : List (S36), y_ = (x9_3 ++ [(⟨0, 0, (rd_T44 l1 (rd t409 x47_3)).f0, (rd_T44 l1 (rd t409 x47_3)).f1, 0⟩ : S36)]) := ⟨_, rfl⟩
                  replace H : (hopmeshlaw34_ConflictLargest.l0 k3 l1 a2 t409 y417 t409 (t409.length : Int) (wrap64 (x47_3 + 1)) a0_0 l0_1 a0_2 a0_3 l0_4 l0_5) = some r := by first | (rw [hy417]; with_reducible exact H) | (have H2_ := (Option.bind_some _ _).symm.trans H; rw [hy417]; with_reducible exact H2_) | (have H2_ := (Option.bind_some _ _).symm.trans H; with_reducible exact H2_) | with_reducible exact H | (rw [hy417]; exact H) | exact H
                  have Ny417 := Aside0.mk hy417
                  clear hy417
                  have H' := Aside0.mk H
                  clear H
                  have p414 : 0 ≤ (x47_3 : Int) := of_decide_eq_true (by assumption)
                  have q414 : x47_3 < (t409.length : Int) := of_decide_eq_true (by assumption)
                  obtain ⟨ad414, e414, hx414_0⟩ := Kd.at_int (Kd.R_reads' HO_45.out).2.2 x47_3 p414 q414
                  cases e414
                  replace p414 := eq_true p414
                  replace q414 := eq_true q414
                  try go_wp2
                  have n0_ := Aside0.mk (Kd.R_drew HO_7.out)
                  have n1_ := Aside0.mk (Kd.R_drew HO_9.out)
                  have n2_ := Aside0.mk (Kd.R_drew HO_45.out)
                  have n3_ := Aside0.mk (blk_drew BK405.out)
                  have n4_ := Aside0.mk (below_drew1 HB.out)
                  clear HO_7
                  clear HO_9
                  clear HO_45
                  clear BK405
                  clear HB
                  have HO_7 := n0_
                  have HO_9 := n1_
                  have HO_45 := n2_
                  have BK405 := n3_
                  have HB := n4_
                  clear n0_ n1_ n2_ n3_ n4_
                  have p415 : 0 ≤ ((rd t409 x47_3) : Int) := of_decide_eq_true (by assumption)
                  have q415 : (rd t409 x47_3) < (l1.length : Int) := of_decide_eq_true (by assumption)
                  obtain ⟨ad415, e415, hx415_0, hx415_1, hx415_2⟩ := at_T44 HR1.out (rd t409 x47_3) p415 q415
                  have hw415_2 := hx415_2
                  have hw415_1 := hx415_1
                  have hw415_0 := hx415_0
                  cases e415
                  replace hx415_0 := (HB.out.cell (World.block_lt_of_cell? w _ hx415_0)).trans hx415_0
                  replace hx415_1 := (HB.out.cell (World.block_lt_of_cell? w _ hx415_1)).trans hx415_1
                  replace hx415_2 := (HB.out.cell (World.block_lt_of_cell? w _ hx415_2)).trans hx415_2
                  replace p415 := eq_true p415
                  replace q415 := eq_true q415
                  have p416 : 0 ≤ ((rd t409 x47_3) : Int) := of_decide_eq_true (by assumption)
                  have q416 : (rd t409 x47_3) < (l1.length : Int) := of_decide_eq_true (by assumption)
                  obtain ⟨ad416, e416, hx416_0, hx416_1, hx416_2⟩ := at_T44 HR1.out (rd t409 x47_3) p416 q416
                  have hw416_2 := hx416_2
                  have hw416_1 := hx416_1
                  have hw416_0 := hx416_0
                  obtain rfl : ad415 = ad416 := (by injection e416)
                  replace hx416_0 := (HB.out.cell (World.block_lt_of_cell? w _ hx416_0)).trans hx416_0
                  replace hx416_1 := (HB.out.cell (World.block_lt_of_cell? w _ hx416_1)).trans hx416_1
                  replace hx416_2 := (HB.out.cell (World.block_lt_of_cell? w _ hx416_2)).trans hx416_2
                  replace p416 := eq_true p416
                  replace q416 := eq_true q416
                  refine start_ (n := 15) (S := fun w' => w'.cell? (ad415.add (((rd t409 x47_3)).toNat * 3)) = some (.int .i64 ((rd_T44 l1 (rd t409 x47_3)).f0)) ∧ w'.cell? ⟨(ad415.add (((rd t409 x47_3)).toNat * 3)).block, (ad415.add (((rd t409 x47_3)).toNat * 3)).off + 1, none⟩ = some (.int .i64 ((rd_T44 l1 (rd t409 x47_3)).f1)) ∧ w'.cell? ⟨(ad415.add (((rd t409 x47_3)).toNat * 3)).block, (ad415.add (((rd t409 x47_3)).toNat * 3)).off + 2, none⟩ = some (.int .i64 ((rd_T44 l1 (rd t409 x47_3)).f2)) ∧ w'.cell? (ad415.add (((rd t409 x47_3)).toNat * 3)) = some (.int .i64 ((rd_T44 l1 (rd t409 x47_3)).f0)) ∧ w'.cell? ⟨(ad415.add (((rd t409 x47_3)).toNat * 3)).block, (ad415.add (((rd t409 x47_3)).toNat * 3)).off + 1, none⟩ = some (.int .i64 ((rd_T44 l1 (rd t409 x47_3)).f1)) ∧ w'.cell? ⟨(ad415.add (((rd t409 x47_3)).toNat * 3)).block, (ad415.add (((rd t409 x47_3)).toNat * 3)).off + 2, none⟩ = some (.int .i64 ((rd_T44 l1 (rd t409 x47_3)).f2))) (ds := []) #[false, false, false, false, false, false, false, false, false, false, false, false, false, false, false] (by kernel_rfl) rfl rfl ⟨((HB.out.cell (World.block_lt_of_cell? w _ hw415_0)).trans hw415_0), ((HB.out.cell (World.block_lt_of_cell? w _ hw415_1)).trans hw415_1), ((HB.out.cell (World.block_lt_of_cell? w _ hw415_2)).trans hw415_2), ((HB.out.cell (World.block_lt_of_cell? w _ hw416_0)).trans hw416_0), ((HB.out.cell (World.block_lt_of_cell? w _ hw416_1)).trans hw416_1), ((HB.out.cell (World.block_lt_of_cell? w _ hw416_2)).trans hw416_2)⟩ (fun hHeld => ?_); refine with_tabW hopmeshlaw34_ConflictLargest.tab14 hopmeshlaw34_ConflictLargest.bits14 (fun HT_ HW_ => ?_)
                  generalize wr.drew = w39 at HO_7 HO_9 HO_45 BK405 HB hx415_0 hx415_1 hx415_2 hx416_0 hx416_1 hx416_2 hHeld ⊢
                  refine pu_ HT_ 0 59 (bl 15 1) ?_
                  refine pu_ HT_ 1 60 (bl 15 3) ?_
                  refine pu_ HT_ 2 61 (bl 15 7) ?_
                  refine pu_ HT_ 3 62 (bl 15 15) ?_
                  refine pu_ HT_ 4 63 (bl 15 31) ?_
                  refine pu_ HT_ 6 65 (bl 15 95) ?_
                  refine pu_ HT_ 7 66 (bl 15 223) ?_
                  refine pu_ HT_ 8 67 (bl 15 479) ?_
                  refine pu_ HT_ 9 68 (bl 15 991) ?_
                  refine tk_ HT_ HW_ hHeld 5 64 (bl 15 1023) ?_
                  refine tk_ HT_ HW_ hHeld 10 69 (bl 15 2047) ?_
                  refine pu_ HT_ 11 70 (bl 15 4095) ?_
                  refine one_ (i := 12) (N := some 71) (bl 15 8191) rfl rfl (one_of HT_.out (by kernel_rfl)) (by decide) (fun K hK => ?_)
                  refine value_ (w1 := ?_) (v := ?_) (by rfl) rfl ?_ ?_
                  rotate_left 2
                  ·
                   go_simp
                   constructor
                   ·
                    rfl
                   ·
                    rfl
                  refine hK.out _ _ ⟨(World.cell?_alloc_lt _ _ _ (World.block_lt_of_cell? _ _ (((HB.out.cell (World.block_lt_of_cell? w _ hw415_0)).trans hw415_0)))).trans (((HB.out.cell (World.block_lt_of_cell? w _ hw415_0)).trans hw415_0)), (World.cell?_alloc_lt _ _ _ (World.block_lt_of_cell? _ _ (((HB.out.cell (World.block_lt_of_cell? w _ hw415_1)).trans hw415_1)))).trans (((HB.out.cell (World.block_lt_of_cell? w _ hw415_1)).trans hw415_1)), (World.cell?_alloc_lt _ _ _ (World.block_lt_of_cell? _ _ (((HB.out.cell (World.block_lt_of_cell? w _ hw415_2)).trans hw415_2)))).trans (((HB.out.cell (World.block_lt_of_cell? w _ hw415_2)).trans hw415_2)), (World.cell?_alloc_lt _ _ _ (World.block_lt_of_cell? _ _ (((HB.out.cell (World.block_lt_of_cell? w _ hw416_0)).trans hw416_0)))).trans (((HB.out.cell (World.block_lt_of_cell? w _ hw416_0)).trans hw416_0)), (World.cell?_alloc_lt _ _ _ (World.block_lt_of_cell? _ _ (((HB.out.cell (World.block_lt_of_cell? w _ hw416_1)).trans hw416_1)))).trans (((HB.out.cell (World.block_lt_of_cell? w _ hw416_1)).trans hw416_1)), (World.cell?_alloc_lt _ _ _ (World.block_lt_of_cell? _ _ (((HB.out.cell (World.block_lt_of_cell? w _ hw416_2)).trans hw416_2)))).trans (((HB.out.cell (World.block_lt_of_cell? w _ hw416_2)).trans hw416_2))⟩ (fun hHeld => ?_)
                  clear hK K
                  refine norm_ (a' := ?_) ?_ ?_
                  rotate_left
                  ·
                   show Act.put _ (some 71) _ = _
                   simp only [ap_, s0_, s1_, i64_w]
                   rfl
                  refine one_ (i := 13) (N := some 72) (bl 15 16383) rfl rfl (one_of HT_.out (by kernel_rfl)) (by decide) (fun K hK => ?_)
                  refine Kd.R_append_step k36 (w0 := w) w.heap.size (by rfl) (.tmp 59) (.tmp 71) 27 36 (.agg #[(.int .i64 0), (.int .i64 0), (.int .i64 0), (.int .i64 0), (.int .i64 0)]) 40 rfl Try.underlying27 info36 rfl (by decide) (by omega) u9 x9_3 (⟨0, 0, (rd_T44 l1 (rd t409 x47_3)).f0, (rd_T44 l1 (rd t409 x47_3)).f1, 0⟩ : S36) [.int .i64 0, .int .i64 0, .int .i64 ((rd_T44 l1 (rd t409 x47_3)).f0), .int .i64 ((rd_T44 l1 (rd t409 x47_3)).f1), .int .i64 0] (fun _ => True) (fun _ => False) rfl rfl ?aP (fun _ hk => hk.elim) ?aF ?aO ?aB ?aS ?aL ?_
                  (case aP => exact k36_mkM _ _ _ (⟨0, 0, (rd_T44 l1 (rd t409 x47_3)).f0, (rd_T44 l1 (rd t409 x47_3)).f1, 0⟩ : S36))
                  (case aB => exact hb_)
                  (case aF => exact (fun _ _ => trivial))
                  (case aO => exact (kr_ HO_9))
                  (case aS => exact (below_size hb_))
                  (case aL => have := LMc38.out; omega)
                  intro v418 w40 ho hb hg hat
                  rw [← Ny417.out] at ho
                  have n0_ := Aside0.mk (Kd.R_over' (kr_ HO_7) (Kd.R_typed (kr_ HO_9)) (by decide) hg)
                  have n1_ := Aside0.mk (Kd.R_over' (kr_ HO_45) (Kd.R_typed (kr_ HO_9)) (by decide) hg)
                  have n2_ := Aside0.mk (blk_grown (bj_ BK405) hg (Kd.R_ne HO_9.out BK405.out (by decide)))
                  have n3_ := Aside0.mk (hb)
                  have n4_ := Aside0.mk (ho)
                  clear HO_7
                  clear HO_45
                  clear BK405
                  clear HB
                  clear HO_9
                  have HO_7 := n0_
                  have HO_45 := n1_
                  have BK405 := n2_
                  have HB := n3_
                  have HO419 := n4_
                  clear n0_ n1_ n2_ n3_ n4_
                  clear ho hb hg hat
                  refine hK.out _ _ ⟨((HB.out.cell (World.block_lt_of_cell? w _ hw415_0)).trans hw415_0), ((HB.out.cell (World.block_lt_of_cell? w _ hw415_1)).trans hw415_1), ((HB.out.cell (World.block_lt_of_cell? w _ hw415_2)).trans hw415_2), ((HB.out.cell (World.block_lt_of_cell? w _ hw416_0)).trans hw416_0), ((HB.out.cell (World.block_lt_of_cell? w _ hw416_1)).trans hw416_1), ((HB.out.cell (World.block_lt_of_cell? w _ hw416_2)).trans hw416_2)⟩ (fun hHeld => ?_)
                  clear hK K
                  refine norm_ (a' := ?_) ?_ ?_
                  rotate_left
                  ·
                   show Act.put _ (some 72) _ = _
                   simp only [ap_, s0_, s1_, i64_w]
                   rfl
                  refine pu_ HT_ 14 9 (bl 15 32767) ?_
                  refine done_ (done_of HT_.out (by kernel_rfl)) ?_
                  try go_wp2
                  go_roundg k3
                  case measure => have := HJ5.out; have := HJ22.out; have := HK3.out; omega
                  case rel => exact ⟨(y417), (wrap64 (x47_3 + 1)), rl_, H', ⟨by have := HJ5.out; have := HJ22.out; have := HK3.out; omega⟩, ⟨kr_ HO_7⟩, ⟨kr_ HO419⟩, ⟨kr_ HO_45⟩, ⟨bj_ BK405⟩, ⟨hb_⟩⟩
                 ·
                  rw [if_neg c38] at H
                  exact absurd H (by simp)
                ·
                 rw [if_neg c37] at H
                 exact absurd H (by simp)
               ·
                rw [if_neg c36] at H
                exact absurd H (by simp)
            ·
             rw [if_neg c33] at H
             exact absurd H (by simp)
           ·
            rw [if_neg c32] at H
            exact absurd H (by simp)
          ·
           rw [if_neg c31] at H
           have c31b0 : decide (x47_3 < (t409.length : Int)) = false := decide_eq_false c31
           clear c31
           have H' := Aside0.mk H
           clear H
           go_wp2
           go_loopg [10, 76] k3 (fun kq v10 v76 w' => ∃ (x10_4 : List (S36)) (x76_4 : Int), v76 = .int .i64 x76_4 ∧ Aside0 (hopmeshlaw34_ConflictLargest.l1 kq l1 a2 t409 x9_3 x10_4 l1 (l1.length : Int) x76_4 a0_0 l0_1 a0_2 a0_3 l0_4 l0_5 = some r) ∧ Aside0 (kq ≤ k3) ∧ Aside0 (Kd.R (Kd.int .i64) 3 w' w.heap.size (fun _ => True) (.slice Ao30 t409.length co30) t409) ∧ Aside0 (Kd.R k36 36 w' w.heap.size (fun k_ => some k_ ≠ (v10 : Value).ownBlock) u9 x9_3) ∧ Aside0 (Kd.R k36 36 w' w.heap.size (fun k_ => some k_ ≠ (u9 : Value).ownBlock) v10 x10_4) ∧ Aside0 (w'.heap[gb405]? = some (.cells #[.int .i64 a0_0, (.slice A0_1 l0_1.length c0_1), .int .i64 a0_2, .int .i64 a0_3, (.slice A0_4 l0_4.length c0_4), (.slice A0_5 l0_5.length c0_5)] 26 (0, 0))) ∧ Aside0 (Below w.heap.size w w'))
           case atStart => exact ⟨(([] : List (S36))), (0), rl_, H', ⟨Nat.le_refl _⟩, ⟨kr_ HO_7⟩, ⟨by (with_reducible repeat (first | apply Kd.R_alloc | apply Kd.R_drewN | apply Kd.R_drew)); exact Kd.R_mono HO_9.out (fun _ hk => (by simp [Value.ownBlock]))⟩, ⟨by first | exact Kd.R_nil _ _ _ _ _ | exact Kd.N_nil _ _ _ _ _ | exact Kd.V_nil _ _ _ _ _ | exact Kd.Q_nil _ _ _ _ _ | exact Kd.S_nil _ _ _ _ _⟩, ⟨bj_ BK405⟩, ⟨hb_⟩⟩
           case round =>
            clear H'
            try clear c1; try clear c2; try clear p2; try clear c3; try clear p4; try clear q4; try clear hx4; try clear c5; try clear p6; try clear c9; try clear c10; try clear c11; try clear c11b0; try clear c11b1; try clear c12; try clear c21; try clear c26; try clear c26b0; try clear c26b1; try clear c28; try clear c29; try clear c31; try clear c31b0; try clear c32; try clear c32b0; try clear c33; try clear c33b0; try clear c34; try clear c34b0; try clear c35; try clear c35b0; try clear c36; try clear c36b0; try clear c37; try clear c37b0; try clear c38; try clear hcz12_0; try clear hcz12_1; try clear hcz12_2; try clear hcz12_3; try clear hcz12_4; try clear hcz12_5; try clear hcz15_0; try clear hcz15_1; try clear hcz15_2; try clear hcz15_3; try clear hcz15_4; try clear hcz15_5; try clear hcz17_0; try clear hcz17_1; try clear hcz17_2; try clear hcz17_3; try clear hcz17_4; try clear hcz17_5; try clear hcz19_0; try clear hcz19_1; try clear hcz19_2; try clear hcz19_3; try clear hcz19_4; try clear hcz19_5; try clear hcz24_0; try clear hcz24_1; try clear hcz24_2; try clear hcz24_3; try clear hcz24_4; try clear hcz24_5; try clear hfz12_0; try clear hfz12_1; try clear hfz12_2; try clear hfz12_3; try clear hfz12_4; try clear hfz12_5; try clear hfz15_0; try clear hfz15_1; try clear hfz15_2; try clear hfz15_3; try clear hfz15_4; try clear hfz15_5; try clear hfz17_0; try clear hfz17_1; try clear hfz17_2; try clear hfz17_3; try clear hfz17_4; try clear hfz17_5; try clear hfz19_0; try clear hfz19_1; try clear hfz19_2; try clear hfz19_3; try clear hfz19_4; try clear hfz19_5; try clear hfz24_0; try clear hfz24_1; try clear hfz24_2; try clear hfz24_3; try clear hfz24_4; try clear hfz24_5; try clear hx414_0; try clear hx415_0; try clear hx415_1; try clear hx415_2; try clear hx416_0; try clear hx416_1; try clear hx416_2; try clear p2; try clear p414; try clear p415; try clear p416; try clear q414; try clear q415; try clear q416
            (repeat clear HO_7); (repeat clear HO_9); (repeat clear HO_10); (repeat clear BK405); (repeat clear HB)
            obtain ⟨x10_4, x76_4, rfl, HA, HK4, HO_7, HO_9, HO_10, BK405, HB⟩ := hrel
            cases gk with
            | zero => exact absurd HA.out (by simp [hopmeshlaw34_ConflictLargest.l1])
            | succ k4 =>
             have H := HA.out
             clear HA
             simp only [hopmeshlaw34_ConflictLargest.l1] at H
             by_cases c41 : x76_4 < (l1.length : Int)
             ·
              rw [if_pos c41] at H
              have c41b0 : decide (x76_4 < (l1.length : Int)) = true := decide_eq_true c41
              clear c41
              by_cases c42 : 0 ≤ x76_4
              ·
               rw [if_pos c42] at H
               have c42b0 : decide (0 ≤ x76_4) = true := decide_eq_true c42
               clear c42
               by_cases c43 : x76_4 < (l1.length : Int)
               ·
                rw [if_pos c43] at H
                have c43b0 : decide (x76_4 < (l1.length : Int)) = true := decide_eq_true c43
                clear c43
                have c44b0 := eq_true (of_decide_eq_true (by assumption) : 0 ≤ x76_4)
                obtain ⟨ji45, hji45⟩ : ∃ j_ : Int, (shr .u8 a2 x76_4) = j_ := ⟨_, rfl⟩
                replace H : (if (Go.bits .and .u8 (ji45) 1) = 1 then (if x10_4.length < 3518437208883 then (hopmeshlaw34_ConflictLargest.l1 k4 l1 a2 t409 x9_3 (x10_4 ++ [(⟨0, 0, (rd_T44 l1 x76_4).f0, (rd_T44 l1 x76_4).f1, 0⟩ : S36)]) l1 (l1.length : Int) (wrap64 (x76_4 + 1)) a0_0 l0_1 a0_2 a0_3 l0_4 l0_5) else (none)) else (hopmeshlaw34_ConflictLargest.l1 k4 l1 a2 t409 x9_3 x10_4 l1 (l1.length : Int) (wrap64 (x76_4 + 1)) a0_0 l0_1 a0_2 a0_3 l0_4 l0_5)) = some r := by first | (rw [hji45] at H; exact H) | (simp only [hji45] at H ⊢; exact H)
                have hji45_ : (a2 / 2 ^ min x76_4.toNat 8) = ji45 := hji45
                have hji45z : x76_4 ≤ 8 → (a2 / 2 ^ x76_4.toNat) = ji45 := shr_small hji45
                by_cases c46 : (Go.bits .and .u8 (ji45) 1) = 1
                ·
                 rw [if_pos c46] at H
                 have c46b0 : ((Go.bits .and .u8 (ji45) 1) == 1) = true := beq_iff_eq.mpr c46
                 have c46b1 : ((Go.bits .and .u8 (ji45) 1) != 1) = false := bne_eq_false_iff_eq.mpr c46
                 clear c46
                 by_cases c47 : x10_4.length < 3518437208883
                 ·
                  rw [if_pos c47] at H
                  have LMc47 := Aside0.mk c47
                  clear c47
                  obtain ⟨y422, hy422⟩ : ∃ y_ : List (S36), y_ = (x10_4 ++ [(⟨0, 0, (rd_T44 l1 x76_4).f0, (rd_T44 l1 x76_4).f1, 0⟩ : S36)]) := ⟨_, rfl⟩
                  replace H : (hopmeshlaw34_ConflictLargest.l1 k4 l1 a2 t409 x9_3 y422 l1 (l1.length : Int) (wrap64 (x76_4 + 1)) a0_0 l0_1 a0_2 a0_3 l0_4 l0_5) = some r := by first | (rw [hy422]; with_reducible exact H) | (have H2_ := (Option.bind_some _ _).symm.trans H; rw [hy422]; with_reducible exact H2_) | (have H2_ := (Option.bind_some _ _).symm.trans H; with_reducible exact H2_) | with_reducible exact H | (rw [hy422]; exact H) | exact H
                  have Ny422 := Aside0.mk hy422
                  clear hy422
                  have H' := Aside0.mk H
                  clear H
                  have p420 : 0 ≤ (x76_4 : Int) := of_decide_eq_true (by assumption)
                  have q420 : x76_4 < (l1.length : Int) := of_decide_eq_true (by assumption)
                  obtain ⟨ad420, e420, hx420_0, hx420_1, hx420_2⟩ := at_T44 HR1.out x76_4 p420 q420
                  cases e420
                  replace hx420_0 := (HB.out.cell (World.block_lt_of_cell? w _ hx420_0)).trans hx420_0
                  replace hx420_1 := (HB.out.cell (World.block_lt_of_cell? w _ hx420_1)).trans hx420_1
                  replace hx420_2 := (HB.out.cell (World.block_lt_of_cell? w _ hx420_2)).trans hx420_2
                  replace p420 := eq_true p420
                  replace q420 := eq_true q420
                  go_wp2_with (first | ((with_reducible refine gate_dst (N := 14) rfl ?_); refine bx_ 14 #[.int .i64 0, .int .i64 0, .int .i64 0] 44 ?_; intro gb421 hg w48 hbox hb; have n0_ := Aside0.mk (Kd.R_below (kr_ HO_7) hb); have n1_ := Aside0.mk (Kd.R_below (kr_ HO_9) hb); have n2_ := Aside0.mk (Kd.R_below (kr_ HO_10) hb); have n3_ := bk_ BK405 hb; have n4_ := Aside0.mk (below_step hb_ hb); have n5_ := Aside0.mk (hbox); have n6_ := Aside0.mk ((by rw [hg]; exact (below_size hb_) : w.heap.size ≤ gb421)); have n7_ := Aside0.mk ((by rw [hg]; exact (below_size hb_) : w.heap.size ≤ gb421)); have n8_ := Aside0.mk ((by rw [hg]; exact Nat.ne_of_lt (blk_lt (bj_ BK405)) : gb405 ≠ gb421)); have n9_ := Aside0.mk ((by rw [hg]; exact Nat.ne_of_gt (blk_lt (bj_ BK405)) : gb421 ≠ gb405)); clear HO_7; clear HO_9; clear HO_10; clear BK405; clear HB; have HO_7 := n0_; have HO_9 := n1_; have HO_10 := n2_; have BK405 := n3_; have HB := n4_; have BK421 := n5_; have GW421 := n6_; have GE421 := n7_; have NB405_421 := n8_; have NB421_405 := n9_; clear n0_ n1_ n2_ n3_ n4_ n5_ n6_ n7_ n8_ n9_; clear hb hbox hg; have hnb49 := NB421_405.out; have hnc49 := NB405_421.out; have hcz50_0 := bc0 BK421; have hcz50_1 := bc1 BK421; have hcz50_2 := bc2 BK421; have hfz50_0 := blk_frozen BK421.out 0; have hfz50_1 := blk_frozen BK421.out 1; have hfz50_2 := blk_frozen BK421.out 2) | ((with_reducible refine gate_builtin (b := .append) (xs := #[.tmp 86, .tmp 92]) rfl ?_); at_builtin; refine Kd.R_append k36 (w0 := w) w.heap.size rfl (.tmp 86) (.tmp 92) 27 36 (.agg #[(.int .i64 0), (.int .i64 0), (.int .i64 0), (.int .i64 0), (.int .i64 0)]) 40 rfl Try.underlying27 info36 rfl (by decide) (by omega) u10 x10_4 (⟨0, 0, (rd_T44 l1 x76_4).f0, (rd_T44 l1 x76_4).f1, 0⟩ : S36) [.int .i64 0, .int .i64 0, .int .i64 ((rd_T44 l1 x76_4).f0), .int .i64 ((rd_T44 l1 x76_4).f1), .int .i64 0] (fun k_ => some k_ ≠ (u9 : Value).ownBlock) (fun _ => False) rfl (by first | (go_simp; done) | (go_simp; rfl)) ?aP (fun _ hk => hk.elim) ?aF ?aO ?aB ?aS ?aL ?_; (case aP => exact k36_mkM _ _ _ (⟨0, 0, (rd_T44 l1 x76_4).f0, (rd_T44 l1 x76_4).f1, 0⟩ : S36)); (case aB => exact hb_); (case aF => exact (fun k_ hk => Kd.fresh' (Kd.R_lt (by (with_reducible repeat (first | apply Kd.R_alloc | apply Kd.R_drewN | apply Kd.R_drew)); exact (Kd.R_mono (Kd.R_far (p := ⟨gb421, 2, none⟩) (Kd.R_far (p := ⟨gb421, 1, none⟩) (Kd.R_far (p := ⟨gb421, 0, none⟩) (Kd.R_types HO_9.out BK421.out (by decide)) (fun _ hk => hk.2) (.int .i64 ((rd_T44 l1 x76_4).f0))) (fun _ hk => hk.2) (.int .i64 ((rd_T44 l1 x76_4).f1))) (fun _ hk => hk.2) (.int .i64 ((rd_T44 l1 x76_4).f2))) (fun _ h_ => h_.1)))) k_ hk)); (case aO => exact (by (with_reducible repeat (first | apply Kd.R_alloc | apply Kd.R_drewN | apply Kd.R_drew)); exact Kd.R_mono (Kd.R_far (p := ⟨gb421, 2, none⟩) (Kd.R_far (p := ⟨gb421, 1, none⟩) (Kd.R_far (p := ⟨gb421, 0, none⟩) (Kd.R_types HO_10.out BK421.out (by decide)) (fun _ hk => hk.2) (.int .i64 ((rd_T44 l1 x76_4).f0))) (fun _ hk => hk.2) (.int .i64 ((rd_T44 l1 x76_4).f1))) (fun _ hk => hk.2) (.int .i64 ((rd_T44 l1 x76_4).f2))) (fun _ hk => hk.1))); (case aS => exact (below_size hb_)); (case aL => have := LMc47.out; omega); intro v423 w51 ho hb hg hat; rw [← Ny422.out] at ho; have n0_ := Aside0.mk (Kd.R_over' (by (with_reducible repeat (first | apply Kd.R_alloc | apply Kd.R_drewN | apply Kd.R_drew)); exact (Kd.R_mono (Kd.R_far (p := ⟨gb421, 2, none⟩) (Kd.R_far (p := ⟨gb421, 1, none⟩) (Kd.R_far (p := ⟨gb421, 0, none⟩) (Kd.R_types HO_7.out BK421.out (by decide)) (fun _ hk => hk.2) (.int .i64 ((rd_T44 l1 x76_4).f0))) (fun _ hk => hk.2) (.int .i64 ((rd_T44 l1 x76_4).f1))) (fun _ hk => hk.2) (.int .i64 ((rd_T44 l1 x76_4).f2))) (fun _ h_ => h_.1))) (Kd.R_typed (by (with_reducible repeat (first | apply Kd.R_alloc | apply Kd.R_drewN | apply Kd.R_drew)); exact (Kd.R_mono (Kd.R_far (p := ⟨gb421, 2, none⟩) (Kd.R_far (p := ⟨gb421, 1, none⟩) (Kd.R_far (p := ⟨gb421, 0, none⟩) (Kd.R_types HO_10.out BK421.out (by decide)) (fun _ hk => hk.2) (.int .i64 ((rd_T44 l1 x76_4).f0))) (fun _ hk => hk.2) (.int .i64 ((rd_T44 l1 x76_4).f1))) (fun _ hk => hk.2) (.int .i64 ((rd_T44 l1 x76_4).f2))) (fun _ h_ => h_.1)))) (by decide) hg); have n1_ := Aside0.mk (Kd.R_after (ok := (fun _ => True)) (by (with_reducible repeat (first | apply Kd.R_alloc | apply Kd.R_drewN | apply Kd.R_drew)); exact Kd.R_mono (Kd.R_far (p := ⟨gb421, 2, none⟩) (Kd.R_far (p := ⟨gb421, 1, none⟩) (Kd.R_far (p := ⟨gb421, 0, none⟩) (Kd.R_types HO_9.out BK421.out (by decide)) (fun _ hk => hk.2) (.int .i64 ((rd_T44 l1 x76_4).f0))) (fun _ hk => hk.2) (.int .i64 ((rd_T44 l1 x76_4).f1))) (fun _ hk => hk.2) (.int .i64 ((rd_T44 l1 x76_4).f2))) (fun _ hk => ⟨trivial, hk.1⟩)) hg hat); have n2_ := Aside0.mk (blk_grown (g := gb405) (o := .cells #[.int .i64 a0_0, .slice A0_1 l0_1.length c0_1, .int .i64 a0_2, .int .i64 a0_3, .slice A0_4 l0_4.length c0_4, .slice A0_5 l0_5.length c0_5] 26 (0, 0)) (by (with_reducible repeat (first | refine blk_drewN ?_ _ | refine blk_drew ?_ | refine blk_alloc ?_ _)); refine blk_far ?_ NB405_421.out _; (with_reducible repeat (first | refine blk_drewN ?_ _ | refine blk_drew ?_ | refine blk_alloc ?_ _)); refine blk_far ?_ NB405_421.out _; (with_reducible repeat (first | refine blk_drewN ?_ _ | refine blk_drew ?_ | refine blk_alloc ?_ _)); refine blk_far ?_ NB405_421.out _; (with_reducible repeat (first | refine blk_drewN ?_ _ | refine blk_drew ?_ | refine blk_alloc ?_ _)); exact BK405.out) hg (Kd.R_ne HO_10.out BK405.out (by decide))); have n3_ := Aside0.mk (blk_grown (g := gb421) (o := .cells #[.int .i64 ((rd_T44 l1 x76_4).f0), .int .i64 ((rd_T44 l1 x76_4).f1), .int .i64 ((rd_T44 l1 x76_4).f2)] 44 (0, 0)) (by (with_reducible repeat (first | refine blk_drewN ?_ _ | refine blk_drew ?_ | refine blk_alloc ?_ _)); refine blk_put (cs := #[.int .i64 ((rd_T44 l1 x76_4).f0), .int .i64 ((rd_T44 l1 x76_4).f1), .int .i64 0]) ?_ 2 _ rfl; (with_reducible repeat (first | refine blk_drewN ?_ _ | refine blk_drew ?_ | refine blk_alloc ?_ _)); refine blk_put (cs := #[.int .i64 ((rd_T44 l1 x76_4).f0), .int .i64 0, .int .i64 0]) ?_ 1 _ rfl; (with_reducible repeat (first | refine blk_drewN ?_ _ | refine blk_drew ?_ | refine blk_alloc ?_ _)); refine blk_put (cs := #[.int .i64 0, .int .i64 0, .int .i64 0]) ?_ 0 _ rfl; (with_reducible repeat (first | refine blk_drewN ?_ _ | refine blk_drew ?_ | refine blk_alloc ?_ _)); exact BK421.out) hg (Kd.R_ne HO_10.out BK421.out (by decide))); have n4_ := Aside0.mk (hb); have n5_ := Aside0.mk (ho); clear HO_7; clear HO_9; clear BK405; clear BK421; clear HB; clear HO_10; have HO_7 := n0_; have HO_9 := n1_; have BK405 := n2_; have BK421 := n3_; have HB := n4_; have HO424 := n5_; clear n0_ n1_ n2_ n3_ n4_ n5_; clear ho hb hg hat))
                  go_roundg k4
                  case measure => have := HJ5.out; have := HJ22.out; have := HK3.out; have := HK4.out; omega
                  case rel => exact ⟨(y422), (wrap64 (x76_4 + 1)), rl_, H', ⟨by have := HJ5.out; have := HJ22.out; have := HK3.out; have := HK4.out; omega⟩, ⟨kr_ HO_7⟩, ⟨by (with_reducible repeat (first | apply Kd.R_alloc | apply Kd.R_drewN | apply Kd.R_drew)); exact Kd.R_mono HO_9.out (fun _ hk => hk.2)⟩, ⟨kr_ HO424⟩, ⟨bj_ BK405⟩, ⟨hb_⟩⟩
                 ·
                  rw [if_neg c47] at H
                  exact absurd H (by simp)
                ·
                 rw [if_neg c46] at H
                 have c46b0 : ((Go.bits .and .u8 (ji45) 1) == 1) = false := beq_eq_false_iff_ne.mpr c46
                 have c46b1 : ((Go.bits .and .u8 (ji45) 1) != 1) = true := bne_iff_ne.mpr c46
                 have H' := Aside0.mk H
                 clear H
                 have p420 : 0 ≤ (x76_4 : Int) := of_decide_eq_true (by assumption)
                 have q420 : x76_4 < (l1.length : Int) := of_decide_eq_true (by assumption)
                 obtain ⟨ad420, e420, hx420_0, hx420_1, hx420_2⟩ := at_T44 HR1.out x76_4 p420 q420
                 cases e420
                 replace hx420_0 := (HB.out.cell (World.block_lt_of_cell? w _ hx420_0)).trans hx420_0
                 replace hx420_1 := (HB.out.cell (World.block_lt_of_cell? w _ hx420_1)).trans hx420_1
                 replace hx420_2 := (HB.out.cell (World.block_lt_of_cell? w _ hx420_2)).trans hx420_2
                 replace p420 := eq_true p420
                 replace q420 := eq_true q420
                 go_wp2_with (first | ((with_reducible refine gate_dst (N := 14) rfl ?_); refine bx_ 14 #[.int .i64 0, .int .i64 0, .int .i64 0] 44 ?_; intro gb421 hg w52 hbox hb; have n0_ := Aside0.mk (Kd.R_below (kr_ HO_7) hb); have n1_ := Aside0.mk (Kd.R_below (kr_ HO_9) hb); have n2_ := Aside0.mk (Kd.R_below (kr_ HO_10) hb); have n3_ := bk_ BK405 hb; have n4_ := Aside0.mk (below_step hb_ hb); have n5_ := Aside0.mk (hbox); have n6_ := Aside0.mk ((by rw [hg]; exact (below_size hb_) : w.heap.size ≤ gb421)); have n7_ := Aside0.mk ((by rw [hg]; exact (below_size hb_) : w.heap.size ≤ gb421)); have n8_ := Aside0.mk ((by rw [hg]; exact Nat.ne_of_lt (blk_lt (bj_ BK405)) : gb405 ≠ gb421)); have n9_ := Aside0.mk ((by rw [hg]; exact Nat.ne_of_gt (blk_lt (bj_ BK405)) : gb421 ≠ gb405)); clear HO_7; clear HO_9; clear HO_10; clear BK405; clear HB; have HO_7 := n0_; have HO_9 := n1_; have HO_10 := n2_; have BK405 := n3_; have HB := n4_; have BK421 := n5_; have GW421 := n6_; have GE421 := n7_; have NB405_421 := n8_; have NB421_405 := n9_; clear n0_ n1_ n2_ n3_ n4_ n5_ n6_ n7_ n8_ n9_; clear hb hbox hg; have hnb53 := NB421_405.out; have hnc53 := NB405_421.out; have hcz54_0 := bc0 BK421; have hcz54_1 := bc1 BK421; have hcz54_2 := bc2 BK421; have hfz54_0 := blk_frozen BK421.out 0; have hfz54_1 := blk_frozen BK421.out 1; have hfz54_2 := blk_frozen BK421.out 2))
                 go_roundg k4
                 case measure => have := HJ5.out; have := HJ22.out; have := HK3.out; have := HK4.out; omega
                 case rel => exact ⟨(x10_4), (wrap64 (x76_4 + 1)), rl_, H', ⟨by have := HJ5.out; have := HJ22.out; have := HK3.out; have := HK4.out; omega⟩, ⟨by (with_reducible repeat (first | apply Kd.R_alloc | apply Kd.R_drewN | apply Kd.R_drew)); exact Kd.R_mono (Kd.R_far (p := ⟨gb421, 2, none⟩) (Kd.R_far (p := ⟨gb421, 1, none⟩) (Kd.R_far (p := ⟨gb421, 0, none⟩) (Kd.R_types HO_7.out BK421.out (by decide)) (fun _ hk => hk.2) (.int .i64 ((rd_T44 l1 x76_4).f0))) (fun _ hk => hk.2) (.int .i64 ((rd_T44 l1 x76_4).f1))) (fun _ hk => hk.2) (.int .i64 ((rd_T44 l1 x76_4).f2))) (fun _ hk => trivial)⟩, ⟨by (with_reducible repeat (first | apply Kd.R_alloc | apply Kd.R_drewN | apply Kd.R_drew)); exact Kd.R_mono (Kd.R_far (p := ⟨gb421, 2, none⟩) (Kd.R_far (p := ⟨gb421, 1, none⟩) (Kd.R_far (p := ⟨gb421, 0, none⟩) (Kd.R_types HO_9.out BK421.out (by decide)) (fun _ hk => hk.2) (.int .i64 ((rd_T44 l1 x76_4).f0))) (fun _ hk => hk.2) (.int .i64 ((rd_T44 l1 x76_4).f1))) (fun _ hk => hk.2) (.int .i64 ((rd_T44 l1 x76_4).f2))) (fun _ hk => hk.1)⟩, ⟨by (with_reducible repeat (first | apply Kd.R_alloc | apply Kd.R_drewN | apply Kd.R_drew)); exact Kd.R_mono (Kd.R_far (p := ⟨gb421, 2, none⟩) (Kd.R_far (p := ⟨gb421, 1, none⟩) (Kd.R_far (p := ⟨gb421, 0, none⟩) (Kd.R_types HO_10.out BK421.out (by decide)) (fun _ hk => hk.2) (.int .i64 ((rd_T44 l1 x76_4).f0))) (fun _ hk => hk.2) (.int .i64 ((rd_T44 l1 x76_4).f1))) (fun _ hk => hk.2) (.int .i64 ((rd_T44 l1 x76_4).f2))) (fun _ hk => hk.1)⟩, ⟨by (with_reducible repeat (first | refine blk_drewN ?_ _ | refine blk_drew ?_ | refine blk_alloc ?_ _)); refine blk_far ?_ NB405_421.out _; (with_reducible repeat (first | refine blk_drewN ?_ _ | refine blk_drew ?_ | refine blk_alloc ?_ _)); refine blk_far ?_ NB405_421.out _; (with_reducible repeat (first | refine blk_drewN ?_ _ | refine blk_drew ?_ | refine blk_alloc ?_ _)); refine blk_far ?_ NB405_421.out _; (with_reducible repeat (first | refine blk_drewN ?_ _ | refine blk_drew ?_ | refine blk_alloc ?_ _)); exact BK405.out⟩, ⟨hb_⟩⟩
               ·
                rw [if_neg c43] at H
                exact absurd H (by simp)
              ·
               rw [if_neg c42] at H
               exact absurd H (by simp)
             ·
              rw [if_neg c41] at H
              have c41b0 : decide (x76_4 < (l1.length : Int)) = false := decide_eq_false c41
              clear c41
              have HC55 := Aside0.mk H
              clear H
              go_upto_region 22 with (fail)
              go_cut [110] (fun v110 wc => ∃ (kq : Nat) (x110_54 : Bool), v110 = .bool x110_54 ∧ Aside0 (hopmeshlaw34_ConflictLargest.j4 kq l1 t409 x110_54 a0_0 l0_1 a0_2 a0_3 l0_4 l0_5 = some r) ∧ Aside0 (kq ≤ k4) ∧ Aside0 (Kd.R (Kd.int .i64) 3 wc w.heap.size (fun _ => True) (.slice Ao30 t409.length co30) t409) ∧ Aside0 (wc.heap[gb405]? = some (.cells #[.int .i64 a0_0, (.slice A0_1 l0_1.length c0_1), .int .i64 a0_2, .int .i64 a0_3, (.slice A0_4 l0_4.length c0_4), (.slice A0_5 l0_5.length c0_5)] 26 (0, 0))) ∧ Aside0 (Below w.heap.size w wc))
              case first =>
               have H := HC55.out
               clear HC55
               replace H := Option.bind_eq_some_iff.mp H
               obtain ⟨t425, A560, H⟩ := H
               replace H : (if t425 = true then ((conflict_Good.f k4 a0_0 l0_1 a0_2 a0_3 l0_4 l0_5 x10_4).bind fun t426 => (if t426 = true then (hopmeshlaw34_ConflictLargest.j4 k4 l1 t409 (decide ((x10_4.length : Int) > (x9_3.length : Int))) a0_0 l0_1 a0_2 a0_3 l0_4 l0_5) else (hopmeshlaw34_ConflictLargest.j4 k4 l1 t409 false a0_0 l0_1 a0_2 a0_3 l0_4 l0_5))) else (hopmeshlaw34_ConflictLargest.j4 k4 l1 t409 true a0_0 l0_1 a0_2 a0_3 l0_4 l0_5)) = some r := H
               have A56 := Aside0.mk A560
               clear A560
               by_cases c57 : t425 = true
               ·
                subst c57
                have H1 : ((conflict_Good.f k4 a0_0 l0_1 a0_2 a0_3 l0_4 l0_5 x10_4).bind fun t426 => (if t426 = true then (hopmeshlaw34_ConflictLargest.j4 k4 l1 t409 (decide ((x10_4.length : Int) > (x9_3.length : Int))) a0_0 l0_1 a0_2 a0_3 l0_4 l0_5) else (hopmeshlaw34_ConflictLargest.j4 k4 l1 t409 false a0_0 l0_1 a0_2 a0_3 l0_4 l0_5))) = some r := by rw [if_pos rfl] at H; exact H
                clear H
                have H := H1
                clear H1
                replace H := Option.bind_eq_some_iff.mp H
                obtain ⟨t426, A580, H⟩ := H
                replace H : (if t426 = true then (hopmeshlaw34_ConflictLargest.j4 k4 l1 t409 (decide ((x10_4.length : Int) > (x9_3.length : Int))) a0_0 l0_1 a0_2 a0_3 l0_4 l0_5) else (hopmeshlaw34_ConflictLargest.j4 k4 l1 t409 false a0_0 l0_1 a0_2 a0_3 l0_4 l0_5)) = some r := H
                have A58 := Aside0.mk A580
                clear A580
                by_cases c59 : t426 = true
                ·
                 subst c59
                 have H1 : (hopmeshlaw34_ConflictLargest.j4 k4 l1 t409 (decide ((x10_4.length : Int) > (x9_3.length : Int))) a0_0 l0_1 a0_2 a0_3 l0_4 l0_5) = some r := by rw [if_pos rfl] at H; exact H
                 clear H
                 have H := H1
                 clear H1
                 have H' := Aside0.mk H
                 clear H
                 have hcz60_0 := bc0 BK405
                 have hcz60_1 := bc1 BK405
                 have hcz60_2 := bc2 BK405
                 have hcz60_3 := bc3 BK405
                 have hcz60_4 := bc4 BK405
                 have hcz60_5 := bc5 BK405
                 have hfz60_0 := blk_frozen BK405.out 0
                 have hfz60_1 := blk_frozen BK405.out 1
                 have hfz60_2 := blk_frozen BK405.out 2
                 have hfz60_3 := blk_frozen BK405.out 3
                 have hfz60_4 := blk_frozen BK405.out 4
                 have hfz60_5 := blk_frozen BK405.out 5
                 obtain ⟨Ao61, co61, eo61⟩ := Kd.R_slice HO_9.out
                 subst eo61
                 go_wp2_with (first | ((with_reducible refine gate_callee (f := 17) rfl ?_); refine goesL_ (some 97) rfl rfl Try.func17 (by kernel_rfl) rfl #[.agg #[.int .i64 a0_0, .slice A0_1 l0_1.length c0_1, .int .i64 a0_2, .int .i64 a0_3, .slice A0_4 l0_4.length c0_4, .slice A0_5 l0_5.length c0_5], .slice Ao61 x9_3.length co61] rfl am_ ?_; (with_reducible refine (conflict_Good.calls k4 a0_0 _ _ l0_1 a0_2 a0_3 _ _ l0_4 _ _ l0_5 _ _ x9_3 true _ ?side1 ?side2 ?side3 ?side4 ?side5 ?side6 ?side7 ?side8 A56.out).mono ?_); (case side1 | side3 | side5 => exact cb_); (case side2 | side4 | side6 => first | exact HC0_1.out | exact HC0_4.out | exact HC0_5.out); (case side7 => repeat (first | exact (Kd.R_reads' HO_9.out).2.2 | (with_reducible refine Kd.C_alloc ?_ _) | (with_reducible refine Kd.C_drewN ?_ _) | (with_reducible refine Kd.C_drew ?_))); (case side8 => exact (Kd.R_reads' HO_9.out).2.1); rintro e w62 ⟨rfl, hb⟩; refine ⟨_, rfl, ?_⟩; have n0_ := Aside0.mk (Kd.R_below (kr_ HO_7) hb); have n1_ := Aside0.mk (Kd.R_below (kr_ HO_9) hb); have n2_ := Aside0.mk (Kd.R_below (kr_ HO_10) hb); have n3_ := bk_ BK405 hb; have n4_ := Aside0.mk (below_step hb_ hb); clear HO_7; clear HO_9; clear HO_10; clear BK405; clear HB; have HO_7 := n0_; have HO_9 := n1_; have HO_10 := n2_; have BK405 := n3_; have HB := n4_; clear n0_ n1_ n2_ n3_ n4_; (try clear hb); (try clear hb2); (try clear hk); (try clear hi); have hcz63_0 := bc0 BK405; have hcz63_1 := bc1 BK405; have hcz63_2 := bc2 BK405; have hcz63_3 := bc3 BK405; have hcz63_4 := bc4 BK405; have hcz63_5 := bc5 BK405; have hfz63_0 := blk_frozen BK405.out 0; have hfz63_1 := blk_frozen BK405.out 1; have hfz63_2 := blk_frozen BK405.out 2; have hfz63_3 := blk_frozen BK405.out 3; have hfz63_4 := blk_frozen BK405.out 4; have hfz63_5 := blk_frozen BK405.out 5; obtain ⟨Ao64, co64, eo64⟩ := Kd.R_slice HO_10.out; subst eo64) | (go_at_call 17; (with_reducible refine (conflict_Good.calls k4 a0_0 _ _ l0_1 a0_2 a0_3 _ _ l0_4 _ _ l0_5 _ _ x10_4 true _ ?side1 ?side2 ?side3 ?side4 ?side5 ?side6 ?side7 ?side8 A58.out).mono ?_); (case side1 | side3 | side5 => exact cb_); (case side2 | side4 | side6 => first | exact HC0_1.out | exact HC0_4.out | exact HC0_5.out); (case side7 => repeat (first | exact (Kd.R_reads' HO_10.out).2.2 | (with_reducible refine Kd.C_alloc ?_ _) | (with_reducible refine Kd.C_drewN ?_ _) | (with_reducible refine Kd.C_drew ?_))); (case side8 => exact (Kd.R_reads' HO_10.out).2.1); rintro e w65 ⟨rfl, hb⟩; have n0_ := Aside0.mk (Kd.R_below (kr_ HO_7) hb); have n1_ := Aside0.mk (Kd.R_below (kr_ HO_9) hb); have n2_ := Aside0.mk (Kd.R_below (kr_ HO_10) hb); have n3_ := bk_ BK405 hb; have n4_ := Aside0.mk (below_step hb_ hb); clear HO_7; clear HO_9; clear HO_10; clear BK405; clear HB; have HO_7 := n0_; have HO_9 := n1_; have HO_10 := n2_; have BK405 := n3_; have HB := n4_; clear n0_ n1_ n2_ n3_ n4_; (try clear hb); (try clear hb2); (try clear hk); (try clear hi)))
                 go_meet
                 case rel => exact ⟨_, (decide ((x10_4.length : Int) > (x9_3.length : Int))), rl_, H', ⟨by have := HJ5.out; have := HJ22.out; have := HK3.out; have := HK4.out; first | omega | exact Nat.le_refl _⟩, ⟨kr_ HO_7⟩, ⟨bj_ BK405⟩, ⟨hb_⟩⟩
                ·
                 replace c59 := Bool.eq_false_iff.mpr c59
                 subst c59
                 have H1 : (hopmeshlaw34_ConflictLargest.j4 k4 l1 t409 false a0_0 l0_1 a0_2 a0_3 l0_4 l0_5) = some r := by rw [if_neg (show ¬ (false = true) by decide)] at H; exact H
                 clear H
                 have H := H1
                 clear H1
                 have H' := Aside0.mk H
                 clear H
                 have hcz66_0 := bc0 BK405
                 have hcz66_1 := bc1 BK405
                 have hcz66_2 := bc2 BK405
                 have hcz66_3 := bc3 BK405
                 have hcz66_4 := bc4 BK405
                 have hcz66_5 := bc5 BK405
                 have hfz66_0 := blk_frozen BK405.out 0
                 have hfz66_1 := blk_frozen BK405.out 1
                 have hfz66_2 := blk_frozen BK405.out 2
                 have hfz66_3 := blk_frozen BK405.out 3
                 have hfz66_4 := blk_frozen BK405.out 4
                 have hfz66_5 := blk_frozen BK405.out 5
                 obtain ⟨Ao67, co67, eo67⟩ := Kd.R_slice HO_9.out
                 subst eo67
                 go_wp2_with (first | ((with_reducible refine gate_callee (f := 17) rfl ?_); refine goesL_ (some 97) rfl rfl Try.func17 (by kernel_rfl) rfl #[.agg #[.int .i64 a0_0, .slice A0_1 l0_1.length c0_1, .int .i64 a0_2, .int .i64 a0_3, .slice A0_4 l0_4.length c0_4, .slice A0_5 l0_5.length c0_5], .slice Ao67 x9_3.length co67] rfl am_ ?_; (with_reducible refine (conflict_Good.calls k4 a0_0 _ _ l0_1 a0_2 a0_3 _ _ l0_4 _ _ l0_5 _ _ x9_3 true _ ?side1 ?side2 ?side3 ?side4 ?side5 ?side6 ?side7 ?side8 A56.out).mono ?_); (case side1 | side3 | side5 => exact cb_); (case side2 | side4 | side6 => first | exact HC0_1.out | exact HC0_4.out | exact HC0_5.out); (case side7 => repeat (first | exact (Kd.R_reads' HO_9.out).2.2 | (with_reducible refine Kd.C_alloc ?_ _) | (with_reducible refine Kd.C_drewN ?_ _) | (with_reducible refine Kd.C_drew ?_))); (case side8 => exact (Kd.R_reads' HO_9.out).2.1); rintro e w68 ⟨rfl, hb⟩; refine ⟨_, rfl, ?_⟩; have n0_ := Aside0.mk (Kd.R_below (kr_ HO_7) hb); have n1_ := Aside0.mk (Kd.R_below (kr_ HO_9) hb); have n2_ := Aside0.mk (Kd.R_below (kr_ HO_10) hb); have n3_ := bk_ BK405 hb; have n4_ := Aside0.mk (below_step hb_ hb); clear HO_7; clear HO_9; clear HO_10; clear BK405; clear HB; have HO_7 := n0_; have HO_9 := n1_; have HO_10 := n2_; have BK405 := n3_; have HB := n4_; clear n0_ n1_ n2_ n3_ n4_; (try clear hb); (try clear hb2); (try clear hk); (try clear hi); have hcz69_0 := bc0 BK405; have hcz69_1 := bc1 BK405; have hcz69_2 := bc2 BK405; have hcz69_3 := bc3 BK405; have hcz69_4 := bc4 BK405; have hcz69_5 := bc5 BK405; have hfz69_0 := blk_frozen BK405.out 0; have hfz69_1 := blk_frozen BK405.out 1; have hfz69_2 := blk_frozen BK405.out 2; have hfz69_3 := blk_frozen BK405.out 3; have hfz69_4 := blk_frozen BK405.out 4; have hfz69_5 := blk_frozen BK405.out 5; obtain ⟨Ao70, co70, eo70⟩ := Kd.R_slice HO_10.out; subst eo70) | (go_at_call 17; (with_reducible refine (conflict_Good.calls k4 a0_0 _ _ l0_1 a0_2 a0_3 _ _ l0_4 _ _ l0_5 _ _ x10_4 false _ ?side1 ?side2 ?side3 ?side4 ?side5 ?side6 ?side7 ?side8 A58.out).mono ?_); (case side1 | side3 | side5 => exact cb_); (case side2 | side4 | side6 => first | exact HC0_1.out | exact HC0_4.out | exact HC0_5.out); (case side7 => repeat (first | exact (Kd.R_reads' HO_10.out).2.2 | (with_reducible refine Kd.C_alloc ?_ _) | (with_reducible refine Kd.C_drewN ?_ _) | (with_reducible refine Kd.C_drew ?_))); (case side8 => exact (Kd.R_reads' HO_10.out).2.1); rintro e w71 ⟨rfl, hb⟩; have n0_ := Aside0.mk (Kd.R_below (kr_ HO_7) hb); have n1_ := Aside0.mk (Kd.R_below (kr_ HO_9) hb); have n2_ := Aside0.mk (Kd.R_below (kr_ HO_10) hb); have n3_ := bk_ BK405 hb; have n4_ := Aside0.mk (below_step hb_ hb); clear HO_7; clear HO_9; clear HO_10; clear BK405; clear HB; have HO_7 := n0_; have HO_9 := n1_; have HO_10 := n2_; have BK405 := n3_; have HB := n4_; clear n0_ n1_ n2_ n3_ n4_; (try clear hb); (try clear hb2); (try clear hk); (try clear hi)))
                 go_meet
                 case rel => exact ⟨_, (false), rl_, H', ⟨by have := HJ5.out; have := HJ22.out; have := HK3.out; have := HK4.out; first | omega | exact Nat.le_refl _⟩, ⟨kr_ HO_7⟩, ⟨bj_ BK405⟩, ⟨hb_⟩⟩
               ·
                replace c57 := Bool.eq_false_iff.mpr c57
                subst c57
                have H1 : (hopmeshlaw34_ConflictLargest.j4 k4 l1 t409 true a0_0 l0_1 a0_2 a0_3 l0_4 l0_5) = some r := by rw [if_neg (show ¬ (false = true) by decide)] at H; exact H
                clear H
                have H := H1
                clear H1
                have H' := Aside0.mk H
                clear H
                have hcz72_0 := bc0 BK405
                have hcz72_1 := bc1 BK405
                have hcz72_2 := bc2 BK405
                have hcz72_3 := bc3 BK405
                have hcz72_4 := bc4 BK405
                have hcz72_5 := bc5 BK405
                have hfz72_0 := blk_frozen BK405.out 0
                have hfz72_1 := blk_frozen BK405.out 1
                have hfz72_2 := blk_frozen BK405.out 2
                have hfz72_3 := blk_frozen BK405.out 3
                have hfz72_4 := blk_frozen BK405.out 4
                have hfz72_5 := blk_frozen BK405.out 5
                obtain ⟨Ao73, co73, eo73⟩ := Kd.R_slice HO_9.out
                subst eo73
                go_wp2_with (first | ((with_reducible refine gate_callee (f := 17) rfl ?_); refine goesL_ (some 97) rfl rfl Try.func17 (by kernel_rfl) rfl #[.agg #[.int .i64 a0_0, .slice A0_1 l0_1.length c0_1, .int .i64 a0_2, .int .i64 a0_3, .slice A0_4 l0_4.length c0_4, .slice A0_5 l0_5.length c0_5], .slice Ao73 x9_3.length co73] rfl am_ ?_; (with_reducible refine (conflict_Good.calls k4 a0_0 _ _ l0_1 a0_2 a0_3 _ _ l0_4 _ _ l0_5 _ _ x9_3 false _ ?side1 ?side2 ?side3 ?side4 ?side5 ?side6 ?side7 ?side8 A56.out).mono ?_); (case side1 | side3 | side5 => exact cb_); (case side2 | side4 | side6 => first | exact HC0_1.out | exact HC0_4.out | exact HC0_5.out); (case side7 => repeat (first | exact (Kd.R_reads' HO_9.out).2.2 | (with_reducible refine Kd.C_alloc ?_ _) | (with_reducible refine Kd.C_drewN ?_ _) | (with_reducible refine Kd.C_drew ?_))); (case side8 => exact (Kd.R_reads' HO_9.out).2.1); rintro e w74 ⟨rfl, hb⟩; refine ⟨_, rfl, ?_⟩; have n0_ := Aside0.mk (Kd.R_below (kr_ HO_7) hb); have n1_ := Aside0.mk (Kd.R_below (kr_ HO_9) hb); have n2_ := Aside0.mk (Kd.R_below (kr_ HO_10) hb); have n3_ := bk_ BK405 hb; have n4_ := Aside0.mk (below_step hb_ hb); clear HO_7; clear HO_9; clear HO_10; clear BK405; clear HB; have HO_7 := n0_; have HO_9 := n1_; have HO_10 := n2_; have BK405 := n3_; have HB := n4_; clear n0_ n1_ n2_ n3_ n4_; (try clear hb); (try clear hb2); (try clear hk); (try clear hi)))
                go_meet
                case rel => exact ⟨_, (true), rl_, H', ⟨by have := HJ5.out; have := HJ22.out; have := HK3.out; have := HK4.out; first | omega | exact Nat.le_refl _⟩, ⟨kr_ HO_7⟩, ⟨bj_ BK405⟩, ⟨hb_⟩⟩
              case rest =>
               clear HC55
               try clear c1; try clear c2; try clear p2; try clear c3; try clear c4; try clear p4; try clear q4; try clear hx4; try clear c5; try clear p6; try clear c9; try clear c10; try clear c11; try clear c11b0; try clear c11b1; try clear c12; try clear c17; try clear c21; try clear c26; try clear c26b0; try clear c26b1; try clear c28; try clear c29; try clear c31; try clear c31b0; try clear c32; try clear c32b0; try clear c33; try clear c33b0; try clear c34; try clear c34b0; try clear c35; try clear c35b0; try clear c36; try clear c36b0; try clear c37; try clear c37b0; try clear c38; try clear c41; try clear c41b0; try clear p41; try clear q41; try clear hx41; try clear c42; try clear c42b0; try clear p42; try clear q42; try clear hx42; try clear c43; try clear c43b0; try clear c44; try clear c44b0; try clear c46; try clear c46b0; try clear c46b1; try clear c47; try clear c49; try clear c53; try clear c57; try clear c59; try clear p64; try clear hcz12_0; try clear hcz12_1; try clear hcz12_2; try clear hcz12_3; try clear hcz12_4; try clear hcz12_5; try clear hcz15_0; try clear hcz15_1; try clear hcz15_2; try clear hcz15_3; try clear hcz15_4; try clear hcz15_5; try clear hcz17_0; try clear hcz17_1; try clear hcz17_2; try clear hcz17_3; try clear hcz17_4; try clear hcz17_5; try clear hcz19_0; try clear hcz19_1; try clear hcz19_2; try clear hcz19_3; try clear hcz19_4; try clear hcz19_5; try clear hcz24_0; try clear hcz24_1; try clear hcz24_2; try clear hcz24_3; try clear hcz24_4; try clear hcz24_5; try clear hcz50_0; try clear hcz50_1; try clear hcz50_2; try clear hcz54_0; try clear hcz54_1; try clear hcz54_2; try clear hcz60_0; try clear hcz60_1; try clear hcz60_2; try clear hcz60_3; try clear hcz60_4; try clear hcz60_5; try clear hcz63_0; try clear hcz63_1; try clear hcz63_2; try clear hcz63_3; try clear hcz63_4; try clear hcz63_5; try clear hcz66_0; try clear hcz66_1; try clear hcz66_2; try clear hcz66_3; try clear hcz66_4; try clear hcz66_5; try clear hcz69_0; try clear hcz69_1; try clear hcz69_2; try clear hcz69_3; try clear hcz69_4; try clear hcz69_5; try clear hcz72_0; try clear hcz72_1; try clear hcz72_2; try clear hcz72_3; try clear hcz72_4; try clear hcz72_5; try clear hfz12_0; try clear hfz12_1; try clear hfz12_2; try clear hfz12_3; try clear hfz12_4; try clear hfz12_5; try clear hfz15_0; try clear hfz15_1; try clear hfz15_2; try clear hfz15_3; try clear hfz15_4; try clear hfz15_5; try clear hfz17_0; try clear hfz17_1; try clear hfz17_2; try clear hfz17_3; try clear hfz17_4; try clear hfz17_5; try clear hfz19_0; try clear hfz19_1; try clear hfz19_2; try clear hfz19_3; try clear hfz19_4; try clear hfz19_5; try clear hfz24_0; try clear hfz24_1; try clear hfz24_2; try clear hfz24_3; try clear hfz24_4; try clear hfz24_5; try clear hfz50_0; try clear hfz50_1; try clear hfz50_2; try clear hfz54_0; try clear hfz54_1; try clear hfz54_2; try clear hfz60_0; try clear hfz60_1; try clear hfz60_2; try clear hfz60_3; try clear hfz60_4
               try clear hfz60_5; try clear hfz63_0; try clear hfz63_1; try clear hfz63_2; try clear hfz63_3; try clear hfz63_4; try clear hfz63_5; try clear hfz66_0; try clear hfz66_1; try clear hfz66_2; try clear hfz66_3; try clear hfz66_4; try clear hfz66_5; try clear hfz69_0; try clear hfz69_1; try clear hfz69_2; try clear hfz69_3; try clear hfz69_4; try clear hfz69_5; try clear hfz72_0; try clear hfz72_1; try clear hfz72_2; try clear hfz72_3; try clear hfz72_4; try clear hfz72_5; try clear hx414_0; try clear hx415_0; try clear hx415_1; try clear hx415_2; try clear hx416_0; try clear hx416_1; try clear hx416_2; try clear hx420_0; try clear hx420_1; try clear hx420_2; try clear p2; try clear p4; try clear p414; try clear p415; try clear p416; try clear p420; try clear p6; try clear q4; try clear q414; try clear q415; try clear q416; try clear q420
               (repeat clear HO_7); (repeat clear BK405); (repeat clear HB)
               obtain ⟨kq, x110_54, rfl, HA, HJ54, HO_7, BK405, HB⟩ := hcut
               cases kq with
               | zero => exact absurd HA.out (by simp [hopmeshlaw34_ConflictLargest.j4])
               | succ kj54 =>
                have H := HA.out
                clear HA
                simp only [hopmeshlaw34_ConflictLargest.j4] at H
                by_cases c75 : x110_54 = true
                ·
                 subst c75
                 have H1 : (some false) = some r := by rw [if_pos rfl] at H; exact H
                 clear H
                 have H := H1
                 clear H1
                 obtain rfl := Option.some.inj H
                 go_wp2
                 go_ret
                 exact ⟨er_, hb_⟩
                ·
                 replace c75 := Bool.eq_false_iff.mpr c75
                 subst c75
                 have H1 : (if (l1.length : Int) = 0 then (some ((t409.length : Int) == 0)) else (if 0 ≤ (wrap64 ((l1.length : Int) - 1)) then (if (wrap64 ((l1.length : Int) - 1)) ≤ (l1.length : Int) then ((conflict_Largest.f kj54 a0_0 l0_1 a0_2 a0_3 l0_4 l0_5 (l1.take ((wrap64 ((l1.length : Int) - 1)) : Int).toNat)).bind fun bt431 => (if bt431.2 = 0 then (if (bt431.1.length : Int) ≤ (t409.length : Int) then (some (decide ((t409.length : Int) ≤ (wrap64 ((bt431.1.length : Int) + 1))))) else (some false)) else (some false))) else (none)) else (none))) = some r := by rw [if_neg (show ¬ (false = true) by decide)] at H; exact H
                 clear H
                 have H := H1
                 clear H1
                 by_cases c76 : (l1.length : Int) = 0
                 ·
                  rw [if_pos c76] at H
                  have c76b0 : ((l1.length : Int) == 0) = true := beq_iff_eq.mpr c76
                  have c76b1 : ((l1.length : Int) != 0) = false := bne_eq_false_iff_eq.mpr c76
                  clear c76
                  obtain rfl := Option.some.inj H
                  go_wp2
                  go_ret
                  exact ⟨er_, hb_⟩
                 ·
                  rw [if_neg c76] at H
                  have c76b0 : ((l1.length : Int) == 0) = false := beq_eq_false_iff_ne.mpr c76
                  have c76b1 : ((l1.length : Int) != 0) = true := bne_iff_ne.mpr c76
                  have c76b2 : ¬ (l1 = []) := fun h_ => c76 (by rw [h_]; rfl)
                  obtain ⟨ji77, hji77⟩ : ∃ j_ : Int, (wrap64 ((l1.length : Int) - 1)) = j_ := ⟨_, rfl⟩
                  replace H : (if 0 ≤ (ji77) then (if (ji77) ≤ (l1.length : Int) then ((conflict_Largest.f kj54 a0_0 l0_1 a0_2 a0_3 l0_4 l0_5 (l1.take ((ji77) : Int).toNat)).bind fun bt431 => (if bt431.2 = 0 then (if (bt431.1.length : Int) ≤ (t409.length : Int) then (some (decide ((t409.length : Int) ≤ (wrap64 ((bt431.1.length : Int) + 1))))) else (some false)) else (some false))) else (none)) else (none)) = some r := by first | (rw [hji77] at H; exact H) | (simp only [hji77] at H ⊢; exact H)
                  have hji77w : (IntKind.i64.wrap ((l1.length : Int) - 1)) = ji77 := (i64_w _).trans hji77
                  by_cases c78 : 0 ≤ (ji77)
                  ·
                   rw [if_pos c78] at H
                   have c78b0 := eq_true c78
                   have c78b1 : decide (0 ≤ (ji77)) = true := decide_eq_true c78
                   clear c78
                   by_cases c79 : (ji77) ≤ (l1.length : Int)
                   ·
                    rw [if_pos c79] at H
                    have c79b0 := eq_true c79
                    have c79b1 : decide ((ji77) ≤ (l1.length : Int)) = true := decide_eq_true c79
                    clear c79
                    obtain ⟨y427, hy427⟩ : ∃ y_ : List (S44), y_ = (l1.take ((ji77) : Int).toNat) := ⟨_, rfl⟩
                    replace H : ((conflict_Largest.f kj54 a0_0 l0_1 a0_2 a0_3 l0_4 l0_5 y427).bind fun bt431 => (if bt431.2 = 0 then (if (bt431.1.length : Int) ≤ (t409.length : Int) then (some (decide ((t409.length : Int) ≤ (wrap64 ((bt431.1.length : Int) + 1))))) else (some false)) else (some false))) = some r := by first | (rw [hy427]; with_reducible exact H) | (have H2_ := (Option.bind_some _ _).symm.trans H; rw [hy427]; with_reducible exact H2_) | (have H2_ := (Option.bind_some _ _).symm.trans H; with_reducible exact H2_) | with_reducible exact H | (rw [hy427]; exact H) | exact H
                    have Ny427 := Aside0.mk hy427
                    clear hy427
                    replace H := Option.bind_eq_some_iff.mp H
                    obtain ⟨⟨t431, t434⟩, A800, H⟩ := H
                    replace H : (if t434 = 0 then (if (t431.length : Int) ≤ (t409.length : Int) then (some (decide ((t409.length : Int) ≤ (wrap64 ((t431.length : Int) + 1))))) else (some false)) else (some false)) = some r := H
                    have A80 := Aside0.mk A800
                    clear A800
                    by_cases c81 : t434 = 0
                    ·
                     rw [if_pos c81] at H
                     have c81b0 : (t434 == 0) = true := beq_iff_eq.mpr c81
                     have c81b1 : (t434 != 0) = false := bne_eq_false_iff_eq.mpr c81
                     clear c81
                     by_cases c82 : (t431.length : Int) ≤ (t409.length : Int)
                     ·
                      rw [if_pos c82] at H
                      have c82b0 : decide ((t431.length : Int) ≤ (t409.length : Int)) = true := decide_eq_true c82
                      have c82b1 : decide (t431.length ≤ t409.length) = true := decide_eq_true (Int.ofNat_le.mp c82)
                      clear c82
                      obtain rfl := Option.some.inj H
                      try go_wp2
                      have n0_ := Aside0.mk (Kd.R_drew HO_7.out)
                      have n1_ := Aside0.mk (blk_drew BK405.out)
                      have n2_ := Aside0.mk (below_drew1 HB.out)
                      clear HO_7
                      clear BK405
                      clear HB
                      have HO_7 := n0_
                      have BK405 := n1_
                      have HB := n2_
                      clear n0_ n1_ n2_
                      have q84 : ((ji77) : Int) ≤ ((l1.length : Int) : Int) := of_decide_eq_true (by assumption)
                      obtain ⟨i084, hi084, _, hsz84, _⟩ := info_parts info44
                      have hroom84 : l1.length ≤ c1 := HC1.out
                      have hC84 : Kd.C k44 _ A1 l1.length l1 := HR1.out
                      have hcut84 := cut_to (P := Try.prog) 23 44 .i64 Try.underlying23 hi084 A1 l1.length c1 (ji77) (of_decide_eq_true (by assumption)) q84 hroom84
                      have hr84 := Kd.C_take (m := ((ji77) : Int).toNat) hC84 (by omega)
                      have hy84 : y427.length = ((ji77) : Int).toNat := (by rw [Ny427.out, List.length_take]; omega)
                      rw [← Ny427.out] at hr84
                      rw [← hy84] at hcut84
                      have HR430 := Aside0.mk hr84
                      have HC430 := Aside0.mk (show y427.length ≤ c1 from by omega)
                      clear hr84 hC84 hroom84 hi084 hsz84
                      have KY84 := Aside0.mk hy84
                      clear hy84
                      replace q84 := eq_true q84
                      refine start_ (n := 12) (S := fun w' => w'.cell? ⟨gb405, 0, none⟩ = some (.int .i64 a0_0) ∧ w'.cell? ⟨gb405, 1, none⟩ = some (.slice A0_1 l0_1.length c0_1) ∧ w'.cell? ⟨gb405, 2, none⟩ = some (.int .i64 a0_2) ∧ w'.cell? ⟨gb405, 3, none⟩ = some (.int .i64 a0_3) ∧ w'.cell? ⟨gb405, 4, none⟩ = some (.slice A0_4 l0_4.length c0_4) ∧ w'.cell? ⟨gb405, 5, none⟩ = some (.slice A0_5 l0_5.length c0_5)) (ds := []) #[false, false, false, false, false, false, false, false, false, false, false, false] (by kernel_rfl) rfl rfl ⟨(blk_cell BK405.out 0).trans rfl, (blk_cell BK405.out 1).trans rfl, (blk_cell BK405.out 2).trans rfl, (blk_cell BK405.out 3).trans rfl, (blk_cell BK405.out 4).trans rfl, (blk_cell BK405.out 5).trans rfl⟩ (fun hHeld => ?_); refine with_tabW hopmeshlaw34_ConflictLargest.tab26 hopmeshlaw34_ConflictLargest.bits26 (fun HT_ HW_ => ?_)
                      generalize wc.drew = w83 at HO_7 BK405 HB HR430 hHeld ⊢
                      refine pu_ HT_ 1 119 (bl 12 2) ?_
                      refine pu_ HT_ 2 120 (bl 12 6) ?_
                      refine pu_ HT_ 3 121 (bl 12 14) ?_
                      refine pu_ HT_ 4 122 (bl 12 30) ?_
                      refine pu_ HT_ 5 123 (bl 12 62) ?_
                      refine tk_ HT_ HW_ hHeld 0 118 (bl 12 63) ?_
                      refine one_ (i := 6) (N := some 124) (bl 12 127) rfl rfl (one_of HT_.out (by kernel_rfl)) (by decide) (fun K hK => ?_)
                      refine goes_ Try.func28 (by kernel_rfl) rfl #[.agg #[.int .i64 a0_0, .slice A0_1 l0_1.length c0_1, .int .i64 a0_2, .int .i64 a0_3, .slice A0_4 l0_4.length c0_4, .slice A0_5 l0_5.length c0_5], .slice A1 y427.length c1] (by rfl) rfl rfl am_ ?_
                      with_reducible refine (conflict_Largest.calls kj54 a0_0 _ _ l0_1 a0_2 a0_3 _ _ l0_4 _ _ l0_5 _ _ y427 t431 t434 _ ?side1 ?side2 ?side3 ?side4 ?side5 ?side6 ?side7 ?side8 A80.out).mono ?_
                      (case side1 | side3 | side5 | side7 => repeat (first | exact (Kd.C_below HR0_1.out HB.out) | exact (Kd.C_below HR0_4.out HB.out) | exact (Kd.C_below HR0_5.out HB.out) | exact (Kd.C_below HR430.out HB.out) | (with_reducible refine Kd.C_alloc ?_ _) | (with_reducible refine Kd.C_drewN ?_ _) | (with_reducible refine Kd.C_drew ?_)))
                      (case side2 | side4 | side6 | side8 => first | exact HC0_1.out | exact HC0_4.out | exact HC0_5.out | exact HC430.out)
                      rintro e w85 ⟨v432, rfl, ho0, hb⟩
                      refine ⟨_, rfl, ?_⟩
                      have n0_ := Aside0.mk (Kd.R_elder' (kr_ HO_7) (Kd.R_base ho0) hb)
                      have n1_ := Aside0.mk (Kd.R_lower (Kd.R_new' ho0 (Kd.R_lt (kr_ HO_7))) (below_size hb_))
                      have n2_ := bk_ BK405 hb
                      have n3_ := Aside0.mk (below_step hb_ hb)
                      clear HO_7
                      clear BK405
                      clear HB
                      have HO_7 := n0_
                      have HO433 := n1_
                      have BK405 := n2_
                      have HB := n3_
                      clear n0_ n1_ n2_ n3_
                      (try clear hb)
                      (try clear hb2)
                      (try clear hk)
                      (try clear hi)
                      (try clear ho0)
                      refine hK.out _ _ ⟨(blk_cell BK405.out 0).trans rfl, (blk_cell BK405.out 1).trans rfl, (blk_cell BK405.out 2).trans rfl, (blk_cell BK405.out 3).trans rfl, (blk_cell BK405.out 4).trans rfl, (blk_cell BK405.out 5).trans rfl⟩ (fun hHeld => ?_)
                      clear hK K
                      refine norm_ (a' := ?_) ?_ ?_
                      rotate_left
                      ·
                       show Act.put _ (some 124) _ = _
                       simp only [ap_, s0_, s1_, i64_w]
                       rfl
                      refine pu_ HT_ 7 117 (bl 12 255) ?_
                      refine pu_ HT_ 8 125 (bl 12 511) ?_
                      refine pu_ HT_ 9 126 (bl 12 1023) ?_
                      refine pu_ HT_ 10 15 (bl 12 2047) ?_
                      refine pu_ HT_ 11 16 (bl 12 4095) ?_
                      refine done_ (done_of HT_.out (by kernel_rfl)) ?_
                      obtain ⟨Ao86, co86, eo86⟩ := Kd.R_slice HO433.out
                      subst eo86
                      try go_wp2
                      go_ret
                      exact ⟨by first | rfl | (simp [errW_none, errW_some] <;> rfl) | (simp only [← hji77]; first | rfl | (simp [errW_none, errW_some] <;> rfl)) | (simp [*, errW_none, errW_some] <;> rfl), hb_⟩
                     ·
                      rw [if_neg c82] at H
                      have c82b0 : decide ((t431.length : Int) ≤ (t409.length : Int)) = false := decide_eq_false c82
                      have c82b1 : decide (t431.length ≤ t409.length) = false := decide_eq_false (fun h => c82 (Int.ofNat_le.mpr h))
                      clear c82
                      obtain rfl := Option.some.inj H
                      try go_wp2
                      have n0_ := Aside0.mk (Kd.R_drew HO_7.out)
                      have n1_ := Aside0.mk (blk_drew BK405.out)
                      have n2_ := Aside0.mk (below_drew1 HB.out)
                      clear HO_7
                      clear BK405
                      clear HB
                      have HO_7 := n0_
                      have BK405 := n1_
                      have HB := n2_
                      clear n0_ n1_ n2_
                      have q88 : ((ji77) : Int) ≤ ((l1.length : Int) : Int) := of_decide_eq_true (by assumption)
                      obtain ⟨i088, hi088, _, hsz88, _⟩ := info_parts info44
                      have hroom88 : l1.length ≤ c1 := HC1.out
                      have hC88 : Kd.C k44 _ A1 l1.length l1 := HR1.out
                      have hcut88 := cut_to (P := Try.prog) 23 44 .i64 Try.underlying23 hi088 A1 l1.length c1 (ji77) (of_decide_eq_true (by assumption)) q88 hroom88
                      have hr88 := Kd.C_take (m := ((ji77) : Int).toNat) hC88 (by omega)
                      have hy88 : y427.length = ((ji77) : Int).toNat := (by rw [Ny427.out, List.length_take]; omega)
                      rw [← Ny427.out] at hr88
                      rw [← hy88] at hcut88
                      have HR430 := Aside0.mk hr88
                      have HC430 := Aside0.mk (show y427.length ≤ c1 from by omega)
                      clear hr88 hC88 hroom88 hi088 hsz88
                      have KY88 := Aside0.mk hy88
                      clear hy88
                      replace q88 := eq_true q88
                      refine start_ (n := 12) (S := fun w' => w'.cell? ⟨gb405, 0, none⟩ = some (.int .i64 a0_0) ∧ w'.cell? ⟨gb405, 1, none⟩ = some (.slice A0_1 l0_1.length c0_1) ∧ w'.cell? ⟨gb405, 2, none⟩ = some (.int .i64 a0_2) ∧ w'.cell? ⟨gb405, 3, none⟩ = some (.int .i64 a0_3) ∧ w'.cell? ⟨gb405, 4, none⟩ = some (.slice A0_4 l0_4.length c0_4) ∧ w'.cell? ⟨gb405, 5, none⟩ = some (.slice A0_5 l0_5.length c0_5)) (ds := []) #[false, false, false, false, false, false, false, false, false, false, false, false] (by kernel_rfl) rfl rfl ⟨(blk_cell BK405.out 0).trans rfl, (blk_cell BK405.out 1).trans rfl, (blk_cell BK405.out 2).trans rfl, (blk_cell BK405.out 3).trans rfl, (blk_cell BK405.out 4).trans rfl, (blk_cell BK405.out 5).trans rfl⟩ (fun hHeld => ?_); refine with_tabW hopmeshlaw34_ConflictLargest.tab26 hopmeshlaw34_ConflictLargest.bits26 (fun HT_ HW_ => ?_)
                      generalize wc.drew = w87 at HO_7 BK405 HB HR430 hHeld ⊢
                      refine pu_ HT_ 1 119 (bl 12 2) ?_
                      refine pu_ HT_ 2 120 (bl 12 6) ?_
                      refine pu_ HT_ 3 121 (bl 12 14) ?_
                      refine pu_ HT_ 4 122 (bl 12 30) ?_
                      refine pu_ HT_ 5 123 (bl 12 62) ?_
                      refine tk_ HT_ HW_ hHeld 0 118 (bl 12 63) ?_
                      refine one_ (i := 6) (N := some 124) (bl 12 127) rfl rfl (one_of HT_.out (by kernel_rfl)) (by decide) (fun K hK => ?_)
                      refine goes_ Try.func28 (by kernel_rfl) rfl #[.agg #[.int .i64 a0_0, .slice A0_1 l0_1.length c0_1, .int .i64 a0_2, .int .i64 a0_3, .slice A0_4 l0_4.length c0_4, .slice A0_5 l0_5.length c0_5], .slice A1 y427.length c1] (by rfl) rfl rfl am_ ?_
                      with_reducible refine (conflict_Largest.calls kj54 a0_0 _ _ l0_1 a0_2 a0_3 _ _ l0_4 _ _ l0_5 _ _ y427 t431 t434 _ ?side1 ?side2 ?side3 ?side4 ?side5 ?side6 ?side7 ?side8 A80.out).mono ?_
                      (case side1 | side3 | side5 | side7 => repeat (first | exact (Kd.C_below HR0_1.out HB.out) | exact (Kd.C_below HR0_4.out HB.out) | exact (Kd.C_below HR0_5.out HB.out) | exact (Kd.C_below HR430.out HB.out) | (with_reducible refine Kd.C_alloc ?_ _) | (with_reducible refine Kd.C_drewN ?_ _) | (with_reducible refine Kd.C_drew ?_)))
                      (case side2 | side4 | side6 | side8 => first | exact HC0_1.out | exact HC0_4.out | exact HC0_5.out | exact HC430.out)
                      rintro e w89 ⟨v432, rfl, ho0, hb⟩
                      refine ⟨_, rfl, ?_⟩
                      have n0_ := Aside0.mk (Kd.R_elder' (kr_ HO_7) (Kd.R_base ho0) hb)
                      have n1_ := Aside0.mk (Kd.R_lower (Kd.R_new' ho0 (Kd.R_lt (kr_ HO_7))) (below_size hb_))
                      have n2_ := bk_ BK405 hb
                      have n3_ := Aside0.mk (below_step hb_ hb)
                      clear HO_7
                      clear BK405
                      clear HB
                      have HO_7 := n0_
                      have HO433 := n1_
                      have BK405 := n2_
                      have HB := n3_
                      clear n0_ n1_ n2_ n3_
                      (try clear hb)
                      (try clear hb2)
                      (try clear hk)
                      (try clear hi)
                      (try clear ho0)
                      refine hK.out _ _ ⟨(blk_cell BK405.out 0).trans rfl, (blk_cell BK405.out 1).trans rfl, (blk_cell BK405.out 2).trans rfl, (blk_cell BK405.out 3).trans rfl, (blk_cell BK405.out 4).trans rfl, (blk_cell BK405.out 5).trans rfl⟩ (fun hHeld => ?_)
                      clear hK K
                      refine norm_ (a' := ?_) ?_ ?_
                      rotate_left
                      ·
                       show Act.put _ (some 124) _ = _
                       simp only [ap_, s0_, s1_, i64_w]
                       rfl
                      refine pu_ HT_ 7 117 (bl 12 255) ?_
                      refine pu_ HT_ 8 125 (bl 12 511) ?_
                      refine pu_ HT_ 9 126 (bl 12 1023) ?_
                      refine pu_ HT_ 10 15 (bl 12 2047) ?_
                      refine pu_ HT_ 11 16 (bl 12 4095) ?_
                      refine done_ (done_of HT_.out (by kernel_rfl)) ?_
                      obtain ⟨Ao90, co90, eo90⟩ := Kd.R_slice HO433.out
                      subst eo90
                      try go_wp2
                      go_ret
                      exact ⟨by first | rfl | (simp [errW_none, errW_some] <;> rfl) | (simp only [← hji77]; first | rfl | (simp [errW_none, errW_some] <;> rfl)) | (simp [*, errW_none, errW_some] <;> rfl), hb_⟩
                    ·
                     rw [if_neg c81] at H
                     have c81b0 : (t434 == 0) = false := beq_eq_false_iff_ne.mpr c81
                     have c81b1 : (t434 != 0) = true := bne_iff_ne.mpr c81
                     obtain rfl := Option.some.inj H
                     try go_wp2
                     have n0_ := Aside0.mk (Kd.R_drew HO_7.out)
                     have n1_ := Aside0.mk (blk_drew BK405.out)
                     have n2_ := Aside0.mk (below_drew1 HB.out)
                     clear HO_7
                     clear BK405
                     clear HB
                     have HO_7 := n0_
                     have BK405 := n1_
                     have HB := n2_
                     clear n0_ n1_ n2_
                     have q92 : ((ji77) : Int) ≤ ((l1.length : Int) : Int) := of_decide_eq_true (by assumption)
                     obtain ⟨i092, hi092, _, hsz92, _⟩ := info_parts info44
                     have hroom92 : l1.length ≤ c1 := HC1.out
                     have hC92 : Kd.C k44 _ A1 l1.length l1 := HR1.out
                     have hcut92 := cut_to (P := Try.prog) 23 44 .i64 Try.underlying23 hi092 A1 l1.length c1 (ji77) (of_decide_eq_true (by assumption)) q92 hroom92
                     have hr92 := Kd.C_take (m := ((ji77) : Int).toNat) hC92 (by omega)
                     have hy92 : y427.length = ((ji77) : Int).toNat := (by rw [Ny427.out, List.length_take]; omega)
                     rw [← Ny427.out] at hr92
                     rw [← hy92] at hcut92
                     have HR430 := Aside0.mk hr92
                     have HC430 := Aside0.mk (show y427.length ≤ c1 from by omega)
                     clear hr92 hC92 hroom92 hi092 hsz92
                     have KY92 := Aside0.mk hy92
                     clear hy92
                     replace q92 := eq_true q92
                     refine start_ (n := 12) (S := fun w' => w'.cell? ⟨gb405, 0, none⟩ = some (.int .i64 a0_0) ∧ w'.cell? ⟨gb405, 1, none⟩ = some (.slice A0_1 l0_1.length c0_1) ∧ w'.cell? ⟨gb405, 2, none⟩ = some (.int .i64 a0_2) ∧ w'.cell? ⟨gb405, 3, none⟩ = some (.int .i64 a0_3) ∧ w'.cell? ⟨gb405, 4, none⟩ = some (.slice A0_4 l0_4.length c0_4) ∧ w'.cell? ⟨gb405, 5, none⟩ = some (.slice A0_5 l0_5.length c0_5)) (ds := []) #[false, false, false, false, false, false, false, false, false, false, false, false] (by kernel_rfl) rfl rfl ⟨(blk_cell BK405.out 0).trans rfl, (blk_cell BK405.out 1).trans rfl, (blk_cell BK405.out 2).trans rfl, (blk_cell BK405.out 3).trans rfl, (blk_cell BK405.out 4).trans rfl, (blk_cell BK405.out 5).trans rfl⟩ (fun hHeld => ?_); refine with_tabW hopmeshlaw34_ConflictLargest.tab26 hopmeshlaw34_ConflictLargest.bits26 (fun HT_ HW_ => ?_)
                     generalize wc.drew = w91 at HO_7 BK405 HB HR430 hHeld ⊢
                     refine pu_ HT_ 1 119 (bl 12 2) ?_
                     refine pu_ HT_ 2 120 (bl 12 6) ?_
                     refine pu_ HT_ 3 121 (bl 12 14) ?_
                     refine pu_ HT_ 4 122 (bl 12 30) ?_
                     refine pu_ HT_ 5 123 (bl 12 62) ?_
                     refine tk_ HT_ HW_ hHeld 0 118 (bl 12 63) ?_
                     refine one_ (i := 6) (N := some 124) (bl 12 127) rfl rfl (one_of HT_.out (by kernel_rfl)) (by decide) (fun K hK => ?_)
                     refine goes_ Try.func28 (by kernel_rfl) rfl #[.agg #[.int .i64 a0_0, .slice A0_1 l0_1.length c0_1, .int .i64 a0_2, .int .i64 a0_3, .slice A0_4 l0_4.length c0_4, .slice A0_5 l0_5.length c0_5], .slice A1 y427.length c1] (by rfl) rfl rfl am_ ?_
                     with_reducible refine (conflict_Largest.calls kj54 a0_0 _ _ l0_1 a0_2 a0_3 _ _ l0_4 _ _ l0_5 _ _ y427 t431 t434 _ ?side1 ?side2 ?side3 ?side4 ?side5 ?side6 ?side7 ?side8 A80.out).mono ?_
                     (case side1 | side3 | side5 | side7 => repeat (first | exact (Kd.C_below HR0_1.out HB.out) | exact (Kd.C_below HR0_4.out HB.out) | exact (Kd.C_below HR0_5.out HB.out) | exact (Kd.C_below HR430.out HB.out) | (with_reducible refine Kd.C_alloc ?_ _) | (with_reducible refine Kd.C_drewN ?_ _) | (with_reducible refine Kd.C_drew ?_)))
                     (case side2 | side4 | side6 | side8 => first | exact HC0_1.out | exact HC0_4.out | exact HC0_5.out | exact HC430.out)
                     rintro e w93 ⟨v432, rfl, ho0, hb⟩
                     refine ⟨_, rfl, ?_⟩
                     have n0_ := Aside0.mk (Kd.R_elder' (kr_ HO_7) (Kd.R_base ho0) hb)
                     have n1_ := Aside0.mk (Kd.R_lower (Kd.R_new' ho0 (Kd.R_lt (kr_ HO_7))) (below_size hb_))
                     have n2_ := bk_ BK405 hb
                     have n3_ := Aside0.mk (below_step hb_ hb)
                     clear HO_7
                     clear BK405
                     clear HB
                     have HO_7 := n0_
                     have HO433 := n1_
                     have BK405 := n2_
                     have HB := n3_
                     clear n0_ n1_ n2_ n3_
                     (try clear hb)
                     (try clear hb2)
                     (try clear hk)
                     (try clear hi)
                     (try clear ho0)
                     refine hK.out _ _ ⟨(blk_cell BK405.out 0).trans rfl, (blk_cell BK405.out 1).trans rfl, (blk_cell BK405.out 2).trans rfl, (blk_cell BK405.out 3).trans rfl, (blk_cell BK405.out 4).trans rfl, (blk_cell BK405.out 5).trans rfl⟩ (fun hHeld => ?_)
                     clear hK K
                     refine norm_ (a' := ?_) ?_ ?_
                     rotate_left
                     ·
                      show Act.put _ (some 124) _ = _
                      simp only [ap_, s0_, s1_, i64_w]
                      rfl
                     refine pu_ HT_ 7 117 (bl 12 255) ?_
                     refine pu_ HT_ 8 125 (bl 12 511) ?_
                     refine pu_ HT_ 9 126 (bl 12 1023) ?_
                     refine pu_ HT_ 10 15 (bl 12 2047) ?_
                     refine pu_ HT_ 11 16 (bl 12 4095) ?_
                     refine done_ (done_of HT_.out (by kernel_rfl)) ?_
                     try go_wp2
                     go_ret
                     exact ⟨by first | rfl | (simp [errW_none, errW_some] <;> rfl) | (simp only [← hji77]; first | rfl | (simp [errW_none, errW_some] <;> rfl)) | (simp [*, errW_none, errW_some] <;> rfl), hb_⟩
                   ·
                    rw [if_neg c79] at H
                    exact absurd H (by simp)
                  ·
                   rw [if_neg c78] at H
                   exact absurd H (by simp)
 ·
  replace c5 := Bool.eq_false_iff.mpr c5
  subst c5
  have H1 : (some false) = some r := by rw [if_neg (show ¬ (false = true) by decide)] at H; exact H
  clear H
  have H := H1
  clear H1
  obtain rfl := Option.some.inj H
  go_enter Try.func9, Try.ntmps9
  go_wp2_with (first | ((with_reducible refine gate_dst (N := 3) rfl ?_); refine bx_ 3 #[.int .i64 a0_0, .slice A0_1 l0_1.length c0_1, .int .i64 a0_2, .int .i64 a0_3, .slice A0_4 l0_4.length c0_4, .slice A0_5 l0_5.length c0_5] 26 ?_; intro gb405 hg w94 hbox hb; have n0_ := Aside0.mk (below_step hb_ hb); have n1_ := Aside0.mk (hbox); have n2_ := Aside0.mk ((by rw [hg]; exact (below_size hb_) : w.heap.size ≤ gb405)); have n3_ := Aside0.mk ((by rw [hg]; exact (below_size hb_) : w.heap.size ≤ gb405)); clear HB; have HB := n0_; have BK405 := n1_; have GW405 := n2_; have GE405 := n3_; clear n0_ n1_ n2_ n3_; clear hb hbox hg) | ((with_reducible refine gate_callee (f := 11) rfl ?_); refine goesL_ (some 17) rfl rfl Try.func11 (by kernel_rfl) rfl #[] rfl am_ ?_; (with_reducible refine (hopmeshlaw34_awake.calls  false _ A4.out).mono ?_); rintro e w95 ⟨rfl, hb⟩; refine ⟨_, rfl, ?_⟩; have n0_ := bk_ BK405 hb; have n1_ := Aside0.mk (below_step hb_ hb); clear BK405; clear HB; have BK405 := n0_; have HB := n1_; clear n0_ n1_; (try clear hb); (try clear hb2); (try clear hk); (try clear hi)))
  go_ret
  exact ⟨er_, hb_⟩

end Go.Proofs.Ytibgcekekmphoaa.P34
