-- Written by a program of this session (wip/tools) over the kit's print; Lean checks it.
import Derived.Test.YtibgcekekmphoaaP340
import Derived.Test.YtibgcekekmphoaaP34R
namespace Go.Proofs.Ytibgcekekmphoaa.P34
open Go.RowKit Go.Proofs.YtibgcekekmphoaaW.PrintWords Go.Proofs.YtibgcekekmphoaaW.PrintLast Go.Proofs.YtibgcekekmphoaaW.PrintMore
attribute [local go_sem] max2_int min2_int max_two min_two max_three min_three max_four min_four   -- for this text's walks alone
set_option linter.unusedVariables false
set_option linter.unusedSimpArgs false

/-! ### hopmeshref34_Fault: function 48 -/
mutual
def hopmeshref34_Fault.l0 : Nat → List (S36) → Int → Int → Int → Int → Int → List (List Int) → Int → Int → List (S44) → List Int → Int → Int → Int → Int → Int → Option (Bool)
 | 0, _, _, _, _, _, _, _, _, _, _, _, _, _, _, _, _ => none
 | k + 1, x1, x2, x8, x9, x10, x267000, x267001, x267002, x267003, x267004, x267005, x269000, x269001, x269002, x269003, x269004 => if x10 < (x1.length : Int) then (if x10 = x2 then (hopmeshref34_Fault.l0 k x1 x2 x8 x9 (wrap64 (x10 + 1)) x267000 x267001 x267002 x267003 x267004 x267005 x269000 x269001 x269002 x269003 x269004) else (if 0 ≤ x10 then (if ((rd_T36 x1 x10).f2) = x269002 then (hopmeshref34_Fault.j1 k x1 x2 x8 x9 x10 true x267000 x267001 x267002 x267003 x267004 x267005 x269000 x269001 x269002 x269003 x269004) else (if ((rd_T36 x1 x10).f2) = x269003 then (hopmeshref34_Fault.j1 k x1 x2 x8 x9 x10 true x267000 x267001 x267002 x267003 x267004 x267005 x269000 x269001 x269002 x269003 x269004) else (if ((rd_T36 x1 x10).f3) = x269002 then (hopmeshref34_Fault.j1 k x1 x2 x8 x9 x10 true x267000 x267001 x267002 x267003 x267004 x267005 x269000 x269001 x269002 x269003 x269004) else (hopmeshref34_Fault.j1 k x1 x2 x8 x9 x10 (((rd_T36 x1 x10).f3) == x269003) x267000 x267001 x267002 x267003 x267004 x267005 x269000 x269001 x269002 x269003 x269004)))) else (none))) else ((hopmeshref31_Find.f k x267000 x267001 x267002 x267003 x267004 x267005 x269002 x269003).bind fun t282 => (if 0 ≤ t282 then (if t282 < (x267005.length : Int) then ((hopmeshref31_Heard.f x267000 x267001 x267002 x267003 x267004 x267005 (rd x267005 t282) x8).bind fun t284 => (if t284 = true then ((hopmeshref31_Find.f k x267000 x267001 x267002 x267003 x267004 x267005 x269003 x269002).bind fun t285 => (if 0 ≤ t285 then (if t285 < (x267005.length : Int) then ((hopmeshref31_Heard.f x267000 x267001 x267002 x267003 x267004 x267005 (rd x267005 t285) x9).bind fun t287 => (some (!t287))) else (none)) else (none))) else (some true))) else (none)) else (none)))
def hopmeshref34_Fault.j1 : Nat → List (S36) → Int → Int → Int → Int → Bool → Int → List (List Int) → Int → Int → List (S44) → List Int → Int → Int → Int → Int → Int → Option (Bool)
 | 0, _, _, _, _, _, _, _, _, _, _, _, _, _, _, _, _, _ => none
 | k + 1, x1, x2, x8, x9, x10, x68, x267000, x267001, x267002, x267003, x267004, x267005, x269000, x269001, x269002, x269003, x269004 => if x68 = true then (some true) else (if 0 ≤ x10 then (if x10 < (x1.length : Int) then ((hopmeshref34_power.f x267000 x267001 x267002 x267003 x267004 x267005 ((rd_T36 x1 x10).f2) x269003).bind fun t275 => ((hopmeshref34_power.f x267000 x267001 x267002 x267003 x267004 x267005 ((rd_T36 x1 x10).f3) x269003).bind fun t277 => ((hopmeshref34_power.f x267000 x267001 x267002 x267003 x267004 x267005 ((rd_T36 x1 x10).f2) x269002).bind fun t279 => ((hopmeshref34_power.f x267000 x267001 x267002 x267003 x267004 x267005 ((rd_T36 x1 x10).f3) x269002).bind fun t281 => (hopmeshref34_Fault.l0 k x1 x2 (wrap64 ((wrap64 (x8 + t275)) + t277)) (wrap64 ((wrap64 (x9 + t279)) + t281)) (wrap64 (x10 + 1)) x267000 x267001 x267002 x267003 x267004 x267005 x269000 x269001 x269002 x269003 x269004))))) else (none)) else (none))
end
def hopmeshref34_Fault.f (k : Nat) (a0_0 : Int) (l0_1 : List (List Int)) (a0_2 : Int) (a0_3 : Int) (l0_4 : List (S44)) (l0_5 : List Int) (l1 : List (S36)) (a2 : Int) : Option (Bool) := if 0 ≤ a2 then (if a2 < (l1.length : Int) then ((hopmeshref31_Good.f k a0_0 l0_1 a0_2 a0_3 l0_4 l0_5 ((rd_T36 l1 a2).f2) ((rd_T36 l1 a2).f3)).bind fun t269 => (if t269 = true then (hopmeshref34_Fault.l0 k l1 a2 0 0 0 a0_0 l0_1 a0_2 a0_3 l0_4 l0_5 ((rd_T36 l1 a2).f0) ((rd_T36 l1 a2).f1) ((rd_T36 l1 a2).f2) ((rd_T36 l1 a2).f3) ((rd_T36 l1 a2).f4)) else (some true))) else (none)) else (none)
theorem hopmeshref34_Fault.mono_l : ∀ k, (∀ y0 y1 y2 y3 y4 y5 y6 y7 y8 y9 y10 y11 y12 y13 y14 y15, LeO (hopmeshref34_Fault.l0 k y0 y1 y2 y3 y4 y5 y6 y7 y8 y9 y10 y11 y12 y13 y14 y15) (hopmeshref34_Fault.l0 (k + 1) y0 y1 y2 y3 y4 y5 y6 y7 y8 y9 y10 y11 y12 y13 y14 y15)) ∧ (∀ y0 y1 y2 y3 y4 y5 y6 y7 y8 y9 y10 y11 y12 y13 y14 y15 y16, LeO (hopmeshref34_Fault.j1 k y0 y1 y2 y3 y4 y5 y6 y7 y8 y9 y10 y11 y12 y13 y14 y15 y16) (hopmeshref34_Fault.j1 (k + 1) y0 y1 y2 y3 y4 y5 y6 y7 y8 y9 y10 y11 y12 y13 y14 y15 y16))
 | 0 => ⟨fun _ _ _ _ _ _ _ _ _ _ _ _ _ _ _ _ r h => by simp [hopmeshref34_Fault.l0] at h, fun _ _ _ _ _ _ _ _ _ _ _ _ _ _ _ _ _ r h => by simp [hopmeshref34_Fault.j1] at h⟩
 | k + 1 => by
  obtain ⟨ih0, ih1⟩ := hopmeshref34_Fault.mono_l k
  refine ⟨?_, ?_⟩
  ·
   intro y0 y1 y2 y3 y4 y5 y6 y7 y8 y9 y10 y11 y12 y13 y14 y15
   unfold hopmeshref34_Fault.l0
   repeat' first
   | (with_reducible exact ih0 _ _ _ _ _ _ _ _ _ _ _ _ _ _ _ _)
   | (with_reducible exact ih1 _ _ _ _ _ _ _ _ _ _ _ _ _ _ _ _ _)
   | (with_reducible exact hopmeshref31_Find.mono _ _ _ _ _ _ _ _ _)
   | (with_reducible exact hopmeshref31_Good.mono _ _ _ _ _ _ _ _ _)
   | (with_reducible exact LeO.refl _)
   | (with_reducible exact LeO.none _)
   | (with_reducible refine LeO.ite ?_ ?_)
   | (with_reducible refine LeO.bind ?_ (fun _ => ?_))
   | exact ih0 _ _ _ _ _ _ _ _ _ _ _ _ _ _ _ _
   | exact ih1 _ _ _ _ _ _ _ _ _ _ _ _ _ _ _ _ _
   | exact hopmeshref31_Find.mono _ _ _ _ _ _ _ _ _
   | exact hopmeshref31_Good.mono _ _ _ _ _ _ _ _ _
   | exact LeO.none _
   | refine LeO.ite ?_ ?_
   | refine LeO.bind ?_ (fun _ => ?_)
  ·
   intro y0 y1 y2 y3 y4 y5 y6 y7 y8 y9 y10 y11 y12 y13 y14 y15 y16
   unfold hopmeshref34_Fault.j1
   repeat' first
   | (with_reducible exact ih0 _ _ _ _ _ _ _ _ _ _ _ _ _ _ _ _)
   | (with_reducible exact ih1 _ _ _ _ _ _ _ _ _ _ _ _ _ _ _ _ _)
   | (with_reducible exact hopmeshref31_Find.mono _ _ _ _ _ _ _ _ _)
   | (with_reducible exact hopmeshref31_Good.mono _ _ _ _ _ _ _ _ _)
   | (with_reducible exact LeO.refl _)
   | (with_reducible exact LeO.none _)
   | (with_reducible refine LeO.ite ?_ ?_)
   | (with_reducible refine LeO.bind ?_ (fun _ => ?_))
   | exact ih0 _ _ _ _ _ _ _ _ _ _ _ _ _ _ _ _
   | exact ih1 _ _ _ _ _ _ _ _ _ _ _ _ _ _ _ _ _
   | exact hopmeshref31_Find.mono _ _ _ _ _ _ _ _ _
   | exact hopmeshref31_Good.mono _ _ _ _ _ _ _ _ _
   | exact LeO.none _
   | refine LeO.ite ?_ ?_
   | refine LeO.bind ?_ (fun _ => ?_)
theorem hopmeshref34_Fault.mono : ∀ a0 a1 a2 a3 a4 a5 a6 a7 k, LeO (hopmeshref34_Fault.f k a0 a1 a2 a3 a4 a5 a6 a7) (hopmeshref34_Fault.f (k + 1) a0 a1 a2 a3 a4 a5 a6 a7) := by
 intro a0 a1 a2 a3 a4 a5 a6 a7 k
 obtain ⟨ih0, ih1⟩ := hopmeshref34_Fault.mono_l k
 unfold hopmeshref34_Fault.f
 repeat' first
   | (with_reducible exact ih0 _ _ _ _ _ _ _ _ _ _ _ _ _ _ _ _)
   | (with_reducible exact ih1 _ _ _ _ _ _ _ _ _ _ _ _ _ _ _ _ _)
   | (with_reducible exact hopmeshref31_Find.mono _ _ _ _ _ _ _ _ _)
   | (with_reducible exact hopmeshref31_Good.mono _ _ _ _ _ _ _ _ _)
   | (with_reducible exact LeO.refl _)
   | (with_reducible exact LeO.none _)
   | (with_reducible refine LeO.ite ?_ ?_)
   | (with_reducible refine LeO.bind ?_ (fun _ => ?_))
   | exact ih0 _ _ _ _ _ _ _ _ _ _ _ _ _ _ _ _
   | exact ih1 _ _ _ _ _ _ _ _ _ _ _ _ _ _ _ _ _
   | exact hopmeshref31_Find.mono _ _ _ _ _ _ _ _ _
   | exact hopmeshref31_Good.mono _ _ _ _ _ _ _ _ _
   | exact LeO.none _
   | refine LeO.ite ?_ ?_
   | refine LeO.bind ?_ (fun _ => ?_)
def hopmeshref34_Fault.T9 : Bool × List (List Nat × List Nat) := (true, [([], []), ([], []), ([0, 1], [0, 1]), ([2], [2]), ([3], [3]), ([], []), ([5], [5]), ([4, 6], [4, 6]), ([7], [7]), ([8], [8]), ([8], [8]), ([9, 10, 8], [8, 9, 10]), ([11, 8], [8, 11]), ([12, 8], [8, 12]), ([8], [8]), ([14, 8], [8, 14]), ([13, 15, 8], [8, 13, 15]), ([8, 16], [8, 16]), ([17, 8], [17]), ([18], [18]), ([18], [18]), ([19, 20, 18], [18, 19, 20]), ([21, 18], [18, 21]), ([22, 18], [18, 22]), ([18], [18]), ([24, 18], [18, 24]), ([23, 25, 18], [18, 23, 25]), ([18, 26], [18, 26]), ([27, 18], [27]), ([28], [28]), ([28], [28]), ([29, 30, 28], [28, 29, 30]), ([31, 28], [28, 31]), ([32, 28], [28, 32]), ([28], [28]), ([34, 28], [28, 34]), ([33, 35, 28], [28, 33, 35]), ([28, 36], [28, 36])])
def hopmeshref34_Fault.B9 : List Nat := [0, 0, 3, 7, 15, 0, 32, 127, 255, 511, 511, 2047, 4095, 8191, 511, 16895, 65535, 131071, 262143, 524287, 524287, 2097151, 4194303, 8388607, 524287, 17301503, 67108863, 134217727, 268435455, 536870911, 536870911, 2147483647, 4294967295, 8589934591, 536870911, 17716740095, 68719476735, 137438953471]
theorem hopmeshref34_Fault.tab9 : rtab .any (opsOf Try.f48 9) = hopmeshref34_Fault.T9 := by kernel_rfl
theorem hopmeshref34_Fault.bits9 : waitsOk hopmeshref34_Fault.T9.2 hopmeshref34_Fault.B9 = true := by kernel_rfl
def hopmeshref34_Fault.T11 : Bool × List (List Nat × List Nat) := (true, [([], []), ([], []), ([], []), ([], []), ([2, 3], [2, 3]), ([4], [4]), ([5], [5]), ([], []), ([7], [7]), ([1, 6, 8], [1, 6, 8]), ([0, 9], [0, 9]), ([], []), ([], []), ([], []), ([12, 13], [12, 13]), ([14], [14]), ([15], [15]), ([], []), ([17], [17]), ([11, 16, 18, 9], [11, 16, 18]), ([10, 19], [10, 19]), ([20, 19, 0, 1, 2, 3, 4, 5, 6, 7, 8, 9, 10, 11, 12, 13, 14, 15, 16, 17, 18, 19, 20], [0, 20])])
def hopmeshref34_Fault.B11 : List Nat := [0, 0, 0, 0, 12, 28, 60, 0, 128, 510, 1023, 0, 0, 0, 12288, 28672, 61440, 0, 131072, 523262, 1048575, 2097151]
theorem hopmeshref34_Fault.tab11 : rtab .any (opsOf Try.f48 11) = hopmeshref34_Fault.T11 := by kernel_rfl
theorem hopmeshref34_Fault.bits11 : waitsOk hopmeshref34_Fault.T11.2 hopmeshref34_Fault.B11 = true := by kernel_rfl
def hopmeshref34_Fault.T12 : Bool × List (List Nat × List Nat) := (true, [([], []), ([], []), ([], []), ([], []), ([2, 3], [2, 3]), ([4], [4]), ([5], [5]), ([], []), ([7], [7]), ([1, 6, 8], [1, 6, 8]), ([0, 9], [0, 9]), ([], []), ([], []), ([], []), ([12, 13], [12, 13]), ([14], [14]), ([15], [15]), ([], []), ([17], [17]), ([11, 16, 18, 9], [11, 16, 18]), ([10, 19], [10, 19]), ([20, 19, 0, 1, 2, 3, 4, 5, 6, 7, 8, 9, 10, 11, 12, 13, 14, 15, 16, 17, 18, 19, 20], [0, 20])])
def hopmeshref34_Fault.B12 : List Nat := [0, 0, 0, 0, 12, 28, 60, 0, 128, 510, 1023, 0, 0, 0, 12288, 28672, 61440, 0, 131072, 523262, 1048575, 2097151]
theorem hopmeshref34_Fault.tab12 : rtab .any (opsOf Try.f48 12) = hopmeshref34_Fault.T12 := by kernel_rfl
theorem hopmeshref34_Fault.bits12 : waitsOk hopmeshref34_Fault.T12.2 hopmeshref34_Fault.B12 = true := by kernel_rfl
def hopmeshref34_Fault.T13 : Bool × List (List Nat × List Nat) := (true, [([], []), ([], []), ([1], [1]), ([], []), ([], []), ([4], [4]), ([], []), ([6], [6]), ([3, 5, 7], [3, 5, 7]), ([2, 8], [2, 8]), ([9], [9]), ([], []), ([0, 10, 11, 8], [0, 10, 11]), ([12], [12]), ([13, 12], [13]), ([14], [14]), ([14], [14]), ([16, 14], [14, 16]), ([14], [14]), ([14], [14]), ([19, 14], [14, 19]), ([14], [14]), ([21, 14], [14, 21]), ([18, 20, 22, 14, 14], [14, 18, 20, 22]), ([17, 23, 14], [14, 17, 23]), ([24, 14], [14, 24]), ([14], [14]), ([15, 25, 26, 23, 14], [14, 15, 25, 26]), ([27, 14], [14, 27]), ([14, 28], [14, 28]), ([29, 27, 0, 1, 2, 3, 4, 5, 6, 7, 8, 9, 10, 11, 12, 13, 14, 15, 16, 17, 18, 19, 20, 21, 22, 23, 24, 25, 26, 27, 28, 29], [29])])
def hopmeshref34_Fault.B13 : List Nat := [0, 0, 2, 0, 0, 16, 0, 64, 248, 510, 1022, 0, 4095, 8191, 16383, 32767, 32767, 98303, 32767, 32767, 557055, 32767, 2129919, 8159231, 16744447, 33521663, 32767, 134217727, 268435455, 536870911, 1073741823]
theorem hopmeshref34_Fault.tab13 : rtab .any (opsOf Try.f48 13) = hopmeshref34_Fault.T13 := by kernel_rfl
theorem hopmeshref34_Fault.bits13 : waitsOk hopmeshref34_Fault.T13.2 hopmeshref34_Fault.B13 = true := by kernel_rfl
end Go.Proofs.Ytibgcekekmphoaa.P34
