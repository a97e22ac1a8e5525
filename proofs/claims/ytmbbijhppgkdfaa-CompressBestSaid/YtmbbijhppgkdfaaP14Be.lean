-- Written by a program of this session (wip/tools) over the kit's print; Lean checks it.
import Derived.Test.YtmbbijhppgkdfaaVBest
import Derived.Test.YtmbbijhppgkdfaaP14Rc
namespace Go.Proofs.Ytmbbijhppgkdfaa.P14
open Go.RowKit Go.Proofs.YtmbbijhppgkdfaaW.PrintWords Go.Proofs.YtmbbijhppgkdfaaW.PrintLast Go.Proofs.YtmbbijhppgkdfaaW.PrintMore
attribute [local go_sem] max2_int min2_int max_two min_two max_three min_three max_four min_four   -- for this text's walks alone
set_option linter.unusedVariables false
set_option linter.unusedSimpArgs false

theorem info9 : (Try.prog.info? 9).map (fun i => (i.zero, i.size, i.bytes)) = some (some (.string ⟨#[]⟩), 1, 16) := by kernel_rfl
/-! ### hopmeshref14_Best: function 31 -/
mutual
def hopmeshref14_Best.j0 : Nat → List (S24) → Int → List (S26) → Bool → Option ((List (S26)))
 | 0, _, _, _, _ => none
 | k + 1, x0, x1, x5, x20 => if x20 = true then (some x5) else (hopmeshref14_Best.l0 k x0 x1 x5 (([] : List ByteArray)) (([] : List Int)) 0)
def hopmeshref14_Best.l0 : Nat → List (S24) → Int → List (S26) → List ByteArray → List Int → Int → Option ((List (S26)))
 | 0, _, _, _, _, _, _ => none
 | k + 1, x0, x1, x5, x6, x7, x8 => if x8 < (x0.length : Int) then (if 0 ≤ x8 then ((hopmeshref14_Check.f k ((rd_T24 x0 x8).f0) ((rd_T24 x0 x8).f1) ((rd_T24 x0 x8).f2) ((rd_T24 x0 x8).f3) ((rd_T24 x0 x8).f4) ((rd_T24 x0 x8).f5) ((rd_T24 x0 x8).f6)).bind fun t572 => (if t572 = 0 then (if 0 ≤ 3 then (if 3 ≤ (((rd_T24 x0 x8).f2).size : Int) then (if 3 ≤ (((rd_T24 x0 x8).f3).size : Int) then ((some (([((rd_T24 x0 x8).f2).extract 0 3, ((rd_T24 x0 x8).f3).extract 0 3] : List ByteArray) : List ByteArray)).bind fun y575 => (hopmeshref14_Best.l1 k x0 x1 x5 x6 x7 x8 y575 (y575.length : Int) 0)) else (none)) else (none)) else (none)) else (hopmeshref14_Best.l0 k x0 x1 x5 x6 x7 (wrap64 (x8 + 1))))) else (none)) else (hopmeshref14_Best.l3 k x1 x5 x6 x7)
def hopmeshref14_Best.l1 : Nat → List (S24) → Int → List (S26) → List ByteArray → List Int → Int → List ByteArray → Int → Int → Option ((List (S26)))
 | 0, _, _, _, _, _, _, _, _, _ => none
 | k + 1, x0, x1, x5, x6, x7, x8, x48, x49, x50 => if x50 < x49 then (if 0 ≤ x50 then (if x50 < (x48.length : Int) then (hopmeshref14_Best.l2 k x0 x1 x5 x6 x7 x8 (rdOf ByteArray.empty x48 x50) 0 x48 x49 x50) else (none)) else (none)) else (hopmeshref14_Best.l0 k x0 x1 x5 x6 x7 (wrap64 (x8 + 1)))
def hopmeshref14_Best.j4 : Nat → List (S24) → Int → List (S26) → List ByteArray → List Int → Int → ByteArray → Int → List ByteArray → Int → Int → Option ((List (S26)))
 | 0, _, _, _, _, _, _, _, _, _, _, _ => none
 | k + 1, x0, x1, x5, x6, x7, x8, x10, x11, x48, x49, x50 => if x11 = (x6.length : Int) then (if x6.length < 8796093022208 then (if x7.length < 17592186044416 then ((some (x7 ++ [0] : List Int)).bind fun y583 => (if 0 ≤ x11 then (if x11 < (y583.length : Int) then (hopmeshref14_Best.l1 k x0 x1 x5 (x6 ++ [x10]) (y583.set (x11 : Int).toNat (wrap64 ((rd y583 x11) + 1))) x8 x48 x49 (wrap64 (x50 + 1))) else (none)) else (none))) else (none)) else (none)) else (if 0 ≤ x11 then (if x11 < (x7.length : Int) then (hopmeshref14_Best.l1 k x0 x1 x5 x6 (x7.set (x11 : Int).toNat (wrap64 ((rd x7 x11) + 1))) x8 x48 x49 (wrap64 (x50 + 1))) else (none)) else (none))
def hopmeshref14_Best.l2 : Nat → List (S24) → Int → List (S26) → List ByteArray → List Int → Int → ByteArray → Int → List ByteArray → Int → Int → Option ((List (S26)))
 | 0, _, _, _, _, _, _, _, _, _, _, _ => none
 | k + 1, x0, x1, x5, x6, x7, x8, x10, x11, x48, x49, x50 => if x11 < (x6.length : Int) then (if 0 ≤ x11 then (if (rdOf ByteArray.empty x6 x11).toList = x10.toList then (hopmeshref14_Best.j4 k x0 x1 x5 x6 x7 x8 x10 x11 x48 x49 x50) else (hopmeshref14_Best.l2 k x0 x1 x5 x6 x7 x8 x10 (wrap64 (x11 + 1)) x48 x49 x50)) else (none)) else (hopmeshref14_Best.j4 k x0 x1 x5 x6 x7 x8 x10 x11 x48 x49 x50)
def hopmeshref14_Best.l3 : Nat → Int → List (S26) → List ByteArray → List Int → Option ((List (S26)))
 | 0, _, _, _, _ => none
 | k + 1, x1, x5, x6, x7 => if (x5.length : Int) < x1 then (hopmeshref14_Best.l4 k x1 x5 x6 x7 (-1) 0) else (some x5)
def hopmeshref14_Best.l4 : Nat → Int → List (S26) → List ByteArray → List Int → Int → Int → Option ((List (S26)))
 | 0, _, _, _, _, _, _ => none
 | k + 1, x1, x5, x6, x7, x12, x13 => if x13 < (x6.length : Int) then (if 0 ≤ x13 then (if x13 < (x7.length : Int) then (if (rd x7 x13) > 0 then (if x12 < 0 then (hopmeshref14_Best.j7 k x1 x5 x6 x7 x12 x13 true) else (if 0 ≤ x12 then (if x12 < (x7.length : Int) then (if (rd x7 x13) > (rd x7 x12) then (hopmeshref14_Best.j7 k x1 x5 x6 x7 x12 x13 true) else (if (rd x7 x13) = (rd x7 x12) then (if x12 < (x6.length : Int) then (hopmeshref14_Best.j7 k x1 x5 x6 x7 x12 x13 (Op.bytesLess ((rdOf ByteArray.empty x6 x13).toList) ((rdOf ByteArray.empty x6 x12).toList))) else (none)) else (hopmeshref14_Best.j7 k x1 x5 x6 x7 x12 x13 false))) else (none)) else (none))) else (hopmeshref14_Best.j7 k x1 x5 x6 x7 x12 x13 false)) else (none)) else (none)) else (if x12 < 0 then (some x5) else (if 0 ≤ x12 then (if x12 < (x6.length : Int) then (if x5.length < 8796093022208 then (if x12 < (x7.length : Int) then (hopmeshref14_Best.l3 k x1 (x5 ++ [(⟨rdOf ByteArray.empty x6 x12⟩ : S26)]) x6 (x7.set (x12 : Int).toNat 0)) else (none)) else (none)) else (none)) else (none)))
def hopmeshref14_Best.j7 : Nat → Int → List (S26) → List ByteArray → List Int → Int → Int → Bool → Option ((List (S26)))
 | 0, _, _, _, _, _, _, _ => none
 | k + 1, x1, x5, x6, x7, x12, x13, x139 => if x139 = true then (hopmeshref14_Best.l4 k x1 x5 x6 x7 x13 (wrap64 (x13 + 1))) else (hopmeshref14_Best.l4 k x1 x5 x6 x7 x12 (wrap64 (x13 + 1)))
end
def hopmeshref14_Best.f (k : Nat) (l0 : List (S24)) (a1 : Int) : Option ((List (S26))) := (some (([] : List (S26)) : List (S26))).bind fun y562 => (if a1 < 1 then (hopmeshref14_Best.j0 k l0 a1 y562 true) else (hopmeshref14_Best.j0 k l0 a1 y562 (decide (a1 > 8))))
theorem hopmeshref14_Best.mono_l : ∀ k, (∀ y0 y1 y2 y3, LeO (hopmeshref14_Best.j0 k y0 y1 y2 y3) (hopmeshref14_Best.j0 (k + 1) y0 y1 y2 y3)) ∧ (∀ y0 y1 y2 y3 y4 y5, LeO (hopmeshref14_Best.l0 k y0 y1 y2 y3 y4 y5) (hopmeshref14_Best.l0 (k + 1) y0 y1 y2 y3 y4 y5)) ∧ (∀ y0 y1 y2 y3 y4 y5 y6 y7 y8, LeO (hopmeshref14_Best.l1 k y0 y1 y2 y3 y4 y5 y6 y7 y8) (hopmeshref14_Best.l1 (k + 1) y0 y1 y2 y3 y4 y5 y6 y7 y8)) ∧ (∀ y0 y1 y2 y3 y4 y5 y6 y7 y8 y9 y10, LeO (hopmeshref14_Best.j4 k y0 y1 y2 y3 y4 y5 y6 y7 y8 y9 y10) (hopmeshref14_Best.j4 (k + 1) y0 y1 y2 y3 y4 y5 y6 y7 y8 y9 y10)) ∧ (∀ y0 y1 y2 y3 y4 y5 y6 y7 y8 y9 y10, LeO (hopmeshref14_Best.l2 k y0 y1 y2 y3 y4 y5 y6 y7 y8 y9 y10) (hopmeshref14_Best.l2 (k + 1) y0 y1 y2 y3 y4 y5 y6 y7 y8 y9 y10)) ∧ (∀ y0 y1 y2 y3, LeO (hopmeshref14_Best.l3 k y0 y1 y2 y3) (hopmeshref14_Best.l3 (k + 1) y0 y1 y2 y3)) ∧ (∀ y0 y1 y2 y3 y4 y5, LeO (hopmeshref14_Best.l4 k y0 y1 y2 y3 y4 y5) (hopmeshref14_Best.l4 (k + 1) y0 y1 y2 y3 y4 y5)) ∧ (∀ y0 y1 y2 y3 y4 y5 y6, LeO (hopmeshref14_Best.j7 k y0 y1 y2 y3 y4 y5 y6) (hopmeshref14_Best.j7 (k + 1) y0 y1 y2 y3 y4 y5 y6))
 | 0 => ⟨fun _ _ _ _ r h => by simp [hopmeshref14_Best.j0] at h, fun _ _ _ _ _ _ r h => by simp [hopmeshref14_Best.l0] at h, fun _ _ _ _ _ _ _ _ _ r h => by simp [hopmeshref14_Best.l1] at h, fun _ _ _ _ _ _ _ _ _ _ _ r h => by simp [hopmeshref14_Best.j4] at h, fun _ _ _ _ _ _ _ _ _ _ _ r h => by simp [hopmeshref14_Best.l2] at h, fun _ _ _ _ r h => by simp [hopmeshref14_Best.l3] at h, fun _ _ _ _ _ _ r h => by simp [hopmeshref14_Best.l4] at h, fun _ _ _ _ _ _ _ r h => by simp [hopmeshref14_Best.j7] at h⟩
 | k + 1 => by
  obtain ⟨ih0, ih1, ih2, ih3, ih4, ih5, ih6, ih7⟩ := hopmeshref14_Best.mono_l k
  refine ⟨?_, ?_, ?_, ?_, ?_, ?_, ?_, ?_⟩
  ·
   intro y0 y1 y2 y3
   unfold hopmeshref14_Best.j0
   repeat' first
   | (with_reducible exact ih0 _ _ _ _)
   | (with_reducible exact ih1 _ _ _ _ _ _)
   | (with_reducible exact ih2 _ _ _ _ _ _ _ _ _)
   | (with_reducible exact ih3 _ _ _ _ _ _ _ _ _ _ _)
   | (with_reducible exact ih4 _ _ _ _ _ _ _ _ _ _ _)
   | (with_reducible exact ih5 _ _ _ _)
   | (with_reducible exact ih6 _ _ _ _ _ _)
   | (with_reducible exact ih7 _ _ _ _ _ _ _)
   | (with_reducible exact hopmeshref14_Check.mono _ _ _ _ _ _ _ _)
   | (with_reducible exact LeO.refl _)
   | (with_reducible exact LeO.none _)
   | (with_reducible refine LeO.ite ?_ ?_)
   | (with_reducible refine LeO.bind ?_ (fun _ => ?_))
   | exact ih0 _ _ _ _
   | exact ih1 _ _ _ _ _ _
   | exact ih2 _ _ _ _ _ _ _ _ _
   | exact ih3 _ _ _ _ _ _ _ _ _ _ _
   | exact ih4 _ _ _ _ _ _ _ _ _ _ _
   | exact ih5 _ _ _ _
   | exact ih6 _ _ _ _ _ _
   | exact ih7 _ _ _ _ _ _ _
   | exact hopmeshref14_Check.mono _ _ _ _ _ _ _ _
   | exact LeO.none _
   | refine LeO.ite ?_ ?_
   | refine LeO.bind ?_ (fun _ => ?_)
  ·
   intro y0 y1 y2 y3 y4 y5
   unfold hopmeshref14_Best.l0
   repeat' first
   | (with_reducible exact ih0 _ _ _ _)
   | (with_reducible exact ih1 _ _ _ _ _ _)
   | (with_reducible exact ih2 _ _ _ _ _ _ _ _ _)
   | (with_reducible exact ih3 _ _ _ _ _ _ _ _ _ _ _)
   | (with_reducible exact ih4 _ _ _ _ _ _ _ _ _ _ _)
   | (with_reducible exact ih5 _ _ _ _)
   | (with_reducible exact ih6 _ _ _ _ _ _)
   | (with_reducible exact ih7 _ _ _ _ _ _ _)
   | (with_reducible exact hopmeshref14_Check.mono _ _ _ _ _ _ _ _)
   | (with_reducible exact LeO.refl _)
   | (with_reducible exact LeO.none _)
   | (with_reducible refine LeO.ite ?_ ?_)
   | (with_reducible refine LeO.bind ?_ (fun _ => ?_))
   | exact ih0 _ _ _ _
   | exact ih1 _ _ _ _ _ _
   | exact ih2 _ _ _ _ _ _ _ _ _
   | exact ih3 _ _ _ _ _ _ _ _ _ _ _
   | exact ih4 _ _ _ _ _ _ _ _ _ _ _
   | exact ih5 _ _ _ _
   | exact ih6 _ _ _ _ _ _
   | exact ih7 _ _ _ _ _ _ _
   | exact hopmeshref14_Check.mono _ _ _ _ _ _ _ _
   | exact LeO.none _
   | refine LeO.ite ?_ ?_
   | refine LeO.bind ?_ (fun _ => ?_)
  ·
   intro y0 y1 y2 y3 y4 y5 y6 y7 y8
   unfold hopmeshref14_Best.l1
   repeat' first
   | (with_reducible exact ih0 _ _ _ _)
   | (with_reducible exact ih1 _ _ _ _ _ _)
   | (with_reducible exact ih2 _ _ _ _ _ _ _ _ _)
   | (with_reducible exact ih3 _ _ _ _ _ _ _ _ _ _ _)
   | (with_reducible exact ih4 _ _ _ _ _ _ _ _ _ _ _)
   | (with_reducible exact ih5 _ _ _ _)
   | (with_reducible exact ih6 _ _ _ _ _ _)
   | (with_reducible exact ih7 _ _ _ _ _ _ _)
   | (with_reducible exact hopmeshref14_Check.mono _ _ _ _ _ _ _ _)
   | (with_reducible exact LeO.refl _)
   | (with_reducible exact LeO.none _)
   | (with_reducible refine LeO.ite ?_ ?_)
   | (with_reducible refine LeO.bind ?_ (fun _ => ?_))
   | exact ih0 _ _ _ _
   | exact ih1 _ _ _ _ _ _
   | exact ih2 _ _ _ _ _ _ _ _ _
   | exact ih3 _ _ _ _ _ _ _ _ _ _ _
   | exact ih4 _ _ _ _ _ _ _ _ _ _ _
   | exact ih5 _ _ _ _
   | exact ih6 _ _ _ _ _ _
   | exact ih7 _ _ _ _ _ _ _
   | exact hopmeshref14_Check.mono _ _ _ _ _ _ _ _
   | exact LeO.none _
   | refine LeO.ite ?_ ?_
   | refine LeO.bind ?_ (fun _ => ?_)
  ·
   intro y0 y1 y2 y3 y4 y5 y6 y7 y8 y9 y10
   unfold hopmeshref14_Best.j4
   repeat' first
   | (with_reducible exact ih0 _ _ _ _)
   | (with_reducible exact ih1 _ _ _ _ _ _)
   | (with_reducible exact ih2 _ _ _ _ _ _ _ _ _)
   | (with_reducible exact ih3 _ _ _ _ _ _ _ _ _ _ _)
   | (with_reducible exact ih4 _ _ _ _ _ _ _ _ _ _ _)
   | (with_reducible exact ih5 _ _ _ _)
   | (with_reducible exact ih6 _ _ _ _ _ _)
   | (with_reducible exact ih7 _ _ _ _ _ _ _)
   | (with_reducible exact hopmeshref14_Check.mono _ _ _ _ _ _ _ _)
   | (with_reducible exact LeO.refl _)
   | (with_reducible exact LeO.none _)
   | (with_reducible refine LeO.ite ?_ ?_)
   | (with_reducible refine LeO.bind ?_ (fun _ => ?_))
   | exact ih0 _ _ _ _
   | exact ih1 _ _ _ _ _ _
   | exact ih2 _ _ _ _ _ _ _ _ _
   | exact ih3 _ _ _ _ _ _ _ _ _ _ _
   | exact ih4 _ _ _ _ _ _ _ _ _ _ _
   | exact ih5 _ _ _ _
   | exact ih6 _ _ _ _ _ _
   | exact ih7 _ _ _ _ _ _ _
   | exact hopmeshref14_Check.mono _ _ _ _ _ _ _ _
   | exact LeO.none _
   | refine LeO.ite ?_ ?_
   | refine LeO.bind ?_ (fun _ => ?_)
  ·
   intro y0 y1 y2 y3 y4 y5 y6 y7 y8 y9 y10
   unfold hopmeshref14_Best.l2
   repeat' first
   | (with_reducible exact ih0 _ _ _ _)
   | (with_reducible exact ih1 _ _ _ _ _ _)
   | (with_reducible exact ih2 _ _ _ _ _ _ _ _ _)
   | (with_reducible exact ih3 _ _ _ _ _ _ _ _ _ _ _)
   | (with_reducible exact ih4 _ _ _ _ _ _ _ _ _ _ _)
   | (with_reducible exact ih5 _ _ _ _)
   | (with_reducible exact ih6 _ _ _ _ _ _)
   | (with_reducible exact ih7 _ _ _ _ _ _ _)
   | (with_reducible exact hopmeshref14_Check.mono _ _ _ _ _ _ _ _)
   | (with_reducible exact LeO.refl _)
   | (with_reducible exact LeO.none _)
   | (with_reducible refine LeO.ite ?_ ?_)
   | (with_reducible refine LeO.bind ?_ (fun _ => ?_))
   | exact ih0 _ _ _ _
   | exact ih1 _ _ _ _ _ _
   | exact ih2 _ _ _ _ _ _ _ _ _
   | exact ih3 _ _ _ _ _ _ _ _ _ _ _
   | exact ih4 _ _ _ _ _ _ _ _ _ _ _
   | exact ih5 _ _ _ _
   | exact ih6 _ _ _ _ _ _
   | exact ih7 _ _ _ _ _ _ _
   | exact hopmeshref14_Check.mono _ _ _ _ _ _ _ _
   | exact LeO.none _
   | refine LeO.ite ?_ ?_
   | refine LeO.bind ?_ (fun _ => ?_)
  ·
   intro y0 y1 y2 y3
   unfold hopmeshref14_Best.l3
   repeat' first
   | (with_reducible exact ih0 _ _ _ _)
   | (with_reducible exact ih1 _ _ _ _ _ _)
   | (with_reducible exact ih2 _ _ _ _ _ _ _ _ _)
   | (with_reducible exact ih3 _ _ _ _ _ _ _ _ _ _ _)
   | (with_reducible exact ih4 _ _ _ _ _ _ _ _ _ _ _)
   | (with_reducible exact ih5 _ _ _ _)
   | (with_reducible exact ih6 _ _ _ _ _ _)
   | (with_reducible exact ih7 _ _ _ _ _ _ _)
   | (with_reducible exact hopmeshref14_Check.mono _ _ _ _ _ _ _ _)
   | (with_reducible exact LeO.refl _)
   | (with_reducible exact LeO.none _)
   | (with_reducible refine LeO.ite ?_ ?_)
   | (with_reducible refine LeO.bind ?_ (fun _ => ?_))
   | exact ih0 _ _ _ _
   | exact ih1 _ _ _ _ _ _
   | exact ih2 _ _ _ _ _ _ _ _ _
   | exact ih3 _ _ _ _ _ _ _ _ _ _ _
   | exact ih4 _ _ _ _ _ _ _ _ _ _ _
   | exact ih5 _ _ _ _
   | exact ih6 _ _ _ _ _ _
   | exact ih7 _ _ _ _ _ _ _
   | exact hopmeshref14_Check.mono _ _ _ _ _ _ _ _
   | exact LeO.none _
   | refine LeO.ite ?_ ?_
   | refine LeO.bind ?_ (fun _ => ?_)
  ·
   intro y0 y1 y2 y3 y4 y5
   unfold hopmeshref14_Best.l4
   repeat' first
   | (with_reducible exact ih0 _ _ _ _)
   | (with_reducible exact ih1 _ _ _ _ _ _)
   | (with_reducible exact ih2 _ _ _ _ _ _ _ _ _)
   | (with_reducible exact ih3 _ _ _ _ _ _ _ _ _ _ _)
   | (with_reducible exact ih4 _ _ _ _ _ _ _ _ _ _ _)
   | (with_reducible exact ih5 _ _ _ _)
   | (with_reducible exact ih6 _ _ _ _ _ _)
   | (with_reducible exact ih7 _ _ _ _ _ _ _)
   | (with_reducible exact hopmeshref14_Check.mono _ _ _ _ _ _ _ _)
   | (with_reducible exact LeO.refl _)
   | (with_reducible exact LeO.none _)
   | (with_reducible refine LeO.ite ?_ ?_)
   | (with_reducible refine LeO.bind ?_ (fun _ => ?_))
   | exact ih0 _ _ _ _
   | exact ih1 _ _ _ _ _ _
   | exact ih2 _ _ _ _ _ _ _ _ _
   | exact ih3 _ _ _ _ _ _ _ _ _ _ _
   | exact ih4 _ _ _ _ _ _ _ _ _ _ _
   | exact ih5 _ _ _ _
   | exact ih6 _ _ _ _ _ _
   | exact ih7 _ _ _ _ _ _ _
   | exact hopmeshref14_Check.mono _ _ _ _ _ _ _ _
   | exact LeO.none _
   | refine LeO.ite ?_ ?_
   | refine LeO.bind ?_ (fun _ => ?_)
  ·
   intro y0 y1 y2 y3 y4 y5 y6
   unfold hopmeshref14_Best.j7
   repeat' first
   | (with_reducible exact ih0 _ _ _ _)
   | (with_reducible exact ih1 _ _ _ _ _ _)
   | (with_reducible exact ih2 _ _ _ _ _ _ _ _ _)
   | (with_reducible exact ih3 _ _ _ _ _ _ _ _ _ _ _)
   | (with_reducible exact ih4 _ _ _ _ _ _ _ _ _ _ _)
   | (with_reducible exact ih5 _ _ _ _)
   | (with_reducible exact ih6 _ _ _ _ _ _)
   | (with_reducible exact ih7 _ _ _ _ _ _ _)
   | (with_reducible exact hopmeshref14_Check.mono _ _ _ _ _ _ _ _)
   | (with_reducible exact LeO.refl _)
   | (with_reducible exact LeO.none _)
   | (with_reducible refine LeO.ite ?_ ?_)
   | (with_reducible refine LeO.bind ?_ (fun _ => ?_))
   | exact ih0 _ _ _ _
   | exact ih1 _ _ _ _ _ _
   | exact ih2 _ _ _ _ _ _ _ _ _
   | exact ih3 _ _ _ _ _ _ _ _ _ _ _
   | exact ih4 _ _ _ _ _ _ _ _ _ _ _
   | exact ih5 _ _ _ _
   | exact ih6 _ _ _ _ _ _
   | exact ih7 _ _ _ _ _ _ _
   | exact hopmeshref14_Check.mono _ _ _ _ _ _ _ _
   | exact LeO.none _
   | refine LeO.ite ?_ ?_
   | refine LeO.bind ?_ (fun _ => ?_)
theorem hopmeshref14_Best.mono : ∀ a0 a1 k, LeO (hopmeshref14_Best.f k a0 a1) (hopmeshref14_Best.f (k + 1) a0 a1) := by
 intro a0 a1 k
 obtain ⟨ih0, ih1, ih2, ih3, ih4, ih5, ih6, ih7⟩ := hopmeshref14_Best.mono_l k
 unfold hopmeshref14_Best.f
 repeat' first
   | (with_reducible exact ih0 _ _ _ _)
   | (with_reducible exact ih1 _ _ _ _ _ _)
   | (with_reducible exact ih2 _ _ _ _ _ _ _ _ _)
   | (with_reducible exact ih3 _ _ _ _ _ _ _ _ _ _ _)
   | (with_reducible exact ih4 _ _ _ _ _ _ _ _ _ _ _)
   | (with_reducible exact ih5 _ _ _ _)
   | (with_reducible exact ih6 _ _ _ _ _ _)
   | (with_reducible exact ih7 _ _ _ _ _ _ _)
   | (with_reducible exact hopmeshref14_Check.mono _ _ _ _ _ _ _ _)
   | (with_reducible exact LeO.refl _)
   | (with_reducible exact LeO.none _)
   | (with_reducible refine LeO.ite ?_ ?_)
   | (with_reducible refine LeO.bind ?_ (fun _ => ?_))
   | exact ih0 _ _ _ _
   | exact ih1 _ _ _ _ _ _
   | exact ih2 _ _ _ _ _ _ _ _ _
   | exact ih3 _ _ _ _ _ _ _ _ _ _ _
   | exact ih4 _ _ _ _ _ _ _ _ _ _ _
   | exact ih5 _ _ _ _
   | exact ih6 _ _ _ _ _ _
   | exact ih7 _ _ _ _ _ _ _
   | exact hopmeshref14_Check.mono _ _ _ _ _ _ _ _
   | exact LeO.none _
   | refine LeO.ite ?_ ?_
   | refine LeO.bind ?_ (fun _ => ?_)
def hopmeshref14_Best.T10 : Bool × List (List Nat × List Nat) := (true, [([], []), ([], []), ([0, 1], [0, 1]), ([2], [2]), ([3], [3]), ([4], [4]), ([], []), ([], []), ([6, 7], [6, 7]), ([8], [8]), ([9], [9]), ([10], [10]), ([5, 11], [5, 11]), ([12], [12]), ([], [])])
def hopmeshref14_Best.B10 : List Nat := [0, 0, 3, 7, 15, 31, 0, 0, 192, 448, 960, 1984, 4095, 8191, 0]
theorem hopmeshref14_Best.tab10 : rtab .any (opsOf Try.f31 10) = hopmeshref14_Best.T10 := by kernel_rfl
theorem hopmeshref14_Best.bits10 : waitsOk hopmeshref14_Best.T10.2 hopmeshref14_Best.B10 = true := by kernel_rfl
def hopmeshref14_Best.T26 : Bool × List (List Nat × List Nat) := (true, [([], []), ([], []), ([0, 1], [0, 1]), ([2], [2]), ([3], [3]), ([4], [4]), ([5], [5]), ([6, 5], [5, 6]), ([7, 5, 5], [5, 7]), ([8], [8]), ([8], [8]), ([9, 10, 8], [8, 9, 10]), ([11, 8], [8, 11]), ([8], [8]), ([8], [8]), ([13, 14, 8], [8, 13, 14]), ([15, 8], [8, 15]), ([12, 16, 8], [8, 12, 16]), ([8, 17, 5], [5, 8, 17]), ([18, 8, 5], [5, 18]), ([19], [19]), ([19], [19]), ([20, 21, 19], [19, 20, 21]), ([22, 19], [19, 22]), ([19], [19]), ([19], [19]), ([24, 25, 19], [19, 24, 25]), ([26, 19], [19, 26]), ([23, 27, 19], [19, 23, 27]), ([28, 19, 19], [19, 28]), ([29], [29]), ([29], [29]), ([30, 31, 29], [29, 30, 31]), ([32, 29], [29, 32]), ([29], [29]), ([29], [29]), ([34, 35, 29], [29, 34, 35]), ([36, 29], [29, 36]), ([33, 37, 29], [29, 33, 37]), ([29, 38, 19], [19, 29, 38]), ([19, 39, 5], [5, 19, 39]), ([5, 40], [5, 40])])
def hopmeshref14_Best.B26 : List Nat := [0, 0, 3, 7, 15, 31, 63, 127, 255, 511, 511, 2047, 4095, 511, 511, 25087, 57855, 131071, 262143, 524287, 1048575, 1048575, 4194303, 8388607, 1048575, 1048575, 51380223, 118489087, 268435455, 536870911, 1073741823, 1073741823, 4294967295, 8589934591, 1073741823, 1073741823, 52613349375, 121332826111, 274877906943, 549755813887, 1099511627775, 2199023255551]
theorem hopmeshref14_Best.tab26 : rtab .any (opsOf Try.f31 26) = hopmeshref14_Best.T26 := by kernel_rfl
theorem hopmeshref14_Best.bits26 : waitsOk hopmeshref14_Best.T26.2 hopmeshref14_Best.B26 = true := by kernel_rfl
set_option maxHeartbeats 8000000 in
set_option maxRecDepth 100000 in
theorem hopmeshref14_Best.calls (k : Nat) (A0 : Option Addr) (c0 : Nat) (l0 : List (S24)) (a1 : Int) (r : List (S26)) (w : World) (hr0 : Kd.C k24 w A0 l0.length l0) (hc0 : l0.length ≤ c0) (h : hopmeshref14_Best.f k l0 a1 = some r) :
  Calls Try.prog 31 #[.slice A0 l0.length c0, .int .i64 a1] w fun e w' => ∃ v0_ : Value, e = .returned (v0_) ∧ Kd.R k26 26 w' w.heap.size (fun _ => True) v0_ r ∧ Below w.heap.size w w' := by
 have hu24 := Try.underlying24
 have hu26 := Try.underlying26
 have HR0 := Aside0.mk hr0
 have HC0 := Aside0.mk hc0
 clear hr0 hc0
 have HB := Aside0.mk (Below.refl w.heap.size w)
 have H : ((some (([] : List (S26)) : List (S26))).bind fun y562 => (if a1 < 1 then (hopmeshref14_Best.j0 k l0 a1 y562 true) else (hopmeshref14_Best.j0 k l0 a1 y562 (decide (a1 > 8))))) = some r := h
 clear h
 obtain ⟨y562, hy562⟩ : ∃ y_ : List (S26), y_ = (([] : List (S26))) := ⟨_, rfl⟩
 replace H : (if a1 < 1 then (hopmeshref14_Best.j0 k l0 a1 y562 true) else (hopmeshref14_Best.j0 k l0 a1 y562 (decide (a1 > 8)))) = some r := by first | (rw [hy562]; with_reducible exact H) | (have H2_ := (Option.bind_some _ _).symm.trans H; rw [hy562]; with_reducible exact H2_) | (have H2_ := (Option.bind_some _ _).symm.trans H; with_reducible exact H2_) | with_reducible exact H | (rw [hy562]; exact H) | exact H
 have Ny562 := Aside0.mk hy562
 clear hy562
 have HC3 := Aside0.mk H
 clear H
 go_enter Try.func31, Try.ntmps31
 go_upto_region 2 with (first | ((with_reducible refine gate_dst (N := 14) rfl ?_); refine Kd.R_lit k26 _ 26 ?hg (N := 14) ?hd (xs := ([] : List (S26))) (inner := []) (ok := fun _ => True) (okp := fun _ => True) ?hr ?hp (fun _ hk => hk) trivial (Below.refl _ _) (Nat.le_refl _) (by simp) ?_; (case hd => rfl); (case hg => rfl); (case hr => first | (go_simp; done) | (go_simp; rfl)); (case hp => exact (Reps.none _ _)); intro v563 w4 ho5 hb hg_ hnew_; clear hg_ hnew_; (first | rw [← Ny562.out] at ho5 | (simp only [Int.reduceToNat] at ho5; rw [← Ny562.out] at ho5)); have n0_ := Aside0.mk (Kd.R_lower ho5 (below_size hb_)); have n1_ := Aside0.mk (below_step hb_ hb); clear HB; have HO564 := n0_; have HB := n1_; clear n0_ n1_; clear hb ho5))
 (try simp only [Act.put, List.setIfInBounds_toArray, List.set_cons_zero, List.set_cons_succ])
 go_cut [20] (fun v20 wc => ∃ (kq : Nat) (x20_2 : Bool), v20 = .bool x20_2 ∧ Aside0 (hopmeshref14_Best.j0 kq l0 a1 y562 x20_2 = some r) ∧ Aside0 (kq ≤ k) ∧ Aside0 (Kd.R k26 26 wc w.heap.size (fun _ => True) v563 y562) ∧ Aside0 (Below w.heap.size w wc))
 case first =>
  have H := HC3.out
  clear HC3
  by_cases c6 : a1 < 1
  ·
   rw [if_pos c6] at H
   have c6b0 : decide (a1 < 1) = true := decide_eq_true c6
   clear c6
   (first | rw [c6b0] | (simp only [i64_w, i32_w]; rw [c6b0]) | skip)
   have H' := Aside0.mk H
   clear H
   go_wp2
   go_meet
   case rel => exact ⟨_, (true), rl_, H', ⟨by first | omega | exact Nat.le_refl _⟩, ⟨kr_ HO564⟩, ⟨hb_⟩⟩
  ·
   rw [if_neg c6] at H
   have c6b0 : decide (a1 < 1) = false := decide_eq_false c6
   clear c6
   (first | rw [c6b0] | (simp only [i64_w, i32_w]; rw [c6b0]) | skip)
   have H' := Aside0.mk H
   clear H
   go_wp2
   go_meet
   case rel => exact ⟨_, (decide (a1 > 8)), rl_, H', ⟨by first | omega | exact Nat.le_refl _⟩, ⟨kr_ HO564⟩, ⟨hb_⟩⟩
 case rest =>
  clear HC3
  try clear p2; try clear c3; try clear c6; try clear c6b0
  (repeat clear HO_5); (repeat clear HB)
  obtain ⟨kq, x20_2, rfl, HA, HJ2, HO_5, HB⟩ := hcut
  cases kq with
  | zero => exact absurd HA.out (by simp [hopmeshref14_Best.j0])
  | succ kj2 =>
   have H := HA.out
   clear HA
   simp only [hopmeshref14_Best.j0] at H
   by_cases c7 : x20_2 = true
   ·
    subst c7
    have H1 : (some y562) = some r := by rw [if_pos rfl] at H; exact H
    clear H
    have H := H1
    clear H1
    obtain rfl := Option.some.inj H
    go_wp2
    go_ret
    exact ⟨_, by first | rfl | (simp [errW_none, errW_some] <;> rfl) | (simp [*, errW_none, errW_some] <;> rfl), kr_ HO_5, hb_⟩
   ·
    replace c7 := Bool.eq_false_iff.mpr c7
    subst c7
    have H1 : (hopmeshref14_Best.l0 kj2 l0 a1 y562 (([] : List ByteArray)) (([] : List Int)) 0) = some r := by rw [if_neg (show ¬ (false = true) by decide)] at H; exact H
    clear H
    have H := H1
    clear H1
    obtain ⟨y565, hy565⟩ : ∃ y_ : List ByteArray, y_ = (([] : List ByteArray)) := ⟨_, rfl⟩
    replace H : (hopmeshref14_Best.l0 kj2 l0 a1 y562 y565 (([] : List Int)) 0) = some r := by first | (rw [hy565]; with_reducible exact H) | (have H2_ := (Option.bind_some _ _).symm.trans H; rw [hy565]; with_reducible exact H2_) | (have H2_ := (Option.bind_some _ _).symm.trans H; with_reducible exact H2_) | with_reducible exact H | (rw [hy565]; exact H) | exact H
    have Ny565 := Aside0.mk hy565
    clear hy565
    obtain ⟨y568, hy568⟩ : ∃ y_ : List Int, y_ = (([] : List Int)) := ⟨_, rfl⟩
    replace H : (hopmeshref14_Best.l0 kj2 l0 a1 y562 y565 y568 0) = some r := by first | (rw [hy568]; with_reducible exact H) | (have H2_ := (Option.bind_some _ _).symm.trans H; rw [hy568]; with_reducible exact H2_) | (have H2_ := (Option.bind_some _ _).symm.trans H; with_reducible exact H2_) | with_reducible exact H | (rw [hy568]; exact H) | exact H
    have Ny568 := Aside0.mk hy568
    clear hy568
    have H' := Aside0.mk H
    clear H
    go_wp2_with (first | ((with_reducible refine gate_dst (N := 22) rfl ?_); refine Kd.R_lit Kd.string _ 9 ?hg (N := 22) ?hd (xs := ([] : List ByteArray)) (inner := []) (ok := fun _ => True) (okp := fun _ => True) ?hr ?hp (fun _ hk => hk) trivial (Below.refl _ _) (Nat.le_refl _) (by simp) ?_; (case hd => rfl); (case hg => rfl); (case hr => first | (go_simp; done) | (go_simp; rfl)); (case hp => exact (Reps.none _ _)); intro v566 w8 ho9 hb hg_ hnew_; clear hg_ hnew_; (first | rw [← Ny565.out] at ho9 | (simp only [Int.reduceToNat] at ho9; rw [← Ny565.out] at ho9)); have n0_ := Aside0.mk (Kd.R_below (kr_ HO_5) hb); have n1_ := Aside0.mk (Kd.R_lower ho9 (below_size hb_)); have n2_ := Aside0.mk (below_step hb_ hb); clear HO_5; clear HB; have HO_5 := n0_; have HO567 := n1_; have HB := n2_; clear n0_ n1_ n2_; clear hb ho9) | ((with_reducible refine gate_dst (N := 23) rfl ?_); refine Kd.R_lit (Kd.int .i64) _ 3 ?hg (N := 23) ?hd (xs := ([] : List Int)) (inner := []) (ok := fun _ => True) (okp := fun _ => True) ?hr ?hp (fun _ hk => hk) trivial (Below.refl _ _) (Nat.le_refl _) (by simp) ?_; (case hd => rfl); (case hg => rfl); (case hr => first | (go_simp; done) | (go_simp; rfl)); (case hp => exact (Reps.none _ _)); intro v569 w10 ho11 hb hg_ hnew_; clear hg_ hnew_; (first | rw [← Ny568.out] at ho11 | (simp only [Int.reduceToNat] at ho11; rw [← Ny568.out] at ho11)); have n0_ := Aside0.mk (Kd.R_below (kr_ HO_5) hb); have n1_ := Aside0.mk (Kd.R_below (kr_ HO567) hb); have n2_ := Aside0.mk (Kd.R_lower ho11 (below_size hb_)); have n3_ := Aside0.mk (below_step hb_ hb); clear HO_5; clear HO567; clear HB; have HO_5 := n0_; have HO567 := n1_; have HO570 := n2_; have HB := n3_; clear n0_ n1_ n2_ n3_; clear hb ho11))
    go_loopg [6, 7, 8] kj2 (fun kq v6 v7 v8 w' => ∃ (x6_2 : List ByteArray) (x7_2 : List Int) (x8_2 : Int), v8 = .int .i64 x8_2 ∧ Aside0 (hopmeshref14_Best.l0 kq l0 a1 y562 x6_2 x7_2 x8_2 = some r) ∧ Aside0 (kq ≤ kj2) ∧ Aside0 (Kd.R k26 26 w' w.heap.size (fun _ => True) v563 y562) ∧ Aside0 (Kd.R Kd.string 9 w' w.heap.size (fun _ => True) v6 x6_2) ∧ Aside0 (Kd.R (Kd.int .i64) 3 w' w.heap.size (fun _ => True) v7 x7_2) ∧ Aside0 (Below w.heap.size w w'))
    case atStart => exact ⟨(y565), (y568), (0), rl_, H', ⟨Nat.le_refl _⟩, ⟨kr_ HO_5⟩, ⟨kr_ HO567⟩, ⟨kr_ HO570⟩, ⟨hb_⟩⟩
    case round =>
     clear H'
     try clear p2; try clear c3; try clear c6; try clear c6b0; try clear c7; try clear p2
     (repeat clear HO_5); (repeat clear HO_6); (repeat clear HO_7); (repeat clear HB)
     obtain ⟨x6_2, x7_2, x8_2, rfl, HA, HK2, HO_5, HO_6, HO_7, HB⟩ := hrel
     cases gk with
     | zero => exact absurd HA.out (by simp [hopmeshref14_Best.l0])
     | succ k2 =>
      have H := HA.out
      clear HA
      simp only [hopmeshref14_Best.l0] at H
      by_cases c12 : x8_2 < (l0.length : Int)
      ·
       rw [if_pos c12] at H
       have c12b0 : decide (x8_2 < (l0.length : Int)) = true := decide_eq_true c12
       clear c12
       by_cases c13 : 0 ≤ x8_2
       ·
        rw [if_pos c13] at H
        have c13b0 : decide (0 ≤ x8_2) = true := decide_eq_true c13
        clear c13
        replace H := Option.bind_eq_some_iff.mp H
        obtain ⟨t572, A140, H⟩ := H
        replace H : (if t572 = 0 then (if 0 ≤ 3 then (if 3 ≤ (((rd_T24 l0 x8_2).f2).size : Int) then (if 3 ≤ (((rd_T24 l0 x8_2).f3).size : Int) then ((some (([((rd_T24 l0 x8_2).f2).extract 0 3, ((rd_T24 l0 x8_2).f3).extract 0 3] : List ByteArray) : List ByteArray)).bind fun y575 => (hopmeshref14_Best.l1 k2 l0 a1 y562 x6_2 x7_2 x8_2 y575 (y575.length : Int) 0)) else (none)) else (none)) else (none)) else (hopmeshref14_Best.l0 k2 l0 a1 y562 x6_2 x7_2 (wrap64 (x8_2 + 1)))) = some r := H
        have A14 := Aside0.mk A140
        clear A140
        by_cases c15 : t572 = 0
        ·
         rw [if_pos c15] at H
         have c15b0 : (t572 == 0) = true := beq_iff_eq.mpr c15
         have c15b1 : (t572 != 0) = false := bne_eq_false_iff_eq.mpr c15
         clear c15
         by_cases c16 : 0 ≤ 3
         ·
          rw [if_pos c16] at H
          have c16b0 := eq_true c16
          have c16b1 : decide (0 ≤ 3) = true := decide_eq_true c16
          clear c16
          by_cases c17 : 3 ≤ (((rd_T24 l0 x8_2).f2).size : Int)
          ·
           rw [if_pos c17] at H
           have c17b0 := eq_true c17
           have c17b1 : decide (3 ≤ (((rd_T24 l0 x8_2).f2).size : Int)) = true := decide_eq_true c17
           clear c17
           have c18b0 := eq_true (of_decide_eq_true (by assumption) : 0 ≤ 3)
           by_cases c19 : 3 ≤ (((rd_T24 l0 x8_2).f3).size : Int)
           ·
            rw [if_pos c19] at H
            have c19b0 := eq_true c19
            have c19b1 : decide (3 ≤ (((rd_T24 l0 x8_2).f3).size : Int)) = true := decide_eq_true c19
            clear c19
            obtain ⟨y575, hy575⟩ : ∃ y_ : List ByteArray, y_ = (([((rd_T24 l0 x8_2).f2).extract 0 3, ((rd_T24 l0 x8_2).f3).extract 0 3] : List ByteArray)) := ⟨_, rfl⟩
            replace H : (hopmeshref14_Best.l1 k2 l0 a1 y562 x6_2 x7_2 x8_2 y575 (y575.length : Int) 0) = some r := by first | (rw [hy575]; with_reducible exact H) | (have H2_ := (Option.bind_some _ _).symm.trans H; rw [hy575]; with_reducible exact H2_) | (have H2_ := (Option.bind_some _ _).symm.trans H; with_reducible exact H2_) | with_reducible exact H | (rw [hy575]; exact H) | exact H
            have Ny575 := Aside0.mk hy575
            clear hy575
            have H' := Aside0.mk H
            clear H
            have p571 : 0 ≤ (x8_2 : Int) := of_decide_eq_true (by assumption)
            have q571 : x8_2 < (l0.length : Int) := of_decide_eq_true (by assumption)
            obtain ⟨ad571, e571, hx571_0, hx571_1, hx571_2, hx571_3, hx571_4, hx571_5, hx571_6⟩ := at_T24 HR0.out x8_2 p571 q571
            cases e571
            replace hx571_0 := (HB.out.cell (World.block_lt_of_cell? w _ hx571_0)).trans hx571_0
            replace hx571_1 := (HB.out.cell (World.block_lt_of_cell? w _ hx571_1)).trans hx571_1
            replace hx571_2 := (HB.out.cell (World.block_lt_of_cell? w _ hx571_2)).trans hx571_2
            replace hx571_3 := (HB.out.cell (World.block_lt_of_cell? w _ hx571_3)).trans hx571_3
            replace hx571_4 := (HB.out.cell (World.block_lt_of_cell? w _ hx571_4)).trans hx571_4
            replace hx571_5 := (HB.out.cell (World.block_lt_of_cell? w _ hx571_5)).trans hx571_5
            replace hx571_6 := (HB.out.cell (World.block_lt_of_cell? w _ hx571_6)).trans hx571_6
            replace p571 := eq_true p571
            replace q571 := eq_true q571
            try go_wp2_with (first | ((with_reducible refine gate_callee (f := 21) rfl ?_); refine goesL_ (some 34) rfl rfl Try.func21 (by kernel_rfl) rfl #[.agg #[.int .i64 ((rd_T24 l0 x8_2).f0), .int .i64 ((rd_T24 l0 x8_2).f1), .string ((rd_T24 l0 x8_2).f2), .string ((rd_T24 l0 x8_2).f3), .int .i64 ((rd_T24 l0 x8_2).f4), .int .i64 ((rd_T24 l0 x8_2).f5), .int .i64 ((rd_T24 l0 x8_2).f6)]] rfl am_ ?_; (with_reducible refine (hopmeshref14_Check.calls k2 ((rd_T24 l0 x8_2).f0) ((rd_T24 l0 x8_2).f1) ((rd_T24 l0 x8_2).f2) ((rd_T24 l0 x8_2).f3) ((rd_T24 l0 x8_2).f4) ((rd_T24 l0 x8_2).f5) ((rd_T24 l0 x8_2).f6) t572 _ A14.out).mono ?_); rintro e w20 ⟨rfl, hb⟩; refine ⟨_, rfl, ?_⟩; have n0_ := Aside0.mk (Kd.R_below (kr_ HO_5) hb); have n1_ := Aside0.mk (Kd.R_below (kr_ HO_6) hb); have n2_ := Aside0.mk (Kd.R_below (kr_ HO_7) hb); have n3_ := Aside0.mk (below_step hb_ hb); clear HO_5; clear HO_6; clear HO_7; clear HB; have HO_5 := n0_; have HO_6 := n1_; have HO_7 := n2_; have HB := n3_; clear n0_ n1_ n2_ n3_; (try clear hb); (try clear hb2); (try clear hk); (try clear hi)))
            have n0_ := Aside0.mk (Kd.R_drew HO_5.out)
            have n1_ := Aside0.mk (Kd.R_drew HO_6.out)
            have n2_ := Aside0.mk (Kd.R_drew HO_7.out)
            have n3_ := Aside0.mk (below_drew1 HB.out)
            clear HO_5
            clear HO_6
            clear HO_7
            clear HB
            have HO_5 := n0_
            have HO_6 := n1_
            have HO_7 := n2_
            have HB := n3_
            clear n0_ n1_ n2_ n3_
            have p573 : 0 ≤ (x8_2 : Int) := of_decide_eq_true (by assumption)
            have q573 : x8_2 < (l0.length : Int) := of_decide_eq_true (by assumption)
            obtain ⟨ad573, e573, hx573_0, hx573_1, hx573_2, hx573_3, hx573_4, hx573_5, hx573_6⟩ := at_T24 HR0.out x8_2 p573 q573
            have hw573_6 := hx573_6
            have hw573_5 := hx573_5
            have hw573_4 := hx573_4
            have hw573_3 := hx573_3
            have hw573_2 := hx573_2
            have hw573_1 := hx573_1
            have hw573_0 := hx573_0
            obtain rfl : ad571 = ad573 := (by injection e573)
            replace hx573_0 := (HB.out.cell (World.block_lt_of_cell? w _ hx573_0)).trans hx573_0
            replace hx573_1 := (HB.out.cell (World.block_lt_of_cell? w _ hx573_1)).trans hx573_1
            replace hx573_2 := (HB.out.cell (World.block_lt_of_cell? w _ hx573_2)).trans hx573_2
            replace hx573_3 := (HB.out.cell (World.block_lt_of_cell? w _ hx573_3)).trans hx573_3
            replace hx573_4 := (HB.out.cell (World.block_lt_of_cell? w _ hx573_4)).trans hx573_4
            replace hx573_5 := (HB.out.cell (World.block_lt_of_cell? w _ hx573_5)).trans hx573_5
            replace hx573_6 := (HB.out.cell (World.block_lt_of_cell? w _ hx573_6)).trans hx573_6
            replace p573 := eq_true p573
            replace q573 := eq_true q573
            have p574 : 0 ≤ (x8_2 : Int) := of_decide_eq_true (by assumption)
            have q574 : x8_2 < (l0.length : Int) := of_decide_eq_true (by assumption)
            obtain ⟨ad574, e574, hx574_0, hx574_1, hx574_2, hx574_3, hx574_4, hx574_5, hx574_6⟩ := at_T24 HR0.out x8_2 p574 q574
            have hw574_6 := hx574_6
            have hw574_5 := hx574_5
            have hw574_4 := hx574_4
            have hw574_3 := hx574_3
            have hw574_2 := hx574_2
            have hw574_1 := hx574_1
            have hw574_0 := hx574_0
            obtain rfl : ad571 = ad574 := (by injection e574)
            replace hx574_0 := (HB.out.cell (World.block_lt_of_cell? w _ hx574_0)).trans hx574_0
            replace hx574_1 := (HB.out.cell (World.block_lt_of_cell? w _ hx574_1)).trans hx574_1
            replace hx574_2 := (HB.out.cell (World.block_lt_of_cell? w _ hx574_2)).trans hx574_2
            replace hx574_3 := (HB.out.cell (World.block_lt_of_cell? w _ hx574_3)).trans hx574_3
            replace hx574_4 := (HB.out.cell (World.block_lt_of_cell? w _ hx574_4)).trans hx574_4
            replace hx574_5 := (HB.out.cell (World.block_lt_of_cell? w _ hx574_5)).trans hx574_5
            replace hx574_6 := (HB.out.cell (World.block_lt_of_cell? w _ hx574_6)).trans hx574_6
            replace p574 := eq_true p574
            replace q574 := eq_true q574
            refine start_ (n := 15) (S := fun w' => w'.cell? (ad571.add ((x8_2).toNat * 7)) = some (.int .i64 ((rd_T24 l0 x8_2).f0)) ∧ w'.cell? ⟨(ad571.add ((x8_2).toNat * 7)).block, (ad571.add ((x8_2).toNat * 7)).off + 1, none⟩ = some (.int .i64 ((rd_T24 l0 x8_2).f1)) ∧ w'.cell? ⟨(ad571.add ((x8_2).toNat * 7)).block, (ad571.add ((x8_2).toNat * 7)).off + 2, none⟩ = some (.string ((rd_T24 l0 x8_2).f2)) ∧ w'.cell? ⟨(ad571.add ((x8_2).toNat * 7)).block, (ad571.add ((x8_2).toNat * 7)).off + 3, none⟩ = some (.string ((rd_T24 l0 x8_2).f3)) ∧ w'.cell? ⟨(ad571.add ((x8_2).toNat * 7)).block, (ad571.add ((x8_2).toNat * 7)).off + 4, none⟩ = some (.int .i64 ((rd_T24 l0 x8_2).f4)) ∧ w'.cell? ⟨(ad571.add ((x8_2).toNat * 7)).block, (ad571.add ((x8_2).toNat * 7)).off + 5, none⟩ = some (.int .i64 ((rd_T24 l0 x8_2).f5)) ∧ w'.cell? ⟨(ad571.add ((x8_2).toNat * 7)).block, (ad571.add ((x8_2).toNat * 7)).off + 6, none⟩ = some (.int .i64 ((rd_T24 l0 x8_2).f6)) ∧ w'.cell? (ad571.add ((x8_2).toNat * 7)) = some (.int .i64 ((rd_T24 l0 x8_2).f0)) ∧ w'.cell? ⟨(ad571.add ((x8_2).toNat * 7)).block, (ad571.add ((x8_2).toNat * 7)).off + 1, none⟩ = some (.int .i64 ((rd_T24 l0 x8_2).f1)) ∧ w'.cell? ⟨(ad571.add ((x8_2).toNat * 7)).block, (ad571.add ((x8_2).toNat * 7)).off + 2, none⟩ = some (.string ((rd_T24 l0 x8_2).f2)) ∧ w'.cell? ⟨(ad571.add ((x8_2).toNat * 7)).block, (ad571.add ((x8_2).toNat * 7)).off + 3, none⟩ = some (.string ((rd_T24 l0 x8_2).f3)) ∧ w'.cell? ⟨(ad571.add ((x8_2).toNat * 7)).block, (ad571.add ((x8_2).toNat * 7)).off + 4, none⟩ = some (.int .i64 ((rd_T24 l0 x8_2).f4)) ∧ w'.cell? ⟨(ad571.add ((x8_2).toNat * 7)).block, (ad571.add ((x8_2).toNat * 7)).off + 5, none⟩ = some (.int .i64 ((rd_T24 l0 x8_2).f5)) ∧ w'.cell? ⟨(ad571.add ((x8_2).toNat * 7)).block, (ad571.add ((x8_2).toNat * 7)).off + 6, none⟩ = some (.int .i64 ((rd_T24 l0 x8_2).f6))) (ds := []) #[false, false, false, false, false, false, false, false, false, false, false, false, false, false, false] (by kernel_rfl) rfl rfl ⟨((HB.out.cell (World.block_lt_of_cell? w _ hw573_0)).trans hw573_0), ((HB.out.cell (World.block_lt_of_cell? w _ hw573_1)).trans hw573_1), ((HB.out.cell (World.block_lt_of_cell? w _ hw573_2)).trans hw573_2), ((HB.out.cell (World.block_lt_of_cell? w _ hw573_3)).trans hw573_3), ((HB.out.cell (World.block_lt_of_cell? w _ hw573_4)).trans hw573_4), ((HB.out.cell (World.block_lt_of_cell? w _ hw573_5)).trans hw573_5), ((HB.out.cell (World.block_lt_of_cell? w _ hw573_6)).trans hw573_6), ((HB.out.cell (World.block_lt_of_cell? w _ hw574_0)).trans hw574_0), ((HB.out.cell (World.block_lt_of_cell? w _ hw574_1)).trans hw574_1), ((HB.out.cell (World.block_lt_of_cell? w _ hw574_2)).trans hw574_2), ((HB.out.cell (World.block_lt_of_cell? w _ hw574_3)).trans hw574_3), ((HB.out.cell (World.block_lt_of_cell? w _ hw574_4)).trans hw574_4), ((HB.out.cell (World.block_lt_of_cell? w _ hw574_5)).trans hw574_5), ((HB.out.cell (World.block_lt_of_cell? w _ hw574_6)).trans hw574_6)⟩ (fun hHeld => ?_); refine with_tabW hopmeshref14_Best.tab10 hopmeshref14_Best.bits10 (fun HT_ HW_ => ?_)
            generalize w20.drew = w21 at HO_5 HO_6 HO_7 HB hx573_0 hx573_1 hx573_2 hx573_3 hx573_4 hx573_5 hx573_6 hx574_0 hx574_1 hx574_2 hx574_3 hx574_4 hx574_5 hx574_6 hHeld ⊢
            refine pu_ HT_ 0 36 (bl 15 1) ?_
            refine pu_ HT_ 1 37 (bl 15 3) ?_
            refine pu_ HT_ 2 38 (bl 15 7) ?_
            refine pu_ HT_ 3 39 (bl 15 15) ?_
            refine pu_ HT_ 6 42 (bl 15 79) ?_
            refine pu_ HT_ 7 43 (bl 15 207) ?_
            refine pu_ HT_ 8 44 (bl 15 463) ?_
            refine pu_ HT_ 9 45 (bl 15 975) ?_
            refine pu_ HT_ 14 50 (bl 15 17359) ?_
            refine tk_ HT_ HW_ hHeld 4 40 (bl 15 17375) ?_
            refine pu_ HT_ 5 41 (bl 15 17407) ?_
            refine tk_ HT_ HW_ hHeld 10 46 (bl 15 18431) ?_
            refine pu_ HT_ 11 47 (bl 15 20479) ?_
            refine one_ (i := 12) (N := some 48) (bl 15 24575) rfl rfl (one_of HT_.out (by kernel_rfl)) (by decide) (fun K hK => ?_)
            refine Kd.R_lit_step Kd.string _ 9 ?hg (N := 48) ?hd (xs := ([((rd_T24 l0 x8_2).f2).extract 0 3, ((rd_T24 l0 x8_2).f3).extract 0 3] : List ByteArray)) (inner := [.string (((rd_T24 l0 x8_2).f2).extract 0 3), .string (((rd_T24 l0 x8_2).f3).extract 0 3)]) (ok := fun _ => True) (okp := fun _ => True) ?hr ?hp (fun _ hk => hk) trivial (Below.refl _ _) (Nat.le_refl _) (by simp) ?_; (case hd => rfl); (case hg => rfl); (case hr => first | (go_simp; done) | (go_simp; rfl)); (case hp => exact (Reps.one (show Kd.M Kd.string _ _ _ (((rd_T24 l0 x8_2).f2).extract 0 3) [.string (((rd_T24 l0 x8_2).f2).extract 0 3)] from rfl) (Reps.one (show Kd.M Kd.string _ _ _ (((rd_T24 l0 x8_2).f3).extract 0 3) [.string (((rd_T24 l0 x8_2).f3).extract 0 3)] from rfl) (Reps.none _ _))))
            intro v576 w22 ho23 hb hg_ hnew_
            clear hg_ hnew_
            (first | rw [← Ny575.out] at ho23 | (simp only [Int.reduceToNat] at ho23; rw [← Ny575.out] at ho23))
            have n0_ := Aside0.mk (Kd.R_below (kr_ HO_5) hb)
            have n1_ := Aside0.mk (Kd.R_elder' (kr_ HO_6) (Kd.R_base ho23) hb)
            have n2_ := Aside0.mk (Kd.R_below (kr_ HO_7) hb)
            have n3_ := Aside0.mk (Kd.R_lower (Kd.R_new' ho23 (Kd.R_lt (kr_ HO_6))) (below_size hb_))
            have n4_ := Aside0.mk (below_step hb_ hb)
            clear HO_5
            clear HO_6
            clear HO_7
            clear HB
            have HO_5 := n0_
            have HO_6 := n1_
            have HO_7 := n2_
            have HO577 := n3_
            have HB := n4_
            clear n0_ n1_ n2_ n3_ n4_
            clear hb ho23
            obtain ⟨Ao24, co24, eo24⟩ := Kd.R_slice HO577.out
            (first | subst eo24 | (injection eo24 with f1_ f2_ f3_; have f4_ := f1_.symm; have f5_ := f3_.symm; clear f1_ f2_ f3_; subst f4_; subst f5_))
            refine hK.out _ _ ⟨((HB.out.cell (World.block_lt_of_cell? w _ hw573_0)).trans hw573_0), ((HB.out.cell (World.block_lt_of_cell? w _ hw573_1)).trans hw573_1), ((HB.out.cell (World.block_lt_of_cell? w _ hw573_2)).trans hw573_2), ((HB.out.cell (World.block_lt_of_cell? w _ hw573_3)).trans hw573_3), ((HB.out.cell (World.block_lt_of_cell? w _ hw573_4)).trans hw573_4), ((HB.out.cell (World.block_lt_of_cell? w _ hw573_5)).trans hw573_5), ((HB.out.cell (World.block_lt_of_cell? w _ hw573_6)).trans hw573_6), ((HB.out.cell (World.block_lt_of_cell? w _ hw574_0)).trans hw574_0), ((HB.out.cell (World.block_lt_of_cell? w _ hw574_1)).trans hw574_1), ((HB.out.cell (World.block_lt_of_cell? w _ hw574_2)).trans hw574_2), ((HB.out.cell (World.block_lt_of_cell? w _ hw574_3)).trans hw574_3), ((HB.out.cell (World.block_lt_of_cell? w _ hw574_4)).trans hw574_4), ((HB.out.cell (World.block_lt_of_cell? w _ hw574_5)).trans hw574_5), ((HB.out.cell (World.block_lt_of_cell? w _ hw574_6)).trans hw574_6)⟩ (fun hHeld => ?_)
            clear hK K
            refine norm_ (a' := ?_) ?_ ?_
            rotate_left
            ·
             show Act.put _ (some 48) _ = _
             simp only [ap_, s0_, s1_, i64_w]
             rfl
            refine pu_ HT_ 13 49 (bl 15 32767) ?_
            refine done_ (done_of HT_.out (by kernel_rfl)) ?_
            try go_wp2
            go_loopg [6, 7, 50] k2 (fun kq v6 v7 v50 w' => ∃ (x6_3 : List ByteArray) (x7_3 : List Int) (x50_3 : Int), v50 = .int .i64 x50_3 ∧ Aside0 (hopmeshref14_Best.l1 kq l0 a1 y562 x6_3 x7_3 x8_2 y575 (y575.length : Int) x50_3 = some r) ∧ Aside0 (kq ≤ k2) ∧ Aside0 (Kd.R k26 26 w' w.heap.size (fun _ => True) v563 y562) ∧ Aside0 (Kd.R Kd.string 9 w' w.heap.size (fun k_ => some k_ ≠ ((.slice Ao24 y575.length co24) : Value).ownBlock) v6 x6_3) ∧ Aside0 (Kd.R (Kd.int .i64) 3 w' w.heap.size (fun _ => True) v7 x7_3) ∧ Aside0 (Kd.R Kd.string 9 w' w.heap.size (fun k_ => some k_ ≠ (v6 : Value).ownBlock) (.slice Ao24 y575.length co24) y575) ∧ Aside0 (Below w.heap.size w w'))
            case atStart => exact ⟨(x6_2), (x7_2), (0), rl_, H', ⟨Nat.le_refl _⟩, ⟨kr_ HO_5⟩, ⟨by (with_reducible repeat (first | apply Kd.R_alloc | apply Kd.R_drewN | apply Kd.R_drew)); exact Kd.R_mono HO_6.out (fun _ hk => hk.2)⟩, ⟨kr_ HO_7⟩, ⟨by (with_reducible repeat (first | apply Kd.R_alloc | apply Kd.R_drewN | apply Kd.R_drew)); exact Kd.R_mono HO577.out (fun _ hk => hk.2)⟩, ⟨hb_⟩⟩
            case round =>
             clear H'
             try clear c1; try clear c2; try clear p2; try clear c3; try clear p5; try clear q5; try clear hx5; try clear c6; try clear c6b0; try clear p6; try clear c7; try clear c12; try clear c12b0; try clear c13; try clear c13b0; try clear c15; try clear c15b0; try clear c15b1; try clear c16; try clear c16b0; try clear c16b1; try clear c17; try clear c17b0; try clear c17b1; try clear c18; try clear c18b0; try clear c19; try clear c19b0; try clear c19b1; try clear c21; try clear hx571_0; try clear hx571_1; try clear hx571_2; try clear hx571_3; try clear hx571_4; try clear hx571_5; try clear hx571_6; try clear hx573_0; try clear hx573_1; try clear hx573_2; try clear hx573_3; try clear hx573_4; try clear hx573_5; try clear hx573_6; try clear hx574_0; try clear hx574_1; try clear hx574_2; try clear hx574_3; try clear hx574_4; try clear hx574_5; try clear hx574_6; try clear p2; try clear p571; try clear p573; try clear p574; try clear q571; try clear q573; try clear q574
             (repeat clear HO_5); (repeat clear HO_6); (repeat clear HO_7); (repeat clear HO_48); (repeat clear HB)
             obtain ⟨x6_3, x7_3, x50_3, rfl, HA, HK3, HO_5, HO_6, HO_7, HO_48, HB⟩ := hrel
             cases gk with
             | zero => exact absurd HA.out (by simp [hopmeshref14_Best.l1])
             | succ k3 =>
              have H := HA.out
              clear HA
              simp only [hopmeshref14_Best.l1] at H
              by_cases c25 : x50_3 < (y575.length : Int)
              ·
               rw [if_pos c25] at H
               have c25b0 : decide (x50_3 < (y575.length : Int)) = true := decide_eq_true c25
               clear c25
               by_cases c26 : 0 ≤ x50_3
               ·
                rw [if_pos c26] at H
                have c26b0 : decide (0 ≤ x50_3) = true := decide_eq_true c26
                clear c26
                by_cases c27 : x50_3 < (y575.length : Int)
                ·
                 rw [if_pos c27] at H
                 have c27b0 : decide (x50_3 < (y575.length : Int)) = true := decide_eq_true c27
                 clear c27
                 have HC28 := Aside0.mk H
                 clear H
                 have p578 : 0 ≤ (x50_3 : Int) := of_decide_eq_true (by assumption)
                 have q578 : x50_3 < (y575.length : Int) := of_decide_eq_true (by assumption)
                 obtain ⟨ad578, e578, hx578_0⟩ := Kd.at_string (Kd.R_reads' HO_48.out).2.2 x50_3 p578 q578
                 cases e578
                 replace p578 := eq_true p578
                 replace q578 := eq_true q578
                 go_upto_block 4 with (fail)
                 go_cut [11] (fun v11 wc => ∃ (kq : Nat) (x11_27 : Int), v11 = .int .i64 x11_27 ∧ Aside0 (hopmeshref14_Best.j4 kq l0 a1 y562 x6_3 x7_3 x8_2 (rdOf ByteArray.empty y575 x50_3) x11_27 y575 (y575.length : Int) x50_3 = some r) ∧ Aside0 (kq ≤ k3) ∧ Aside0 (Kd.R k26 26 wc w.heap.size (fun _ => True) v563 y562) ∧ Aside0 (Kd.R Kd.string 9 wc w.heap.size (fun k_ => some k_ ≠ ((.slice (some ad578) y575.length co24) : Value).ownBlock) u6 x6_3) ∧ Aside0 (Kd.R (Kd.int .i64) 3 wc w.heap.size (fun _ => True) u7 x7_3) ∧ Aside0 (Kd.R Kd.string 9 wc w.heap.size (fun k_ => some k_ ≠ (u6 : Value).ownBlock) (.slice (some ad578) y575.length co24) y575) ∧ Aside0 (Below w.heap.size w wc))
                 case first =>
                  have H := HC28.out
                  clear HC28
                  have H' := Aside0.mk H
                  clear H
                  go_wp2
                  go_loopg [11] k3 (fun kq v11 w' => ∃ (x11_4 : Int), v11 = .int .i64 x11_4 ∧ Aside0 (hopmeshref14_Best.l2 kq l0 a1 y562 x6_3 x7_3 x8_2 (rdOf ByteArray.empty y575 x50_3) x11_4 y575 (y575.length : Int) x50_3 = some r) ∧ Aside0 (kq ≤ k3) ∧ Aside0 (Kd.R k26 26 w' w.heap.size (fun _ => True) v563 y562) ∧ Aside0 (Kd.R Kd.string 9 w' w.heap.size (fun k_ => some k_ ≠ ((.slice (some ad578) y575.length co24) : Value).ownBlock) u6 x6_3) ∧ Aside0 (Kd.R (Kd.int .i64) 3 w' w.heap.size (fun _ => True) u7 x7_3) ∧ Aside0 (Kd.R Kd.string 9 w' w.heap.size (fun k_ => some k_ ≠ (u6 : Value).ownBlock) (.slice (some ad578) y575.length co24) y575) ∧ Aside0 (Below w.heap.size w w'))
                  case atStart => exact ⟨(0), rl_, H', ⟨Nat.le_refl _⟩, ⟨kr_ HO_5⟩, ⟨kr_ HO_6⟩, ⟨kr_ HO_7⟩, ⟨kr_ HO_48⟩, ⟨hb_⟩⟩
                  case round =>
                   clear H'
                   try clear c1; try clear c2; try clear p2; try clear c3; try clear p5; try clear q5; try clear hx5; try clear c6; try clear c6b0; try clear p6; try clear c7; try clear c12; try clear c12b0; try clear c13; try clear c13b0; try clear c15; try clear c15b0; try clear c15b1; try clear c16; try clear c16b0; try clear c16b1; try clear c17; try clear c17b0; try clear c17b1; try clear c18; try clear c18b0; try clear c19; try clear c19b0; try clear c19b1; try clear c21; try clear c25; try clear c25b0; try clear c26; try clear c26b0; try clear c27; try clear c27b0; try clear hx571_0; try clear hx571_1; try clear hx571_2; try clear hx571_3; try clear hx571_4; try clear hx571_5; try clear hx571_6; try clear hx573_0; try clear hx573_1; try clear hx573_2; try clear hx573_3; try clear hx573_4; try clear hx573_5; try clear hx573_6; try clear hx574_0; try clear hx574_1; try clear hx574_2; try clear hx574_3; try clear hx574_4; try clear hx574_5; try clear hx574_6; try clear hx578_0; try clear p2; try clear p5; try clear p571; try clear p573; try clear p574; try clear p578; try clear p6; try clear q5; try clear q571; try clear q573; try clear q574; try clear q578
                   (repeat clear HO_5); (repeat clear HO_6); (repeat clear HO_7); (repeat clear HO_48); (repeat clear HB)
                   obtain ⟨x11_4, rfl, HA, HK4, HO_5, HO_6, HO_7, HO_48, HB⟩ := hrel
                   cases gk with
                   | zero => exact absurd HA.out (by simp [hopmeshref14_Best.l2])
                   | succ k4 =>
                    have H := HA.out
                    clear HA
                    simp only [hopmeshref14_Best.l2] at H
                    by_cases c29 : x11_4 < (x6_3.length : Int)
                    ·
                     rw [if_pos c29] at H
                     have c29b0 : decide (x11_4 < (x6_3.length : Int)) = true := decide_eq_true c29
                     clear c29
                     (first | rw [c29b0] | (simp only [i64_w, i32_w]; rw [c29b0]) | skip)
                     by_cases c30 : 0 ≤ x11_4
                     ·
                      rw [if_pos c30] at H
                      have c30b0 : decide (0 ≤ x11_4) = true := decide_eq_true c30
                      clear c30
                      by_cases c31 : (rdOf ByteArray.empty x6_3 x11_4).toList = (rdOf ByteArray.empty y575 x50_3).toList
                      ·
                       rw [if_pos c31] at H
                       have c31b0 : ((rdOf ByteArray.empty x6_3 x11_4).toList == (rdOf ByteArray.empty y575 x50_3).toList) = true := beq_iff_eq.mpr c31
                       have c31b1 : ((rdOf ByteArray.empty x6_3 x11_4).toList != (rdOf ByteArray.empty y575 x50_3).toList) = false := bne_eq_false_iff_eq.mpr c31
                       clear c31
                       have H' := Aside0.mk H
                       clear H
                       obtain ⟨Ao32, co32, eo32⟩ := Kd.R_slice HO_6.out
                       subst eo32
                       have p579 : 0 ≤ (x11_4 : Int) := of_decide_eq_true (by assumption)
                       have q579 : x11_4 < (x6_3.length : Int) := of_decide_eq_true (by assumption)
                       obtain ⟨ad579, e579, hx579_0⟩ := Kd.at_string (Kd.R_reads' HO_6.out).2.2 x11_4 p579 q579
                       cases e579
                       replace p579 := eq_true p579
                       replace q579 := eq_true q579
                       go_wp2
                       go_meet
                       case rel => exact ⟨_, (x11_4), rl_, H', ⟨by have := HJ2.out; have := HK2.out; have := HK3.out; have := HK4.out; first | omega | exact Nat.le_refl _⟩, ⟨kr_ HO_5⟩, ⟨kr_ HO_6⟩, ⟨kr_ HO_7⟩, ⟨kr_ HO_48⟩, ⟨hb_⟩⟩
                      ·
                       rw [if_neg c31] at H
                       have c31b0 : ((rdOf ByteArray.empty x6_3 x11_4).toList == (rdOf ByteArray.empty y575 x50_3).toList) = false := beq_eq_false_iff_ne.mpr c31
                       have c31b1 : ((rdOf ByteArray.empty x6_3 x11_4).toList != (rdOf ByteArray.empty y575 x50_3).toList) = true := bne_iff_ne.mpr c31
                       have H' := Aside0.mk H
                       clear H
                       obtain ⟨Ao33, co33, eo33⟩ := Kd.R_slice HO_6.out
                       subst eo33
                       have p579 : 0 ≤ (x11_4 : Int) := of_decide_eq_true (by assumption)
                       have q579 : x11_4 < (x6_3.length : Int) := of_decide_eq_true (by assumption)
                       obtain ⟨ad579, e579, hx579_0⟩ := Kd.at_string (Kd.R_reads' HO_6.out).2.2 x11_4 p579 q579
                       cases e579
                       replace p579 := eq_true p579
                       replace q579 := eq_true q579
                       go_wp2
                       go_roundg k4
                       case measure => have := HJ2.out; have := HK2.out; have := HK3.out; have := HK4.out; omega
                       case rel => exact ⟨(wrap64 (x11_4 + 1)), rl_, H', ⟨by have := HJ2.out; have := HK2.out; have := HK3.out; have := HK4.out; omega⟩, ⟨kr_ HO_5⟩, ⟨kr_ HO_6⟩, ⟨kr_ HO_7⟩, ⟨kr_ HO_48⟩, ⟨hb_⟩⟩
                     ·
                      rw [if_neg c30] at H
                      exact absurd H (by simp)
                    ·
                     rw [if_neg c29] at H
                     have c29b0 : decide (x11_4 < (x6_3.length : Int)) = false := decide_eq_false c29
                     clear c29
                     (first | rw [c29b0] | (simp only [i64_w, i32_w]; rw [c29b0]) | skip)
                     have H' := Aside0.mk H
                     clear H
                     obtain ⟨Ao34, co34, eo34⟩ := Kd.R_slice HO_6.out
                     subst eo34
                     go_wp2
                     go_meet
                     case rel => exact ⟨_, (x11_4), rl_, H', ⟨by have := HJ2.out; have := HK2.out; have := HK3.out; have := HK4.out; first | omega | exact Nat.le_refl _⟩, ⟨kr_ HO_5⟩, ⟨kr_ HO_6⟩, ⟨kr_ HO_7⟩, ⟨kr_ HO_48⟩, ⟨hb_⟩⟩
                 case rest =>
                  clear HC28
                  try clear c1; try clear c2; try clear p2; try clear c3; try clear p5; try clear q5; try clear hx5; try clear c6; try clear c6b0; try clear p6; try clear c7; try clear c12; try clear c12b0; try clear c13; try clear c13b0; try clear c15; try clear c15b0; try clear c15b1; try clear c16; try clear c16b0; try clear c16b1; try clear c17; try clear c17b0; try clear c17b1; try clear c18; try clear c18b0; try clear c19; try clear c19b0; try clear c19b1; try clear c21; try clear c25; try clear c25b0; try clear c26; try clear c26b0; try clear c27; try clear c27b0; try clear c29; try clear c29b0; try clear c30; try clear c30b0; try clear c31; try clear c31b0; try clear c31b1; try clear hx571_0; try clear hx571_1; try clear hx571_2; try clear hx571_3; try clear hx571_4; try clear hx571_5; try clear hx571_6; try clear hx573_0; try clear hx573_1; try clear hx573_2; try clear hx573_3; try clear hx573_4; try clear hx573_5; try clear hx573_6; try clear hx574_0; try clear hx574_1; try clear hx574_2; try clear hx574_3; try clear hx574_4; try clear hx574_5; try clear hx574_6; try clear hx578_0; try clear hx579_0; try clear p2; try clear p5; try clear p571; try clear p573; try clear p574; try clear p578; try clear p579; try clear p6; try clear q5; try clear q571; try clear q573; try clear q574; try clear q578; try clear q579
                  (repeat clear HO_5); (repeat clear HO_6); (repeat clear HO_7); (repeat clear HO_48); (repeat clear HB)
                  obtain ⟨kq, x11_27, rfl, HA, HJ27, HO_5, HO_6, HO_7, HO_48, HB⟩ := hcut
                  cases kq with
                  | zero => exact absurd HA.out (by simp [hopmeshref14_Best.j4])
                  | succ kj27 =>
                   have H := HA.out
                   clear HA
                   simp only [hopmeshref14_Best.j4] at H
                   by_cases c35 : x11_27 = (x6_3.length : Int)
                   ·
                    rw [if_pos c35] at H
                    have c35b0 : (x11_27 == (x6_3.length : Int)) = true := beq_iff_eq.mpr c35
                    have c35b1 : (x11_27 != (x6_3.length : Int)) = false := bne_eq_false_iff_eq.mpr c35
                    clear c35
                    by_cases c36 : x6_3.length < 8796093022208
                    ·
                     rw [if_pos c36] at H
                     have LMc36 := Aside0.mk c36
                     clear c36
                     obtain ⟨y580, hy580⟩ : ∃ y_ : List ByteArray, y_ = (x6_3 ++ [(rdOf ByteArray.empty y575 x50_3)]) := ⟨_, rfl⟩
                     replace H : (if x7_3.length < 17592186044416 then ((some (x7_3 ++ [0] : List Int)).bind fun y583 => (if 0 ≤ x11_27 then (if x11_27 < (y583.length : Int) then (hopmeshref14_Best.l1 kj27 l0 a1 y562 y580 (y583.set (x11_27 : Int).toNat (wrap64 ((rd y583 x11_27) + 1))) x8_2 y575 (y575.length : Int) (wrap64 (x50_3 + 1))) else (none)) else (none))) else (none)) = some r := by first | (rw [hy580]; with_reducible exact H) | (have H2_ := (Option.bind_some _ _).symm.trans H; rw [hy580]; with_reducible exact H2_) | (have H2_ := (Option.bind_some _ _).symm.trans H; with_reducible exact H2_) | with_reducible exact H | (rw [hy580]; exact H) | exact H
                     have Ny580 := Aside0.mk hy580
                     clear hy580
                     by_cases c37 : x7_3.length < 17592186044416
                     ·
                      rw [if_pos c37] at H
                      have LMc37 := Aside0.mk c37
                      clear c37
                      obtain ⟨y583, hy583⟩ : ∃ y_ : List Int, y_ = (x7_3 ++ [0]) := ⟨_, rfl⟩
                      replace H : (if 0 ≤ x11_27 then (if x11_27 < (y583.length : Int) then (hopmeshref14_Best.l1 kj27 l0 a1 y562 y580 (y583.set (x11_27 : Int).toNat (wrap64 ((rd y583 x11_27) + 1))) x8_2 y575 (y575.length : Int) (wrap64 (x50_3 + 1))) else (none)) else (none)) = some r := by first | (rw [hy583]; with_reducible exact H) | (have H2_ := (Option.bind_some _ _).symm.trans H; rw [hy583]; with_reducible exact H2_) | (have H2_ := (Option.bind_some _ _).symm.trans H; with_reducible exact H2_) | with_reducible exact H | (rw [hy583]; exact H) | exact H
                      have Ny583 := Aside0.mk hy583
                      clear hy583
                      by_cases c38 : 0 ≤ x11_27
                      ·
                       rw [if_pos c38] at H
                       have c38b0 : decide (0 ≤ x11_27) = true := decide_eq_true c38
                       clear c38
                       by_cases c39 : x11_27 < (y583.length : Int)
                       ·
                        rw [if_pos c39] at H
                        have c39b0 : decide (x11_27 < (y583.length : Int)) = true := decide_eq_true c39
                        clear c39
                        obtain ⟨y587, hy587⟩ : ∃ y_ : List Int, y_ = (y583.set (x11_27 : Int).toNat (wrap64 ((rd y583 x11_27) + 1))) := ⟨_, rfl⟩
                        replace H : (hopmeshref14_Best.l1 kj27 l0 a1 y562 y580 y587 x8_2 y575 (y575.length : Int) (wrap64 (x50_3 + 1))) = some r := by first | (rw [hy587]; with_reducible exact H) | (have H2_ := (Option.bind_some _ _).symm.trans H; rw [hy587]; with_reducible exact H2_) | (have H2_ := (Option.bind_some _ _).symm.trans H; with_reducible exact H2_) | with_reducible exact H | (rw [hy587]; exact H) | exact H
                        have Ny587 := Aside0.mk hy587
                        clear hy587
                        have H' := Aside0.mk H
                        clear H
                        obtain ⟨Ao41, co41, eo41⟩ := Kd.R_slice HO_6.out
                        subst eo41
                        go_wp2_with (first | ((with_reducible refine gate_builtin (b := .append) (xs := #[.tmp 72, .tmp 74]) rfl ?_); at_builtin; refine Kd.R_append Kd.string (w0 := w) w.heap.size rfl (.tmp 72) (.tmp 74) 74 9 (.string ⟨#[]⟩) 16 rfl Try.underlying74 info9 rfl (by decide) (by omega) (.slice Ao41 x6_3.length co41) x6_3 (rdOf ByteArray.empty y575 x50_3) [.string (rdOf ByteArray.empty y575 x50_3)] (fun k_ => some k_ ≠ (.slice (some ad578) y575.length co24 : Value).ownBlock) (fun _ => False) rfl rfl ?aP (fun _ hk => hk.elim) ?aF ?aO ?aB ?aS ?aL ?_; (case aP => exact rfl); (case aB => exact hb_); (case aF => exact (fun k_ hk => Kd.fresh' (Kd.R_lt (kr_ HO_48)) k_ hk)); (case aO => exact (kr_ HO_6)); (case aS => exact (below_size hb_)); (case aL => have := LMc36.out; omega); intro v581 w42 ho hb hg hat; rw [← Ny580.out] at ho; have n0_ := Aside0.mk (Kd.R_over' (kr_ HO_5) (Kd.R_typed (kr_ HO_6)) (by decide) hg); have n1_ := Aside0.mk (Kd.R_over' (kr_ HO_7) (Kd.R_typed (kr_ HO_6)) (by decide) hg); have n2_ := Aside0.mk (Kd.R_after (ok := (fun _ => True)) (by (with_reducible repeat (first | apply Kd.R_alloc | apply Kd.R_drewN | apply Kd.R_drew)); exact Kd.R_mono HO_48.out (fun _ hk => ⟨trivial, hk⟩)) hg hat); have n3_ := Aside0.mk (hb); have n4_ := Aside0.mk (ho); clear HO_5; clear HO_7; clear HO_48; clear HB; clear HO_6; have HO_5 := n0_; have HO_7 := n1_; have HO_48 := n2_; have HB := n3_; have HO582 := n4_; clear n0_ n1_ n2_ n3_ n4_; clear ho hb hg hat) | ((with_reducible refine gate_builtin (b := .append) (xs := #[.tmp 76, .tmp 77]) rfl ?_); at_builtin; refine Kd.R_append (Kd.int .i64) (w0 := w) w.heap.size rfl (.tmp 76) (.tmp 77) 82 3 (.int .i64 0) 8 rfl Try.underlying82 info3 rfl (by decide) (by omega) u7 x7_3 0 [.int .i64 0] (fun _ => True) (fun _ => False) rfl rfl ?aP (fun _ hk => hk.elim) ?aF ?aO ?aB ?aS ?aL ?_; (case aP => exact rfl); (case aB => exact hb_); (case aF => exact (fun _ _ => trivial)); (case aO => exact (kr_ HO_7)); (case aS => exact (below_size hb_)); (case aL => have := LMc37.out; omega); intro v584 w43 ho hb hg hat; rw [← Ny583.out] at ho; have n0_ := Aside0.mk (Kd.R_over' (kr_ HO_5) (Kd.R_typed (kr_ HO_7)) (by decide) hg); have n1_ := Aside0.mk (Kd.R_over' (kr_ HO_48) (Kd.R_typed (kr_ HO_7)) (by decide) hg); have n2_ := Aside0.mk (Kd.R_over' (kr_ HO582) (Kd.R_typed (kr_ HO_7)) (by decide) hg); have n3_ := Aside0.mk (hb); have n4_ := Aside0.mk (ho); clear HO_5; clear HO_48; clear HO582; clear HB; clear HO_7; have HO_5 := n0_; have HO_48 := n1_; have HO582 := n2_; have HB := n3_; have HO585 := n4_; clear n0_ n1_ n2_ n3_ n4_; clear ho hb hg hat; obtain ⟨Ao44, co44, eo44⟩ := Kd.R_slice HO585.out; subst eo44; have p586 : 0 ≤ (x11_27 : Int) := of_decide_eq_true (by assumption); have q586 : x11_27 < (y583.length : Int) := of_decide_eq_true (by assumption); obtain ⟨ad586, e586, hx586_0⟩ := Kd.at_int (Kd.R_reads' HO585.out).2.2 x11_27 p586 q586; cases e586; replace p586 := eq_true p586; replace q586 := eq_true q586; have p40 : 0 ≤ (x11_27 : Int) := of_decide_eq_true (by assumption); have q40 : (x11_27 : Int) < ((y583.length : Int) : Int) := of_decide_eq_true (by assumption); obtain ⟨go40, co40, eo40, gb40, gl40, cl40, HG40⟩ := Kd.R_form HO585.out (by omega); (first | cases eo40 | (injection eo40 with ea_ en_ ec_; (first | subst ea_ | (injection ea_ with ea_; subst ea_)); subst ec_; clear en_)); have GB40 := Aside0.mk gb40; have GG40 := Aside0.mk HG40; clear gb40 gl40 HG40; (first | simp only [add_plain] at hx586_0 | skip); obtain ⟨hx40_0, hf40_0⟩ := Kd.R_celln 0 HO585.out (x11_27 : Int) p40 q40; replace p40 := eq_true p40; replace q40 := eq_true q40; obtain ⟨hy45_, hz45_⟩ := Kd.R_celln 0 HO585.out (x11_27 : Int) (of_decide_eq_true (by assumption)) (of_decide_eq_true (by assumption)); have HP45 := Kd.R_putg HO585.out (x11_27 : Int) (wrap64 ((rd y583 x11_27) + 1))) | ((with_reducible refine gate_store (t := 3) (p := 86) rfl ?_); refine store_event (t := 3) (p := 86) (v := ?vo_w46) (w1 := (w43.setCell ⟨go40, (x11_27 : Int).toNat, none⟩ (.int .i64 (wrap64 ((rd y583 x11_27) + 1))))) ?hg ?ho ?hn ?hr ?_; (case ho => rfl); (case hg => rfl); (case hn => rfl); (case hr => first | (go_simp; done) | (go_simp; rfl)); intro w46 hw; have hg : w43.grownBy w46 (some go40) := (by rw [hw]; exact HP45.2); have hp_ : Kd.R (Kd.int .i64) 3 w46 w.heap.size (fun _ => True) (.slice (some ⟨go40, 0, none⟩) y583.length co44) y587 := (by rw [hw, Ny587.out]; exact HP45.1); clear HP45; have n0_ := Aside0.mk (Kd.R_over' (v := (.slice (some ⟨go40, 0, none⟩) y583.length co44)) (kr_ HO_5) (Kd.R_typed HO585.out) (by decide) hg); have n1_ := Aside0.mk (Kd.R_over' (v := (.slice (some ⟨go40, 0, none⟩) y583.length co44)) (kr_ HO_48) (Kd.R_typed HO585.out) (by decide) hg); have n2_ := Aside0.mk (Kd.R_over' (v := (.slice (some ⟨go40, 0, none⟩) y583.length co44)) (kr_ HO582) (Kd.R_typed HO585.out) (by decide) hg); have n3_ := Aside0.mk (hp_); have n4_ := Aside0.mk ((by rw [hw]; exact below_set (HB.out) GB40.out : Below w.heap.size w w46)); clear HO_5; clear HO_48; clear HO582; clear HO585; clear HB; have HO_5 := n0_; have HO_48 := n1_; have HO582 := n2_; have HO585 := n3_; have HB := n4_; clear n0_ n1_ n2_ n3_ n4_; clear hg hw hp_))
                        go_roundg kj27
                        case measure => have := HJ2.out; have := HK2.out; have := HK3.out; have := HJ27.out; omega
                        case rel => exact ⟨(y580), (y587), (wrap64 (x50_3 + 1)), rl_, H', ⟨by have := HJ2.out; have := HK2.out; have := HK3.out; have := HJ27.out; omega⟩, ⟨kr_ HO_5⟩, ⟨kr_ HO582⟩, ⟨kr_ HO585⟩, ⟨by (with_reducible repeat (first | apply Kd.R_alloc | apply Kd.R_drewN | apply Kd.R_drew)); exact Kd.R_mono HO_48.out (fun _ hk => hk.2)⟩, ⟨hb_⟩⟩
                       ·
                        rw [if_neg c39] at H
                        exact absurd H (by simp)
                      ·
                       rw [if_neg c38] at H
                       exact absurd H (by simp)
                     ·
                      rw [if_neg c37] at H
                      exact absurd H (by simp)
                    ·
                     rw [if_neg c36] at H
                     exact absurd H (by simp)
                   ·
                    rw [if_neg c35] at H
                    have c35b0 : (x11_27 == (x6_3.length : Int)) = false := beq_eq_false_iff_ne.mpr c35
                    have c35b1 : (x11_27 != (x6_3.length : Int)) = true := bne_iff_ne.mpr c35
                    by_cases c47 : 0 ≤ x11_27
                    ·
                     rw [if_pos c47] at H
                     have c47b0 : decide (0 ≤ x11_27) = true := decide_eq_true c47
                     clear c47
                     by_cases c48 : x11_27 < (x7_3.length : Int)
                     ·
                      rw [if_pos c48] at H
                      have c48b0 : decide (x11_27 < (x7_3.length : Int)) = true := decide_eq_true c48
                      clear c48
                      obtain ⟨y589, hy589⟩ : ∃ y_ : List Int, y_ = (x7_3.set (x11_27 : Int).toNat (wrap64 ((rd x7_3 x11_27) + 1))) := ⟨_, rfl⟩
                      replace H : (hopmeshref14_Best.l1 kj27 l0 a1 y562 x6_3 y589 x8_2 y575 (y575.length : Int) (wrap64 (x50_3 + 1))) = some r := by first | (rw [hy589]; with_reducible exact H) | (have H2_ := (Option.bind_some _ _).symm.trans H; rw [hy589]; with_reducible exact H2_) | (have H2_ := (Option.bind_some _ _).symm.trans H; with_reducible exact H2_) | with_reducible exact H | (rw [hy589]; exact H) | exact H
                      have Ny589 := Aside0.mk hy589
                      clear hy589
                      have H' := Aside0.mk H
                      clear H
                      obtain ⟨Ao50, co50, eo50⟩ := Kd.R_slice HO_6.out
                      subst eo50
                      obtain ⟨Ao51, co51, eo51⟩ := Kd.R_slice HO_7.out
                      subst eo51
                      have p588 : 0 ≤ (x11_27 : Int) := of_decide_eq_true (by assumption)
                      have q588 : x11_27 < (x7_3.length : Int) := of_decide_eq_true (by assumption)
                      obtain ⟨ad588, e588, hx588_0⟩ := Kd.at_int (Kd.R_reads' HO_7.out).2.2 x11_27 p588 q588
                      cases e588
                      replace p588 := eq_true p588
                      replace q588 := eq_true q588
                      have p49 : 0 ≤ (x11_27 : Int) := of_decide_eq_true (by assumption)
                      have q49 : (x11_27 : Int) < ((x7_3.length : Int) : Int) := of_decide_eq_true (by assumption)
                      obtain ⟨go49, co49, eo49, gb49, gl49, cl49, HG49⟩ := Kd.R_form HO_7.out (by omega)
                      (first | cases eo49 | (injection eo49 with ea_ en_ ec_; (first | subst ea_ | (injection ea_ with ea_; subst ea_)); subst ec_; clear en_))
                      have GB49 := Aside0.mk gb49
                      have GG49 := Aside0.mk HG49
                      clear gb49 gl49 HG49
                      (first | simp only [add_plain] at hx588_0 | skip)
                      obtain ⟨hx49_0, hf49_0⟩ := Kd.R_celln 0 HO_7.out (x11_27 : Int) p49 q49
                      replace p49 := eq_true p49
                      replace q49 := eq_true q49
                      have HP52 := Kd.R_putg HO_7.out (x11_27 : Int) (wrap64 ((rd x7_3 x11_27) + 1))
                      go_wp2_with (first | ((with_reducible refine gate_store (t := 3) (p := 86) rfl ?_); refine store_event (t := 3) (p := 86) (v := ?vo_w53) (w1 := (wc.setCell ⟨go49, (x11_27 : Int).toNat, none⟩ (.int .i64 (wrap64 ((rd x7_3 x11_27) + 1))))) ?hg ?ho ?hn ?hr ?_; (case ho => rfl); (case hg => rfl); (case hn => rfl); (case hr => first | (go_simp; done) | (go_simp; rfl)); intro w53 hw; have hg : wc.grownBy w53 (some go49) := (by rw [hw]; exact HP52.2); have hp_ : Kd.R (Kd.int .i64) 3 w53 w.heap.size (fun _ => True) (.slice (some ⟨go49, 0, none⟩) x7_3.length co51) y589 := (by rw [hw, Ny589.out]; exact HP52.1); clear HP52; have n0_ := Aside0.mk (Kd.R_over' (v := (.slice (some ⟨go49, 0, none⟩) x7_3.length co51)) (kr_ HO_5) (Kd.R_typed HO_7.out) (by decide) hg); have n1_ := Aside0.mk (Kd.R_over' (v := (.slice (some ⟨go49, 0, none⟩) x7_3.length co51)) (kr_ HO_6) (Kd.R_typed HO_7.out) (by decide) hg); have n2_ := Aside0.mk (hp_); have n3_ := Aside0.mk (Kd.R_over' (v := (.slice (some ⟨go49, 0, none⟩) x7_3.length co51)) (kr_ HO_48) (Kd.R_typed HO_7.out) (by decide) hg); have n4_ := Aside0.mk ((by rw [hw]; exact below_set (HB.out) GB49.out : Below w.heap.size w w53)); clear HO_5; clear HO_6; clear HO_7; clear HO_48; clear HB; have HO_5 := n0_; have HO_6 := n1_; have HO_7 := n2_; have HO_48 := n3_; have HB := n4_; clear n0_ n1_ n2_ n3_ n4_; clear hg hw hp_))
                      go_roundg kj27
                      case measure => have := HJ2.out; have := HK2.out; have := HK3.out; have := HJ27.out; omega
                      case rel => exact ⟨(x6_3), (y589), (wrap64 (x50_3 + 1)), rl_, H', ⟨by have := HJ2.out; have := HK2.out; have := HK3.out; have := HJ27.out; omega⟩, ⟨kr_ HO_5⟩, ⟨kr_ HO_6⟩, ⟨kr_ HO_7⟩, ⟨kr_ HO_48⟩, ⟨hb_⟩⟩
                     ·
                      rw [if_neg c48] at H
                      exact absurd H (by simp)
                    ·
                     rw [if_neg c47] at H
                     exact absurd H (by simp)
                ·
                 rw [if_neg c27] at H
                 exact absurd H (by simp)
               ·
                rw [if_neg c26] at H
                exact absurd H (by simp)
              ·
               rw [if_neg c25] at H
               have c25b0 : decide (x50_3 < (y575.length : Int)) = false := decide_eq_false c25
               clear c25
               have H' := Aside0.mk H
               clear H
               go_wp2
               go_roundg k3
               case measure => have := HJ2.out; have := HK2.out; have := HK3.out; omega
               case rel => exact ⟨(x6_3), (x7_3), (wrap64 (x8_2 + 1)), rl_, H', ⟨by have := HJ2.out; have := HK2.out; have := HK3.out; omega⟩, ⟨kr_ HO_5⟩, ⟨by (with_reducible repeat (first | apply Kd.R_alloc | apply Kd.R_drewN | apply Kd.R_drew)); exact Kd.R_mono HO_6.out (fun _ hk => trivial)⟩, ⟨kr_ HO_7⟩, ⟨hb_⟩⟩
           ·
            rw [if_neg c19] at H
            exact absurd H (by simp)
          ·
           rw [if_neg c17] at H
           exact absurd H (by simp)
         ·
          rw [if_neg c16] at H
          exact absurd H (by simp)
        ·
         rw [if_neg c15] at H
         have c15b0 : (t572 == 0) = false := beq_eq_false_iff_ne.mpr c15
         have c15b1 : (t572 != 0) = true := bne_iff_ne.mpr c15
         have H' := Aside0.mk H
         clear H
         have p571 : 0 ≤ (x8_2 : Int) := of_decide_eq_true (by assumption)
         have q571 : x8_2 < (l0.length : Int) := of_decide_eq_true (by assumption)
         obtain ⟨ad571, e571, hx571_0, hx571_1, hx571_2, hx571_3, hx571_4, hx571_5, hx571_6⟩ := at_T24 HR0.out x8_2 p571 q571
         cases e571
         replace hx571_0 := (HB.out.cell (World.block_lt_of_cell? w _ hx571_0)).trans hx571_0
         replace hx571_1 := (HB.out.cell (World.block_lt_of_cell? w _ hx571_1)).trans hx571_1
         replace hx571_2 := (HB.out.cell (World.block_lt_of_cell? w _ hx571_2)).trans hx571_2
         replace hx571_3 := (HB.out.cell (World.block_lt_of_cell? w _ hx571_3)).trans hx571_3
         replace hx571_4 := (HB.out.cell (World.block_lt_of_cell? w _ hx571_4)).trans hx571_4
         replace hx571_5 := (HB.out.cell (World.block_lt_of_cell? w _ hx571_5)).trans hx571_5
         replace hx571_6 := (HB.out.cell (World.block_lt_of_cell? w _ hx571_6)).trans hx571_6
         replace p571 := eq_true p571
         replace q571 := eq_true q571
         go_wp2_with (first | ((with_reducible refine gate_callee (f := 21) rfl ?_); refine goesL_ (some 34) rfl rfl Try.func21 (by kernel_rfl) rfl #[.agg #[.int .i64 ((rd_T24 l0 x8_2).f0), .int .i64 ((rd_T24 l0 x8_2).f1), .string ((rd_T24 l0 x8_2).f2), .string ((rd_T24 l0 x8_2).f3), .int .i64 ((rd_T24 l0 x8_2).f4), .int .i64 ((rd_T24 l0 x8_2).f5), .int .i64 ((rd_T24 l0 x8_2).f6)]] rfl am_ ?_; (with_reducible refine (hopmeshref14_Check.calls k2 ((rd_T24 l0 x8_2).f0) ((rd_T24 l0 x8_2).f1) ((rd_T24 l0 x8_2).f2) ((rd_T24 l0 x8_2).f3) ((rd_T24 l0 x8_2).f4) ((rd_T24 l0 x8_2).f5) ((rd_T24 l0 x8_2).f6) t572 _ A14.out).mono ?_); rintro e w54 ⟨rfl, hb⟩; refine ⟨_, rfl, ?_⟩; have n0_ := Aside0.mk (Kd.R_below (kr_ HO_5) hb); have n1_ := Aside0.mk (Kd.R_below (kr_ HO_6) hb); have n2_ := Aside0.mk (Kd.R_below (kr_ HO_7) hb); have n3_ := Aside0.mk (below_step hb_ hb); clear HO_5; clear HO_6; clear HO_7; clear HB; have HO_5 := n0_; have HO_6 := n1_; have HO_7 := n2_; have HB := n3_; clear n0_ n1_ n2_ n3_; (try clear hb); (try clear hb2); (try clear hk); (try clear hi)))
         go_roundg k2
         case measure => have := HJ2.out; have := HK2.out; omega
         case rel => exact ⟨(x6_2), (x7_2), (wrap64 (x8_2 + 1)), rl_, H', ⟨by have := HJ2.out; have := HK2.out; omega⟩, ⟨kr_ HO_5⟩, ⟨kr_ HO_6⟩, ⟨kr_ HO_7⟩, ⟨hb_⟩⟩
       ·
        rw [if_neg c13] at H
        exact absurd H (by simp)
      ·
       rw [if_neg c12] at H
       have c12b0 : decide (x8_2 < (l0.length : Int)) = false := decide_eq_false c12
       clear c12
       have H' := Aside0.mk H
       clear H
       go_wp2
       go_loopg [5] k2 (fun kq v5 w' => ∃ (x5_3 : List (S26)) (x7_3 : List Int), Aside0 (hopmeshref14_Best.l3 kq a1 x5_3 x6_2 x7_3 = some r) ∧ Aside0 (kq ≤ k2) ∧ Aside0 (Kd.R k26 26 w' w.heap.size (fun _ => True) v5 x5_3) ∧ Aside0 (Kd.R Kd.string 9 w' w.heap.size (fun _ => True) u6 x6_2) ∧ Aside0 (Kd.R (Kd.int .i64) 3 w' w.heap.size (fun _ => True) u7 x7_3) ∧ Aside0 (Below w.heap.size w w'))
       case atStart => exact ⟨(y562), (x7_2), H', ⟨Nat.le_refl _⟩, ⟨kr_ HO_5⟩, ⟨kr_ HO_6⟩, ⟨kr_ HO_7⟩, ⟨hb_⟩⟩
       case round =>
        clear H'
        try clear c1; try clear c2; try clear p2; try clear c3; try clear c4; try clear p4; try clear q4; try clear hx4; try clear hf4; try clear p5; try clear q5; try clear hx5; try clear c6; try clear c6b0; try clear p6; try clear c7; try clear c12; try clear c12b0; try clear c13; try clear c13b0; try clear c15; try clear c15b0; try clear c15b1; try clear c16; try clear c16b0; try clear c16b1; try clear c17; try clear c17b0; try clear c17b1; try clear c18; try clear c18b0; try clear c19; try clear c19b0; try clear c19b1; try clear c21; try clear c25; try clear c25b0; try clear c26; try clear c26b0; try clear c27; try clear c27b0; try clear c29; try clear c29b0; try clear c30; try clear c30b0; try clear c31; try clear c31b0; try clear c31b1; try clear c35; try clear c35b0; try clear c35b1; try clear c36; try clear c37; try clear c38; try clear c38b0; try clear c39; try clear c39b0; try clear p40; try clear q40; try clear hx40; try clear hf40; try clear c47; try clear c47b0; try clear c48; try clear c48b0; try clear p49; try clear q49; try clear hx49; try clear hf49; try clear hx40_0; try clear hx49_0; try clear hx571_0; try clear hx571_1; try clear hx571_2; try clear hx571_3; try clear hx571_4; try clear hx571_5; try clear hx571_6; try clear hx573_0; try clear hx573_1; try clear hx573_2; try clear hx573_3; try clear hx573_4; try clear hx573_5; try clear hx573_6; try clear hx574_0; try clear hx574_1; try clear hx574_2; try clear hx574_3; try clear hx574_4; try clear hx574_5; try clear hx574_6; try clear hx578_0; try clear hx579_0; try clear hx586_0; try clear hx588_0; try clear p2; try clear p40; try clear p49; try clear p5; try clear p571; try clear p573; try clear p574; try clear p578; try clear p579; try clear p586; try clear p588; try clear p6; try clear q40; try clear q49; try clear q5; try clear q571; try clear q573; try clear q574; try clear q578; try clear q579; try clear q586; try clear q588
        (repeat clear HO_5); (repeat clear HO_6); (repeat clear HO_7); (repeat clear HB)
        obtain ⟨x5_3, x7_3, HA, HK3, HO_5, HO_6, HO_7, HB⟩ := hrel
        cases gk with
        | zero => exact absurd HA.out (by simp [hopmeshref14_Best.l3])
        | succ k3 =>
         have H := HA.out
         clear HA
         simp only [hopmeshref14_Best.l3] at H
         by_cases c55 : (x5_3.length : Int) < a1
         ·
          rw [if_pos c55] at H
          have c55b0 : decide ((x5_3.length : Int) < a1) = true := decide_eq_true c55
          clear c55
          have H' := Aside0.mk H
          clear H
          obtain ⟨Ao56, co56, eo56⟩ := Kd.R_slice HO_5.out
          subst eo56
          go_wp2
          go_loopg [12, 13] k3 (fun kq v12 v13 w' => ∃ (x12_4 : Int) (x13_4 : Int), v12 = .int .i64 x12_4 ∧ v13 = .int .i64 x13_4 ∧ Aside0 (hopmeshref14_Best.l4 kq a1 x5_3 x6_2 x7_3 x12_4 x13_4 = some r) ∧ Aside0 (kq ≤ k3) ∧ Aside0 (Kd.R k26 26 w' w.heap.size (fun _ => True) (.slice Ao56 x5_3.length co56) x5_3) ∧ Aside0 (Kd.R Kd.string 9 w' w.heap.size (fun _ => True) u6 x6_2) ∧ Aside0 (Kd.R (Kd.int .i64) 3 w' w.heap.size (fun _ => True) u7 x7_3) ∧ Aside0 (Below w.heap.size w w'))
          case atStart => exact ⟨((-1)), (0), rl_, rl_, H', ⟨Nat.le_refl _⟩, ⟨kr_ HO_5⟩, ⟨kr_ HO_6⟩, ⟨kr_ HO_7⟩, ⟨hb_⟩⟩
          case round =>
           clear H'
           try clear c1; try clear c2; try clear p2; try clear c3; try clear c4; try clear p4; try clear q4; try clear hx4; try clear hf4; try clear c5; try clear p5; try clear q5; try clear hx5; try clear c6; try clear c6b0; try clear p6; try clear c7; try clear c12; try clear c12b0; try clear c13; try clear c13b0; try clear c15; try clear c15b0; try clear c15b1; try clear c16; try clear c16b0; try clear c16b1; try clear c17; try clear c17b0; try clear c17b1; try clear c18; try clear c18b0; try clear c19; try clear c19b0; try clear c19b1; try clear c21; try clear c25; try clear c25b0; try clear c26; try clear c26b0; try clear c27; try clear c27b0; try clear c29; try clear c29b0; try clear c30; try clear c30b0; try clear c31; try clear c31b0; try clear c31b1; try clear c35; try clear c35b0; try clear c35b1; try clear c36; try clear c37; try clear c38; try clear c38b0; try clear c39; try clear c39b0; try clear p40; try clear q40; try clear hx40; try clear hf40; try clear c47; try clear c47b0; try clear c48; try clear c48b0; try clear p49; try clear q49; try clear hx49; try clear hf49; try clear c55; try clear c55b0; try clear hx40_0; try clear hx49_0; try clear hx571_0; try clear hx571_1; try clear hx571_2; try clear hx571_3; try clear hx571_4; try clear hx571_5; try clear hx571_6; try clear hx573_0; try clear hx573_1; try clear hx573_2; try clear hx573_3; try clear hx573_4; try clear hx573_5; try clear hx573_6; try clear hx574_0; try clear hx574_1; try clear hx574_2; try clear hx574_3; try clear hx574_4; try clear hx574_5; try clear hx574_6; try clear hx578_0; try clear hx579_0; try clear hx586_0; try clear hx588_0; try clear p2; try clear p4; try clear p40; try clear p49; try clear p5; try clear p571; try clear p573; try clear p574; try clear p578; try clear p579; try clear p586; try clear p588; try clear p6; try clear q4; try clear q40; try clear q49; try clear q5; try clear q571; try clear q573; try clear q574; try clear q578; try clear q579; try clear q586; try clear q588
           (repeat clear HO_5); (repeat clear HO_6); (repeat clear HO_7); (repeat clear HB)
           obtain ⟨x12_4, x13_4, rfl, rfl, HA, HK4, HO_5, HO_6, HO_7, HB⟩ := hrel
           cases gk with
           | zero => exact absurd HA.out (by simp [hopmeshref14_Best.l4])
           | succ k4 =>
            have H := HA.out
            clear HA
            simp only [hopmeshref14_Best.l4] at H
            by_cases c57 : x13_4 < (x6_2.length : Int)
            ·
             rw [if_pos c57] at H
             have c57b0 : decide (x13_4 < (x6_2.length : Int)) = true := decide_eq_true c57
             clear c57
             have HC58 := Aside0.mk H
             clear H
             obtain ⟨Ao59, co59, eo59⟩ := Kd.R_slice HO_6.out
             subst eo59
             go_upto_region 26 with (fail)
             go_cut [139] (fun v139 wc => ∃ (kq : Nat) (x139_57 : Bool), v139 = .bool x139_57 ∧ Aside0 (hopmeshref14_Best.j7 kq a1 x5_3 x6_2 x7_3 x12_4 x13_4 x139_57 = some r) ∧ Aside0 (kq ≤ k4) ∧ Aside0 (Kd.R k26 26 wc w.heap.size (fun _ => True) (.slice Ao56 x5_3.length co56) x5_3) ∧ Aside0 (Kd.R Kd.string 9 wc w.heap.size (fun _ => True) (.slice Ao59 x6_2.length co59) x6_2) ∧ Aside0 (Kd.R (Kd.int .i64) 3 wc w.heap.size (fun _ => True) u7 x7_3) ∧ Aside0 (Below w.heap.size w wc))
             case first =>
              have H := HC58.out
              clear HC58
              by_cases c60 : 0 ≤ x13_4
              ·
               rw [if_pos c60] at H
               have c60b0 : decide (0 ≤ x13_4) = true := decide_eq_true c60
               clear c60
               (first | rw [c60b0] | (simp only [i64_w, i32_w]; rw [c60b0]) | skip)
               by_cases c61 : x13_4 < (x7_3.length : Int)
               ·
                rw [if_pos c61] at H
                have c61b0 : decide (x13_4 < (x7_3.length : Int)) = true := decide_eq_true c61
                clear c61
                by_cases c62 : (rd x7_3 x13_4) > 0
                ·
                 rw [if_pos c62] at H
                 have c62b0 : decide (0 < (rd x7_3 x13_4)) = true := decide_eq_true c62
                 clear c62
                 by_cases c63 : x12_4 < 0
                 ·
                  rw [if_pos c63] at H
                  have c63b0 : decide (x12_4 < 0) = true := decide_eq_true c63
                  clear c63
                  have H' := Aside0.mk H
                  clear H
                  try go_wp2
                  have n0_ := Aside0.mk (Kd.R_drew HO_5.out)
                  have n1_ := Aside0.mk (Kd.R_drew HO_6.out)
                  have n2_ := Aside0.mk (Kd.R_drew HO_7.out)
                  have n3_ := Aside0.mk (below_drew1 HB.out)
                  clear HO_5
                  clear HO_6
                  clear HO_7
                  clear HB
                  have HO_5 := n0_
                  have HO_6 := n1_
                  have HO_7 := n2_
                  have HB := n3_
                  clear n0_ n1_ n2_ n3_
                  obtain ⟨Ao65, co65, eo65⟩ := Kd.R_slice HO_7.out
                  (first | subst eo65 | (injection eo65 with f1_ f2_ f3_; have f4_ := f1_.symm; have f5_ := f3_.symm; clear f1_ f2_ f3_; subst f4_; subst f5_))
                  have p590 : 0 ≤ (x13_4 : Int) := of_decide_eq_true (by assumption)
                  have q590 : x13_4 < (x7_3.length : Int) := of_decide_eq_true (by assumption)
                  obtain ⟨ad590, e590, hx590_0⟩ := Kd.at_int (Kd.R_reads' HO_7.out).2.2 x13_4 p590 q590
                  cases e590
                  replace p590 := eq_true p590
                  replace q590 := eq_true q590
                  refine start_ (n := 42) (S := fun w' => w'.cell? (ad590.add (x13_4).toNat) = some (.int .i64 (rd x7_3 x13_4))) (ds := []) #[false, false, false, false, false, false, false, false, false, false, false, false, false, false, false, false, false, false, false, false, false, false, false, false, false, false, false, false, false, false, false, false, false, false, false, false, false, false, false, false, false, false] (by kernel_rfl) rfl rfl (hx590_0) (fun hHeld => ?_); refine with_tabW hopmeshref14_Best.tab26 hopmeshref14_Best.bits26 (fun HT_ HW_ => ?_)
                  generalize wr.drew = w64 at HO_5 HO_6 HO_7 HB hx590_0 hHeld ⊢
                  refine pu_ HT_ 0 98 (bl 42 1) ?_
                  refine pu_ HT_ 1 99 (bl 42 3) ?_
                  refine pu_ HT_ 2 100 (bl 42 7) ?_
                  refine tk_ HT_ HW_ hHeld 3 101 (bl 42 15) ?_
                  refine pu_ HT_ 4 102 (bl 42 31) ?_
                  refine pu_ HT_ 5 103 (bl 42 63) ?_
                  refine pu_ HT_ 6 104 (bl 42 127) ?_
                  refine pu_ HT_ 7 105 (bl 42 255) ?_
                  refine pu_ HT_ 8 106 (bl 42 511) ?_
                  refine of_ HT_ 9 107 (bl 42 1023) ?_
                  refine of_ HT_ 10 108 (bl 42 2047) ?_
                  refine of_ HT_ 11 109 (bl 42 4095) ?_
                  refine of_ HT_ 12 110 (bl 42 8191) ?_
                  refine of_ HT_ 13 111 (bl 42 16383) ?_
                  refine of_ HT_ 14 112 (bl 42 32767) ?_
                  refine of_ HT_ 15 113 (bl 42 65535) ?_
                  refine of_ HT_ 16 114 (bl 42 131071) ?_
                  refine of_ HT_ 17 115 (bl 42 262143) ?_
                  refine pu_ HT_ 18 116 (bl 42 524287) ?_
                  refine pu_ HT_ 19 117 (bl 42 1048575) ?_
                  refine of_ HT_ 20 118 (bl 42 2097151) ?_
                  refine of_ HT_ 21 119 (bl 42 4194303) ?_
                  refine of_ HT_ 22 120 (bl 42 8388607) ?_
                  refine of_ HT_ 23 121 (bl 42 16777215) ?_
                  refine of_ HT_ 24 122 (bl 42 33554431) ?_
                  refine of_ HT_ 25 123 (bl 42 67108863) ?_
                  refine of_ HT_ 26 124 (bl 42 134217727) ?_
                  refine of_ HT_ 27 125 (bl 42 268435455) ?_
                  refine of_ HT_ 28 126 (bl 42 536870911) ?_
                  refine of_ HT_ 29 127 (bl 42 1073741823) ?_
                  refine of_ HT_ 30 128 (bl 42 2147483647) ?_
                  refine of_ HT_ 31 129 (bl 42 4294967295) ?_
                  refine of_ HT_ 32 130 (bl 42 8589934591) ?_
                  refine of_ HT_ 33 131 (bl 42 17179869183) ?_
                  refine of_ HT_ 34 132 (bl 42 34359738367) ?_
                  refine of_ HT_ 35 133 (bl 42 68719476735) ?_
                  refine of_ HT_ 36 134 (bl 42 137438953471) ?_
                  refine of_ HT_ 37 135 (bl 42 274877906943) ?_
                  refine of_ HT_ 38 136 (bl 42 549755813887) ?_
                  refine of_ HT_ 39 137 (bl 42 1099511627775) ?_
                  refine pu_ HT_ 40 138 (bl 42 2199023255551) ?_
                  refine pu_ HT_ 41 139 (bl 42 4398046511103) ?_
                  refine done_ (done_of HT_.out (by kernel_rfl)) ?_
                  try go_wp2
                  go_meet
                  case rel => exact ⟨_, (true), rl_, H', ⟨by have := HJ2.out; have := HK2.out; have := HK3.out; have := HK4.out; first | omega | exact Nat.le_refl _⟩, ⟨kr_ HO_5⟩, ⟨kr_ HO_6⟩, ⟨kr_ HO_7⟩, ⟨hb_⟩⟩
                 ·
                  rw [if_neg c63] at H
                  have c63b0 : decide (x12_4 < 0) = false := decide_eq_false c63
                  clear c63
                  by_cases c66 : 0 ≤ x12_4
                  ·
                   rw [if_pos c66] at H
                   have c66b0 : decide (0 ≤ x12_4) = true := decide_eq_true c66
                   clear c66
                   by_cases c67 : x12_4 < (x7_3.length : Int)
                   ·
                    rw [if_pos c67] at H
                    have c67b0 : decide (x12_4 < (x7_3.length : Int)) = true := decide_eq_true c67
                    clear c67
                    by_cases c68 : (rd x7_3 x13_4) > (rd x7_3 x12_4)
                    ·
                     rw [if_pos c68] at H
                     have c68b0 : decide ((rd x7_3 x12_4) < (rd x7_3 x13_4)) = true := decide_eq_true c68
                     clear c68
                     have H' := Aside0.mk H
                     clear H
                     try go_wp2
                     have n0_ := Aside0.mk (Kd.R_drew HO_5.out)
                     have n1_ := Aside0.mk (Kd.R_drew HO_6.out)
                     have n2_ := Aside0.mk (Kd.R_drew HO_7.out)
                     have n3_ := Aside0.mk (below_drew1 HB.out)
                     clear HO_5
                     clear HO_6
                     clear HO_7
                     clear HB
                     have HO_5 := n0_
                     have HO_6 := n1_
                     have HO_7 := n2_
                     have HB := n3_
                     clear n0_ n1_ n2_ n3_
                     obtain ⟨Ao70, co70, eo70⟩ := Kd.R_slice HO_7.out
                     (first | subst eo70 | (injection eo70 with f1_ f2_ f3_; have f4_ := f1_.symm; have f5_ := f3_.symm; clear f1_ f2_ f3_; subst f4_; subst f5_))
                     have p590 : 0 ≤ (x13_4 : Int) := of_decide_eq_true (by assumption)
                     have q590 : x13_4 < (x7_3.length : Int) := of_decide_eq_true (by assumption)
                     obtain ⟨ad590, e590, hx590_0⟩ := Kd.at_int (Kd.R_reads' HO_7.out).2.2 x13_4 p590 q590
                     cases e590
                     replace p590 := eq_true p590
                     replace q590 := eq_true q590
                     have p591 : 0 ≤ (x13_4 : Int) := of_decide_eq_true (by assumption)
                     have q591 : x13_4 < (x7_3.length : Int) := of_decide_eq_true (by assumption)
                     obtain ⟨ad591, e591, hx591_0⟩ := Kd.at_int (Kd.R_reads' HO_7.out).2.2 x13_4 p591 q591
                     obtain rfl : ad590 = ad591 := (by injection e591)
                     replace p591 := eq_true p591
                     replace q591 := eq_true q591
                     have p592 : 0 ≤ (x12_4 : Int) := of_decide_eq_true (by assumption)
                     have q592 : x12_4 < (x7_3.length : Int) := of_decide_eq_true (by assumption)
                     obtain ⟨ad592, e592, hx592_0⟩ := Kd.at_int (Kd.R_reads' HO_7.out).2.2 x12_4 p592 q592
                     obtain rfl : ad590 = ad592 := (by injection e592)
                     replace p592 := eq_true p592
                     replace q592 := eq_true q592
                     refine start_ (n := 42) (S := fun w' => w'.cell? (ad590.add (x13_4).toNat) = some (.int .i64 (rd x7_3 x13_4)) ∧ w'.cell? (ad590.add (x13_4).toNat) = some (.int .i64 (rd x7_3 x13_4)) ∧ w'.cell? (ad590.add (x12_4).toNat) = some (.int .i64 (rd x7_3 x12_4))) (ds := []) #[false, false, false, false, false, false, false, false, false, false, false, false, false, false, false, false, false, false, false, false, false, false, false, false, false, false, false, false, false, false, false, false, false, false, false, false, false, false, false, false, false, false] (by kernel_rfl) rfl rfl ⟨hx590_0, hx591_0, hx592_0⟩ (fun hHeld => ?_); refine with_tabW hopmeshref14_Best.tab26 hopmeshref14_Best.bits26 (fun HT_ HW_ => ?_)
                     generalize wr.drew = w69 at HO_5 HO_6 HO_7 HB hx590_0 hx591_0 hx592_0 hHeld ⊢
                     refine pu_ HT_ 0 98 (bl 42 1) ?_
                     refine pu_ HT_ 1 99 (bl 42 3) ?_
                     refine pu_ HT_ 2 100 (bl 42 7) ?_
                     refine tk_ HT_ HW_ hHeld 3 101 (bl 42 15) ?_
                     refine pu_ HT_ 4 102 (bl 42 31) ?_
                     refine pu_ HT_ 5 103 (bl 42 63) ?_
                     refine pu_ HT_ 6 104 (bl 42 127) ?_
                     refine pu_ HT_ 7 105 (bl 42 255) ?_
                     refine pu_ HT_ 8 106 (bl 42 511) ?_
                     refine pu_ HT_ 9 107 (bl 42 1023) ?_
                     refine pu_ HT_ 10 108 (bl 42 2047) ?_
                     refine pu_ HT_ 11 109 (bl 42 4095) ?_
                     refine pu_ HT_ 13 111 (bl 42 12287) ?_
                     refine pu_ HT_ 14 112 (bl 42 28671) ?_
                     refine pu_ HT_ 15 113 (bl 42 61439) ?_
                     refine tk_ HT_ HW_ hHeld 12 110 (bl 42 65535) ?_
                     refine tk_ HT_ HW_ hHeld 16 114 (bl 42 131071) ?_
                     refine pu_ HT_ 17 115 (bl 42 262143) ?_
                     refine pu_ HT_ 18 116 (bl 42 524287) ?_
                     refine pu_ HT_ 19 117 (bl 42 1048575) ?_
                     refine of_ HT_ 20 118 (bl 42 2097151) ?_
                     refine of_ HT_ 21 119 (bl 42 4194303) ?_
                     refine of_ HT_ 22 120 (bl 42 8388607) ?_
                     refine of_ HT_ 23 121 (bl 42 16777215) ?_
                     refine of_ HT_ 24 122 (bl 42 33554431) ?_
                     refine of_ HT_ 25 123 (bl 42 67108863) ?_
                     refine of_ HT_ 26 124 (bl 42 134217727) ?_
                     refine of_ HT_ 27 125 (bl 42 268435455) ?_
                     refine of_ HT_ 28 126 (bl 42 536870911) ?_
                     refine of_ HT_ 29 127 (bl 42 1073741823) ?_
                     refine of_ HT_ 30 128 (bl 42 2147483647) ?_
                     refine of_ HT_ 31 129 (bl 42 4294967295) ?_
                     refine of_ HT_ 32 130 (bl 42 8589934591) ?_
                     refine of_ HT_ 33 131 (bl 42 17179869183) ?_
                     refine of_ HT_ 34 132 (bl 42 34359738367) ?_
                     refine of_ HT_ 35 133 (bl 42 68719476735) ?_
                     refine of_ HT_ 36 134 (bl 42 137438953471) ?_
                     refine of_ HT_ 37 135 (bl 42 274877906943) ?_
                     refine of_ HT_ 38 136 (bl 42 549755813887) ?_
                     refine of_ HT_ 39 137 (bl 42 1099511627775) ?_
                     refine pu_ HT_ 40 138 (bl 42 2199023255551) ?_
                     refine pu_ HT_ 41 139 (bl 42 4398046511103) ?_
                     refine done_ (done_of HT_.out (by kernel_rfl)) ?_
                     try go_wp2
                     go_meet
                     case rel => exact ⟨_, (true), rl_, H', ⟨by have := HJ2.out; have := HK2.out; have := HK3.out; have := HK4.out; first | omega | exact Nat.le_refl _⟩, ⟨kr_ HO_5⟩, ⟨kr_ HO_6⟩, ⟨kr_ HO_7⟩, ⟨hb_⟩⟩
                    ·
                     rw [if_neg c68] at H
                     have c68b0 : decide ((rd x7_3 x12_4) < (rd x7_3 x13_4)) = false := decide_eq_false c68
                     clear c68
                     by_cases c71 : (rd x7_3 x13_4) = (rd x7_3 x12_4)
                     ·
                      rw [if_pos c71] at H
                      have c71b0 : ((rd x7_3 x13_4) == (rd x7_3 x12_4)) = true := beq_iff_eq.mpr c71
                      have c71b1 : ((rd x7_3 x13_4) != (rd x7_3 x12_4)) = false := bne_eq_false_iff_eq.mpr c71
                      clear c71
                      by_cases c72 : x12_4 < (x6_2.length : Int)
                      ·
                       rw [if_pos c72] at H
                       have c72b0 : decide (x12_4 < (x6_2.length : Int)) = true := decide_eq_true c72
                       clear c72
                       have H' := Aside0.mk H
                       clear H
                       try go_wp2
                       have n0_ := Aside0.mk (Kd.R_drew HO_5.out)
                       have n1_ := Aside0.mk (Kd.R_drew HO_6.out)
                       have n2_ := Aside0.mk (Kd.R_drew HO_7.out)
                       have n3_ := Aside0.mk (below_drew1 HB.out)
                       clear HO_5
                       clear HO_6
                       clear HO_7
                       clear HB
                       have HO_5 := n0_
                       have HO_6 := n1_
                       have HO_7 := n2_
                       have HB := n3_
                       clear n0_ n1_ n2_ n3_
                       obtain ⟨Ao74, co74, eo74⟩ := Kd.R_slice HO_7.out
                       (first | subst eo74 | (injection eo74 with f1_ f2_ f3_; have f4_ := f1_.symm; have f5_ := f3_.symm; clear f1_ f2_ f3_; subst f4_; subst f5_))
                       have p590 : 0 ≤ (x13_4 : Int) := of_decide_eq_true (by assumption)
                       have q590 : x13_4 < (x7_3.length : Int) := of_decide_eq_true (by assumption)
                       obtain ⟨ad590, e590, hx590_0⟩ := Kd.at_int (Kd.R_reads' HO_7.out).2.2 x13_4 p590 q590
                       cases e590
                       replace p590 := eq_true p590
                       replace q590 := eq_true q590
                       have p591 : 0 ≤ (x13_4 : Int) := of_decide_eq_true (by assumption)
                       have q591 : x13_4 < (x7_3.length : Int) := of_decide_eq_true (by assumption)
                       obtain ⟨ad591, e591, hx591_0⟩ := Kd.at_int (Kd.R_reads' HO_7.out).2.2 x13_4 p591 q591
                       obtain rfl : ad590 = ad591 := (by injection e591)
                       replace p591 := eq_true p591
                       replace q591 := eq_true q591
                       have p592 : 0 ≤ (x12_4 : Int) := of_decide_eq_true (by assumption)
                       have q592 : x12_4 < (x7_3.length : Int) := of_decide_eq_true (by assumption)
                       obtain ⟨ad592, e592, hx592_0⟩ := Kd.at_int (Kd.R_reads' HO_7.out).2.2 x12_4 p592 q592
                       obtain rfl : ad590 = ad592 := (by injection e592)
                       replace p592 := eq_true p592
                       replace q592 := eq_true q592
                       have p593 : 0 ≤ (x13_4 : Int) := of_decide_eq_true (by assumption)
                       have q593 : x13_4 < (x7_3.length : Int) := of_decide_eq_true (by assumption)
                       obtain ⟨ad593, e593, hx593_0⟩ := Kd.at_int (Kd.R_reads' HO_7.out).2.2 x13_4 p593 q593
                       obtain rfl : ad590 = ad593 := (by injection e593)
                       replace p593 := eq_true p593
                       replace q593 := eq_true q593
                       have p594 : 0 ≤ (x12_4 : Int) := of_decide_eq_true (by assumption)
                       have q594 : x12_4 < (x7_3.length : Int) := of_decide_eq_true (by assumption)
                       obtain ⟨ad594, e594, hx594_0⟩ := Kd.at_int (Kd.R_reads' HO_7.out).2.2 x12_4 p594 q594
                       obtain rfl : ad590 = ad594 := (by injection e594)
                       replace p594 := eq_true p594
                       replace q594 := eq_true q594
                       have p595 : 0 ≤ (x13_4 : Int) := of_decide_eq_true (by assumption)
                       have q595 : x13_4 < (x6_2.length : Int) := of_decide_eq_true (by assumption)
                       obtain ⟨ad595, e595, hx595_0⟩ := Kd.at_string (Kd.R_reads' HO_6.out).2.2 x13_4 p595 q595
                       cases e595
                       replace p595 := eq_true p595
                       replace q595 := eq_true q595
                       have p596 : 0 ≤ (x12_4 : Int) := of_decide_eq_true (by assumption)
                       have q596 : x12_4 < (x6_2.length : Int) := of_decide_eq_true (by assumption)
                       obtain ⟨ad596, e596, hx596_0⟩ := Kd.at_string (Kd.R_reads' HO_6.out).2.2 x12_4 p596 q596
                       obtain rfl : ad595 = ad596 := (by injection e596)
                       replace p596 := eq_true p596
                       replace q596 := eq_true q596
                       refine start_ (n := 42) (S := fun w' => w'.cell? (ad590.add (x13_4).toNat) = some (.int .i64 (rd x7_3 x13_4)) ∧ w'.cell? (ad590.add (x13_4).toNat) = some (.int .i64 (rd x7_3 x13_4)) ∧ w'.cell? (ad590.add (x12_4).toNat) = some (.int .i64 (rd x7_3 x12_4)) ∧ w'.cell? (ad590.add (x13_4).toNat) = some (.int .i64 (rd x7_3 x13_4)) ∧ w'.cell? (ad590.add (x12_4).toNat) = some (.int .i64 (rd x7_3 x12_4)) ∧ w'.cell? (ad595.add (x13_4).toNat) = some (.string (rdOf ByteArray.empty x6_2 x13_4)) ∧ w'.cell? (ad595.add (x12_4).toNat) = some (.string (rdOf ByteArray.empty x6_2 x12_4))) (ds := []) #[false, false, false, false, false, false, false, false, false, false, false, false, false, false, false, false, false, false, false, false, false, false, false, false, false, false, false, false, false, false, false, false, false, false, false, false, false, false, false, false, false, false] (by kernel_rfl) rfl rfl ⟨hx590_0, hx591_0, hx592_0, hx593_0, hx594_0, hx595_0, hx596_0⟩ (fun hHeld => ?_); refine with_tabW hopmeshref14_Best.tab26 hopmeshref14_Best.bits26 (fun HT_ HW_ => ?_)
                       generalize wr.drew = w73 at HO_5 HO_6 HO_7 HB hx590_0 hx591_0 hx592_0 hx593_0 hx594_0 hx595_0 hx596_0 hHeld ⊢
                       refine pu_ HT_ 0 98 (bl 42 1) ?_
                       refine pu_ HT_ 1 99 (bl 42 3) ?_
                       refine pu_ HT_ 2 100 (bl 42 7) ?_
                       refine tk_ HT_ HW_ hHeld 3 101 (bl 42 15) ?_
                       refine pu_ HT_ 4 102 (bl 42 31) ?_
                       refine pu_ HT_ 5 103 (bl 42 63) ?_
                       refine pu_ HT_ 6 104 (bl 42 127) ?_
                       refine pu_ HT_ 7 105 (bl 42 255) ?_
                       refine pu_ HT_ 8 106 (bl 42 511) ?_
                       refine pu_ HT_ 9 107 (bl 42 1023) ?_
                       refine pu_ HT_ 10 108 (bl 42 2047) ?_
                       refine pu_ HT_ 11 109 (bl 42 4095) ?_
                       refine pu_ HT_ 13 111 (bl 42 12287) ?_
                       refine pu_ HT_ 14 112 (bl 42 28671) ?_
                       refine pu_ HT_ 15 113 (bl 42 61439) ?_
                       refine tk_ HT_ HW_ hHeld 12 110 (bl 42 65535) ?_
                       refine tk_ HT_ HW_ hHeld 16 114 (bl 42 131071) ?_
                       refine pu_ HT_ 17 115 (bl 42 262143) ?_
                       refine pu_ HT_ 18 116 (bl 42 524287) ?_
                       refine pu_ HT_ 19 117 (bl 42 1048575) ?_
                       refine pu_ HT_ 20 118 (bl 42 2097151) ?_
                       refine pu_ HT_ 21 119 (bl 42 4194303) ?_
                       refine pu_ HT_ 22 120 (bl 42 8388607) ?_
                       refine pu_ HT_ 24 122 (bl 42 25165823) ?_
                       refine pu_ HT_ 25 123 (bl 42 58720255) ?_
                       refine pu_ HT_ 26 124 (bl 42 125829119) ?_
                       refine tk_ HT_ HW_ hHeld 23 121 (bl 42 134217727) ?_
                       refine tk_ HT_ HW_ hHeld 27 125 (bl 42 268435455) ?_
                       refine pu_ HT_ 28 126 (bl 42 536870911) ?_
                       refine pu_ HT_ 29 127 (bl 42 1073741823) ?_
                       refine pu_ HT_ 30 128 (bl 42 2147483647) ?_
                       refine pu_ HT_ 31 129 (bl 42 4294967295) ?_
                       refine pu_ HT_ 32 130 (bl 42 8589934591) ?_
                       refine pu_ HT_ 34 132 (bl 42 25769803775) ?_
                       refine pu_ HT_ 35 133 (bl 42 60129542143) ?_
                       refine pu_ HT_ 36 134 (bl 42 128849018879) ?_
                       refine tk_ HT_ HW_ hHeld 33 131 (bl 42 137438953471) ?_
                       refine tk_ HT_ HW_ hHeld 37 135 (bl 42 274877906943) ?_
                       refine pu_ HT_ 38 136 (bl 42 549755813887) ?_
                       refine pu_ HT_ 39 137 (bl 42 1099511627775) ?_
                       refine pu_ HT_ 40 138 (bl 42 2199023255551) ?_
                       refine pu_ HT_ 41 139 (bl 42 4398046511103) ?_
                       refine done_ (done_of HT_.out (by kernel_rfl)) ?_
                       try go_wp2
                       go_meet
                       case rel => exact ⟨_, ((Op.bytesLess ((rdOf ByteArray.empty x6_2 x13_4).toList) ((rdOf ByteArray.empty x6_2 x12_4).toList))), rl_, H', ⟨by have := HJ2.out; have := HK2.out; have := HK3.out; have := HK4.out; first | omega | exact Nat.le_refl _⟩, ⟨kr_ HO_5⟩, ⟨kr_ HO_6⟩, ⟨kr_ HO_7⟩, ⟨hb_⟩⟩
                      ·
                       rw [if_neg c72] at H
                       exact absurd H (by simp)
                     ·
                      rw [if_neg c71] at H
                      have c71b0 : ((rd x7_3 x13_4) == (rd x7_3 x12_4)) = false := beq_eq_false_iff_ne.mpr c71
                      have c71b1 : ((rd x7_3 x13_4) != (rd x7_3 x12_4)) = true := bne_iff_ne.mpr c71
                      have H' := Aside0.mk H
                      clear H
                      try go_wp2
                      have n0_ := Aside0.mk (Kd.R_drew HO_5.out)
                      have n1_ := Aside0.mk (Kd.R_drew HO_6.out)
                      have n2_ := Aside0.mk (Kd.R_drew HO_7.out)
                      have n3_ := Aside0.mk (below_drew1 HB.out)
                      clear HO_5
                      clear HO_6
                      clear HO_7
                      clear HB
                      have HO_5 := n0_
                      have HO_6 := n1_
                      have HO_7 := n2_
                      have HB := n3_
                      clear n0_ n1_ n2_ n3_
                      obtain ⟨Ao76, co76, eo76⟩ := Kd.R_slice HO_7.out
                      (first | subst eo76 | (injection eo76 with f1_ f2_ f3_; have f4_ := f1_.symm; have f5_ := f3_.symm; clear f1_ f2_ f3_; subst f4_; subst f5_))
                      have p590 : 0 ≤ (x13_4 : Int) := of_decide_eq_true (by assumption)
                      have q590 : x13_4 < (x7_3.length : Int) := of_decide_eq_true (by assumption)
                      obtain ⟨ad590, e590, hx590_0⟩ := Kd.at_int (Kd.R_reads' HO_7.out).2.2 x13_4 p590 q590
                      cases e590
                      replace p590 := eq_true p590
                      replace q590 := eq_true q590
                      have p591 : 0 ≤ (x13_4 : Int) := of_decide_eq_true (by assumption)
                      have q591 : x13_4 < (x7_3.length : Int) := of_decide_eq_true (by assumption)
                      obtain ⟨ad591, e591, hx591_0⟩ := Kd.at_int (Kd.R_reads' HO_7.out).2.2 x13_4 p591 q591
                      obtain rfl : ad590 = ad591 := (by injection e591)
                      replace p591 := eq_true p591
                      replace q591 := eq_true q591
                      have p592 : 0 ≤ (x12_4 : Int) := of_decide_eq_true (by assumption)
                      have q592 : x12_4 < (x7_3.length : Int) := of_decide_eq_true (by assumption)
                      obtain ⟨ad592, e592, hx592_0⟩ := Kd.at_int (Kd.R_reads' HO_7.out).2.2 x12_4 p592 q592
                      obtain rfl : ad590 = ad592 := (by injection e592)
                      replace p592 := eq_true p592
                      replace q592 := eq_true q592
                      have p593 : 0 ≤ (x13_4 : Int) := of_decide_eq_true (by assumption)
                      have q593 : x13_4 < (x7_3.length : Int) := of_decide_eq_true (by assumption)
                      obtain ⟨ad593, e593, hx593_0⟩ := Kd.at_int (Kd.R_reads' HO_7.out).2.2 x13_4 p593 q593
                      obtain rfl : ad590 = ad593 := (by injection e593)
                      replace p593 := eq_true p593
                      replace q593 := eq_true q593
                      have p594 : 0 ≤ (x12_4 : Int) := of_decide_eq_true (by assumption)
                      have q594 : x12_4 < (x7_3.length : Int) := of_decide_eq_true (by assumption)
                      obtain ⟨ad594, e594, hx594_0⟩ := Kd.at_int (Kd.R_reads' HO_7.out).2.2 x12_4 p594 q594
                      obtain rfl : ad590 = ad594 := (by injection e594)
                      replace p594 := eq_true p594
                      replace q594 := eq_true q594
                      refine start_ (n := 42) (S := fun w' => w'.cell? (ad590.add (x13_4).toNat) = some (.int .i64 (rd x7_3 x13_4)) ∧ w'.cell? (ad590.add (x13_4).toNat) = some (.int .i64 (rd x7_3 x13_4)) ∧ w'.cell? (ad590.add (x12_4).toNat) = some (.int .i64 (rd x7_3 x12_4)) ∧ w'.cell? (ad590.add (x13_4).toNat) = some (.int .i64 (rd x7_3 x13_4)) ∧ w'.cell? (ad590.add (x12_4).toNat) = some (.int .i64 (rd x7_3 x12_4))) (ds := []) #[false, false, false, false, false, false, false, false, false, false, false, false, false, false, false, false, false, false, false, false, false, false, false, false, false, false, false, false, false, false, false, false, false, false, false, false, false, false, false, false, false, false] (by kernel_rfl) rfl rfl ⟨hx590_0, hx591_0, hx592_0, hx593_0, hx594_0⟩ (fun hHeld => ?_); refine with_tabW hopmeshref14_Best.tab26 hopmeshref14_Best.bits26 (fun HT_ HW_ => ?_)
                      generalize wr.drew = w75 at HO_5 HO_6 HO_7 HB hx590_0 hx591_0 hx592_0 hx593_0 hx594_0 hHeld ⊢
                      refine pu_ HT_ 0 98 (bl 42 1) ?_
                      refine pu_ HT_ 1 99 (bl 42 3) ?_
                      refine pu_ HT_ 2 100 (bl 42 7) ?_
                      refine tk_ HT_ HW_ hHeld 3 101 (bl 42 15) ?_
                      refine pu_ HT_ 4 102 (bl 42 31) ?_
                      refine pu_ HT_ 5 103 (bl 42 63) ?_
                      refine pu_ HT_ 6 104 (bl 42 127) ?_
                      refine pu_ HT_ 7 105 (bl 42 255) ?_
                      refine pu_ HT_ 8 106 (bl 42 511) ?_
                      refine pu_ HT_ 9 107 (bl 42 1023) ?_
                      refine pu_ HT_ 10 108 (bl 42 2047) ?_
                      refine pu_ HT_ 11 109 (bl 42 4095) ?_
                      refine pu_ HT_ 13 111 (bl 42 12287) ?_
                      refine pu_ HT_ 14 112 (bl 42 28671) ?_
                      refine pu_ HT_ 15 113 (bl 42 61439) ?_
                      refine tk_ HT_ HW_ hHeld 12 110 (bl 42 65535) ?_
                      refine tk_ HT_ HW_ hHeld 16 114 (bl 42 131071) ?_
                      refine pu_ HT_ 17 115 (bl 42 262143) ?_
                      refine pu_ HT_ 18 116 (bl 42 524287) ?_
                      refine pu_ HT_ 19 117 (bl 42 1048575) ?_
                      refine pu_ HT_ 20 118 (bl 42 2097151) ?_
                      refine pu_ HT_ 21 119 (bl 42 4194303) ?_
                      refine pu_ HT_ 22 120 (bl 42 8388607) ?_
                      refine pu_ HT_ 24 122 (bl 42 25165823) ?_
                      refine pu_ HT_ 25 123 (bl 42 58720255) ?_
                      refine pu_ HT_ 26 124 (bl 42 125829119) ?_
                      refine tk_ HT_ HW_ hHeld 23 121 (bl 42 134217727) ?_
                      refine tk_ HT_ HW_ hHeld 27 125 (bl 42 268435455) ?_
                      refine pu_ HT_ 28 126 (bl 42 536870911) ?_
                      refine pu_ HT_ 29 127 (bl 42 1073741823) ?_
                      refine of_ HT_ 30 128 (bl 42 2147483647) ?_
                      refine of_ HT_ 31 129 (bl 42 4294967295) ?_
                      refine of_ HT_ 32 130 (bl 42 8589934591) ?_
                      refine of_ HT_ 33 131 (bl 42 17179869183) ?_
                      refine of_ HT_ 34 132 (bl 42 34359738367) ?_
                      refine of_ HT_ 35 133 (bl 42 68719476735) ?_
                      refine of_ HT_ 36 134 (bl 42 137438953471) ?_
                      refine of_ HT_ 37 135 (bl 42 274877906943) ?_
                      refine of_ HT_ 38 136 (bl 42 549755813887) ?_
                      refine pu_ HT_ 39 137 (bl 42 1099511627775) ?_
                      refine pu_ HT_ 40 138 (bl 42 2199023255551) ?_
                      refine pu_ HT_ 41 139 (bl 42 4398046511103) ?_
                      refine done_ (done_of HT_.out (by kernel_rfl)) ?_
                      try go_wp2
                      go_meet
                      case rel => exact ⟨_, (false), rl_, H', ⟨by have := HJ2.out; have := HK2.out; have := HK3.out; have := HK4.out; first | omega | exact Nat.le_refl _⟩, ⟨kr_ HO_5⟩, ⟨kr_ HO_6⟩, ⟨kr_ HO_7⟩, ⟨hb_⟩⟩
                   ·
                    rw [if_neg c67] at H
                    exact absurd H (by simp)
                  ·
                   rw [if_neg c66] at H
                   exact absurd H (by simp)
                ·
                 rw [if_neg c62] at H
                 have c62b0 : decide (0 < (rd x7_3 x13_4)) = false := decide_eq_false c62
                 clear c62
                 have H' := Aside0.mk H
                 clear H
                 try go_wp2
                 have n0_ := Aside0.mk (Kd.R_drew HO_5.out)
                 have n1_ := Aside0.mk (Kd.R_drew HO_6.out)
                 have n2_ := Aside0.mk (Kd.R_drew HO_7.out)
                 have n3_ := Aside0.mk (below_drew1 HB.out)
                 clear HO_5
                 clear HO_6
                 clear HO_7
                 clear HB
                 have HO_5 := n0_
                 have HO_6 := n1_
                 have HO_7 := n2_
                 have HB := n3_
                 clear n0_ n1_ n2_ n3_
                 obtain ⟨Ao78, co78, eo78⟩ := Kd.R_slice HO_7.out
                 (first | subst eo78 | (injection eo78 with f1_ f2_ f3_; have f4_ := f1_.symm; have f5_ := f3_.symm; clear f1_ f2_ f3_; subst f4_; subst f5_))
                 have p590 : 0 ≤ (x13_4 : Int) := of_decide_eq_true (by assumption)
                 have q590 : x13_4 < (x7_3.length : Int) := of_decide_eq_true (by assumption)
                 obtain ⟨ad590, e590, hx590_0⟩ := Kd.at_int (Kd.R_reads' HO_7.out).2.2 x13_4 p590 q590
                 cases e590
                 replace p590 := eq_true p590
                 replace q590 := eq_true q590
                 refine start_ (n := 42) (S := fun w' => w'.cell? (ad590.add (x13_4).toNat) = some (.int .i64 (rd x7_3 x13_4))) (ds := []) #[false, false, false, false, false, false, false, false, false, false, false, false, false, false, false, false, false, false, false, false, false, false, false, false, false, false, false, false, false, false, false, false, false, false, false, false, false, false, false, false, false, false] (by kernel_rfl) rfl rfl (hx590_0) (fun hHeld => ?_); refine with_tabW hopmeshref14_Best.tab26 hopmeshref14_Best.bits26 (fun HT_ HW_ => ?_)
                 generalize wr.drew = w77 at HO_5 HO_6 HO_7 HB hx590_0 hHeld ⊢
                 refine pu_ HT_ 0 98 (bl 42 1) ?_
                 refine pu_ HT_ 1 99 (bl 42 3) ?_
                 refine pu_ HT_ 2 100 (bl 42 7) ?_
                 refine tk_ HT_ HW_ hHeld 3 101 (bl 42 15) ?_
                 refine pu_ HT_ 4 102 (bl 42 31) ?_
                 refine pu_ HT_ 5 103 (bl 42 63) ?_
                 refine of_ HT_ 6 104 (bl 42 127) ?_
                 refine of_ HT_ 7 105 (bl 42 255) ?_
                 refine of_ HT_ 8 106 (bl 42 511) ?_
                 refine of_ HT_ 9 107 (bl 42 1023) ?_
                 refine of_ HT_ 10 108 (bl 42 2047) ?_
                 refine of_ HT_ 11 109 (bl 42 4095) ?_
                 refine of_ HT_ 12 110 (bl 42 8191) ?_
                 refine of_ HT_ 13 111 (bl 42 16383) ?_
                 refine of_ HT_ 14 112 (bl 42 32767) ?_
                 refine of_ HT_ 15 113 (bl 42 65535) ?_
                 refine of_ HT_ 16 114 (bl 42 131071) ?_
                 refine of_ HT_ 17 115 (bl 42 262143) ?_
                 refine of_ HT_ 18 116 (bl 42 524287) ?_
                 refine of_ HT_ 19 117 (bl 42 1048575) ?_
                 refine of_ HT_ 20 118 (bl 42 2097151) ?_
                 refine of_ HT_ 21 119 (bl 42 4194303) ?_
                 refine of_ HT_ 22 120 (bl 42 8388607) ?_
                 refine of_ HT_ 23 121 (bl 42 16777215) ?_
                 refine of_ HT_ 24 122 (bl 42 33554431) ?_
                 refine of_ HT_ 25 123 (bl 42 67108863) ?_
                 refine of_ HT_ 26 124 (bl 42 134217727) ?_
                 refine of_ HT_ 27 125 (bl 42 268435455) ?_
                 refine of_ HT_ 28 126 (bl 42 536870911) ?_
                 refine of_ HT_ 29 127 (bl 42 1073741823) ?_
                 refine of_ HT_ 30 128 (bl 42 2147483647) ?_
                 refine of_ HT_ 31 129 (bl 42 4294967295) ?_
                 refine of_ HT_ 32 130 (bl 42 8589934591) ?_
                 refine of_ HT_ 33 131 (bl 42 17179869183) ?_
                 refine of_ HT_ 34 132 (bl 42 34359738367) ?_
                 refine of_ HT_ 35 133 (bl 42 68719476735) ?_
                 refine of_ HT_ 36 134 (bl 42 137438953471) ?_
                 refine of_ HT_ 37 135 (bl 42 274877906943) ?_
                 refine of_ HT_ 38 136 (bl 42 549755813887) ?_
                 refine of_ HT_ 39 137 (bl 42 1099511627775) ?_
                 refine of_ HT_ 40 138 (bl 42 2199023255551) ?_
                 refine pu_ HT_ 41 139 (bl 42 4398046511103) ?_
                 refine done_ (done_of HT_.out (by kernel_rfl)) ?_
                 try go_wp2
                 go_meet
                 case rel => exact ⟨_, (false), rl_, H', ⟨by have := HJ2.out; have := HK2.out; have := HK3.out; have := HK4.out; first | omega | exact Nat.le_refl _⟩, ⟨kr_ HO_5⟩, ⟨kr_ HO_6⟩, ⟨kr_ HO_7⟩, ⟨hb_⟩⟩
               ·
                rw [if_neg c61] at H
                exact absurd H (by simp)
              ·
               rw [if_neg c60] at H
               exact absurd H (by simp)
             case rest =>
              clear HC58
              try clear p2; try clear p5; try clear q5; try clear hx5; try clear c6; try clear c7; try clear p59; try clear q59; try clear hx59; try clear c60; try clear c61; try clear c62; try clear c62b0; try clear c66; try clear c67; try clear c71; try clear c71b0; try clear c71b1; try clear c72; try clear hx590_0; try clear hx591_0; try clear hx592_0; try clear hx593_0; try clear hx594_0; try clear p590; try clear p591; try clear p592; try clear p593; try clear p594; try clear q590; try clear q591; try clear q592; try clear q593; try clear q594
              (repeat clear HO_5); (repeat clear HO_6); (repeat clear HO_7); (repeat clear HB)
              obtain ⟨kq, x139_57, rfl, HA, HJ57, HO_5, HO_6, HO_7, HB⟩ := hcut
              cases kq with
              | zero => exact absurd HA.out (by simp [hopmeshref14_Best.j7])
              | succ kj57 =>
               have H := HA.out
               clear HA
               simp only [hopmeshref14_Best.j7] at H
               by_cases c79 : x139_57 = true
               ·
                subst c79
                have H1 : (hopmeshref14_Best.l4 kj57 a1 x5_3 x6_2 x7_3 x13_4 (wrap64 (x13_4 + 1))) = some r := by rw [if_pos rfl] at H; exact H
                clear H
                have H := H1
                clear H1
                have H' := Aside0.mk H
                clear H
                go_wp2
                go_roundg kj57
                case measure => have := HJ2.out; have := HK2.out; have := HK3.out; have := HK4.out; have := HJ57.out; omega
                case rel => exact ⟨(x13_4), (wrap64 (x13_4 + 1)), rl_, rl_, H', ⟨by have := HJ2.out; have := HK2.out; have := HK3.out; have := HK4.out; have := HJ57.out; omega⟩, ⟨kr_ HO_5⟩, ⟨kr_ HO_6⟩, ⟨kr_ HO_7⟩, ⟨hb_⟩⟩
               ·
                replace c79 := Bool.eq_false_iff.mpr c79
                subst c79
                have H1 : (hopmeshref14_Best.l4 kj57 a1 x5_3 x6_2 x7_3 x12_4 (wrap64 (x13_4 + 1))) = some r := by rw [if_neg (show ¬ (false = true) by decide)] at H; exact H
                clear H
                have H := H1
                clear H1
                have H' := Aside0.mk H
                clear H
                go_wp2
                go_roundg kj57
                case measure => have := HJ2.out; have := HK2.out; have := HK3.out; have := HK4.out; have := HJ57.out; omega
                case rel => exact ⟨(x12_4), (wrap64 (x13_4 + 1)), rl_, rl_, H', ⟨by have := HJ2.out; have := HK2.out; have := HK3.out; have := HK4.out; have := HJ57.out; omega⟩, ⟨kr_ HO_5⟩, ⟨kr_ HO_6⟩, ⟨kr_ HO_7⟩, ⟨hb_⟩⟩
            ·
             rw [if_neg c57] at H
             have c57b0 : decide (x13_4 < (x6_2.length : Int)) = false := decide_eq_false c57
             clear c57
             by_cases c80 : x12_4 < 0
             ·
              rw [if_pos c80] at H
              have c80b0 : decide (x12_4 < 0) = true := decide_eq_true c80
              clear c80
              obtain rfl := Option.some.inj H
              obtain ⟨Ao81, co81, eo81⟩ := Kd.R_slice HO_6.out
              subst eo81
              go_wp2
              go_ret
              exact ⟨_, by first | rfl | (simp [errW_none, errW_some] <;> rfl) | (simp [*, errW_none, errW_some] <;> rfl), kr_ HO_5, hb_⟩
             ·
              rw [if_neg c80] at H
              have c80b0 : decide (x12_4 < 0) = false := decide_eq_false c80
              clear c80
              by_cases c82 : 0 ≤ x12_4
              ·
               rw [if_pos c82] at H
               have c82b0 : decide (0 ≤ x12_4) = true := decide_eq_true c82
               clear c82
               by_cases c83 : x12_4 < (x6_2.length : Int)
               ·
                rw [if_pos c83] at H
                have c83b0 : decide (x12_4 < (x6_2.length : Int)) = true := decide_eq_true c83
                clear c83
                by_cases c84 : x5_3.length < 8796093022208
                ·
                 rw [if_pos c84] at H
                 have LMc84 := Aside0.mk c84
                 clear c84
                 obtain ⟨y598, hy598⟩ : ∃ y_ : List (S26), y_ = (x5_3 ++ [(⟨rdOf ByteArray.empty x6_2 x12_4⟩ : S26)]) := ⟨_, rfl⟩
                 replace H : (if x12_4 < (x7_3.length : Int) then (hopmeshref14_Best.l3 k4 a1 y598 x6_2 (x7_3.set (x12_4 : Int).toNat 0)) else (none)) = some r := by first | (rw [hy598]; with_reducible exact H) | (have H2_ := (Option.bind_some _ _).symm.trans H; rw [hy598]; with_reducible exact H2_) | (have H2_ := (Option.bind_some _ _).symm.trans H; with_reducible exact H2_) | with_reducible exact H | (rw [hy598]; exact H) | exact H
                 have Ny598 := Aside0.mk hy598
                 clear hy598
                 by_cases c85 : x12_4 < (x7_3.length : Int)
                 ·
                  rw [if_pos c85] at H
                  have c85b0 : decide (x12_4 < (x7_3.length : Int)) = true := decide_eq_true c85
                  clear c85
                  obtain ⟨y601, hy601⟩ : ∃ y_ : List Int, y_ = (x7_3.set (x12_4 : Int).toNat 0) := ⟨_, rfl⟩
                  replace H : (hopmeshref14_Best.l3 k4 a1 y598 x6_2 y601) = some r := by first | (rw [hy601]; with_reducible exact H) | (have H2_ := (Option.bind_some _ _).symm.trans H; rw [hy601]; with_reducible exact H2_) | (have H2_ := (Option.bind_some _ _).symm.trans H; with_reducible exact H2_) | with_reducible exact H | (rw [hy601]; exact H) | exact H
                  have Ny601 := Aside0.mk hy601
                  clear hy601
                  have H' := Aside0.mk H
                  clear H
                  obtain ⟨Ao87, co87, eo87⟩ := Kd.R_slice HO_6.out
                  subst eo87
                  have p597 : 0 ≤ (x12_4 : Int) := of_decide_eq_true (by assumption)
                  have q597 : x12_4 < (x6_2.length : Int) := of_decide_eq_true (by assumption)
                  obtain ⟨ad597, e597, hx597_0⟩ := Kd.at_string (Kd.R_reads' HO_6.out).2.2 x12_4 p597 q597
                  cases e597
                  replace p597 := eq_true p597
                  replace q597 := eq_true q597
                  go_wp2_with (first | ((with_reducible refine gate_builtin (b := .append) (xs := #[.tmp 143, .tmp 149]) rfl ?_); at_builtin; refine Kd.R_append k26 (w0 := w) w.heap.size rfl (.tmp 143) (.tmp 149) 22 26 (.agg #[(.string ⟨#[]⟩)]) 16 rfl Try.underlying22 info26 rfl (by decide) (by omega) (.slice Ao56 x5_3.length co56) x5_3 (⟨rdOf ByteArray.empty x6_2 x12_4⟩ : S26) [.string (rdOf ByteArray.empty x6_2 x12_4)] (fun _ => True) (fun _ => False) rfl rfl ?aP (fun _ hk => hk.elim) ?aF ?aO ?aB ?aS ?aL ?_; (case aP => exact k26_mkM _ _ _ (⟨rdOf ByteArray.empty x6_2 x12_4⟩ : S26)); (case aB => exact hb_); (case aF => exact (fun _ _ => trivial)); (case aO => exact (kr_ HO_5)); (case aS => exact (below_size hb_)); (case aL => have := LMc84.out; omega); intro v599 w88 ho hb hg hat; rw [← Ny598.out] at ho; have n0_ := Aside0.mk (Kd.R_over' (kr_ HO_6) (Kd.R_typed (kr_ HO_5)) (by decide) hg); have n1_ := Aside0.mk (Kd.R_over' (kr_ HO_7) (Kd.R_typed (kr_ HO_5)) (by decide) hg); have n2_ := Aside0.mk (hb); have n3_ := Aside0.mk (ho); clear HO_6; clear HO_7; clear HB; clear HO_5; have HO_6 := n0_; have HO_7 := n1_; have HB := n2_; have HO600 := n3_; clear n0_ n1_ n2_ n3_; clear ho hb hg hat; have p86 : 0 ≤ (x12_4 : Int) := of_decide_eq_true (by assumption); have q86 : (x12_4 : Int) < ((x7_3.length : Int) : Int) := of_decide_eq_true (by assumption); obtain ⟨go86, co86, eo86, gb86, gl86, cl86, HG86⟩ := Kd.R_form HO_7.out (by omega); (first | cases eo86 | (injection eo86 with ea_ en_ ec_; (first | subst ea_ | (injection ea_ with ea_; subst ea_)); subst ec_; clear en_)); have GB86 := Aside0.mk gb86; have GG86 := Aside0.mk HG86; clear gb86 gl86 HG86; obtain ⟨hx86_0, hf86_0⟩ := Kd.R_celln 0 HO_7.out (x12_4 : Int) p86 q86; replace p86 := eq_true p86; replace q86 := eq_true q86; obtain ⟨hy89_, hz89_⟩ := Kd.R_celln 0 HO_7.out (x12_4 : Int) (of_decide_eq_true (by assumption)) (of_decide_eq_true (by assumption)); have HP89 := Kd.R_putg HO_7.out (x12_4 : Int) 0) | ((with_reducible refine gate_store (t := 3) (p := 153) rfl ?_); refine store_event (t := 3) (p := 153) (v := ?vo_w90) (w1 := (w88.setCell ⟨go86, (x12_4 : Int).toNat, none⟩ (.int .i64 0))) ?hg ?ho ?hn ?hr ?_; (case ho => rfl); (case hg => rfl); (case hn => rfl); (case hr => first | (go_simp; done) | (go_simp; rfl)); intro w90 hw; have hg : w88.grownBy w90 (some go86) := (by rw [hw]; exact HP89.2); have hp_ : Kd.R (Kd.int .i64) 3 w90 w.heap.size (fun _ => True) (.slice (some ⟨go86, 0, none⟩) x7_3.length co86) y601 := (by rw [hw, Ny601.out]; exact HP89.1); clear HP89; have n0_ := Aside0.mk (Kd.R_over' (v := (.slice (some ⟨go86, 0, none⟩) x7_3.length co86)) (kr_ HO_6) (Kd.R_typed HO_7.out) (by decide) hg); have n1_ := Aside0.mk (hp_); have n2_ := Aside0.mk (Kd.R_over' (v := (.slice (some ⟨go86, 0, none⟩) x7_3.length co86)) (kr_ HO600) (Kd.R_typed HO_7.out) (by decide) hg); have n3_ := Aside0.mk ((by rw [hw]; exact below_set (HB.out) GB86.out : Below w.heap.size w w90)); clear HO_6; clear HO_7; clear HO600; clear HB; have HO_6 := n0_; have HO_7 := n1_; have HO600 := n2_; have HB := n3_; clear n0_ n1_ n2_ n3_; clear hg hw hp_))
                  go_roundg k4
                  case measure => have := HJ2.out; have := HK2.out; have := HK3.out; have := HK4.out; omega
                  case rel => exact ⟨(y598), (y601), H', ⟨by have := HJ2.out; have := HK2.out; have := HK3.out; have := HK4.out; omega⟩, ⟨kr_ HO600⟩, ⟨kr_ HO_6⟩, ⟨kr_ HO_7⟩, ⟨hb_⟩⟩
                 ·
                  rw [if_neg c85] at H
                  exact absurd H (by simp)
                ·
                 rw [if_neg c84] at H
                 exact absurd H (by simp)
               ·
                rw [if_neg c83] at H
                exact absurd H (by simp)
              ·
               rw [if_neg c82] at H
               exact absurd H (by simp)
         ·
          rw [if_neg c55] at H
          have c55b0 : decide ((x5_3.length : Int) < a1) = false := decide_eq_false c55
          clear c55
          obtain rfl := Option.some.inj H
          obtain ⟨Ao91, co91, eo91⟩ := Kd.R_slice HO_5.out
          subst eo91
          go_wp2
          go_ret
          exact ⟨_, by first | rfl | (simp [errW_none, errW_some] <;> rfl) | (simp [*, errW_none, errW_some] <;> rfl), kr_ HO_5, hb_⟩

end Go.Proofs.Ytmbbijhppgkdfaa.P14
