/- Plain laws: the disturbance of a cell, the program's and the reference's alike; Few. -/
import Derived.Test.YtibgcekekmphoaaTnet
import Derived.Test.YtibgcekekmphoaaGdist
import Derived.Test.YtibgcekekmphoaaP34I
namespace Go.Proofs.Ytibgcekekmphoaa.P34
open Go.RowKit Go.Proofs.YtibgcekekmphoaaW.PrintWords Go.Proofs.YtibgcekekmphoaaW.PrintLast Go.Proofs.YtibgcekekmphoaaW.PrintMore
set_option linter.unusedVariables false
set_option linter.unusedSimpArgs false

def fewB (pw : List (List Int)) (ls : List S44) (mg : List Int) : Bool := !anyFrom (fun j => decide (40 < (rd_L1 pw j).length)) pw.length 0 && (decide (pw.length ≤ 8) && (decide (ls.length ≤ 60) && decide (mg.length ≤ 60)))
theorem few_loop (m no th : Int) (pw : List (List Int)) (ls : List S44) (mg : List Int) (hm : pw.length ≤ 9223372036854775807) (d : Nat) : ∀ (k : Nat) (i : Int), 0 ≤ i → i + d = pw.length → d < k →
    hopmeshref31_Few.l0 k i m pw no th ls mg = some (!anyFrom (fun j => decide (40 < (rd_L1 pw j).length)) d i && (decide (pw.length ≤ 8) && (decide (ls.length ≤ 60) && decide (mg.length ≤ 60)))) := by
  induction d with
  | zero =>
    intro k i h0 hi hk
    obtain ⟨k, rfl⟩ : ∃ q, k = q + 1 := ⟨k - 1, by omega⟩
    simp only [hopmeshref31_Few.l0, anyFrom]
    rw [if_neg (show ¬ i < (pw.length : Int) by omega)]
    by_cases a : pw.length ≤ 8
    · rw [if_pos (show (pw.length : Int) ≤ 8 by omega), decide_eq_true a]
      by_cases b : ls.length ≤ 60
      · rw [if_pos (show (ls.length : Int) ≤ 60 by omega), decide_eq_true b]
        have : decide ((mg.length : Int) ≤ 60) = decide (mg.length ≤ 60) := by rw [decide_eq_decide]; omega
        rw [this]; rfl
      · rw [if_neg (show ¬ (ls.length : Int) ≤ 60 by omega), decide_eq_false b]; rfl
    · rw [if_neg (show ¬ (pw.length : Int) ≤ 8 by omega), decide_eq_false a]; rfl
  | succ d ih =>
    intro k i h0 hi hk
    obtain ⟨k, rfl⟩ : ∃ q, k = q + 1 := ⟨k - 1, by omega⟩
    simp only [hopmeshref31_Few.l0, anyFrom]
    rw [if_pos (show i < (pw.length : Int) by omega), if_pos h0]
    by_cases a : 40 < (rd_L1 pw i).length
    · rw [if_pos (show ((rd_L1 pw i).length : Int) > 40 by omega), decide_eq_true a]; rfl
    · rw [if_neg (show ¬ ((rd_L1 pw i).length : Int) > 40 by omega), decide_eq_false a, wrap_in (by omega) (by omega), ih k (i + 1) (by omega) (by omega) (by omega), Bool.false_or]
theorem few_eq (m no th : Int) (pw : List (List Int)) (ls : List S44) (mg : List Int) (hm : pw.length ≤ 9223372036854775807) (k : Nat) (hk : pw.length < k) : hopmeshref31_Few.f k m pw no th ls mg = some (fewB pw ls mg) := by
  unfold hopmeshref31_Few.f fewB
  exact few_loop m no th pw ls mg hm pw.length k 0 (by omega) (by omega) hk
theorem fewB_small {pw : List (List Int)} {ls : List S44} {mg : List Int} (h : fewB pw ls mg = true) : pw.length ≤ 8 ∧ ls.length ≤ 60 ∧ mg.length ≤ 60 := by
  unfold fewB at h
  simp only [Bool.and_eq_true, decide_eq_true_eq] at h
  exact h.2

/-- One end's share. -/
def addE (m : Int) (pw : List (List Int)) (nd s x : Int) : Int := if nodeB m x = true then wrap64 (s + rd (rd_L1 pw x) nd) else s
/-- The sum over the cells from t on, but for the one with the index i. -/
def ds (m : Int) (pw : List (List Int)) (l : List S36) (i nd : Int) : Nat → Int → Int → Int
  | 0, _, s => s
  | d + 1, t, s => if t = i then ds m pw l i nd d (t + 1) s else ds m pw l i nd d (t + 1) (addE m pw nd (addE m pw nd s (rd_T36 l t).f2) (rd_T36 l t).f3)
def dsum (m : Int) (pw : List (List Int)) (l : List S36) (i nd : Int) : Int := ds m pw l i nd l.length 0 0

theorem nodeB_iff {m x : Int} : nodeB m x = true ↔ 0 ≤ x ∧ x < m := by unfold nodeB; simp

theorem dist_l1 (m no th : Int) (pw : List (List Int)) (ls : List S44) (mg : List Int) (l : List S36) (i nd : Int) (h1 : (pw.length : Int) = m) (h2 : badLen m pw = false) (hn : nodeB m nd = true) (t F T s : Int) (k : Nat) (hk : 3 ≤ k) (n : Int) (ht : -9223372036854775808 ≤ t + 1 ∧ t + 1 ≤ 9223372036854775807) :
    conflict_disturbance.l1 k i nd s l n t [F, T] 2 0 m pw no th ls mg = conflict_disturbance.l0 (k - 3) i nd (addE m pw nd (addE m pw nd s F) T) l n (t + 1) m pw no th ls mg := by
  obtain ⟨k, rfl⟩ : ∃ q, k = q + 3 := ⟨k - 3, by omega⟩
  have hn' := nodeB_iff.1 hn
  have w1 : wrap64 (0 + 1) = 1 := by unfold wrap64; omega
  have w2 : wrap64 (1 + 1) = 2 := by unfold wrap64; omega
  have e0 : rd [F, T] 0 = F := rfl
  have e1 : rd [F, T] 1 = T := rfl
  have st : ∀ (x s : Int) (j : Int) (k : Nat), 0 ≤ j → j < 2 → rd [F, T] j = x → conflict_disturbance.l1 (k + 1) i nd s l n t [F, T] 2 j m pw no th ls mg = conflict_disturbance.l1 k i nd (addE m pw nd s x) l n t [F, T] 2 (wrap64 (j + 1)) m pw no th ls mg := by
    intro x s j k hj0 hj1 hx
    simp only [conflict_disturbance.l1]
    rw [if_pos hj1, if_pos hj0, if_pos (show j < (([F, T] : List Int).length : Int) by simpa using hj1), hx, isNode_eq]
    simp only [Option.bind_some]
    unfold addE
    by_cases hx2 : nodeB m x = true
    · have hx3 := nodeB_iff.1 hx2
      have hl := badLen_at h2 x hx3.1 (by omega)
      rw [if_pos hx2, if_pos hx2, if_pos hx3.1, if_pos (show x < (pw.length : Int) by omega), if_pos hn'.1, if_pos (show nd < ((rd_L1 pw x).length : Int) by omega)]
    · rw [if_neg hx2, if_neg hx2]
  rw [show k + 3 = (k + 2) + 1 from rfl, st F s 0 (k + 2) (by omega) (by omega) e0, w1, show k + 2 = (k + 1) + 1 from rfl, st T _ 1 (k + 1) (by omega) (by omega) e1, w2]
  simp only [conflict_disturbance.l1]
  rw [if_neg (show ¬ (2 : Int) < 2 by omega), wrap_in ht.1 ht.2]
  rfl

theorem dist_l0 (m no th : Int) (pw : List (List Int)) (ls : List S44) (mg : List Int) (l : List S36) (i nd : Int) (h1 : (pw.length : Int) = m) (h2 : badLen m pw = false) (hn : nodeB m nd = true) (hl : l.length ≤ 1000000) (d : Nat) :
    ∀ (k : Nat) (t s : Int), 0 ≤ t → t + d = l.length → 4 * d < k → conflict_disturbance.l0 k i nd s l (l.length : Int) t m pw no th ls mg = some (ds m pw l i nd d t s) := by
  induction d with
  | zero =>
    intro k t s h0 hi hk
    obtain ⟨k, rfl⟩ : ∃ q, k = q + 1 := ⟨k - 1, by omega⟩
    simp only [conflict_disturbance.l0, ds]
    rw [if_neg (show ¬ t < (l.length : Int) by omega)]
  | succ d ih =>
    intro k t s h0 hi hk
    obtain ⟨k, rfl⟩ : ∃ q, k = q + 1 := ⟨k - 1, by omega⟩
    simp only [conflict_disturbance.l0, ds]
    rw [if_pos (show t < (l.length : Int) by omega), if_pos h0, if_pos (show t < (l.length : Int) by omega)]
    by_cases c : t = i
    · rw [if_pos c, if_pos c, wrap_in (by omega) (by omega)]
      exact ih k (t + 1) s (by omega) (by omega) (by omega)
    · rw [if_neg c, if_neg c]
      simp only [Option.bind_some]
      rw [show (([(rd_T36 l t).f2, (rd_T36 l t).f3] : List Int).length : Int) = 2 from rfl, dist_l1 m no th pw ls mg l i nd h1 h2 hn t _ _ s k (by omega) _ ⟨by omega, by omega⟩]
      exact ih _ (t + 1) _ (by omega) (by omega) (by omega)

theorem disturbance_eq (m no th : Int) (pw : List (List Int)) (ls : List S44) (mg : List Int) (l : List S36) (i nd : Int) (h1 : (pw.length : Int) = m) (h2 : badLen m pw = false) (hn : nodeB m nd = true) (hl : l.length ≤ 1000000) (k : Nat) (hk : 4 * l.length < k) :
    conflict_disturbance.f k m pw no th ls mg l i nd = some (dsum m pw l i nd) := by
  unfold conflict_disturbance.f dsum
  exact dist_l0 m no th pw ls mg l i nd h1 h2 hn hl l.length k 0 0 (by omega) (by omega) hk

theorem chk_zero {m no th : Int} {pw : List (List Int)} {ls : List S44} {mg : List Int} (h : chk m pw no th ls mg = 0) :
    2 ≤ m ∧ m ≤ 32 ∧ pErr m pw = 0 ∧ 0 ≤ no ∧ no ≤ 68719476736 ∧ 1000 ≤ th ∧ th ≤ 100000 ∧ ls.length ≤ 128 ∧ mg.length = ls.length ∧ fe (lErr m pw ls mg) ls.length 0 = 0 := by
  unfold chk at h
  split at h
  · cases h
  · rename_i c0
    split at h
    · rename_i c1; exact absurd h c1
    · rename_i c1
      split at h
      · cases h
      · rename_i c2
        split at h
        · cases h
        · rename_i c3
          split at h
          · cases h
          · rename_i c4
            exact ⟨by omega, by omega, by omega, by omega, by omega, by omega, by omega, by omega, by omega, h⟩

def distV (m no th : Int) (pw : List (List Int)) (ls : List S44) (mg : List Int) (l : List S36) (i nd : Int) : Int :=
  if chk m pw no th ls mg = 0 then (if i < 0 then 0 else if (l.length : Int) ≤ i then 0 else if nodeB m nd = true then (if anyNoEnd m l = true then 0 else dsum m pw l i nd) else 0) else 0
theorem Disturbance_eq (m no th : Int) (pw : List (List Int)) (ls : List S44) (mg : List Int) (l : List S36) (i nd : Int) (hl : l.length ≤ 100) (k : Nat) (hk : 1000 ≤ k) :
    conflict_Disturbance.f k m pw no th ls mg l i nd = some (distV m no th pw ls mg l i nd) := by
  unfold conflict_Disturbance.f distV
  rw [check_eq m no th pw ls mg k (by omega)]
  simp only [Option.bind_some]
  by_cases c0 : chk m pw no th ls mg = 0
  · rw [if_pos c0, if_pos c0]
    obtain ⟨_, _, hp, _⟩ := chk_zero c0
    obtain ⟨p1, p2, _⟩ := pErr_zero hp
    by_cases c1 : i < 0
    · rw [if_pos c1, if_pos c1]
    · rw [if_neg c1, if_neg c1]
      by_cases c2 : (l.length : Int) ≤ i
      · rw [if_pos c2, if_pos c2]
      · rw [if_neg c2, if_neg c2]
        by_cases c3 : nodeB m nd = true
        · rw [if_pos c3, if_pos c3]
          by_cases c4 : anyNoEnd m l = true
          · rw [if_pos c4, if_pos c4]
          · rw [if_neg c4, if_neg c4]
            exact disturbance_eq m no th pw ls mg l i nd p1 p2 c3 (by omega) k (by omega)
        · rw [if_neg c3, if_neg c3]
  · rw [if_neg c0, if_neg c0]
end Go.Proofs.Ytibgcekekmphoaa.P34
