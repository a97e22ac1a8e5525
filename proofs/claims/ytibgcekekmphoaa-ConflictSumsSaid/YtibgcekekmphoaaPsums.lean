/- Plain law: ConflictSums answers true. -/
import Derived.Test.YtibgcekekmphoaaTdist
import Derived.Test.YtibgcekekmphoaaP34D
import Derived.Test.YtibgcekekmphoaaP34S
namespace Go.Proofs.Ytibgcekekmphoaa.P34
open Go.RowKit Go.Proofs.YtibgcekekmphoaaW.PrintWords Go.Proofs.YtibgcekekmphoaaW.PrintLast Go.Proofs.YtibgcekekmphoaaW.PrintMore
set_option linter.unusedVariables false
set_option linter.unusedSimpArgs false

theorem refnode_eq (m no th : Int) (pw : List (List Int)) (ls : List S44) (mg : List Int) (x : Int) : hopmeshref34_node.f m pw no th ls mg x = some (nodeB m x) := by
  unfold hopmeshref34_node.f nodeB
  by_cases h : 0 ≤ x <;> simp [h]
theorem anyNoEnd_from (m : Int) (l : List S36) : anyNoEnd m l = anyFrom (fun j => noEnd m (rd_T36 l j)) l.length 0 := by
  unfold anyNoEnd
  rw [← range_any]
theorem refsum_l0 (m no th : Int) (pw : List (List Int)) (ls : List S44) (mg : List Int) (l : List S36) (i nd : Int) (h1 : (pw.length : Int) = m) (h2 : badLen m pw = false) (hn : nodeB m nd = true) (hl : l.length ≤ 1000000) (ha : anyNoEnd m l = false) (d : Nat) :
    ∀ (k : Nat) (t s : Int), 0 ≤ t → t + d = l.length → d < k → hopmeshref34_Sum.l0 k l i nd s t m pw no th ls mg = some (ds m pw l i nd d t s) := by
  have hn' := nodeB_iff.1 hn
  rw [anyNoEnd_from] at ha
  induction d with
  | zero =>
    intro k t s h0 hi hk
    obtain ⟨k, rfl⟩ : ∃ q, k = q + 1 := ⟨k - 1, by omega⟩
    simp only [hopmeshref34_Sum.l0, ds]
    rw [if_neg (show ¬ t < (l.length : Int) by omega)]
  | succ d ih =>
    intro k t s h0 hi hk
    obtain ⟨k, rfl⟩ : ∃ q, k = q + 1 := ⟨k - 1, by omega⟩
    simp only [hopmeshref34_Sum.l0, ds]
    rw [if_pos (show t < (l.length : Int) by omega)]
    by_cases c : t = i
    · rw [if_pos c, if_pos c, wrap_in (by omega) (by omega)]
      exact ih k (t + 1) s (by omega) (by omega) (by omega)
    · rw [if_neg c, if_neg c]
      have he : noEnd m (rd_T36 l t) = false := anyFrom_false ha t h0 (by omega)
      unfold noEnd at he
      simp only [Bool.or_eq_false_iff, Bool.not_eq_false'] at he
      obtain ⟨a, b⟩ := he
      have a' := nodeB_iff.1 a
      have b' := nodeB_iff.1 b
      have la := badLen_at h2 _ a'.1 (by omega : (rd_T36 l t).f2 < (pw.length : Int))
      have lb := badLen_at h2 _ b'.1 (by omega : (rd_T36 l t).f3 < (pw.length : Int))
      rw [if_pos h0, if_pos a'.1, if_pos (show (rd_T36 l t).f2 < (pw.length : Int) by omega), if_pos hn'.1, if_pos (show nd < ((rd_L1 pw (rd_T36 l t).f2).length : Int) by omega), if_pos b'.1, if_pos (show (rd_T36 l t).f3 < (pw.length : Int) by omega), if_pos (show nd < ((rd_L1 pw (rd_T36 l t).f3).length : Int) by omega), wrap_in (i := t + 1) (by omega) (by omega)]
      rw [ih k (t + 1) _ (by omega) (by omega) (by omega)]
      simp only [addE, a, b, if_true]
theorem refdist_l0 (m no th : Int) (pw : List (List Int)) (ls : List S44) (mg : List Int) (l : List S36) (i nd : Int) (hl : l.length ≤ 1000000) (d : Nat) :
    ∀ (k : Nat) (t : Int), 0 ≤ t → t + d = l.length → d < k → hopmeshref34_Disturbance.l0 k l i nd t m pw no th ls mg = sel (anyFrom (fun j => noEnd m (rd_T36 l j)) d t) (some 0) (hopmeshref34_Sum.f (k - d - 1) m pw no th ls mg l i nd) := by
  induction d with
  | zero =>
    intro k t h0 hi hk
    obtain ⟨k, rfl⟩ : ∃ q, k = q + 1 := ⟨k - 1, by omega⟩
    simp only [hopmeshref34_Disturbance.l0, anyFrom]
    rw [if_neg (show ¬ t < (l.length : Int) by omega)]
    show (hopmeshref34_Sum.f k m pw no th ls mg l i nd).bind (fun t => some t) = hopmeshref34_Sum.f k m pw no th ls mg l i nd
    cases hopmeshref34_Sum.f k m pw no th ls mg l i nd <;> rfl
  | succ d ih =>
    intro k t h0 hi hk
    obtain ⟨k, rfl⟩ : ∃ q, k = q + 1 := ⟨k - 1, by omega⟩
    simp only [hopmeshref34_Disturbance.l0, anyFrom]
    rw [if_pos (show t < (l.length : Int) by omega), if_pos h0, refnode_eq, refnode_eq]
    simp only [Option.bind_some, noEnd]
    cases nodeB m (rd_T36 l t).f2 with
    | false => rfl
    | true =>
      cases nodeB m (rd_T36 l t).f3 with
      | false => rfl
      | true =>
        rw [if_pos rfl, if_pos rfl, wrap_in (by omega) (by omega), ih k (t + 1) (by omega) (by omega) (by omega), show k + 1 - (d + 1) - 1 = k - d - 1 from by omega]
        rfl
theorem refDisturbance_eq (m no th : Int) (pw : List (List Int)) (ls : List S44) (mg : List Int) (l : List S36) (i nd : Int) (hl : l.length ≤ 100) (k : Nat) (hk : 3000 ≤ k) :
    hopmeshref34_Disturbance.f k m pw no th ls mg l i nd = some (distV m no th pw ls mg l i nd) := by
  obtain ⟨k, rfl⟩ : ∃ q, k = q + 1 := ⟨k - 1, by omega⟩
  have hj : ∀ b, hopmeshref34_Disturbance.j0 (k + 1) l i nd b m pw no th ls mg = if b = true then some 0 else hopmeshref34_Disturbance.l0 k l i nd 0 m pw no th ls mg := fun b => by simp only [hopmeshref34_Disturbance.j0]
  unfold hopmeshref34_Disturbance.f distV
  rw [refcheck_eq m no th pw ls mg (k + 1) (by omega), refnode_eq]
  simp only [Option.bind_some, hj]
  by_cases c0 : chk m pw no th ls mg = 0
  · rw [if_pos c0, if_pos c0]
    obtain ⟨_, _, hp, _⟩ := chk_zero c0
    obtain ⟨p1, p2, _⟩ := pErr_zero hp
    by_cases c1 : i < 0
    · rw [if_pos c1, if_pos c1]; rfl
    · rw [if_neg c1, if_neg c1]
      by_cases c2 : (l.length : Int) ≤ i
      · rw [if_pos (show i ≥ (l.length : Int) from c2), if_pos c2]; rfl
      · rw [if_neg (show ¬ i ≥ (l.length : Int) from c2), if_neg c2]
        cases c3 : nodeB m nd with
        | false => rfl
        | true =>
          rw [if_neg (show ¬ (!true) = true by simp), if_pos rfl, refdist_l0 m no th pw ls mg l i nd (by omega) l.length k 0 (by omega) (by omega) (by omega), ← anyNoEnd_from]
          cases c4 : anyNoEnd m l with
          | true => rfl
          | false =>
            rw [if_neg (show ¬ (false = true) by simp)]
            show hopmeshref34_Sum.f _ m pw no th ls mg l i nd = _
            unfold hopmeshref34_Sum.f dsum
            exact refsum_l0 m no th pw ls mg l i nd p1 p2 c3 (by omega) c4 l.length _ 0 0 (by omega) (by omega) (by omega)
  · rw [if_neg c0, if_neg c0, if_pos trivial]

theorem ConflictSums_pure (m : Int) (pw : List (List Int)) (no th : Int) (ls : List S44) (mg : List Int) (hm : pw.length ≤ 9223372036854775807) (l : List S36) (i nd : Int) : ∃ k, hopmeshlaw34_ConflictSums.f k m pw no th ls mg l i nd = some true := by
  refine ⟨pw.length + 5000, ?_⟩
  generalize hk : pw.length + 5000 = k
  obtain ⟨k, rfl⟩ : ∃ q, k = q + 1 := ⟨k - 1, by omega⟩
  have hj : ∀ b, hopmeshlaw34_ConflictSums.j0 (k + 1) l i nd b m pw no th ls mg = if b = true then some true else ((conflict_Disturbance.f k m pw no th ls mg l i nd).bind fun t => ((hopmeshref34_Disturbance.f k m pw no th ls mg l i nd).bind fun t' => some (t == t'))) := fun b => by simp only [hopmeshlaw34_ConflictSums.j0]
  unfold hopmeshlaw34_ConflictSums.f hopmeshlaw34_awake.f
  simp only [Option.bind_some]
  rw [if_pos trivial, few_eq m no th pw ls mg hm (k + 1) (by omega)]
  simp only [Option.bind_some, hj]
  cases hf : fewB pw ls mg with
  | false => rfl
  | true =>
    rw [if_pos rfl]
    by_cases hl : (l.length : Int) > 10
    · rw [decide_eq_true hl]; rfl
    · rw [decide_eq_false hl, if_neg (show ¬ (false = true) by simp), Disturbance_eq m no th pw ls mg l i nd (by omega) k (by omega), refDisturbance_eq m no th pw ls mg l i nd (by omega) k (by omega)]
      simp
end Go.Proofs.Ytibgcekekmphoaa.P34
