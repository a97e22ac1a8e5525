/- Plain law: ConflictAlone answers true. -/
import Derived.Test.YtibgcekekmphoaaTgood
import Derived.Test.YtibgcekekmphoaaP34Al
namespace Go.Proofs.Ytibgcekekmphoaa.P34
open Go.RowKit Go.Proofs.YtibgcekekmphoaaW.PrintWords Go.Proofs.YtibgcekekmphoaaW.PrintLast Go.Proofs.YtibgcekekmphoaaW.PrintMore
set_option linter.unusedVariables false
set_option linter.unusedSimpArgs false

theorem Together_eq (m no th : Int) (pw : List (List Int)) (ls : List S44) (mg : List Int) (a b c d e f : Int) (k : Nat) (hk : 1200 ≤ k) :
    conflict_Together.f k m pw no th ls mg a b c d e f = some (goodB m no th pw ls mg [⟨0, 0, a, b, 0⟩, ⟨0, 0, d, e, 0⟩]) := by
  unfold conflict_Together.f conflict_cell.f
  simp only [Option.bind_some]
  rw [Good_eq m no th pw ls mg _ (by simp) k hk]
  rfl
theorem good_nil (m no th : Int) (pw : List (List Int)) (ls : List S44) (mg : List Int) (c : chk m pw no th ls mg = 0) : goodB m no th pw ls mg [] = true := by
  unfold goodB anyFault
  simp [c]
theorem good_twice (m no th : Int) (pw : List (List Int)) (ls : List S44) (mg : List Int) (a b : Int) : goodB m no th pw ls mg [⟨0, 0, a, b, 0⟩, ⟨0, 0, a, b, 0⟩] = false := by
  have ht : touchesAny [(⟨0, 0, a, b, 0⟩ : S36), ⟨0, 0, a, b, 0⟩] ((0 : Nat) : Int) = true := by
    unfold touchesAny
    rw [List.any_eq_true]
    refine ⟨1, by simp, ?_⟩
    simp [touchB, rd_T36]
  have : anyFault m no th pw ls mg [⟨0, 0, a, b, 0⟩, ⟨0, 0, a, b, 0⟩] = true := by
    unfold anyFault
    rw [List.any_eq_true]
    refine ⟨0, by simp, ?_⟩
    unfold faultB
    rw [ht]
    simp
  unfold goodB
  rw [this]
  simp
theorem good_one (m no th : Int) (pw : List (List Int)) (ls : List S44) (mg : List Int) (x : S36) (c : chk m pw no th ls mg = 0) : goodB m no th pw ls mg [x] = usI no th ls mg (findIx ls x.f2 x.f3) := by
  have V := valid_of c
  have hx : rd_T36 [x] ((0 : Nat) : Int) = x := rfl
  have ht : touchesAny [x] ((0 : Nat) : Int) = false := by
    unfold touchesAny
    simp
  have hd : ∀ nd, dsum m pw [x] ((0 : Nat) : Int) nd = 0 := fun nd => by
    unfold dsum
    simp [ds]
  have hf : anyFault m no th pw ls mg [x] = faultB m no th pw ls mg [x] ((0 : Nat) : Int) := by
    unfold anyFault
    simp
  unfold goodB
  rw [hf, decide_eq_true c]
  unfold faultB
  rw [hx, ht, hd, hd]
  cases hu : usI no th ls mg (findIx ls x.f2 x.f3) with
  | false => rfl
  | true =>
    obtain ⟨⟨a0, a1⟩, b0, h1, h2⟩ := usI_true hu
    obtain ⟨_, e1, e2⟩ := findIx_at a0
    rw [e1, e2] at b0 h2
    obtain ⟨b1, _, _⟩ := findIx_at b0
    have q1 := V.margin a0 a1
    have q2 := V.margin b0 b1
    unfold hearsB
    rw [h1, h2, decide_eq_true (by omega), decide_eq_true (by omega)]
    rfl

theorem ConflictAlone_pure (m : Int) (pw : List (List Int)) (no th : Int) (ls : List S44) (mg : List Int) (hm : pw.length ≤ 9223372036854775807) (c0 c1 c2 c3 c4 : Int) : ∃ k, hopmeshlaw34_ConflictAlone.f k m pw no th ls mg c0 c1 c2 c3 c4 = some true := by
  refine ⟨pw.length + 5000, ?_⟩
  generalize hk : pw.length + 5000 = k
  obtain ⟨k, rfl⟩ : ∃ q, k = q + 1 := ⟨k - 1, by omega⟩
  have hj : hopmeshlaw34_ConflictAlone.j0 (k + 1) true m pw no th ls mg c0 c1 c2 c3 c4 = some true := by simp only [hopmeshlaw34_ConflictAlone.j0]; rfl
  unfold hopmeshlaw34_ConflictAlone.f hopmeshlaw34_awake.f
  simp only [Option.bind_some]
  rw [if_pos trivial, few_eq m no th pw ls mg hm (k + 1) (by omega)]
  simp only [Option.bind_some]
  cases hf : fewB pw ls mg with
  | false => simpa using hj
  | true =>
    rw [if_pos rfl, check_eq m no th pw ls mg (k + 1) (by omega)]
    simp only [Option.bind_some]
    by_cases c : chk m pw no th ls mg = 0
    · have hb : (chk m pw no th ls mg != 0) = false := bne_eq_false_iff_eq.mpr c
      rw [hb]
      simp only [hopmeshlaw34_ConflictAlone.j0]
      rw [if_neg (by simp), Index_eq m no th pw ls mg c2 c3 k (by omega), if_pos c, Good_eq m no th pw ls mg _ (by simp) k (by omega), Good_eq m no th pw ls mg _ (by simp) k (by omega), Together_eq m no th pw ls mg _ _ _ _ _ _ k (by omega), good_one m no th pw ls mg _ c, good_twice, good_nil m no th pw ls mg c]
      simp only [Option.bind_some]
      by_cases h0 : 0 ≤ findIx ls c2 c3
      · rw [if_pos (show findIx ls c2 c3 ≥ 0 from h0), Usable_eq m no th pw ls mg _ k (by omega) c]
        simp
      · rw [if_neg (show ¬ findIx ls c2 c3 ≥ 0 from h0)]
        have : usI no th ls mg (findIx ls c2 c3) = false := by unfold usI; rw [decide_eq_false (by omega)]; rfl
        rw [this]
        simp
    · have hb : (chk m pw no th ls mg != 0) = true := bne_iff_ne.mpr c
      rw [hb]
      exact hj
end Go.Proofs.Ytibgcekekmphoaa.P34
