/- Plain laws: what the reference says of faults, of good sets and of pairs. -/
import Derived.Test.YtibgcekekmphoaaTshare
import Derived.Test.YtibgcekekmphoaaP34Ct
import Derived.Test.YtibgcekekmphoaaP34Tg
namespace Go.Proofs.Ytibgcekekmphoaa.P34
open Go.RowKit Go.Proofs.YtibgcekekmphoaaW.PrintWords Go.Proofs.YtibgcekekmphoaaW.PrintLast Go.Proofs.YtibgcekekmphoaaW.PrintMore
set_option linter.unusedVariables false
set_option linter.unusedSimpArgs false

theorem rnode_eq (m no th : Int) (pw : List (List Int)) (ls : List S44) (mg : List Int) (x : Int) : hopmeshref34_node.f m pw no th ls mg x = some (nodeB m x) := by
  unfold hopmeshref34_node.f nodeB
  by_cases h : 0 ≤ x <;> simp [h]
def isL (ls : List S44) (F T : Int) (t : Nat) : Bool := (rd_T44 ls (t : Int)).f0 == F && (rd_T44 ls (t : Int)).f1 == T
theorem rfind_l0 (m no th : Int) (pw : List (List Int)) (ls : List S44) (mg : List Int) (F T : Int) (hl : ls.length ≤ 1000) (d : Nat) :
    ∀ (k t : Nat), t + d = ls.length → d + 1 ≤ k → (∀ j : Nat, j < t → isL ls F T j = false) → hopmeshref31_Find.l0 k F T (t : Int) m pw no th ls mg = some (findIx ls F T) := by
  have e : findIx ls F T = idx (isL ls F T) ls.length := rfl
  induction d with
  | zero =>
    intro k t ht hk h
    obtain ⟨k, rfl⟩ : ∃ q, k = q + 1 := ⟨k - 1, by omega⟩
    simp only [hopmeshref31_Find.l0]
    rw [if_neg (by omega), e, idx_miss (fun j hj => h j (by omega))]
  | succ d ih =>
    intro k t ht hk h
    obtain ⟨k, rfl⟩ : ∃ q, k = q + 1 := ⟨k - 1, by omega⟩
    simp only [hopmeshref31_Find.l0]
    have next : isL ls F T t = false → hopmeshref31_Find.l0 k F T (wrap64 ((t : Int) + 1)) m pw no th ls mg = some (findIx ls F T) := fun hf => by
      rw [wrap_in (i := (t : Int) + 1) (by omega) (by omega)]
      refine ih k (t + 1) (by omega) (by omega) (fun j hj => ?_)
      by_cases c : j = t
      · rw [c]; exact hf
      · exact h j (by omega)
    rw [if_pos (by omega), if_pos (by omega)]
    by_cases h0 : (rd_T44 ls (t : Int)).f0 = F
    · rw [if_pos h0]
      by_cases h1 : (rd_T44 ls (t : Int)).f1 = T
      · rw [if_pos h1, e, idx_hit (k := t) (by omega) (by unfold isL; simp [h0, h1]) h]
      · rw [if_neg h1]; exact next (by unfold isL; simp [h1])
    · rw [if_neg h0]; exact next (by unfold isL; simp [h0])
theorem rfind_eq (m no th : Int) (pw : List (List Int)) (ls : List S44) (mg : List Int) (F T : Int) (hl : ls.length ≤ 1000) (k : Nat) (hk : 1001 ≤ k) : hopmeshref31_Find.f k m pw no th ls mg F T = some (findIx ls F T) := by
  unfold hopmeshref31_Find.f
  exact rfind_l0 m no th pw ls mg F T hl ls.length k 0 (by omega) (by omega) (fun j hj => absurd hj (by omega))
theorem rheard_eq (m no th : Int) (pw : List (List Int)) (ls : List S44) (mg : List Int) (s d : Int) : hopmeshref31_Heard.f m pw no th ls mg s d = some (heardB no th s d) := rfl

section
variable {m no th : Int} {pw : List (List Int)} {ls : List S44} {mg : List Int}
theorem rgood_eq (V : Valid m no th pw ls mg) (F T : Int) (k : Nat) (hk : 1001 ≤ k) : hopmeshref31_Good.f k m pw no th ls mg F T = some (usI no th ls mg (findIx ls F T)) := by
  have l1 := V.lsn
  have l2 := V.mgn
  unfold hopmeshref31_Good.f
  rw [rfind_eq m no th pw ls mg F T (by omega) k hk, rfind_eq m no th pw ls mg T F (by omega) k hk]
  simp only [Option.bind_some, rheard_eq]
  unfold usI
  by_cases h0 : 0 ≤ findIx ls F T
  · obtain ⟨b, e1, e2⟩ := findIx_at h0
    rw [if_pos (show findIx ls F T ≥ 0 from h0), e1, e2, decide_eq_true ⟨h0, b⟩]
    by_cases h1 : 0 ≤ findIx ls T F
    · obtain ⟨b2, _, _⟩ := findIx_at h1
      rw [if_pos (show findIx ls T F ≥ 0 from h1), if_pos h0, if_pos (by omega), decide_eq_true h1]
      cases heardB no th (rd mg (findIx ls F T)) 0 with
      | false => rfl
      | true => rw [if_pos rfl, if_pos h1, if_pos (by omega)]; rfl
    · rw [if_neg (show ¬ findIx ls T F ≥ 0 from h1), decide_eq_false h1]; rfl
  · rw [if_neg (show ¬ findIx ls F T ≥ 0 from h0), decide_eq_false (by omega)]; rfl
theorem power_eq (V : Valid m no th pw ls mg) {nd : Int} (hn : nodeB m nd = true) (x : Int) : hopmeshref34_power.f m pw no th ls mg x nd = some (shE m pw nd x) := by
  have hn' := nodeB_iff.1 hn
  unfold hopmeshref34_power.f P34.shE
  rw [rnode_eq, rnode_eq, hn]
  simp only [Option.bind_some]
  cases hx : nodeB m x with
  | false => rfl
  | true =>
    have hx' := nodeB_iff.1 hx
    have := V.len
    have hr := badLen_at V.bl x hx'.1 (by omega)
    simp only [if_true]
    rw [if_pos hx'.1, if_pos (by omega), if_pos hn'.1, if_pos (by omega)]

/-- What is left of the ring's answer. -/
def endB (m no th : Int) (pw : List (List Int)) (ls : List S44) (mg : List Int) (F T sa sb : Int) : Bool := !(heardB no th (rd mg (findIx ls F T)) sa && heardB no th (rd mg (findIx ls T F)) sb)
def tch (l : List S36) (i : Int) (j : Int) : Bool := decide (j ≠ i) && touchB (rd_T36 l i) (rd_T36 l j)
theorem touchesAny_from (l : List S36) (i : Int) : touchesAny l i = anyFrom (tch l i) l.length 0 := by
  rw [← range_any]
  rfl
set_option maxHeartbeats 2000000 in
theorem fault_l0 (V : Valid m no th pw ls mg) (l : List S36) (hl : l.length ≤ 50) (i : Int) (hi0 : 0 ≤ i) (hi1 : i < (l.length : Int))
    (us : usI no th ls mg (findIx ls (rd_T36 l i).f2 (rd_T36 l i).f3) = true) (z0 z1 z4 : Int) (d : Nat) :
    ∀ (k t : Nat) (sa sb : Int), t + d = l.length → 2 * d + 1100 ≤ k → 0 ≤ sa → sa ≤ 137438953472 * (t : Int) → 0 ≤ sb → sb ≤ 137438953472 * (t : Int) →
    hopmeshref34_Fault.l0 k l i sa sb (t : Int) m pw no th ls mg z0 z1 (rd_T36 l i).f2 (rd_T36 l i).f3 z4 =
      some (anyFrom (tch l i) d (t : Int) || endB m no th pw ls mg (rd_T36 l i).f2 (rd_T36 l i).f3 (sa + sx (share m pw (rd_T36 l i).f3) i (l.drop t) (t : Int)) (sb + sx (share m pw (rd_T36 l i).f2) i (l.drop t) (t : Int))) := by
  obtain ⟨n1, n2, _, a, b⟩ := us_nodes V us
  have l1 := V.lsn
  have l2 := V.mgn
  obtain ⟨c, hc⟩ : ∃ c, c = rd_T36 l i := ⟨_, rfl⟩
  have ht_ : ∀ j, tch l i j = (decide (j ≠ i) && touchB c (rd_T36 l j)) := fun j => by rw [hc]; rfl
  rw [← hc] at n1 n2 a b ⊢
  induction d with
  | zero =>
    intro k t sa sb ht hk _ _ _ _
    obtain ⟨k, rfl⟩ : ∃ q, k = q + 1 := ⟨k - 1, by omega⟩
    simp only [hopmeshref34_Fault.l0]
    rw [if_neg (by omega), rfind_eq m no th pw ls mg _ _ (by omega) k (by omega), rfind_eq m no th pw ls mg _ _ (by omega) k (by omega), List.drop_of_length_le (by omega)]
    simp only [Option.bind_some, rheard_eq, sx, Int.add_zero, anyFrom, Bool.false_or, endB]
    rw [if_pos a.1, if_pos (by omega)]
    cases heardB no th (rd mg (findIx ls c.f2 c.f3)) sa with
    | false => rfl
    | true =>
      simp only [if_true]
      rw [if_pos b.1, if_pos (by omega)]
      simp
  | succ d ih =>
    intro k t sa sb ht hk h0 h1 h2 h3
    have hlt : t < l.length := by omega
    obtain ⟨k, rfl⟩ : ∃ q, k = q + 1 := ⟨k - 1, by omega⟩
    have hr : rd_T36 l (t : Int) = l[t] := by simp [rd_T36, List.getD_eq_getElem?_getD, List.getElem?_eq_getElem hlt]
    rw [List.drop_eq_getElem_cons hlt]
    simp only [hopmeshref34_Fault.l0, sx, anyFrom]
    rw [if_pos (by omega), ht_, hr]
    have HW : Aside0 (wrap64 ((t : Int) + 1) = ((t + 1 : Nat) : Int)) := ⟨by rw [wrap_in (i := (t : Int) + 1) (by omega) (by omega)]; omega⟩
    by_cases e : (t : Int) = i
    · rw [if_pos e, if_pos e, if_pos e, decide_eq_false (by simpa using e), HW.out, ih k (t + 1) sa sb (by omega) (by omega) h0 (by omega) h2 (by omega)]
      simp only [Bool.false_and, Bool.false_or, Int.zero_add]
      rw [show ((t + 1 : Nat) : Int) = (t : Int) + 1 from by omega]
    · rw [if_neg e, if_neg e, if_neg e, decide_eq_true (by simpa using e), if_pos (by omega), Bool.true_and]
      have j1 : ∀ (k2 : Nat) (hk2 : 2 * d + 1101 ≤ k2) (tb : Bool), tb = touchB c l[t] → hopmeshref34_Fault.j1 k2 l i sa sb (t : Int) tb m pw no th ls mg z0 z1 c.f2 c.f3 z4 =
          some ((touchB c l[t] || anyFrom (tch l i) d ((t : Int) + 1)) || endB m no th pw ls mg c.f2 c.f3 (sa + (share m pw c.f3 l[t] + sx (share m pw c.f3) i (l.drop (t + 1)) ((t : Int) + 1))) (sb + (share m pw c.f2 l[t] + sx (share m pw c.f2) i (l.drop (t + 1)) ((t : Int) + 1)))) := fun k2 hk2 tb htb => by
        obtain ⟨k2, rfl⟩ : ∃ q, k2 = q + 1 := ⟨k2 - 1, by omega⟩
        simp only [hopmeshref34_Fault.j1, hr]
        cases hb : touchB c l[t] with
        | true => rw [htb, hb]; rfl
        | false =>
          have s2 := V.share n1 l[t]
          have s3 := V.share n2 l[t]
          have e22 := V.shE n1 l[t].f2; have e23 := V.shE n1 l[t].f3; have e32 := V.shE n2 l[t].f2; have e33 := V.shE n2 l[t].f3
          rw [htb, hb, if_neg (by simp), if_pos (by omega), if_pos (by omega), power_eq V n2, power_eq V n2, power_eq V n1, power_eq V n1]
          simp only [Option.bind_some]
          rw [HW.out, wrap_in (i := sa + shE m pw c.f3 l[t].f2) (by omega) (by omega), wrap_in (i := sa + shE m pw c.f3 l[t].f2 + shE m pw c.f3 l[t].f3) (by omega) (by omega), wrap_in (i := sb + shE m pw c.f2 l[t].f2) (by omega) (by omega), wrap_in (i := sb + shE m pw c.f2 l[t].f2 + shE m pw c.f2 l[t].f3) (by omega) (by omega)]
          unfold share at s2 s3
          rw [ih k2 (t + 1) _ _ (by omega) (by omega) (by omega) (by omega) (by omega) (by omega)]
          unfold share
          rw [show ((t + 1 : Nat) : Int) = (t : Int) + 1 from by omega]
          simp only [Bool.false_or, Int.add_assoc]
      unfold touchB at j1
      by_cases q1 : l[t].f2 = c.f2
      · rw [if_pos q1]
        exact j1 k (by omega) true (by simp [q1])
      · rw [if_neg q1]
        by_cases q2 : l[t].f2 = c.f3
        · rw [if_pos q2]
          exact j1 k (by omega) true (by simp [q2])
        · rw [if_neg q2]
          by_cases q3 : l[t].f3 = c.f2
          · rw [if_pos q3]
            exact j1 k (by omega) true (by simp [q3])
          · rw [if_neg q3]
            refine j1 k (by omega) _ ?_
            rw [beq_eq_false_iff_ne.mpr (Ne.symm q1), beq_eq_false_iff_ne.mpr (Ne.symm q3), beq_eq_false_iff_ne.mpr (Ne.symm q2), Bool.beq_comm]
            rfl
theorem Fault_eq (c : chk m pw no th ls mg = 0) (l : List S36) (hl : l.length ≤ 50) (i : Int) (hi0 : 0 ≤ i) (hi1 : i < (l.length : Int)) (k : Nat) (hk : 1300 ≤ k) :
    hopmeshref34_Fault.f k m pw no th ls mg l i = some (faultB m no th pw ls mg l i) := by
  have V := valid_of c
  unfold hopmeshref34_Fault.f faultB
  rw [if_pos hi0, if_pos hi1, rgood_eq V _ _ k (by omega)]
  simp only [Option.bind_some]
  cases us : usI no th ls mg (findIx ls (rd_T36 l i).f2 (rd_T36 l i).f3) with
  | false => rfl
  | true =>
    have h0 := fault_l0 V l hl i hi0 hi1 us (rd_T36 l i).f0 (rd_T36 l i).f1 (rd_T36 l i).f4 l.length k 0 0 0 (by omega) (by omega) (by omega) (by omega) (by omega) (by omega)
    rw [show ((0 : Nat) : Int) = 0 from rfl] at h0
    rw [if_pos rfl, h0]
    obtain ⟨n1, n2, _, a, b⟩ := us_nodes V us
    have ma := V.margin a.1 a.2
    have mb := V.margin b.1 b.2
    rw [dsum_eq V n1 l i (by omega), dsum_eq V n2 l i (by omega), touchesAny_from]
    have b1 := sx_bounds (share m pw (rd_T36 l i).f3) 137438953472 (by omega) i l (fun x _ => V.share n2 x) 0
    have b2 := sx_bounds (share m pw (rd_T36 l i).f2) 137438953472 (by omega) i l (fun x _ => V.share n1 x) 0
    unfold endB hearsB
    simp only [List.drop_zero, Int.zero_add, show ((0 : Nat) : Int) = 0 from rfl]
    rw [decide_eq_true (by omega), decide_eq_true (by omega)]
    simp only [Bool.true_and, Bool.not_true, Bool.false_or]
    cases anyFrom (tch l i) l.length 0 <;> cases heardB no th (rd mg (findIx ls (rd_T36 l i).f2 (rd_T36 l i).f3)) (sx (share m pw (rd_T36 l i).f3) i l 0) <;> cases heardB no th (rd mg (findIx ls (rd_T36 l i).f3 (rd_T36 l i).f2)) (sx (share m pw (rd_T36 l i).f2) i l 0) <;> rfl
theorem rfirst_l0 (c : chk m pw no th ls mg = 0) (l : List S36) (hl : l.length ≤ 50) (d : Nat) :
    ∀ (k : Nat) (i : Nat), i + d = l.length → 1400 + d ≤ k → (∀ j : Nat, j < i → faultB m no th pw ls mg l (j : Int) = false) → hopmeshref34_First.l0 k l (i : Int) m pw no th ls mg = some (idx (fun j => faultB m no th pw ls mg l (j : Int)) l.length, anyFault m no th pw ls mg l) := by
  induction d with
  | zero =>
    intro k i hi hk ha
    obtain ⟨k, rfl⟩ : ∃ q, k = q + 1 := ⟨k - 1, by omega⟩
    simp only [hopmeshref34_First.l0]
    rw [if_neg (show ¬ (i : Int) < (l.length : Int) by omega), idx_miss (fun j hj => ha j (by omega))]
    have : anyFault m no th pw ls mg l = false := by
      unfold anyFault
      rw [List.any_eq_false]
      intro x hx
      rw [ha x (by have := List.mem_range.1 hx; omega)]
      simp
    rw [this]
  | succ d ih =>
    intro k i hi hk ha
    obtain ⟨k, rfl⟩ : ∃ q, k = q + 1 := ⟨k - 1, by omega⟩
    simp only [hopmeshref34_First.l0]
    rw [if_pos (show (i : Int) < (l.length : Int) by omega), Fault_eq c l hl (i : Int) (by omega) (by omega) k (by omega)]
    simp only [Option.bind_some]
    cases hf : faultB m no th pw ls mg l (i : Int) with
    | true =>
      rw [if_pos rfl, idx_hit (k := i) (by omega) hf ha]
      have : anyFault m no th pw ls mg l = true := by
        unfold anyFault
        rw [List.any_eq_true]
        exact ⟨i, List.mem_range.2 (by omega), hf⟩
      rw [this]
    | false =>
      rw [if_neg (by simp), wrap_in (by omega) (by omega), show (i : Int) + 1 = ((i + 1 : Nat) : Int) from by omega]
      refine ih k (i + 1) (by omega) (by omega) (fun j hj => ?_)
      by_cases e : j = i
      · rw [e]; exact hf
      · exact ha j (by omega)
end
theorem rFirst_eq (m no th : Int) (pw : List (List Int)) (ls : List S44) (mg : List Int) (l : List S36) (hl : l.length ≤ 50) (k : Nat) (hk : 2000 ≤ k) :
    hopmeshref34_First.f k m pw no th ls mg l = some (if chk m pw no th ls mg = 0 then (idx (fun j => faultB m no th pw ls mg l (j : Int)) l.length, anyFault m no th pw ls mg l) else (-1, false)) := by
  unfold hopmeshref34_First.f
  rw [refcheck_eq m no th pw ls mg k (by omega)]
  simp only [Option.bind_some]
  by_cases c : chk m pw no th ls mg = 0
  · rw [if_pos c, if_pos c]
    exact rfirst_l0 c l hl l.length k 0 (by omega) (by omega) (fun j hj => absurd hj (by omega))
  · rw [if_neg c, if_neg c]
theorem rGood_eq (m no th : Int) (pw : List (List Int)) (ls : List S44) (mg : List Int) (l : List S36) (hl : l.length ≤ 50) (k : Nat) (hk : 2000 ≤ k) :
    hopmeshref34_Good.f k m pw no th ls mg l = some (goodB m no th pw ls mg l) := by
  unfold hopmeshref34_Good.f goodB
  rw [rFirst_eq m no th pw ls mg l hl k hk, refcheck_eq m no th pw ls mg k (by omega)]
  simp only [Option.bind_some]
  by_cases c : chk m pw no th ls mg = 0
  · rw [if_pos c, if_pos c, decide_eq_true c]; rfl
  · rw [if_neg c, decide_eq_false c]; rfl
theorem iTogether_eq (m no th : Int) (pw : List (List Int)) (ls : List S44) (mg : List Int) (a b c d e f : Int) (k : Nat) (hk : 1200 ≤ k) :
    conflict_Together.f k m pw no th ls mg a b c d e f = some (goodB m no th pw ls mg [⟨0, 0, a, b, 0⟩, ⟨0, 0, d, e, 0⟩]) := by
  unfold conflict_Together.f conflict_cell.f
  simp only [Option.bind_some]
  rw [Good_eq m no th pw ls mg _ (by simp) k hk]
  rfl
theorem rTogether_eq (m no th : Int) (pw : List (List Int)) (ls : List S44) (mg : List Int) (a b c d e f : Int) (k : Nat) (hk : 2000 ≤ k) :
    hopmeshref34_Together.f k m pw no th ls mg a b c d e f = some (goodB m no th pw ls mg [⟨0, 0, a, b, 0⟩, ⟨0, 0, d, e, 0⟩]) := by
  have hc : hopmeshref34_Cells.f k [⟨a, b, c⟩, ⟨d, e, f⟩] = some [⟨0, 0, a, b, 0⟩, ⟨0, 0, d, e, 0⟩] := by
    obtain ⟨k, rfl⟩ : ∃ q, k = q + 3 := ⟨k - 3, by omega⟩
    unfold hopmeshref34_Cells.f
    show hopmeshref34_Cells.l0 (k + 3) [⟨a, b, c⟩, ⟨d, e, f⟩] [] 0 = some _
    kernel_rfl
  unfold hopmeshref34_Together.f
  rw [hc]
  simp only [Option.bind_some]
  rw [rGood_eq m no th pw ls mg _ (by simp) k hk]
  rfl
end Go.Proofs.Ytibgcekekmphoaa.P34
