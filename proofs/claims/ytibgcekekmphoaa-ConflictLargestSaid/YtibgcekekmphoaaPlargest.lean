/- Plain law: ConflictLargest answers true. -/
import Derived.Test.YtibgcekekmphoaaTlarg
import Derived.Test.YtibgcekekmphoaaP34La
namespace Go.Proofs.Ytibgcekekmphoaa.P34
open Go.RowKit Go.Proofs.YtibgcekekmphoaaW.PrintWords Go.Proofs.YtibgcekekmphoaaW.PrintLast Go.Proofs.YtibgcekekmphoaaW.PrintMore
set_option linter.unusedVariables false
set_option linter.unusedSimpArgs false

/-- What conflict.Largest answers for a valid network. -/
def best (P : List S36 → Bool) (l1 : List S44) : List Int := (asc l1.length 0).foldl (tryOn P l1 []) []
theorem tryOn_nil (P : List S36 → Bool) (l1 : List S44) : tryOn P l1 [] = tryOne (fun t => P (cellsOf l1 t)) := rfl
theorem best_facts (P : List S36 → Bool) (l1 : List S44) : (best P l1 = [] ∨ (best P l1 ∈ asc l1.length 0 ∧ P (cellsOf l1 (best P l1)) = true)) ∧ (∀ t ∈ asc l1.length 0, P (cellsOf l1 t) = true → t = best P l1 ∨ befB (best P l1) t = true) := by
  have h := fold_best (fun t => P (cellsOf l1 t)) (asc l1.length 0) [] (asc_lex _ _) (fun t ht => lex_nil (asc_mem _ _ t ht).1)
  rw [← tryOn_nil] at h
  exact ⟨h.1, h.2.1⟩
section
variable {m no th : Int} {pw : List (List Int)} {ls : List S44} {mg : List Int}
theorem good_nil (c : chk m pw no th ls mg = 0) : goodB m no th pw ls mg [] = true := by
  unfold goodB anyFault
  simp [c]
theorem good_sub (l' l : List S36) (hl : l.length ≤ 100) (h : l'.Sublist l) (g : goodB m no th pw ls mg l = true) : goodB m no th pw ls mg l' = true :=
  (good_gd l' (Nat.le_trans h.length_le hl)).2 (((good_gd l hl).1 g).sub h)
theorem Largest_eq (m no th : Int) (pw : List (List Int)) (ls : List S44) (mg : List Int) (l1 : List S44) (hl : l1.length ≤ 12) (k : Nat) (hk : 1200 ≤ k) (c : chk m pw no th ls mg = 0) :
    conflict_Largest.f k m pw no th ls mg l1 = some (best (goodB m no th pw ls mg) l1, 0) := by
  unfold conflict_Largest.f
  rw [check_eq m no th pw ls mg k (by omega)]
  simp only [Option.bind_some]
  rw [if_pos c, if_neg (by omega)]
  have h := ext_fold (conflict_Good.f k m pw no th ls mg) (goodB m no th pw ls mg) (fun cs hcs => Good_eq m no th pw ls mg cs hcs k hk)
    (fun cs ds hd g => good_sub cs (cs ++ ds) hd (List.sublist_append_left cs ds) g) l1 l1.length 0 [] [] (by simp; omega)
  rw [show cellsOf l1 [] = [] from rfl] at h
  rw [h]
  rfl
end
theorem isSorted_eq (l : List Int) (hs : l.Pairwise (· < ·)) (hl : l.length ≤ 1000) (k : Nat) (hk : l.length < k) : slices_IsSorted_int_int.f k l = some true := by
  unfold slices_IsSorted_int_int.f
  have go : ∀ (d k : Nat), d < l.length → d < k → slices_IsSorted_int_int.l0 k l (d : Int) = some true := by
    intro d
    induction d with
    | zero =>
      intro k _ hk
      obtain ⟨k, rfl⟩ : ∃ q, k = q + 1 := ⟨k - 1, by omega⟩
      simp only [slices_IsSorted_int_int.l0]
      rw [if_neg (by omega)]
    | succ d ih =>
      intro k hd hk
      obtain ⟨k, rfl⟩ : ∃ q, k = q + 1 := ⟨k - 1, by omega⟩
      have e1 : wrap64 (((d + 1 : Nat) : Int) - 1) = (d : Int) := by unfold wrap64; omega
      simp only [slices_IsSorted_int_int.l0]
      rw [e1, if_pos (by omega), if_pos (by omega), if_pos (by omega), if_pos (by omega), if_pos (by omega)]
      have r1 : rd l ((d + 1 : Nat) : Int) = l[d + 1] := by simp only [rd, Int.toNat_natCast]; simp [List.getD_eq_getElem?_getD, List.getElem?_eq_getElem hd]
      have r2 : rd l (d : Int) = l[d]'(by omega) := by simp only [rd, Int.toNat_natCast]; simp [List.getD_eq_getElem?_getD, List.getElem?_eq_getElem (show d < l.length by omega)]
      have hlt : l[d]'(by omega) < l[d + 1] := List.pairwise_iff_getElem.1 hs d (d + 1) (by omega) hd (by omega)
      unfold cmp_Less_int.f cmp_isNaN_int.f
      simp only [Option.bind_some, bne_self_eq_false]
      rw [r1, r2, if_neg (by simp), decide_eq_false (by omega)]
      simp only [Option.bind_some]
      rw [if_neg (by simp)]
      exact ih k (by omega) (by omega)
  by_cases h0 : l.length = 0
  · obtain ⟨k, rfl⟩ : ∃ q, k = q + 1 := ⟨k - 1, by omega⟩
    have e1 : wrap64 ((l.length : Int) - 1) = -1 := by unfold wrap64; omega
    rw [e1]
    simp only [slices_IsSorted_int_int.l0]
    rw [if_neg (by omega)]
  · have e1 : wrap64 ((l.length : Int) - 1) = ((l.length - 1 : Nat) : Int) := by unfold wrap64; omega
    rw [e1]
    exact go (l.length - 1) k (by omega) (by omega)
section
variable (m : Int) (pw : List (List Int)) (no th : Int) (ls : List S44) (mg : List Int) (l1 : List S44)
/-- The indices whose bits are set, from i on. -/
def picks (b : Int → Bool) : Nat → Nat → List Int
  | 0, _ => []
  | d + 1, i => if b (i : Int) = true then (i : Int) :: picks b d (i + 1) else picks b d (i + 1)
theorem picks_asc (b : Int → Bool) (d : Nat) : ∀ i, (picks b d i).Pairwise (· < ·) ∧ ∀ x ∈ picks b d i, (i : Int) ≤ x ∧ x < (i : Int) + d := by
  induction d with
  | zero => exact fun i => ⟨List.Pairwise.nil, fun x h => nomatch h⟩
  | succ d ih =>
    intro i
    obtain ⟨h1, h2⟩ := ih (i + 1)
    simp only [picks]
    split
    · refine ⟨List.pairwise_cons.2 ⟨fun x hx => ?_, h1⟩, fun x hx => ?_⟩
      · have := h2 x hx
        omega
      · rcases List.mem_cons.1 hx with rfl | hx
        · omega
        · have := h2 x hx
          omega
    · refine ⟨h1, fun x hx => ?_⟩
      have := h2 x hx
      omega
theorem cells_take (t : List Int) (n : Nat) (h : ∀ x ∈ t, (0 : Int) ≤ x ∧ x < (n : Int)) : cellsOf (l1.take n) t = cellsOf l1 t := by
  unfold cellsOf
  refine List.map_congr_left (fun x hx => ?_)
  obtain ⟨h0, h1⟩ := h x hx
  have : rd_T44 (l1.take n) x = rd_T44 l1 x := by
    simp only [rd_T44, List.getD_eq_getElem?_getD, List.getElem?_take]
    rw [if_pos (by omega)]
  rw [this]
theorem best_range (P : List S36 → Bool) : (best P l1).Pairwise (· < ·) ∧ ∀ x ∈ best P l1, (0 : Int) ≤ x ∧ x < (l1.length : Int) := by
  rcases (best_facts P l1).1 with h | ⟨h, _⟩
  · rw [h]; exact ⟨List.Pairwise.nil, fun x h => nomatch h⟩
  · obtain ⟨_, h2, h3⟩ := asc_mem _ _ _ h
    exact ⟨h2, fun x hx => by have := h3 x hx; omega⟩
theorem best_good (_hl : l1.length ≤ 8) (c : chk m pw no th ls mg = 0) : goodB m no th pw ls mg (cellsOf l1 (best (goodB m no th pw ls mg) l1)) = true := by
  rcases (best_facts (goodB m no th pw ls mg) l1).1 with h | ⟨_, h⟩
  · rw [h]; exact good_nil c
  · exact h
theorem best_len (_hl : l1.length ≤ 8) (_c : chk m pw no th ls mg = 0) : (best (goodB m no th pw ls mg) l1).length ≤ l1.length := by
  rcases (best_facts (goodB m no th pw ls mg) l1).1 with h | ⟨h, _⟩
  · rw [h]; simp
  · exact asc_len _ _ _ h
theorem best_most (_hl : l1.length ≤ 8) (_c : chk m pw no th ls mg = 0) (t : List Int) (h1 : t.Pairwise (· < ·)) (h2 : ∀ x ∈ t, (0 : Int) ≤ x ∧ x < (l1.length : Int)) (g : goodB m no th pw ls mg (cellsOf l1 t) = true) : t.length ≤ (best (goodB m no th pw ls mg) l1).length := by
  by_cases e : t = []
  · rw [e]; simp
  · rcases (best_facts (goodB m no th pw ls mg) l1).2 t (asc_of _ 0 t e h1 (fun x hx => by have := h2 x hx; omega)) g with h | h
    · rw [← h]; exact Nat.le_refl _
    · exact bef_len h
variable (hl : l1.length ≤ 8) (c : chk m pw no th ls mg = 0)
include hl c
theorem j4_eq (k : Nat) (hk : 2000 ≤ k) : hopmeshlaw34_ConflictLargest.j4 k l1 (best (goodB m no th pw ls mg) l1) false m pw no th ls mg = some true := by
  obtain ⟨k, rfl⟩ : ∃ q, k = q + 1 := ⟨k - 1, by omega⟩
  have ha := best_len m pw no th ls mg l1 hl c
  simp only [hopmeshlaw34_ConflictLargest.j4]
  rw [if_neg (by simp)]
  by_cases h0 : l1.length = 0
  · rw [if_pos (by omega)]
    have : (best (goodB m no th pw ls mg) l1).length = 0 := by omega
    rw [this]; rfl
  · have e1 : wrap64 ((l1.length : Int) - 1) = ((l1.length - 1 : Nat) : Int) := by unfold wrap64; omega
    rw [if_neg (by omega), e1, if_pos (by omega), if_pos (by omega), Int.toNat_natCast, Largest_eq m no th pw ls mg _ (by simp; omega) k (by omega) c]
    simp only [Option.bind_some]
    have hlt : (l1.take (l1.length - 1)).length = l1.length - 1 := by simp
    have hlt8 : (l1.take (l1.length - 1)).length ≤ 8 := by omega
    have hb := best_len m pw no th ls mg (l1.take (l1.length - 1)) hlt8 c
    have q1 : (best (goodB m no th pw ls mg) (l1.take (l1.length - 1))).length ≤ (best (goodB m no th pw ls mg) l1).length := by
      obtain ⟨r1, r2⟩ := best_range (l1.take (l1.length - 1)) (goodB m no th pw ls mg)
      rw [hlt] at r2
      refine best_most m pw no th ls mg l1 hl c _ r1 (fun x hx => by have := r2 x hx; omega) ?_
      rw [← cells_take l1 _ (l1.length - 1) r2]
      exact best_good m pw no th ls mg _ hlt8 c
    have q2 : (best (goodB m no th pw ls mg) l1).length ≤ (best (goodB m no th pw ls mg) (l1.take (l1.length - 1))).length + 1 := by
      obtain ⟨r1, r2⟩ := best_range l1 (goodB m no th pw ls mg)
      have hg := best_good m pw no th ls mg l1 hl c
      generalize best (goodB m no th pw ls mg) l1 = a at r1 r2 hg ha
      have ed : a.dropLast.length = a.length - 1 := List.length_dropLast
      have hs : a.dropLast.Sublist a := List.dropLast_sublist a
      have hr : ∀ x ∈ a.dropLast, (0 : Int) ≤ x ∧ x < ((l1.length - 1 : Nat) : Int) := by
        intro x hx
        have h0 := r2 x (hs.subset hx)
        obtain ⟨j, hj, rfl⟩ := List.getElem_of_mem hx
        rw [List.getElem_dropLast]
        have h1 := List.pairwise_iff_getElem.1 r1 j (a.length - 1) (by omega) (by omega) (by omega)
        have h2 := r2 (a[a.length - 1]'(by omega)) (List.getElem_mem _)
        rw [List.getElem_dropLast] at h0
        omega
      have := best_most m pw no th ls mg (l1.take (l1.length - 1)) hlt8 c a.dropLast (r1.sublist hs) (fun x hx => by rw [hlt]; exact hr x hx) (by
        rw [cells_take l1 _ _ hr]
        refine good_sub _ _ ?_ (hs.map _) hg
        simp [cellsOf]; omega)
      omega
    rw [if_pos trivial, if_pos (by omega)]
    have e2 : wrap64 (((best (goodB m no th pw ls mg) (l1.take (l1.length - 1))).length : Int) + 1) = (best (goodB m no th pw ls mg) (l1.take (l1.length - 1))).length + 1 := by unfold wrap64; omega
    rw [e2, decide_eq_true (by omega)]
theorem l1_eq (a2 : Int) (d : Nat) : ∀ (i k : Nat) (pre : List Int), i + d = l1.length → d + 3000 ≤ k → pre ++ picks (fun j => decide (Go.bits .and .u8 (shr .u8 a2 j) 1 = 1)) d i = picks (fun j => decide (Go.bits .and .u8 (shr .u8 a2 j) 1 = 1)) l1.length 0 → pre.length ≤ i →
    hopmeshlaw34_ConflictLargest.l1 k l1 a2 (best (goodB m no th pw ls mg) l1) (cellsOf l1 (best (goodB m no th pw ls mg) l1)) (cellsOf l1 pre) l1 (l1.length : Int) (i : Int) m pw no th ls mg = some true := by
  induction d with
  | zero =>
    intro i k pre hi hk hp hpl
    obtain ⟨k, rfl⟩ : ∃ q, k = q + 1 := ⟨k - 1, by omega⟩
    have ha := best_len m pw no th ls mg l1 hl c
    have hgb := best_good m pw no th ls mg l1 hl c
    simp only [picks, List.append_nil] at hp
    simp only [hopmeshlaw34_ConflictLargest.l1]
    rw [if_neg (by omega), Good_eq m no th pw ls mg _ (by simp [cellsOf]; omega) k (by omega), hgb]
    simp only [Option.bind_some]
    rw [if_pos trivial, Good_eq m no th pw ls mg _ (by simp [cellsOf]; omega) k (by omega)]
    simp only [Option.bind_some]
    cases hg : goodB m no th pw ls mg (cellsOf l1 pre) with
    | false => rw [if_neg (by simp)]; exact j4_eq m pw no th ls mg l1 hl c k (by omega)
    | true =>
      obtain ⟨s1, s2⟩ := picks_asc (fun j => decide (Go.bits .and .u8 (shr .u8 a2 j) 1 = 1)) l1.length 0
      rw [← hp] at s1 s2
      have := best_most m pw no th ls mg l1 hl c pre s1 (fun x hx => by have := s2 x hx; omega) hg
      have e : ((cellsOf l1 pre).length : Int) = pre.length := by simp [cellsOf]
      have e' : ((cellsOf l1 (best (goodB m no th pw ls mg) l1)).length : Int) = (best (goodB m no th pw ls mg) l1).length := by simp [cellsOf]
      rw [if_pos rfl, e, e', decide_eq_false (by omega)]
      exact j4_eq m pw no th ls mg l1 hl c k (by omega)
  | succ d ih =>
    intro i k pre hi hk hp hpl
    obtain ⟨k, rfl⟩ : ∃ q, k = q + 1 := ⟨k - 1, by omega⟩
    have ew : wrap64 ((i : Int) + 1) = ((i + 1 : Nat) : Int) := by unfold wrap64; omega
    simp only [hopmeshlaw34_ConflictLargest.l1]
    rw [if_pos (by omega), if_pos (by omega), if_pos (by omega), ew]
    simp only [picks] at hp
    by_cases hb : Go.bits .and .u8 (shr .u8 a2 (i : Int)) 1 = 1
    · rw [if_pos (decide_eq_true hb)] at hp
      rw [if_pos hb, if_pos (by simp [cellsOf]; omega)]
      have e : cellsOf l1 pre ++ [(⟨0, 0, (rd_T44 l1 (i : Int)).f0, (rd_T44 l1 (i : Int)).f1, 0⟩ : S36)] = cellsOf l1 (pre ++ [(i : Int)]) := by simp [cellsOf, cellOf]
      rw [e]
      exact ih (i + 1) k (pre ++ [(i : Int)]) (by omega) (by omega) (by simpa using hp) (by simp; omega)
    · rw [if_neg (by simpa using hb)] at hp
      rw [if_neg hb]
      exact ih (i + 1) k pre (by omega) (by omega) hp (by omega)
theorem l0_eq (a2 : Int) (d : Nat) : ∀ (i k : Nat), i + d = (best (goodB m no th pw ls mg) l1).length → d + 3100 ≤ k →
    hopmeshlaw34_ConflictLargest.l0 k l1 a2 (best (goodB m no th pw ls mg) l1) (cellsOf l1 ((best (goodB m no th pw ls mg) l1).take i)) (best (goodB m no th pw ls mg) l1) ((best (goodB m no th pw ls mg) l1).length : Int) (i : Int) m pw no th ls mg = some true := by
  have ha := best_len m pw no th ls mg l1 hl c
  obtain ⟨r1, r2⟩ := best_range l1 (goodB m no th pw ls mg)
  induction d with
  | zero =>
    intro i k hi hk
    obtain ⟨k, rfl⟩ : ∃ q, k = q + 1 := ⟨k - 1, by omega⟩
    simp only [hopmeshlaw34_ConflictLargest.l0]
    rw [if_neg (by omega), List.take_of_length_le (by omega)]
    exact l1_eq m pw no th ls mg l1 hl c a2 l1.length 0 k [] (by omega) (by omega) rfl (by simp)
  | succ d ih =>
    intro i k hi hk
    obtain ⟨k, rfl⟩ : ∃ q, k = q + 1 := ⟨k - 1, by omega⟩
    have hlt : i < (best (goodB m no th pw ls mg) l1).length := by omega
    have er : rd (best (goodB m no th pw ls mg) l1) (i : Int) = (best (goodB m no th pw ls mg) l1)[i] := by simp only [rd, Int.toNat_natCast]; simp [List.getD_eq_getElem?_getD, List.getElem?_eq_getElem hlt]
    have hx := r2 _ (List.getElem_mem hlt)
    have ew : wrap64 ((i : Int) + 1) = ((i + 1 : Nat) : Int) := by unfold wrap64; omega
    simp only [hopmeshlaw34_ConflictLargest.l0]
    rw [if_pos (by omega), if_pos (by omega), if_pos (by omega), er, if_neg (by omega), if_neg (by omega), if_pos (by omega), if_pos (by omega), if_pos (by simp [cellsOf]; omega), ew]
    have e : cellsOf l1 ((best (goodB m no th pw ls mg) l1).take i) ++ [(⟨0, 0, (rd_T44 l1 (best (goodB m no th pw ls mg) l1)[i]).f0, (rd_T44 l1 (best (goodB m no th pw ls mg) l1)[i]).f1, 0⟩ : S36)] = cellsOf l1 ((best (goodB m no th pw ls mg) l1).take (i + 1)) := by
      rw [List.take_succ_eq_append_getElem hlt]
      unfold cellsOf
      rw [List.map_append]
      rfl
    rw [e]
    exact ih (i + 1) k (by omega) (by omega)
end
theorem ConflictLargest_pure (m : Int) (pw : List (List Int)) (no th : Int) (ls : List S44) (mg : List Int) (hm : pw.length ≤ 9223372036854775807) (l1 : List S44) (a2 : Int) (hb : 0 ≤ a2 ∧ a2 < 256) : ∃ k, hopmeshlaw34_ConflictLargest.f k m pw no th ls mg l1 a2 = some true := by
  refine ⟨pw.length + 5001, ?_⟩
  have dead : hopmeshlaw34_ConflictLargest.j0 (pw.length + 5001) l1 a2 true m pw no th ls mg = some true := by
    simp only [hopmeshlaw34_ConflictLargest.j0]
    rw [if_pos trivial]
  unfold hopmeshlaw34_ConflictLargest.f hopmeshlaw34_awake.f
  rw [few_eq m no th pw ls mg hm _ (by omega), check_eq m no th pw ls mg _ (by omega)]
  simp only [Option.bind_some]
  rw [if_pos trivial]
  cases hf : fewB pw ls mg with
  | false => rw [if_neg (by simp)]; exact dead
  | true =>
    rw [if_pos rfl]
    by_cases hl : (l1.length : Int) > 8
    · rw [if_pos hl]; exact dead
    · rw [if_neg hl]
      by_cases c : chk m pw no th ls mg = 0
      · have hl8 : l1.length ≤ 8 := by omega
        rw [c]
        have e0 : ((0 : Int) != 0) = false := rfl
        have ha := best_len m pw no th ls mg l1 hl8 c
        obtain ⟨r1, r2⟩ := best_range l1 (goodB m no th pw ls mg)
        rw [e0]
        simp only [hopmeshlaw34_ConflictLargest.j0]
        rw [if_neg (by simp), Largest_eq m no th pw ls mg l1 (by omega) _ (by omega) c]
        simp only [Option.bind_some]
        rw [if_pos trivial, isSorted_eq _ r1 (by omega) (pw.length + 5000) (by omega)]
        simp only [Option.bind_some, Bool.not_true]
        simp only [hopmeshlaw34_ConflictLargest.j1]
        rw [if_neg (by simp)]
        exact l0_eq m pw no th ls mg l1 hl8 c a2 (best (goodB m no th pw ls mg) l1).length 0 (pw.length + 4999) (by omega) (by omega)
      · have e0 : (chk m pw no th ls mg != 0) = true := bne_iff_ne.mpr c
        rw [e0]; exact dead
end Go.Proofs.Ytibgcekekmphoaa.P34
