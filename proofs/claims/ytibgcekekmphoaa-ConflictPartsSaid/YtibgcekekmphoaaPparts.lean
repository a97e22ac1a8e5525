/- Plain law: ConflictParts answers true. -/
import Derived.Test.YtibgcekekmphoaaTsub
import Derived.Test.YtibgcekekmphoaaP34Pa
namespace Go.Proofs.Ytibgcekekmphoaa.P34
open Go.RowKit Go.Proofs.YtibgcekekmphoaaW.PrintWords Go.Proofs.YtibgcekekmphoaaW.PrintLast Go.Proofs.YtibgcekekmphoaaW.PrintMore
set_option linter.unusedVariables false
set_option linter.unusedSimpArgs false

theorem Pair_eq (m no th : Int) (pw : List (List Int)) (ls : List S44) (mg : List Int) (a b c d e f : Int) (k : Nat) (hk : 1200 ≤ k) :
    conflict_Together.f k m pw no th ls mg a b c d e f = some (goodB m no th pw ls mg [⟨0, 0, a, b, 0⟩, ⟨0, 0, d, e, 0⟩]) := by
  unfold conflict_Together.f conflict_cell.f
  simp only [Option.bind_some]
  rw [Good_eq m no th pw ls mg _ (by simp) k hk]
  rfl
theorem reverse_eq (l : List S36) (h : l.length ≤ 10) (k : Nat) : api_Cell_27.f (k + 10) l = some l.reverse := by
  match l, h with
  | [], _ => (show api_Cell_27.f (k + 10) _ = some _; kernel_rfl)
  | [_], _ => (show api_Cell_27.f (k + 10) _ = some _; kernel_rfl)
  | [_, _], _ => (show api_Cell_27.f (k + 10) _ = some _; kernel_rfl)
  | [_, _, _], _ => (show api_Cell_27.f (k + 10) _ = some _; kernel_rfl)
  | [_, _, _, _], _ => (show api_Cell_27.f (k + 10) _ = some _; kernel_rfl)
  | [_, _, _, _, _], _ => (show api_Cell_27.f (k + 10) _ = some _; kernel_rfl)
  | [_, _, _, _, _, _], _ => (show api_Cell_27.f (k + 10) _ = some _; kernel_rfl)
  | [_, _, _, _, _, _, _], _ => (show api_Cell_27.f (k + 10) _ = some _; kernel_rfl)
  | [_, _, _, _, _, _, _, _], _ => (show api_Cell_27.f (k + 10) _ = some _; kernel_rfl)
  | [_, _, _, _, _, _, _, _, _], _ => (show api_Cell_27.f (k + 10) _ = some _; kernel_rfl)
  | [_, _, _, _, _, _, _, _, _, _], _ => (show api_Cell_27.f (k + 10) _ = some _; kernel_rfl)
  | _ :: _ :: _ :: _ :: _ :: _ :: _ :: _ :: _ :: _ :: _ :: _, h => simp at h

section
variable (m : Int) (pw : List (List Int)) (no th : Int) (ls : List S44) (mg : List Int) (l : List S36) (hl : l.length ≤ 10) (g : goodB m no th pw ls mg l = true) (a2 : Int)
include hl g
theorem parts_l1 (x9 x40 : List S36) (i : Nat) (hi : i < l.length) (z0 z1 z4 : Int) (next : Nat → Option Bool) (d : Nat) :
    ∀ (t k : Nat), t + d = i → d + 2000 ≤ k →
    (∀ k', d + k' + 1 = k → hopmeshlaw34_ConflictParts.l0 k' l a2 x9 x40 (x40.length : Int) (wrap64 ((i : Int) + 1)) m pw no th ls mg = some true) →
    hopmeshlaw34_ConflictParts.l1 k l a2 x9 x40 (x40.length : Int) (i : Int) (l.take i) ((l.take i).length : Int) (t : Int) m pw no th ls mg z0 z1 l[i].f2 l[i].f3 z4 = some true := by
  have hti : (l.take i).length = i := by rw [List.length_take]; omega
  have G := (good_gd l (by omega)).1 g
  induction d with
  | zero =>
    intro t k ht hk H
    obtain ⟨k, rfl⟩ : ∃ q, k = q + 1 := ⟨k - 1, by omega⟩
    simp only [hopmeshlaw34_ConflictParts.l1]
    rw [if_neg (by omega)]
    exact H k (by omega)
  | succ d ih =>
    intro t k ht hk H
    obtain ⟨k, rfl⟩ : ∃ q, k = q + 1 := ⟨k - 1, by omega⟩
    simp only [hopmeshlaw34_ConflictParts.l1]
    rw [if_pos (by omega), if_pos (by omega), if_pos (by omega), Pair_eq m no th pw ls mg _ _ _ _ _ _ k (by omega)]
    have hr : rd_T36 (l.take i) (t : Int) = l[t] := by
      simp [rd_T36, List.getD_eq_getElem?_getD, List.getElem?_take, show t < i by omega, List.getElem?_eq_getElem (show t < l.length by omega)]
    rw [hr]
    have hp := G.pair t i (by omega) hi
    unfold P34.bare at hp
    rw [hp]
    simp only [Option.bind_some]
    rw [if_pos trivial, wrap_in (i := (t : Int) + 1) (by omega) (by omega)]
    exact ih (t + 1) k (by omega) (by omega) (fun k' hk' => H k' (by omega))

theorem parts_l0 (d : Nat) : ∀ (t k : Nat) (x9 : List S36), t + d = l.length → 3000 + d * (20 + l.length) ≤ k → x9.Sublist (l.take t) →
    hopmeshlaw34_ConflictParts.l0 k l a2 x9 l (l.length : Int) (t : Int) m pw no th ls mg = some true := by
  have G := (good_gd l (by omega)).1 g
  induction d with
  | zero =>
    intro t k x9 ht hk hs
    obtain ⟨k, rfl⟩ : ∃ q, k = q + 1 := ⟨k - 1, by omega⟩
    have hs' : x9.Sublist l := hs.trans (List.take_sublist _ _)
    have hlen := hs'.length_le
    have gs : goodB m no th pw ls mg x9 = true := (good_gd x9 (by omega)).2 (G.sub hs')
    simp only [hopmeshlaw34_ConflictParts.l0]
    rw [if_neg (by omega), First_eq m no th pw ls mg x9 (by omega) k (by omega), Good_eq m no th pw ls mg x9 (by omega) k (by omega), gs]
    simp only [Option.bind_some]
    have ha : anyFault m no th pw ls mg x9 = false := by
      have h2 := gs
      unfold goodB at h2
      rw [Bool.and_eq_true] at h2
      simpa using h2.2
    have hix : idx (fun j => faultB m no th pw ls mg x9 (j : Int)) x9.length = -1 := idx_miss fun j hj => by
      unfold anyFault at ha
      rw [List.any_eq_false] at ha
      simpa using ha j (List.mem_range.2 hj)
    rw [if_pos trivial, if_pos G.c, hix, ha]
    rfl
  | succ d ih =>
    intro t k x9 ht hk hs
    have hlt : t < l.length := by omega
    have hmul : (d + 1) * (20 + l.length) = d * (20 + l.length) + (20 + l.length) := by rw [Nat.add_mul, Nat.one_mul]
    obtain ⟨k, rfl⟩ : ∃ q, k = q + 1 := ⟨k - 1, by omega⟩
    have hr : rd_T36 l (t : Int) = l[t] := by simp [rd_T36, List.getD_eq_getElem?_getD, List.getElem?_eq_getElem hlt]
    have htk : l.take (t + 1) = l.take t ++ [l[t]] := (List.take_append_getElem hlt).symm
    have j2 : ∀ (k' : Nat) (y : List S36), k' + 1 = k + 1 → y.Sublist (l.take (t + 1)) → hopmeshlaw34_ConflictParts.j2 k' l a2 y (t : Int) l (l.length : Int) (t : Int) m pw no th ls mg l[t].f0 l[t].f1 l[t].f2 l[t].f3 l[t].f4 = some true := fun k' y hk' hy => by
      obtain ⟨k', rfl⟩ : ∃ q, k' = q + 1 := ⟨k' - 1, by omega⟩
      simp only [hopmeshlaw34_ConflictParts.j2]
      rw [if_pos (by omega), if_pos (by omega)]
      simp only [Option.bind_some]
      refine parts_l1 m pw no th ls mg l hl g a2 y l t hlt _ _ _ (fun _ => none) t 0 k' (by omega) (by omega) (fun k2 hk2 => ?_)
      rw [wrap_in (i := (t : Int) + 1) (by omega) (by omega)]
      exact ih (t + 1) k2 y (by omega) (by omega) hy
    have hlen := hs.length_le
    rw [List.length_take] at hlen
    simp only [hopmeshlaw34_ConflictParts.l0]
    rw [if_pos (by omega), if_pos (by omega), if_pos (by omega), hr]
    split
    · rw [if_pos (by omega)]
      exact j2 k _ rfl (by rw [htk]; exact hs.append (List.Sublist.refl _))
    · exact j2 k _ rfl (by rw [htk]; exact hs.trans (List.sublist_append_left _ _))
end

theorem ConflictParts_pure (m : Int) (pw : List (List Int)) (no th : Int) (ls : List S44) (mg : List Int) (hm : pw.length ≤ 9223372036854775807) (l : List S36) (a2 : Int) (b2 : 0 ≤ a2 ∧ a2 < 65536) : ∃ k, hopmeshlaw34_ConflictParts.f k m pw no th ls mg l a2 = some true := by
  refine ⟨pw.length + 10011, ?_⟩
  have hj : hopmeshlaw34_ConflictParts.j0 (pw.length + 10011) l a2 true m pw no th ls mg = some true := by simp only [hopmeshlaw34_ConflictParts.j0]; rfl
  unfold hopmeshlaw34_ConflictParts.f hopmeshlaw34_awake.f
  simp only [Option.bind_some]
  rw [if_pos trivial, few_eq m no th pw ls mg hm _ (by omega)]
  simp only [Option.bind_some]
  cases hf : fewB pw ls mg with
  | false => simpa using hj
  | true =>
    rw [if_pos rfl]
    by_cases hl : (l.length : Int) > 10
    · rw [decide_eq_true hl]; exact hj
    · rw [decide_eq_false hl]
      simp only [hopmeshlaw34_ConflictParts.j0]
      unfold api_Cell_26.f
      rw [if_neg (by simp), if_pos (by omega)]
      simp only [Option.bind_some]
      rw [reverse_eq l (by omega) (pw.length + 10000)]
      simp only [Option.bind_some]
      rw [Good_eq m no th pw ls mg l (by omega) _ (by omega), Good_eq m no th pw ls mg l.reverse (by rw [List.length_reverse]; omega) _ (by omega), good_rev l (by omega)]
      simp only [Option.bind_some]
      rw [if_neg (by simp)]
      cases hg : goodB m no th pw ls mg l with
      | false => rfl
      | true =>
        rw [if_pos rfl]
        have hd : l.length * (20 + l.length) ≤ 10 * 30 := Nat.mul_le_mul (by omega) (by omega)
        exact parts_l0 m pw no th ls mg l (by omega) hg a2 l.length 0 _ [] (by omega) (by omega) (List.nil_sublist _)
end Go.Proofs.Ytibgcekekmphoaa.P34
