/- Plain laws: the disturbance as a sum of shares; what is heard, as an inequality; when a set of cells is good. -/
import Derived.Test.YtibgcekekmphoaaTgood
namespace Go.Proofs.Ytibgcekekmphoaa.P34
open Go.RowKit Go.Proofs.YtibgcekekmphoaaW.PrintWords Go.Proofs.YtibgcekekmphoaaW.PrintLast Go.Proofs.YtibgcekekmphoaaW.PrintMore
set_option linter.unusedVariables false
set_option linter.unusedSimpArgs false

/-- What an end adds at a node. -/
def shE (m : Int) (pw : List (List Int)) (nd x : Int) : Int := if nodeB m x = true then rd (rd_L1 pw x) nd else 0
def share (m : Int) (pw : List (List Int)) (nd : Int) (c : S36) : Int := shE m pw nd c.f2 + shE m pw nd c.f3
/-- The shares of all cells but for the one with the index i; the list begins at index t. -/
def sx (f : S36 → Int) (i : Int) : List S36 → Int → Int
  | [], _ => 0
  | c :: r, t => (if t = i then 0 else f c) + sx f i r (t + 1)

section
variable {m no th : Int} {pw : List (List Int)} {ls : List S44} {mg : List Int}
theorem Valid.shE (V : Valid m no th pw ls mg) {nd : Int} (hn : nodeB m nd = true) (x : Int) : 0 ≤ shE m pw nd x ∧ shE m pw nd x ≤ 68719476736 := by
  unfold P34.shE
  split
  · rename_i h; exact V.power h hn
  · omega
theorem Valid.share (V : Valid m no th pw ls mg) {nd : Int} (hn : nodeB m nd = true) (c : S36) : 0 ≤ share m pw nd c ∧ share m pw nd c ≤ 137438953472 := by
  have a := V.shE hn c.f2
  have b := V.shE hn c.f3
  unfold P34.share
  omega
theorem addE_eq (V : Valid m no th pw ls mg) {nd : Int} (hn : nodeB m nd = true) (x s : Int) (h0 : 0 ≤ s) (h1 : s ≤ 100000000000000000) : addE m pw nd s x = s + shE m pw nd x := by
  have := V.shE hn x
  unfold addE shE at *
  split
  · rename_i h
    rw [if_pos h] at this
    exact wrap_in (by omega) (by omega)
  · omega
theorem ds_eq (V : Valid m no th pw ls mg) {nd : Int} (hn : nodeB m nd = true) (l : List S36) (i : Int) (d : Nat) : ∀ (t : Nat) (s : Int), t + d = l.length → l.length ≤ 1000 → 0 ≤ s → s ≤ 137438953472 * (t : Int) →
    ds m pw l i nd d (t : Int) s = s + sx (share m pw nd) i (l.drop t) (t : Int) := by
  induction d with
  | zero =>
    intro t s ht hl h0 h1
    rw [List.drop_of_length_le (by omega)]
    simp [ds, sx]
  | succ d ih =>
    intro t s ht hl h0 h1
    have hlt : t < l.length := by omega
    rw [List.drop_eq_getElem_cons hlt]
    simp only [ds, sx]
    have hr : rd_T36 l (t : Int) = l[t] := by simp [rd_T36, List.getD_eq_getElem?_getD, List.getElem?_eq_getElem hlt]
    rw [show (t : Int) + 1 = ((t + 1 : Nat) : Int) from by omega]
    by_cases c : (t : Int) = i
    · rw [if_pos c, if_pos c, ih (t + 1) s (by omega) hl h0 (by omega)]
      omega
    · have b := V.share hn l[t]
      have e2 := V.shE hn l[t].f2
      have e3 := V.shE hn l[t].f3
      rw [if_neg c, if_neg c, hr, addE_eq V hn _ s h0 (by omega), addE_eq V hn _ _ (by omega) (by omega), ih (t + 1) _ (by omega) hl (by omega) (by unfold P34.share at b; omega)]
      unfold P34.share
      omega
theorem dsum_eq (V : Valid m no th pw ls mg) {nd : Int} (hn : nodeB m nd = true) (l : List S36) (i : Int) (hl : l.length ≤ 1000) : dsum m pw l i nd = sx (share m pw nd) i l 0 := by
  unfold dsum
  have := ds_eq V hn l i l.length 0 0 (by omega) hl (by omega) (by omega)
  simpa using this
end

theorem sx_far (f : S36 → Int) (i : Int) (l : List S36) : ∀ t : Int, i < t → sx f i l t = (l.map f).sum := by
  induction l with
  | nil => intro t h; rfl
  | cons c r ih =>
    intro t h
    simp only [sx, List.map_cons, List.sum_cons]
    rw [if_neg (by omega), ih (t + 1) (by omega)]
theorem sx_near (f : S36 → Int) (l : List S36) : ∀ (t : Int) (j : Nat) (h : j < l.length), sx f (t + (j : Int)) l t = (l.map f).sum - f l[j] := by
  induction l with
  | nil => intro t j h; simp at h
  | cons c r ih =>
    intro t j h
    simp only [sx, List.map_cons, List.sum_cons]
    cases j with
    | zero =>
      rw [if_pos (by simp), sx_far _ _ _ _ (by show t + ((0 : Nat) : Int) < t + 1; omega)]
      simp
      omega
    | succ j =>
      have := ih (t + 1) j (by simpa using h)
      rw [show t + 1 + (j : Int) = t + ((j + 1 : Nat) : Int) from by omega] at this
      rw [if_neg (by omega), this]
      simp
      omega
theorem sx_eq (f : S36 → Int) (l : List S36) (j : Nat) (h : j < l.length) : sx f (j : Int) l 0 = (l.map f).sum - f l[j] := by
  have := sx_near f l 0 j h
  rwa [show (0 : Int) + (j : Int) = (j : Int) from by omega] at this
theorem sum_nonneg {l : List Int} (h : ∀ x ∈ l, 0 ≤ x) : 0 ≤ l.sum := by
  induction l with
  | nil => simp
  | cons a r ih =>
    simp only [List.sum_cons]
    have := h a (by simp)
    have := ih (fun x hx => h x (by simp [hx]))
    omega
theorem sum_le_bound {l : List Int} (B : Int) (h : ∀ x ∈ l, x ≤ B) : l.sum ≤ B * (l.length : Int) := by
  induction l with
  | nil => simp
  | cons a r ih =>
    simp only [List.sum_cons, List.length_cons]
    have h1 := h a (by simp)
    have h2 := ih (fun x hx => h x (by simp [hx]))
    have : B * ((r.length + 1 : Nat) : Int) = B * (r.length : Int) + B := by
      rw [show ((r.length + 1 : Nat) : Int) = (r.length : Int) + 1 from by omega, Int.mul_add, Int.mul_one]
    omega
theorem sx_bounds (f : S36 → Int) (B : Int) (hB : 0 ≤ B) (i : Int) (l : List S36) (h0 : ∀ c ∈ l, 0 ≤ f c ∧ f c ≤ B) : ∀ t : Int, 0 ≤ sx f i l t ∧ sx f i l t ≤ B * (l.length : Int) := by
  induction l with
  | nil => intro t; simp [sx]
  | cons c r ih =>
    intro t
    have h1 := h0 c (by simp)
    have h2 := ih (fun x hx => h0 x (by simp [hx])) (t + 1)
    simp only [sx, List.length_cons]
    have : B * ((r.length + 1 : Nat) : Int) = B * (r.length : Int) + B := by
      rw [show ((r.length + 1 : Nat) : Int) = (r.length : Int) + 1 from by omega, Int.mul_add, Int.mul_one]
    split <;> omega
theorem sx_mono (f g : S36 → Int) (i : Int) (l : List S36) (h : ∀ c ∈ l, f c ≤ g c) : ∀ t : Int, sx f i l t ≤ sx g i l t := by
  induction l with
  | nil => intro t; exact Int.le_refl _
  | cons c r ih =>
    intro t
    have h1 := h c (by simp)
    have h2 := ih (fun x hx => h x (by simp [hx])) (t + 1)
    simp only [sx]
    split <;> omega

/-! ### what is heard -/
theorem heard_iff {no th s d : Int} (n0 : 0 ≤ no) (n1 : no ≤ 68719476736) (t0 : 1000 ≤ th) (t1 : th ≤ 100000) (s0 : 0 ≤ s) (s1 : s ≤ 8796093022208) (d0 : 0 ≤ d) (d1 : d ≤ 8796093022208) : heardB no th s d = decide (th * (no + d) ≤ s * 1000) := by
  unfold heardB
  have hb : th * (no + d) ≤ 100000 * 8900000000000 := Int.mul_le_mul t1 (by omega) (by omega) (by omega)
  have hp : 0 ≤ th * (no + d) := Int.mul_nonneg (by omega) (by omega)
  rw [wrap_in (i := no + d) (by omega) (by omega), wrap_in (i := th * (no + d)) (by omega) (by omega), wrap_in (i := s * 1000) (by omega) (by omega)]
theorem hears_mono {no th s d no' th' d' : Int} (n0 : 0 ≤ no') (n1 : no' ≤ no) (n2 : no ≤ 68719476736) (t0 : 1000 ≤ th') (t1 : th' ≤ th) (t2 : th ≤ 100000) (d0 : 0 ≤ d') (d1 : d' ≤ d) (h : hearsB no th s d = true) : hearsB no' th' s d' = true := by
  unfold hearsB at h ⊢
  simp only [Bool.and_eq_true, decide_eq_true_eq] at h ⊢
  obtain ⟨⟨s0, _, s1, d2⟩, h⟩ := h
  refine ⟨⟨s0, d0, s1, by omega⟩, ?_⟩
  rw [heard_iff (by omega) n2 (by omega) t2 s0 s1 (by omega) d2] at h
  rw [heard_iff n0 (by omega) t0 (by omega) s0 s1 d0 (by omega)]
  simp only [decide_eq_true_eq] at h ⊢
  have : th' * (no' + d') ≤ th * (no + d) := Int.mul_le_mul t1 (by omega) (by omega) (by omega)
  omega
theorem heard0_mono {no th s no' th' : Int} (n0 : 0 ≤ no') (n1 : no' ≤ no) (n2 : no ≤ 68719476736) (t0 : 1000 ≤ th') (t1 : th' ≤ th) (t2 : th ≤ 100000) (s0 : 0 ≤ s) (s1 : s ≤ 68719476736) (h : heardB no th s 0 = true) : heardB no' th' s 0 = true := by
  rw [heard_iff (by omega) n2 (by omega) t2 s0 (by omega) (by omega) (by omega)] at h
  rw [heard_iff n0 (by omega) t0 (by omega) s0 (by omega) (by omega) (by omega)]
  simp only [decide_eq_true_eq] at h ⊢
  have : th' * (no' + 0) ≤ th * (no + 0) := Int.mul_le_mul t1 (by omega) (by omega) (by omega)
  omega

/-! ### when a set is good -/
theorem touchesAny_iff (l : List S36) (i : Nat) (hi : i < l.length) : touchesAny l (i : Int) = true ↔ ∃ t : Nat, ∃ h : t < l.length, t ≠ i ∧ touchB l[i] l[t] = true := by
  have hr : ∀ t : Nat, ∀ h : t < l.length, rd_T36 l (t : Int) = l[t] := fun t h => by simp [rd_T36, List.getD_eq_getElem?_getD, List.getElem?_eq_getElem h]
  unfold touchesAny
  rw [List.any_eq_true]
  constructor
  · rintro ⟨t, ht, h⟩
    have ht := List.mem_range.1 ht
    simp only [Bool.and_eq_true, decide_eq_true_eq] at h
    exact ⟨t, ht, by omega, by rw [← hr t ht, ← hr i hi]; exact h.2⟩
  · rintro ⟨t, ht, hne, h⟩
    refine ⟨t, List.mem_range.2 ht, ?_⟩
    simp only [Bool.and_eq_true, decide_eq_true_eq]
    exact ⟨by omega, by rw [hr t ht, hr i hi]; exact h⟩
/-- A cell without a fault, by what it is. -/
structure CellOk (m no th : Int) (pw : List (List Int)) (ls : List S44) (mg : List Int) (l : List S36) (i : Nat) (c : S36) : Prop where
  us : usI no th ls mg (findIx ls c.f2 c.f3) = true
  tc : ∀ t : Nat, ∀ h : t < l.length, t ≠ i → touchB c l[t] = false
  h1 : hearsB no th (rd mg (findIx ls c.f2 c.f3)) ((l.map (share m pw c.f3)).sum - share m pw c.f3 c) = true
  h2 : hearsB no th (rd mg (findIx ls c.f3 c.f2)) ((l.map (share m pw c.f2)).sum - share m pw c.f2 c) = true
theorem us_nodes {m no th : Int} {pw : List (List Int)} {ls : List S44} {mg : List Int} (V : Valid m no th pw ls mg) {F T : Int} (h : usI no th ls mg (findIx ls F T) = true) :
    nodeB m F = true ∧ nodeB m T = true ∧ F ≠ T ∧ (0 ≤ findIx ls F T ∧ findIx ls F T < (ls.length : Int)) ∧ (0 ≤ findIx ls T F ∧ findIx ls T F < (ls.length : Int)) := by
  obtain ⟨⟨a0, a1⟩, b0, _, _⟩ := usI_true h
  obtain ⟨_, e1, e2⟩ := findIx_at a0
  rw [e1, e2] at b0
  have lk := V.link a0 a1
  rw [e1, e2] at lk
  exact ⟨nodeB_iff.2 lk.1, nodeB_iff.2 lk.2.1, lk.2.2, ⟨a0, a1⟩, ⟨b0, (findIx_at b0).1⟩⟩
theorem faultB_iff {m no th : Int} {pw : List (List Int)} {ls : List S44} {mg : List Int} (V : Valid m no th pw ls mg) (l : List S36) (hl : l.length ≤ 100) (i : Nat) (hi : i < l.length) :
    faultB m no th pw ls mg l (i : Int) = false ↔ CellOk m no th pw ls mg l i l[i] := by
  have hr : rd_T36 l (i : Int) = l[i] := by simp [rd_T36, List.getD_eq_getElem?_getD, List.getElem?_eq_getElem hi]
  unfold faultB
  rw [hr]
  simp only [Bool.or_eq_false_iff, Bool.not_eq_false']
  have tt : touchesAny l (i : Int) = false ↔ ∀ t : Nat, ∀ h : t < l.length, t ≠ i → touchB l[i] l[t] = false := by
    constructor
    · intro h t ht hne
      cases hb : touchB l[i] l[t] with
      | false => rfl
      | true => rw [(touchesAny_iff l i hi).2 ⟨t, ht, hne, hb⟩] at h; cases h
    · intro h
      cases hb : touchesAny l (i : Int) with
      | false => rfl
      | true =>
        obtain ⟨t, ht, hne, h2⟩ := (touchesAny_iff l i hi).1 hb
        rw [h t ht hne] at h2; cases h2
  constructor
  · rintro ⟨a, b, c, d⟩
    obtain ⟨n1, n2, _⟩ := us_nodes V a
    rw [dsum_eq V n2 l _ (by omega), sx_eq _ l i hi] at c
    rw [dsum_eq V n1 l _ (by omega), sx_eq _ l i hi] at d
    exact ⟨a, tt.1 b, c, d⟩
  · rintro ⟨a, b, c, d⟩
    obtain ⟨n1, n2, _⟩ := us_nodes V a
    rw [dsum_eq V n2 l _ (by omega), sx_eq _ l i hi, dsum_eq V n1 l _ (by omega), sx_eq _ l i hi]
    exact ⟨a, tt.2 b, c, d⟩
theorem goodB_iff {m no th : Int} {pw : List (List Int)} {ls : List S44} {mg : List Int} (l : List S36) (hl : l.length ≤ 100) :
    goodB m no th pw ls mg l = true ↔ chk m pw no th ls mg = 0 ∧ ∀ i : Nat, ∀ h : i < l.length, CellOk m no th pw ls mg l i l[i] := by
  unfold goodB
  simp only [Bool.and_eq_true, decide_eq_true_eq, Bool.not_eq_true']
  constructor
  · rintro ⟨c, h⟩
    refine ⟨c, fun i hi => (faultB_iff (valid_of c) l hl i hi).1 ?_⟩
    unfold anyFault at h
    rw [List.any_eq_false] at h
    simpa using h i (List.mem_range.2 hi)
  · rintro ⟨c, h⟩
    refine ⟨c, ?_⟩
    unfold anyFault
    rw [List.any_eq_false]
    intro i hi
    have hi := List.mem_range.1 hi
    rw [(faultB_iff (valid_of c) l hl i hi).2 (h i hi)]
    simp
end Go.Proofs.Ytibgcekekmphoaa.P34
