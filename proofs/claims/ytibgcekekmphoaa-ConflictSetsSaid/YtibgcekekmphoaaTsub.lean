/- Plain laws: good sets, free of the order; their parts; their pairs. -/
import Derived.Test.YtibgcekekmphoaaTshare
namespace Go.Proofs.Ytibgcekekmphoaa.P34
open Go.RowKit Go.Proofs.YtibgcekekmphoaaW.PrintWords Go.Proofs.YtibgcekekmphoaaW.PrintLast Go.Proofs.YtibgcekekmphoaaW.PrintMore
set_option linter.unusedVariables false
set_option linter.unusedSimpArgs false

theorem touchB_symm (c d : S36) : touchB c d = touchB d c := by
  unfold touchB
  rw [Bool.eq_iff_iff]
  simp only [Bool.or_eq_true, beq_iff_eq]
  omega
/-- What a cell must be, at a sum of shares. -/
structure Heard (m no th : Int) (pw : List (List Int)) (ls : List S44) (mg : List Int) (s : Int → Int) (c : S36) : Prop where
  us : usI no th ls mg (findIx ls c.f2 c.f3) = true
  h1 : hearsB no th (rd mg (findIx ls c.f2 c.f3)) (s c.f3 - share m pw c.f3 c) = true
  h2 : hearsB no th (rd mg (findIx ls c.f3 c.f2)) (s c.f2 - share m pw c.f2 c) = true
structure Gd (m no th : Int) (pw : List (List Int)) (ls : List S44) (mg : List Int) (l : List S36) : Prop where
  c : chk m pw no th ls mg = 0
  p : l.Pairwise (fun a b => touchB a b = false)
  h : ∀ c ∈ l, Heard m no th pw ls mg (fun nd => (l.map (share m pw nd)).sum) c
variable {m no th : Int} {pw : List (List Int)} {ls : List S44} {mg : List Int}
theorem good_gd (l : List S36) (hl : l.length ≤ 100) : goodB m no th pw ls mg l = true ↔ Gd m no th pw ls mg l := by
  rw [goodB_iff l hl]
  constructor
  · rintro ⟨c, g⟩
    refine ⟨c, ?_, fun x hx => ?_⟩
    · rw [List.pairwise_iff_getElem]
      intro i j hi hj hij
      exact (g i hi).tc j hj (by omega)
    · obtain ⟨i, hi, rfl⟩ := List.getElem_of_mem hx
      obtain ⟨us, _, h1, h2⟩ := g i hi
      exact ⟨us, h1, h2⟩
  · rintro ⟨c, p, h⟩
    refine ⟨c, fun i hi => ?_⟩
    obtain ⟨us, h1, h2⟩ := h l[i] (List.getElem_mem hi)
    refine ⟨us, fun t ht hne => ?_, h1, h2⟩
    rw [List.pairwise_iff_getElem] at p
    by_cases e : t < i
    · rw [touchB_symm]; exact p t i ht hi e
    · exact p i t hi ht (by omega)
theorem sum_sub {f : S36 → Int} {l' l : List S36} (h : l'.Sublist l) (h0 : ∀ x ∈ l, 0 ≤ f x) : (l'.map f).sum ≤ (l.map f).sum := by
  induction h with
  | slnil => exact Int.le_refl _
  | cons a h ih =>
    have := ih (fun x hx => h0 x (by simp [hx]))
    have := h0 a (by simp)
    simp only [List.map_cons, List.sum_cons]
    omega
  | cons_cons a h ih =>
    have := ih (fun x hx => h0 x (by simp [hx]))
    simp only [List.map_cons, List.sum_cons]
    omega
theorem sum_mem_le {f : S36 → Int} {l : List S36} {x : S36} (hx : x ∈ l) (h0 : ∀ x ∈ l, 0 ≤ f x) : f x ≤ (l.map f).sum := by
  have := sum_sub (f := f) (List.singleton_sublist.2 hx) h0
  simpa using this
theorem Gd.sub {l' l : List S36} (g : Gd m no th pw ls mg l) (h : l'.Sublist l) : Gd m no th pw ls mg l' := by
  have V := valid_of g.c
  have v0 := V.no0; have v1 := V.no1; have v2 := V.th0; have v3 := V.th1
  refine ⟨g.c, g.p.sublist h, fun x hx => ?_⟩
  obtain ⟨us, h1, h2⟩ := g.h x (h.subset hx)
  obtain ⟨q1, q2, _⟩ := us_nodes V us
  have dec : ∀ nd, nodeB m nd = true → 0 ≤ (l'.map (share m pw nd)).sum - share m pw nd x ∧ (l'.map (share m pw nd)).sum - share m pw nd x ≤ (l.map (share m pw nd)).sum - share m pw nd x := fun nd hn => by
    have a := sum_mem_le (f := share m pw nd) hx (fun y _ => (V.share hn y).1)
    have b := sum_sub (f := share m pw nd) h (fun y _ => (V.share hn y).1)
    omega
  exact ⟨us, hears_mono v0 (Int.le_refl _) v1 v2 (Int.le_refl _) v3 (dec _ q2).1 (dec _ q2).2 h1, hears_mono v0 (Int.le_refl _) v1 v2 (Int.le_refl _) v3 (dec _ q1).1 (dec _ q1).2 h2⟩
theorem sum_rev (l : List Int) : l.reverse.sum = l.sum := by
  induction l with
  | nil => rfl
  | cons a r ih => simp only [List.reverse_cons, List.sum_append, List.sum_cons, List.sum_nil, ih]; omega
theorem Gd.rev {l : List S36} (g : Gd m no th pw ls mg l) : Gd m no th pw ls mg l.reverse := by
  refine ⟨g.c, ?_, fun x hx => ?_⟩
  · rw [List.pairwise_reverse]
    exact g.p.imp (fun {a b} h => by rw [touchB_symm]; exact h)
  · have e : (fun nd => (l.reverse.map (share m pw nd)).sum) = fun nd => (l.map (share m pw nd)).sum := by
      funext nd; rw [List.map_reverse, sum_rev]
    rw [e]
    exact g.h x (by simpa using hx)
theorem good_rev (l : List S36) (hl : l.length ≤ 100) : goodB m no th pw ls mg l.reverse = goodB m no th pw ls mg l := by
  rw [Bool.eq_iff_iff, good_gd _ (by simpa using hl), good_gd _ hl]
  exact ⟨fun g => by have := g.rev; rwa [List.reverse_reverse] at this, fun g => g.rev⟩
/-- The cell with its nodes alone. -/
def bare (c : S36) : S36 := ⟨0, 0, c.f2, c.f3, 0⟩
theorem Gd.bare {l : List S36} (g : Gd m no th pw ls mg l) : Gd m no th pw ls mg (l.map bare) := by
  refine ⟨g.c, ?_, fun x hx => ?_⟩
  · rw [List.pairwise_map]
    exact g.p.imp (fun {a b} h => h)
  · obtain ⟨y, hy, rfl⟩ := List.mem_map.1 hx
    have e : (fun nd => ((l.map P34.bare).map (share m pw nd)).sum) = fun nd => (l.map (share m pw nd)).sum := by
      funext nd; rw [List.map_map]; rfl
    rw [e]
    obtain ⟨a, b, c⟩ := g.h y hy
    exact ⟨a, b, c⟩
theorem pair_sub (l : List S36) (j i : Nat) (hji : j < i) (hi : i < l.length) : [l[j], l[i]].Sublist l := by
  have e : l = l.take i ++ l[i] :: l.drop (i + 1) := by
    rw [← List.drop_eq_getElem_cons hi, List.take_append_drop]
  have hm : l[j] ∈ l.take i := by
    rw [List.mem_take_iff_getElem]
    exact ⟨j, by omega, rfl⟩
  have h1 : [l[j]].Sublist (l.take i) := List.singleton_sublist.2 hm
  have h2 : [l[i]].Sublist (l[i] :: l.drop (i + 1)) := (List.nil_sublist _).cons_cons _
  have := h1.append h2
  rw [← e] at this
  exact this
theorem Gd.pair {l : List S36} (g : Gd m no th pw ls mg l) (j i : Nat) (hji : j < i) (hi : i < l.length) : goodB m no th pw ls mg [P34.bare l[i], P34.bare l[j]] = true := by
  rw [good_gd _ (by simp)]
  have := ((g.sub (pair_sub l j i hji hi)).rev).bare
  simpa using this
end Go.Proofs.Ytibgcekekmphoaa.P34
