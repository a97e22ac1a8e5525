/- Plain law: ConflictHears answers true. -/
import Derived.Test.YtibgcekekmphoaaTshare
import Derived.Test.YtibgcekekmphoaaGhears
namespace Go.Proofs.Ytibgcekekmphoaa.P34
open Go.RowKit Go.Proofs.YtibgcekekmphoaaW.PrintWords Go.Proofs.YtibgcekekmphoaaW.PrintLast Go.Proofs.YtibgcekekmphoaaW.PrintMore
set_option linter.unusedVariables false
set_option linter.unusedSimpArgs false

def okEnd (ls : List S44) (c : S36) : Prop := 0 ≤ findIx ls c.f2 c.f3 ∧ 0 ≤ findIx ls c.f3 c.f2
section
variable {m no th : Int} {pw : List (List Int)} {ls : List S44} {mg : List Int}
theorem okEnd_nodes (V : Valid m no th pw ls mg) {c : S36} (h : okEnd ls c) : nodeB m c.f2 = true ∧ nodeB m c.f3 = true ∧ findIx ls c.f2 c.f3 < (ls.length : Int) ∧ findIx ls c.f3 c.f2 < (ls.length : Int) := by
  obtain ⟨a, b⟩ := h
  obtain ⟨a1, e1, e2⟩ := findIx_at a
  obtain ⟨b1, _, _⟩ := findIx_at b
  have lk := V.link a a1
  rw [e1, e2] at lk
  exact ⟨nodeB_iff.2 lk.1, nodeB_iff.2 lk.2.1, a1, b1⟩
theorem badEnd_ok (V : Valid m no th pw ls mg) {c : S36} (h : okEnd ls c) : badEnd (findIx ls c.f2 c.f3) (findIx ls c.f3 c.f2) m mg c = false := by
  obtain ⟨n1, n2, a1, b1⟩ := okEnd_nodes V h
  obtain ⟨a, b⟩ := h
  have n1 := nodeB_iff.1 n1
  have n2 := nodeB_iff.1 n2
  have := V.mgn
  unfold badEnd
  simp only [Bool.or_eq_false_iff, decide_eq_false_iff_not]
  omega
theorem badEnd_no {c : S36} (h : ¬ okEnd ls c) : badEnd (findIx ls c.f2 c.f3) (findIx ls c.f3 c.f2) m mg c = true := by
  unfold okEnd at h
  unfold badEnd
  simp only [Bool.or_eq_true, decide_eq_true_eq]
  omega
theorem bad_good (l : List S36) (hl : l.length ≤ 100) (j : Nat) (hj : j < l.length) (h : ¬ okEnd ls l[j]) : goodB m no th pw ls mg l = false := by
  cases hg : goodB m no th pw ls mg l with
  | false => rfl
  | true =>
    obtain ⟨c, g⟩ := (goodB_iff l hl).1 hg
    obtain ⟨_, _, _, a, b⟩ := us_nodes (valid_of c) (g j hj).us
    exact absurd ⟨a.1, b.1⟩ h
/-- What is said of a cell, as the law reckons it. -/
def wB (m no th : Int) (pw : List (List Int)) (ls : List S44) (mg : List Int) (l : List S36) (i : Nat) (a b : Int) (want : Bool) (seen : List Bool) : Bool :=
  want && (!seen.getD (rd_T36 l (i : Int)).f2.toNat false && (!seen.getD (rd_T36 l (i : Int)).f3.toNat false && (hearsB no th (rd mg a) (distV m no th pw ls mg l (i : Int) (rd_T36 l (i : Int)).f3) && hearsB no th (rd mg b) (distV m no th pw ls mg l (i : Int) (rd_T36 l (i : Int)).f2))))
theorem w_eq (c : chk m pw no th ls mg = 0) (l : List S36) (hl : l.length ≤ 100) (k : Nat) (hk : 1000 ≤ k) (i : Nat) (a b : Int) (want : Bool) (seen : List Bool) :
    hears.w k m pw no th ls mg l i a b want seen = some (wB m no th pw ls mg l i a b want seen) := by
  unfold hears.w wB
  rw [Disturbance_eq m no th pw ls mg l _ _ hl k hk, Disturbance_eq m no th pw ls mg l _ _ hl k hk]
  simp only [Option.bind_some, Hears_eq m no th pw ls mg _ _ k (by omega : 200 ≤ k) c]
  cases want with
  | false => rfl
  | true =>
    cases seen.getD (rd_T36 l (i : Int)).f2.toNat false with
    | true => rfl
    | false =>
      cases seen.getD (rd_T36 l (i : Int)).f3.toNat false with
      | true => rfl
      | false =>
        cases hearsB no th (rd mg a) (distV m no th pw ls mg l (i : Int) (rd_T36 l (i : Int)).f3) with
        | true => rfl
        | false => rfl
theorem hears_bad (c : chk m pw no th ls mg = 0) (l : List S36) (hl : l.length ≤ 100) (k : Nat) (hk : 1200 ≤ k) (d : Nat) :
    ∀ (i : Nat) (want : Bool) (seen : List Bool), i + d = l.length → (∃ j, i ≤ j ∧ ∃ h : j < l.length, ¬ okEnd ls l[j]) → hears.l k m pw no th ls mg l d i want seen = some true := by
  induction d with
  | zero =>
    rintro i want seen hi ⟨j, h1, h2, _⟩
    omega
  | succ d ih =>
    rintro i want seen hi ⟨j, h1, h2, h3⟩
    have hlt : i < l.length := by omega
    have hr : rd_T36 l (i : Int) = l[i] := by simp [rd_T36, List.getD_eq_getElem?_getD, List.getElem?_eq_getElem hlt]
    simp only [hears.l]
    rw [Index_eq m no th pw ls mg _ _ k (by omega), Index_eq m no th pw ls mg _ _ k (by omega), if_pos c, if_pos c, hr]
    simp only [Option.bind_some]
    by_cases hb : okEnd ls l[i]
    · rw [badEnd_ok (valid_of c) hb, if_neg (by simp), w_eq c l hl k (by omega)]
      simp only [Option.bind_some]
      refine ih _ _ _ (by omega) ⟨j, ?_, h2, h3⟩
      by_cases e : j = i
      · subst e; exact absurd hb h3
      · omega
    · rw [badEnd_no hb, if_pos rfl, Good_eq m no th pw ls mg l hl k hk, bad_good l hl i hlt hb]
      rfl

/-- Both margins are heard with the disturbance. -/
def hB (m no th : Int) (pw : List (List Int)) (ls : List S44) (mg : List Int) (l : List S36) (c : S36) : Bool :=
  hearsB no th (rd mg (findIx ls c.f2 c.f3)) ((l.map (share m pw c.f3)).sum - share m pw c.f3 c) && hearsB no th (rd mg (findIx ls c.f3 c.f2)) ((l.map (share m pw c.f2)).sum - share m pw c.f2 c)
theorem hears0 (V : Valid m no th pw ls mg) {s d : Int} (h : hearsB no th s d = true) : heardB no th s 0 = true := by
  have h2 := h
  unfold hearsB at h2
  simp only [Bool.and_eq_true, decide_eq_true_eq] at h2
  have := hears_mono V.no0 (Int.le_refl _) V.no1 V.th0 (Int.le_refl _) V.th1 (Int.le_refl 0) h2.1.2.1 h
  unfold hearsB at this
  rw [Bool.and_eq_true] at this
  exact this.2
theorem hears_good (c : chk m pw no th ls mg = 0) (l : List S36) (hl : l.length ≤ 100) (k : Nat) (hk : 1200 ≤ k) (ok : ∀ j, ∀ h : j < l.length, okEnd ls l[j]) (d : Nat) :
    ∀ (i : Nat) (want : Bool) (seen : List Bool), i + d = l.length → seen.length = m.toNat →
      (∀ x : Int, nodeB m x = true → (seen.getD x.toNat false = true ↔ ∃ j, j < i ∧ ∃ h : j < l.length, l[j].f2 = x ∨ l[j].f3 = x)) →
      (want = true ↔ ∀ j, j < i → ∀ h : j < l.length, (∀ t, t < j → ∀ h2 : t < l.length, touchB l[j] l[t] = false) ∧ hB m no th pw ls mg l l[j] = true) →
      hears.l k m pw no th ls mg l d i want seen = some true := by
  have V := valid_of c
  have v0 := V.m2
  have nd := fun j (h : j < l.length) => okEnd_nodes V (ok j h)
  have hne : anyNoEnd m l = false := by
    unfold anyNoEnd
    rw [List.any_eq_false]
    intro x hx
    have hx := List.mem_range.1 hx
    have hr : rd_T36 l (x : Int) = l[x] := by simp [rd_T36, List.getD_eq_getElem?_getD, List.getElem?_eq_getElem hx]
    unfold noEnd
    rw [hr, (nd x hx).1, (nd x hx).2.1]
    simp
  induction d with
  | zero =>
    intro i want seen hi _ _ hw
    simp only [hears.l]
    rw [Good_eq m no th pw ls mg l hl k hk]
    simp only [Option.bind_some]
    have e : goodB m no th pw ls mg l = want := by
      rw [Bool.eq_iff_iff, hw, goodB_iff l hl]
      constructor
      · rintro ⟨_, g⟩ j _ hj
        obtain ⟨_, tc, h1, h2⟩ := g j hj
        refine ⟨fun t ht h2 => tc t h2 (by omega), ?_⟩
        unfold hB
        rw [h1, h2]; rfl
      · intro g
        refine ⟨c, fun j hj => ?_⟩
        obtain ⟨tc, hb⟩ := g j (by omega) hj
        unfold hB at hb
        rw [Bool.and_eq_true] at hb
        obtain ⟨n1, n2, a1, b1⟩ := nd j hj
        obtain ⟨a0, b0⟩ := ok j hj
        obtain ⟨_, e1, e2⟩ := findIx_at a0
        refine ⟨?_, fun t ht hne => ?_, hb.1, hb.2⟩
        · unfold usI
          rw [decide_eq_true ⟨a0, a1⟩, e1, e2, decide_eq_true b0, hears0 V hb.1, hears0 V hb.2]
          rfl
        · by_cases q : t < j
          · exact tc t q ht
          · have := (g t (by omega) ht).1 j (by omega) hj
            unfold touchB at this ⊢
            simp only [Bool.or_eq_false_iff, beq_eq_false_iff_ne] at this ⊢
            obtain ⟨⟨p1, p2⟩, p3, p4⟩ := this
            exact ⟨⟨Ne.symm p1, Ne.symm p3⟩, Ne.symm p2, Ne.symm p4⟩
    rw [e]
    simp
  | succ d ih =>
    intro i want seen hi hlen hs hw
    have hlt : i < l.length := by omega
    have hr : rd_T36 l (i : Int) = l[i] := by simp [rd_T36, List.getD_eq_getElem?_getD, List.getElem?_eq_getElem hlt]
    obtain ⟨n1, n2, a1, b1⟩ := nd i hlt
    have n1' := nodeB_iff.1 n1
    have n2' := nodeB_iff.1 n2
    simp only [hears.l]
    rw [Index_eq m no th pw ls mg _ _ k (by omega), Index_eq m no th pw ls mg _ _ k (by omega), if_pos c, if_pos c, hr]
    simp only [Option.bind_some]
    rw [badEnd_ok V (ok i hlt), if_neg (by simp), w_eq c l hl k (by omega)]
    simp only [Option.bind_some]
    have dv : ∀ x, nodeB m x = true → distV m no th pw ls mg l (i : Int) x = (l.map (share m pw x)).sum - share m pw x l[i] := fun x hx => by
      unfold distV
      rw [← sx_eq _ l i hlt, ← dsum_eq V hx l _ (by omega)]
      simp [c, hne, hx]
      rw [if_neg (by omega), if_neg (by omega)]
    have gset : ∀ (s : List Bool) (p q : Nat), p < s.length → (s.set p true).getD q false = if q = p then true else s.getD q false := fun s p q hp => by
      rw [List.getD_eq_getElem?_getD, List.getD_eq_getElem?_getD, List.getElem?_set]
      by_cases e : q = p
      · rw [if_pos e, if_pos e.symm, if_pos hp]; rfl
      · rw [if_neg e, if_neg (Ne.symm e)]
    refine ih (i + 1) _ _ (by omega) (by simp [hlen]) (fun x hx => ?_) ?_
    · have hx' := nodeB_iff.1 hx
      rw [gset _ _ _ (by rw [List.length_set]; omega), gset _ _ _ (by omega)]
      constructor
      · intro h
        split at h
        · exact ⟨i, by omega, hlt, Or.inr (by omega)⟩
        · split at h
          · exact ⟨i, by omega, hlt, Or.inl (by omega)⟩
          · obtain ⟨j, hj, h2, h3⟩ := (hs x hx).1 h
            exact ⟨j, by omega, h2, h3⟩
      · rintro ⟨j, hj, h2, h3⟩
        by_cases e : j = i
        · subst e
          rcases h3 with h3 | h3
          · split
            · rfl
            · rw [if_pos (by omega)]
          · rw [if_pos (by omega)]
        · split
          · rfl
          · split
            · rfl
            · exact (hs x hx).2 ⟨j, by omega, h2, h3⟩
    · unfold wB
      rw [hr, dv _ n1, dv _ n2]
      simp only [Bool.and_eq_true, Bool.not_eq_true']
      have tf : (seen.getD l[i].f2.toNat false = false ∧ seen.getD l[i].f3.toNat false = false) ↔ ∀ t, t < i → ∀ h2 : t < l.length, touchB l[i] l[t] = false := by
        rw [← Bool.not_eq_true, ← Bool.not_eq_true, hs _ n1, hs _ n2]
        constructor
        · rintro ⟨p, q⟩ t ht h2
          unfold touchB
          simp only [Bool.or_eq_false_iff, beq_eq_false_iff_ne]
          exact ⟨⟨fun e => p ⟨t, ht, h2, Or.inl e.symm⟩, fun e => p ⟨t, ht, h2, Or.inr e.symm⟩⟩, fun e => q ⟨t, ht, h2, Or.inl e.symm⟩, fun e => q ⟨t, ht, h2, Or.inr e.symm⟩⟩
        · intro g
          have g' : ∀ t, t < i → ∀ h2 : t < l.length, (l[i].f2 ≠ l[t].f2 ∧ l[i].f2 ≠ l[t].f3) ∧ l[i].f3 ≠ l[t].f2 ∧ l[i].f3 ≠ l[t].f3 := fun t ht h2 => by
            have := g t ht h2
            unfold touchB at this
            simpa only [Bool.or_eq_false_iff, beq_eq_false_iff_ne] using this
          refine ⟨?_, ?_⟩
          · rintro ⟨t, ht, h2, e | e⟩
            · exact (g' t ht h2).1.1 e.symm
            · exact (g' t ht h2).1.2 e.symm
          · rintro ⟨t, ht, h2, e | e⟩
            · exact (g' t ht h2).2.1 e.symm
            · exact (g' t ht h2).2.2 e.symm
      constructor
      · rintro ⟨q0, q1, q2, q3, q4⟩ j hj h2
        by_cases e : j = i
        · subst e
          refine ⟨tf.1 ⟨q1, q2⟩, ?_⟩
          unfold hB
          rw [q3, q4]; rfl
        · exact hw.1 q0 j (by omega) h2
      · intro g
        obtain ⟨g1, g2⟩ := g i (by omega) hlt
        obtain ⟨q1, q2⟩ := tf.2 g1
        unfold hB at g2
        rw [Bool.and_eq_true] at g2
        exact ⟨hw.2 (fun j hj h2 => g j (by omega) h2), q1, q2, g2.1, g2.2⟩
end
theorem ConflictHears_pure (m : Int) (pw : List (List Int)) (no th : Int) (ls : List S44) (mg : List Int) (hm : pw.length ≤ 9223372036854775807) (l : List S36) : ∃ k, hopmeshlaw34_ConflictHears.f k m pw no th ls mg l = some true := by
  refine ⟨pw.length + 5001, ?_⟩
  unfold hopmeshlaw34_ConflictHears.f
  rw [few_eq m no th pw ls mg hm _ (by omega), check_eq m no th pw ls mg _ (by omega)]
  simp only [Option.bind_some]
  cases hf : fewB pw ls mg with
  | false => rfl
  | true =>
    rw [if_pos rfl]
    by_cases c : chk m pw no th ls mg = 0
    · have V := valid_of c
      have v0 := V.m2
      have v1 := V.m32
      rw [if_pos c]
      by_cases hl : 4 < (l.length : Int)
      · rw [if_pos hl]
      · rw [if_neg hl, if_pos (by omega)]
        by_cases ok : ∀ j, ∀ h : j < l.length, okEnd ls l[j]
        · refine hears_good c l (by omega) _ (by omega) ok l.length 0 true _ (by omega) (by simp) (fun x hx => ?_) ?_
          · constructor
            · intro h
              rw [List.getD_eq_getElem?_getD] at h
              have := nodeB_iff.1 hx
              rw [List.getElem?_replicate, if_pos (by omega)] at h
              cases h
            · rintro ⟨j, hj, _⟩
              omega
          · exact ⟨fun _ j hj => absurd hj (by omega), fun _ => rfl⟩
        · have : ∃ j, ∃ h : j < l.length, ¬ okEnd ls l[j] := by
            apply Classical.byContradiction
            intro hn
            exact ok fun j h => Classical.byContradiction fun hh => hn ⟨j, h, hh⟩
          obtain ⟨j, h, hh⟩ := this
          exact hears_bad c l (by omega) _ (by omega) l.length 0 true _ (by omega) ⟨j, by omega, h, hh⟩
    · rw [if_neg c]
end Go.Proofs.Ytibgcekekmphoaa.P34
