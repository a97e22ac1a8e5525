/- Plain laws: conflict.Largest answers the first of the longest good sets. -/
import Derived.Test.YtibgcekekmphoaaTsub
import Derived.Test.YtibgcekekmphoaaGlargest
namespace Go.Proofs.Ytibgcekekmphoaa.P34
open Go.RowKit Go.Proofs.YtibgcekekmphoaaW.PrintWords Go.Proofs.YtibgcekekmphoaaW.PrintLast Go.Proofs.YtibgcekekmphoaaW.PrintMore
set_option linter.unusedVariables false
set_option linter.unusedSimpArgs false

/-- The lists that are gone over: all ascending ones, not empty, of the d indices from i on. -/
def asc : Nat → Nat → List (List Int)
  | 0, _ => []
  | d + 1, i => [(i : Int)] :: ((asc d (i + 1)).map ((i : Int) :: ·) ++ asc d (i + 1))
def lexB : List Int → List Int → Bool
  | _, [] => false
  | [], _ :: _ => true
  | a :: s, b :: t => if a = b then lexB s t else decide (a < b)
def befB (a b : List Int) : Bool := if a.length = b.length then lexB a b else decide (b.length < a.length)
def cellsOf (l1 : List S44) (t : List Int) : List S36 := t.map fun x => cellOf (rd_T44 l1 x)

theorem asc_mem (d : Nat) : ∀ i t, t ∈ asc d i → t ≠ [] ∧ t.Pairwise (· < ·) ∧ ∀ x ∈ t, (i : Int) ≤ x ∧ x < (i : Int) + d := by
  induction d with
  | zero => intro i t h; cases h
  | succ d ih =>
    intro i t h
    simp only [asc, List.mem_cons, List.mem_append, List.mem_map] at h
    rcases h with rfl | ⟨s, hs, rfl⟩ | h
    · refine ⟨by simp, by simp, fun x hx => ?_⟩
      simp at hx
      subst hx
      omega
    · obtain ⟨_, h2, h3⟩ := ih (i + 1) s hs
      refine ⟨by simp, List.pairwise_cons.2 ⟨fun x hx => ?_, h2⟩, fun x hx => ?_⟩
      · have := h3 x hx
        omega
      · rcases List.mem_cons.1 hx with rfl | hx
        · omega
        · have := h3 x hx
          omega
    · obtain ⟨h1, h2, h3⟩ := ih (i + 1) t h
      refine ⟨h1, h2, fun x hx => ?_⟩
      have := h3 x hx
      omega
theorem asc_of (d : Nat) : ∀ (i : Nat) (t : List Int), t ≠ [] → t.Pairwise (· < ·) → (∀ x ∈ t, (i : Int) ≤ x ∧ x < (i : Int) + d) → t ∈ asc d i := by
  induction d with
  | zero =>
    intro i t h1 _ h3
    obtain ⟨x, s, rfl⟩ := List.exists_cons_of_ne_nil h1
    have := h3 x (by simp)
    omega
  | succ d ih =>
    intro i t h1 h2 h3
    obtain ⟨x, s, rfl⟩ := List.exists_cons_of_ne_nil h1
    obtain ⟨p1, p2⟩ := List.pairwise_cons.1 h2
    have hx := h3 x (by simp)
    simp only [asc, List.mem_cons, List.mem_append, List.mem_map]
    by_cases e : x = (i : Int)
    · subst e
      by_cases es : s = []
      · exact Or.inl (by rw [es])
      · refine Or.inr (Or.inl ⟨s, ih (i + 1) s es p2 (fun y hy => ?_), rfl⟩)
        have a := p1 y hy
        have b := h3 y (by simp [hy])
        omega
    · refine Or.inr (Or.inr (ih (i + 1) (x :: s) h1 h2 (fun y hy => ?_)))
      have b := h3 y hy
      rcases List.mem_cons.1 hy with rfl | hy
      · omega
      · have a := p1 y hy
        omega
theorem asc_len (d : Nat) : ∀ i t, t ∈ asc d i → t.length ≤ d := by
  induction d with
  | zero => intro i t h; cases h
  | succ d ih =>
    intro i t h
    simp only [asc, List.mem_cons, List.mem_append, List.mem_map] at h
    rcases h with rfl | ⟨s, hs, rfl⟩ | h
    · simp
    · have := ih _ s hs
      simp
      omega
    · have := ih _ t h
      omega
theorem lex_cons (a : Int) (s t : List Int) : lexB (a :: s) (a :: t) = lexB s t := by simp [lexB]
theorem lex_nil {t : List Int} (h : t ≠ []) : lexB [] t = true := by
  obtain ⟨x, s, rfl⟩ := List.exists_cons_of_ne_nil h
  rfl
theorem asc_lex (d : Nat) : ∀ i, (asc d i).Pairwise (fun s t => lexB s t = true) := by
  induction d with
  | zero => exact fun i => List.Pairwise.nil
  | succ d ih =>
    intro i
    simp only [asc]
    refine List.pairwise_cons.2 ⟨fun t ht => ?_, List.pairwise_append.2 ⟨List.pairwise_map.2 ((ih (i + 1)).imp (fun h => by rw [lex_cons]; exact h)), ih (i + 1), fun s hs t ht => ?_⟩⟩
    · rcases List.mem_append.1 ht with ht | ht
      · obtain ⟨s, hs, rfl⟩ := List.mem_map.1 ht
        rw [lex_cons]
        exact lex_nil (asc_mem d _ s hs).1
      · obtain ⟨h1, _, h3⟩ := asc_mem d _ t ht
        obtain ⟨x, s, rfl⟩ := List.exists_cons_of_ne_nil h1
        have := h3 x (by simp)
        simp only [lexB]
        rw [if_neg (by omega)]
        exact decide_eq_true (by omega)
    · obtain ⟨s', hs', rfl⟩ := List.mem_map.1 hs
      obtain ⟨h1, _, h3⟩ := asc_mem d _ t ht
      obtain ⟨x, u, rfl⟩ := List.exists_cons_of_ne_nil h1
      have := h3 x (by simp)
      simp only [lexB]
      rw [if_neg (by omega)]
      exact decide_eq_true (by omega)
theorem lex_trans (a : List Int) : ∀ b c, lexB a b = true → lexB b c = true → lexB a c = true := by
  induction a with
  | nil =>
    intro b c h1 h2
    cases c with
    | nil => cases b <;> simp [lexB] at h2
    | cons => rfl
  | cons x a ih =>
    intro b c h1 h2
    cases b with
    | nil => simp [lexB] at h1
    | cons y b =>
      cases c with
      | nil => simp [lexB] at h2
      | cons z c =>
        simp only [lexB] at h1 h2 ⊢
        by_cases e1 : x = y
        · rw [if_pos e1] at h1
          subst e1
          by_cases e2 : x = z
          · rw [if_pos e2] at h2 ⊢
            exact ih b c h1 h2
          · rw [if_neg e2] at h2 ⊢
            exact h2
        · rw [if_neg e1] at h1
          have h1 := of_decide_eq_true h1
          by_cases e2 : y = z
          · subst e2
            rw [if_neg e1]
            exact decide_eq_true h1
          · rw [if_neg e2] at h2
            have h2 := of_decide_eq_true h2
            rw [if_neg (by omega)]
            exact decide_eq_true (by omega)
theorem lex_irrefl (a : List Int) : lexB a a = false := by
  induction a with
  | nil => rfl
  | cons x a ih => rw [lex_cons]; exact ih
theorem bef_trans {a b c : List Int} (h1 : befB a b = true) (h2 : befB b c = true) : befB a c = true := by
  unfold befB at h1 h2 ⊢
  by_cases e1 : a.length = b.length
  · rw [if_pos e1] at h1
    by_cases e2 : b.length = c.length
    · rw [if_pos e2] at h2
      rw [if_pos (e1.trans e2)]
      exact lex_trans a b c h1 h2
    · rw [if_neg e2] at h2
      have h2 := of_decide_eq_true h2
      rw [if_neg (by omega)]
      exact decide_eq_true (by omega)
  · rw [if_neg e1] at h1
    have h1 := of_decide_eq_true h1
    by_cases e2 : b.length = c.length
    · rw [if_neg (by omega)]
      exact decide_eq_true (by omega)
    · rw [if_neg e2] at h2
      have h2 := of_decide_eq_true h2
      rw [if_neg (by omega)]
      exact decide_eq_true (by omega)
theorem bef_irrefl (a : List Int) : befB a a = false := by unfold befB; rw [if_pos rfl]; exact lex_irrefl a
theorem bef_len {a b : List Int} (h : befB a b = true) : b.length ≤ a.length := by
  unfold befB at h
  split at h
  · omega
  · have := of_decide_eq_true h
    omega

/-- One candidate. -/
def tryOne (q : List Int → Bool) (b t : List Int) : List Int := if q t = true then upd t b else b
theorem fold_best (q : List Int → Bool) (L : List (List Int)) : ∀ b0, L.Pairwise (fun s t => lexB s t = true) → (∀ t ∈ L, lexB b0 t = true) →
    (L.foldl (tryOne q) b0 = b0 ∨ (L.foldl (tryOne q) b0 ∈ L ∧ q (L.foldl (tryOne q) b0) = true)) ∧ (∀ t ∈ L, q t = true → t = L.foldl (tryOne q) b0 ∨ befB (L.foldl (tryOne q) b0) t = true) ∧ (L.foldl (tryOne q) b0 = b0 ∨ befB (L.foldl (tryOne q) b0) b0 = true) := by
  induction L with
  | nil => exact fun b0 _ _ => ⟨Or.inl rfl, (fun t h => nomatch h), Or.inl rfl⟩
  | cons t L ih =>
    intro b0 hp hb
    obtain ⟨p1, p2⟩ := List.pairwise_cons.1 hp
    rw [List.foldl_cons]
    by_cases hc : q t = true ∧ b0.length < t.length
    · have e : tryOne q b0 t = t := by unfold tryOne upd; rw [if_pos hc.1, if_pos hc.2]
      have ht0 : befB t b0 = true := by unfold befB; rw [if_neg (by omega)]; exact decide_eq_true hc.2
      rw [e]
      obtain ⟨i1, i2, i3⟩ := ih t p2 p1
      refine ⟨Or.inr ?_, fun s hs hq => ?_, Or.inr ?_⟩
      · rcases i1 with i1 | ⟨i1, i4⟩
        · rw [i1]; exact ⟨by simp, hc.1⟩
        · exact ⟨by simp [i1], i4⟩
      · rcases List.mem_cons.1 hs with rfl | hs
        · rcases i3 with i3 | i3
          · exact Or.inl i3.symm
          · exact Or.inr i3
        · exact i2 s hs hq
      · rcases i3 with i3 | i3
        · rw [i3]; exact ht0
        · exact bef_trans i3 ht0
    · have e : tryOne q b0 t = b0 := by
        unfold tryOne upd
        by_cases h1 : q t = true
        · rw [if_pos h1, if_neg (fun h => hc ⟨h1, h⟩)]
        · rw [if_neg h1]
      rw [e]
      obtain ⟨i1, i2, i3⟩ := ih b0 p2 (fun s hs => hb s (by simp [hs]))
      refine ⟨?_, fun s hs hq => ?_, i3⟩
      · rcases i1 with i1 | ⟨i1, i4⟩
        · exact Or.inl i1
        · exact Or.inr ⟨by simp [i1], i4⟩
      · rcases List.mem_cons.1 hs with rfl | hs
        · have hlen : s.length ≤ b0.length := Nat.le_of_not_lt (fun h => hc ⟨hq, h⟩)
          have h0 : befB b0 s = true := by
            unfold befB
            split
            · exact hb s (by simp)
            · exact decide_eq_true (by omega)
          rcases i3 with i3 | i3
          · rw [i3]; exact Or.inr h0
          · exact Or.inr (bef_trans i3 h0)
        · exact i2 s hs hq
def tryOn (P : List S36 → Bool) (l1 : List S44) (set b t : List Int) : List Int := if P (cellsOf l1 (set ++ t)) = true then upd (set ++ t) b else b
theorem foldl_id {α β : Type} (f : β → α → β) (b : β) (L : List α) (h : ∀ t ∈ L, f b t = b) : L.foldl f b = b := by
  induction L with
  | nil => rfl
  | cons t L ih =>
    rw [List.foldl_cons, h t (by simp)]
    exact ih (fun s hs => h s (by simp [hs]))
theorem ext_fold (good : List S36 → Option Bool) (P : List S36 → Bool) (hP : ∀ cs, cs.length ≤ 100 → good cs = some (P cs)) (her : ∀ cs ds : List S36, (cs ++ ds).length ≤ 100 → P (cs ++ ds) = true → P cs = true) (l1 : List S44) (d : Nat) :
    ∀ i set best, set.length + d ≤ 100 → ext good l1 d i set (cellsOf l1 set) best = some ((asc d i).foldl (tryOn P l1 set) best) := by
  induction d with
  | zero => exact fun i set best h => rfl
  | succ d ih =>
    intro i set best h
    have ec : cellsOf l1 set ++ [cellOf (rd_T44 l1 (i : Int))] = cellsOf l1 (set ++ [(i : Int)]) := by simp [cellsOf]
    simp only [ext]
    rw [ec, hP _ (by simp [cellsOf]; omega)]
    simp only [Option.bind_some, asc, List.foldl_cons, List.foldl_append]
    have es : ∀ t, set ++ [(i : Int)] ++ t = set ++ (i : Int) :: t := fun t => by simp
    have ef : ∀ b, ((asc d (i + 1)).map ((i : Int) :: ·)).foldl (tryOn P l1 set) b = (asc d (i + 1)).foldl (tryOn P l1 (set ++ [(i : Int)])) b := by
      intro b
      rw [List.foldl_map]
      congr 1
      funext b t
      unfold tryOn
      rw [es]
    rw [ef]
    by_cases hg : P (cellsOf l1 (set ++ [(i : Int)])) = true
    · rw [if_pos hg, ih (i + 1) (set ++ [(i : Int)]) _ (by simp; omega)]
      simp only [Option.bind_some]
      rw [ih (i + 1) set _ (by omega)]
      have e1 : tryOn P l1 set best [(i : Int)] = upd (set ++ [(i : Int)]) best := by unfold tryOn; rw [if_pos hg]
      rw [e1]
    · rw [if_neg hg, ih (i + 1) set _ (by omega)]
      have e1 : tryOn P l1 set best [(i : Int)] = best := by unfold tryOn; rw [if_neg hg]
      rw [e1]
      have e2 : (asc d (i + 1)).foldl (tryOn P l1 (set ++ [(i : Int)])) best = best := by
        refine foldl_id _ _ _ (fun t ht => ?_)
        unfold tryOn
        rw [if_neg]
        intro hq
        have el : cellsOf l1 (set ++ [(i : Int)] ++ t) = cellsOf l1 (set ++ [(i : Int)]) ++ cellsOf l1 t := by simp [cellsOf]
        rw [el] at hq
        refine hg (her _ _ ?_ hq)
        obtain ⟨_, h2, h3⟩ := asc_mem d _ t ht
        have := asc_len d (i + 1) t ht
        simp [cellsOf]
        omega
      rw [e2]
end Go.Proofs.Ytibgcekekmphoaa.P34
namespace Go.Proofs.Ytibgcekekmphoaa.P34
open Go.RowKit Go.Proofs.YtibgcekekmphoaaW.PrintWords Go.Proofs.YtibgcekekmphoaaW.PrintLast Go.Proofs.YtibgcekekmphoaaW.PrintMore
set_option linter.unusedVariables false
set_option linter.unusedSimpArgs false

/-- What conflict.Largest answers for a valid network. -/
def best (P : List S36 → Bool) (l1 : List S44) : List Int := (asc l1.length 0).foldl (tryOn P l1 []) []
theorem tryOn_nil (P : List S36 → Bool) (l1 : List S44) : tryOn P l1 [] = tryOne (fun t => P (cellsOf l1 t)) := rfl
theorem best_facts (P : List S36 → Bool) (l1 : List S44) : (best P l1 = [] ∨ (best P l1 ∈ asc l1.length 0 ∧ P (cellsOf l1 (best P l1)) = true)) ∧ (∀ t ∈ asc l1.length 0, P (cellsOf l1 t) = true → t = best P l1 ∨ befB (best P l1) t = true) := by
  have h := fold_best (fun t => P (cellsOf l1 t)) (asc l1.length 0) [] (asc_lex _ _) (fun t ht => lex_nil (asc_mem _ _ t ht).1)
  rw [← tryOn_nil] at h
  exact ⟨h.1, h.2.1⟩
section
variable {m no th : Int} {pw : List (List Int)} {ls : List S44} {mg : List Int}
theorem good_nil (c : chk m pw no th ls mg = 0) : goodB m no th pw ls mg [] = true := by
  unfold goodB anyFault
  simp [c]
theorem good_sub (l' l : List S36) (hl : l.length ≤ 100) (h : l'.Sublist l) (g : goodB m no th pw ls mg l = true) : goodB m no th pw ls mg l' = true :=
  (good_gd l' (Nat.le_trans h.length_le hl)).2 (((good_gd l hl).1 g).sub h)
theorem Largest_eq (m no th : Int) (pw : List (List Int)) (ls : List S44) (mg : List Int) (l1 : List S44) (hl : l1.length ≤ 12) (k : Nat) (hk : 1200 ≤ k) (c : chk m pw no th ls mg = 0) :
    conflict_Largest.f k m pw no th ls mg l1 = some (best (goodB m no th pw ls mg) l1, 0) := by
  unfold conflict_Largest.f
  rw [check_eq m no th pw ls mg k (by omega)]
  simp only [Option.bind_some]
  rw [if_pos c, if_neg (by omega)]
  have h := ext_fold (conflict_Good.f k m pw no th ls mg) (goodB m no th pw ls mg) (fun cs hcs => Good_eq m no th pw ls mg cs hcs k hk)
    (fun cs ds hd g => good_sub cs (cs ++ ds) hd (List.sublist_append_left cs ds) g) l1 l1.length 0 [] [] (by simp; omega)
  rw [show cellsOf l1 [] = [] from rfl] at h
  rw [h]
  rfl
end
/-- The indices whose bits are set, from i on. -/
def picks (b : Int → Bool) : Nat → Nat → List Int
  | 0, _ => []
  | d + 1, i => if b (i : Int) = true then (i : Int) :: picks b d (i + 1) else picks b d (i + 1)
theorem picks_asc (b : Int → Bool) (d : Nat) : ∀ i, (picks b d i).Pairwise (· < ·) ∧ ∀ x ∈ picks b d i, (i : Int) ≤ x ∧ x < (i : Int) + d := by
  induction d with
  | zero => exact fun i => ⟨List.Pairwise.nil, fun x h => nomatch h⟩
  | succ d ih =>
    intro i
    obtain ⟨h1, h2⟩ := ih (i + 1)
    simp only [picks]
    split
    · refine ⟨List.pairwise_cons.2 ⟨fun x hx => ?_, h1⟩, fun x hx => ?_⟩
      · have := h2 x hx
        omega
      · rcases List.mem_cons.1 hx with rfl | hx
        · omega
        · have := h2 x hx
          omega
    · refine ⟨h1, fun x hx => ?_⟩
      have := h2 x hx
      omega
end Go.Proofs.Ytibgcekekmphoaa.P34
