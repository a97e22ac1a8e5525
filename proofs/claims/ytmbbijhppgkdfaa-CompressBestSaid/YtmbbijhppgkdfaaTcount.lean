/- Counting strings in a map, and the order by counts: plain laws. -/
import Derived.Test.YtmbbijhppgkdfaaProg
import Derived.Maps.Views
import Derived.Maps.OwnSet
import Derived.Sort.KeysCollected
import Derived.Sort.Walk0
import Derived.Sort.Statements
namespace Go.Proofs.Ytmbbijhppgkdfaa.P14
open Go.Maps Go.Sort
set_option linter.unusedVariables false
set_option linter.unusedSimpArgs false

abbrev DM := DataW Unit
/-- The datum of a map that counts the strings occ. -/
structure Cnt (D : DM) (occ : List (List UInt8)) : Prop where
  ex : ∃ es, D = .map es ∧ es.Pairwise (fun p q => p.1 ≠ q.1) ∧ (∀ p ∈ es, ∃ s, p = (.string s, .lit (.int .i64 (occ.count s : Int))) ∧ s ∈ occ) ∧ ∀ s ∈ occ, ∃ p ∈ es, p.1 = .string s
theorem mem_insert (x p : Lit × DM) : ∀ l : List (Lit × DM), p ∈ DataW.insert x l ↔ p = x ∨ p ∈ l
  | [] => by simp [DataW.insert]
  | y :: r => by
    unfold DataW.insert
    split
    · simp
    · simp only [List.mem_cons, mem_insert x p r]
      constructor
      · rintro (h | h | h)
        · exact Or.inr (Or.inl h)
        · exact Or.inl h
        · exact Or.inr (Or.inr h)
      · rintro (h | h | h)
        · exact Or.inr (Or.inl h)
        · exact Or.inl h
        · exact Or.inr (Or.inr h)
theorem Cnt.nil : Cnt (.map []) [] := ⟨[], rfl, List.Pairwise.nil, fun p hp => absurd hp (by simp), fun s hs => absurd hs (by simp)⟩
theorem Cnt.at {D : DM} {occ : List (List UInt8)} (h : Cnt D occ) (s : List UInt8) : D.atKey (.string s) (.lit (.int .i64 0)) = .lit (.int .i64 (occ.count s : Int)) := by
  obtain ⟨es, rfl, _, h2, h3⟩ := h.ex
  simp only [DataW.atKey]
  cases hf : es.find? (fun p => p.1.sameKey (.string s)) with
  | some p =>
    have hm := List.mem_of_find?_eq_some hf
    have hp := List.find?_some hf
    obtain ⟨t, rfl, _⟩ := h2 p hm
    have ht : t = s := by simpa [Lit.sameKey] using hp
    subst ht
    rfl
  | none =>
    have hn : ¬ s ∈ occ := fun hs => by
      obtain ⟨p, hp, he⟩ := h3 s hs
      have := List.find?_eq_none.mp hf p hp
      rw [he] at this
      simp [Lit.sameKey] at this
    rw [List.count_eq_zero_of_not_mem hn]
    rfl
theorem Cnt.put {D : DM} {occ : List (List UInt8)} (h : Cnt D occ) (s : List UInt8) : Cnt (D.put (.string s) (.lit (.int .i64 ((occ.count s : Int) + 1)))) (occ ++ [s]) := by
  have ht : Tidy D := by obtain ⟨es, e, hp, _⟩ := h.ex; exact ⟨es, e, hp⟩
  have ht2 := Tidy.put ht (k := .string s) trivial (.lit (.int .i64 ((occ.count s : Int) + 1)))
  obtain ⟨es2, e2, hp2⟩ := ht2
  obtain ⟨es, rfl, _, h2, h3⟩ := h.ex
  refine ⟨es2, e2, hp2, ?_, ?_⟩
  all_goals
    have e3 : es2 = DataW.insert (.string s, .lit (.int .i64 ((occ.count s : Int) + 1))) (es.filter fun p => !p.1.sameKey (.string s)) := by
      have : DataW.map es2 = DataW.map (DataW.insert (.string s, .lit (.int .i64 ((occ.count s : Int) + 1))) (es.filter fun p => !p.1.sameKey (.string s))) := e2.symm
      injection this
    subst e3
  · intro p hp
    rcases (mem_insert _ p _).mp hp with rfl | hp
    · exact ⟨s, by rw [List.count_append]; simp, by simp⟩
    · obtain ⟨hm, hk⟩ := List.mem_filter.mp hp
      obtain ⟨t, rfl, hto⟩ := h2 p hm
      have hts : ¬ t = s := by simpa [Lit.sameKey] using hk
      refine ⟨t, ?_, by simp [hto]⟩
      have : List.count t [s] = 0 := List.count_eq_zero_of_not_mem (by simpa using hts)
      rw [List.count_append, this, Nat.add_zero]
  · intro t ht
    rw [List.mem_append, List.mem_singleton] at ht
    by_cases hts : t = s
    · subst hts
      exact ⟨_, (mem_insert _ _ _).mpr (Or.inl rfl), rfl⟩
    · obtain ⟨p, hp, he⟩ := h3 t (by rcases ht with h | h; exact h; exact absurd h hts)
      refine ⟨p, (mem_insert _ _ _).mpr (Or.inr (List.mem_filter.mpr ⟨hp, ?_⟩)), he⟩
      rw [he]
      simpa [Lit.sameKey] using hts
theorem Cnt.keys {D : DM} {occ : List (List UInt8)} (h : Cnt D occ) : (strKeys D).Nodup ∧ ∀ s, s ∈ strKeys D ↔ s ∈ occ := by
  obtain ⟨es, rfl, h1, h2, h3⟩ := h.ex
  refine ⟨?_, fun s => ⟨fun hs => ?_, fun hs => ?_⟩⟩
  · show (es.map fun p => strOf p.1).Nodup
    rw [List.nodup_iff_pairwise_ne, List.pairwise_map]
    refine List.Pairwise.imp_of_mem (fun {p q} hp hq hne => ?_) h1
    obtain ⟨a, rfl, _⟩ := h2 p hp
    obtain ⟨b, rfl, _⟩ := h2 q hq
    intro e
    exact hne (by simpa [strOf] using e)
  · obtain ⟨p, hp, he⟩ := List.mem_map.mp hs
    obtain ⟨a, rfl, ha⟩ := h2 p hp
    subst he
    exact ha
  · obtain ⟨p, hp, he⟩ := h3 s hs
    exact List.mem_map.mpr ⟨p, hp, by rw [he]; rfl⟩
/-- The order of Best: the greater count first, then the lesser string. -/
def cmpL (x y : List UInt8) : Int := if x < y then -1 else if y < x then 1 else 0
def cmpN (x y : Int) : Int := if x < y then -1 else if y < x then 1 else 0
def cfB (occ : List (List UInt8)) (x y : List UInt8) : Int := if cmpN (occ.count y : Int) (occ.count x : Int) ≠ 0 then cmpN (occ.count y : Int) (occ.count x : Int) else cmpL x y
def ltB (occ : List (List UInt8)) (x y : List UInt8) : Bool := decide (occ.count y < occ.count x) || (decide (occ.count y = occ.count x) && decide (x < y))
theorem cfB_lt (occ : List (List UInt8)) (x y : List UInt8) : decide (cfB occ x y < 0) = ltB occ x y := by
  unfold cfB ltB cmpN cmpL
  by_cases h1 : occ.count y < occ.count x
  · rw [if_pos (show (occ.count y : Int) < (occ.count x : Int) by omega), decide_eq_true h1, Bool.true_or]
    rfl
  · rw [if_neg (show ¬ (occ.count y : Int) < (occ.count x : Int) by omega), decide_eq_false h1, Bool.false_or]
    by_cases h2 : occ.count x < occ.count y
    · rw [if_pos (show (occ.count x : Int) < (occ.count y : Int) by omega), decide_eq_false (show ¬ occ.count y = occ.count x by omega), Bool.false_and]
      rfl
    · rw [if_neg (show ¬ (occ.count x : Int) < (occ.count y : Int) by omega), decide_eq_true (show occ.count y = occ.count x by omega), Bool.true_and, if_neg (by simp)]
      by_cases h3 : x < y
      · rw [if_pos h3, decide_eq_true h3]; rfl
      · rw [if_neg h3, decide_eq_false h3]
        split <;> rfl
theorem ltL_irr (x : List UInt8) : ¬ x < x := List.lt_irrefl x
theorem ltL_trans {x y z : List UInt8} (h1 : x < y) (h2 : y < z) : x < z := List.lt_trans h1 h2
theorem ltL_tri (x y : List UInt8) (h1 : ¬ x < y) (h2 : ¬ y < x) : x = y := List.le_antisymm (List.not_lt.mp h2) (List.not_lt.mp h1)
theorem ltB_iff (occ : List (List UInt8)) (x y : List UInt8) : ltB occ x y = true ↔ occ.count y < occ.count x ∨ occ.count y = occ.count x ∧ x < y := by
  unfold ltB
  simp
theorem ltB_irr (occ : List (List UInt8)) (x : List UInt8) : ltB occ x x = false := by
  cases h : ltB occ x x with
  | false => rfl
  | true =>
    rcases (ltB_iff occ x x).mp h with h | ⟨_, h⟩
    · omega
    · exact absurd h (ltL_irr x)
theorem ltB_trans (occ : List (List UInt8)) (x y z : List UInt8) (h1 : ltB occ x y = true) (h2 : ltB occ y z = true) : ltB occ x z = true := by
  rw [ltB_iff] at *
  rcases h1 with h1 | ⟨h1, l1⟩
  · rcases h2 with h2 | ⟨h2, l2⟩
    · exact Or.inl (by omega)
    · exact Or.inl (by omega)
  · rcases h2 with h2 | ⟨h2, l2⟩
    · exact Or.inl (by omega)
    · exact Or.inr ⟨by omega, ltL_trans l1 l2⟩
theorem ltB_tri (occ : List (List UInt8)) (x y : List UInt8) (h1 : ltB occ x y = false) (h2 : ltB occ y x = false) : x = y := by
  have n1 : ¬ ltB occ x y = true := by rw [h1]; decide
  have n2 : ¬ ltB occ y x = true := by rw [h2]; decide
  rw [ltB_iff] at n1 n2
  have e : occ.count x = occ.count y := by
    rcases Nat.lt_trichotomy (occ.count x) (occ.count y) with h | h | h
    · exact absurd (Or.inl h) n2
    · exact h
    · exact absurd (Or.inl h) n1
  exact ltL_tri x y (fun h => n1 (Or.inr ⟨e.symm, h⟩)) (fun h => n2 (Or.inr ⟨e, h⟩))
theorem ltB_swo (occ : List (List UInt8)) : SWO (ltB occ) where
  irrefl := ltB_irr occ
  trans := ltB_trans occ
  ntrans := fun x y z h1 h2 => by
    cases h3 : ltB occ x z with
    | false => rfl
    | true =>
      cases h4 : ltB occ y x with
      | true =>
        have := ltB_trans occ y x z h4 h3
        rw [h2] at this
        cases this
      | false =>
        have e := ltB_tri occ x y h1 h4
        subst e
        rw [h2] at h3
        cases h3
/-- The keys, sorted: what is known of them. -/
structure Keyd (occ ks : List (List UInt8)) : Prop where
  nodup : ks.Nodup
  mem : ∀ s, s ∈ ks ↔ s ∈ occ
  sorted : ks.Pairwise fun x y => ltB occ x y = true
theorem keyd_sort (occ ss : List (List UInt8)) (hn : ss.Nodup) (hm : ∀ s, s ∈ ss ↔ s ∈ occ) : Keyd occ (ss.mergeSort fun x y => !(ltB occ) y x) := by
  have hp := List.mergeSort_perm ss (fun x y => !(ltB occ) y x)
  refine ⟨hp.nodup_iff.mpr hn, fun s => by rw [hp.mem_iff, hm], ?_⟩
  have hs := List.pairwise_mergeSort (le := fun x y => !(ltB occ) y x) (fun x y z h1 h2 => by
    simp only [Bool.not_eq_true'] at *
    exact (ltB_swo occ).ntrans z y x h2 h1) (fun x y => by
    cases h1 : ltB occ y x with
    | false => rfl
    | true =>
      cases h2 : ltB occ x y with
      | false => rfl
      | true =>
        have := ltB_trans occ x y x h2 h1
        rw [ltB_irr] at this
        cases this) ss
  have hnd : (ss.mergeSort fun x y => !(ltB occ) y x).Nodup := hp.nodup_iff.mpr hn
  rw [List.nodup_iff_pairwise_ne] at hnd
  refine (hs.and hnd).imp fun {x y} ⟨h1, h2⟩ => ?_
  simp only [Bool.not_eq_true'] at h1
  cases h3 : ltB occ x y with
  | true => rfl
  | false => exact absurd (ltB_tri occ x y h3 h1) h2
theorem Keyd.perm {occ ks ls : List (List UInt8)} (h : Keyd occ ks) (k : Keyd occ ls) : ks.Perm ls := by
  rw [List.perm_iff_count]
  intro s
  rw [h.nodup.count, k.nodup.count]
  have : s ∈ ks ↔ s ∈ ls := by rw [h.mem, k.mem]
  by_cases hs : s ∈ ks
  · rw [if_pos hs, if_pos (this.mp hs)]
  · rw [if_neg hs, if_neg (fun hl => hs (this.mpr hl))]
theorem Keyd.unique {occ ks ls : List (List UInt8)} (h : Keyd occ ks) (k : Keyd occ ls) : ks = ls :=
  (h.perm k).eq_of_pairwise (fun a b _ _ h1 h2 => by
    have := ltB_trans occ a b a h1 h2
    rw [ltB_irr] at this
    cases this) h.sorted k.sorted
end Go.Proofs.Ytmbbijhppgkdfaa.P14
