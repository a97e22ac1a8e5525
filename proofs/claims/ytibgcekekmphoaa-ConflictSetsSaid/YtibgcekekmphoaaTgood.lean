/- Plain laws: what Index, Usable, Hears, faulty, First and Good answer at a network. -/
import Derived.Test.YtibgcekekmphoaaTdist
import Derived.Test.YtibgcekekmphoaaGfault
import Derived.Test.YtibgcekekmphoaaP34B
import Derived.Test.YtibgcekekmphoaaGidx
namespace Go.Proofs.Ytibgcekekmphoaa.P34
open Go.RowKit Go.Proofs.YtibgcekekmphoaaW.PrintWords Go.Proofs.YtibgcekekmphoaaW.PrintLast Go.Proofs.YtibgcekekmphoaaW.PrintMore
set_option linter.unusedVariables false
set_option linter.unusedSimpArgs false

theorem fe_zero (e : Int → Int) (d : Nat) : ∀ i, fe e d i = 0 → ∀ j : Nat, j < d → e (i + j) = 0 := by
  induction d with
  | zero => intro i _ j hj; omega
  | succ d ih =>
    intro i h j hj
    simp only [fe] at h
    split at h
    · rename_i h0
      cases j with
      | zero => simpa using h0
      | succ j =>
        have := ih (i + 1) h j (by omega)
        rw [show i + ((j + 1 : Nat) : Int) = i + 1 + (j : Int) from by omega]
        exact this
    · rename_i h0; exact absurd h h0

/-- A network without a fault. -/
structure Valid (m no th : Int) (pw : List (List Int)) (ls : List S44) (mg : List Int) : Prop where
  m2 : 2 ≤ m
  m32 : m ≤ 32
  len : (pw.length : Int) = m
  bl : badLen m pw = false
  bv : badVal pw = false
  no0 : 0 ≤ no
  no1 : no ≤ 68719476736
  th0 : 1000 ≤ th
  th1 : th ≤ 100000
  lsn : ls.length ≤ 128
  mgn : mg.length = ls.length
  lk : ∀ i : Int, 0 ≤ i → i < (ls.length : Int) → lErr m pw ls mg i = 0
theorem valid_of {m no th : Int} {pw : List (List Int)} {ls : List S44} {mg : List Int} (h : chk m pw no th ls mg = 0) : Valid m no th pw ls mg := by
  obtain ⟨a, b, c, d, e, f, g, h1, h2, h3⟩ := chk_zero h
  obtain ⟨p1, p2, p3⟩ := pErr_zero c
  refine ⟨a, b, p1, p2, p3, d, e, f, g, h1, h2, fun i hi0 hi1 => ?_⟩
  have := fe_zero _ _ _ h3 i.toNat (by omega)
  rwa [show (0 : Int) + (i.toNat : Int) = i from by omega] at this
theorem lErr_zero {m : Int} {pw : List (List Int)} {ls : List S44} {mg : List Int} {i : Int} (h : lErr m pw ls mg i = 0) :
    linkBad m (rd_T44 ls i).f0 (rd_T44 ls i).f1 (rd_T44 ls i).f2 = false ∧ (0 < i → linkLess (rd_T44 ls (i - 1)) (rd_T44 ls i) = true) ∧ 0 ≤ rd mg i ∧ rd mg i ≤ rd (rd_L1 pw (rd_T44 ls i).f0) (rd_T44 ls i).f1 := by
  unfold lErr at h
  split at h
  · cases h
  · rename_i c1
    split at h
    · cases h
    · rename_i c2
      split at h
      · cases h
      · rename_i c3
        refine ⟨by simpa using c1, fun hp => ?_, by omega, by omega⟩
        cases hl : linkLess (rd_T44 ls (i - 1)) (rd_T44 ls i) with
        | true => rfl
        | false => exact absurd ⟨hp, hl⟩ c2
theorem linkBad_false {m F T L : Int} (h : linkBad m F T L = false) : (0 ≤ F ∧ F < m) ∧ (0 ≤ T ∧ T < m) ∧ F ≠ T := by
  unfold linkBad at h
  simp only [Bool.or_eq_false_iff, Bool.not_eq_false', Bool.and_eq_true, decide_eq_true_eq, beq_eq_false_iff_ne] at h
  obtain ⟨⟨⟨⟨a, b⟩, c⟩, _⟩, _⟩ := h
  exact ⟨a, b, c⟩

section
variable {m no th : Int} {pw : List (List Int)} {ls : List S44} {mg : List Int}
theorem Valid.link (V : Valid m no th pw ls mg) {i : Int} (h0 : 0 ≤ i) (h1 : i < (ls.length : Int)) : (0 ≤ (rd_T44 ls i).f0 ∧ (rd_T44 ls i).f0 < m) ∧ (0 ≤ (rd_T44 ls i).f1 ∧ (rd_T44 ls i).f1 < m) ∧ (rd_T44 ls i).f0 ≠ (rd_T44 ls i).f1 := linkBad_false (lErr_zero (V.lk i h0 h1)).1
theorem Valid.power (V : Valid m no th pw ls mg) {a b : Int} (ha : nodeB m a = true) (hb : nodeB m b = true) : 0 ≤ rd (rd_L1 pw a) b ∧ rd (rd_L1 pw a) b ≤ 68719476736 := by
  have ha' := nodeB_iff.1 ha
  have hb' := nodeB_iff.1 hb
  have hl := badLen_at V.bl a ha'.1 (by have := V.len; omega)
  have h := V.bv
  rw [badVal_from] at h
  have h2 := anyFrom_false h a ha'.1 (by have := V.len; omega)
  rw [badRow_from] at h2
  have h3 := anyFrom_false h2 b hb'.1 (by omega)
  unfold outOf at h3
  simp only [Bool.or_eq_false_iff, decide_eq_false_iff_not] at h3
  omega
theorem Valid.margin (V : Valid m no th pw ls mg) {i : Int} (h0 : 0 ≤ i) (h1 : i < (ls.length : Int)) : 0 ≤ rd mg i ∧ rd mg i ≤ 68719476736 := by
  obtain ⟨_, _, a, b⟩ := lErr_zero (V.lk i h0 h1)
  obtain ⟨c, d, _⟩ := V.link h0 h1
  have := V.power (nodeB_iff.2 c) (nodeB_iff.2 d)
  omega
theorem Valid.asc (V : Valid m no th pw ls mg) : ascB ls = true := by
  have step : ∀ t : Nat, 0 < t → t < ls.length → linkLess (rd_T44 ls ((t : Int) - 1)) (rd_T44 ls (t : Int)) = true := fun t h0 h1 => (lErr_zero (V.lk (t : Int) (by omega) (by omega))).2.1 (by omega)
  have all : ∀ d s : Nat, s + d + 1 < ls.length → linkLess (rd_T44 ls (s : Int)) (rd_T44 ls ((s + d + 1 : Nat) : Int)) = true := by
    intro d
    induction d with
    | zero =>
      intro s hs
      have := step (s + 1) (by omega) hs
      rwa [show ((s + 1 : Nat) : Int) - 1 = (s : Int) from by omega] at this
    | succ d ih =>
      intro s hs
      have h1 := ih s (by omega)
      have h2 := step (s + (d + 1) + 1) (by omega) hs
      rw [show ((s + (d + 1) + 1 : Nat) : Int) - 1 = ((s + d + 1 : Nat) : Int) from by omega] at h2
      rw [linkLess_iff] at h1 h2 ⊢
      omega
  unfold ascB
  rw [List.all_eq_true]
  intro t ht
  rw [List.all_eq_true]
  intro s hs
  have ht := List.mem_range.1 ht
  have hs := List.mem_range.1 hs
  have := all (t - s - 1) s (by omega)
  rwa [show s + (t - s - 1) + 1 = t from by omega] at this

theorem findIx_at {F T : Int} (h : 0 ≤ findIx ls F T) : findIx ls F T < (ls.length : Int) ∧ (rd_T44 ls (findIx ls F T)).f0 = F ∧ (rd_T44 ls (findIx ls F T)).f1 = T := by
  unfold findIx at h ⊢
  cases hf : (List.range ls.length).find? (fun (t : Nat) => (rd_T44 ls (t : Int)).f0 == F && (rd_T44 ls (t : Int)).f1 == T) with
  | none => rw [hf] at h; simp at h
  | some i =>
    have h1 := List.find?_some hf
    have h2 := List.mem_range.1 (List.mem_of_find?_eq_some hf)
    simp only [Bool.and_eq_true, beq_iff_eq] at h1
    exact ⟨by show (i : Int) < _; omega, h1.1, h1.2⟩

theorem Index_eq (m no th : Int) (pw : List (List Int)) (ls : List S44) (mg : List Int) (F T : Int) (k : Nat) (hk : 200 ≤ k) : network_Index.f k m pw no th ls mg F T = some (if chk m pw no th ls mg = 0 then findIx ls F T else -1) := by
  unfold network_Index.f
  rw [check_eq m no th pw ls mg k hk]
  simp only [Option.bind_some]
  by_cases c : chk m pw no th ls mg = 0
  · rw [if_pos c, if_pos c]
    unfold network_find.f
    rw [if_pos (valid_of c).asc]
    rfl
  · rw [if_neg c, if_neg c]

def heardB (no th s d : Int) : Bool := decide (wrap64 (th * wrap64 (no + d)) ≤ wrap64 (s * 1000))
def hearsB (no th s d : Int) : Bool := decide (0 ≤ s ∧ 0 ≤ d ∧ s ≤ 8796093022208 ∧ d ≤ 8796093022208) && heardB no th s d
theorem Hears_eq (m no th : Int) (pw : List (List Int)) (ls : List S44) (mg : List Int) (s d : Int) (k : Nat) (hk : 200 ≤ k) (c : chk m pw no th ls mg = 0) : network_Hears.f k m pw no th ls mg s d = some (hearsB no th s d) := by
  obtain ⟨k, rfl⟩ : ∃ q, k = q + 1 := ⟨k - 1, by omega⟩
  have hj : ∀ b, network_Hears.j0 (k + 1) s d b m pw no th ls mg = if b = true then some false else some (heardB no th s d) := fun b => by
    simp only [network_Hears.j0, network_hears.f, heardB]
    rfl
  unfold network_Hears.f hearsB
  rw [check_eq m no th pw ls mg (k + 1) hk]
  simp only [Option.bind_some, c, if_true, hj]
  unfold mn mx
  by_cases h1 : s < 0 ∨ d < 0
  · rw [if_pos (by split <;> omega), decide_eq_false (by omega)]; rfl
  · rw [if_neg (by split <;> omega)]
    by_cases h2 : s ≤ 8796093022208 ∧ d ≤ 8796093022208
    · rw [decide_eq_false (by split <;> omega), if_neg (by simp), decide_eq_true (by omega)]; rfl
    · rw [decide_eq_true (by split <;> omega), if_pos rfl, decide_eq_false (by omega)]; rfl

/-- Whether the link with an index is usable. -/
def usI (no th : Int) (ls : List S44) (mg : List Int) (i : Int) : Bool :=
  decide (0 ≤ i ∧ i < (ls.length : Int)) && (decide (0 ≤ findIx ls (rd_T44 ls i).f1 (rd_T44 ls i).f0) && (heardB no th (rd mg i) 0 && heardB no th (rd mg (findIx ls (rd_T44 ls i).f1 (rd_T44 ls i).f0)) 0))
theorem usable_eq (V : Valid m no th pw ls mg) (i : Int) (h0 : 0 ≤ i) (h1 : i < (ls.length : Int)) : network_usable.f m pw no th ls mg i = some (usI no th ls mg i) := by
  have hh : ∀ s, network_hears.f m pw no th ls mg s 0 = some (heardB no th s 0) := fun s => rfl
  have hfd : ∀ F T, network_find.f m pw no th ls mg F T = some (findIx ls F T) := fun F T => by unfold network_find.f; rw [if_pos V.asc]
  have hmg := V.mgn
  unfold network_usable.f usI
  rw [if_pos h0, if_pos h1, hfd, decide_eq_true (p := 0 ≤ i ∧ i < (ls.length : Int)) ⟨h0, h1⟩]
  simp only [Option.bind_some, Bool.true_and]
  generalize hb : findIx ls (rd_T44 ls i).f1 (rd_T44 ls i).f0 = b
  by_cases c : 0 ≤ b
  · have hb2 : b < (ls.length : Int) := by rw [← hb]; exact (findIx_at (by rw [hb]; exact c)).1
    rw [if_pos (show b ≥ 0 from c), if_pos (show i < (mg.length : Int) by omega), hh, hh, decide_eq_true c]
    simp only [Option.bind_some, Bool.true_and]
    cases heardB no th (rd mg i) 0 with
    | false => rfl
    | true => rw [if_pos rfl, if_pos c, if_pos (show b < (mg.length : Int) by omega)]; rfl
  · rw [if_neg (show ¬ b ≥ 0 from c), decide_eq_false c]; rfl
theorem Usable_eq (m no th : Int) (pw : List (List Int)) (ls : List S44) (mg : List Int) (i : Int) (k : Nat) (hk : 200 ≤ k) (c : chk m pw no th ls mg = 0) : network_Usable.f k m pw no th ls mg i = some (usI no th ls mg i) := by
  have V := valid_of c
  unfold network_Usable.f
  rw [check_eq m no th pw ls mg k hk]
  simp only [Option.bind_some, c, if_true]
  by_cases h0 : 0 ≤ i
  · rw [if_pos (show i ≥ 0 from h0)]
    by_cases h1 : i < (ls.length : Int)
    · rw [if_pos h1, usable_eq V i h0 h1]; rfl
    · rw [if_neg h1]; unfold usI; rw [decide_eq_false (by omega)]; rfl
  · rw [if_neg (show ¬ i ≥ 0 from h0)]; unfold usI; rw [decide_eq_false (by omega)]; rfl

/-- Whether the cell with an index has a fault. -/
def faultB (m no th : Int) (pw : List (List Int)) (ls : List S44) (mg : List Int) (l : List S36) (i : Int) : Bool :=
  !usI no th ls mg (findIx ls (rd_T36 l i).f2 (rd_T36 l i).f3) || (touchesAny l i ||
    (!hearsB no th (rd mg (findIx ls (rd_T36 l i).f2 (rd_T36 l i).f3)) (dsum m pw l i (rd_T36 l i).f3) || !hearsB no th (rd mg (findIx ls (rd_T36 l i).f3 (rd_T36 l i).f2)) (dsum m pw l i (rd_T36 l i).f2)))
theorem usI_true {i : Int} (h : usI no th ls mg i = true) : (0 ≤ i ∧ i < (ls.length : Int)) ∧ 0 ≤ findIx ls (rd_T44 ls i).f1 (rd_T44 ls i).f0 ∧ heardB no th (rd mg i) 0 = true ∧ heardB no th (rd mg (findIx ls (rd_T44 ls i).f1 (rd_T44 ls i).f0)) 0 = true := by
  unfold usI at h
  simp only [Bool.and_eq_true, decide_eq_true_eq] at h
  exact ⟨h.1, h.2.1, h.2.2.1, h.2.2.2⟩
theorem faulty_eq (m no th : Int) (pw : List (List Int)) (ls : List S44) (mg : List Int) (l : List S36) (hl : l.length ≤ 100) (i : Int) (h0 : 0 ≤ i) (h1 : i < (l.length : Int)) (k : Nat) (hk : 1000 ≤ k) (c : chk m pw no th ls mg = 0) :
    conflict_faulty.f k m pw no th ls mg l i = some (faultB m no th pw ls mg l i) := by
  have V := valid_of c
  unfold conflict_faulty.f faultB
  rw [if_pos ⟨h0, h1⟩, Index_eq m no th pw ls mg _ _ k (by omega), Index_eq m no th pw ls mg _ _ k (by omega)]
  simp only [Option.bind_some, c, if_true]
  rw [Usable_eq m no th pw ls mg _ k (by omega) c]
  simp only [Option.bind_some]
  generalize hF : (rd_T36 l i).f2 = F
  generalize hT : (rd_T36 l i).f3 = T
  cases hu : usI no th ls mg (findIx ls F T) with
  | false => rfl
  | true =>
    obtain ⟨⟨a0, a1⟩, b0, _, _⟩ := usI_true hu
    obtain ⟨_, e1, e2⟩ := findIx_at a0
    rw [e1, e2] at b0
    have lk := V.link a0 a1
    rw [e1, e2] at lk
    obtain ⟨b1, _, _⟩ := findIx_at b0
    have hmg := V.mgn
    have hh : ∀ link nd, 0 ≤ link → link < (ls.length : Int) → nodeB m nd = true → heard.f k m pw no th ls mg l i link nd = some (hearsB no th (rd mg link) (dsum m pw l i nd)) := fun link nd q0 q1 qn => by
      unfold heard.f
      rw [if_pos ⟨q0, by omega⟩, disturbance_eq m no th pw ls mg l i nd V.len V.bl qn (by omega) k (by omega)]
      simp only [Option.bind_some]
      exact Hears_eq m no th pw ls mg _ _ k (by omega) c
    rw [if_pos rfl]
    cases touchesAny l i with
    | true => rfl
    | false =>
      rw [if_neg (by simp), hh _ _ a0 a1 (nodeB_iff.2 lk.2.1), hh _ _ b0 b1 (nodeB_iff.2 lk.1)]
      simp only [Option.bind_some]
      cases hearsB no th (rd mg (findIx ls F T)) (dsum m pw l i T) with
      | false => rfl
      | true => rfl

def anyFault (m no th : Int) (pw : List (List Int)) (ls : List S44) (mg : List Int) (l : List S36) : Bool := (List.range l.length).any fun j => faultB m no th pw ls mg l (j : Int)
theorem first_l0 (m no th : Int) (pw : List (List Int)) (ls : List S44) (mg : List Int) (l : List S36) (hl : l.length ≤ 100) (c : chk m pw no th ls mg = 0) (d : Nat) :
    ∀ (k : Nat) (i : Nat), i + d = l.length → 1000 + d ≤ k → (∀ j : Nat, j < i → faultB m no th pw ls mg l (j : Int) = false) → conflict_First.l0 k l (l.length : Int) (i : Int) m pw no th ls mg = some (idx (fun j => faultB m no th pw ls mg l (j : Int)) l.length, anyFault m no th pw ls mg l) := by
  induction d with
  | zero =>
    intro k i hi hk ha
    obtain ⟨k, rfl⟩ : ∃ q, k = q + 1 := ⟨k - 1, by omega⟩
    simp only [conflict_First.l0]
    rw [if_neg (show ¬ (i : Int) < (l.length : Int) by omega), idx_miss (fun j hj => ha j (by omega))]
    have : anyFault m no th pw ls mg l = false := by
      unfold anyFault
      rw [List.any_eq_false]
      intro x hx
      rw [ha x (by have := List.mem_range.1 hx; omega)]
      simp
    rw [this]
  | succ d ih =>
    intro k i hi hk ha
    obtain ⟨k, rfl⟩ : ∃ q, k = q + 1 := ⟨k - 1, by omega⟩
    simp only [conflict_First.l0]
    rw [if_pos (show (i : Int) < (l.length : Int) by omega), faulty_eq m no th pw ls mg l hl (i : Int) (by omega) (by omega) k (by omega) c]
    simp only [Option.bind_some]
    cases hf : faultB m no th pw ls mg l (i : Int) with
    | true =>
      rw [if_pos rfl, idx_hit (k := i) (by omega) hf ha]
      have : anyFault m no th pw ls mg l = true := by
        unfold anyFault
        rw [List.any_eq_true]
        exact ⟨i, List.mem_range.2 (by omega), hf⟩
      rw [this]
    | false =>
      rw [if_neg (by simp), wrap_in (by omega) (by omega), show (i : Int) + 1 = ((i + 1 : Nat) : Int) from by omega]
      refine ih k (i + 1) (by omega) (by omega) (fun j hj => ?_)
      by_cases e : j = i
      · rw [e]; exact hf
      · exact ha j (by omega)
def goodB (m no th : Int) (pw : List (List Int)) (ls : List S44) (mg : List Int) (l : List S36) : Bool := decide (chk m pw no th ls mg = 0) && !anyFault m no th pw ls mg l
theorem First_eq (m no th : Int) (pw : List (List Int)) (ls : List S44) (mg : List Int) (l : List S36) (hl : l.length ≤ 100) (k : Nat) (hk : 1200 ≤ k) :
    conflict_First.f k m pw no th ls mg l = some (if chk m pw no th ls mg = 0 then (idx (fun j => faultB m no th pw ls mg l (j : Int)) l.length, anyFault m no th pw ls mg l) else (-1, false)) := by
  unfold conflict_First.f
  rw [check_eq m no th pw ls mg k (by omega)]
  simp only [Option.bind_some]
  by_cases c : chk m pw no th ls mg = 0
  · rw [if_pos c, if_pos c]
    exact first_l0 m no th pw ls mg l hl c l.length k 0 (by omega) (by omega) (fun j hj => absurd hj (by omega))
  · rw [if_neg c, if_neg c]
theorem Good_eq (m no th : Int) (pw : List (List Int)) (ls : List S44) (mg : List Int) (l : List S36) (hl : l.length ≤ 100) (k : Nat) (hk : 1200 ≤ k) :
    conflict_Good.f k m pw no th ls mg l = some (goodB m no th pw ls mg l) := by
  unfold conflict_Good.f goodB
  rw [First_eq m no th pw ls mg l hl k hk, check_eq m no th pw ls mg k (by omega)]
  simp only [Option.bind_some]
  by_cases c : chk m pw no th ls mg = 0
  · rw [if_pos c, if_pos c, decide_eq_true c]; rfl
  · rw [if_neg c, decide_eq_false c]; rfl
end
end Go.Proofs.Ytibgcekekmphoaa.P34
