/- Plain laws: what Check of a network answers, the program's and the reference's alike. -/
import Derived.Test.YtibgcekekmphoaaP34N
import Derived.Test.YtibgcekekmphoaaP34C
namespace Go.Proofs.Ytibgcekekmphoaa.P34
open Go.RowKit Go.Proofs.YtibgcekekmphoaaW.PrintWords Go.Proofs.YtibgcekekmphoaaW.PrintLast Go.Proofs.YtibgcekekmphoaaW.PrintMore
set_option linter.unusedVariables false
set_option linter.unusedSimpArgs false

def anyFrom (p : Int → Bool) : Nat → Int → Bool
  | 0, _ => false
  | d + 1, i => p i || anyFrom p d (i + 1)
theorem anyFrom_iff (p : Int → Bool) (d : Nat) : ∀ i, anyFrom p d i = true ↔ ∃ j : Nat, j < d ∧ p (i + j) = true := by
  induction d with
  | zero => intro i; simp [anyFrom]
  | succ d ih =>
    intro i
    simp only [anyFrom, Bool.or_eq_true, ih]
    constructor
    · rintro (h | ⟨j, hj, h⟩)
      · exact ⟨0, by omega, by simpa using h⟩
      · exact ⟨j + 1, by omega, by rw [show i + ((j + 1 : Nat) : Int) = i + 1 + (j : Int) from by omega]; exact h⟩
    · rintro ⟨j, hj, h⟩
      cases j with
      | zero => exact .inl (by simpa using h)
      | succ j => exact .inr ⟨j, by omega, by rw [show i + 1 + (j : Int) = i + ((j + 1 : Nat) : Int) from by omega]; exact h⟩
theorem range_any (p : Int → Bool) (n : Nat) : ((List.range n).any fun j => p (j : Int)) = anyFrom p n 0 := by
  rw [Bool.eq_iff_iff, anyFrom_iff, List.any_eq_true]
  constructor
  · rintro ⟨x, hx, h⟩
    exact ⟨x, List.mem_range.1 hx, by simpa using h⟩
  · rintro ⟨j, hj, h⟩
    exact ⟨j, List.mem_range.2 hj, by simpa using h⟩

theorem wrap_in {i : Int} (h0 : -9223372036854775808 ≤ i) (h1 : i ≤ 9223372036854775807) : wrap64 i = i := by unfold wrap64; omega

def outOf (x : Int) : Bool := decide (x < 0) || decide (68719476736 < x)
theorem badRow_from (row : List Int) : badRow row = anyFrom (fun i => outOf (rd row i)) row.length 0 := by
  unfold badRow outOf
  rw [← range_any]
  congr 1
theorem badLen_from (m : Int) (pw : List (List Int)) : badLen m pw = anyFrom (fun j => ((rd_L1 pw j).length : Int) != m) pw.length 0 := by
  unfold badLen
  rw [← range_any]
  congr 1
theorem badVal_from (pw : List (List Int)) : badVal pw = anyFrom (fun j => badRow (rd_L1 pw j)) pw.length 0 := by
  unfold badVal
  rw [← range_any]
  congr 1

def pErr (m : Int) (pw : List (List Int)) : Int := if (pw.length : Int) = m then (if badLen m pw = true then 1 else if badVal pw = true then 2 else 0) else 1
def lErr (m : Int) (pw : List (List Int)) (ls : List S44) (mg : List Int) (i : Int) : Int :=
  if linkBad m (rd_T44 ls i).f0 (rd_T44 ls i).f1 (rd_T44 ls i).f2 = true then 2
  else if 0 < i ∧ linkLess (rd_T44 ls (i - 1)) (rd_T44 ls i) = false then 5
  else if rd mg i < 0 ∨ rd (rd_L1 pw (rd_T44 ls i).f0) (rd_T44 ls i).f1 < rd mg i then 2 else 0
def fe (e : Int → Int) : Nat → Int → Int
  | 0, _ => 0
  | d + 1, i => if e i = 0 then fe e d (i + 1) else e i
def chk (m : Int) (pw : List (List Int)) (no th : Int) (ls : List S44) (mg : List Int) : Int :=
  if m < 2 ∨ 32 < m then 2 else if pErr m pw ≠ 0 then pErr m pw else if no < 0 ∨ 68719476736 < no ∨ th < 1000 ∨ 100000 < th then 2
  else if 128 < ls.length then 8 else if mg.length ≠ ls.length then 11 else fe (lErr m pw ls mg) ls.length 0

theorem checkPower_eq (m no th : Int) (pw : List (List Int)) (ls : List S44) (mg : List Int) : network_checkPower.f m pw no th ls mg = some (pErr m pw) := rfl
theorem pErr_zero {m : Int} {pw : List (List Int)} (h : pErr m pw = 0) : (pw.length : Int) = m ∧ badLen m pw = false ∧ badVal pw = false := by
  unfold pErr at h
  split at h
  · rename_i h1
    refine ⟨h1, ?_⟩
    split at h
    · cases h
    · rename_i h2
      split at h
      · cases h
      · rename_i h3
        exact ⟨by simpa using h2, by simpa using h3⟩
  · cases h

theorem check_loop (m no th : Int) (pw : List (List Int)) (ls : List S44) (mg : List Int) (h1 : (pw.length : Int) = m) (h2 : badLen m pw = false) (h3 : mg.length = ls.length) (h4 : ls.length ≤ 128) (d : Nat) :
    ∀ (k : Nat) (i : Int), 0 ≤ i → i + d = ls.length → d < k → network_Check.l0 k (ls.length : Int) i m pw no th ls mg = some (fe (lErr m pw ls mg) d i) := by
  induction d with
  | zero =>
    intro k i h0 hi hk
    obtain ⟨k, rfl⟩ : ∃ q, k = q + 1 := ⟨k - 1, by omega⟩
    simp only [network_Check.l0, fe]
    rw [if_neg (by omega)]
  | succ d ih =>
    intro k i h0 hi hk
    obtain ⟨k, rfl⟩ : ∃ q, k = q + 1 := ⟨k - 1, by omega⟩
    simp only [network_Check.l0, fe]
    rw [if_pos (by omega)]
    have hl : network_checkLink.f m pw no th ls mg i = some (lErr m pw ls mg i) := by
      unfold network_checkLink.f
      rw [if_pos ⟨h0, by omega, h3, h1, h2⟩]
      rfl
    rw [hl]
    simp only [Option.bind_some]
    split
    · rw [wrap_in (by omega) (by omega)]
      exact ih k (i + 1) (by omega) (by omega) (by omega)
    · rfl

theorem check_eq (m no th : Int) (pw : List (List Int)) (ls : List S44) (mg : List Int) (k : Nat) (hk : 200 ≤ k) : network_Check.f k m pw no th ls mg = some (chk m pw no th ls mg) := by
  obtain ⟨k, rfl⟩ : ∃ q, k = q + 2 := ⟨k - 2, by omega⟩
  have hj1 : ∀ b, network_Check.j1 (k + 1) b m pw no th ls mg = if b = true then some 2 else (if (ls.length : Int) > 128 then (some 8) else (if (mg.length : Int) = (ls.length : Int) then (network_Check.l0 k (ls.length : Int) 0 m pw no th ls mg) else (some 11))) := fun b => by simp only [network_Check.j1]
  have hj0 : ∀ b, network_Check.j0 (k + 2) b m pw no th ls mg = if b = true then some 2 else if pErr m pw = 0 then (if no < 0 ∨ 68719476736 < no ∨ th < 1000 ∨ 100000 < th then some 2 else network_Check.j1 (k + 1) false m pw no th ls mg) else some (pErr m pw) := fun b => by
    simp only [network_Check.j0, checkPower_eq, Option.bind_some]
    cases b with
    | true => rfl
    | false =>
      simp only [Bool.false_eq_true, if_false]
      split
      · by_cases c1 : no < 0
        · simp [c1, hj1]
        · by_cases c2 : no > 68719476736
          · simp [c1, c2, hj1]
          · by_cases c3 : th < 1000
            · simp [c1, c2, c3, hj1]
            · by_cases c4 : th > 100000
              · simp [c1, c2, c3, c4, hj1]
              · rw [if_neg c1, if_neg c2, if_neg c3, if_neg (by omega), decide_eq_false c4]
      · rfl
  unfold network_Check.f chk
  rw [hj0, hj0]
  by_cases c0 : m < 2
  · simp [c0]
  · by_cases c1 : m > 32
    · simp [c0, c1]
    · rw [if_neg c0, decide_eq_false c1, if_neg (show ¬ (false = true) by simp), if_neg (show ¬ (m < 2 ∨ 32 < m) by omega)]
      by_cases c2 : pErr m pw = 0
      · rw [if_pos c2, if_neg (show ¬ pErr m pw ≠ 0 by simpa using c2)]
        by_cases c3 : no < 0 ∨ 68719476736 < no ∨ th < 1000 ∨ 100000 < th
        · rw [if_pos c3, if_pos c3]
        · rw [if_neg c3, if_neg c3, hj1, if_neg (show ¬ (false = true) by simp)]
          by_cases c4 : 128 < ls.length
          · rw [if_pos (show (ls.length : Int) > 128 by omega), if_pos c4]
          · rw [if_neg (show ¬ (ls.length : Int) > 128 by omega), if_neg c4]
            by_cases c5 : mg.length = ls.length
            · obtain ⟨p1, p2, p3⟩ := pErr_zero c2
              rw [if_pos (show (mg.length : Int) = (ls.length : Int) by omega), if_neg (show ¬ mg.length ≠ ls.length by omega), check_loop m no th pw ls mg p1 p2 c5 (by omega) ls.length k 0 (by omega) (by omega) (by omega)]
            · rw [if_neg (show ¬ (mg.length : Int) = (ls.length : Int) by omega), if_pos c5]
      · rw [if_neg c2, if_pos c2]

/-! ### the reference's -/
theorem in_eq (a b c : Int) : hopmeshref31_in.f a b c = some (decide (b ≤ a) && decide (a ≤ c)) := by
  unfold hopmeshref31_in.f
  by_cases h : b ≤ a
  · rw [if_pos (show a ≥ b from h), decide_eq_true h]; rfl
  · rw [if_neg (show ¬ a ≥ b from h), decide_eq_false h]; rfl

theorem anyFrom_false {p : Int → Bool} {d : Nat} {i : Int} (h : anyFrom p d i = false) (j : Int) (h0 : i ≤ j) (h1 : j < i + d) : p j = false := by
  cases hp : p j with
  | false => rfl
  | true =>
    have := (anyFrom_iff p d i).2 ⟨(j - i).toNat, by omega, by rw [show i + ((j - i).toNat : Int) = j from by omega]; exact hp⟩
    rw [this] at h; cases h

def sel {α : Type} (b : Bool) (x y : α) : α := match b with | true => x | false => y
theorem sel_eq {α : Type} (b : Bool) (x y : α) : sel b x y = if b = true then x else y := by cases b <;> rfl

theorem table_l0 (m no th : Int) (pw : List (List Int)) (ls : List S44) (mg : List Int) (hm : m ≤ 32) (h1 : (pw.length : Int) = m) (d : Nat) :
    ∀ (k : Nat) (i : Int), 0 ≤ i → i + d = m → d < k → hopmeshref31_table.l0 k i m pw no th ls mg = sel (anyFrom (fun j => ((rd_L1 pw j).length : Int) != m) d i) (some 1) (hopmeshref31_table.l1 (k - d - 1) 0 m pw no th ls mg) := by
  induction d with
  | zero =>
    intro k i h0 hi hk
    obtain ⟨k, rfl⟩ : ∃ q, k = q + 1 := ⟨k - 1, by omega⟩
    simp only [hopmeshref31_table.l0, anyFrom]
    rw [if_neg (show ¬ i < m by omega)]
    rfl
  | succ d ih =>
    intro k i h0 hi hk
    obtain ⟨k, rfl⟩ : ∃ q, k = q + 1 := ⟨k - 1, by omega⟩
    simp only [hopmeshref31_table.l0, anyFrom]
    rw [if_pos (show i < m by omega), if_pos h0, if_pos (show i < (pw.length : Int) by omega)]
    by_cases c : ((rd_L1 pw i).length : Int) = m
    · rw [if_pos c, wrap_in (by omega) (by omega), ih k (i + 1) (by omega) (by omega) (by omega), bne_eq_false_iff_eq.mpr c, Bool.false_or, show k + 1 - (d + 1) - 1 = k - d - 1 from by omega]
    · rw [if_neg c, bne_iff_ne.mpr c, Bool.true_or]; rfl

theorem table_l2 (m no th : Int) (pw : List (List Int)) (ls : List S44) (mg : List Int) (hm : m ≤ 32) (h1 : (pw.length : Int) = m) (r : Int) (hr0 : 0 ≤ r) (hr1 : r < m) (hl : ((rd_L1 pw r).length : Int) = m) (d : Nat) :
    ∀ (k : Nat) (i : Int), 0 ≤ i → i + d = m → d < k → hopmeshref31_table.l2 k r i m pw no th ls mg = sel (anyFrom (fun j => outOf (rd (rd_L1 pw r) j)) d i) (some 2) (hopmeshref31_table.l1 (k - d - 1) (r + 1) m pw no th ls mg) := by
  induction d with
  | zero =>
    intro k i h0 hi hk
    obtain ⟨k, rfl⟩ : ∃ q, k = q + 1 := ⟨k - 1, by omega⟩
    simp only [hopmeshref31_table.l2, anyFrom]
    rw [if_neg (show ¬ i < m by omega), wrap_in (by omega) (by omega)]
    rfl
  | succ d ih =>
    intro k i h0 hi hk
    obtain ⟨k, rfl⟩ : ∃ q, k = q + 1 := ⟨k - 1, by omega⟩
    simp only [hopmeshref31_table.l2, anyFrom]
    rw [if_pos (show i < m by omega), if_pos hr0, if_pos (show r < (pw.length : Int) by omega), if_pos h0, if_pos (show i < ((rd_L1 pw r).length : Int) by omega), in_eq]
    simp only [Option.bind_some]
    have ho : (decide (0 ≤ rd (rd_L1 pw r) i) && decide (rd (rd_L1 pw r) i ≤ 68719476736)) = !outOf (rd (rd_L1 pw r) i) := by
      unfold outOf
      generalize rd (rd_L1 pw r) i = x
      by_cases a : x < 0
      · simp [a] <;> omega
      · by_cases b : 68719476736 < x
        · simp [a, b] <;> omega
        · simp [a, b] <;> omega
    rw [ho]
    cases outOf (rd (rd_L1 pw r) i) with
    | true => rfl
    | false =>
      rw [if_pos (show (!false) = true from rfl), wrap_in (by omega) (by omega), ih k (i + 1) (by omega) (by omega) (by omega), Bool.false_or, show k + 1 - (d + 1) - 1 = k - d - 1 from by omega]

theorem table_l1 (m no th : Int) (pw : List (List Int)) (ls : List S44) (mg : List Int) (hm0 : 0 ≤ m) (hm : m ≤ 32) (h1 : (pw.length : Int) = m) (h2 : badLen m pw = false) (d : Nat) :
    ∀ (k : Nat) (i : Int), 0 ≤ i → i + d = m → d * 40 < k → hopmeshref31_table.l1 k i m pw no th ls mg = sel (anyFrom (fun j => badRow (rd_L1 pw j)) d i) (some 2) (some 0) := by
  induction d with
  | zero =>
    intro k i h0 hi hk
    obtain ⟨k, rfl⟩ : ∃ q, k = q + 1 := ⟨k - 1, by omega⟩
    simp only [hopmeshref31_table.l1, anyFrom]
    rw [if_neg (show ¬ i < m by omega)]
    rfl
  | succ d ih =>
    intro k i h0 hi hk
    obtain ⟨k, rfl⟩ : ∃ q, k = q + 1 := ⟨k - 1, by omega⟩
    simp only [hopmeshref31_table.l1, anyFrom]
    rw [if_pos (show i < m by omega)]
    have hl : ((rd_L1 pw i).length : Int) = m := badLen_at h2 i h0 (by omega)
    rw [table_l2 m no th pw ls mg hm h1 i h0 (by omega) hl (rd_L1 pw i).length k 0 (by omega) (by omega) (by omega), ← badRow_from]
    cases badRow (rd_L1 pw i) with
    | true => rfl
    | false =>
      show hopmeshref31_table.l1 _ _ _ _ _ _ _ _ = _
      rw [ih _ (i + 1) (by omega) (by omega) (by omega), Bool.false_or]

theorem table_eq (m no th : Int) (pw : List (List Int)) (ls : List S44) (mg : List Int) (hm0 : 0 ≤ m) (hm : m ≤ 32) (k : Nat) (hk : 2000 ≤ k) : hopmeshref31_table.f k m pw no th ls mg = some (pErr m pw) := by
  unfold hopmeshref31_table.f pErr
  by_cases h1 : (pw.length : Int) = m
  · rw [if_pos h1, if_pos h1, table_l0 m no th pw ls mg hm h1 pw.length k 0 (by omega) (by omega) (by omega), ← badLen_from]
    cases h2 : badLen m pw with
    | true => rfl
    | false =>
      rw [if_neg (show ¬ (false = true) by simp)]
      show hopmeshref31_table.l1 _ _ _ _ _ _ _ _ = _
      rw [table_l1 m no th pw ls mg hm0 hm h1 h2 pw.length _ 0 (by omega) (by omega) (by omega), ← badVal_from]
      cases badVal pw <;> rfl
  · rw [if_neg h1, if_neg h1]

theorem link_eq (m no th : Int) (pw : List (List Int)) (ls : List S44) (mg : List Int) (hm0 : 2 ≤ m) (hm : m ≤ 32) (h1 : (pw.length : Int) = m) (h2 : badLen m pw = false) (h3 : mg.length = ls.length) (h4 : ls.length ≤ 128) (k : Nat) (hk : 2 ≤ k) (i : Int) (hi0 : 0 ≤ i) (hi1 : i < (ls.length : Int)) :
    hopmeshref31_link.f k m pw no th ls mg i = some (lErr m pw ls mg i) := by
  obtain ⟨k, rfl⟩ : ∃ q, k = q + 2 := ⟨k - 2, by omega⟩
  unfold hopmeshref31_link.f lErr
  rw [if_pos hi0, if_pos hi1, wrap_in (by omega) (by omega), in_eq, in_eq, in_eq]
  simp only [Option.bind_some]
  generalize hF : (rd_T44 ls i).f0 = F
  generalize hT : (rd_T44 ls i).f1 = T
  generalize hL : (rd_T44 ls i).f2 = L
  have hj0 : hopmeshref31_link.j0 (k + 2) i true m pw no th ls mg F T L = some 2 := by simp only [hopmeshref31_link.j0]; rfl
  have hb : ∀ x : Int, (decide (0 ≤ x) && decide (x ≤ m - 1)) = (decide (0 ≤ x) && decide (x < m)) := fun x => by
    congr 1
    rw [decide_eq_decide]
    omega
  unfold linkBad
  rw [hb, hb]
  cases n1 : (decide (0 ≤ F) && decide (F < m)) with
  | false => simpa using hj0
  | true =>
  cases n2 : (decide (0 ≤ T) && decide (T < m)) with
  | false => simpa using hj0
  | true =>
  simp only [Bool.and_eq_true, decide_eq_true_eq] at n1 n2
  by_cases hft : F = T
  · simpa [hft] using hft ▸ hj0
  · rw [if_pos rfl, if_pos rfl, if_neg hft, beq_eq_false_iff_ne.mpr hft]
    have hl : (decide (0 ≤ L) && decide (L ≤ 7)) = !(decide (L < 0) || decide (7 < L)) := by
      by_cases a : L < 0
      · simp [a] <;> omega
      · by_cases b : 7 < L
        · simp [a, b] <;> omega
        · simp [a, b] <;> omega
    rw [hl, Bool.not_not]
    simp only [Bool.not_true, Bool.false_or]
    cases hlo : (decide (L < 0) || decide (7 < L)) with
    | true => simpa using hj0
    | false =>
      rw [if_neg (show ¬ (false = true) by simp)]
      simp only [hopmeshref31_link.j0]
      rw [if_neg (show ¬ (false = true) by simp)]
      have hrow : ((rd_L1 pw F).length : Int) = m := badLen_at h2 F n1.1 (by omega)
      have hj1 : hopmeshref31_link.j1 (k + 1) i false m pw no th ls mg F T L = some (if rd mg i < 0 ∨ rd (rd_L1 pw F) T < rd mg i then 2 else 0) := by
        simp only [hopmeshref31_link.j1]
        rw [if_neg (show ¬ (false = true) by simp), if_pos hi0, if_pos (show i < (mg.length : Int) by omega), if_pos n1.1, if_pos (show F < (pw.length : Int) by omega), if_pos n2.1, if_pos (show T < ((rd_L1 pw F).length : Int) by omega), in_eq]
        simp only [Option.bind_some]
        by_cases a : rd mg i < 0 ∨ rd (rd_L1 pw F) T < rd mg i
        · rw [if_pos a, if_neg (by simp; omega)]
        · rw [if_neg a, if_pos (by simp; omega)]
      have hj1t : hopmeshref31_link.j1 (k + 1) i true m pw no th ls mg F T L = some 5 := by simp only [hopmeshref31_link.j1]; rfl
      by_cases hp : 0 < i
      · rw [if_pos (show i > 0 from hp), wrap_in (by omega) (by omega), if_pos (show 0 ≤ i - 1 by omega), if_pos (show i - 1 < (ls.length : Int) by omega)]
        have hll : linkLess (rd_T44 ls (i - 1)) (rd_T44 ls i) = decide ((rd_T44 ls (i - 1)).f0 < F ∨ ((rd_T44 ls (i - 1)).f0 = F ∧ (rd_T44 ls (i - 1)).f1 < T)) := by
          rw [Bool.eq_iff_iff, linkLess_iff, hF, hT]
          simp
        rw [hll]
        generalize (rd_T44 ls (i - 1)).f0 = F'
        generalize (rd_T44 ls (i - 1)).f1 = T'
        by_cases a : F' > F
        · rw [if_pos a, hj1t, if_pos (show 0 < i ∧ decide (F' < F ∨ F' = F ∧ T' < T) = false from ⟨hp, decide_eq_false (by omega)⟩)]
        · rw [if_neg a]
          by_cases b : F' = F
          · rw [if_pos b]
            by_cases c : T' ≥ T
            · rw [decide_eq_true c, hj1t, if_pos (show 0 < i ∧ decide (F' < F ∨ F' = F ∧ T' < T) = false from ⟨hp, decide_eq_false (by omega)⟩)]
            · have hne : ¬ (0 < i ∧ decide (F' < F ∨ F' = F ∧ T' < T) = false) := fun h => by
                have := of_decide_eq_false h.2
                omega
              rw [decide_eq_false c, hj1, if_neg hne]
          · have hne : ¬ (0 < i ∧ decide (F' < F ∨ F' = F ∧ T' < T) = false) := fun h => by
              have := of_decide_eq_false h.2
              omega
            rw [if_neg b, hj1, if_neg hne]
      · rw [if_neg (show ¬ i > 0 from hp), hj1, if_neg (show ¬ (0 < i ∧ _) from fun h => hp h.1)]

theorem refcheck_loop (m no th : Int) (pw : List (List Int)) (ls : List S44) (mg : List Int) (hm0 : 2 ≤ m) (hm : m ≤ 32) (h1 : (pw.length : Int) = m) (h2 : badLen m pw = false) (h3 : mg.length = ls.length) (h4 : ls.length ≤ 128) (d : Nat) :
    ∀ (k : Nat) (i : Int), 0 ≤ i → i + d = ls.length → d + 2 < k → hopmeshref31_Check.l0 k i m pw no th ls mg = some (fe (lErr m pw ls mg) d i) := by
  induction d with
  | zero =>
    intro k i h0 hi hk
    obtain ⟨k, rfl⟩ : ∃ q, k = q + 1 := ⟨k - 1, by omega⟩
    simp only [hopmeshref31_Check.l0, fe]
    rw [if_neg (show ¬ i < (ls.length : Int) by omega)]
  | succ d ih =>
    intro k i h0 hi hk
    obtain ⟨k, rfl⟩ : ∃ q, k = q + 1 := ⟨k - 1, by omega⟩
    simp only [hopmeshref31_Check.l0, fe]
    rw [if_pos (show i < (ls.length : Int) by omega), link_eq m no th pw ls mg hm0 hm h1 h2 h3 h4 k (by omega) i h0 (by omega)]
    simp only [Option.bind_some]
    split
    · rw [wrap_in (by omega) (by omega)]
      exact ih k (i + 1) (by omega) (by omega) (by omega)
    · rfl

theorem refcheck_eq (m no th : Int) (pw : List (List Int)) (ls : List S44) (mg : List Int) (k : Nat) (hk : 2000 ≤ k) : hopmeshref31_Check.f k m pw no th ls mg = some (chk m pw no th ls mg) := by
  obtain ⟨k, rfl⟩ : ∃ q, k = q + 1 := ⟨k - 1, by omega⟩
  have hj0 : ∀ b, hopmeshref31_Check.j0 (k + 1) b m pw no th ls mg = if b = true then some 2 else (if (ls.length : Int) > 128 then (some 8) else (if (mg.length : Int) = (ls.length : Int) then (hopmeshref31_Check.l0 k 0 m pw no th ls mg) else (some 11))) := fun b => by simp only [hopmeshref31_Check.j0]
  unfold hopmeshref31_Check.f chk
  rw [in_eq, in_eq, in_eq]
  simp only [Option.bind_some]
  by_cases c0 : m < 2 ∨ 32 < m
  · rw [if_neg (by simp; omega), if_pos c0]
  · rw [if_pos (by simp; omega), if_neg c0, table_eq m no th pw ls mg (by omega) (by omega) (k + 1) (by omega)]
    simp only [Option.bind_some]
    by_cases c2 : pErr m pw = 0
    · rw [if_pos c2, if_neg (show ¬ pErr m pw ≠ 0 by simpa using c2)]
      by_cases c3 : no < 0 ∨ 68719476736 < no
      · rw [if_neg (by simp; omega), hj0, if_pos rfl, if_pos (by omega)]
      · rw [if_pos (by simp; omega), hj0]
        by_cases c4 : th < 1000 ∨ 100000 < th
        · rw [if_pos (by simp; omega), if_pos (by omega)]
        · rw [if_neg (by simp; omega), if_neg (show ¬ (no < 0 ∨ 68719476736 < no ∨ th < 1000 ∨ 100000 < th) by omega)]
          by_cases c5 : 128 < ls.length
          · rw [if_pos (show (ls.length : Int) > 128 by omega), if_pos c5]
          · rw [if_neg (show ¬ (ls.length : Int) > 128 by omega), if_neg c5]
            by_cases c6 : mg.length = ls.length
            · obtain ⟨p1, p2, p3⟩ := pErr_zero c2
              rw [if_pos (show (mg.length : Int) = (ls.length : Int) by omega), if_neg (show ¬ mg.length ≠ ls.length by omega), refcheck_loop m no th pw ls mg (by omega) (by omega) p1 p2 c6 (by omega) ls.length k 0 (by omega) (by omega) (by omega)]
            · rw [if_neg (show ¬ (mg.length : Int) = (ls.length : Int) by omega), if_pos c6]
    · rw [if_neg c2, if_pos c2]
end Go.Proofs.Ytibgcekekmphoaa.P34
