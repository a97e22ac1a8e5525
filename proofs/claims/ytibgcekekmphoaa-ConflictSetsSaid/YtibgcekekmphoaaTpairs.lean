/- Plain laws: both ways of listing the pairs that cannot be together give the same list, once one of them is sorted. -/
import Derived.Test.YtibgcekekmphoaaTref
import Derived.Test.YtibgcekekmphoaaGpairs
import Derived.Test.YtibgcekekmphoaaTbest
import Derived.Test.YtibgcekekmphoaaP34Pr
namespace Go.Proofs.Ytibgcekekmphoaa.P34
open Go.RowKit Go.Proofs.YtibgcekekmphoaaW.PrintWords Go.Proofs.YtibgcekekmphoaaW.PrintLast Go.Proofs.YtibgcekekmphoaaW.PrintMore
open Go.Sort Go.Proofs
set_option linter.unusedVariables false
set_option linter.unusedSimpArgs false

def ltS (x y : S63) : Prop := x.f0 < y.f0 ∨ (x.f0 = y.f0 ∧ x.f1 < y.f1)
/-- The code's list: q i k says that they can be together. -/
def colI (q : Nat → Nat → Bool) (k : Nat) : Nat → Nat → List S63 → List S63
  | 0, _, ps => ps
  | d + 1, i, ps => colI q k d (i + 1) (if q i k = true then ps else ps ++ [⟨(i : Int), (k : Int)⟩])
def colO (q : Nat → Nat → Bool) : Nat → Nat → List S63 → List S63
  | 0, _, ps => ps
  | d + 1, k, ps => colO q d (k + 1) (colI q k k 0 ps)
/-- The reference's list. -/
def rowI (q : Nat → Nat → Bool) (i : Nat) : Nat → Nat → List S63 → List S63
  | 0, _, ps => ps
  | d + 1, k, ps => rowI q i d (k + 1) (if q i k = true then ps else ps ++ [⟨(i : Int), (k : Int)⟩])
def rowO (q : Nat → Nat → Bool) (n : Nat) : Nat → Nat → List S63 → List S63
  | 0, _, ps => ps
  | d + 1, i, ps => rowO q n d (i + 1) (rowI q i (n - (i + 1)) (i + 1) ps)
/-- A pair of the list, below a bound. -/
def isP (q : Nat → Nat → Bool) (p : S63) : Prop := ∃ i k : Nat, i < k ∧ q i k = false ∧ p = ⟨(i : Int), (k : Int)⟩
def befC (x y : S63) : Prop := x.f1 < y.f1 ∨ (x.f1 = y.f1 ∧ x.f0 < y.f0)
theorem colI_inv (q : Nat → Nat → Bool) (k : Nat) (d : Nat) : ∀ (i : Nat) (ps : List S63), i + d = k →
    ps.Pairwise befC → (∀ p, p ∈ ps ↔ ∃ a c : Nat, a < c ∧ q a c = false ∧ p = ⟨(a : Int), (c : Int)⟩ ∧ (c < k ∨ (c = k ∧ a < i))) →
    (colI q k d i ps).Pairwise befC ∧ (∀ p, p ∈ colI q k d i ps ↔ ∃ a c : Nat, a < c ∧ q a c = false ∧ p = ⟨(a : Int), (c : Int)⟩ ∧ c < k + 1) := by
  induction d with
  | zero =>
    intro i ps hi hp hm
    refine ⟨hp, fun p => (hm p).trans ⟨fun ⟨a, c, h1, h2, h3, h4⟩ => ⟨a, c, h1, h2, h3, by omega⟩, fun ⟨a, c, h1, h2, h3, h4⟩ => ⟨a, c, h1, h2, h3, by omega⟩⟩⟩
  | succ d ih =>
    intro i ps hi hp hm
    simp only [colI]
    by_cases hq : q i k = true
    · rw [if_pos hq]
      refine ih (i + 1) ps (by omega) hp (fun p => (hm p).trans ⟨fun ⟨a, c, h1, h2, h3, h4⟩ => ⟨a, c, h1, h2, h3, by omega⟩, fun ⟨a, c, h1, h2, h3, h4⟩ => ⟨a, c, h1, h2, h3, ?_⟩⟩)
      by_cases e : c = k ∧ a = i
      · obtain ⟨rfl, rfl⟩ := e
        rw [hq] at h2
        cases h2
      · omega
    · rw [if_neg hq]
      have hq' : q i k = false := by simpa using hq
      refine ih (i + 1) _ (by omega) ?_ (fun p => ?_)
      · refine List.pairwise_append.2 ⟨hp, List.pairwise_singleton _ _, fun x hx y hy => ?_⟩
        rw [List.mem_singleton] at hy
        subst hy
        obtain ⟨a, c, h1, h2, rfl, h4⟩ := (hm x).1 hx
        unfold befC
        simp only
        omega
      · rw [List.mem_append, List.mem_singleton, hm p]
        constructor
        · rintro (⟨a, c, h1, h2, h3, h4⟩ | rfl)
          · exact ⟨a, c, h1, h2, h3, by omega⟩
          · exact ⟨i, k, by omega, hq', rfl, by omega⟩
        · rintro ⟨a, c, h1, h2, h3, h4⟩
          by_cases e : c = k ∧ a = i
          · obtain ⟨rfl, rfl⟩ := e
            exact Or.inr h3
          · exact Or.inl ⟨a, c, h1, h2, h3, by omega⟩
theorem colO_inv (q : Nat → Nat → Bool) (d : Nat) : ∀ (k : Nat) (ps : List S63),
    ps.Pairwise befC → (∀ p, p ∈ ps ↔ ∃ a c : Nat, a < c ∧ q a c = false ∧ p = ⟨(a : Int), (c : Int)⟩ ∧ c < k) →
    (colO q d k ps).Pairwise befC ∧ (∀ p, p ∈ colO q d k ps ↔ ∃ a c : Nat, a < c ∧ q a c = false ∧ p = ⟨(a : Int), (c : Int)⟩ ∧ c < k + d) := by
  induction d with
  | zero => exact fun k ps hp hm => ⟨hp, hm⟩
  | succ d ih =>
    intro k ps hp hm
    simp only [colO]
    obtain ⟨h1, h2⟩ := colI_inv q k k 0 ps (by omega) hp (fun p => (hm p).trans ⟨fun ⟨a, c, h1, h2, h3, h4⟩ => ⟨a, c, h1, h2, h3, by omega⟩, fun ⟨a, c, h1, h2, h3, h4⟩ => ⟨a, c, h1, h2, h3, by omega⟩⟩)
    have := ih (k + 1) _ h1 h2
    rw [show k + 1 + d = k + (d + 1) by omega] at this
    exact this
theorem rowI_inv (q : Nat → Nat → Bool) (n i : Nat) (d : Nat) : ∀ (k : Nat) (ps : List S63), k + d = n → i < k →
    ps.Pairwise ltS → (∀ p, p ∈ ps ↔ ∃ a c : Nat, a < c ∧ q a c = false ∧ p = ⟨(a : Int), (c : Int)⟩ ∧ c < n ∧ (a < i ∨ (a = i ∧ c < k))) →
    (rowI q i d k ps).Pairwise ltS ∧ (∀ p, p ∈ rowI q i d k ps ↔ ∃ a c : Nat, a < c ∧ q a c = false ∧ p = ⟨(a : Int), (c : Int)⟩ ∧ c < n ∧ a < i + 1) := by
  induction d with
  | zero =>
    intro k ps hk hik hp hm
    refine ⟨hp, fun p => (hm p).trans ⟨fun ⟨a, c, h1, h2, h3, h4, h5⟩ => ⟨a, c, h1, h2, h3, h4, by omega⟩, fun ⟨a, c, h1, h2, h3, h4, h5⟩ => ⟨a, c, h1, h2, h3, h4, by omega⟩⟩⟩
  | succ d ih =>
    intro k ps hk hik hp hm
    simp only [rowI]
    by_cases hq : q i k = true
    · rw [if_pos hq]
      refine ih (k + 1) ps (by omega) (by omega) hp (fun p => (hm p).trans ⟨fun ⟨a, c, h1, h2, h3, h4, h5⟩ => ⟨a, c, h1, h2, h3, h4, by omega⟩, fun ⟨a, c, h1, h2, h3, h4, h5⟩ => ⟨a, c, h1, h2, h3, h4, ?_⟩⟩)
      by_cases e : c = k ∧ a = i
      · obtain ⟨rfl, rfl⟩ := e
        rw [hq] at h2
        cases h2
      · omega
    · rw [if_neg hq]
      have hq' : q i k = false := by simpa using hq
      refine ih (k + 1) _ (by omega) (by omega) ?_ (fun p => ?_)
      · refine List.pairwise_append.2 ⟨hp, List.pairwise_singleton _ _, fun x hx y hy => ?_⟩
        rw [List.mem_singleton] at hy
        subst hy
        obtain ⟨a, c, h1, h2, rfl, h4, h5⟩ := (hm x).1 hx
        unfold ltS
        simp only
        omega
      · rw [List.mem_append, List.mem_singleton, hm p]
        constructor
        · rintro (⟨a, c, h1, h2, h3, h4, h5⟩ | rfl)
          · exact ⟨a, c, h1, h2, h3, h4, by omega⟩
          · exact ⟨i, k, by omega, hq', rfl, by omega, by omega⟩
        · rintro ⟨a, c, h1, h2, h3, h4, h5⟩
          by_cases e : c = k ∧ a = i
          · obtain ⟨rfl, rfl⟩ := e
            exact Or.inr h3
          · exact Or.inl ⟨a, c, h1, h2, h3, h4, by omega⟩
theorem rowO_inv (q : Nat → Nat → Bool) (n : Nat) (d : Nat) : ∀ (i : Nat) (ps : List S63), i + d = n →
    ps.Pairwise ltS → (∀ p, p ∈ ps ↔ ∃ a c : Nat, a < c ∧ q a c = false ∧ p = ⟨(a : Int), (c : Int)⟩ ∧ c < n ∧ a < i) →
    (rowO q n d i ps).Pairwise ltS ∧ (∀ p, p ∈ rowO q n d i ps ↔ ∃ a c : Nat, a < c ∧ q a c = false ∧ p = ⟨(a : Int), (c : Int)⟩ ∧ c < n) := by
  induction d with
  | zero => exact fun i ps hi hp hm => ⟨hp, fun p => (hm p).trans ⟨fun ⟨a, c, h1, h2, h3, h4, h5⟩ => ⟨a, c, h1, h2, h3, h4⟩, fun ⟨a, c, h1, h2, h3, h4⟩ => ⟨a, c, h1, h2, h3, h4, by omega⟩⟩⟩
  | succ d ih =>
    intro i ps hi hp hm
    simp only [rowO]
    obtain ⟨h1, h2⟩ := rowI_inv q n i (n - (i + 1)) (i + 1) ps (by omega) (by omega) hp (fun p => (hm p).trans ⟨fun ⟨a, c, h1, h2, h3, h4, h5⟩ => ⟨a, c, h1, h2, h3, h4, by omega⟩, fun ⟨a, c, h1, h2, h3, h4, h5⟩ => ⟨a, c, h1, h2, h3, h4, by omega⟩⟩)
    exact ih (i + 1) _ (by omega) h1 h2
theorem same_of_sorted (l1 : List S63) : ∀ l2 : List S63, l1.Pairwise ltS → l2.Pairwise ltS → (∀ p, p ∈ l1 ↔ p ∈ l2) → l1 = l2 := by
  induction l1 with
  | nil =>
    intro l2 _ _ h
    cases l2 with
    | nil => rfl
    | cons y l2 => exact absurd ((h y).2 (by simp)) (by simp)
  | cons x l1 ih =>
    intro l2 h1 h2 h
    cases l2 with
    | nil => exact absurd ((h x).1 (by simp)) (by simp)
    | cons y l2 =>
      obtain ⟨p1, p2⟩ := List.pairwise_cons.1 h1
      obtain ⟨q1, q2⟩ := List.pairwise_cons.1 h2
      have hirr : ∀ a : S63, ¬ ltS a a := fun a ha => by unfold ltS at ha; omega
      have hasy : ∀ a b : S63, ltS a b → ¬ ltS b a := fun a b ha hb => by unfold ltS at ha hb; omega
      have e : x = y := by
        rcases List.mem_cons.1 ((h x).1 (by simp)) with e | hx
        · exact e
        · rcases List.mem_cons.1 ((h y).2 (by simp)) with e | hy
          · exact e.symm
          · exact absurd (p1 y hy) (hasy _ _ (q1 x hx))
      subst e
      rw [ih l2 p2 q2 (fun p => ⟨fun hp => ?_, fun hp => ?_⟩)]
      · rcases List.mem_cons.1 ((h p).1 (by simp [hp])) with e | hx
        · subst e; exact absurd (p1 p hp) (hirr p)
        · exact hx
      · rcases List.mem_cons.1 ((h p).2 (by simp [hp])) with e | hx
        · subst e; exact absurd (q1 p hp) (hirr p)
        · exact hx
theorem sort_col (q : Nat → Nat → Bool) (n : Nat) : sortP (colO q n 0 []) = rowO q n n 0 [] := by
  obtain ⟨c1, c2⟩ := colO_inv q n 0 [] List.Pairwise.nil (fun p => ⟨(fun h => nomatch h), fun ⟨a, c, _, _, _, h⟩ => by omega⟩)
  obtain ⟨r1, r2⟩ := rowO_inv q n n 0 [] (by omega) List.Pairwise.nil (fun p => ⟨(fun h => nomatch h), fun ⟨a, c, _, _, _, _, h⟩ => by omega⟩)
  generalize colO q n 0 [] = L at c1 c2
  generalize rowO q n n 0 [] = R at r1 r2
  have hperm : (sortP L).Perm L := List.mergeSort_perm _ _
  have hle : ∀ a b : S63, (!(ltOf cmpP) b a) = true ↔ ¬ ltS b a := fun a b => by rw [ltP]; unfold ltS; simp only [Bool.not_eq_true', decide_eq_false_iff_not]
  have hs : (sortP L).Pairwise (fun a b => (!(ltOf cmpP) b a) = true) := by
    refine List.pairwise_mergeSort (fun a b c h1 h2 => ?_) (fun a b => ?_) L
    · rw [hle] at h1 h2 ⊢
      unfold ltS at h1 h2 ⊢
      omega
    · rw [Bool.or_eq_true, hle, hle]
      unfold ltS
      omega
  have hn : (sortP L).Nodup := (List.Perm.nodup_iff hperm).2 (c1.imp (fun h e => by subst e; unfold befC at h; omega))
  refine same_of_sorted _ _ ?_ r1 (fun p => ?_)
  · refine (hs.and hn).imp (fun {a b} h => ?_)
    obtain ⟨h1, h2⟩ := h
    rw [hle] at h1
    unfold ltS at h1 ⊢
    have : ¬ (a.f0 = b.f0 ∧ a.f1 = b.f1) := fun e => h2 (by cases a; cases b; simp only [S63.mk.injEq]; exact e)
    omega
  · rw [List.Perm.mem_iff hperm, c2, r2, Nat.zero_add]
section
variable (m : Int) (pw : List (List Int)) (no th : Int) (ls : List S44) (mg : List Int) (l1 : List S44)
def togB (i k : Nat) : Bool := goodB m no th pw ls mg [cellOf (rd_T44 l1 (i : Int)), cellOf (rd_T44 l1 (k : Int))]
theorem tg_eq (i k : Nat) (K : Nat) (hK : 1200 ≤ K) : tgOf K m pw no th ls mg (rd_T44 l1 (i : Int)) (rd_T44 l1 (k : Int)) = some (togB m pw no th ls mg l1 i k) := by
  unfold tgOf
  rw [iTogether_eq m no th pw ls mg _ _ _ _ _ _ K hK]
  rfl
theorem pairsI_eq (K : Nat) (hK : 1200 ≤ K) (k d : Nat) : ∀ i ps, conflict_Pairs.i (tgOf K m pw no th ls mg) l1 k d i ps = some (colI (togB m pw no th ls mg l1) k d i ps) := by
  induction d with
  | zero => exact fun i ps => rfl
  | succ d ih =>
    intro i ps
    simp only [conflict_Pairs.i, colI]
    rw [tg_eq m pw no th ls mg l1 i k K hK]
    exact ih _ _
theorem pairsO_eq (K : Nat) (hK : 1200 ≤ K) (d : Nat) : ∀ k ps, conflict_Pairs.o (tgOf K m pw no th ls mg) l1 d k ps = some (colO (togB m pw no th ls mg l1) d k ps) := by
  induction d with
  | zero => exact fun i ps => rfl
  | succ d ih =>
    intro k ps
    simp only [conflict_Pairs.o, colO]
    rw [pairsI_eq m pw no th ls mg l1 K hK k k 0 ps]
    exact ih _ _
theorem Pairs_eq (hl : l1.length ≤ 45) (K : Nat) (hK : 1200 ≤ K) (c : chk m pw no th ls mg = 0) : conflict_Pairs.f K m pw no th ls mg l1 = some (rowO (togB m pw no th ls mg l1) l1.length l1.length 0 [], 0) := by
  unfold conflict_Pairs.f
  rw [check_eq m no th pw ls mg K (by omega)]
  simp only [Option.bind_some]
  rw [if_pos c, if_neg (by omega), pairsO_eq m pw no th ls mg l1 K hK l1.length 0 []]
  simp only [Option.bind_some]
  rw [sort_col]
theorem rpairs_len (q : Nat → Nat → Bool) (i : Nat) (d : Nat) : ∀ (k : Nat) (ps : List S63), (rowI q i d k ps).length ≤ ps.length + d := by
  induction d with
  | zero => exact fun k ps => Nat.le_refl _
  | succ d ih =>
    intro k ps
    simp only [rowI]
    split
    · have := ih (k + 1) ps
      omega
    · have := ih (k + 1) (ps ++ [⟨(i : Int), (k : Int)⟩])
      simp at this
      omega
theorem rpairs_l1 (hl : l1.length ≤ 45) (i : Nat) (hi : i < l1.length) (next : Nat) (d : Nat) : ∀ (k K : Nat) (ps : List S63), k + d = l1.length → next + d < K → 2000 ≤ next → ps.length ≤ i * 45 + k →
    ∃ K', next ≤ K' ∧ hopmeshref34_Pairs.l1 K l1 ps (i : Int) (k : Int) m pw no th ls mg = hopmeshref34_Pairs.l0 K' l1 (rowI (togB m pw no th ls mg l1) i d k ps) ((i + 1 : Nat) : Int) m pw no th ls mg := by
  induction d with
  | zero =>
    intro k K ps hk hK hn hp
    obtain ⟨K, rfl⟩ : ∃ q, K = q + 1 := ⟨K - 1, by omega⟩
    have ew : wrap64 ((i : Int) + 1) = ((i + 1 : Nat) : Int) := by unfold wrap64; omega
    refine ⟨K, by omega, ?_⟩
    simp only [hopmeshref34_Pairs.l1, rowI]
    rw [if_neg (by omega), ew]
  | succ d ih =>
    intro k K ps hk hK hn hp
    obtain ⟨K, rfl⟩ : ∃ q, K = q + 1 := ⟨K - 1, by omega⟩
    have ew : wrap64 ((k : Int) + 1) = ((k + 1 : Nat) : Int) := by unfold wrap64; omega
    simp only [hopmeshref34_Pairs.l1, rowI]
    rw [if_pos (by omega), if_pos (by omega), if_pos (by omega), if_pos (by omega), rTogether_eq m no th pw ls mg _ _ _ _ _ _ K (by omega)]
    simp only [Option.bind_some]
    rw [show goodB m no th pw ls mg [⟨0, 0, (rd_T44 l1 (i : Int)).f0, (rd_T44 l1 (i : Int)).f1, 0⟩, ⟨0, 0, (rd_T44 l1 (k : Int)).f0, (rd_T44 l1 (k : Int)).f1, 0⟩] = togB m pw no th ls mg l1 i k from rfl, ew]
    by_cases hq : togB m pw no th ls mg l1 i k = true
    · rw [if_pos hq, if_pos hq]
      exact ih (k + 1) K ps (by omega) (by omega) hn (by omega)
    · rw [if_neg hq, if_neg hq, if_pos (by have : i * 45 ≤ 45 * 45 := Nat.mul_le_mul_right _ (by omega); omega)]
      exact ih (k + 1) K _ (by omega) (by omega) hn (by simp; omega)
theorem rpairs_l0 (hl : l1.length ≤ 45) (d : Nat) : ∀ (i K : Nat) (ps : List S63), i + d = l1.length → 2000 + d * 50 < K → ps.length ≤ i * 45 →
    hopmeshref34_Pairs.l0 K l1 ps (i : Int) m pw no th ls mg = some (rowO (togB m pw no th ls mg l1) l1.length d i ps, 0) := by
  induction d with
  | zero =>
    intro i K ps hi hK hp
    obtain ⟨K, rfl⟩ : ∃ q, K = q + 1 := ⟨K - 1, by omega⟩
    simp only [hopmeshref34_Pairs.l0, rowO]
    rw [if_neg (by omega)]
  | succ d ih =>
    intro i K ps hi hK hp
    obtain ⟨K, rfl⟩ : ∃ q, K = q + 1 := ⟨K - 1, by omega⟩
    have ew : wrap64 ((i : Int) + 1) = ((i + 1 : Nat) : Int) := by unfold wrap64; omega
    simp only [hopmeshref34_Pairs.l0, rowO]
    rw [if_pos (by omega), ew]
    obtain ⟨K', hK', e⟩ := rpairs_l1 m pw no th ls mg l1 hl i (by omega) (2000 + d * 50 + 1) (l1.length - (i + 1)) (i + 1) K ps (by omega) (by omega) (by omega) (by omega)
    rw [e]
    have := rpairs_len (togB m pw no th ls mg l1) i (l1.length - (i + 1)) (i + 1) ps
    exact ih (i + 1) K' _ (by omega) (by omega) (by omega)
theorem rPairs_eq (hl : l1.length ≤ 45) (K : Nat) (hK : 5000 ≤ K) (c : chk m pw no th ls mg = 0) : hopmeshref34_Pairs.f K m pw no th ls mg l1 = some (rowO (togB m pw no th ls mg l1) l1.length l1.length 0 [], 0) := by
  unfold hopmeshref34_Pairs.f
  rw [refcheck_eq m no th pw ls mg K (by omega)]
  simp only [Option.bind_some]
  rw [if_pos c, if_neg (by omega)]
  exact rpairs_l0 m pw no th ls mg l1 hl l1.length 0 K [] (by omega) (by omega) (by simp)
end
end Go.Proofs.Ytibgcekekmphoaa.P34
