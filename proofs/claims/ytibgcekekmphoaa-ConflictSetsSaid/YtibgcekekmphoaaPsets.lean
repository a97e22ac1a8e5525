/- Plain law: ConflictSets answers true. -/
import Derived.Test.YtibgcekekmphoaaTpairs
import Derived.Test.YtibgcekekmphoaaP34Ls
namespace Go.Proofs.Ytibgcekekmphoaa.P34
open Go.RowKit Go.Proofs.YtibgcekekmphoaaW.PrintWords Go.Proofs.YtibgcekekmphoaaW.PrintLast Go.Proofs.YtibgcekekmphoaaW.PrintMore
set_option linter.unusedVariables false
set_option linter.unusedSimpArgs false

/-- The indices whose bits are set in a number. -/
def bitsOf (n b : Nat) : List Int := picks (fun j => decide (Go.bits .and .i64 (shr .i64 (b : Int) j) 1 = 1)) n 0
def sumOf (t : List Int) : Nat := t.foldr (fun x s => 2 ^ x.toNat + s) 0
def allBits (n : Nat) : Bool := (asc n 0).all fun t => decide (sumOf t < 2 ^ n) && (bitsOf n (sumOf t) == t)
theorem allBits_eq (n : Nat) (h : n ≤ 9) : allBits n = true := by
  match n, h with
  | 0, _ => (show allBits 0 = true; kernel_rfl)
  | 1, _ => (show allBits 1 = true; kernel_rfl)
  | 2, _ => (show allBits 2 = true; kernel_rfl)
  | 3, _ => (show allBits 3 = true; kernel_rfl)
  | 4, _ => (show allBits 4 = true; kernel_rfl)
  | 5, _ => (show allBits 5 = true; kernel_rfl)
  | 6, _ => (show allBits 6 = true; kernel_rfl)
  | 7, _ => (show allBits 7 = true; kernel_rfl)
  | 8, _ => (show allBits 8 = true; kernel_rfl)
  | 9, _ => (show allBits 9 = true; kernel_rfl)
  | n + 10, h => omega
theorem shl_eq (n : Nat) (h : n ≤ 9) : shl .i64 1 (n : Int) = ((2 ^ n : Nat) : Int) := by
  match n, h with
  | 0, _ => (show shl .i64 1 ((0 : Nat) : Int) = ((2 ^ 0 : Nat) : Int); kernel_rfl)
  | 1, _ => (show shl .i64 1 ((1 : Nat) : Int) = ((2 ^ 1 : Nat) : Int); kernel_rfl)
  | 2, _ => (show shl .i64 1 ((2 : Nat) : Int) = ((2 ^ 2 : Nat) : Int); kernel_rfl)
  | 3, _ => (show shl .i64 1 ((3 : Nat) : Int) = ((2 ^ 3 : Nat) : Int); kernel_rfl)
  | 4, _ => (show shl .i64 1 ((4 : Nat) : Int) = ((2 ^ 4 : Nat) : Int); kernel_rfl)
  | 5, _ => (show shl .i64 1 ((5 : Nat) : Int) = ((2 ^ 5 : Nat) : Int); kernel_rfl)
  | 6, _ => (show shl .i64 1 ((6 : Nat) : Int) = ((2 ^ 6 : Nat) : Int); kernel_rfl)
  | 7, _ => (show shl .i64 1 ((7 : Nat) : Int) = ((2 ^ 7 : Nat) : Int); kernel_rfl)
  | 8, _ => (show shl .i64 1 ((8 : Nat) : Int) = ((2 ^ 8 : Nat) : Int); kernel_rfl)
  | 9, _ => (show shl .i64 1 ((9 : Nat) : Int) = ((2 ^ 9 : Nat) : Int); kernel_rfl)
  | n + 10, h => omega
theorem pow_le (n : Nat) (h : n ≤ 9) : 2 ^ n ≤ 512 := Nat.pow_le_pow_right (by decide) h
theorem lex_total (a : List Int) : ∀ b, a.length = b.length → a = b ∨ lexB a b = true ∨ lexB b a = true := by
  induction a with
  | nil => intro b h; cases b with
    | nil => exact Or.inl rfl
    | cons => simp at h
  | cons x a ih =>
    intro b h
    cases b with
    | nil => simp at h
    | cons y b =>
      simp only [lexB]
      by_cases e : x = y
      · subst e
        rw [if_pos rfl, if_pos rfl]
        rcases ih b (by simpa using h) with e | e | e
        · exact Or.inl (by rw [e])
        · exact Or.inr (Or.inl e)
        · exact Or.inr (Or.inr e)
      · rw [if_neg e, if_neg (Ne.symm e)]
        by_cases h1 : x < y
        · exact Or.inr (Or.inl (decide_eq_true h1))
        · exact Or.inr (Or.inr (decide_eq_true (by omega)))
theorem bef_total (a b : List Int) : a = b ∨ befB a b = true ∨ befB b a = true := by
  unfold befB
  by_cases e : a.length = b.length
  · rw [if_pos e, if_pos e.symm]
    exact lex_total a b e
  · rw [if_neg e, if_neg (Ne.symm e)]
    by_cases h1 : b.length < a.length
    · exact Or.inr (Or.inl (decide_eq_true h1))
    · exact Or.inr (Or.inr (decide_eq_true (by omega)))
theorem before_l0 (a b : List Int) (hl : a.length = b.length) (hb : a.length ≤ 1000) (d : Nat) : ∀ (i k : Nat), i + d = a.length → d < k → hopmeshref34_before.l0 k a b (i : Int) = some (lexB (a.drop i) (b.drop i)) := by
  induction d with
  | zero =>
    intro i k hi hk
    obtain ⟨k, rfl⟩ : ∃ q, k = q + 1 := ⟨k - 1, by omega⟩
    simp only [hopmeshref34_before.l0]
    rw [if_neg (by omega), List.drop_eq_nil_of_le (by omega), List.drop_eq_nil_of_le (by omega)]
    rfl
  | succ d ih =>
    intro i k hi hk
    obtain ⟨k, rfl⟩ : ∃ q, k = q + 1 := ⟨k - 1, by omega⟩
    have ha : i < a.length := by omega
    have hb' : i < b.length := by omega
    have ew : wrap64 ((i : Int) + 1) = ((i + 1 : Nat) : Int) := by unfold wrap64; omega
    have ra : rd a (i : Int) = a[i] := by simp only [rd, Int.toNat_natCast]; simp [List.getD_eq_getElem?_getD, List.getElem?_eq_getElem ha]
    have rb : rd b (i : Int) = b[i] := by simp only [rd, Int.toNat_natCast]; simp [List.getD_eq_getElem?_getD, List.getElem?_eq_getElem hb']
    simp only [hopmeshref34_before.l0]
    rw [if_pos (by omega), if_pos (by omega), if_pos (by omega), ra, rb, List.drop_eq_getElem_cons ha, List.drop_eq_getElem_cons hb', ew]
    simp only [lexB]
    by_cases e : a[i] = b[i]
    · rw [if_pos e, if_pos e]
      exact ih (i + 1) k (by omega) (by omega)
    · rw [if_neg e, if_neg e]
theorem before_eq (a b : List Int) (ha : a.length ≤ 1000) (k : Nat) (hk : 1001 ≤ k) : hopmeshref34_before.f k a b = some (befB a b) := by
  unfold hopmeshref34_before.f befB
  by_cases e : a.length = b.length
  · rw [if_pos (by omega), if_pos e]
    exact before_l0 a b e ha a.length 0 k (by omega) (by omega)
  · rw [if_neg (by omega), if_neg e]
    congr 1
    by_cases h : b.length < a.length
    · rw [decide_eq_true h, decide_eq_true (by omega)]
    · rw [decide_eq_false h, decide_eq_false (by omega)]
theorem some_l0 (l1 : List S44) (hl : l1.length ≤ 12) (b : Int) (d : Nat) : ∀ (i k : Nat) (pre : List Int), i + d = l1.length → d < k → pre.length ≤ i →
    hopmeshref34_Some.l0 k l1 b (pre.map fun x => rd_T44 l1 x) pre (i : Int) = some ((pre ++ picks (fun j => decide (Go.bits .and .i64 (shr .i64 b j) 1 = 1)) d i).map (fun x => rd_T44 l1 x), pre ++ picks (fun j => decide (Go.bits .and .i64 (shr .i64 b j) 1 = 1)) d i) := by
  induction d with
  | zero =>
    intro i k pre hi hk hp
    obtain ⟨k, rfl⟩ : ∃ q, k = q + 1 := ⟨k - 1, by omega⟩
    simp only [hopmeshref34_Some.l0, picks, List.append_nil]
    rw [if_neg (by omega)]
  | succ d ih =>
    intro i k pre hi hk hp
    obtain ⟨k, rfl⟩ : ∃ q, k = q + 1 := ⟨k - 1, by omega⟩
    have ew : wrap64 ((i : Int) + 1) = ((i + 1 : Nat) : Int) := by unfold wrap64; omega
    simp only [hopmeshref34_Some.l0, picks]
    rw [if_pos (by omega), if_pos (by omega), ew]
    by_cases hb : Go.bits .and .i64 (shr .i64 b (i : Int)) 1 = 1
    · rw [if_pos hb, if_pos (decide_eq_true hb), if_pos (by simp; omega), if_pos (by omega)]
      have e : (pre.map fun x => rd_T44 l1 x) ++ [(⟨(rd_T44 l1 (i : Int)).f0, (rd_T44 l1 (i : Int)).f1, (rd_T44 l1 (i : Int)).f2⟩ : S44)] = (pre ++ [(i : Int)]).map fun x => rd_T44 l1 x := by simp
      rw [e, ih (i + 1) k (pre ++ [(i : Int)]) (by omega) (by omega) (by simp; omega)]
      simp
    · rw [if_neg hb, if_neg (by simpa using hb)]
      exact ih (i + 1) k pre (by omega) (by omega) (by omega)
theorem Some_eq (l1 : List S44) (hl : l1.length ≤ 12) (b k : Nat) (hk : 13 ≤ k) : hopmeshref34_Some.f k l1 (b : Int) = some ((bitsOf l1.length b).map (fun x => rd_T44 l1 x), bitsOf l1.length b) :=
  some_l0 l1 hl (b : Int) l1.length 0 k [] (by omega) (by omega) (by simp)
theorem cells_l0 (ls : List S44) (hl : ls.length ≤ 1000) (d : Nat) : ∀ (i k : Nat), i + d = ls.length → d < k → hopmeshref34_Cells.l0 k ls ((ls.take i).map cellOf) (i : Int) = some (ls.map cellOf) := by
  induction d with
  | zero =>
    intro i k hi hk
    obtain ⟨k, rfl⟩ : ∃ q, k = q + 1 := ⟨k - 1, by omega⟩
    simp only [hopmeshref34_Cells.l0]
    rw [if_neg (by omega), List.take_of_length_le (by omega)]
  | succ d ih =>
    intro i k hi hk
    obtain ⟨k, rfl⟩ : ∃ q, k = q + 1 := ⟨k - 1, by omega⟩
    have ew : wrap64 ((i : Int) + 1) = ((i + 1 : Nat) : Int) := by unfold wrap64; omega
    have hlt : i < ls.length := by omega
    have er : rd_T44 ls (i : Int) = ls[i] := by simp [rd_T44, List.getD_eq_getElem?_getD, List.getElem?_eq_getElem hlt]
    simp only [hopmeshref34_Cells.l0]
    rw [er, ew]
    have e : (ls.take i).map cellOf ++ [(⟨0, 0, ls[i].f0, ls[i].f1, 0⟩ : S36)] = (ls.take (i + 1)).map cellOf := by
      rw [List.take_succ_eq_append_getElem hlt, List.map_append]
      rfl
    rw [e, ih (i + 1) k (by omega) (by omega)]
    repeat rw [if_pos (by first | omega | (simp; omega))]
theorem Cells_eq (ls : List S44) (hl : ls.length ≤ 1000) (k : Nat) (hk : 1001 ≤ k) : hopmeshref34_Cells.f k ls = some (ls.map cellOf) :=
  cells_l0 ls hl ls.length 0 k (by omega) (by omega)
theorem picks_len (b : Int → Bool) (d : Nat) : ∀ i, (picks b d i).length ≤ d := by
  induction d with
  | zero => exact fun i => Nat.le_refl _
  | succ d ih =>
    intro i
    simp only [picks]
    have := ih (i + 1)
    split
    · simp; omega
    · omega
def stepB (P : List S36 → Bool) (l1 : List S44) (b t : List Int) : List Int := if befB t b = true then (if P (cellsOf l1 t) = true then t else b) else b
theorem stepB_inv (P : List S36 → Bool) (l1 : List S44) (L : List (List Int)) : ∀ b0, P (cellsOf l1 b0) = true →
    P (cellsOf l1 (L.foldl (stepB P l1) b0)) = true ∧ (L.foldl (stepB P l1) b0 = b0 ∨ L.foldl (stepB P l1) b0 ∈ L) ∧ (b0 = L.foldl (stepB P l1) b0 ∨ befB (L.foldl (stepB P l1) b0) b0 = true) ∧
      ∀ t ∈ L, P (cellsOf l1 t) = true → t = L.foldl (stepB P l1) b0 ∨ befB (L.foldl (stepB P l1) b0) t = true := by
  induction L with
  | nil => exact fun b0 h => ⟨h, Or.inl rfl, Or.inl rfl, (fun t ht => nomatch ht)⟩
  | cons t L ih =>
    intro b0 h
    rw [List.foldl_cons]
    by_cases hc : befB t b0 = true ∧ P (cellsOf l1 t) = true
    · have e : stepB P l1 b0 t = t := by unfold stepB; rw [if_pos hc.1, if_pos hc.2]
      rw [e]
      obtain ⟨i1, i2, i3, i4⟩ := ih t hc.2
      refine ⟨i1, Or.inr ?_, Or.inr ?_, fun s hs hq => ?_⟩
      · rcases i2 with i2 | i2
        · rw [i2]; simp
        · simp [i2]
      · rcases i3 with i3 | i3
        · rw [← i3]; exact hc.1
        · exact bef_trans i3 hc.1
      · rcases List.mem_cons.1 hs with rfl | hs
        · exact i3
        · exact i4 s hs hq
    · have e : stepB P l1 b0 t = b0 := by
        unfold stepB
        by_cases h1 : befB t b0 = true
        · rw [if_pos h1, if_neg (fun h2 => hc ⟨h1, h2⟩)]
        · rw [if_neg h1]
      rw [e]
      obtain ⟨i1, i2, i3, i4⟩ := ih b0 h
      refine ⟨i1, ?_, i3, fun s hs hq => ?_⟩
      · rcases i2 with i2 | i2
        · exact Or.inl i2
        · exact Or.inr (by simp [i2])
      · rcases List.mem_cons.1 hs with rfl | hs
        · have hn : ¬ befB s b0 = true := fun h2 => hc ⟨h2, hq⟩
          rcases bef_total s b0 with e1 | e1 | e1
          · rw [e1]; exact i3
          · exact absurd e1 hn
          · rcases i3 with i3 | i3
            · rw [← i3]; exact Or.inr e1
            · exact Or.inr (bef_trans i3 e1)
        · exact i4 s hs hq
section
variable (m : Int) (pw : List (List Int)) (no th : Int) (ls : List S44) (mg : List Int) (l1 : List S44)
theorem rlargest_l0 (hl : l1.length ≤ 9) (d : Nat) : ∀ (b k : Nat) (best : List Int), b + d = 2 ^ l1.length → d + 3000 ≤ k → best.length ≤ 9 →
    hopmeshref34_Largest.l0 k l1 best (b : Int) m pw no th ls mg = some (((List.range' b d).map (bitsOf l1.length)).foldl (stepB (goodB m no th pw ls mg) l1) best, 0) := by
  have hp := pow_le l1.length hl
  induction d with
  | zero =>
    intro b k best hb hk hbl
    obtain ⟨k, rfl⟩ : ∃ q, k = q + 1 := ⟨k - 1, by omega⟩
    simp only [hopmeshref34_Largest.l0]
    rw [shl_eq _ hl, if_neg (by omega)]
    rfl
  | succ d ih =>
    intro b k best hb hk hbl
    obtain ⟨k, rfl⟩ : ∃ q, k = q + 1 := ⟨k - 1, by omega⟩
    have ew : wrap64 ((b : Int) + 1) = ((b + 1 : Nat) : Int) := by unfold wrap64; omega
    have hbits : (bitsOf l1.length b).length ≤ 9 := Nat.le_trans (picks_len _ _ _) hl
    simp only [hopmeshref34_Largest.l0]
    rw [shl_eq _ hl, if_pos (by omega), Some_eq l1 (by omega) b k (by omega)]
    simp only [Option.bind_some]
    rw [before_eq _ _ (by omega) k (by omega)]
    simp only [Option.bind_some]
    rw [Cells_eq _ (by simp; omega) k (by omega)]
    simp only [Option.bind_some]
    rw [show ((bitsOf l1.length b).map (fun x => rd_T44 l1 x)).map cellOf = cellsOf l1 (bitsOf l1.length b) by simp [cellsOf], rGood_eq m no th pw ls mg _ (by simp [cellsOf]; omega) k (by omega), ew]
    simp only [Option.bind_some]
    rw [List.range'_succ, List.map_cons, List.foldl_cons]
    have es : stepB (goodB m no th pw ls mg) l1 best (bitsOf l1.length b) = if befB (bitsOf l1.length b) best = true then (if goodB m no th pw ls mg (cellsOf l1 (bitsOf l1.length b)) = true then bitsOf l1.length b else best) else best := rfl
    rw [es]
    by_cases h1 : befB (bitsOf l1.length b) best = true
    · rw [if_pos h1, if_pos h1]
      by_cases h2 : goodB m no th pw ls mg (cellsOf l1 (bitsOf l1.length b)) = true
      · rw [if_pos h2, if_pos h2]
        exact ih (b + 1) k _ (by omega) (by omega) hbits
      · rw [if_neg h2, if_neg h2]
        exact ih (b + 1) k _ (by omega) (by omega) hbl
    · rw [if_neg h1, if_neg h1]
      exact ih (b + 1) k _ (by omega) (by omega) hbl
theorem rLargest_eq (hl : l1.length ≤ 9) (k : Nat) (hk : 4000 ≤ k) (c : chk m pw no th ls mg = 0) : hopmeshref34_Largest.f k m pw no th ls mg l1 = some (best (goodB m no th pw ls mg) l1, 0) := by
  have hp := pow_le l1.length hl
  unfold hopmeshref34_Largest.f
  rw [refcheck_eq m no th pw ls mg k (by omega)]
  simp only [Option.bind_some]
  rw [if_pos c, if_neg (by omega)]
  have h := rlargest_l0 m pw no th ls mg l1 hl (2 ^ l1.length) 0 k [] (by omega) (by omega) (by simp)
  rw [show ((0 : Nat) : Int) = 0 from rfl] at h
  rw [h]
  obtain ⟨i1, i2, i3, i4⟩ := stepB_inv (goodB m no th pw ls mg) l1 ((List.range' 0 (2 ^ l1.length)).map (bitsOf l1.length)) [] (good_nil c)
  obtain ⟨b1, b2⟩ := best_facts (goodB m no th pw ls mg) l1
  have hg : goodB m no th pw ls mg (cellsOf l1 (best (goodB m no th pw ls mg) l1)) = true := by
    rcases b1 with e | ⟨_, e⟩
    · rw [e]; exact good_nil c
    · exact e
  generalize List.foldl (stepB (goodB m no th pw ls mg) l1) [] ((List.range' 0 (2 ^ l1.length)).map (bitsOf l1.length)) = r at i1 i2 i3 i4
  generalize best (goodB m no th pw ls mg) l1 = s at b1 b2 hg
  have hall := allBits_eq l1.length hl
  unfold allBits at hall
  rw [List.all_eq_true] at hall
  -- each of both is not ahead of the other
  have q1 : s = r ∨ befB r s = true := by
    rcases b1 with e | ⟨hs, _⟩
    · subst e
      exact i3
    · have := hall s hs
      rw [Bool.and_eq_true, decide_eq_true_eq, beq_iff_eq] at this
      refine i4 s ?_ hg
      rw [List.mem_map]
      exact ⟨sumOf s, by simp [List.mem_range'_1]; exact this.1, this.2⟩
  have q2 : r = s ∨ befB s r = true := by
    by_cases e : r = []
    · subst e
      by_cases e2 : s = []
      · exact Or.inl e2.symm
      · refine Or.inr ?_
        unfold befB
        have : 0 < s.length := List.length_pos_iff.2 e2
        rw [if_neg (by simp; omega)]
        exact decide_eq_true (by simpa using this)
    · rcases i2 with i2 | i2
      · exact absurd i2 e
      · obtain ⟨b, hb, rfl⟩ := List.mem_map.1 i2
        obtain ⟨p1, p2⟩ := picks_asc (fun j => decide (Go.bits .and .i64 (shr .i64 (b : Int) j) 1 = 1)) l1.length 0
        exact b2 _ (asc_of _ 0 _ e p1 (fun x hx => p2 x hx)) i1
  have : r = s := by
    rcases q1 with e | q1
    · exact e.symm
    · rcases q2 with e | q2
      · exact e
      · have := bef_trans q1 q2
        rw [bef_irrefl] at this
        cases this
  rw [this]
end
theorem equalI_eq (l : List Int) (hl : l.length ≤ 1000) (k : Nat) (hk : l.length < k) : slices_Equal_int_int.f k l l = some true := by
  unfold slices_Equal_int_int.f
  rw [if_pos rfl]
  have go : ∀ (d i k : Nat), i + d = l.length → d < k → slices_Equal_int_int.l0 k l l (l.length : Int) (i : Int) = some true := by
    intro d
    induction d with
    | zero =>
      intro i k hi hk
      obtain ⟨k, rfl⟩ : ∃ q, k = q + 1 := ⟨k - 1, by omega⟩
      simp only [slices_Equal_int_int.l0]
      rw [if_neg (by omega)]
    | succ d ih =>
      intro i k hi hk
      obtain ⟨k, rfl⟩ : ∃ q, k = q + 1 := ⟨k - 1, by omega⟩
      have ew : wrap64 ((i : Int) + 1) = ((i + 1 : Nat) : Int) := by unfold wrap64; omega
      simp only [slices_Equal_int_int.l0]
      rw [if_pos (by omega), if_pos (by omega), if_pos (by omega), if_pos (by omega), if_pos trivial, ew]
      exact ih (i + 1) k (by omega) (by omega)
  exact go l.length 0 k (by omega) hk
theorem equalP_eq (l : List S63) (hl : l.length ≤ 10000) (k : Nat) (hk : l.length < k) : slices_Equal_2_int_2_int.f k l l = some true := by
  unfold slices_Equal_2_int_2_int.f
  rw [if_pos rfl]
  have go : ∀ (d i k : Nat), i + d = l.length → d < k → slices_Equal_2_int_2_int.l0 k l l (l.length : Int) (i : Int) = some true := by
    intro d
    induction d with
    | zero =>
      intro i k hi hk
      obtain ⟨k, rfl⟩ : ∃ q, k = q + 1 := ⟨k - 1, by omega⟩
      simp only [slices_Equal_2_int_2_int.l0]
      rw [if_neg (by omega)]
    | succ d ih =>
      intro i k hi hk
      obtain ⟨k, rfl⟩ : ∃ q, k = q + 1 := ⟨k - 1, by omega⟩
      have ew : wrap64 ((i : Int) + 1) = ((i + 1 : Nat) : Int) := by unfold wrap64; omega
      simp only [slices_Equal_2_int_2_int.l0]
      rw [if_pos (by omega), if_pos (by omega), if_pos (by omega), if_pos (by omega), if_neg (by simp), ew]
      exact ih (i + 1) k (by omega) (by omega)
  exact go l.length 0 k (by omega) hk
theorem rowO_len (q : Nat → Nat → Bool) (n : Nat) (d : Nat) : ∀ (i : Nat) (ps : List S63), (rowO q n d i ps).length ≤ ps.length + d * n := by
  induction d with
  | zero => intro i ps; simp [rowO]
  | succ d ih =>
    intro i ps
    simp only [rowO]
    have h1 := ih (i + 1) (rowI q i (n - (i + 1)) (i + 1) ps)
    have h2 := rpairs_len q i (n - (i + 1)) (i + 1) ps
    rw [Nat.succ_mul]
    omega
theorem ConflictSets_pure (m : Int) (pw : List (List Int)) (no th : Int) (ls : List S44) (mg : List Int) (hm : pw.length ≤ 9223372036854775807) (l1 : List S44) : ∃ k, hopmeshlaw34_ConflictSets.f k m pw no th ls mg l1 = some true := by
  refine ⟨pw.length + 20001, ?_⟩
  have live : (l1.length ≤ 9 ∨ l1.length = 13 ∨ l1.length = 46) → hopmeshlaw34_ConflictSets.j0 (pw.length + 20001) l1 false m pw no th ls mg = some true := by
    intro hl
    simp only [hopmeshlaw34_ConflictSets.j0]
    rw [if_neg (by simp)]
    by_cases c : chk m pw no th ls mg = 0
    · have hP : l1.length ≤ 45 → conflict_Pairs.f (pw.length + 20000) m pw no th ls mg l1 = some (rowO (togB m pw no th ls mg l1) l1.length l1.length 0 [], 0) ∧ hopmeshref34_Pairs.f (pw.length + 20000) m pw no th ls mg l1 = some (rowO (togB m pw no th ls mg l1) l1.length l1.length 0 [], 0) :=
        fun h => ⟨Pairs_eq m pw no th ls mg l1 h _ (by omega) c, rPairs_eq m pw no th ls mg l1 h _ (by omega) c⟩
      have hlen : l1.length ≤ 45 → (rowO (togB m pw no th ls mg l1) l1.length l1.length 0 []).length ≤ 2025 := fun h => by
        have h1 := rowO_len (togB m pw no th ls mg l1) l1.length l1.length 0 []
        have h2 : l1.length * l1.length ≤ 45 * 45 := Nat.mul_le_mul h h
        simp only [List.length_nil] at h1
        omega
      rcases hl with hl | hl
      · have hb : (best (goodB m no th pw ls mg) l1).length ≤ l1.length := by
          rcases (best_facts (goodB m no th pw ls mg) l1).1 with h | ⟨h, _⟩
          · rw [h]; simp
          · exact asc_len _ _ _ h
        rw [Largest_eq m no th pw ls mg l1 (by omega) _ (by omega) c, rLargest_eq m pw no th ls mg l1 hl _ (by omega) c, (hP (by omega)).1, (hP (by omega)).2]
        simp only [Option.bind_some]
        rw [if_pos trivial, equalI_eq _ (by omega) _ (by omega)]
        simp only [Option.bind_some]
        rw [if_pos trivial, if_pos trivial, equalP_eq _ (by have := hlen (by omega); omega) _ (by have := hlen (by omega); omega)]
        rfl
      · have hL : conflict_Largest.f (pw.length + 20000) m pw no th ls mg l1 = some ([], 8) := by
          unfold conflict_Largest.f
          rw [check_eq m no th pw ls mg _ (by omega)]
          simp only [Option.bind_some]
          rw [if_pos c, if_pos (by omega)]
        have hR : hopmeshref34_Largest.f (pw.length + 20000) m pw no th ls mg l1 = some ([], 8) := by
          unfold hopmeshref34_Largest.f
          rw [refcheck_eq m no th pw ls mg _ (by omega)]
          simp only [Option.bind_some]
          rw [if_pos c, if_pos (by omega)]
        rw [hL, hR]
        rcases hl with hl | hl
        · rw [(hP (by omega)).1, (hP (by omega)).2]
          simp only [Option.bind_some]
          rw [if_pos trivial, equalI_eq _ (by simp) _ (by simp)]
          simp only [Option.bind_some]
          rw [if_pos trivial, if_pos trivial, equalP_eq _ (by have := hlen (by omega); omega) _ (by have := hlen (by omega); omega)]
          rfl
        · have hA : conflict_Pairs.f (pw.length + 20000) m pw no th ls mg l1 = some ([], 8) := by
            unfold conflict_Pairs.f
            rw [check_eq m no th pw ls mg _ (by omega)]
            simp only [Option.bind_some]
            rw [if_pos c, if_pos (by omega)]
          have hB : hopmeshref34_Pairs.f (pw.length + 20000) m pw no th ls mg l1 = some ([], 8) := by
            unfold hopmeshref34_Pairs.f
            rw [refcheck_eq m no th pw ls mg _ (by omega)]
            simp only [Option.bind_some]
            rw [if_pos c, if_pos (by omega)]
          rw [hA, hB]
          simp only [Option.bind_some]
          rw [if_pos trivial, equalI_eq _ (by simp) _ (by simp)]
          simp only [Option.bind_some]
          rw [if_pos trivial, if_pos trivial, equalP_eq _ (by simp) _ (by simp)]
          rfl
    · have hL : conflict_Largest.f (pw.length + 20000) m pw no th ls mg l1 = some ([], 1) := by
        unfold conflict_Largest.f
        rw [check_eq m no th pw ls mg _ (by omega)]
        simp only [Option.bind_some]
        rw [if_neg c]
      have hR : hopmeshref34_Largest.f (pw.length + 20000) m pw no th ls mg l1 = some ([], 1) := by
        unfold hopmeshref34_Largest.f
        rw [refcheck_eq m no th pw ls mg _ (by omega)]
        simp only [Option.bind_some]
        rw [if_neg c]
      have hA : conflict_Pairs.f (pw.length + 20000) m pw no th ls mg l1 = some ([], 1) := by
        unfold conflict_Pairs.f
        rw [check_eq m no th pw ls mg _ (by omega)]
        simp only [Option.bind_some]
        rw [if_neg c]
      have hB : hopmeshref34_Pairs.f (pw.length + 20000) m pw no th ls mg l1 = some ([], 1) := by
        unfold hopmeshref34_Pairs.f
        rw [refcheck_eq m no th pw ls mg _ (by omega)]
        simp only [Option.bind_some]
        rw [if_neg c]
      rw [hL, hR, hA, hB]
      simp only [Option.bind_some]
      rw [if_pos trivial, equalI_eq _ (by simp) _ (by simp)]
      simp only [Option.bind_some]
      rw [if_pos trivial, if_pos trivial, equalP_eq _ (by simp) _ (by simp)]
      rfl
  have dead : hopmeshlaw34_ConflictSets.j0 (pw.length + 20001) l1 true m pw no th ls mg = some true := by
    simp only [hopmeshlaw34_ConflictSets.j0]
    rw [if_pos trivial]
  unfold hopmeshlaw34_ConflictSets.f hopmeshlaw34_awake.f
  rw [few_eq m no th pw ls mg hm _ (by omega)]
  simp only [Option.bind_some]
  rw [if_pos trivial]
  cases hf : fewB pw ls mg with
  | false => rw [if_neg (by simp)]; exact dead
  | true =>
    rw [if_pos rfl]
    by_cases h9 : (l1.length : Int) > 9
    · rw [if_pos h9]
      by_cases h13 : (l1.length : Int) = 13
      · rw [if_pos h13]
        exact live (by omega)
      · rw [if_neg h13]
        by_cases h46 : (l1.length : Int) = 46
        · rw [show ((l1.length : Int) != 46) = false from bne_eq_false_iff_eq.mpr h46]
          exact live (by omega)
        · rw [show ((l1.length : Int) != 46) = true from bne_iff_ne.mpr h46]
          exact dead
    · rw [if_neg h9]
      exact live (by omega)
end Go.Proofs.Ytibgcekekmphoaa.P34
