/- hopmeshref14.Best picks the strings in the order by counts: plain laws. -/
import Derived.Test.YtmbbijhppgkdfaaP14Be
import Derived.Test.YtmbbijhppgkdfaaTrfind
import Derived.Test.YtmbbijhppgkdfaaTparse
import Derived.Test.YtmbbijhppgkdfaaTcount
namespace Go.Proofs.Ytmbbijhppgkdfaa.P14
open Go.RowKit Go.Proofs.YtmbbijhppgkdfaaW.PrintWords Go.Proofs.YtmbbijhppgkdfaaW.PrintLast Go.Proofs.YtmbbijhppgkdfaaW.PrintMore
set_option linter.unusedVariables false
set_option linter.unusedSimpArgs false

/-- What a header counts. -/
def occH (h : S24) : List (List UInt8) := if okB h = true then [h.f2.data.toList.take 3, h.f3.data.toList.take 3] else []
def occS (hs : List S24) : List (List UInt8) := hs.flatMap occH
theorem occS_succ (hs : List S24) (i : Nat) (h : i < hs.length) : occS (hs.take (i + 1)) = occS (hs.take i) ++ occH (rd_T24 hs (i : Int)) := by
  unfold occS
  rw [List.take_succ_eq_append_getElem h, List.flatMap_append]
  congr 1
  have e : rd_T24 hs (i : Int) = hs[i] := by
    unfold rd_T24
    rw [Int.toNat_natCast, gd_in _ _ h]
  rw [e]
  simp
theorem occH_len (h : S24) : (occH h).length ≤ 2 := by unfold occH; split <;> simp
theorem occS_len (hs : List S24) : (occS hs).length ≤ 2 * hs.length := by
  unfold occS
  induction hs with
  | nil => simp
  | cons h t ih =>
    rw [List.flatMap_cons, List.length_append, List.length_cons]
    have := occH_len h
    omega
/-- The i-th name. -/
def nm (names : List ByteArray) (j : Nat) : List UInt8 := (rdOf ByteArray.empty names (j : Int)).data.toList
theorem nm_in (names : List ByteArray) (j : Nat) (h : j < names.length) : nm names j = (names.map fun b => b.data.toList)[j]'(by simpa using h) := by
  unfold nm rdOf
  rw [Int.toNat_natCast, gd_in _ _ h, List.getElem_map]
structure Nm (names : List ByteArray) (counts : List Int) (occ : List (List UInt8)) : Prop where
  len : counts.length = names.length
  nodup : (names.map fun b => b.data.toList).Nodup
  mem : ∀ s, s ∈ (names.map fun b => b.data.toList) ↔ s ∈ occ
  cnt : ∀ j, j < names.length → rd counts (j : Int) = (occ.count (nm names j) : Int)
  small : names.length ≤ occ.length
theorem rd_nat (xs : List Int) (j : Nat) : rd xs (j : Int) = xs.getD j 0 := by unfold rd; rw [Int.toNat_natCast]
theorem getD_set (xs : List Int) (i j : Nat) (v : Int) (h : i < xs.length) : (xs.set i v).getD j 0 = if i = j then v else xs.getD j 0 := by
  rw [List.getD_eq_getElem?_getD, List.getElem?_set]
  split
  · rename_i e; subst e; simp [h]
  · rw [List.getD_eq_getElem?_getD]
theorem nm_inj {names : List ByteArray} (h : (names.map fun b => b.data.toList).Nodup) {i j : Nat} (hi : i < names.length) (hj : j < names.length) (e : nm names i = nm names j) : i = j := by
  rw [nm_in _ _ hi, nm_in _ _ hj] at e
  exact (List.getElem_inj h).mp e
theorem nm_mem {names : List ByteArray} {j : Nat} (hj : j < names.length) : nm names j ∈ names.map fun b => b.data.toList := by
  rw [nm_in _ _ hj]
  exact List.getElem_mem _
theorem nm_of_mem {names : List ByteArray} {s : List UInt8} (h : s ∈ names.map fun b => b.data.toList) : ∃ j, j < names.length ∧ nm names j = s := by
  obtain ⟨j, hj, e⟩ := List.getElem_of_mem h
  have hj' : j < names.length := by simpa using hj
  exact ⟨j, hj', by rw [nm_in _ _ hj', e]⟩
theorem Nm.hit {names : List ByteArray} {counts : List Int} {occ : List (List UInt8)} (h : Nm names counts occ) (a : ByteArray) (idx : Nat) (hi : idx < names.length) (e : nm names idx = a.data.toList) : Nm names (counts.set idx (rd counts (idx : Int) + 1)) (occ ++ [a.data.toList]) where
  len := by rw [List.length_set]; exact h.len
  nodup := h.nodup
  mem := fun s => by
    rw [h.mem, List.mem_append, List.mem_singleton]
    constructor
    · exact Or.inl
    · rintro (hs | rfl)
      · exact hs
      · exact (h.mem _).mp (e ▸ nm_mem hi)
  cnt := fun j hj => by
    rw [rd_nat, getD_set _ _ _ _ (by rw [h.len]; exact hi), List.count_append]
    by_cases hij : idx = j
    · subst hij
      rw [if_pos rfl, h.cnt idx hi, ← e]
      simp
    · rw [if_neg hij, ← rd_nat, h.cnt j hj]
      have : List.count (nm names j) [a.data.toList] = 0 := List.count_eq_zero_of_not_mem (by
        rw [List.mem_singleton, ← e]
        exact fun e2 => hij (nm_inj h.nodup hi hj e2.symm))
      rw [this, Nat.add_zero]
  small := by rw [List.length_append, List.length_singleton]; have := h.small; omega
theorem nm_left (names : List ByteArray) (a : ByteArray) (j : Nat) (h : j < names.length) : nm (names ++ [a]) j = nm names j := by
  unfold nm rdOf
  rw [Int.toNat_natCast, gd_left _ _ _ _ h]
theorem nm_last (names : List ByteArray) (a : ByteArray) : nm (names ++ [a]) names.length = a.data.toList := by
  unfold nm rdOf
  rw [Int.toNat_natCast, gd_right _ _ _ _ (Nat.le_refl _), Nat.sub_self]
  rfl
theorem Nm.miss {names : List ByteArray} {counts : List Int} {occ : List (List UInt8)} (h : Nm names counts occ) (a : ByteArray) (hn : ∀ j, j < names.length → nm names j ≠ a.data.toList) : Nm (names ++ [a]) ((counts ++ [0]).set names.length (rd (counts ++ [0]) (names.length : Int) + 1)) (occ ++ [a.data.toList]) := by
  have hna : ¬ a.data.toList ∈ occ := fun hm => by
    obtain ⟨j, hj, e⟩ := nm_of_mem ((h.mem _).mpr hm)
    exact hn j hj e
  have hc0 : rd (counts ++ [0]) (names.length : Int) = 0 := by
    rw [rd_nat, gd_right _ _ _ _ (by rw [h.len]; exact Nat.le_refl _), h.len, Nat.sub_self]
    rfl
  refine ⟨?_, ?_, fun s => ?_, fun j hj => ?_, ?_⟩
  · simp [h.len]
  · rw [List.map_append, List.map_singleton]
    refine List.nodup_append.mpr ⟨h.nodup, by simp, fun x hx y hy => ?_⟩
    rw [List.mem_singleton] at hy
    subst hy
    rintro rfl
    exact hna ((h.mem _).mp hx)
  · rw [List.map_append, List.map_singleton, List.mem_append, List.mem_append, h.mem]
  · rw [List.length_append, List.length_singleton] at hj
    rw [hc0, rd_nat, getD_set _ _ _ _ (by rw [List.length_append, h.len]; simp), List.count_append]
    by_cases hjl : names.length = j
    · subst hjl
      rw [if_pos rfl, nm_last, List.count_eq_zero_of_not_mem hna]
      simp
    · have hj2 : j < names.length := by omega
      rw [if_neg hjl, nm_left _ _ _ hj2, gd_left _ _ _ _ (by rw [h.len]; exact hj2), ← rd_nat, h.cnt j hj2]
      have : List.count (nm names j) [a.data.toList] = 0 := List.count_eq_zero_of_not_mem (by rw [List.mem_singleton]; exact hn j hj2)
      rw [this, Nat.add_zero]
  · simp only [List.length_append, List.length_singleton]
    have := h.small
    omega
theorem nm_ne (names : List ByteArray) (a : ByteArray) (j : Nat) : ((rdOf ByteArray.empty names (j : Int)).toList = a.toList) ↔ nm names j = a.data.toList := by
  rw [ByteArray.toList_eq, ByteArray.toList_eq]
  rfl
section
variable (hs : List S24) (most : Int) (out : List S26) (R : List S26) (i : Int) (ys : List ByteArray)
theorem l2_add {names : List ByteArray} {counts : List Int} {occ : List (List UInt8)} (h : Nm names counts occ) (hocc : occ.length ≤ 1000) (a : ByteArray) (m : Nat) (hm : m ≤ 10) (B : Nat)
    (next : ∀ names' counts', Nm names' counts' (occ ++ [a.data.toList]) → ∀ k, B < k → hopmeshref14_Best.l1 k hs most out names' counts' i ys (ys.length : Int) ((m + 1 : Nat) : Int) = some R) (d : Nat) :
    ∀ (j k : Nat), j + d = names.length → d + 2 + B < k → (∀ t, t < j → nm names t ≠ a.data.toList) → hopmeshref14_Best.l2 k hs most out names counts i a (j : Int) ys (ys.length : Int) (m : Int) = some R := by
  have wm : wrap64 ((m : Int) + 1) = ((m + 1 : Nat) : Int) := by unfold wrap64; omega
  have hsm := h.small
  induction d with
  | zero =>
    intro j k hj hk hn
    obtain ⟨k, rfl⟩ : ∃ z, k = z + 2 := ⟨k - 2, by omega⟩
    have hj : j = names.length := by omega
    subst hj
    have hc0 : rd (counts ++ [0]) (names.length : Int) = 0 := by
      rw [rd_nat, gd_right _ _ _ _ (by rw [h.len]; exact Nat.le_refl _), h.len, Nat.sub_self]
      rfl
    have wr : wrap64 (rd (counts ++ [0]) (names.length : Int) + 1) = rd (counts ++ [0]) (names.length : Int) + 1 := by rw [hc0]; unfold wrap64; omega
    rw [hopmeshref14_Best.l2, if_neg (by omega), hopmeshref14_Best.j4, if_pos rfl, if_pos (by omega), if_pos (by rw [h.len]; omega), Option.bind_some, if_pos (by omega), if_pos (by rw [List.length_append, h.len]; simp; omega), wr, wm, Int.toNat_natCast]
    exact next _ _ (h.miss a hn) k (by omega)
  | succ d ih =>
    intro j k hj hk hn
    obtain ⟨k, rfl⟩ : ∃ z, k = z + 2 := ⟨k - 2, by omega⟩
    have wj : wrap64 ((j : Int) + 1) = ((j + 1 : Nat) : Int) := by unfold wrap64; omega
    rw [hopmeshref14_Best.l2, if_pos (by omega), if_pos (by omega)]
    by_cases e : nm names j = a.data.toList
    · have hcj := h.cnt j (by omega)
      have hcl := List.count_le_length (a := nm names j) (l := occ)
      have wr : wrap64 (rd counts (j : Int) + 1) = rd counts (j : Int) + 1 := by rw [hcj]; unfold wrap64; omega
      rw [if_pos ((nm_ne _ _ _).mpr e), hopmeshref14_Best.j4, if_neg (by omega), if_pos (by omega), if_pos (by rw [h.len]; omega), wr, wm, Int.toNat_natCast]
      exact next _ _ (h.hit a j (by omega) e) k (by omega)
    · rw [if_neg (fun e2 => e ((nm_ne _ _ _).mp e2)), wj]
      exact ih (j + 1) (k + 1) (by omega) (by omega) (fun t ht => by
        by_cases htj : t = j
        · subst htj; exact e
        · exact hn t (by omega))
end
theorem take3 (a : ByteArray) : (a.extract 0 3).data.toList = a.data.toList.take 3 := by simp
theorem l0_count (hs : List S24) (most : Int) (out R : List S26) (hl : hs.length ≤ 400) (B : Nat)
    (fin : ∀ names counts, Nm names counts (occS hs) → ∀ k, B < k → hopmeshref14_Best.l3 k most out names counts = some R) (d : Nat) :
    ∀ (i k : Nat) (names : List ByteArray) (counts : List Int), i + d = hs.length → 5000 * d + B + 1 < k → Nm names counts (occS (hs.take i)) → hopmeshref14_Best.l0 k hs most out names counts (i : Int) = some R := by
  induction d with
  | zero =>
    intro i k names counts hi hk hN
    obtain ⟨k, rfl⟩ : ∃ z, k = z + 1 := ⟨k - 1, by omega⟩
    rw [List.take_of_length_le (by omega)] at hN
    rw [hopmeshref14_Best.l0, if_neg (by omega)]
    exact fin _ _ hN k (by omega)
  | succ d ih =>
    intro i k names counts hi hk hN
    obtain ⟨k, rfl⟩ : ∃ z, k = z + 2 := ⟨k - 2, by omega⟩
    have wi : wrap64 ((i : Int) + 1) = ((i + 1 : Nat) : Int) := by unfold wrap64; omega
    have hnext := occS_succ hs i (by omega)
    have hol := occS_len (hs.take i)
    rw [List.length_take] at hol
    rw [hopmeshref14_Best.l0, if_pos (by omega), if_pos (by omega)]
    refine bind_to (ccheck_eq k _ _ _ _ _ _ _) ?_
    by_cases ho : okB (rd_T24 hs (i : Int)) = true
    · have ok := (okB_iff _).mp ho
      have e2 := ok.f2
      have e3 := ok.f3
      unfold occH at hnext
      rw [if_pos ho] at hnext
      rw [if_pos (show okB ⟨(rd_T24 hs (i : Int)).f0, (rd_T24 hs (i : Int)).f1, (rd_T24 hs (i : Int)).f2, (rd_T24 hs (i : Int)).f3, (rd_T24 hs (i : Int)).f4, (rd_T24 hs (i : Int)).f5, (rd_T24 hs (i : Int)).f6⟩ = true from ho), if_pos rfl, if_pos (by decide), if_pos (by omega), if_pos (by omega), Option.bind_some]
      generalize rd_T24 hs (i : Int) = h at *
      have hsm := hN.small
      have t2 := take3 h.f2
      have t3 := take3 h.f3
      have r0 : rdOf ByteArray.empty [h.f2.extract 0 3, h.f3.extract 0 3] ((0 : Nat) : Int) = h.f2.extract 0 3 := rfl
      have r1 : rdOf ByteArray.empty [h.f2.extract 0 3, h.f3.extract 0 3] ((0 + 1 : Nat) : Int) = h.f3.extract 0 3 := rfl
      have hy : ([h.f2.extract 0 3, h.f3.extract 0 3] : List ByteArray).length = 2 := rfl
      have hlast : ∀ names' counts', Nm names' counts' (occS (hs.take (i + 1))) → ∀ k, 5000 * d + B + 2 < k → hopmeshref14_Best.l1 k hs most out names' counts' (i : Int) [h.f2.extract 0 3, h.f3.extract 0 3] (([h.f2.extract 0 3, h.f3.extract 0 3] : List ByteArray).length : Int) ((0 + 1 + 1 : Nat) : Int) = some R := by
        intro names' counts' hN' k hk
        obtain ⟨k, rfl⟩ : ∃ z, k = z + 1 := ⟨k - 1, by omega⟩
        rw [hopmeshref14_Best.l1, if_neg (by rw [hy]; decide), wi]
        exact ih (i + 1) k names' counts' (by omega) (by omega) hN'
      have hmid : ∀ names' counts', Nm names' counts' (occS (hs.take i) ++ [(h.f2.extract 0 3).data.toList]) → ∀ k, 5000 * d + B + 2 + 2000 < k → hopmeshref14_Best.l1 k hs most out names' counts' (i : Int) [h.f2.extract 0 3, h.f3.extract 0 3] (([h.f2.extract 0 3, h.f3.extract 0 3] : List ByteArray).length : Int) ((0 + 1 : Nat) : Int) = some R := by
        intro names' counts' hN' k hk
        obtain ⟨k, rfl⟩ : ∃ z, k = z + 1 := ⟨k - 1, by omega⟩
        have hsm' := hN'.small
        rw [List.length_append, List.length_singleton] at hsm'
        rw [hopmeshref14_Best.l1, if_pos (by rw [hy]; decide), if_pos (by decide), if_pos (by rw [hy]; decide), r1]
        refine l2_add hs most out R (i : Int) _ hN' (by rw [List.length_append, List.length_singleton]; omega) (h.f3.extract 0 3) (0 + 1) (by decide) (5000 * d + B + 2) (fun n' c' hn' => hlast n' c' ?_) names'.length 0 k (Nat.zero_add _) (by omega) (fun t ht => absurd ht (Nat.not_lt_zero _))
        rw [hnext]
        rw [t2, t3, List.append_assoc] at hn'
        exact hn'
      have z0 : ((0 : Nat) : Int) = 0 := rfl
      rw [hopmeshref14_Best.l1, if_pos (by rw [hy]; decide), if_pos (by decide), if_pos (by rw [hy]; decide), ← z0, r0]
      exact l2_add hs most out R (i : Int) _ hN (by omega) (h.f2.extract 0 3) 0 (by decide) (5000 * d + B + 2 + 2000) hmid names.length 0 k (Nat.zero_add _) (by omega) (fun t ht => absurd ht (Nat.not_lt_zero _))
    · rw [if_neg (show ¬ okB ⟨(rd_T24 hs (i : Int)).f0, (rd_T24 hs (i : Int)).f1, (rd_T24 hs (i : Int)).f2, (rd_T24 hs (i : Int)).f3, (rd_T24 hs (i : Int)).f4, (rd_T24 hs (i : Int)).f5, (rd_T24 hs (i : Int)).f6⟩ = true from ho), if_neg (show ¬ ((1 : Int) = 0) by decide), wi]
      unfold occH at hnext
      rw [if_neg ho, List.append_nil] at hnext
      exact ih (i + 1) (k + 1) names counts (by omega) (by omega) (by rw [hnext]; exact hN)
/-- A context for a string. -/
def ctxL (s : List UInt8) : S26 := ⟨⟨s.toArray⟩⟩
/-- The counts when the first i strings have been picked. -/
structure Sel (names : List ByteArray) (counts : List Int) (occ ks : List (List UInt8)) (i : Nat) : Prop where
  len : counts.length = names.length
  cnt : ∀ j, j < names.length → rd counts (j : Int) = if nm names j ∈ ks.take i then 0 else (occ.count (nm names j) : Int)
theorem bless (x y : ByteArray) : Op.bytesLess x.toList y.toList = decide (x.data.toList < y.data.toList) := by
  rw [ByteArray.toList_eq, ByteArray.toList_eq]
  exact bytesLess_eq _ _
/-- The best of the names ahead of j that have not been picked. -/
def Scan (names : List ByteArray) (occ ks : List (List UInt8)) (i j : Nat) (best : Int) : Prop :=
  (best = -1 ∧ ∀ t, t < j → nm names t ∈ ks.take i) ∨
  (∃ b : Nat, best = (b : Int) ∧ b < j ∧ ¬ nm names b ∈ ks.take i ∧ ∀ t, t < j → ¬ nm names t ∈ ks.take i → t = b ∨ ltB occ (nm names b) (nm names t) = true)
theorem l4_scan {names : List ByteArray} {counts : List Int} {occ ks : List (List UInt8)} (most : Int) (out R : List S26) (i : Nat) (hl : names.length ≤ 1000) (hnd : (names.map fun b => b.data.toList).Nodup) (hmem : ∀ s, s ∈ (names.map fun b => b.data.toList) ↔ s ∈ occ) (hS : Sel names counts occ ks i) (B : Nat)
    (fin : ∀ best, Scan names occ ks i names.length best → ∀ k, B < k → hopmeshref14_Best.l4 k most out names counts best (names.length : Int) = some R) (d : Nat) :
    ∀ (j k : Nat) (best : Int), j + d = names.length → 2 * d + B < k → Scan names occ ks i j best → hopmeshref14_Best.l4 k most out names counts best (j : Int) = some R := by
  induction d with
  | zero =>
    intro j k best hj hk hb
    obtain rfl : j = names.length := by omega
    exact fin best hb k (by omega)
  | succ d ih =>
    intro j k best hj hk hb
    obtain ⟨k, rfl⟩ : ∃ z, k = z + 2 := ⟨k - 2, by omega⟩
    have wj : wrap64 ((j : Int) + 1) = ((j + 1 : Nat) : Int) := by unfold wrap64; omega
    have jT : hopmeshref14_Best.j7 (k + 1) most out names counts best (j : Int) true = hopmeshref14_Best.l4 k most out names counts (j : Int) ((j + 1 : Nat) : Int) := by rw [hopmeshref14_Best.j7, if_pos rfl, wj]
    have jF : hopmeshref14_Best.j7 (k + 1) most out names counts best (j : Int) false = hopmeshref14_Best.l4 k most out names counts best ((j + 1 : Nat) : Int) := by rw [hopmeshref14_Best.j7, if_neg (by decide), wj]
    have hcj := hS.cnt j (by omega)
    have hoc : 0 < occ.count (nm names j) := List.count_pos_iff.mpr ((hmem _).mp (nm_mem (by omega)))
    rw [hopmeshref14_Best.l4, if_pos (by omega), if_pos (by omega), if_pos (by rw [hS.len]; omega)]
    by_cases hp : nm names j ∈ ks.take i
    · rw [if_pos hp] at hcj
      rw [if_neg (by rw [hcj]; decide), jF]
      refine ih (j + 1) k best (by omega) (by omega) ?_
      rcases hb with ⟨e, h⟩ | ⟨b, e, hbj, hnb, h⟩
      · exact Or.inl ⟨e, fun t ht => by
          by_cases htj : t = j
          · subst htj; exact hp
          · exact h t (by omega)⟩
      · exact Or.inr ⟨b, e, by omega, hnb, fun t ht hnt => by
          by_cases htj : t = j
          · subst htj; exact absurd hp hnt
          · exact h t (by omega) hnt⟩
    · rw [if_neg hp] at hcj
      rw [if_pos (by rw [hcj]; omega)]
      rcases hb with ⟨rfl, h⟩ | ⟨b, rfl, hbj, hnb, h⟩
      · rw [if_pos (by decide), jT]
        exact ih (j + 1) k (j : Int) (by omega) (by omega) (Or.inr ⟨j, rfl, by omega, hp, fun t ht hnt => by
          by_cases htj : t = j
          · exact Or.inl htj
          · exact absurd (h t (by omega)) hnt⟩)
      · have hcb := hS.cnt b (by omega)
        rw [if_neg hnb] at hcb
        rw [if_neg (by omega), if_pos (by omega), if_pos (by rw [hS.len]; omega)]
        have keep : ltB occ (nm names b) (nm names j) = true → hopmeshref14_Best.l4 k most out names counts (b : Int) ((j + 1 : Nat) : Int) = some R := fun hlt =>
          ih (j + 1) k (b : Int) (by omega) (by omega) (Or.inr ⟨b, rfl, by omega, hnb, fun t ht hnt => by
            by_cases htj : t = j
            · subst htj; exact Or.inr hlt
            · exact h t (by omega) hnt⟩)
        have take : ltB occ (nm names j) (nm names b) = true → hopmeshref14_Best.l4 k most out names counts (j : Int) ((j + 1 : Nat) : Int) = some R := fun hlt =>
          ih (j + 1) k (j : Int) (by omega) (by omega) (Or.inr ⟨j, rfl, by omega, hp, fun t ht hnt => by
            by_cases htj : t = j
            · exact Or.inl htj
            · rcases h t (by omega) hnt with e | h2
              · subst e; exact Or.inr hlt
              · exact Or.inr (ltB_trans occ _ _ _ hlt h2)⟩)
        have hne : nm names j ≠ nm names b := fun e => by
          have := nm_inj hnd (by omega) (by omega) e
          omega
        by_cases hgt : rd counts (j : Int) > rd counts (b : Int)
        · rw [if_pos hgt, jT]
          exact take ((ltB_iff _ _ _).mpr (Or.inl (by rw [hcj, hcb] at hgt; omega)))
        · rw [if_neg hgt]
          by_cases heq : rd counts (j : Int) = rd counts (b : Int)
          · rw [if_pos heq, if_pos (by omega), bless]
            have hce : occ.count (nm names b) = occ.count (nm names j) := by rw [hcj, hcb] at heq; omega
            by_cases hlt : nm names j < nm names b
            · rw [show decide ((rdOf ByteArray.empty names (j : Int)).data.toList < (rdOf ByteArray.empty names (b : Int)).data.toList) = true from decide_eq_true hlt, jT]
              exact take ((ltB_iff _ _ _).mpr (Or.inr ⟨hce, hlt⟩))
            · rw [show decide ((rdOf ByteArray.empty names (j : Int)).data.toList < (rdOf ByteArray.empty names (b : Int)).data.toList) = false from decide_eq_false hlt, jF]
              refine keep ((ltB_iff _ _ _).mpr (Or.inr ⟨hce.symm, ?_⟩))
              by_cases h3 : nm names b < nm names j
              · exact h3
              · exact absurd (ltL_tri _ _ hlt h3) hne
          · rw [if_neg heq, jF]
            exact keep ((ltB_iff _ _ _).mpr (Or.inl (by rw [hcj, hcb] at hgt heq; omega)))
theorem mem_take_of {ks : List (List UInt8)} {i u : Nat} (hu : u < i) (hl : u < ks.length) : ks[u] ∈ ks.take i := by
  rw [List.mem_take_iff_getElem]
  exact ⟨u, by omega, rfl⟩
theorem not_mem_take {ks : List (List UInt8)} (hnd : ks.Nodup) {i u : Nat} (hu : i ≤ u) (hl : u < ks.length) : ¬ ks[u] ∈ ks.take i := by
  rw [List.mem_take_iff_getElem]
  rintro ⟨v, hv, e⟩
  have := (List.getElem_inj hnd).mp e
  omega
theorem pick_is {names : List ByteArray} {occ ks : List (List UInt8)} (hmem : ∀ s, s ∈ (names.map fun b => b.data.toList) ↔ s ∈ occ) (hK : Keyd occ ks) (i b : Nat) (hi : i < ks.length) (hb : b < names.length) (hnb : ¬ nm names b ∈ ks.take i) (h : ∀ t, t < names.length → ¬ nm names t ∈ ks.take i → t = b ∨ ltB occ (nm names b) (nm names t) = true) : nm names b = ks[i] := by
  obtain ⟨u, hu, eu⟩ := List.getElem_of_mem ((hK.mem _).mpr ((hmem _).mp (nm_mem hb)))
  obtain ⟨t, ht, et⟩ := nm_of_mem ((hmem _).mpr ((hK.mem _).mp (List.getElem_mem hi)))
  have hui : i ≤ u := by
    by_cases h2 : i ≤ u
    · exact h2
    · exact absurd (eu ▸ mem_take_of (show u < i by omega) hu) hnb
  by_cases hue : u = i
  · subst hue; exact eu.symm
  · exfalso
    have hs := List.pairwise_iff_getElem.mp hK.sorted i u hi hu (by omega)
    rcases h t ht (by rw [et]; exact not_mem_take hK.nodup (Nat.le_refl _) hi) with e | h2
    · subst e
      rw [← eu] at et
      exact hue ((List.getElem_inj hK.nodup).mp et)
    · rw [et, ← eu] at h2
      have := ltB_trans occ _ _ _ hs h2
      rw [ltB_irr] at this
      cases this
theorem l3_pick {names : List ByteArray} {occ ks : List (List UInt8)} (most : Nat) (hm : most ≤ 8) (hl : names.length ≤ 1000) (hnd : (names.map fun b => b.data.toList).Nodup) (hmem : ∀ s, s ∈ (names.map fun b => b.data.toList) ↔ s ∈ occ) (hK : Keyd occ ks) (d : Nat) :
    ∀ (i k : Nat) (counts : List Int), i + d = most → i ≤ ks.length → 3000 * d + 10 < k → Sel names counts occ ks i → hopmeshref14_Best.l3 k (most : Int) ((ks.take i).map ctxL) names counts = some ((ks.take most).map ctxL) := by
  induction d with
  | zero =>
    intro i k counts hi hik hk hS
    obtain ⟨k, rfl⟩ : ∃ z, k = z + 1 := ⟨k - 1, by omega⟩
    obtain rfl : i = most := by omega
    rw [hopmeshref14_Best.l3, if_neg (by rw [List.length_map, List.length_take]; omega)]
  | succ d ih =>
    intro i k counts hi hik hk hS
    obtain ⟨k, rfl⟩ : ∃ z, k = z + 1 := ⟨k - 1, by omega⟩
    rw [hopmeshref14_Best.l3, if_pos (by rw [List.length_map, List.length_take]; omega)]
    refine l4_scan (most : Int) _ _ i hl hnd hmem hS (3000 * d + 11) (fun best hb k hk => ?_) names.length 0 k (-1) (Nat.zero_add _) (by omega) (Or.inl ⟨rfl, fun t ht => absurd ht (Nat.not_lt_zero _)⟩)
    obtain ⟨k, rfl⟩ : ∃ z, k = z + 1 := ⟨k - 1, by omega⟩
    rw [hopmeshref14_Best.l4, if_neg (by omega)]
    rcases hb with ⟨rfl, h⟩ | ⟨b, rfl, hbl, hnb, h⟩
    · rw [if_pos (by decide)]
      have hks : ks.length ≤ i := by
        by_cases h2 : ks.length ≤ i
        · exact h2
        · exfalso
          have hik2 : i < ks.length := by omega
          obtain ⟨t, ht, et⟩ := nm_of_mem ((hmem _).mpr ((hK.mem _).mp (List.getElem_mem hik2)))
          have := h t ht
          rw [et] at this
          exact not_mem_take hK.nodup (Nat.le_refl _) hik2 this
      rw [List.take_of_length_le hks, List.take_of_length_le (by omega)]
    · have hi2 : i < ks.length := by
        by_cases h2 : i < ks.length
        · exact h2
        · exfalso
          apply hnb
          rw [List.take_of_length_le (by omega)]
          exact (hK.mem _).mpr ((hmem _).mp (nm_mem hbl))
      have hp := pick_is hmem hK i b hi2 hbl hnb h
      rw [if_neg (by omega), if_pos (by omega), if_pos (by omega), if_pos (by rw [List.length_map, List.length_take]; omega), if_pos (by rw [hS.len]; omega), Int.toNat_natCast]
      have hctx : (⟨rdOf ByteArray.empty names (b : Int)⟩ : S26) = ctxL ks[i] := by
        rw [← hp]
        unfold ctxL nm
        congr 1
      have ht : (ks.take i).map ctxL ++ [(⟨rdOf ByteArray.empty names (b : Int)⟩ : S26)] = (ks.take (i + 1)).map ctxL := by
        rw [hctx, List.take_succ_eq_append_getElem hi2, List.map_append, List.map_singleton]
      rw [ht]
      refine ih (i + 1) k _ (by omega) (by omega) (by omega) ⟨by rw [List.length_set]; exact hS.len, fun j hj => ?_⟩
      rw [rd_nat, getD_set _ _ _ _ (by rw [hS.len]; exact hbl), List.take_succ_eq_append_getElem hi2]
      by_cases hbj : b = j
      · subst hbj
        have hmt : nm names b ∈ ks.take i ++ [ks[i]] := by rw [hp]; exact List.mem_append_right _ (List.mem_singleton.mpr rfl)
        rw [if_pos rfl, if_pos hmt]
      · rw [if_neg hbj, ← rd_nat, hS.cnt j hj]
        have hne : nm names j ≠ ks[i] := fun e => hbj (nm_inj hnd hbl hj (by rw [hp, e]))
        by_cases hjt : nm names j ∈ ks.take i
        · rw [if_pos hjt, if_pos (List.mem_append_left _ hjt)]
        · rw [if_neg hjt, if_neg (by rw [List.mem_append, List.mem_singleton]; exact fun h => h.elim hjt hne)]
theorem rbest_eq (hs : List S24) (most : Int) (ks : List (List UInt8)) (hl : hs.length ≤ 20) (hK : Keyd (occS hs) ks) (k : Nat) (hk : 200000 < k) : hopmeshref14_Best.f k hs most = some (if 1 ≤ most ∧ most ≤ 8 then (ks.take most.toNat).map ctxL else []) := by
  obtain ⟨k, rfl⟩ : ∃ z, k = z + 1 := ⟨k - 1, by omega⟩
  unfold hopmeshref14_Best.f
  rw [Option.bind_some]
  by_cases h1 : most < 1
  · rw [if_pos h1, if_neg (by omega), hopmeshref14_Best.j0, if_pos rfl]
  · rw [if_neg h1]
    by_cases h8 : most > 8
    · rw [decide_eq_true h8, if_neg (by omega), hopmeshref14_Best.j0, if_pos rfl]
    · rw [decide_eq_false h8, if_pos (by omega), hopmeshref14_Best.j0, if_neg (by decide)]
      obtain ⟨m, rfl⟩ : ∃ m : Nat, most = (m : Int) := ⟨most.toNat, by omega⟩
      rw [Int.toNat_natCast]
      have z0 : ((0 : Nat) : Int) = 0 := rfl
      rw [← z0]
      refine l0_count hs (m : Int) [] _ (by omega) 30000 (fun names counts hN k hk => ?_) hs.length 0 k [] [] (Nat.zero_add _) (by omega) ⟨rfl, by simp, fun s => by simp [occS], fun j hj => absurd hj (Nat.not_lt_zero _), Nat.zero_le _⟩
      have hol := occS_len hs
      have := l3_pick m (by omega) (by have := hN.small; omega) hN.nodup hN.mem hK m 0 k counts (Nat.zero_add _) (Nat.zero_le _) (by omega) ⟨hN.len, fun j hj => by rw [List.take_zero, if_neg (by simp)]; exact hN.cnt j hj⟩
      rw [List.take_zero] at this
      exact this
end Go.Proofs.Ytmbbijhppgkdfaa.P14
