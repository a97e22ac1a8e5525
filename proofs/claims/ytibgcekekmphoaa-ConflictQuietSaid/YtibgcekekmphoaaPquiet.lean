/- Plain law: ConflictQuiet answers true. -/
import Derived.Test.YtibgcekekmphoaaTshare
import Derived.Test.YtibgcekekmphoaaP34Q
namespace Go.Proofs.Ytibgcekekmphoaa.P34
open Go.RowKit Go.Proofs.YtibgcekekmphoaaW.PrintWords Go.Proofs.YtibgcekekmphoaaW.PrintLast Go.Proofs.YtibgcekekmphoaaW.PrintMore
set_option linter.unusedVariables false
set_option linter.unusedSimpArgs false

theorem fe_zero_of (e : Int → Int) (d : Nat) : ∀ i, (∀ j : Nat, j < d → e (i + j) = 0) → fe e d i = 0 := by
  induction d with
  | zero => intro i _; rfl
  | succ d ih =>
    intro i h
    simp only [fe]
    have h0 := h 0 (by omega)
    rw [show i + ((0 : Nat) : Int) = i from by omega] at h0
    rw [if_pos h0]
    refine ih (i + 1) fun j hj => ?_
    have := h (j + 1) (by omega)
    rwa [show i + ((j + 1 : Nat) : Int) = i + 1 + (j : Int) from by omega] at this
theorem chk_of {m no th : Int} {pw : List (List Int)} {ls : List S44} {mg : List Int} (V : Valid m no th pw ls mg) : chk m pw no th ls mg = 0 := by
  have hp : pErr m pw = 0 := by unfold pErr; rw [if_pos V.len, V.bl, V.bv]; rfl
  have := V.m2; have := V.m32; have := V.no0; have := V.no1; have := V.th0; have := V.th1; have := V.lsn; have := V.mgn
  unfold chk
  rw [if_neg (by omega), hp, if_neg (by simp), if_neg (by omega), if_neg (by omega), if_neg (by simp [V.mgn])]
  exact fe_zero_of _ _ _ fun j hj => V.lk _ (by omega) (by omega)

theorem findIx_some {ls : List S44} {i : Int} (h0 : 0 ≤ i) (h1 : i < (ls.length : Int)) : 0 ≤ findIx ls (rd_T44 ls i).f0 (rd_T44 ls i).f1 := by
  unfold findIx
  cases hf : (List.range ls.length).find? (fun (t : Nat) => (rd_T44 ls (t : Int)).f0 == (rd_T44 ls i).f0 && (rd_T44 ls (t : Int)).f1 == (rd_T44 ls i).f1) with
  | none =>
    rw [List.find?_eq_none] at hf
    have := hf i.toNat (List.mem_range.2 (by omega))
    rw [show ((i.toNat : Nat) : Int) = i from by omega] at this
    simp at this
  | some t => show (0 : Int) ≤ (t : Int); omega

/-- The network with less power where there is no link. -/
structure Less (m : Int) (ls : List S44) (pw P : List (List Int)) : Prop where
  len : P.length = pw.length
  row : ∀ r : Int, (rd_L1 P r).length = (rd_L1 pw r).length
  lo : ∀ r b : Int, nodeB m r = true → nodeB m b = true → 0 ≤ rd (rd_L1 P r) b
  hi : ∀ r b : Int, nodeB m r = true → nodeB m b = true → rd (rd_L1 P r) b ≤ rd (rd_L1 pw r) b
  eq : ∀ r b : Int, nodeB m r = true → nodeB m b = true → 0 ≤ findIx ls r b → rd (rd_L1 P r) b = rd (rd_L1 pw r) b
theorem Less.refl {m no th : Int} {pw : List (List Int)} {ls : List S44} {mg : List Int} (V : Valid m no th pw ls mg) : Less m ls pw pw :=
  ⟨rfl, fun _ => rfl, fun r b hr hb => (V.power hr hb).1, fun _ _ _ _ => Int.le_refl _, fun _ _ _ _ _ => rfl⟩

theorem rd_L1_set (P : List (List Int)) (a : Int) (ha : 0 ≤ a) (ha2 : a < (P.length : Int)) (v : List Int) (r : Int) (hr : 0 ≤ r) : rd_L1 (P.set a.toNat v) r = if r = a then v else rd_L1 P r := by
  unfold rd_L1
  rw [List.getD_eq_getElem?_getD, List.getD_eq_getElem?_getD, List.getElem?_set]
  by_cases c : r = a
  · rw [if_pos c, if_pos (by omega), if_pos (by omega)]; rfl
  · rw [if_neg c, if_neg (by omega)]
theorem rd_set (R : List Int) (b : Int) (hb : 0 ≤ b) (hb2 : b < (R.length : Int)) (v c : Int) (hc : 0 ≤ c) : rd (R.set b.toNat v) c = if c = b then v else rd R c := by
  unfold rd
  rw [List.getD_eq_getElem?_getD, List.getD_eq_getElem?_getD, List.getElem?_set]
  by_cases e : c = b
  · rw [if_pos e, if_pos (by omega), if_pos (by omega)]; rfl
  · rw [if_neg e, if_neg (by omega)]
theorem rd_L1_neg (P : List (List Int)) (r : Int) (h : r < 0) : rd_L1 P r = rd_L1 P 0 := by
  unfold rd_L1
  rw [show r.toNat = (0 : Int).toNat from by omega]

theorem Less.step {m no th : Int} {pw P : List (List Int)} {ls : List S44} {mg : List Int} (V : Valid m no th pw ls mg) (H : Less m ls pw P) {a b : Int} (ha : nodeB m a = true) (hb : nodeB m b = true) (hf : findIx ls a b < 0) :
    Less m ls pw (P.set a.toNat ((rd_L1 P a).set b.toNat (wrap64 (Int.tdiv (rd (rd_L1 P a) b) 2)))) := by
  have ha' := nodeB_iff.1 ha
  have hb' := nodeB_iff.1 hb
  have hl := V.len
  have hP := H.len
  have hrow := badLen_at V.bl a ha'.1 (by omega)
  have hPr := H.row a
  have l0 := H.lo a b ha hb
  have l1 := H.hi a b ha hb
  have l2 := V.power ha hb
  have hw : wrap64 (Int.tdiv (rd (rd_L1 P a) b) 2) = rd (rd_L1 P a) b / 2 := by
    rw [Int.tdiv_eq_ediv_of_nonneg l0]
    exact wrap_in (by omega) (by omega)
  rw [hw]
  have key : ∀ r c : Int, nodeB m r = true → nodeB m c = true → rd (rd_L1 (P.set a.toNat ((rd_L1 P a).set b.toNat (rd (rd_L1 P a) b / 2))) r) c = if r = a ∧ c = b then rd (rd_L1 P a) b / 2 else rd (rd_L1 P r) c := fun r c hr hc => by
    have hr' := nodeB_iff.1 hr
    have hc' := nodeB_iff.1 hc
    rw [rd_L1_set P a ha'.1 (by omega) _ r hr'.1]
    by_cases e : r = a
    · subst e
      rw [if_pos rfl, rd_set _ b hb'.1 (by omega) _ c hc'.1]
      by_cases e2 : c = b
      · rw [if_pos e2, if_pos ⟨rfl, e2⟩]
      · rw [if_neg e2, if_neg (fun h => e2 h.2)]
    · rw [if_neg e, if_neg (fun h => e h.1)]
  refine ⟨by simp [hP], fun r => ?_, fun r c hr hc => ?_, fun r c hr hc => ?_, fun r c hr hc hix => ?_⟩
  · have main : ∀ r : Int, 0 ≤ r → (rd_L1 (P.set a.toNat ((rd_L1 P a).set b.toNat (rd (rd_L1 P a) b / 2))) r).length = (rd_L1 pw r).length := fun r hr => by
      rw [rd_L1_set P a ha'.1 (by omega) _ r hr]
      split
      · rename_i e; rw [List.length_set, hPr, e]
      · exact H.row r
    by_cases hr : 0 ≤ r
    · exact main r hr
    · rw [rd_L1_neg _ r (by omega), rd_L1_neg pw r (by omega)]; exact main 0 (by omega)
  · rw [key r c hr hc]
    split
    · omega
    · exact H.lo r c hr hc
  · rw [key r c hr hc]
    split
    · rename_i e; rw [e.1, e.2]; omega
    · exact H.hi r c hr hc
  · rw [key r c hr hc]
    rw [if_neg (fun e => by rw [e.1, e.2] at hix; omega)]
    exact H.eq r c hr hc hix

theorem badRow_of {row : List Int} (h : ∀ i : Int, 0 ≤ i → i < (row.length : Int) → outOf (rd row i) = false) : badRow row = false := by
  rw [badRow_from]
  cases c : anyFrom (fun i => outOf (rd row i)) row.length 0 with
  | false => rfl
  | true =>
    obtain ⟨j, hj, h2⟩ := (anyFrom_iff _ _ _).1 c
    have := h (0 + (j : Int)) (by omega) (by omega)
    have h2 : outOf (rd row (0 + (j : Int))) = true := h2
    rw [this] at h2
    cases h2
theorem Less.valid {m no th no' th' : Int} {pw P : List (List Int)} {ls : List S44} {mg : List Int} (V : Valid m no th pw ls mg) (H : Less m ls pw P) (n0 : 0 ≤ no') (n1 : no' ≤ no) (t0 : 1000 ≤ th') (t1 : th' ≤ th) : Valid m no' th' P ls mg := by
  have v1 := V.no1
  have v2 := V.th1
  have hl := V.len
  have hP := H.len
  refine ⟨V.m2, V.m32, by rw [hP]; exact V.len, ?_, ?_, n0, by omega, t0, by omega, V.lsn, V.mgn, fun i h0 h1 => ?_⟩
  · rw [badLen_from]
    cases c : anyFrom (fun j => ((rd_L1 P j).length : Int) != m) P.length 0 with
    | false => rfl
    | true =>
      obtain ⟨j, hj, h2⟩ := (anyFrom_iff _ _ _).1 c
      have := badLen_at V.bl (0 + (j : Int)) (by omega) (by omega)
      simp only [H.row, this, bne_self_eq_false] at h2
      exact absurd h2 (by simp)
  · rw [badVal_from]
    cases c : anyFrom (fun j => badRow (rd_L1 P j)) P.length 0 with
    | false => rfl
    | true =>
      obtain ⟨j, hj, h2⟩ := (anyFrom_iff _ _ _).1 c
      have hnj : nodeB m (0 + (j : Int)) = true := nodeB_iff.2 (by omega)
      have hlen := badLen_at V.bl (0 + (j : Int)) (by omega) (by omega)
      have : badRow (rd_L1 P (0 + (j : Int))) = false := badRow_of fun i i0 i1 => by
        rw [H.row, hlen] at i1
        have hni : nodeB m i = true := nodeB_iff.2 (by omega)
        have a1 := H.lo _ _ hnj hni
        have a2 := H.hi _ _ hnj hni
        have a3 := V.power hnj hni
        unfold outOf
        rw [decide_eq_false (by omega), decide_eq_false (by omega)]; rfl
      simp only [this] at h2
      exact absurd h2 (by simp)
  · obtain ⟨c1, c2, c3⟩ := lErr_zero (V.lk i h0 h1)
    obtain ⟨d1, d2, _⟩ := V.link h0 h1
    have e := H.eq _ _ (nodeB_iff.2 d1) (nodeB_iff.2 d2) (findIx_some h0 h1)
    unfold lErr
    rw [c1, if_neg (by simp), if_neg (by rintro ⟨x, y⟩; rw [c2 x] at y; cases y), if_neg (by rw [e]; omega)]
theorem good_less {m no th no' th' : Int} {pw P : List (List Int)} {ls : List S44} {mg : List Int} (l : List S36) (hl : l.length ≤ 50) (g : goodB m no th pw ls mg l = true) (H : Less m ls pw P) (n0 : 0 ≤ no') (n1 : no' ≤ no) (t0 : 1000 ≤ th') (t1 : th' ≤ th) : goodB m no' th' P ls mg l = true := by
  rw [goodB_iff l (by omega)] at g ⊢
  obtain ⟨c, g⟩ := g
  have V := valid_of c
  have W := H.valid V n0 n1 t0 t1
  have v1 := V.no1
  have v2 := V.th1
  refine ⟨chk_of W, fun i hi => ?_⟩
  obtain ⟨us, tc, h1, h2⟩ := g i hi
  obtain ⟨q1, q2, q3, q4, q5⟩ := us_nodes V us
  have hsh : ∀ nd, nodeB m nd = true → ∀ x ∈ l, share m P nd x ≤ share m pw nd x := fun nd hn x _ => by
    unfold share P34.shE
    by_cases a : nodeB m x.f2 = true <;> by_cases b : nodeB m x.f3 = true <;> simp only [a, b, if_true, if_false]
    · have := H.hi _ _ a hn; have := H.hi _ _ b hn; omega
    · have := H.hi _ _ a hn; (try simp); omega
    · have := H.hi _ _ b hn; (try simp); omega
    · exact Int.le_refl _
  have dec : ∀ nd, nodeB m nd = true → 0 ≤ ((l.map (share m P nd)).sum - share m P nd l[i]) ∧ ((l.map (share m P nd)).sum - share m P nd l[i]) ≤ ((l.map (share m pw nd)).sum - share m pw nd l[i]) := fun nd hn => by
    rw [← sx_eq _ l i hi, ← sx_eq _ l i hi]
    exact ⟨(sx_bounds _ 137438953472 (by omega) _ l (fun x _ => W.share hn x) 0).1, sx_mono _ _ _ l (hsh nd hn) 0⟩
  obtain ⟨⟨a0, a1⟩, b0, w1, w2⟩ := usI_true us
  refine ⟨?_, tc, hears_mono n0 n1 v1 t0 t1 v2 (dec _ q2).1 (dec _ q2).2 h1, hears_mono n0 n1 v1 t0 t1 v2 (dec _ q1).1 (dec _ q1).2 h2⟩
  have r1 := V.margin a0 a1
  have r2 := V.margin b0 (findIx_at b0).1
  unfold usI
  rw [decide_eq_true ⟨a0, a1⟩, decide_eq_true b0, heard0_mono n0 n1 v1 t0 t1 v2 r1.1 r1.2 w1, heard0_mono n0 n1 v1 t0 t1 v2 r2.1 r2.2 w2]
  rfl

theorem copy_l0 (m no th : Int) (pw : List (List Int)) (ls : List S44) (mg : List Int) (h1 : pw.length ≤ 1000) (h2 : ∀ r ∈ pw, r.length ≤ 1000) (h3 : ls.length ≤ 1000) (h4 : mg.length ≤ 1000) (d : Nat) : ∀ (t k : Nat), t + d = pw.length → d + 1 ≤ k →
    hopmeshref31_Copy.l0 k (t : Int) m pw no th ls mg m (pw.take t) no th ls mg = some (m, pw, no, th, ls, mg) := by
  induction d with
  | zero =>
    intro t k ht hk
    obtain ⟨k, rfl⟩ : ∃ q, k = q + 1 := ⟨k - 1, by omega⟩
    simp only [hopmeshref31_Copy.l0]
    rw [if_neg (by omega), List.take_of_length_le (by omega)]
    simp only [Option.bind_some, List.nil_append, List.length_nil, Nat.zero_add]
    rw [if_pos (by omega)]
    rw [if_pos (by omega)]
  | succ d ih =>
    intro t k ht hk
    obtain ⟨k, rfl⟩ : ∃ q, k = q + 1 := ⟨k - 1, by omega⟩
    have hlt : t < pw.length := by omega
    have hr : rd_L1 pw (t : Int) = pw[t] := by simp [rd_L1, List.getD_eq_getElem?_getD, List.getElem?_eq_getElem hlt]
    have hb := h2 pw[t] (List.getElem_mem hlt)
    simp only [hopmeshref31_Copy.l0, Option.bind_some, List.nil_append, List.length_nil, Nat.zero_add, hr]
    rw [if_pos (by omega), if_pos (by omega), if_pos (by omega), if_pos (by rw [List.length_take]; omega), wrap_in (i := (t : Int) + 1) (by omega) (by omega), List.take_append_getElem hlt]
    exact ih (t + 1) k (by omega) (by omega)
theorem copy_eq (m no th : Int) (pw : List (List Int)) (ls : List S44) (mg : List Int) (c : chk m pw no th ls mg = 0) (k : Nat) (hk : 100 ≤ k) : hopmeshref31_Copy.f k m pw no th ls mg = some (m, pw, no, th, ls, mg) := by
  have V := valid_of c
  have a1 := V.m32
  have a2 := V.len
  have a3 := V.lsn
  have a4 := V.mgn
  unfold hopmeshref31_Copy.f
  refine copy_l0 m no th pw ls mg (by omega) (fun r hr => ?_) (by omega) (by omega) pw.length 0 k (by omega) (by omega)
  obtain ⟨i, hi, e⟩ := List.getElem_of_mem hr
  have := badLen_at V.bl (i : Int) (by omega) (by omega)
  rw [show rd_L1 pw (i : Int) = r from by simp [rd_L1, List.getD_eq_getElem?_getD, List.getElem?_eq_getElem hi, e]] at this
  omega

theorem quiet_l0 (m no th : Int) (pw : List (List Int)) (ls : List S44) (mg : List Int) (l : List S36) (hl : l.length ≤ 50) (g : goodB m no th pw ls mg l = true) (c : chk m pw no th ls mg = 0) (no' th' : Int) (n0 : 0 ≤ no') (n1 : no' ≤ no) (t0 : 1000 ≤ th') (t1 : th' ≤ th) (a : Int) (ha : nodeB m a = true) (d : Nat) :
    ∀ (t k : Nat) (P : List (List Int)), (t : Int) + (d : Int) = m → d + 2000 ≤ k → Less m ls pw P →
    hopmeshlaw34_ConflictQuiet.l0 k l a m (t : Int) m pw no th ls mg m P no' th' ls mg = some true := by
  have V := valid_of c
  have a1 := V.m32
  have a2 := V.len
  have ha' := nodeB_iff.1 ha
  induction d with
  | zero =>
    intro t k P ht hk H
    obtain ⟨k, rfl⟩ : ∃ q, k = q + 1 := ⟨k - 1, by omega⟩
    simp only [hopmeshlaw34_ConflictQuiet.l0]
    rw [if_neg (by omega), Good_eq m no' th' P ls mg l (by omega) k (by omega), good_less l hl g H n0 n1 t0 t1]
    rfl
  | succ d ih =>
    intro t k P ht hk H
    obtain ⟨k, rfl⟩ : ∃ q, k = q + 1 := ⟨k - 1, by omega⟩
    simp only [hopmeshlaw34_ConflictQuiet.l0]
    rw [if_pos (by omega), Index_eq m no th pw ls mg a (t : Int) k (by omega), if_pos c]
    simp only [Option.bind_some]
    rw [wrap_in (i := (t : Int) + 1) (by omega) (by omega)]
    have hPl := H.len
    have hrow := badLen_at V.bl a ha'.1 (by omega)
    have hPr := H.row a
    have hb : nodeB m (t : Int) = true := nodeB_iff.2 (by omega)
    by_cases hf : findIx ls a (t : Int) < 0
    · rw [if_pos hf, if_pos ha'.1, if_pos (by omega), if_pos (by omega), if_pos (by omega)]
      exact ih (t + 1) k _ (by omega) (by omega) (H.step V ha hb hf)
    · rw [if_neg hf]
      exact ih (t + 1) k P (by omega) (by omega) H

theorem ConflictQuiet_pure (m : Int) (pw : List (List Int)) (no th : Int) (ls : List S44) (mg : List Int) (hm : pw.length ≤ 9223372036854775807) (l : List S36) (a2 : Int) (b2 : 0 ≤ a2 ∧ a2 < 65536) (a3 : Int) (b3 : 0 ≤ a3 ∧ a3 < 65536) (a4 : Int) (b4 : 0 ≤ a4 ∧ a4 < 65536) : ∃ k, hopmeshlaw34_ConflictQuiet.f k m pw no th ls mg l a2 a3 a4 = some true := by
  refine ⟨pw.length + 5000, ?_⟩
  generalize hk : pw.length + 5000 = k
  obtain ⟨k, rfl⟩ : ∃ q, k = q + 1 := ⟨k - 1, by omega⟩
  have hj : hopmeshlaw34_ConflictQuiet.j0 (k + 1) l a2 a3 a4 true m pw no th ls mg = some true := by simp only [hopmeshlaw34_ConflictQuiet.j0]; rfl
  unfold hopmeshlaw34_ConflictQuiet.f hopmeshlaw34_awake.f
  simp only [Option.bind_some]
  rw [if_pos trivial, few_eq m no th pw ls mg hm (k + 1) (by omega)]
  simp only [Option.bind_some]
  cases hf : fewB pw ls mg with
  | false => simpa using hj
  | true =>
    rw [if_pos rfl]
    by_cases hl : (l.length : Int) > 10
    · rw [if_pos hl]; exact hj
    · rw [if_neg hl, Good_eq m no th pw ls mg l (by omega) (k + 1) (by omega)]
      simp only [Option.bind_some]
      cases hg : goodB m no th pw ls mg l with
      | false => exact hj
      | true =>
        have c := ((goodB_iff l (by omega)).1 hg).1
        have V := valid_of c
        have v0 := V.m2; have v1 := V.m32; have v2 := V.len; have v3 := V.no0; have v4 := V.no1; have v5 := V.th0; have v6 := V.th1
        simp only [hopmeshlaw34_ConflictQuiet.j0]
        rw [if_neg (by simp), copy_eq m no th pw ls mg c k (by omega)]
        simp only [Option.bind_some]
        rw [wrap_in (i := a2) (by omega) (by omega), wrap_in (i := a3) (by omega) (by omega), wrap_in (i := a4) (by omega) (by omega)]
        rw [Int.tmod_eq_emod_of_nonneg b2.1, Int.tmod_eq_emod_of_nonneg b3.1, Int.tmod_eq_emod_of_nonneg b4.1]
        have e1 := Int.emod_nonneg a4 (b := (pw.length : Int)) (by omega)
        have e2 := Int.emod_lt_of_pos a4 (b := (pw.length : Int)) (by omega)
        rw [if_neg (by omega), if_pos e1, if_pos e2]
        have ha : nodeB m (a4 % (pw.length : Int)) = true := nodeB_iff.2 (by omega)
        have hrow := badLen_at V.bl (a4 % (pw.length : Int)) e1 e2
        rw [hrow, wrap_in (i := no - a2 % 8) (by omega) (by omega), wrap_in (i := th - a3 % 2000) (by omega) (by omega)]
        have hn : mx 0 (no - a2 % 8) = if 0 ≤ no - a2 % 8 then no - a2 % 8 else 0 := by unfold mx; split <;> split <;> omega
        have ht : mx 1000 (th - a3 % 2000) = if 1000 ≤ th - a3 % 2000 then th - a3 % 2000 else 1000 := by unfold mx; split <;> split <;> omega
        rw [hn, ht]
        exact quiet_l0 m no th pw ls mg l (by omega) hg c _ _ (by split <;> omega) (by split <;> omega) (by split <;> omega) (by split <;> omega) _ ha m.toNat 0 k pw (by omega) (by omega) (Less.refl V)
end Go.Proofs.Ytibgcekekmphoaa.P34
