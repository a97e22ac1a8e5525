/- compress.read answers something, whatever the string: plain laws. -/
import Derived.Test.YtmbbijhppgkdfaaTflag
import Derived.Test.YtmbbijhppgkdfaaP14Rd
namespace Go.Proofs.Ytmbbijhppgkdfaa.P14
open Go.RowKit Go.Proofs.YtmbbijhppgkdfaaW.PrintWords Go.Proofs.YtmbbijhppgkdfaaW.PrintLast Go.Proofs.YtmbbijhppgkdfaaW.PrintMore
set_option linter.unusedVariables false
set_option linter.unusedSimpArgs false

theorem un_any (d : ByteArray) (hd : d.size ≤ 65536) (n : Nat) (hn : 1 ≤ n ∧ n ≤ 16) (k : Nat) (hk : n < k) (q : Nat) (hq : q ≤ 8 * d.size) (e : Int) :
    ∃ (v q' : Nat) (e' : Int), bitio_Reader_Unsigned.f k d (q : Int) e (n : Int) = some ((v : Int), d, (q' : Int), e') ∧ q' ≤ 8 * d.size ∧ v < 2 ^ n := by
  by_cases he : e = 0
  · subst he
    cases hg : g d q n with
    | none => exact ⟨0, q, 9, un_bad d hd n hn k hk q hq hg, hq, Nat.pow_pos (by decide)⟩
    | some x =>
      obtain ⟨v, q'⟩ := x
      refine ⟨v, q', 0, un_good d hd n hn k hk q v q' hg, ?_, ?_⟩
      · unfold g at hg
        split at hg
        · injection hg with hg; injection hg with h1 h2; omega
        · cases hg
      · unfold g at hg
        split at hg
        · injection hg with hg; injection hg with h1 h2
          rw [← h1]
          have := valFrom_lt d n 0 q 0 (by decide)
          rw [Nat.zero_add] at this
          exact this
        · cases hg
  · exact ⟨0, q, e, un_err d q e n hn.1 k he, hq, Nat.pow_pos (by decide)⟩
theorem fl_any (d : ByteArray) (hd : d.size ≤ 65536) (k : Nat) (hk : 1 < k) (q : Nat) (hq : q ≤ 8 * d.size) (e : Int) :
    ∃ (b : Bool) (q' : Nat) (e' : Int), bitio_Reader_Flag.f k d (q : Int) e = some (b, d, (q' : Int), e') ∧ q' ≤ 8 * d.size := by
  by_cases he : e = 0
  · subst he
    by_cases h : q + 1 ≤ 8 * d.size
    · exact ⟨_, q + 1, 0, fl_good d hd k hk q h, h⟩
    · exact ⟨false, q, 9, fl_bad d hd k q hq h, hq⟩
  · exact ⟨false, q, e, fl_err d q e k he, hq⟩
theorem ra_l0 (d : ByteArray) (hd : d.size ≤ 65536) (m : Nat) : ∀ (x : ByteArray) (k q : Nat) (e : Int), 4 - x.size ≤ m → x.size ≤ 4 → m + 20 < k → q ≤ 8 * d.size →
    ∃ (y : ByteArray) (q' : Nat) (e' : Int), compress_readAddress.l0 k x d (q : Int) e = some (y, true, d, (q' : Int), e') ∧ q' ≤ 8 * d.size := by
  induction m with
  | zero =>
    intro x k q e hm hx hk hq
    obtain ⟨k, rfl⟩ : ∃ a, k = a + 1 := ⟨k - 1, by omega⟩
    simp only [compress_readAddress.l0]
    rw [if_neg (by omega)]
    exact ⟨x, q, e, rfl, hq⟩
  | succ m ih =>
    intro x k q e hm hx hk hq
    obtain ⟨k, rfl⟩ : ∃ a, k = a + 1 := ⟨k - 1, by omega⟩
    simp only [compress_readAddress.l0]
    by_cases h4 : (x.size : Int) < 4
    · rw [if_pos h4]
      obtain ⟨v, q1, e1, hu, hq1, hv⟩ := un_any d hd 8 (by decide) k (by omega) q hq e
      rw [show ((8 : Nat) : Int) = 8 from rfl] at hu
      rw [hu]
      simp only [Option.bind_some]
      have hsz : (strOfNums [(v : Int) % 256]).size = 1 := by rw [strOfNums_size]; rfl
      have hxs : (x ++ strOfNums [(v : Int) % 256]).size = x.size + 1 := by rw [ByteArray.size_append, hsz]
      rw [if_pos (by rw [hsz]; omega)]
      exact ih _ k q1 e1 (by omega) (by omega) (by omega) hq1
    · rw [if_neg h4]
      exact ⟨x, q, e, rfl, hq⟩
theorem ra_any (d : ByteArray) (hd : d.size ≤ 65536) (cs : List S26) (hs : ∀ i : Int, 0 ≤ i → i < (cs.length : Int) → (rd_T26 cs i).f0.size ≤ 4) (k : Nat) (hk : 40 < k) (q : Nat) (hq : q ≤ 8 * d.size) (e : Int) :
    ∃ (y : ByteArray) (b : Bool) (q' : Nat) (e' : Int), compress_readAddress.f k d (q : Int) e cs = some (y, b, d, (q' : Int), e') ∧ q' ≤ 8 * d.size := by
  obtain ⟨k1, rfl⟩ : ∃ a, k = a + 1 := ⟨k - 1, by omega⟩
  unfold compress_readAddress.f
  obtain ⟨b, q1, e1, hf, hq1⟩ := fl_any d hd (k1 + 1) (by omega) q hq e
  rw [hf]
  simp only [Option.bind_some, compress_readAddress.j0]
  cases b with
  | false =>
    rw [if_neg (by decide)]
    obtain ⟨y, q', e', h, h2⟩ := ra_l0 d hd 4 ⟨#[]⟩ k1 q1 e1 (Nat.sub_le _ _) (Nat.zero_le _) (by omega) hq1
    exact ⟨y, true, q', e', h, h2⟩
  | true =>
    rw [if_pos rfl]
    obtain ⟨v, q2, e2, hu, hq2, hv⟩ := un_any d hd 3 (by decide) (k1 + 1) (by omega) q1 hq1 e1
    rw [show ((3 : Nat) : Int) = 3 from rfl] at hu
    rw [hu]
    simp only [Option.bind_some]
    by_cases hl : (v : Int) ≥ (cs.length : Int)
    · rw [if_pos hl]
      exact ⟨_, false, q2, e2, rfl, hq2⟩
    · rw [if_neg hl, if_pos (by omega), if_pos (by omega)]
      obtain ⟨y, q', e', h, h2⟩ := ra_l0 d hd 4 (rd_T26 cs (v : Int)).f0 k1 q2 e2 (Nat.sub_le _ _) (hs _ (by omega) (by omega)) (by omega) hq2
      exact ⟨y, true, q', e', h, h2⟩
theorem rp_any (d : ByteArray) (hd : d.size ≤ 65536) (k : Nat) (hk : 40 < k) (q : Nat) (hq : q ≤ 8 * d.size) (e : Int) :
    ∃ (a b : Int) (q' : Nat) (e' : Int), compress_readPorts.f k d (q : Int) e = some (a, b, d, (q' : Int), e') ∧ q' ≤ 8 * d.size := by
  have U : ∀ (n : Nat), 1 ≤ n ∧ n ≤ 16 → ∀ (q : Nat), q ≤ 8 * d.size → ∀ e : Int, ∃ (v q' : Nat) (e' : Int), bitio_Reader_Unsigned.f k d (q : Int) e (n : Int) = some ((v : Int), d, (q' : Int), e') ∧ q' ≤ 8 * d.size ∧ v < 2 ^ n := fun n hn q hq e => un_any d hd n hn k (by omega) q hq e
  unfold compress_readPorts.f
  obtain ⟨v, q1, e1, h1, hq1, _⟩ := U 2 (by decide) q hq e
  rw [show ((2 : Nat) : Int) = 2 from rfl] at h1
  rw [h1]
  simp only [Option.bind_some]
  by_cases c1 : (v : Int) = 3
  · rw [if_pos c1]
    obtain ⟨v2, q2, e2, h2, hq2, _⟩ := U 4 (by decide) q1 hq1 e1
    rw [show ((4 : Nat) : Int) = 4 from rfl] at h2
    rw [h2]
    simp only [Option.bind_some]
    obtain ⟨v3, q3, e3, h3, hq3, _⟩ := U 4 (by decide) q2 hq2 e2
    rw [show ((4 : Nat) : Int) = 4 from rfl] at h3
    rw [h3]
    exact ⟨_, _, q3, e3, rfl, hq3⟩
  · rw [if_neg c1]
    by_cases c2 : (v : Int) = 1
    · rw [if_pos c2]
      obtain ⟨v2, q2, e2, h2, hq2, _⟩ := U 16 (by decide) q1 hq1 e1
      rw [show ((16 : Nat) : Int) = 16 from rfl] at h2
      rw [h2]
      exact ⟨_, _, q2, e2, rfl, hq2⟩
    · rw [if_neg c2]
      by_cases c3 : (v : Int) = 2
      · rw [if_pos c3]
        obtain ⟨v2, q2, e2, h2, hq2, _⟩ := U 8 (by decide) q1 hq1 e1
        rw [show ((8 : Nat) : Int) = 8 from rfl] at h2
        rw [h2]
        simp only [Option.bind_some]
        obtain ⟨v3, q3, e3, h3, hq3, _⟩ := U 16 (by decide) q2 hq2 e2
        rw [show ((16 : Nat) : Int) = 16 from rfl] at h3
        rw [h3]
        exact ⟨_, _, q3, e3, rfl, hq3⟩
      · rw [if_neg c3]
        obtain ⟨v2, q2, e2, h2, hq2, _⟩ := U 16 (by decide) q1 hq1 e1
        rw [show ((16 : Nat) : Int) = 16 from rfl] at h2
        rw [h2]
        simp only [Option.bind_some]
        obtain ⟨v3, q3, e3, h3, hq3, _⟩ := U 16 (by decide) q2 hq2 e2
        rw [show ((16 : Nat) : Int) = 16 from rfl] at h3
        rw [h3]
        exact ⟨_, _, q3, e3, rfl, hq3⟩
theorem rd_j1 (d : ByteArray) (hd : d.size ≤ 65536) (cs : List S26) (hs : ∀ i : Int, 0 ≤ i → i < (cs.length : Int) → (rd_T26 cs i).f0.size ≤ 4) (k : Nat) (hk : 41 < k) (q : Nat) (hq : q ≤ 8 * d.size) (e : Int) (y0 y1 : Int) (y2 y3 : ByteArray) (y4 y5 y6 : Int) :
    ∃ r, compress_read.j1 k cs d (q : Int) e y0 y1 y2 y3 y4 y5 y6 = some r := by
  obtain ⟨k, rfl⟩ : ∃ a, k = a + 1 := ⟨k - 1, by omega⟩
  simp only [compress_read.j1]
  obtain ⟨a1, b1, q1, e1, h1, hq1⟩ := ra_any d hd cs hs k (by omega) q hq e
  rw [h1]
  simp only [Option.bind_some]
  obtain ⟨a2, b2, q2, e2, h2, hq2⟩ := ra_any d hd cs hs k (by omega) q1 hq1 e1
  rw [h2]
  simp only [Option.bind_some]
  obtain ⟨p1, p2, q3, e3, h3, hq3⟩ := rp_any d hd k (by omega) q2 hq2 e2
  rw [h3]
  simp only [Option.bind_some]
  obtain ⟨b4, q4, e4, h4, hq4⟩ := fl_any d hd k (by omega) q3 hq3 e3
  rw [h4]
  simp only [Option.bind_some]
  cases b4 with
  | true =>
    rw [if_pos rfl]
    obtain ⟨v5, q5, e5, h5, hq5, _⟩ := un_any d hd 12 (by decide) k (by omega) q4 hq4 e4
    rw [show ((12 : Nat) : Int) = 12 from rfl] at h5
    rw [h5]
    simp only [Option.bind_some]
    cases b1 <;> cases b2 <;> exact ⟨_, rfl⟩
  | false =>
    rw [if_neg (by decide)]
    obtain ⟨v5, q5, e5, h5, hq5, _⟩ := un_any d hd 6 (by decide) k (by omega) q4 hq4 e4
    rw [show ((6 : Nat) : Int) = 6 from rfl] at h5
    rw [h5]
    simp only [Option.bind_some]
    cases b1 <;> cases b2 <;> exact ⟨_, rfl⟩
theorem rd_j0 (d : ByteArray) (hd : d.size ≤ 65536) (cs : List S26) (hs : ∀ i : Int, 0 ≤ i → i < (cs.length : Int) → (rd_T26 cs i).f0.size ≤ 4) (k : Nat) (hk : 42 < k) (q : Nat) (hq : q ≤ 8 * d.size) (e : Int) (y0 y1 : Int) (y2 y3 : ByteArray) (y4 y5 y6 : Int) :
    ∃ r, compress_read.j0 k cs d (q : Int) e y0 y1 y2 y3 y4 y5 y6 = some r := by
  obtain ⟨k, rfl⟩ : ∃ a, k = a + 1 := ⟨k - 1, by omega⟩
  simp only [compress_read.j0, compress_limits.f, Option.bind_some]
  obtain ⟨v, q1, e1, h1, hq1, hv⟩ := un_any d hd 2 (by decide) k (by omega) q hq e
  rw [show ((2 : Nat) : Int) = 2 from rfl] at h1
  rw [h1]
  simp only [Option.bind_some]
  have hv4 : v < 4 := by simpa using hv
  rw [if_pos (by omega), if_pos (show (v : Int) < (([(-1), 1, 64, 255] : List Int).length : Int) by simp; omega)]
  by_cases hn : rd ([(-1), 1, 64, 255] : List Int) (v : Int) < 0
  · rw [if_pos hn]
    obtain ⟨v2, q2, e2, h2, hq2, _⟩ := un_any d hd 8 (by decide) k (by omega) q1 hq1 e1
    rw [show ((8 : Nat) : Int) = 8 from rfl] at h2
    rw [h2]
    simp only [Option.bind_some]
    exact rd_j1 d hd cs hs k (by omega) q2 hq2 e2 _ _ _ _ _ _ _
  · rw [if_neg hn]
    exact rd_j1 d hd cs hs k (by omega) q1 hq1 e1 _ _ _ _ _ _ _
theorem read_any (d : ByteArray) (hd : d.size ≤ 65536) (cs : List S26) (hs : ∀ i : Int, 0 ≤ i → i < (cs.length : Int) → (rd_T26 cs i).f0.size ≤ 4) : ∃ r, compress_read.f 1000 cs d 0 0 = some r := by
  unfold compress_read.f
  obtain ⟨b, q1, e1, h1, hq1⟩ := fl_any d hd 1000 (by omega) 0 (Nat.zero_le _) 0
  rw [show ((0 : Nat) : Int) = 0 from rfl] at h1
  rw [h1]
  simp only [Option.bind_some]
  cases b with
  | true =>
    rw [if_pos rfl]
    obtain ⟨v2, q2, e2, h2, hq2, _⟩ := un_any d hd 8 (by decide) 1000 (by omega) q1 hq1 e1
    rw [show ((8 : Nat) : Int) = 8 from rfl] at h2
    rw [h2]
    simp only [Option.bind_some]
    exact rd_j0 d hd cs hs 1000 (by omega) q2 hq2 e2 _ _ _ _ _ _ _
  | false =>
    rw [if_neg (by decide)]
    exact rd_j0 d hd cs hs 1000 (by omega) q1 hq1 e1 _ _ _ _ _ _ _
end Go.Proofs.Ytmbbijhppgkdfaa.P14
