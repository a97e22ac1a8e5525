/- compress.writePorts: the bits of both ports. -/
import Derived.Test.YtmbbijhppgkdfaaGaddr
import Derived.Test.YtmbbijhppgkdfaaP14Nr
namespace Go.Proofs.Ytmbbijhppgkdfaa.P14
open Go.RowKit Go.Proofs.YtmbbijhppgkdfaaW.PrintWords Go.Proofs.YtmbbijhppgkdfaaW.PrintLast Go.Proofs.YtmbbijhppgkdfaaW.PrintMore
attribute [local go_sem] max2_int min2_int max_two min_two max_three min_three max_four min_four
set_option linter.unusedVariables false
set_option linter.unusedSimpArgs false

/-- The bits of a number (of an int that is not negative). -/
def bI (width : Nat) (v : Int) : List Bool := bitsOf width v.toNat
theorem bI_len (width : Nat) (v : Int) : (bI width v).length = width := bitsOf_len _ _
theorem un_calls (width : Nat) (v : Int) (w0 : World) (p : Nat) (l : List Bool) (W w : World) (hp : w0.heap.size ≤ p) (hWr : Wr w0 p l w) (hE : Eff w0 p W w) (hw : 1 ≤ width ∧ width ≤ 62) (h0 : 0 ≤ v) (h1 : v < 2 ^ width) (hl : l.length ≤ 200000) :
    Calls Try.prog 61 #[.pointer (some ⟨p, 0, none⟩), .int .i64 (width : Int), .int .i64 v] w (WPost w0 p (l ++ bI width v) W) := by
  have e : ((v.toNat : Nat) : Int) = v := Int.toNat_of_nonneg h0
  have h := unsigned_calls width v.toNat w0 p l w hp hE.below hWr hw ((Int.toNat_lt h0).mpr (by simpa using h1)) (by omega)
  rw [e] at h
  exact h.mono fun e w' k => WPost.of hE k
def nearI (a : Int) : Bool := decide (61616 ≤ a ∧ a ≤ 61631)
theorem near_eq (a : Int) (h0 : 0 ≤ a) (h1 : a ≤ 65535) : compress_near.f a = some (nearI a) := by
  have e : wrap64 (a - 61616) = a - 61616 := by unfold wrap64; omega
  unfold compress_near.f compress_in.f nearI
  rw [e]
  by_cases h : a - 61616 ≥ 0
  · rw [if_pos h]
    simp only [Option.bind_some, Option.some.injEq, decide_eq_decide]
    omega
  · rw [if_neg h]
    simp only [Option.bind_some, Option.some.injEq]
    exact (decide_eq_false (by omega)).symm
def farI (a : Int) : Bool := decide (61440 ≤ a ∧ a ≤ 61695)
theorem far_eq (a : Int) (h0 : 0 ≤ a) (h1 : a ≤ 65535) : compress_in.f (a - 61440) 255 = some (farI a) := by
  unfold compress_in.f farI
  by_cases h : a - 61440 ≥ 0
  · rw [if_pos h]
    simp only [Option.some.injEq, decide_eq_decide]
    omega
  · rw [if_neg h]
    simp only [Option.some.injEq]
    exact (decide_eq_false (by omega)).symm
/-- The bits of two ports. -/
def portsB (a b : Int) : List Bool :=
  if (nearI a && nearI b) = true then bI 2 3 ++ bI 4 (a - 61616) ++ bI 4 (b - 61616)
  else if a = b then bI 2 1 ++ bI 16 a
  else if farI a = true then bI 2 2 ++ bI 8 (a - 61440) ++ bI 16 b
  else bI 2 0 ++ bI 16 a ++ bI 16 b
theorem portsB_len (a b : Int) : (portsB a b).length ≤ 34 := by
  unfold portsB
  split
  · simp [bI_len]
  · split
    · simp [bI_len]
    · split <;> simp [bI_len]
theorem eff_drew {w0 W w : World} {p : Nat} (h : Eff w0 p W w) (n : Nat) : Eff w0 p W (w.drewN n) := h.step (pw_below_drewN (Below.refl _ _) n)
theorem wr_drew {w0 w : World} {p : Nat} {l : List Bool} (h : Wr w0 p l w) (n : Nat) : Wr w0 p l (w.drewN n) := h.step (pw_below_drewN (Below.refl _ _) n)
set_option maxRecDepth 100000 in
set_option maxHeartbeats 6400000 in
theorem ports_calls (w0 : World) (p : Nat) (l : List Bool) (W : World) (a b : Int) (hp : w0.heap.size ≤ p) (hB : Below w0.heap.size w0 W) (hWr : Wr w0 p l W) (ha0 : 0 ≤ a) (ha1 : a ≤ 65535) (hb0 : 0 ≤ b) (hb1 : b ≤ 65535) (hl : l.length ≤ 100000) :
    Calls Try.prog 69 #[.pointer (some ⟨p, 0, none⟩), .int .i64 a, .int .i64 b] W (WPost w0 p (l ++ portsB a b) W) := by
  have HP := Aside0.mk hp
  have HW := Aside0.mk hWr
  have HE := Aside0.mk (Eff.refl (p := p) hB)
  have HL := Aside0.mk hl
  have HNA := Aside0.mk (near_eq a ha0 ha1)
  have HNB := Aside0.mk (near_eq b hb0 hb1)
  have HFA := Aside0.mk (far_eq a ha0 ha1)
  have hwa : wrap64 (a - 61616) = a - 61616 := by unfold wrap64; omega
  have hwb : wrap64 (b - 61616) = b - 61616 := by unfold wrap64; omega
  have hwf : wrap64 (a - 61440) = a - 61440 := by unfold wrap64; omega
  have HX : Aside0 (portsB a b = if (nearI a && nearI b) = true then bI 2 3 ++ bI 4 (a - 61616) ++ bI 4 (b - 61616) else if a = b then bI 2 1 ++ bI 16 a else if farI a = true then bI 2 2 ++ bI 8 (a - 61440) ++ bI 16 b else bI 2 0 ++ bI 16 a ++ bI 16 b) := ⟨rfl⟩
  have HNR : Aside0 (0 ≤ a ∧ a ≤ 65535 ∧ 0 ≤ b ∧ b ≤ 65535) := ⟨⟨ha0, ha1, hb0, hb1⟩⟩
  have HNI : Aside0 ((nearI a = true → 61616 ≤ a ∧ a ≤ 61631) ∧ (nearI b = true → 61616 ≤ b ∧ b ≤ 61631) ∧ (farI a = true → 61440 ≤ a ∧ a ≤ 61695)) := ⟨⟨of_decide_eq_true, of_decide_eq_true, of_decide_eq_true⟩⟩
  generalize nearI a = na at HNA HX HNI
  generalize nearI b = nb at HNB HX HNI
  generalize farI a = fa at HFA HX HNI
  clear hp hWr hB hl
  have hnaf : na = true ∧ nb = true ∨ (na && nb) = false := by cases na <;> cases nb <;> simp
  go_enter Try.func69, Try.ntmps69
  cases na with
  | true =>
    cases nb with
    | true =>
      have HN := Aside0.mk (And.intro (HNI.out.1 rfl) (HNI.out.2.1 rfl))
      go_wp2_with (first | (go_at_call 92; (with_reducible refine (compress_near.calls a _ _ HNA.out).mono ?_); rintro e w' ⟨rfl, ⟨nd, rfl⟩⟩) | (go_at_call 92; (with_reducible refine (compress_near.calls b _ _ HNB.out).mono ?_); rintro e w' ⟨rfl, ⟨nd, rfl⟩⟩) | (go_at_call 41; (refine (compress_in.calls (a - 61440) 255 _ _ HFA.out).mono ?_); rintro e w' ⟨rfl, ⟨nd, rfl⟩⟩))
      refine (un_calls 2 (3) w0 p l W _ HP.out (by repeat (first | exact HW.out | refine wr_drew ?_ _)) (by repeat (first | exact HE.out | refine eff_drew ?_ _)) (by omega) (by have := HNR.out; have := HN.out; omega) (by have := HNR.out; have := HN.out; omega) (by have := HL.out; simp [bI_len]; omega)).mono ?_
      rintro e v1 ⟨rfl, hw1, he1⟩
      have HW1 := Aside0.mk hw1
      have HE1 := Aside0.mk he1
      clear hw1 he1
      go_wp2_with fail
      refine (un_calls 4 (a - 61616) w0 p (l ++ bI 2 (3)) W _ HP.out HW1.out HE1.out (by omega) (by have := HNR.out; have := HN.out; omega) (by have := HNR.out; have := HN.out; omega) (by have := HL.out; simp [bI_len]; omega)).mono ?_
      rintro e v2 ⟨rfl, hw2, he2⟩
      have HW2 := Aside0.mk hw2
      have HE2 := Aside0.mk he2
      clear hw2 he2
      go_wp2_with fail
      refine (un_calls 4 (b - 61616) w0 p ((l ++ bI 2 (3)) ++ bI 4 (a - 61616)) W _ HP.out HW2.out HE2.out (by omega) (by have := HNR.out; have := HN.out; omega) (by have := HNR.out; have := HN.out; omega) (by have := HL.out; simp [bI_len]; omega)).mono ?_
      rintro e v3 ⟨rfl, hw3, he3⟩
      have HW3 := Aside0.mk hw3
      have HE3 := Aside0.mk he3
      clear hw3 he3
      go_wp2_with fail
      go_end0
      exact ⟨rfl, by rw [HX.out]; have := HW3.out; simpa [bI] using this, HE3.out⟩
    | false =>
      by_cases hab : a = b
      · have dab : (a == b) = true := by simp [hab]
        have HQ := Aside0.mk hab
        clear hab
        have HN := Aside0.mk True.intro
        go_wp2_with (first | (go_at_call 92; (with_reducible refine (compress_near.calls a _ _ HNA.out).mono ?_); rintro e w' ⟨rfl, ⟨nd, rfl⟩⟩) | (go_at_call 92; (with_reducible refine (compress_near.calls b _ _ HNB.out).mono ?_); rintro e w' ⟨rfl, ⟨nd, rfl⟩⟩) | (go_at_call 41; (refine (compress_in.calls (a - 61440) 255 _ _ HFA.out).mono ?_); rintro e w' ⟨rfl, ⟨nd, rfl⟩⟩))
        refine (un_calls 2 (1) w0 p l W _ HP.out (by repeat (first | exact HW.out | refine wr_drew ?_ _)) (by repeat (first | exact HE.out | refine eff_drew ?_ _)) (by omega) (by have := HNR.out; have := HN.out; omega) (by have := HNR.out; have := HN.out; omega) (by have := HL.out; simp [bI_len]; omega)).mono ?_
        rintro e v1 ⟨rfl, hw1, he1⟩
        have HW1 := Aside0.mk hw1
        have HE1 := Aside0.mk he1
        clear hw1 he1
        go_wp2_with fail
        refine (un_calls 16 (a) w0 p (l ++ bI 2 (1)) W _ HP.out HW1.out HE1.out (by omega) (by have := HNR.out; have := HN.out; omega) (by have := HNR.out; have := HN.out; omega) (by have := HL.out; simp [bI_len]; omega)).mono ?_
        rintro e v2 ⟨rfl, hw2, he2⟩
        have HW2 := Aside0.mk hw2
        have HE2 := Aside0.mk he2
        clear hw2 he2
        go_wp2_with fail
        go_end0
        exact ⟨rfl, by rw [HX.out]; have := HW2.out; simpa [HQ.out] using this, HE2.out⟩
      · have dab : (a == b) = false := by simp [hab]
        have HQ := Aside0.mk hab
        clear hab
        cases fa with
        | true =>
          have HN := Aside0.mk (HNI.out.2.2 rfl)
          go_wp2_with (first | (go_at_call 92; (with_reducible refine (compress_near.calls a _ _ HNA.out).mono ?_); rintro e w' ⟨rfl, ⟨nd, rfl⟩⟩) | (go_at_call 92; (with_reducible refine (compress_near.calls b _ _ HNB.out).mono ?_); rintro e w' ⟨rfl, ⟨nd, rfl⟩⟩) | (go_at_call 41; (refine (compress_in.calls (a - 61440) 255 _ _ HFA.out).mono ?_); rintro e w' ⟨rfl, ⟨nd, rfl⟩⟩))
          refine (un_calls 2 (2) w0 p l W _ HP.out (by repeat (first | exact HW.out | refine wr_drew ?_ _)) (by repeat (first | exact HE.out | refine eff_drew ?_ _)) (by omega) (by have := HNR.out; have := HN.out; omega) (by have := HNR.out; have := HN.out; omega) (by have := HL.out; simp [bI_len]; omega)).mono ?_
          rintro e v1 ⟨rfl, hw1, he1⟩
          have HW1 := Aside0.mk hw1
          have HE1 := Aside0.mk he1
          clear hw1 he1
          go_wp2_with fail
          refine (un_calls 8 (a - 61440) w0 p (l ++ bI 2 (2)) W _ HP.out HW1.out HE1.out (by omega) (by have := HNR.out; have := HN.out; omega) (by have := HNR.out; have := HN.out; omega) (by have := HL.out; simp [bI_len]; omega)).mono ?_
          rintro e v2 ⟨rfl, hw2, he2⟩
          have HW2 := Aside0.mk hw2
          have HE2 := Aside0.mk he2
          clear hw2 he2
          go_wp2_with fail
          refine (un_calls 16 (b) w0 p ((l ++ bI 2 (2)) ++ bI 8 (a - 61440)) W _ HP.out HW2.out HE2.out (by omega) (by have := HNR.out; have := HN.out; omega) (by have := HNR.out; have := HN.out; omega) (by have := HL.out; simp [bI_len]; omega)).mono ?_
          rintro e v3 ⟨rfl, hw3, he3⟩
          have HW3 := Aside0.mk hw3
          have HE3 := Aside0.mk he3
          clear hw3 he3
          go_wp2_with fail
          go_end0
          exact ⟨rfl, by rw [HX.out]; have := HW3.out; simpa [if_neg HQ.out] using this, HE3.out⟩
        | false =>
          have HN := Aside0.mk True.intro
          go_wp2_with (first | (go_at_call 92; (with_reducible refine (compress_near.calls a _ _ HNA.out).mono ?_); rintro e w' ⟨rfl, ⟨nd, rfl⟩⟩) | (go_at_call 92; (with_reducible refine (compress_near.calls b _ _ HNB.out).mono ?_); rintro e w' ⟨rfl, ⟨nd, rfl⟩⟩) | (go_at_call 41; (refine (compress_in.calls (a - 61440) 255 _ _ HFA.out).mono ?_); rintro e w' ⟨rfl, ⟨nd, rfl⟩⟩))
          refine (un_calls 2 (0) w0 p l W _ HP.out (by repeat (first | exact HW.out | refine wr_drew ?_ _)) (by repeat (first | exact HE.out | refine eff_drew ?_ _)) (by omega) (by have := HNR.out; have := HN.out; omega) (by have := HNR.out; have := HN.out; omega) (by have := HL.out; simp [bI_len]; omega)).mono ?_
          rintro e v1 ⟨rfl, hw1, he1⟩
          have HW1 := Aside0.mk hw1
          have HE1 := Aside0.mk he1
          clear hw1 he1
          go_wp2_with fail
          refine (un_calls 16 (a) w0 p (l ++ bI 2 (0)) W _ HP.out HW1.out HE1.out (by omega) (by have := HNR.out; have := HN.out; omega) (by have := HNR.out; have := HN.out; omega) (by have := HL.out; simp [bI_len]; omega)).mono ?_
          rintro e v2 ⟨rfl, hw2, he2⟩
          have HW2 := Aside0.mk hw2
          have HE2 := Aside0.mk he2
          clear hw2 he2
          go_wp2_with fail
          refine (un_calls 16 (b) w0 p ((l ++ bI 2 (0)) ++ bI 16 (a)) W _ HP.out HW2.out HE2.out (by omega) (by have := HNR.out; have := HN.out; omega) (by have := HNR.out; have := HN.out; omega) (by have := HL.out; simp [bI_len]; omega)).mono ?_
          rintro e v3 ⟨rfl, hw3, he3⟩
          have HW3 := Aside0.mk hw3
          have HE3 := Aside0.mk he3
          clear hw3 he3
          go_wp2_with fail
          go_end0
          exact ⟨rfl, by rw [HX.out]; have := HW3.out; simpa [if_neg HQ.out] using this, HE3.out⟩
  | false =>
    by_cases hab : a = b
    · have dab : (a == b) = true := by simp [hab]
      have HQ := Aside0.mk hab
      clear hab
      have HN := Aside0.mk True.intro
      go_wp2_with (first | (go_at_call 92; (with_reducible refine (compress_near.calls a _ _ HNA.out).mono ?_); rintro e w' ⟨rfl, ⟨nd, rfl⟩⟩) | (go_at_call 92; (with_reducible refine (compress_near.calls b _ _ HNB.out).mono ?_); rintro e w' ⟨rfl, ⟨nd, rfl⟩⟩) | (go_at_call 41; (refine (compress_in.calls (a - 61440) 255 _ _ HFA.out).mono ?_); rintro e w' ⟨rfl, ⟨nd, rfl⟩⟩))
      refine (un_calls 2 (1) w0 p l W _ HP.out (by repeat (first | exact HW.out | refine wr_drew ?_ _)) (by repeat (first | exact HE.out | refine eff_drew ?_ _)) (by omega) (by have := HNR.out; have := HN.out; omega) (by have := HNR.out; have := HN.out; omega) (by have := HL.out; simp [bI_len]; omega)).mono ?_
      rintro e v1 ⟨rfl, hw1, he1⟩
      have HW1 := Aside0.mk hw1
      have HE1 := Aside0.mk he1
      clear hw1 he1
      go_wp2_with fail
      refine (un_calls 16 (a) w0 p (l ++ bI 2 (1)) W _ HP.out HW1.out HE1.out (by omega) (by have := HNR.out; have := HN.out; omega) (by have := HNR.out; have := HN.out; omega) (by have := HL.out; simp [bI_len]; omega)).mono ?_
      rintro e v2 ⟨rfl, hw2, he2⟩
      have HW2 := Aside0.mk hw2
      have HE2 := Aside0.mk he2
      clear hw2 he2
      go_wp2_with fail
      go_end0
      exact ⟨rfl, by rw [HX.out]; have := HW2.out; simpa [HQ.out] using this, HE2.out⟩
    · have dab : (a == b) = false := by simp [hab]
      have HQ := Aside0.mk hab
      clear hab
      cases fa with
      | true =>
        have HN := Aside0.mk (HNI.out.2.2 rfl)
        go_wp2_with (first | (go_at_call 92; (with_reducible refine (compress_near.calls a _ _ HNA.out).mono ?_); rintro e w' ⟨rfl, ⟨nd, rfl⟩⟩) | (go_at_call 92; (with_reducible refine (compress_near.calls b _ _ HNB.out).mono ?_); rintro e w' ⟨rfl, ⟨nd, rfl⟩⟩) | (go_at_call 41; (refine (compress_in.calls (a - 61440) 255 _ _ HFA.out).mono ?_); rintro e w' ⟨rfl, ⟨nd, rfl⟩⟩))
        refine (un_calls 2 (2) w0 p l W _ HP.out (by repeat (first | exact HW.out | refine wr_drew ?_ _)) (by repeat (first | exact HE.out | refine eff_drew ?_ _)) (by omega) (by have := HNR.out; have := HN.out; omega) (by have := HNR.out; have := HN.out; omega) (by have := HL.out; simp [bI_len]; omega)).mono ?_
        rintro e v1 ⟨rfl, hw1, he1⟩
        have HW1 := Aside0.mk hw1
        have HE1 := Aside0.mk he1
        clear hw1 he1
        go_wp2_with fail
        refine (un_calls 8 (a - 61440) w0 p (l ++ bI 2 (2)) W _ HP.out HW1.out HE1.out (by omega) (by have := HNR.out; have := HN.out; omega) (by have := HNR.out; have := HN.out; omega) (by have := HL.out; simp [bI_len]; omega)).mono ?_
        rintro e v2 ⟨rfl, hw2, he2⟩
        have HW2 := Aside0.mk hw2
        have HE2 := Aside0.mk he2
        clear hw2 he2
        go_wp2_with fail
        refine (un_calls 16 (b) w0 p ((l ++ bI 2 (2)) ++ bI 8 (a - 61440)) W _ HP.out HW2.out HE2.out (by omega) (by have := HNR.out; have := HN.out; omega) (by have := HNR.out; have := HN.out; omega) (by have := HL.out; simp [bI_len]; omega)).mono ?_
        rintro e v3 ⟨rfl, hw3, he3⟩
        have HW3 := Aside0.mk hw3
        have HE3 := Aside0.mk he3
        clear hw3 he3
        go_wp2_with fail
        go_end0
        exact ⟨rfl, by rw [HX.out]; have := HW3.out; simpa [if_neg HQ.out] using this, HE3.out⟩
      | false =>
        have HN := Aside0.mk True.intro
        go_wp2_with (first | (go_at_call 92; (with_reducible refine (compress_near.calls a _ _ HNA.out).mono ?_); rintro e w' ⟨rfl, ⟨nd, rfl⟩⟩) | (go_at_call 92; (with_reducible refine (compress_near.calls b _ _ HNB.out).mono ?_); rintro e w' ⟨rfl, ⟨nd, rfl⟩⟩) | (go_at_call 41; (refine (compress_in.calls (a - 61440) 255 _ _ HFA.out).mono ?_); rintro e w' ⟨rfl, ⟨nd, rfl⟩⟩))
        refine (un_calls 2 (0) w0 p l W _ HP.out (by repeat (first | exact HW.out | refine wr_drew ?_ _)) (by repeat (first | exact HE.out | refine eff_drew ?_ _)) (by omega) (by have := HNR.out; have := HN.out; omega) (by have := HNR.out; have := HN.out; omega) (by have := HL.out; simp [bI_len]; omega)).mono ?_
        rintro e v1 ⟨rfl, hw1, he1⟩
        have HW1 := Aside0.mk hw1
        have HE1 := Aside0.mk he1
        clear hw1 he1
        go_wp2_with fail
        refine (un_calls 16 (a) w0 p (l ++ bI 2 (0)) W _ HP.out HW1.out HE1.out (by omega) (by have := HNR.out; have := HN.out; omega) (by have := HNR.out; have := HN.out; omega) (by have := HL.out; simp [bI_len]; omega)).mono ?_
        rintro e v2 ⟨rfl, hw2, he2⟩
        have HW2 := Aside0.mk hw2
        have HE2 := Aside0.mk he2
        clear hw2 he2
        go_wp2_with fail
        refine (un_calls 16 (b) w0 p ((l ++ bI 2 (0)) ++ bI 16 (a)) W _ HP.out HW2.out HE2.out (by omega) (by have := HNR.out; have := HN.out; omega) (by have := HNR.out; have := HN.out; omega) (by have := HL.out; simp [bI_len]; omega)).mono ?_
        rintro e v3 ⟨rfl, hw3, he3⟩
        have HW3 := Aside0.mk hw3
        have HE3 := Aside0.mk he3
        clear hw3 he3
        go_wp2_with fail
        go_end0
        exact ⟨rfl, by rw [HX.out]; have := HW3.out; simpa [if_neg HQ.out] using this, HE3.out⟩
end Go.Proofs.Ytmbbijhppgkdfaa.P14
