/- slices.Clone and slices.ContainsFunc of headers. -/
import Derived.Test.YtmbbijhppgkdfaaGcon
import Derived.Test.YtmbbijhppgkdfaaP14Sh
import Derived.Lib.SliceRun
namespace Go.Proofs.Ytmbbijhppgkdfaa.P14
open Go.RowKit Go.Proofs.YtmbbijhppgkdfaaW.PrintWords Go.Proofs.YtmbbijhppgkdfaaW.PrintLast Go.Proofs.YtmbbijhppgkdfaaW.PrintMore
attribute [local go_sem] max2_int min2_int max_two min_two max_three min_three max_four min_four
set_option linter.unusedVariables false
set_option linter.unusedSimpArgs false

theorem info24 : (Try.prog.info? 24).map (fun i => (i.zero, i.size, i.bytes)) = some (some (.agg #[.int .i64 0, .int .i64 0, .string (⟨#[]⟩ : ByteArray), .string (⟨#[]⟩ : ByteArray), .int .i64 0, .int .i64 0, .int .i64 0]), 7, 72) := by kernel_rfl
set_option maxRecDepth 100000 in
theorem cloneH_calls (A : Option Addr) (c : Nat) (l : List S24) (w : World) (hr : Kd.C k24 w A l.length l) (hc : l.length ≤ c) (hlt : l.length < 1000000000) :
    Calls Try.prog 30 #[.slice A l.length c] w fun e w' => ∃ v, e = .returned v ∧ Kd.R k24 24 w' w.heap.size (fun _ => True) v l ∧ Below w.heap.size w w' := by
  have q46 : ∀ (w : World) (a : Option Addr) (n c n' c' : Nat), (binOp .eql 46 (.slice a n c) (.slice none n' c')).run Try.prog w = .ok (.bool a.isNone) w := fun w a n c n' c' => Lib.run_eql_slice_nil w _ _ a n c n' c' Try.underlying46
  have HB := Aside0.mk (Below.refl w.heap.size w)
  cases A with
  | none =>
    have hl : l = [] := by
      cases hl : l with
      | nil => rfl
      | cons x xs =>
        obtain ⟨ad, e, _⟩ := at_T24 hr 0 (by omega) (by rw [hl]; simp)
        cases e
    subst hl
    clear hr hc hlt
    go_enter Try.func30, Try.ntmps30
    go_wp2
    go_ret
    exact ⟨_, rfl, Kd.R_nil _ _ _ _ _, HB.out⟩
  | some ad =>
    have HR := Aside0.mk hr
    have HL := Aside0.mk hlt
    clear hr hlt
    go_enter Try.func30, Try.ntmps30
    go_wp2_with (first | ((with_reducible refine gate_dst (N := 5) rfl ?_)
                          refine Kd.R_lit k24 _ 24 ?hg (N := 5) ?hd (xs := ([] : List S24)) (inner := []) (ok := fun _ => True) (okp := fun _ => True) ?hr ?hp (fun _ hk => hk) trivial (Below.refl _ _) (Nat.le_refl _) (by simp) ?_
                          (case hd => rfl)
                          (case hg => rfl)
                          (case hr => first | (go_simp; done) | (go_simp; rfl))
                          (case hp => exact (Reps.none _ _))
                          intro v1 w1 ho hb hg_ hnew_
                          clear hg_ hnew_
                          have n1_ := Aside0.mk (Kd.R_lower ho (below_size (by repeat (first | (with_reducible first | exact HB.out | apply below_alloc | apply pw_below_drewN | apply below_drew1) | exact HB.out))))
                          have n2_ := Aside0.mk (below_step (by repeat (first | (with_reducible first | exact HB.out | apply below_alloc | apply pw_below_drewN | apply below_drew1) | exact HB.out)) hb)
                          clear HB ho hb
                          have HO := n1_
                          have HB := n2_
                          clear n1_ n2_)
                       | ((with_reducible refine gate_builtin (b := .append) (xs := #[.tmp 5, .tmp 6]) rfl ?_)
                          at_builtin
                          refine Kd.R_append_rows k24 (w0 := w) w.heap.size rfl (.tmp 5) (.tmp 6) 46 24 (.agg #[.int .i64 0, .int .i64 0, .string (⟨#[]⟩ : ByteArray), .string (⟨#[]⟩ : ByteArray), .int .i64 0, .int .i64 0, .int .i64 0]) 72 rfl Try.underlying46 info24 rfl (by decide) (by omega) v1 [] l _ _ _ (fun _ => True) (fun _ => False) rfl rfl ?aO ?aR (fun _ _ h => h) (fun _ h => h.elim) ?aF ?aB ?aS ?aL ?_
                          (case aR => repeat (first | exact (Kd.C_below HR.out HB.out) | (with_reducible refine Kd.C_alloc ?_ _) | (with_reducible refine Kd.C_drewN ?_ _) | (with_reducible refine Kd.C_drew ?_)))
                          (case aB => exact (by repeat (first | (with_reducible first | exact HB.out | apply below_alloc | apply pw_below_drewN | apply below_drew1) | exact HB.out)))
                          (case aF => exact (fun _ _ => trivial))
                          (case aO => exact (by (with_reducible repeat (first | apply Kd.R_alloc | apply Kd.R_drewN | apply Kd.R_drew)); exact HO.out))
                          (case aS => exact (below_size (by repeat (first | (with_reducible first | exact HB.out | apply below_alloc | apply pw_below_drewN | apply below_drew1) | exact HB.out))))
                          (case aL => have := HL.out; simp; omega)
                          intro v2 w2 ho hb hg hat))
    go_ret
    exact ⟨_, rfl, ho, hb⟩
/-- A header as a value. -/
def hdrV (h : S24) : Value := .agg #[.int .i64 h.f0, .int .i64 h.f1, .string h.f2, .string h.f3, .int .i64 h.f4, .int .i64 h.f5, .int .i64 h.f6]
/-- A header's addresses are long. -/
def longA (h : S24) : Bool := !(decide (h.f2.size ≤ 20) && decide (h.f3.size ≤ 20))
theorem short_eq (a0 a1 : Int) (a2 a3 : ByteArray) (a4 a5 a6 : Int) : hopmeshlaw14_short.f a0 a1 a2 a3 a4 a5 a6 = some (!longA ⟨a0, a1, a2, a3, a4, a5, a6⟩) := by
  unfold hopmeshlaw14_short.f longA
  rw [Bool.not_not]
  by_cases h1 : a2.size ≤ 20
  · rw [if_pos (by omega), decide_eq_true h1, Bool.true_and]
    congr 1
    rw [decide_eq_decide]
    dsimp only
    omega
  · rw [if_neg (by omega), decide_eq_false h1, Bool.false_and]
theorem pred27 (h : S24) (w W : World) (hb : Below w.heap.size w W) : Calls Try.prog 27 #[hdrV h] W fun e w' => e = .returned (.bool (longA h)) ∧ Below w.heap.size w w' := by
  obtain ⟨a0, a1, a2, a3, a4, a5, a6⟩ := h
  have hu24 := Try.underlying24
  have HS := Aside0.mk (short_eq a0 a1 a2 a3 a4 a5 a6)
  have HB := Aside0.mk hb
  clear hb
  unfold hdrV
  dsimp only
  generalize longA ⟨a0, a1, a2, a3, a4, a5, a6⟩ = q at HS ⊢
  go_enter Try.func27, Try.ntmps27
  go_wp2_with (go_at_call 12; refine (hopmeshlaw14_short.calls a0 a1 a2 a3 a4 a5 a6 _ _ HS.out).mono ?_; rintro e w' ⟨rfl, hb'⟩; have HD := Aside0.mk hb'; clear hb')
  go_ret
  refine ⟨by cases q <;> rfl, ?_⟩
  first
    | (obtain ⟨n, hn⟩ := HD.out; subst hn; exact pw_below_drewN (below_alloc HB.out _) n)
    | exact below_step (below_alloc HB.out _) HD.out
set_option maxRecDepth 100000 in
set_option maxHeartbeats 1600000 in
theorem idx50 (A : Option Addr) (c : Nat) (l : List S24) (w : World) (hr : Kd.C k24 w A l.length l) :
    Calls Try.prog 50 #[.slice A l.length c, .func (.func 27) #[] #[]] w fun e w' => e = .returned (.int .i64 (idx (fun j => longA (rd_T24 l (j : Int))) l.length)) ∧ Below w.heap.size w w' := by
  have hu24 := Try.underlying24
  have HR := Aside0.mk hr
  have hbig : l.length ≤ 9223372036854775807 := hr.2.1
  clear hr
  go_enter Try.func50, Try.ntmps50
  go_wp2
  go_loopg [5, 8] l.length (fun gg _ s8 wr => ∃ kk : Nat, kk ≤ l.length ∧ l.length - kk ≤ gg ∧ s8 = .int .i64 kk ∧ Aside0 (Below w.heap.size w wr) ∧ Aside0 (∀ j, j < kk → longA (rd_T24 l (j : Int)) = false))
  case atStart => exact ⟨0, Nat.zero_le _, by omega, rfl, ⟨Below.refl _ w⟩, ⟨fun j hj => absurd hj (Nat.not_lt_zero _)⟩⟩
  case round =>
    obtain ⟨kk, hkk, hg, rfl, BW, A0⟩ := hrel
    by_cases hlt : kk < l.length
    · have hltz : (kk : Int) < (l.length : Int) := by omega
      obtain ⟨ad, rfl, x0, x1, x2, x3, x4, x5, x6⟩ := at_T24 (Kd.C_below HR.out BW.out) (kk : Int) (by omega) (by omega)
      rw [Int.toNat_natCast] at x0 x1 x2 x3 x4 x5 x6
      have hcall := pred27 (rd_T24 l (kk : Int)) w wr BW.out
      unfold hdrV at hcall
      cases hq : longA (rd_T24 l (kk : Int)) with
      | true =>
        rw [hq] at hcall
        have Hq := Aside0.mk hq
        have HC := Aside0.mk hcall
        clear hq hcall
        go_wp2_with (go_at_call 27; refine HC.out.mono ?_; rintro e w' ⟨rfl, hb'⟩)
        go_ret
        exact ⟨by rw [idx_hit hlt Hq.out A0.out]; rfl, hb'⟩
      | false =>
        rw [hq] at hcall
        have Hq := Aside0.mk hq
        have HC := Aside0.mk hcall
        clear hq hcall
        go_wp2_with (go_at_call 27; refine HC.out.mono ?_; rintro e w' ⟨rfl, hb'⟩)
        go_roundg (l.length - (kk + 1))
        case measure => omega
        case rel =>
          refine ⟨kk + 1, by omega, by omega, by go_num, ⟨hb'⟩, ⟨fun j hj => ?_⟩⟩
          by_cases e : j = kk
          · subst e; exact Hq.out
          · exact A0.out j (by omega)
    · have hltz : ¬ (kk : Int) < (l.length : Int) := by omega
      have : kk = l.length := by omega
      subst this
      go_wp2
      go_ret
      exact ⟨by rw [idx_miss A0.out]; rfl, BW.out⟩
def manyLong (l : List S24) : Bool := (List.range l.length).any fun j => longA (rd_T24 l (j : Int))
set_option maxRecDepth 100000 in
theorem con26 (A : Option Addr) (c : Nat) (l : List S24) (w : World) (hr : Kd.C k24 w A l.length l) :
    Calls Try.prog 26 #[.slice A l.length c, .func (.func 27) #[] #[]] w fun e w' => e = .returned (.bool (manyLong l)) ∧ Below w.heap.size w w' := by
  have HC := Aside0.mk (idx50 A c l w hr)
  have hr2 := idx_any (fun j => longA (rd_T24 l (j : Int))) l.length
  change decide (idx (fun j => longA (rd_T24 l (j : Int))) l.length ≥ 0) = manyLong l at hr2
  generalize idx (fun j => longA (rd_T24 l (j : Int))) l.length = r at HC hr2
  generalize manyLong l = q at hr2 ⊢
  have Hr := Aside0.mk hr2
  clear hr hr2
  go_enter Try.func26, Try.ntmps26
  go_wp2_with (go_at_call 50; refine HC.out.mono ?_; rintro e w' ⟨rfl, hb'⟩)
  go_ret
  exact ⟨by rw [← Hr.out]; rfl, hb'⟩
end Go.Proofs.Ytmbbijhppgkdfaa.P14
