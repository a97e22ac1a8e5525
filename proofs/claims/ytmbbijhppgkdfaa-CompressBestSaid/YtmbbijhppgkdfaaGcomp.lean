/- compress.Bits and compress.Compress: the number of a header's bits, and its bytes. -/
import Derived.Test.YtmbbijhppgkdfaaGwrite
import Derived.Test.YtmbbijhppgkdfaaGcon
import Derived.Test.YtmbbijhppgkdfaaP14Ck
namespace Go.Proofs.Ytmbbijhppgkdfaa.P14
open Go.RowKit Go.Proofs.YtmbbijhppgkdfaaW.PrintWords Go.Proofs.YtmbbijhppgkdfaaW.PrintLast Go.Proofs.YtmbbijhppgkdfaaW.PrintMore
attribute [local go_sem] max2_int min2_int max_two min_two max_three min_three max_four min_four
set_option linter.unusedVariables false
set_option linter.unusedSimpArgs false

def okB (h : S24) : Bool := decide (0 ≤ h.f0 ∧ h.f0 ≤ 255) && (decide (0 ≤ h.f1 ∧ h.f1 ≤ 255) && (decide (h.f2.size = 4) && (decide (h.f3.size = 4) && (decide (0 ≤ h.f4 ∧ h.f4 ≤ 65535) && (decide (0 ≤ h.f5 ∧ h.f5 ≤ 65535) && decide (0 ≤ h.f6 ∧ h.f6 ≤ 4095))))))
theorem okB_iff (h : S24) : okB h = true ↔ okH h := by
  unfold okB
  simp only [Bool.and_eq_true, decide_eq_true_eq]
  exact ⟨fun ⟨a, b, c, d, e, f, g⟩ => ⟨a, b, c, d, e, f, g⟩, fun h => ⟨h.f0, h.f1, h.f2, h.f3, h.f4, h.f5, h.f6⟩⟩
theorem in_eq (a m : Int) : compress_in.f a m = some (decide (0 ≤ a ∧ a ≤ m)) := by
  unfold compress_in.f
  by_cases h : a ≥ 0
  · rw [if_pos h]
    simp only [Option.some.injEq, decide_eq_decide]
    omega
  · rw [if_neg h]
    simp only [Option.some.injEq]
    exact (decide_eq_false (by omega)).symm
theorem check_eq (k : Nat) (a0 a1 : Int) (a2 a3 : ByteArray) (a4 a5 a6 : Int) : compress_Check.f (k + 1) a0 a1 a2 a3 a4 a5 a6 = some (if okB ⟨a0, a1, a2, a3, a4, a5, a6⟩ = true then 0 else 1) := by
  unfold compress_Check.f okB
  simp only [in_eq, Option.bind_some, compress_Check.j0]
  have e2 : ((a2.size : Int) = 4) ↔ a2.size = 4 := by omega
  have e3 : ((a3.size : Int) = 4) ↔ a3.size = 4 := by omega
  simp only [e2, e3]
  by_cases h0 : 0 ≤ a0 ∧ a0 ≤ 255
  · by_cases h1 : 0 ≤ a1 ∧ a1 ≤ 255
    · by_cases h2 : a2.size = 4
      · by_cases h3 : a3.size = 4
        · by_cases h4 : 0 ≤ a4 ∧ a4 ≤ 65535
          · by_cases h5 : 0 ≤ a5 ∧ a5 ≤ 65535
            · by_cases h6 : 0 ≤ a6 ∧ a6 ≤ 4095 <;> simp [h0, h1, h2, h3, h4, h5, h6]
            · simp [h0, h1, h2, h3, h4, h5]
          · simp [h0, h1, h2, h3, h4]
        · simp [h0, h1, h2, h3]
      · simp [h0, h1, h2]
    · simp [h0, h1]
  · simp [h0]
theorem ctx_ok {cs : List S26} (h : compress_Contexts.f cs = some 0) : cs.length ≤ 8 ∧ ∀ i : Int, 0 ≤ i → i < (cs.length : Int) → 1 ≤ (rd_T26 cs i).f0.size ∧ (rd_T26 cs i).f0.size ≤ 4 := by
  unfold compress_Contexts.f at h
  split at h
  · cases h
  · have h := Option.some.inj h
    by_cases hc : (decide (8 < cs.length) || ctxBad cs) = true
    · rw [if_pos hc] at h; cases h
    · have hc := Bool.eq_false_iff.mpr hc
      rw [Bool.or_eq_false_iff] at hc
      refine ⟨Nat.le_of_not_lt (of_decide_eq_false hc.1), fun i h0 h1 => ?_⟩
      have h2 := List.any_eq_false.mp hc.2 i.toNat (by simp; omega)
      rw [Int.toNat_of_nonneg h0] at h2
      unfold preBad at h2
      have h3 : (decide (1 ≤ (rd_T26 cs i).f0.size) && decide ((rd_T26 cs i).f0.size ≤ 4)) = true := by
        cases hq : (decide (1 ≤ (rd_T26 cs i).f0.size) && decide ((rd_T26 cs i).f0.size ≤ 4)) with
        | true => rfl
        | false => rw [hq] at h2; exact absurd rfl h2
      exact ⟨of_decide_eq_true (Bool.and_eq_true_iff.mp h3).1, of_decide_eq_true (Bool.and_eq_true_iff.mp h3).2⟩
def compress_Bits.f (cs : List S26) (a0 a1 : Int) (a2 a3 : ByteArray) (a4 a5 a6 : Int) : Option (Int × Int) := (compress_Contexts.f cs).bind fun c => if c = 0 then (if okB ⟨a0, a1, a2, a3, a4, a5, a6⟩ = true then some (((headB cs ⟨a0, a1, a2, a3, a4, a5, a6⟩).length : Int), 0) else some (0, 1)) else some (0, 1)
def compress_Compress.f (cs : List S26) (a0 a1 : Int) (a2 a3 : ByteArray) (a4 a5 a6 : Int) : Option (ByteArray × Int) := (compress_Contexts.f cs).bind fun c => if c = 0 then (if okB ⟨a0, a1, a2, a3, a4, a5, a6⟩ = true then some (strOfNums (pack (headB cs ⟨a0, a1, a2, a3, a4, a5, a6⟩)), 0) else some (⟨#[]⟩, 1)) else some (⟨#[]⟩, 1)
set_option maxRecDepth 100000 in
set_option maxHeartbeats 3200000 in
theorem compress_Bits.calls (A : Option Addr) (c : Nat) (cs : List S26) (a0 a1 : Int) (a2 a3 : ByteArray) (a4 a5 a6 : Int) (r1 : Int) (r2 : Int) (w : World) (hr : Kd.C k26 w A cs.length cs) (hc : cs.length ≤ c) (h : compress_Bits.f cs a0 a1 a2 a3 a4 a5 a6 = some (r1, r2)) :
    Calls Try.prog 13 #[.slice A cs.length c, .agg #[.int .i64 a0, .int .i64 a1, .string a2, .string a3, .int .i64 a4, .int .i64 a5, .int .i64 a6]] w fun e w' => e = .returned (.tuple #[.int .i64 r1, .int .i64 r2]) ∧ Below w.heap.size w w' := by
  have hu24 := Try.underlying24
  unfold compress_Bits.f at h
  obtain ⟨t, h1, h⟩ := Option.bind_eq_some_iff.mp h
  have HR := Aside0.mk hr
  have HC := Aside0.mk hc
  have HB := Aside0.mk (Below.refl w.heap.size w)
  have hbel : ∀ W, Below w.heap.size w W → Calls Try.prog 22 #[.slice A cs.length c] W fun e w' => e = .returned (.int .i64 t) ∧ Below W.heap.size W w' := fun W hb => compress_Contexts.calls A c cs t W (Kd.C_below hr hb) hc h1
  have HX := Aside0.mk hbel
  have hchk : ∀ W, Calls Try.prog 20 #[.agg #[.int .i64 a0, .int .i64 a1, .string a2, .string a3, .int .i64 a4, .int .i64 a5, .int .i64 a6]] W fun e w' => e = .returned (.int .i64 (if okB ⟨a0, a1, a2, a3, a4, a5, a6⟩ = true then 0 else 1)) ∧ Below W.heap.size W w' := fun W => compress_Check.calls 1 a0 a1 a2 a3 a4 a5 a6 _ W (check_eq 0 a0 a1 a2 a3 a4 a5 a6)
  have HK := Aside0.mk hchk
  have H1 := Aside0.mk h1
  clear hr hc hbel hchk h1
  by_cases ht : t = 0
  · subst ht
    rw [if_pos rfl] at h
    by_cases ho : okB ⟨a0, a1, a2, a3, a4, a5, a6⟩ = true
    · rw [if_pos ho] at h HK
      have HO := Aside0.mk ((okB_iff _).mp ho)
      have h := Option.some.inj h
      injection h with e1 e2
      subst e1
      subst e2
      clear ho
      go_enter Try.func13, Try.ntmps13
      go_wp2_with (first | (go_at_call 22; refine (HX.out _ (by repeat (first | exact Below.refl _ _ | apply below_alloc | apply below_drew1 | apply pw_below_drewN))).mono ?_; rintro e w1 ⟨rfl, hb1⟩; have HB1 := Aside0.mk (below_step (below_alloc (Below.refl w.heap.size w) _) hb1); have BH1 := blk_below (blk_new w _) hb1; have z0 := (blk_cell BH1 0).trans rfl; have z1 := (blk_cell BH1 1).trans rfl; have z2 := (blk_cell BH1 2).trans rfl; have z3 := (blk_cell BH1 3).trans rfl; have z4 := (blk_cell BH1 4).trans rfl; have z5 := (blk_cell BH1 5).trans rfl; have z6 := (blk_cell BH1 6).trans rfl; have BHH := Aside0.mk BH1; clear hb1 BH1) | (go_at_call 20; refine (HK.out _).mono ?_; rintro e w2 ⟨rfl, hb2⟩; have HB2 := Aside0.mk (below_step HB1.out hb2); have BH2 := blk_below BHH.out hb2; have y0 := (blk_cell BH2 0).trans rfl; have y1 := (blk_cell BH2 1).trans rfl; have y2 := (blk_cell BH2 2).trans rfl; have y3 := (blk_cell BH2 3).trans rfl; have y4 := (blk_cell BH2 4).trans rfl; have y5 := (blk_cell BH2 5).trans rfl; have y6 := (blk_cell BH2 6).trans rfl; clear hb2 BH2) | (go_at_call 34; refine (write_calls A c cs ⟨a0, a1, a2, a3, a4, a5, a6⟩ _ (Kd.C_below HR.out HB2.out) HC.out (ctx_ok H1.out).1 HO.out).mono ?_; rintro e w3 ⟨p, rfl, hp, hw3, hb3⟩; have HW3 := Aside0.mk hw3; have HB3 := Aside0.mk (below_step HB2.out hb3); have HBq := Aside0.mk hb3; have HP := Aside0.mk hp; clear hw3 hb3 hp) | (go_at_call 35; refine (bits_calls w2 p _ _ HP.out HBq.out HW3.out).mono ?_; rintro e w4 ⟨rfl, rfl⟩))
      go_ret2
      exact ⟨rfl, HB3.out⟩
    · rw [if_neg ho] at h HK
      have h := Option.some.inj h
      injection h with e1 e2
      subst e1
      subst e2
      clear ho
      go_enter Try.func13, Try.ntmps13
      go_wp2_with (first | (go_at_call 22; refine (HX.out _ (by repeat (first | exact Below.refl _ _ | apply below_alloc | apply below_drew1 | apply pw_below_drewN))).mono ?_; rintro e w1 ⟨rfl, hb1⟩; have HB1 := Aside0.mk (below_step (below_alloc (Below.refl w.heap.size w) _) hb1); have BH1 := blk_below (blk_new w _) hb1; have z0 := (blk_cell BH1 0).trans rfl; have z1 := (blk_cell BH1 1).trans rfl; have z2 := (blk_cell BH1 2).trans rfl; have z3 := (blk_cell BH1 3).trans rfl; have z4 := (blk_cell BH1 4).trans rfl; have z5 := (blk_cell BH1 5).trans rfl; have z6 := (blk_cell BH1 6).trans rfl; clear hb1 BH1) | (go_at_call 20; refine (HK.out _).mono ?_; rintro e w2 ⟨rfl, hb2⟩; have HB2 := Aside0.mk (below_step HB1.out hb2); clear hb2))
      go_ret2
      exact ⟨rfl, HB2.out⟩
  · rw [if_neg ht] at h
    have h := Option.some.inj h
    injection h with e1 e2
    subst e1
    subst e2
    have hnt : (t == 0) = false := by simpa using ht
    have hnt2 : (t != 0) = true := by simpa using ht
    clear ht
    go_enter Try.func13, Try.ntmps13
    go_wp2_with (go_at_call 22; refine (HX.out _ (by repeat (first | exact Below.refl _ _ | apply below_alloc | apply below_drew1 | apply pw_below_drewN))).mono ?_; rintro e w1 ⟨rfl, hb1⟩; have HB1 := Aside0.mk (below_step (below_alloc (Below.refl w.heap.size w) _) hb1); clear hb1)
    go_ret2
    exact ⟨rfl, HB1.out⟩
set_option maxRecDepth 100000 in
set_option maxHeartbeats 3200000 in
theorem compress_Compress.calls (A : Option Addr) (c : Nat) (cs : List S26) (a0 a1 : Int) (a2 a3 : ByteArray) (a4 a5 a6 : Int) (r1 : ByteArray) (r2 : Int) (w : World) (hr : Kd.C k26 w A cs.length cs) (hc : cs.length ≤ c) (h : compress_Compress.f cs a0 a1 a2 a3 a4 a5 a6 = some (r1, r2)) :
    Calls Try.prog 17 #[.slice A cs.length c, .agg #[.int .i64 a0, .int .i64 a1, .string a2, .string a3, .int .i64 a4, .int .i64 a5, .int .i64 a6]] w fun e w' => e = .returned (.tuple #[.string r1, .int .i64 r2]) ∧ Below w.heap.size w w' := by
  have hu24 := Try.underlying24
  unfold compress_Compress.f at h
  obtain ⟨t, h1, h⟩ := Option.bind_eq_some_iff.mp h
  have HR := Aside0.mk hr
  have HC := Aside0.mk hc
  have HB := Aside0.mk (Below.refl w.heap.size w)
  have hbel : ∀ W, Below w.heap.size w W → Calls Try.prog 22 #[.slice A cs.length c] W fun e w' => e = .returned (.int .i64 t) ∧ Below W.heap.size W w' := fun W hb => compress_Contexts.calls A c cs t W (Kd.C_below hr hb) hc h1
  have HX := Aside0.mk hbel
  have hchk : ∀ W, Calls Try.prog 20 #[.agg #[.int .i64 a0, .int .i64 a1, .string a2, .string a3, .int .i64 a4, .int .i64 a5, .int .i64 a6]] W fun e w' => e = .returned (.int .i64 (if okB ⟨a0, a1, a2, a3, a4, a5, a6⟩ = true then 0 else 1)) ∧ Below W.heap.size W w' := fun W => compress_Check.calls 1 a0 a1 a2 a3 a4 a5 a6 _ W (check_eq 0 a0 a1 a2 a3 a4 a5 a6)
  have HK := Aside0.mk hchk
  have H1 := Aside0.mk h1
  clear hr hc hbel hchk h1
  by_cases ht : t = 0
  · subst ht
    rw [if_pos rfl] at h
    by_cases ho : okB ⟨a0, a1, a2, a3, a4, a5, a6⟩ = true
    · rw [if_pos ho] at h HK
      have HO := Aside0.mk ((okB_iff _).mp ho)
      have h := Option.some.inj h
      injection h with e1 e2
      subst e1
      subst e2
      clear ho
      go_enter Try.func17, Try.ntmps17
      go_wp2_with (first | (go_at_call 22; refine (HX.out _ (by repeat (first | exact Below.refl _ _ | apply below_alloc | apply below_drew1 | apply pw_below_drewN))).mono ?_; rintro e w1 ⟨rfl, hb1⟩; have HB1 := Aside0.mk (below_step (below_alloc (Below.refl w.heap.size w) _) hb1); have BH1 := blk_below (blk_new w _) hb1; have z0 := (blk_cell BH1 0).trans rfl; have z1 := (blk_cell BH1 1).trans rfl; have z2 := (blk_cell BH1 2).trans rfl; have z3 := (blk_cell BH1 3).trans rfl; have z4 := (blk_cell BH1 4).trans rfl; have z5 := (blk_cell BH1 5).trans rfl; have z6 := (blk_cell BH1 6).trans rfl; have BHH := Aside0.mk BH1; clear hb1 BH1) | (go_at_call 20; refine (HK.out _).mono ?_; rintro e w2 ⟨rfl, hb2⟩; have HB2 := Aside0.mk (below_step HB1.out hb2); have BH2 := blk_below BHH.out hb2; have y0 := (blk_cell BH2 0).trans rfl; have y1 := (blk_cell BH2 1).trans rfl; have y2 := (blk_cell BH2 2).trans rfl; have y3 := (blk_cell BH2 3).trans rfl; have y4 := (blk_cell BH2 4).trans rfl; have y5 := (blk_cell BH2 5).trans rfl; have y6 := (blk_cell BH2 6).trans rfl; clear hb2 BH2) | (go_at_call 34; refine (write_calls A c cs ⟨a0, a1, a2, a3, a4, a5, a6⟩ _ (Kd.C_below HR.out HB2.out) HC.out (ctx_ok H1.out).1 HO.out).mono ?_; rintro e w3 ⟨p, rfl, hp, hw3, hb3⟩; have HW3 := Aside0.mk hw3; have HB3 := Aside0.mk (below_step HB2.out hb3); have HBq := Aside0.mk hb3; have HP := Aside0.mk hp; clear hw3 hb3 hp) | (go_at_call 37; refine (bytes_calls w2 p _ _ HP.out HBq.out HW3.out).mono ?_; rintro e w4 ⟨rfl, rfl⟩))
      go_ret2
      exact ⟨rfl, HB3.out⟩
    · rw [if_neg ho] at h HK
      have h := Option.some.inj h
      injection h with e1 e2
      subst e1
      subst e2
      clear ho
      go_enter Try.func17, Try.ntmps17
      go_wp2_with (first | (go_at_call 22; refine (HX.out _ (by repeat (first | exact Below.refl _ _ | apply below_alloc | apply below_drew1 | apply pw_below_drewN))).mono ?_; rintro e w1 ⟨rfl, hb1⟩; have HB1 := Aside0.mk (below_step (below_alloc (Below.refl w.heap.size w) _) hb1); have BH1 := blk_below (blk_new w _) hb1; have z0 := (blk_cell BH1 0).trans rfl; have z1 := (blk_cell BH1 1).trans rfl; have z2 := (blk_cell BH1 2).trans rfl; have z3 := (blk_cell BH1 3).trans rfl; have z4 := (blk_cell BH1 4).trans rfl; have z5 := (blk_cell BH1 5).trans rfl; have z6 := (blk_cell BH1 6).trans rfl; clear hb1 BH1) | (go_at_call 20; refine (HK.out _).mono ?_; rintro e w2 ⟨rfl, hb2⟩; have HB2 := Aside0.mk (below_step HB1.out hb2); clear hb2))
      go_ret2
      exact ⟨rfl, HB2.out⟩
  · rw [if_neg ht] at h
    have h := Option.some.inj h
    injection h with e1 e2
    subst e1
    subst e2
    have hnt : (t == 0) = false := by simpa using ht
    have hnt2 : (t != 0) = true := by simpa using ht
    clear ht
    go_enter Try.func17, Try.ntmps17
    go_wp2_with (go_at_call 22; refine (HX.out _ (by repeat (first | exact Below.refl _ _ | apply below_alloc | apply below_drew1 | apply pw_below_drewN))).mono ?_; rintro e w1 ⟨rfl, hb1⟩; have HB1 := Aside0.mk (below_step (below_alloc (Below.refl w.heap.size w) _) hb1); clear hb1)
    go_ret2
    exact ⟨rfl, HB1.out⟩
end Go.Proofs.Ytmbbijhppgkdfaa.P14
