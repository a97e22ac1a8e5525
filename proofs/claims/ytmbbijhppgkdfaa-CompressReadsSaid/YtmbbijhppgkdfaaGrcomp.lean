/- hopmeshref14.Compress and Bits: what they answer. -/
import Derived.Test.YtmbbijhppgkdfaaGrwrite
import Derived.Test.YtmbbijhppgkdfaaGcomp
namespace Go.Proofs.Ytmbbijhppgkdfaa.P14
open Go.RowKit Go.Proofs.YtmbbijhppgkdfaaW.PrintWords Go.Proofs.YtmbbijhppgkdfaaW.PrintLast Go.Proofs.YtmbbijhppgkdfaaW.PrintMore
attribute [local go_sem] max2_int min2_int max_two min_two max_three min_three max_four min_four
set_option linter.unusedVariables false
set_option linter.unusedSimpArgs false

theorem headB_len (cs : List S26) (h : S24) (ok : okH h) : (headB cs h).length ≤ 524288 := by
  have h1 := addrB_len cs h.f2
  have h2 := addrB_len cs h.f3
  rw [ok.f2] at h1
  rw [ok.f3] at h2
  have h3 := clsB_len h.f0
  have h4 := limB_len h.f1
  have h5 := portsB_len h.f4 h.f5
  have h6 := lenB_len h.f6
  unfold headB
  simp only [List.length_append]
  omega
theorem rcon_calls (A : Option Addr) (c : Nat) (cs : List S26) (r : Int) (w : World) (hr : Kd.C k26 w A cs.length cs) (hc : cs.length ≤ c) (h : some (if conOk cs = true then (0 : Int) else 1) = some r) :
    Calls Try.prog 23 #[.slice A cs.length c] w fun e w' => e = .returned (.int .i64 r) ∧ Below w.heap.size w w' :=
  (hopmeshref14_Contexts.calls (cs.length + 1) A c cs r w hr hc ((ccon_eq cs _ (by omega)).trans h)).mono fun e w' ⟨he, n, hw⟩ => ⟨he, by rw [hw]; exact pw_below_drewN (Below.refl _ _) n⟩
theorem rchk_calls (a0 a1 : Int) (a2 a3 : ByteArray) (a4 a5 a6 : Int) (W : World) :
    Calls Try.prog 21 #[.agg #[.int .i64 a0, .int .i64 a1, .string a2, .string a3, .int .i64 a4, .int .i64 a5, .int .i64 a6]] W fun e w' => e = .returned (.int .i64 (if okB ⟨a0, a1, a2, a3, a4, a5, a6⟩ = true then 0 else 1)) ∧ Below W.heap.size W w' :=
  hopmeshref14_Check.calls 1 a0 a1 a2 a3 a4 a5 a6 _ W (ccheck_eq 0 a0 a1 a2 a3 a4 a5 a6)
theorem rcon_ok {cs : List S26} (h : some (if conOk cs = true then (0 : Int) else 1) = some 0) : conOk cs = true := by
  by_cases hc : conOk cs = true
  · exact hc
  · rw [if_neg hc] at h
    exact absurd (Option.some.inj h) (by decide)
def hopmeshref14_Bits.f (cs : List S26) (a0 a1 : Int) (a2 a3 : ByteArray) (a4 a5 a6 : Int) : Option (Int × Int) := some (if (conOk cs && okB ⟨a0, a1, a2, a3, a4, a5, a6⟩) = true then (((headB cs ⟨a0, a1, a2, a3, a4, a5, a6⟩).length : Int), 0) else (0, 1))
def hopmeshref14_Compress.f (cs : List S26) (a0 a1 : Int) (a2 a3 : ByteArray) (a4 a5 a6 : Int) : Option (ByteArray × Int) := some (if (conOk cs && okB ⟨a0, a1, a2, a3, a4, a5, a6⟩) = true then (strOfNums (pack (headB cs ⟨a0, a1, a2, a3, a4, a5, a6⟩)), 0) else (⟨#[]⟩, 1))
theorem rbits_bind (cs : List S26) (a0 a1 : Int) (a2 a3 : ByteArray) (a4 a5 a6 : Int) : hopmeshref14_Bits.f cs a0 a1 a2 a3 a4 a5 a6 = (some (if conOk cs = true then (0 : Int) else 1)).bind fun c => if c = 0 then (if okB ⟨a0, a1, a2, a3, a4, a5, a6⟩ = true then some (((headB cs ⟨a0, a1, a2, a3, a4, a5, a6⟩).length : Int), 0) else some (0, 1)) else some (0, 1) := by
  unfold hopmeshref14_Bits.f
  cases conOk cs <;> cases okB ⟨a0, a1, a2, a3, a4, a5, a6⟩ <;> rfl
theorem rcomp_bind (cs : List S26) (a0 a1 : Int) (a2 a3 : ByteArray) (a4 a5 a6 : Int) : hopmeshref14_Compress.f cs a0 a1 a2 a3 a4 a5 a6 = (some (if conOk cs = true then (0 : Int) else 1)).bind fun c => if c = 0 then (if okB ⟨a0, a1, a2, a3, a4, a5, a6⟩ = true then some (strOfNums (pack (headB cs ⟨a0, a1, a2, a3, a4, a5, a6⟩)), 0) else some (⟨#[]⟩, 1)) else some (⟨#[]⟩, 1) := by
  unfold hopmeshref14_Compress.f
  cases conOk cs <;> cases okB ⟨a0, a1, a2, a3, a4, a5, a6⟩ <;> rfl
set_option maxRecDepth 100000 in
set_option maxHeartbeats 3200000 in
theorem hopmeshref14_Bits.calls (A : Option Addr) (c : Nat) (cs : List S26) (a0 a1 : Int) (a2 a3 : ByteArray) (a4 a5 a6 : Int) (r1 : Int) (r2 : Int) (w : World) (hr : Kd.C k26 w A cs.length cs) (hc : cs.length ≤ c) (h : hopmeshref14_Bits.f cs a0 a1 a2 a3 a4 a5 a6 = some (r1, r2)) :
    Calls Try.prog 19 #[.slice A cs.length c, .agg #[.int .i64 a0, .int .i64 a1, .string a2, .string a3, .int .i64 a4, .int .i64 a5, .int .i64 a6]] w fun e w' => e = .returned (.tuple #[.int .i64 r1, .int .i64 r2]) ∧ Below w.heap.size w w' := by
  have hu24 := Try.underlying24
  replace h := (rbits_bind cs a0 a1 a2 a3 a4 a5 a6).symm.trans h
  obtain ⟨t, h1, h⟩ := Option.bind_eq_some_iff.mp h
  have HR := Aside0.mk hr
  have HC := Aside0.mk hc
  have HB := Aside0.mk (Below.refl w.heap.size w)
  have hbel : ∀ W, Below w.heap.size w W → Calls Try.prog 23 #[.slice A cs.length c] W fun e w' => e = .returned (.int .i64 t) ∧ Below W.heap.size W w' := fun W hb => rcon_calls A c cs t W (Kd.C_below hr hb) hc h1
  have HX := Aside0.mk hbel
  have hchk : ∀ W, Calls Try.prog 21 #[.agg #[.int .i64 a0, .int .i64 a1, .string a2, .string a3, .int .i64 a4, .int .i64 a5, .int .i64 a6]] W fun e w' => e = .returned (.int .i64 (if okB ⟨a0, a1, a2, a3, a4, a5, a6⟩ = true then 0 else 1)) ∧ Below W.heap.size W w' := fun W => rchk_calls a0 a1 a2 a3 a4 a5 a6 W
  have HK := Aside0.mk hchk
  have H1 := Aside0.mk h1
  clear hr hc hbel hchk h1
  by_cases ht : t = 0
  · subst ht
    rw [if_pos rfl] at h
    by_cases ho : okB ⟨a0, a1, a2, a3, a4, a5, a6⟩ = true
    · rw [if_pos ho] at h HK
      have HO := Aside0.mk ((okB_iff _).mp ho)
      have h := Option.some.inj h
      injection h with e1 e2
      subst e1
      subst e2
      clear ho
      go_enter Try.func19, Try.ntmps19
      go_wp2_with (first | (go_at_call 23; refine (HX.out _ (by repeat (first | exact Below.refl _ _ | apply below_alloc | apply below_drew1 | apply pw_below_drewN))).mono ?_; rintro e w1 ⟨rfl, hb1⟩; have HB1 := Aside0.mk (below_step (below_alloc (Below.refl w.heap.size w) _) hb1); have BH1 := blk_below (blk_new w _) hb1; have z0 := (blk_cell BH1 0).trans rfl; have z1 := (blk_cell BH1 1).trans rfl; have z2 := (blk_cell BH1 2).trans rfl; have z3 := (blk_cell BH1 3).trans rfl; have z4 := (blk_cell BH1 4).trans rfl; have z5 := (blk_cell BH1 5).trans rfl; have z6 := (blk_cell BH1 6).trans rfl; have BHH := Aside0.mk BH1; clear hb1 BH1) | (go_at_call 21; refine (HK.out _).mono ?_; rintro e w2 ⟨rfl, hb2⟩; have HB2 := Aside0.mk (below_step HB1.out hb2); have BH2 := blk_below BHH.out hb2; have y0 := (blk_cell BH2 0).trans rfl; have y1 := (blk_cell BH2 1).trans rfl; have y2 := (blk_cell BH2 2).trans rfl; have y3 := (blk_cell BH2 3).trans rfl; have y4 := (blk_cell BH2 4).trans rfl; have y5 := (blk_cell BH2 5).trans rfl; have y6 := (blk_cell BH2 6).trans rfl; clear hb2 BH2) | (go_at_call 38; refine (write2_calls A c cs ⟨a0, a1, a2, a3, a4, a5, a6⟩ _ (Kd.C_below HR.out HB2.out) HC.out (rcon_ok H1.out) HO.out).mono ?_; rintro e w3 ⟨p, rfl, hp, hw3, hb3⟩; have HW3 := Aside0.mk hw3; have HB3 := Aside0.mk (below_step HB2.out hb3); have HBq := Aside0.mk hb3; have HP := Aside0.mk hp; clear hw3 hb3 hp) | (go_at_call 40; refine (bits2_calls w2 p _ _ HW3.out).mono ?_; rintro e w4 ⟨rfl, rfl⟩))
      go_ret2
      exact ⟨rfl, HB3.out⟩
    · rw [if_neg ho] at h HK
      have h := Option.some.inj h
      injection h with e1 e2
      subst e1
      subst e2
      clear ho
      go_enter Try.func19, Try.ntmps19
      go_wp2_with (first | (go_at_call 23; refine (HX.out _ (by repeat (first | exact Below.refl _ _ | apply below_alloc | apply below_drew1 | apply pw_below_drewN))).mono ?_; rintro e w1 ⟨rfl, hb1⟩; have HB1 := Aside0.mk (below_step (below_alloc (Below.refl w.heap.size w) _) hb1); have BH1 := blk_below (blk_new w _) hb1; have z0 := (blk_cell BH1 0).trans rfl; have z1 := (blk_cell BH1 1).trans rfl; have z2 := (blk_cell BH1 2).trans rfl; have z3 := (blk_cell BH1 3).trans rfl; have z4 := (blk_cell BH1 4).trans rfl; have z5 := (blk_cell BH1 5).trans rfl; have z6 := (blk_cell BH1 6).trans rfl; clear hb1 BH1) | (go_at_call 21; refine (HK.out _).mono ?_; rintro e w2 ⟨rfl, hb2⟩; have HB2 := Aside0.mk (below_step HB1.out hb2); clear hb2))
      go_ret2
      exact ⟨rfl, HB2.out⟩
  · rw [if_neg ht] at h
    have h := Option.some.inj h
    injection h with e1 e2
    subst e1
    subst e2
    have hnt : (t == 0) = false := by simpa using ht
    have hnt2 : (t != 0) = true := by simpa using ht
    clear ht
    go_enter Try.func19, Try.ntmps19
    go_wp2_with (go_at_call 23; refine (HX.out _ (by repeat (first | exact Below.refl _ _ | apply below_alloc | apply below_drew1 | apply pw_below_drewN))).mono ?_; rintro e w1 ⟨rfl, hb1⟩; have HB1 := Aside0.mk (below_step (below_alloc (Below.refl w.heap.size w) _) hb1); clear hb1)
    go_ret2
    exact ⟨rfl, HB1.out⟩
set_option maxRecDepth 100000 in
set_option maxHeartbeats 3200000 in
theorem hopmeshref14_Compress.calls (A : Option Addr) (c : Nat) (cs : List S26) (a0 a1 : Int) (a2 a3 : ByteArray) (a4 a5 a6 : Int) (r1 : ByteArray) (r2 : Int) (w : World) (hr : Kd.C k26 w A cs.length cs) (hc : cs.length ≤ c) (h : hopmeshref14_Compress.f cs a0 a1 a2 a3 a4 a5 a6 = some (r1, r2)) :
    Calls Try.prog 18 #[.slice A cs.length c, .agg #[.int .i64 a0, .int .i64 a1, .string a2, .string a3, .int .i64 a4, .int .i64 a5, .int .i64 a6]] w fun e w' => e = .returned (.tuple #[.string r1, .int .i64 r2]) ∧ Below w.heap.size w w' := by
  have hu24 := Try.underlying24
  replace h := (rcomp_bind cs a0 a1 a2 a3 a4 a5 a6).symm.trans h
  obtain ⟨t, h1, h⟩ := Option.bind_eq_some_iff.mp h
  have HR := Aside0.mk hr
  have HC := Aside0.mk hc
  have HB := Aside0.mk (Below.refl w.heap.size w)
  have hbel : ∀ W, Below w.heap.size w W → Calls Try.prog 23 #[.slice A cs.length c] W fun e w' => e = .returned (.int .i64 t) ∧ Below W.heap.size W w' := fun W hb => rcon_calls A c cs t W (Kd.C_below hr hb) hc h1
  have HX := Aside0.mk hbel
  have hchk : ∀ W, Calls Try.prog 21 #[.agg #[.int .i64 a0, .int .i64 a1, .string a2, .string a3, .int .i64 a4, .int .i64 a5, .int .i64 a6]] W fun e w' => e = .returned (.int .i64 (if okB ⟨a0, a1, a2, a3, a4, a5, a6⟩ = true then 0 else 1)) ∧ Below W.heap.size W w' := fun W => rchk_calls a0 a1 a2 a3 a4 a5 a6 W
  have HK := Aside0.mk hchk
  have H1 := Aside0.mk h1
  clear hr hc hbel hchk h1
  by_cases ht : t = 0
  · subst ht
    rw [if_pos rfl] at h
    by_cases ho : okB ⟨a0, a1, a2, a3, a4, a5, a6⟩ = true
    · rw [if_pos ho] at h HK
      have HO := Aside0.mk ((okB_iff _).mp ho)
      have HHL : Aside0 ((headB cs ⟨a0, a1, a2, a3, a4, a5, a6⟩).length ≤ 524288) := ⟨headB_len cs _ HO.out⟩
      have h := Option.some.inj h
      injection h with e1 e2
      subst e1
      subst e2
      clear ho
      go_enter Try.func18, Try.ntmps18
      go_wp2_with (first | (go_at_call 23; refine (HX.out _ (by repeat (first | exact Below.refl _ _ | apply below_alloc | apply below_drew1 | apply pw_below_drewN))).mono ?_; rintro e w1 ⟨rfl, hb1⟩; have HB1 := Aside0.mk (below_step (below_alloc (Below.refl w.heap.size w) _) hb1); have BH1 := blk_below (blk_new w _) hb1; have z0 := (blk_cell BH1 0).trans rfl; have z1 := (blk_cell BH1 1).trans rfl; have z2 := (blk_cell BH1 2).trans rfl; have z3 := (blk_cell BH1 3).trans rfl; have z4 := (blk_cell BH1 4).trans rfl; have z5 := (blk_cell BH1 5).trans rfl; have z6 := (blk_cell BH1 6).trans rfl; have BHH := Aside0.mk BH1; clear hb1 BH1) | (go_at_call 21; refine (HK.out _).mono ?_; rintro e w2 ⟨rfl, hb2⟩; have HB2 := Aside0.mk (below_step HB1.out hb2); have BH2 := blk_below BHH.out hb2; have y0 := (blk_cell BH2 0).trans rfl; have y1 := (blk_cell BH2 1).trans rfl; have y2 := (blk_cell BH2 2).trans rfl; have y3 := (blk_cell BH2 3).trans rfl; have y4 := (blk_cell BH2 4).trans rfl; have y5 := (blk_cell BH2 5).trans rfl; have y6 := (blk_cell BH2 6).trans rfl; clear hb2 BH2) | (go_at_call 38; refine (write2_calls A c cs ⟨a0, a1, a2, a3, a4, a5, a6⟩ _ (Kd.C_below HR.out HB2.out) HC.out (rcon_ok H1.out) HO.out).mono ?_; rintro e w3 ⟨p, rfl, hp, hw3, hb3⟩; have HW3 := Aside0.mk hw3; have HB3 := Aside0.mk (below_step HB2.out hb3); have HBq := Aside0.mk hb3; have HP := Aside0.mk hp; clear hw3 hb3 hp) | (go_at_call 39; refine (bytes2_calls w2 p _ _ HW3.out HHL.out).mono ?_; rintro e w4 ⟨rfl, hb4⟩; have HB4 := Aside0.mk (below_step HB3.out hb4); clear hb4))
      go_ret2
      exact ⟨rfl, HB4.out⟩
    · rw [if_neg ho] at h HK
      have h := Option.some.inj h
      injection h with e1 e2
      subst e1
      subst e2
      clear ho
      go_enter Try.func18, Try.ntmps18
      go_wp2_with (first | (go_at_call 23; refine (HX.out _ (by repeat (first | exact Below.refl _ _ | apply below_alloc | apply below_drew1 | apply pw_below_drewN))).mono ?_; rintro e w1 ⟨rfl, hb1⟩; have HB1 := Aside0.mk (below_step (below_alloc (Below.refl w.heap.size w) _) hb1); have BH1 := blk_below (blk_new w _) hb1; have z0 := (blk_cell BH1 0).trans rfl; have z1 := (blk_cell BH1 1).trans rfl; have z2 := (blk_cell BH1 2).trans rfl; have z3 := (blk_cell BH1 3).trans rfl; have z4 := (blk_cell BH1 4).trans rfl; have z5 := (blk_cell BH1 5).trans rfl; have z6 := (blk_cell BH1 6).trans rfl; clear hb1 BH1) | (go_at_call 21; refine (HK.out _).mono ?_; rintro e w2 ⟨rfl, hb2⟩; have HB2 := Aside0.mk (below_step HB1.out hb2); clear hb2))
      go_ret2
      exact ⟨rfl, HB2.out⟩
  · rw [if_neg ht] at h
    have h := Option.some.inj h
    injection h with e1 e2
    subst e1
    subst e2
    have hnt : (t == 0) = false := by simpa using ht
    have hnt2 : (t != 0) = true := by simpa using ht
    clear ht
    go_enter Try.func18, Try.ntmps18
    go_wp2_with (go_at_call 23; refine (HX.out _ (by repeat (first | exact Below.refl _ _ | apply below_alloc | apply below_drew1 | apply pw_below_drewN))).mono ?_; rintro e w1 ⟨rfl, hb1⟩; have HB1 := Aside0.mk (below_step (below_alloc (Below.refl w.heap.size w) _) hb1); clear hb1)
    go_ret2
    exact ⟨rfl, HB1.out⟩
end Go.Proofs.Ytmbbijhppgkdfaa.P14
