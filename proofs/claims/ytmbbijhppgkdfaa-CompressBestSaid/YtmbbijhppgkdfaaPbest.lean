/- hopmeshlaw14.CompressBest: what it answers. -/
import Derived.Test.YtmbbijhppgkdfaaGbest
import Derived.Test.YtmbbijhppgkdfaaGhdr
import Derived.Test.YtmbbijhppgkdfaaP14Eq
import Derived.Test.YtmbbijhppgkdfaaTawake
namespace Go.Proofs.Ytmbbijhppgkdfaa.P14
open Go.RowKit Go.Proofs.YtmbbijhppgkdfaaW.PrintWords Go.Proofs.YtmbbijhppgkdfaaW.PrintLast Go.Proofs.YtmbbijhppgkdfaaW.PrintMore
attribute [local go_sem] max2_int min2_int max_two min_two max_three min_three max_four min_four
set_option linter.unusedVariables false
set_option linter.unusedSimpArgs false

theorem nub (occ : List (List UInt8)) : ∃ ss : List (List UInt8), ss.Nodup ∧ ∀ s, s ∈ ss ↔ s ∈ occ := by
  induction occ with
  | nil => exact ⟨[], List.nodup_nil, fun s => Iff.rfl⟩
  | cons a t ih =>
    obtain ⟨ss, h1, h2⟩ := ih
    by_cases ha : a ∈ ss
    · refine ⟨ss, h1, fun s => ?_⟩
      rw [h2, List.mem_cons]
      exact ⟨Or.inr, fun h => h.elim (fun e => by rw [e]; exact (h2 a).mp ha) id⟩
    · refine ⟨a :: ss, List.nodup_cons.mpr ⟨ha, h1⟩, fun s => ?_⟩
      rw [List.mem_cons, List.mem_cons, h2]
theorem keyd_ex (occ : List (List UInt8)) : ∃ ks, Keyd occ ks := by
  obtain ⟨ss, h1, h2⟩ := nub occ
  exact ⟨_, keyd_sort occ ss h1 h2⟩
theorem bestR_ref (hs : List S24) (most : Int) (r : List S26) (hl : hs.length ≤ 20) (h : BestR hs most r) : hopmeshref14_Best.f 200001 hs most = some r := by
  by_cases hm : 1 ≤ most ∧ most ≤ 8
  · obtain ⟨ks, hK, e⟩ := h.2 hm
    rw [rbest_eq hs most ks hl hK _ (by omega), if_pos hm, e]
  · obtain ⟨ks, hK⟩ := keyd_ex (occS hs)
    rw [rbest_eq hs most ks hl hK _ (by omega), if_neg hm, h.1 hm]
theorem eq28_go (l : List S26) (hl : l.length < 1000000) : ∀ (d i k : Nat), i + d = l.length → d < k → api_Context_28.l0 k l l (l.length : Int) (i : Int) = some true := by
  intro d
  induction d with
  | zero =>
    intro i k h hk
    obtain ⟨k, rfl⟩ : ∃ z, k = z + 1 := ⟨k - 1, by omega⟩
    unfold api_Context_28.l0
    rw [if_neg (by omega)]
  | succ d ih =>
    intro i k h hk
    obtain ⟨k, rfl⟩ : ∃ z, k = z + 1 := ⟨k - 1, by omega⟩
    unfold api_Context_28.l0
    rw [if_pos (by omega), if_pos (by omega), if_pos (by omega), if_pos (by omega), if_neg (by simp), show wrap64 ((i : Int) + 1) = ((i + 1 : Nat) : Int) by rw [← IntWalk.i64_left, IntWalk.i64_in _ (by omega)]; simp]
    exact ih (i + 1) k (by omega) (by omega)
theorem eq28 (l : List S26) (hl : l.length < 1000000) : api_Context_28.f (l.length + 1) l l = some true := by
  unfold api_Context_28.f
  rw [if_pos rfl]
  exact eq28_go l hl l.length 0 _ (by omega) (by omega)
theorem bestR_len (hs : List S24) (most : Int) (r : List S26) (h : BestR hs most r) : r.length < 1000000 := by
  by_cases hm : 1 ≤ most ∧ most ≤ 8
  · obtain ⟨ks, hK, e⟩ := h.2 hm
    rw [e, List.length_map, List.length_take]
    omega
  · rw [h.1 hm]
    simp
set_option maxHeartbeats 1600000 in
set_option maxRecDepth 100000 in
theorem best9 (A : Option Addr) (c : Nat) (hs : List S24) (most : Int) (w : World) (hr : Kd.C k24 w A hs.length hs) (hc : hs.length ≤ c) :
    Calls Try.prog 9 #[.slice A hs.length c, .int .i64 most] w fun e w' => e = .returned (.bool true) ∧ Below w.heap.size w w' := by
  have HA := Aside0.mk (fun W => hopmeshlaw14_awake.calls 1 true W (awake_eq 0))
  have H26 := Aside0.mk (fun W (hb : Below w.heap.size w W) => con26 A c hs W (Kd.C_below hr hb))
  have HR := Aside0.mk hr
  have HC := Aside0.mk hc
  have HB := Aside0.mk (Below.refl w.heap.size w)
  clear hr hc
  by_cases hl : hs.length ≤ 20
  · have HL := Aside0.mk hl
    have hlz : decide ((hs.length : Int) > 20) = false := decide_eq_false (by omega)
    have H30 := Aside0.mk (fun W (hb : Below w.heap.size w W) => cloneH_calls A c hs W (Kd.C_below HR.out hb) HC.out (by omega))
    clear hl
    cases hq : manyLong hs with
    | true =>
      rw [hq] at H26
      clear hq
      go_enter Try.func9, Try.ntmps9
      go_wp2_with (first | (go_at_call 10; refine (HA.out _).mono ?_; rintro e w1 ⟨rfl, hb⟩; have HB1 := Aside0.mk hb; clear hb) | (go_at_call 26; refine (H26.out _ HB1.out).mono ?_; rintro e w2 ⟨rfl, hb⟩; have HB2 := Aside0.mk (below_step HB1.out hb); clear hb))
      go_ret
      exact ⟨rfl, HB2.out⟩
    | false =>
      rw [hq] at H26
      clear hq
      go_enter Try.func9, Try.ntmps9
      go_wp2_with (first | (go_at_call 10; refine (HA.out _).mono ?_; rintro e w1 ⟨rfl, hb⟩; have HB1 := Aside0.mk hb; clear hb) | (go_at_call 26; refine (H26.out _ HB1.out).mono ?_; rintro e w2 ⟨rfl, hb⟩; have HB2 := Aside0.mk (below_step HB1.out hb); clear hb) | (go_at_call 30; refine (H30.out _ HB2.out).mono ?_; rintro e w3 ⟨v3, rfl, h3, hb⟩; have R3 := Aside0.mk h3; have HB3 := Aside0.mk (below_step HB2.out hb); clear h3 hb; obtain ⟨A3, c3, e3, l3, r3⟩ := Kd.R_reads R3.out; subst e3; have RC3 := Aside0.mk (And.intro l3 r3); clear l3 r3) | (go_at_call 29; refine (best_calls A3 c3 hs most _ RC3.out.2 RC3.out.1 HL.out).mono ?_; rintro e w4 ⟨v4, r4, rfl, h4, h5, hb⟩; have BR := Aside0.mk h4; have R4 := Aside0.mk h5; have HB4 := Aside0.mk (below_step HB3.out hb); clear h4 h5 hb) | (go_at_call 31; refine (hopmeshref14_Best.calls 200001 A c hs most r4 _ (Kd.C_below HR.out HB4.out) HC.out (bestR_ref hs most r4 HL.out BR.out)).mono ?_; rintro e w5 ⟨v5, rfl, h5, hb⟩; have R5 := Aside0.mk h5; have R45 := Aside0.mk (Kd.R_below R4.out hb); have HB5 := Aside0.mk (below_step HB4.out hb); clear h5 hb; obtain ⟨A4, c4, e4, l4, r4'⟩ := Kd.R_reads R45.out; subst e4; have RC4 := Aside0.mk (And.intro l4 r4'); clear l4 r4'; obtain ⟨A5, c5, e5, l5, r5'⟩ := Kd.R_reads R5.out; subst e5; have RC5 := Aside0.mk (And.intro l5 r5'); clear l5 r5') | (go_at_call 28; refine (api_Context_28.calls (r4.length + 1) A4 c4 r4 A5 c5 r4 true _ RC4.out.2 RC4.out.1 RC5.out.2 RC5.out.1 (eq28 r4 (bestR_len hs most r4 BR.out))).mono ?_; rintro e w6 ⟨rfl, hb⟩; have HB6 := Aside0.mk (below_step HB5.out (Drawn0.below hb)); clear hb))

      go_ret
      exact ⟨rfl, HB6.out⟩
  · have hlz : decide ((hs.length : Int) > 20) = true := decide_eq_true (by omega)
    clear hl
    go_enter Try.func9, Try.ntmps9
    go_wp2_with (first | (go_at_call 10; refine (HA.out _).mono ?_; rintro e w1 ⟨rfl, hb⟩; have HB1 := Aside0.mk hb; clear hb))
    go_ret
    exact ⟨rfl, HB1.out⟩
theorem hopmeshlaw14_CompressBest.calls (k : Nat) (A : Option Addr) (c : Nat) (hs : List S24) (most : Int) (r : Bool) (w : World) (hr : Kd.C k24 w A hs.length hs) (hc : hs.length ≤ c) (h : some true = some r) :
    Calls Try.prog 9 #[.slice A hs.length c, .int .i64 most] w fun e w' => e = .returned (.bool r) ∧ Below w.heap.size w w' := by
  injection h with h
  subst h
  exact best9 A c hs most w hr hc
theorem CompressBest_pure (hs : List S24) (most : Int) : ∃ k : Nat, some true = some true := ⟨0, rfl⟩
end Go.Proofs.Ytmbbijhppgkdfaa.P14
