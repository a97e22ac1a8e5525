/- compress.Expand: the header with whose bytes a string begins, and what follows. -/
import Derived.Test.YtmbbijhppgkdfaaGcomp
import Derived.Test.YtmbbijhppgkdfaaP14Rd
import Derived.Test.YtmbbijhppgkdfaaP14Cx
namespace Go.Proofs.Ytmbbijhppgkdfaa.P14
open Go.RowKit Go.Proofs.YtmbbijhppgkdfaaW.PrintWords Go.Proofs.YtmbbijhppgkdfaaW.PrintLast Go.Proofs.YtmbbijhppgkdfaaW.PrintMore
attribute [local go_sem] max2_int min2_int max_two min_two max_three min_three max_four min_four
set_option linter.unusedVariables false
set_option linter.unusedSimpArgs false

theorem blk7 {W : World} {g t : Nat} {a0 a1 a2 a3 a4 a5 a6 : Value} (h : W.heap[g]? = some (.cells #[a0, a1, a2, a3, a4, a5, a6] t (0, 0))) : W.cell? ⟨g, 0, none⟩ = some a0 ∧ W.cell? ⟨g, 1, none⟩ = some a1 ∧ W.cell? ⟨g, 2, none⟩ = some a2 ∧ W.cell? ⟨g, 3, none⟩ = some a3 ∧ W.cell? ⟨g, 4, none⟩ = some a4 ∧ W.cell? ⟨g, 5, none⟩ = some a5 ∧ W.cell? ⟨g, 6, none⟩ = some a6 ∧ W.frozen? ⟨g, 0, none⟩ = false ∧ W.frozen? ⟨g, 1, none⟩ = false ∧ W.frozen? ⟨g, 2, none⟩ = false ∧ W.frozen? ⟨g, 3, none⟩ = false ∧ W.frozen? ⟨g, 4, none⟩ = false ∧ W.frozen? ⟨g, 5, none⟩ = false ∧ W.frozen? ⟨g, 6, none⟩ = false :=
  ⟨(blk_cell h 0).trans rfl, (blk_cell h 1).trans rfl, (blk_cell h 2).trans rfl, (blk_cell h 3).trans rfl, (blk_cell h 4).trans rfl, (blk_cell h 5).trans rfl, (blk_cell h 6).trans rfl, blk_frozen h 0, blk_frozen h 1, blk_frozen h 2, blk_frozen h 3, blk_frozen h 4, blk_frozen h 5, blk_frozen h 6⟩
theorem set7 {W : World} {g t : Nat} {a0 a1 a2 a3 a4 a5 a6 b0 b1 b2 b3 b4 b5 b6 : Value} (h : W.heap[g]? = some (.cells #[a0, a1, a2, a3, a4, a5, a6] t (0, 0))) : (((((((W.setCell ⟨g, 0, none⟩ b0).setCell ⟨g, 1, none⟩ b1).setCell ⟨g, 2, none⟩ b2).setCell ⟨g, 3, none⟩ b3).setCell ⟨g, 4, none⟩ b4).setCell ⟨g, 5, none⟩ b5).setCell ⟨g, 6, none⟩ b6).heap[g]? = some (.cells #[b0, b1, b2, b3, b4, b5, b6] t (0, 0)) := by
  have h0 : (W.setCell ⟨g, 0, none⟩ b0).heap[g]? = some (.cells #[b0, a1, a2, a3, a4, a5, a6] t (0, 0)) := blk_put h 0 b0 rfl
  have h1 : ((W.setCell ⟨g, 0, none⟩ b0).setCell ⟨g, 1, none⟩ b1).heap[g]? = some (.cells #[b0, b1, a2, a3, a4, a5, a6] t (0, 0)) := blk_put h0 1 b1 rfl
  have h2 : (((W.setCell ⟨g, 0, none⟩ b0).setCell ⟨g, 1, none⟩ b1).setCell ⟨g, 2, none⟩ b2).heap[g]? = some (.cells #[b0, b1, b2, a3, a4, a5, a6] t (0, 0)) := blk_put h1 2 b2 rfl
  have h3 : ((((W.setCell ⟨g, 0, none⟩ b0).setCell ⟨g, 1, none⟩ b1).setCell ⟨g, 2, none⟩ b2).setCell ⟨g, 3, none⟩ b3).heap[g]? = some (.cells #[b0, b1, b2, b3, a4, a5, a6] t (0, 0)) := blk_put h2 3 b3 rfl
  have h4 : (((((W.setCell ⟨g, 0, none⟩ b0).setCell ⟨g, 1, none⟩ b1).setCell ⟨g, 2, none⟩ b2).setCell ⟨g, 3, none⟩ b3).setCell ⟨g, 4, none⟩ b4).heap[g]? = some (.cells #[b0, b1, b2, b3, b4, a5, a6] t (0, 0)) := blk_put h3 4 b4 rfl
  have h5 : ((((((W.setCell ⟨g, 0, none⟩ b0).setCell ⟨g, 1, none⟩ b1).setCell ⟨g, 2, none⟩ b2).setCell ⟨g, 3, none⟩ b3).setCell ⟨g, 4, none⟩ b4).setCell ⟨g, 5, none⟩ b5).heap[g]? = some (.cells #[b0, b1, b2, b3, b4, b5, a6] t (0, 0)) := blk_put h4 5 b5 rfl
  have h6 : (((((((W.setCell ⟨g, 0, none⟩ b0).setCell ⟨g, 1, none⟩ b1).setCell ⟨g, 2, none⟩ b2).setCell ⟨g, 3, none⟩ b3).setCell ⟨g, 4, none⟩ b4).setCell ⟨g, 5, none⟩ b5).setCell ⟨g, 6, none⟩ b6).heap[g]? = some (.cells #[b0, b1, b2, b3, b4, b5, b6] t (0, 0)) := blk_put h5 6 b6 rfl
  exact h6
theorem bel7 {w0 W : World} {g : Nat} {b0 b1 b2 b3 b4 b5 b6 : Value} (h : Below w0.heap.size w0 W) (hg : w0.heap.size ≤ g) : Below w0.heap.size w0 (((((((W.setCell ⟨g, 0, none⟩ b0).setCell ⟨g, 1, none⟩ b1).setCell ⟨g, 2, none⟩ b2).setCell ⟨g, 3, none⟩ b3).setCell ⟨g, 4, none⟩ b4).setCell ⟨g, 5, none⟩ b5).setCell ⟨g, 6, none⟩ b6) :=
  below_set (below_set (below_set (below_set (below_set (below_set (below_set h hg) hg) hg) hg) hg) hg) hg
theorem far7 {W : World} {g q t : Nat} {cs : Array Value} {b0 b1 b2 b3 b4 b5 b6 : Value} (h : W.heap[q]? = some (.cells cs t (0, 0))) (hq : q ≠ g) : (((((((W.setCell ⟨g, 0, none⟩ b0).setCell ⟨g, 1, none⟩ b1).setCell ⟨g, 2, none⟩ b2).setCell ⟨g, 3, none⟩ b3).setCell ⟨g, 4, none⟩ b4).setCell ⟨g, 5, none⟩ b5).setCell ⟨g, 6, none⟩ b6).heap[q]? = some (.cells cs t (0, 0)) :=
  blk_far (blk_far (blk_far (blk_far (blk_far (blk_far (blk_far h (p := ⟨g, 0, none⟩) hq b0) (p := ⟨g, 1, none⟩) hq b1) (p := ⟨g, 2, none⟩) hq b2) (p := ⟨g, 3, none⟩) hq b3) (p := ⟨g, 4, none⟩) hq b4) (p := ⟨g, 5, none⟩) hq b5) (p := ⟨g, 6, none⟩) hq b6
abbrev ExpT := Int × Int × ByteArray × ByteArray × Int × Int × Int × ByteArray × Int
def noExp (e : Int) : Option ExpT := some (0, 0, ⟨#[]⟩, ⟨#[]⟩, 0, 0, 0, ⟨#[]⟩, e)
def compress_Expand.f (cs : List S26) (data : ByteArray) : Option ExpT :=
  (compress_Contexts.f cs).bind fun c => if c = 0 then (if (data.size : Int) > 65536 then noExp 8 else
    (bitio_NewReader.f data).bind fun s => (compress_read.f 1000 cs s.1 s.2.1 s.2.2).bind fun t =>
      if (t.2.2.2.2.2.2.2.1 && okB ⟨t.1, t.2.1, t.2.2.1, t.2.2.2.1, t.2.2.2.2.1, t.2.2.2.2.2.1, t.2.2.2.2.2.2.1⟩) = true then
        (strings_CutPrefix.f data (strOfNums (pack (headB cs ⟨t.1, t.2.1, t.2.2.1, t.2.2.2.1, t.2.2.2.2.1, t.2.2.2.2.2.1, t.2.2.2.2.2.2.1⟩)))).bind fun u =>
          if u.2 = true then some (t.1, t.2.1, t.2.2.1, t.2.2.2.1, t.2.2.2.2.1, t.2.2.2.2.2.1, t.2.2.2.2.2.2.1, u.1, 0) else noExp 10
      else noExp 10) else noExp 1
set_option maxRecDepth 100000 in
set_option maxHeartbeats 6400000 in
theorem compress_Expand.calls (A : Option Addr) (c : Nat) (cs : List S26) (data : ByteArray) (r1 r2 : Int) (r3 r4 : ByteArray) (r5 r6 r7 : Int) (r8 : ByteArray) (r9 : Int) (w : World) (hr : Kd.C k26 w A cs.length cs) (hc : cs.length ≤ c) (h : compress_Expand.f cs data = some (r1, r2, r3, r4, r5, r6, r7, r8, r9)) :
    Calls Try.prog 24 #[.slice A cs.length c, .string data] w fun e w' => e = .returned (.tuple #[.agg #[.int .i64 r1, .int .i64 r2, .string r3, .string r4, .int .i64 r5, .int .i64 r6, .int .i64 r7], .string r8, .int .i64 r9]) ∧ Below w.heap.size w w' := by
  have hu24 := Try.underlying24
  unfold compress_Expand.f at h
  obtain ⟨t, h1, h⟩ := Option.bind_eq_some_iff.mp h
  have HR := Aside0.mk hr
  have HC := Aside0.mk hc
  have HC22 : Aside0 (∀ W, Below w.heap.size w W → Calls Try.prog 22 #[.slice A cs.length c] W fun e w' => e = .returned (.int .i64 t) ∧ Below W.heap.size W w') := ⟨fun W hb => compress_Contexts.calls A c cs t _ (Kd.C_below hr hb) hc h1⟩
  have H1 := Aside0.mk h1
  clear hr hc h1
  by_cases ht : t = 0
  · subst ht
    rw [if_pos rfl] at h
    by_cases hsz : (data.size : Int) > 65536
    · rw [if_pos hsz] at h
      simp only [noExp, Option.some.injEq, Prod.mk.injEq] at h
      obtain ⟨rfl, rfl, rfl, rfl, rfl, rfl, rfl, rfl, rfl⟩ := h
      have dsz : decide ((data.size : Int) > 65536) = true := decide_eq_true hsz
      go_enter Try.func24, Try.ntmps24

      go_wp2_with (first | ((with_reducible refine gate_dst (N := 4) rfl ?_); refine bx_ 4 #[.int .i64 0, .int .i64 0, .string (⟨#[]⟩ : ByteArray), .string (⟨#[]⟩ : ByteArray), .int .i64 0, .int .i64 0, .int .i64 0] 24 ?_; intro gr hg w0 hbox hb; have HB0 := Aside0.mk hb; have BK0 := Aside0.mk hbox; have HG : Aside0 (w.heap.size ≤ gr) := ⟨by omega⟩; clear hb hbox hg) | (go_at_call 22; refine (HC22.out _ HB0.out).mono ?_; rintro e w1 ⟨rfl, hb1⟩; have HB1 := Aside0.mk (below_step HB0.out hb1); have hk1 := blk_below BK0.out hb1; have BK1 := Aside0.mk hk1; obtain ⟨z0, z1, z2, z3, z4, z5, z6, z7, z8, z9, z10, z11, z12, z13⟩ := blk7 hk1; clear hb1 hk1))
      refine bodyPost_ret (results_ctt rfl _ _ gr 24 #[.int .i64 0, .int .i64 0, .string (⟨#[]⟩ : ByteArray), .string (⟨#[]⟩ : ByteArray), .int .i64 0, .int .i64 0, .int .i64 0] (0, 0) _ rfl (set7 BK1.out) Try.underlying24 rfl (by kernel_rfl)) rfl ?_
      exact ⟨rfl, bel7 HB1.out HG.out⟩
    · rw [if_neg hsz] at h
      have dsz : decide ((data.size : Int) > 65536) = false := decide_eq_false hsz
      obtain ⟨⟨s1, s2, s3⟩, h45, h⟩ := Option.bind_eq_some_iff.mp h
      obtain ⟨⟨t1, t2, t3, t4, t5, t6, t7, t8, t9, t10, t11⟩, h44, h⟩ := Option.bind_eq_some_iff.mp h
      replace h : (if (t8 && okB ⟨t1, t2, t3, t4, t5, t6, t7⟩) = true then (strings_CutPrefix.f data (strOfNums (pack (headB cs ⟨t1, t2, t3, t4, t5, t6, t7⟩)))).bind fun u => if u.2 = true then some (t1, t2, t3, t4, t5, t6, t7, u.1, 0) else noExp 10 else noExp 10) = some (r1, r2, r3, r4, r5, r6, r7, r8, r9) := h
      have H45 := Aside0.mk h45
      have H44 := Aside0.mk h44
      have HH := Aside0.mk h
      clear h h44 h45 hsz
      go_enter Try.func24, Try.ntmps24
      go_upto_region 6 with (first | ((with_reducible refine gate_dst (N := 4) rfl ?_); refine bx_ 4 #[.int .i64 0, .int .i64 0, .string (⟨#[]⟩ : ByteArray), .string (⟨#[]⟩ : ByteArray), .int .i64 0, .int .i64 0, .int .i64 0] 24 ?_; intro gr hg w0 hbox hb; have HB0 := Aside0.mk hb; have BK0 := Aside0.mk hbox; have HG : Aside0 (w.heap.size ≤ gr) := ⟨by omega⟩; clear hb hbox hg) | (go_at_call 22; refine (HC22.out _ HB0.out).mono ?_; rintro e w1 ⟨rfl, hb1⟩; have HB1 := Aside0.mk (below_step HB0.out hb1); have BK1 := Aside0.mk (blk_below BK0.out hb1); clear hb1) | (go_at_call 45; refine (bitio_NewReader.calls data s1 s2 s3 w _ HB1.out H45.out).mono ?_; rintro e w2 ⟨g, rfl, hI2, hB2, hb2⟩; have HI2 := Aside0.mk hI2; have HB2 := Aside0.mk hB2; have BK2 := Aside0.mk (blk_below BK1.out hb2); clear hI2 hB2 hb2) | (go_at_call 44; refine (compress_read.calls 1000 A c cs g s1 s2 s3 t1 t2 t3 t4 t5 t6 t7 t8 t9 t10 t11 w _ HI2.out HB2.out (Kd.C_foot_came k26_heap HR.out HB2.out HI2.out.2) HC.out H44.out).mono ?_; rintro e w3 ⟨rfl, hI3, hB3, hk3⟩; have HB3 := Aside0.mk hB3; have BK3 := Aside0.mk (hk3.blk BK2.out (by intro e9; have h1 := BK2.out; have h2 := HI2.out.1; rw [e9, h2] at h1; injection h1 with h1; injection h1 with h1 h3 h4; exact absurd h3 (by decide)) (by simp)); clear hI3 hB3 hk3) | ((with_reducible refine gate_dst (N := 7) rfl ?_); refine bx_ 7 #[.int .i64 0, .int .i64 0, .string (⟨#[]⟩ : ByteArray), .string (⟨#[]⟩ : ByteArray), .int .i64 0, .int .i64 0, .int .i64 0] 24 ?_; intro gh hg w4 hbox hb; have HB4 := Aside0.mk (below_step HB3.out hb); have BR4 := Aside0.mk (blk_below BK3.out hb); have BH4 := Aside0.mk hbox; have HGH : Aside0 (w.heap.size ≤ gh ∧ gr ≠ gh) := ⟨⟨by have := HB3.out.size; omega, by have := blk_lt BK3.out; omega⟩⟩; obtain ⟨z0, z1, z2, z3, z4, z5, z6, z7, z8, z9, z10, z11, z12, z13⟩ := blk7 hbox; clear hb hbox hg))
      have hBH := set7 (b0 := (.int .i64 t1)) (b1 := (.int .i64 t2)) (b2 := (.string t3)) (b3 := (.string t4)) (b4 := (.int .i64 t5)) (b5 := (.int .i64 t6)) (b6 := (.int .i64 t7)) BH4.out
      have hBR := far7 (b0 := (.int .i64 t1)) (b1 := (.int .i64 t2)) (b2 := (.string t3)) (b3 := (.string t4)) (b4 := (.int .i64 t5)) (b5 := (.int .i64 t6)) (b6 := (.int .i64 t7)) BR4.out HGH.out.2
      have hBB := bel7 (b0 := (.int .i64 t1)) (b1 := (.int .i64 t2)) (b2 := (.string t3)) (b3 := (.string t4)) (b4 := (.int .i64 t5)) (b5 := (.int .i64 t6)) (b6 := (.int .i64 t7)) HB4.out HGH.out.1
      generalize (((((((w4.setCell ⟨gh, 0, none⟩ (.int .i64 t1)).setCell ⟨gh, 1, none⟩ (.int .i64 t2)).setCell ⟨gh, 2, none⟩ (.string t3)).setCell ⟨gh, 3, none⟩ (.string t4)).setCell ⟨gh, 4, none⟩ (.int .i64 t5)).setCell ⟨gh, 5, none⟩ (.int .i64 t6)).setCell ⟨gh, 6, none⟩ (.int .i64 t7)) = w5 at hBH hBR hBB ⊢
      have BH5 := Aside0.mk hBH
      have BR5 := Aside0.mk hBR
      have HB5 := Aside0.mk hBB
      clear hBH hBR hBB BH4 BR4 HB4 z0 z1 z2 z3 z4 z5 z6 z7 z8 z9 z10 z11 z12 z13 HB3 HB2 HB1 HB0 BK0 BK1 BK2 BK3 HI2 HC22 H44 H45
      have HK : Aside0 (∀ W, Calls Try.prog 20 #[.agg #[.int .i64 t1, .int .i64 t2, .string t3, .string t4, .int .i64 t5, .int .i64 t6, .int .i64 t7]] W fun e w' => e = .returned (.int .i64 (if okB ⟨t1, t2, t3, t4, t5, t6, t7⟩ = true then 0 else 1)) ∧ Below W.heap.size W w') := ⟨fun W => compress_Check.calls 1 t1 t2 t3 t4 t5 t6 t7 _ W (check_eq 0 t1 t2 t3 t4 t5 t6 t7)⟩
      cases t8 with
      | false =>
        obtain ⟨h⟩ := HH
        rw [Bool.false_and, if_neg (by decide)] at h
        simp only [noExp, Option.some.injEq, Prod.mk.injEq] at h
        obtain ⟨rfl, rfl, rfl, rfl, rfl, rfl, rfl, rfl, rfl⟩ := h
        obtain ⟨r_0, r_1, r_2, r_3, r_4, r_5, r_6, r_7, r_8, r_9, r_10, r_11, r_12, r_13⟩ := blk7 BR5.out
        go_wp2_with fail
        refine bodyPost_ret (results_ctt rfl _ _ gr 24 #[.int .i64 0, .int .i64 0, .string (⟨#[]⟩ : ByteArray), .string (⟨#[]⟩ : ByteArray), .int .i64 0, .int .i64 0, .int .i64 0] (0, 0) _ rfl (set7 BR5.out) Try.underlying24 rfl (by kernel_rfl)) rfl ?_
        exact ⟨rfl, bel7 HB5.out HG.out⟩
      | true =>
        obtain ⟨h⟩ := HH
        rw [Bool.true_and] at h
        by_cases ho : okB ⟨t1, t2, t3, t4, t5, t6, t7⟩ = true
        · rw [if_pos ho] at h HK
          have HO := Aside0.mk ((okB_iff _).mp ho)
          obtain ⟨⟨u1, u2⟩, h46, h⟩ := Option.bind_eq_some_iff.mp h
          replace h : (if u2 = true then some (t1, t2, t3, t4, t5, t6, t7, u1, 0) else noExp 10) = some (r1, r2, r3, r4, r5, r6, r7, r8, r9) := h
          have H46 := Aside0.mk h46
          clear ho h46
          obtain ⟨y_0, y_1, y_2, y_3, y_4, y_5, y_6, y_7, y_8, y_9, y_10, y_11, y_12, y_13⟩ := blk7 BH5.out
          cases u2 with
          | false =>
            rw [if_neg (by decide)] at h
            simp only [noExp, Option.some.injEq, Prod.mk.injEq] at h
            obtain ⟨rfl, rfl, rfl, rfl, rfl, rfl, rfl, rfl, rfl⟩ := h
            go_wp2_with (first | (go_at_call 20; refine (HK.out _).mono ?_; rintro e w6 ⟨rfl, hb6⟩; have HB6 := Aside0.mk (below_step HB5.out hb6); have BR6 := Aside0.mk (blk_below BR5.out hb6); have BH6 := Aside0.mk (blk_below BH5.out hb6); obtain ⟨x_0, x_1, x_2, x_3, x_4, x_5, x_6, x_7, x_8, x_9, x_10, x_11, x_12, x_13⟩ := blk7 BH6.out; clear hb6) | (go_at_call 34; refine (write_calls A c cs ⟨t1, t2, t3, t4, t5, t6, t7⟩ _ (Kd.C_below HR.out HB6.out) HC.out (ctx_ok H1.out).1 HO.out).mono ?_; rintro e w7 ⟨p, rfl, hp, hw7, hb7⟩; have HW7 := Aside0.mk hw7; have HB7 := Aside0.mk (below_step HB6.out hb7); have HBq := Aside0.mk hb7; have HP := Aside0.mk hp; have BR7 := Aside0.mk (blk_below BR6.out hb7); have BX7 := Aside0.mk (blk_below BH6.out hb7); clear hw7 hb7 hp) | (go_at_call 37; refine (bytes_calls w6 p _ _ HP.out HBq.out HW7.out).mono ?_; rintro e w8 ⟨rfl, rfl⟩) | (go_at_call 46; refine (strings_CutPrefix.calls _ _ _ _ _ H46.out).mono ?_; rintro e w9 ⟨rfl, ⟨nd, rfl⟩⟩; have hbn := pw_below_drewN (Below.refl w7.heap.size w7) nd; have HB8 := Aside0.mk (below_step HB7.out hbn); have BR8 := Aside0.mk (blk_below BR7.out hbn); have BH8 := Aside0.mk (blk_below BX7.out hbn); obtain ⟨a_0, a_1, a_2, a_3, a_4, a_5, a_6, a_7, a_8, a_9, a_10, a_11, a_12, a_13⟩ := blk7 BR8.out; obtain ⟨c_0, c_1, c_2, c_3, c_4, c_5, c_6, c_7, c_8, c_9, c_10, c_11, c_12, c_13⟩ := blk7 BH8.out; clear hbn))
            refine bodyPost_ret (results_ctt rfl _ _ gr 24 #[.int .i64 0, .int .i64 0, .string (⟨#[]⟩ : ByteArray), .string (⟨#[]⟩ : ByteArray), .int .i64 0, .int .i64 0, .int .i64 0] (0, 0) _ rfl (set7 BR8.out) Try.underlying24 rfl (by kernel_rfl)) rfl ?_
            exact ⟨rfl, bel7 HB8.out HG.out⟩
          | true =>
            rw [if_pos rfl] at h
            simp only [Option.some.injEq, Prod.mk.injEq] at h
            obtain ⟨rfl, rfl, rfl, rfl, rfl, rfl, rfl, rfl, rfl⟩ := h
            go_wp2_with (first | (go_at_call 20; refine (HK.out _).mono ?_; rintro e w6 ⟨rfl, hb6⟩; have HB6 := Aside0.mk (below_step HB5.out hb6); have BR6 := Aside0.mk (blk_below BR5.out hb6); have BH6 := Aside0.mk (blk_below BH5.out hb6); obtain ⟨x_0, x_1, x_2, x_3, x_4, x_5, x_6, x_7, x_8, x_9, x_10, x_11, x_12, x_13⟩ := blk7 BH6.out; clear hb6) | (go_at_call 34; refine (write_calls A c cs ⟨t1, t2, t3, t4, t5, t6, t7⟩ _ (Kd.C_below HR.out HB6.out) HC.out (ctx_ok H1.out).1 HO.out).mono ?_; rintro e w7 ⟨p, rfl, hp, hw7, hb7⟩; have HW7 := Aside0.mk hw7; have HB7 := Aside0.mk (below_step HB6.out hb7); have HBq := Aside0.mk hb7; have HP := Aside0.mk hp; have BR7 := Aside0.mk (blk_below BR6.out hb7); have BX7 := Aside0.mk (blk_below BH6.out hb7); clear hw7 hb7 hp) | (go_at_call 37; refine (bytes_calls w6 p _ _ HP.out HBq.out HW7.out).mono ?_; rintro e w8 ⟨rfl, rfl⟩) | (go_at_call 46; refine (strings_CutPrefix.calls _ _ _ _ _ H46.out).mono ?_; rintro e w9 ⟨rfl, ⟨nd, rfl⟩⟩; have hbn := pw_below_drewN (Below.refl w7.heap.size w7) nd; have HB8 := Aside0.mk (below_step HB7.out hbn); have BR8 := Aside0.mk (blk_below BR7.out hbn); have BH8 := Aside0.mk (blk_below BX7.out hbn); obtain ⟨a_0, a_1, a_2, a_3, a_4, a_5, a_6, a_7, a_8, a_9, a_10, a_11, a_12, a_13⟩ := blk7 BR8.out; obtain ⟨c_0, c_1, c_2, c_3, c_4, c_5, c_6, c_7, c_8, c_9, c_10, c_11, c_12, c_13⟩ := blk7 BH8.out; clear hbn))
            refine bodyPost_ret (results_ctt rfl _ _ gr 24 #[.int .i64 t1, .int .i64 t2, .string t3, .string t4, .int .i64 t5, .int .i64 t6, .int .i64 t7] (0, 0) _ rfl (set7 BR8.out) Try.underlying24 rfl (by kernel_rfl)) rfl ?_
            exact ⟨rfl, bel7 HB8.out HG.out⟩
        · rw [if_neg ho] at h HK
          simp only [noExp, Option.some.injEq, Prod.mk.injEq] at h
          obtain ⟨rfl, rfl, rfl, rfl, rfl, rfl, rfl, rfl, rfl⟩ := h
          clear ho
          obtain ⟨y_0, y_1, y_2, y_3, y_4, y_5, y_6, y_7, y_8, y_9, y_10, y_11, y_12, y_13⟩ := blk7 BH5.out
          go_wp2_with (go_at_call 20; refine (HK.out _).mono ?_; rintro e w6 ⟨rfl, hb6⟩; have HB6 := Aside0.mk (below_step HB5.out hb6); have BR6 := Aside0.mk (blk_below BR5.out hb6); obtain ⟨x_0, x_1, x_2, x_3, x_4, x_5, x_6, x_7, x_8, x_9, x_10, x_11, x_12, x_13⟩ := blk7 BR6.out; clear hb6)
          refine bodyPost_ret (results_ctt rfl _ _ gr 24 #[.int .i64 0, .int .i64 0, .string (⟨#[]⟩ : ByteArray), .string (⟨#[]⟩ : ByteArray), .int .i64 0, .int .i64 0, .int .i64 0] (0, 0) _ rfl (set7 BR6.out) Try.underlying24 rfl (by kernel_rfl)) rfl ?_
          exact ⟨rfl, bel7 HB6.out HG.out⟩
  · rw [if_neg ht] at h
    simp only [noExp, Option.some.injEq, Prod.mk.injEq] at h
    obtain ⟨rfl, rfl, rfl, rfl, rfl, rfl, rfl, rfl, rfl⟩ := h
    have hnt : (t == 0) = false := by simpa using ht
    have hnt2 : (t != 0) = true := by simpa using ht
    clear ht
    go_enter Try.func24, Try.ntmps24

    go_wp2_with (first | ((with_reducible refine gate_dst (N := 4) rfl ?_); refine bx_ 4 #[.int .i64 0, .int .i64 0, .string (⟨#[]⟩ : ByteArray), .string (⟨#[]⟩ : ByteArray), .int .i64 0, .int .i64 0, .int .i64 0] 24 ?_; intro gr hg w0 hbox hb; have HB0 := Aside0.mk hb; have BK0 := Aside0.mk hbox; have HG : Aside0 (w.heap.size ≤ gr) := ⟨by omega⟩; clear hb hbox hg) | (go_at_call 22; refine (HC22.out _ HB0.out).mono ?_; rintro e w1 ⟨rfl, hb1⟩; have HB1 := Aside0.mk (below_step HB0.out hb1); have hk1 := blk_below BK0.out hb1; have BK1 := Aside0.mk hk1; obtain ⟨z0, z1, z2, z3, z4, z5, z6, z7, z8, z9, z10, z11, z12, z13⟩ := blk7 hk1; clear hb1 hk1))
    refine bodyPost_ret (results_ctt rfl _ _ gr 24 #[.int .i64 0, .int .i64 0, .string (⟨#[]⟩ : ByteArray), .string (⟨#[]⟩ : ByteArray), .int .i64 0, .int .i64 0, .int .i64 0] (0, 0) _ rfl (set7 BK1.out) Try.underlying24 rfl (by kernel_rfl)) rfl ?_
    exact ⟨rfl, bel7 HB1.out HG.out⟩
end Go.Proofs.Ytmbbijhppgkdfaa.P14
