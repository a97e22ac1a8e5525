/- hopmeshref14.write: the bits of a header. -/
import Derived.Test.YtmbbijhppgkdfaaGraddr
import Derived.Test.YtmbbijhppgkdfaaGcls
namespace Go.Proofs.Ytmbbijhppgkdfaa.P14
open Go.RowKit Go.Proofs.YtmbbijhppgkdfaaW.PrintWords Go.Proofs.YtmbbijhppgkdfaaW.PrintLast Go.Proofs.YtmbbijhppgkdfaaW.PrintMore
attribute [local go_sem] max2_int min2_int max_two min_two max_three min_three max_four min_four
set_option linter.unusedVariables false
set_option linter.unusedSimpArgs false

theorem wr2_drew {w0 w : World} {p : Nat} {l : List Bool} (h : Wr2 w0 p l w) (n : Nat) : Wr2 w0 p l (w.drewN n) := h.step (pw_below_drewN (Below.refl _ _) n)
theorem un2_calls (width : Nat) (v : Int) (w0 : World) (p : Nat) (l : List Bool) (W w : World) (hp : w0.heap.size ≤ p) (hWr : Wr2 w0 p l w) (hE : Eff w0 p W w) (hw : 1 ≤ width ∧ width ≤ 61) (h0 : 0 ≤ v) (h1 : v < 2 ^ width) (hl : l.length ≤ 200000) :
    Calls Try.prog 74 #[.pointer (some ⟨p, 0, none⟩), .int .i64 (width : Int), .int .i64 v] w (WPost2 w0 p (l ++ bI width v) W) := by
  have e : ((v.toNat : Nat) : Int) = v := Int.toNat_of_nonneg h0
  have h := uns2_calls width v.toNat w0 p l w hp hE.below hWr hw ((Int.toNat_lt h0).mpr (by simpa using h1)) (by omega)
  rw [e] at h
  exact h.mono fun e w' k => WPost2.of hE k
theorem fl2_calls (b : Bool) (w0 : World) (p : Nat) (l : List Bool) (W w : World) (hp : w0.heap.size ≤ p) (hWr : Wr2 w0 p l w) (hE : Eff w0 p W w) (hl : l.length ≤ 200000) :
    Calls Try.prog 73 #[.pointer (some ⟨p, 0, none⟩), .bool b] w (WPost2 w0 p (l ++ [b]) W) :=
  (flag2_calls b w0 p l w hp hE.below hWr (by omega)).mono fun e w' k => WPost2.of hE k
theorem ad2_calls (w0 : World) (p : Nat) (l : List Bool) (W w : World) (A0 : Option Addr) (c0 : Nat) (cs : List S26) (a : ByteArray) (hp : w0.heap.size ≤ p) (hWr : Wr2 w0 p l w) (hE : Eff w0 p W w) (hr : Kd.C k26 w0 A0 cs.length cs) (hc : cs.length ≤ c0) (hco : conOk cs = true) (ha : a.size = 4) (hl : l.length ≤ 100000) :
    Calls Try.prog 75 #[.pointer (some ⟨p, 0, none⟩), .slice A0 cs.length c0, .string a] w (WPost2 w0 p (l ++ addrB cs a) W) :=
  (addr2_calls w0 p l w A0 c0 cs a hp hE.below hWr hr hc hco ha hl).mono fun e w' k => WPost2.of hE k
theorem Eff.keep2 {w0 W W' : World} {p : Nat} (e : Eff w0 p W W') {g t : Nat} {vs : Array Value} (hg : W.heap[g]? = some (.cells vs t (0, 0))) (hne : g ≠ p) (h5 : t ≠ 5) : W'.heap[g]? = some (.cells vs t (0, 0)) :=
  e.far g _ hg hne fun cs ec => by injection ec with _ h2 _; exact h5 h2
theorem within_at (a : Int) (m : Int) (b : Bool) (W : World) (h : b = decide (0 ≤ a ∧ a ≤ m)) : Calls Try.prog 42 #[.int .i64 a, .int .i64 m] W fun e w' => e = .returned (.bool b) ∧ Drawn0 W w' :=
  hopmeshref14_within.calls a m b W (by rw [within_eq, h])
theorem near_iff (a : Int) : nearI a = decide (0 ≤ a - 61616 ∧ a - 61616 ≤ 15) := by unfold nearI; rw [decide_eq_decide]; omega
theorem far_iff (a : Int) : farI a = decide (0 ≤ a - 61440 ∧ a - 61440 ≤ 255) := by unfold farI; rw [decide_eq_decide]; omega
set_option maxRecDepth 100000 in
set_option maxHeartbeats 6400000 in
theorem write2_calls (A : Option Addr) (c : Nat) (cs : List S26) (h : S24) (w : World) (hr : Kd.C k26 w A cs.length cs) (hc : cs.length ≤ c) (hco : conOk cs = true) (ok : okH h) :
    Calls Try.prog 38 #[.slice A cs.length c, .agg #[.int .i64 h.f0, .int .i64 h.f1, .string h.f2, .string h.f3, .int .i64 h.f4, .int .i64 h.f5, .int .i64 h.f6]] w fun e w' => ∃ p, e = .returned (.pointer (some ⟨p, 0, none⟩)) ∧ w.heap.size ≤ p ∧ Wr2 w p (headB cs h) w' ∧ Below w.heap.size w w' := by
  have hu24 := Try.underlying24
  obtain ⟨a0, a1, a2, a3, a4, a5, a6⟩ := h
  obtain ⟨⟨o0, p0⟩, ⟨o1, p1⟩, o2, o3, ⟨o4, p4⟩, ⟨o5, p5⟩, ⟨o6, p6⟩⟩ := ok
  dsimp only at o0 p0 o1 p1 o2 o3 o4 p4 o5 p5 o6 p6
  have HR := Aside0.mk hr
  have HC := Aside0.mk hc
  have HCO := Aside0.mk hco
  have HO := Aside0.mk (And.intro o2 o3)
  have HEAD : Aside0 (headB cs ⟨a0, a1, a2, a3, a4, a5, a6⟩ = clsB a0 ++ limB a1 ++ addrB cs a2 ++ addrB cs a3 ++ portsB a4 a5 ++ lenB a6) := ⟨rfl⟩
  have HL1 := Aside0.mk (clsB_len a0)
  have HL2 := Aside0.mk (limB_len a1)
  have HL3 : Aside0 ((addrB cs a2).length ≤ 36 ∧ (addrB cs a3).length ≤ 36) := ⟨by have := addrB_len cs a2; have := addrB_len cs a3; omega⟩
  have HL4 := Aside0.mk (portsB_len a4 a5)
  clear hr hc hco o2 o3
  have HB0 := Aside0.mk (below_alloc (Below.refl w.heap.size w) (.cells #[.int .i64 a0, .int .i64 a1, .string a2, .string a3, .int .i64 a4, .int .i64 a5, .int .i64 a6] 24 (0, 0)))
  go_enter Try.func38, Try.ntmps38
  go_wp2_with fail
  refine (new2_calls w _ HB0.out).mono ?_
  rintro e w1 ⟨p, rfl, hp, hw1, hb1⟩
  have BH1 := Aside0.mk (blk_below (blk_new w (.cells #[.int .i64 a0, .int .i64 a1, .string a2, .string a3, .int .i64 a4, .int .i64 a5, .int .i64 a6] 24 (0, 0))) hb1)
  have hsz : (w.alloc (.cells #[.int .i64 a0, .int .i64 a1, .string a2, .string a3, .int .i64 a4, .int .i64 a5, .int .i64 a6] 24 (0, 0))).heap.size = w.heap.size + 1 := by simp
  have HP : Aside0 (w.heap.size ≤ p) := ⟨by omega⟩
  have HG : Aside0 (w.heap.size ≠ p) := ⟨by omega⟩
  have HW1 := Aside0.mk hw1
  have HE1 := Aside0.mk (Eff.refl (p := p) (below_step HB0.out hb1))
  clear hp hw1 hb1 hsz HB0
  obtain ⟨gh, hgh⟩ : ∃ gh, gh = w.heap.size := ⟨_, rfl⟩
  rw [← hgh] at BH1 HG
  have HGH : Aside0 (w.heap.size = gh) := ⟨hgh.symm⟩
  have hgs : w.heap.size = gh := hgh.symm
  clear hgh
  have z0_1 : w1.cell? ⟨gh, 0, none⟩ = some (.int .i64 a0) := (blk_cell BH1.out 0).trans rfl
  obtain ⟨B0, hB0⟩ : ∃ b, (a0 != 0) = b := ⟨_, rfl⟩
  have HBB := Aside0.mk hB0

  go_wp2_with fail
  refine (fl2_calls B0 w p [] w1 _ HP.out (by repeat (first | exact HW1.out | refine wr2_drew ?_ _)) (by repeat (first | exact HE1.out | refine eff_drew ?_ _)) (by have := HL1.out; have := HL2.out; have := HL3.out; have := HL4.out; first | (simp [bI_len]; done) | (simp [bI_len]; omega))).mono ?_
  rintro e v2 ⟨rfl, hw2, he2⟩
  have HW2 := Aside0.mk hw2
  have HE2 := Aside0.mk he2
  clear hw2 he2
  have z0_2 : v2.cell? ⟨gh, 0, none⟩ = some (.int .i64 a0) := (blk_cell (HE2.out.keep2 BH1.out HG.out (by decide)) 0).trans rfl
  clear z0_1
  go_upto_if 14 with fail
  go_cut [] from 15 to 18 (fun wc => Aside0 (Wr2 w p (clsB a0) wc) ∧ Aside0 (Eff w p w1 wc))
  case first =>
    have HX : Aside0 (clsB a0 = if a0 = 0 then [false] else true :: bI 8 a0) := ⟨rfl⟩
    by_cases h0 : a0 = 0
    · obtain rfl : B0 = false := HBB.out.symm.trans (by simp [h0])
      have H0 := Aside0.mk h0
      clear hB0 h0
      go_wp2_with fail
      go_meet
      case rel => exact ⟨⟨by rw [HX.out, if_pos H0.out]; have := HW2.out; simpa [bI] using this⟩, HE2⟩
    · obtain rfl : B0 = true := HBB.out.symm.trans (by simp [h0])
      have H0 := Aside0.mk h0
      clear hB0 h0
      go_wp2_with fail
      refine (un2_calls 8 (a0) w p ([] ++ [true]) w1 _ HP.out (by repeat (first | exact HW2.out | refine wr2_drew ?_ _)) (by repeat (first | exact HE2.out | refine eff_drew ?_ _)) (by omega) (by omega) (by omega) (by have := HL1.out; have := HL2.out; have := HL3.out; have := HL4.out; first | (simp [bI_len]; done) | (simp [bI_len]; omega))).mono ?_
      rintro e v3 ⟨rfl, hw3, he3⟩
      have HW3 := Aside0.mk hw3
      have HE3 := Aside0.mk he3
      clear hw3 he3
      go_wp2_with fail
      go_meet
      case rel => exact ⟨⟨by rw [HX.out, if_neg H0.out]; have := HW3.out; simpa [bI] using this⟩, HE3⟩
  case rest =>
    clear HW2 HE2 z0_2 v2 hB0 HW1 HE1
    obtain ⟨HW, HE⟩ := hcut
    have z1_ : wc.cell? ⟨gh, 1, none⟩ = some (.int .i64 a1) := (blk_cell (HE.out.keep2 BH1.out HG.out (by decide)) 1).trans rfl
    go_upto_block 0 with fail
    go_cut [] from 21 to 38 (fun wc => Aside0 (Wr2 w p (clsB a0 ++ limB a1) wc) ∧ Aside0 (Eff w p w1 wc))
    case first =>
      have HX : Aside0 (limB a1 = if a1 = 1 then bI 2 1 else if a1 = 64 then bI 2 2 else if a1 = 255 then bI 2 3 else bI 2 0 ++ bI 8 a1) := ⟨rfl⟩
      by_cases h1 : a1 = 1
      · have d1 : (a1 == 1) = true := by simp [h1]
        have H1 := Aside0.mk h1
        clear h1
        go_wp2_with fail
        refine (un2_calls 2 (1) w p (clsB a0) w1 _ HP.out (by repeat (first | exact HW.out | refine wr2_drew ?_ _)) (by repeat (first | exact HE.out | refine eff_drew ?_ _)) (by omega) (by omega) (by omega) (by have := HL1.out; have := HL2.out; have := HL3.out; have := HL4.out; first | (simp [bI_len]; done) | (simp [bI_len]; omega))).mono ?_
        rintro e v4 ⟨rfl, hw4, he4⟩
        have HW4 := Aside0.mk hw4
        have HE4 := Aside0.mk he4
        clear hw4 he4
        go_wp2_with fail
        go_meet
        case rel => exact ⟨⟨by rw [HX.out, if_pos H1.out]; have := HW4.out; simpa [bI] using this⟩, HE4⟩
      · have d1 : (a1 == 1) = false := by simp [h1]
        have H1 := Aside0.mk h1
        clear h1
        by_cases h64 : a1 = 64
        · have d64 : (a1 == 64) = true := by simp [h64]
          have H64 := Aside0.mk h64
          clear h64
          go_wp2_with fail
          refine (un2_calls 2 (2) w p (clsB a0) w1 _ HP.out (by repeat (first | exact HW.out | refine wr2_drew ?_ _)) (by repeat (first | exact HE.out | refine eff_drew ?_ _)) (by omega) (by omega) (by omega) (by have := HL1.out; have := HL2.out; have := HL3.out; have := HL4.out; first | (simp [bI_len]; done) | (simp [bI_len]; omega))).mono ?_
          rintro e v5 ⟨rfl, hw5, he5⟩
          have HW5 := Aside0.mk hw5
          have HE5 := Aside0.mk he5
          clear hw5 he5
          go_wp2_with fail
          go_meet
          case rel => exact ⟨⟨by rw [HX.out, if_neg H1.out, if_pos H64.out]; have := HW5.out; simpa [bI] using this⟩, HE5⟩
        · have d64 : (a1 == 64) = false := by simp [h64]
          have H64 := Aside0.mk h64
          clear h64
          by_cases h255 : a1 = 255
          · have d255 : (a1 == 255) = true := by simp [h255]
            have H255 := Aside0.mk h255
            clear h255
            go_wp2_with fail
            refine (un2_calls 2 (3) w p (clsB a0) w1 _ HP.out (by repeat (first | exact HW.out | refine wr2_drew ?_ _)) (by repeat (first | exact HE.out | refine eff_drew ?_ _)) (by omega) (by omega) (by omega) (by have := HL1.out; have := HL2.out; have := HL3.out; have := HL4.out; first | (simp [bI_len]; done) | (simp [bI_len]; omega))).mono ?_
            rintro e v6 ⟨rfl, hw6, he6⟩
            have HW6 := Aside0.mk hw6
            have HE6 := Aside0.mk he6
            clear hw6 he6
            go_wp2_with fail
            go_meet
            case rel => exact ⟨⟨by rw [HX.out, if_neg H1.out, if_neg H64.out, if_pos H255.out]; have := HW6.out; simpa [bI] using this⟩, HE6⟩
          · have d255 : (a1 == 255) = false := by simp [h255]
            have H255 := Aside0.mk h255
            clear h255
            go_wp2_with fail
            refine (un2_calls 2 (0) w p (clsB a0) w1 _ HP.out (by repeat (first | exact HW.out | refine wr2_drew ?_ _)) (by repeat (first | exact HE.out | refine eff_drew ?_ _)) (by omega) (by omega) (by omega) (by have := HL1.out; have := HL2.out; have := HL3.out; have := HL4.out; first | (simp [bI_len]; done) | (simp [bI_len]; omega))).mono ?_
            rintro e v7 ⟨rfl, hw7, he7⟩
            have HW7 := Aside0.mk hw7
            have HE7 := Aside0.mk he7
            clear hw7 he7
            have z1_7 : v7.cell? ⟨gh, 1, none⟩ = some (.int .i64 a1) := (blk_cell (HE7.out.keep2 BH1.out HG.out (by decide)) 1).trans rfl
            go_wp2_with fail
            refine (un2_calls 8 (a1) w p ((clsB a0) ++ bI 2 (0)) w1 _ HP.out (by repeat (first | exact HW7.out | refine wr2_drew ?_ _)) (by repeat (first | exact HE7.out | refine eff_drew ?_ _)) (by omega) (by omega) (by omega) (by have := HL1.out; have := HL2.out; have := HL3.out; have := HL4.out; first | (simp [bI_len]; done) | (simp [bI_len]; omega))).mono ?_
            rintro e v8 ⟨rfl, hw8, he8⟩
            have HW8 := Aside0.mk hw8
            have HE8 := Aside0.mk he8
            clear hw8 he8
            go_wp2_with fail
            go_meet
            case rel => exact ⟨⟨by rw [HX.out, if_neg H1.out, if_neg H64.out, if_neg H255.out]; have := HW8.out; simpa [bI] using this⟩, HE8⟩
    case rest =>
      clear HW HE z1_
      obtain ⟨HW, HE⟩ := hcut
      have z2_ : wc.cell? ⟨gh, 2, none⟩ = some (.string a2) := (blk_cell (HE.out.keep2 BH1.out HG.out (by decide)) 2).trans rfl
      go_wp2_with fail
      refine (ad2_calls w p (clsB a0 ++ limB a1) w1 _ A c cs a2 HP.out (by repeat (first | exact HW.out | refine wr2_drew ?_ _)) (by repeat (first | exact HE.out | refine eff_drew ?_ _)) HR.out HC.out HCO.out HO.out.1 (by have := HL1.out; have := HL2.out; have := HL3.out; have := HL4.out; first | (simp [bI_len]; done) | (simp [bI_len]; omega))).mono ?_
      rintro e v9 ⟨rfl, hw9, he9⟩
      have HW9 := Aside0.mk hw9
      have HE9 := Aside0.mk he9
      clear hw9 he9
      have z3_9 : v9.cell? ⟨gh, 3, none⟩ = some (.string a3) := (blk_cell (HE9.out.keep2 BH1.out HG.out (by decide)) 3).trans rfl
      go_wp2_with fail
      refine (ad2_calls w p ((clsB a0 ++ limB a1) ++ addrB cs a2) w1 _ A c cs a3 HP.out (by repeat (first | exact HW9.out | refine wr2_drew ?_ _)) (by repeat (first | exact HE9.out | refine eff_drew ?_ _)) HR.out HC.out HCO.out HO.out.2 (by have := HL1.out; have := HL2.out; have := HL3.out; have := HL4.out; first | (simp [bI_len]; done) | (simp [bI_len]; omega))).mono ?_
      rintro e v10 ⟨rfl, hw10, he10⟩
      have HW10 := Aside0.mk hw10
      have HE10 := Aside0.mk he10
      clear hw10 he10
      have z4_10 : v10.cell? ⟨gh, 4, none⟩ = some (.int .i64 a4) := (blk_cell (HE10.out.keep2 BH1.out HG.out (by decide)) 4).trans rfl
      have z5_10 : v10.cell? ⟨gh, 5, none⟩ = some (.int .i64 a5) := (blk_cell (HE10.out.keep2 BH1.out HG.out (by decide)) 5).trans rfl
      go_upto_block 1 with fail
      go_cut [] from 49 to 109 (fun wc => Aside0 (Wr2 w p (clsB a0 ++ limB a1 ++ addrB cs a2 ++ addrB cs a3 ++ portsB a4 a5) wc) ∧ Aside0 (Eff w p w1 wc))
      case first =>
        have HX : Aside0 (portsB a4 a5 = if (nearI a4 && nearI a5) = true then bI 2 3 ++ bI 4 (a4 - 61616) ++ bI 4 (a5 - 61616) else if a4 = a5 then bI 2 1 ++ bI 16 a4 else if farI a4 = true then bI 2 2 ++ bI 8 (a4 - 61440) ++ bI 16 a5 else bI 2 0 ++ bI 16 a4 ++ bI 16 a5) := ⟨rfl⟩
        have hwa : wrap64 (a4 - 61616) = a4 - 61616 := by unfold wrap64; omega
        have hwb : wrap64 (a5 - 61616) = a5 - 61616 := by unfold wrap64; omega
        have hwf : wrap64 (a4 - 61440) = a4 - 61440 := by unfold wrap64; omega
        have HNA := Aside0.mk (fun W => within_at (a4 - 61616) 15 (nearI a4) W (near_iff a4))
        have HNB := Aside0.mk (fun W => within_at (a5 - 61616) 15 (nearI a5) W (near_iff a5))
        have HFA := Aside0.mk (fun W => within_at (a4 - 61440) 255 (farI a4) W (far_iff a4))
        have HNI : Aside0 ((nearI a4 = true → 61616 ≤ a4 ∧ a4 ≤ 61631) ∧ (nearI a5 = true → 61616 ≤ a5 ∧ a5 ≤ 61631) ∧ (farI a4 = true → 61440 ≤ a4 ∧ a4 ≤ 61695)) := ⟨⟨of_decide_eq_true, of_decide_eq_true, of_decide_eq_true⟩⟩
        generalize nearI a4 = na at HNA HX HNI
        generalize nearI a5 = nb at HNB HX HNI
        generalize farI a4 = fa at HFA HX HNI
        cases na with
        | true =>
          cases nb with
          | true =>
            obtain ⟨n1, n2⟩ := HNI.out.1 rfl
            obtain ⟨n3, n4⟩ := HNI.out.2.1 rfl
            go_wp2_with (first | (go_at_call 42; (with_reducible refine (HNA.out _).mono ?_); rintro e w' ⟨rfl, ⟨nd, rfl⟩⟩) | (go_at_call 42; (with_reducible refine (HNB.out _).mono ?_); rintro e w' ⟨rfl, ⟨nd, rfl⟩⟩) | (go_at_call 42; (with_reducible refine (HFA.out _).mono ?_); rintro e w' ⟨rfl, ⟨nd, rfl⟩⟩))
            refine (un2_calls 2 (3) w p (clsB a0 ++ limB a1 ++ addrB cs a2 ++ addrB cs a3) w1 _ HP.out (by repeat (first | exact HW10.out | refine wr2_drew ?_ _)) (by repeat (first | exact HE10.out | refine eff_drew ?_ _)) (by omega) (by omega) (by omega) (by have := HL1.out; have := HL2.out; have := HL3.out; have := HL4.out; first | (simp [bI_len]; done) | (simp [bI_len]; omega))).mono ?_
            rintro e v11 ⟨rfl, hw11, he11⟩
            have HW11 := Aside0.mk hw11
            have HE11 := Aside0.mk he11
            clear hw11 he11
            have z4_11 : v11.cell? ⟨gh, 4, none⟩ = some (.int .i64 a4) := (blk_cell (HE11.out.keep2 BH1.out HG.out (by decide)) 4).trans rfl
            have z5_11 : v11.cell? ⟨gh, 5, none⟩ = some (.int .i64 a5) := (blk_cell (HE11.out.keep2 BH1.out HG.out (by decide)) 5).trans rfl
            go_wp2_with fail
            refine (un2_calls 4 (a4 - 61616) w p ((clsB a0 ++ limB a1 ++ addrB cs a2 ++ addrB cs a3) ++ bI 2 (3)) w1 _ HP.out (by repeat (first | exact HW11.out | refine wr2_drew ?_ _)) (by repeat (first | exact HE11.out | refine eff_drew ?_ _)) (by omega) (by omega) (by omega) (by have := HL1.out; have := HL2.out; have := HL3.out; have := HL4.out; first | (simp [bI_len]; done) | (simp [bI_len]; omega))).mono ?_
            rintro e v12 ⟨rfl, hw12, he12⟩
            have HW12 := Aside0.mk hw12
            have HE12 := Aside0.mk he12
            clear hw12 he12
            have z4_12 : v12.cell? ⟨gh, 4, none⟩ = some (.int .i64 a4) := (blk_cell (HE12.out.keep2 BH1.out HG.out (by decide)) 4).trans rfl
            have z5_12 : v12.cell? ⟨gh, 5, none⟩ = some (.int .i64 a5) := (blk_cell (HE12.out.keep2 BH1.out HG.out (by decide)) 5).trans rfl
            go_wp2_with fail
            refine (un2_calls 4 (a5 - 61616) w p (((clsB a0 ++ limB a1 ++ addrB cs a2 ++ addrB cs a3) ++ bI 2 (3)) ++ bI 4 (a4 - 61616)) w1 _ HP.out (by repeat (first | exact HW12.out | refine wr2_drew ?_ _)) (by repeat (first | exact HE12.out | refine eff_drew ?_ _)) (by omega) (by omega) (by omega) (by have := HL1.out; have := HL2.out; have := HL3.out; have := HL4.out; first | (simp [bI_len]; done) | (simp [bI_len]; omega))).mono ?_
            rintro e v13 ⟨rfl, hw13, he13⟩
            have HW13 := Aside0.mk hw13
            have HE13 := Aside0.mk he13
            clear hw13 he13
            have z4_13 : v13.cell? ⟨gh, 4, none⟩ = some (.int .i64 a4) := (blk_cell (HE13.out.keep2 BH1.out HG.out (by decide)) 4).trans rfl
            have z5_13 : v13.cell? ⟨gh, 5, none⟩ = some (.int .i64 a5) := (blk_cell (HE13.out.keep2 BH1.out HG.out (by decide)) 5).trans rfl
            go_wp2_with fail
            go_meet
            case rel => exact ⟨⟨by rw [HX.out, if_pos (by simp)]; have := HW13.out; simpa [bI] using this⟩, HE13⟩
          | false =>
            by_cases hab : a4 = a5
            · have dab : (a4 == a5) = true := by simp [hab]
              have HQ := Aside0.mk hab
              clear hab
              go_wp2_with (first | (go_at_call 42; (with_reducible refine (HNA.out _).mono ?_); rintro e w' ⟨rfl, ⟨nd, rfl⟩⟩) | (go_at_call 42; (with_reducible refine (HNB.out _).mono ?_); rintro e w' ⟨rfl, ⟨nd, rfl⟩⟩) | (go_at_call 42; (with_reducible refine (HFA.out _).mono ?_); rintro e w' ⟨rfl, ⟨nd, rfl⟩⟩))
              refine (un2_calls 2 (1) w p (clsB a0 ++ limB a1 ++ addrB cs a2 ++ addrB cs a3) w1 _ HP.out (by repeat (first | exact HW10.out | refine wr2_drew ?_ _)) (by repeat (first | exact HE10.out | refine eff_drew ?_ _)) (by omega) (by omega) (by omega) (by have := HL1.out; have := HL2.out; have := HL3.out; have := HL4.out; first | (simp [bI_len]; done) | (simp [bI_len]; omega))).mono ?_
              rintro e v14 ⟨rfl, hw14, he14⟩
              have HW14 := Aside0.mk hw14
              have HE14 := Aside0.mk he14
              clear hw14 he14
              have z4_14 : v14.cell? ⟨gh, 4, none⟩ = some (.int .i64 a4) := (blk_cell (HE14.out.keep2 BH1.out HG.out (by decide)) 4).trans rfl
              have z5_14 : v14.cell? ⟨gh, 5, none⟩ = some (.int .i64 a5) := (blk_cell (HE14.out.keep2 BH1.out HG.out (by decide)) 5).trans rfl
              go_wp2_with fail
              refine (un2_calls 16 (a4) w p ((clsB a0 ++ limB a1 ++ addrB cs a2 ++ addrB cs a3) ++ bI 2 (1)) w1 _ HP.out (by repeat (first | exact HW14.out | refine wr2_drew ?_ _)) (by repeat (first | exact HE14.out | refine eff_drew ?_ _)) (by omega) (by omega) (by omega) (by have := HL1.out; have := HL2.out; have := HL3.out; have := HL4.out; first | (simp [bI_len]; done) | (simp [bI_len]; omega))).mono ?_
              rintro e v15 ⟨rfl, hw15, he15⟩
              have HW15 := Aside0.mk hw15
              have HE15 := Aside0.mk he15
              clear hw15 he15
              have z4_15 : v15.cell? ⟨gh, 4, none⟩ = some (.int .i64 a4) := (blk_cell (HE15.out.keep2 BH1.out HG.out (by decide)) 4).trans rfl
              have z5_15 : v15.cell? ⟨gh, 5, none⟩ = some (.int .i64 a5) := (blk_cell (HE15.out.keep2 BH1.out HG.out (by decide)) 5).trans rfl
              go_wp2_with fail
              go_meet
              case rel => exact ⟨⟨by rw [HX.out, if_neg (by simp), if_pos HQ.out]; have := HW15.out; simpa [bI] using this⟩, HE15⟩
            · have dab : (a4 == a5) = false := by simp [hab]
              have HQ := Aside0.mk hab
              clear hab
              cases fa with
              | true =>
                obtain ⟨n1, n2⟩ := HNI.out.2.2 rfl
                go_wp2_with (first | (go_at_call 42; (with_reducible refine (HNA.out _).mono ?_); rintro e w' ⟨rfl, ⟨nd, rfl⟩⟩) | (go_at_call 42; (with_reducible refine (HNB.out _).mono ?_); rintro e w' ⟨rfl, ⟨nd, rfl⟩⟩) | (go_at_call 42; (with_reducible refine (HFA.out _).mono ?_); rintro e w' ⟨rfl, ⟨nd, rfl⟩⟩))
                refine (un2_calls 2 (2) w p (clsB a0 ++ limB a1 ++ addrB cs a2 ++ addrB cs a3) w1 _ HP.out (by repeat (first | exact HW10.out | refine wr2_drew ?_ _)) (by repeat (first | exact HE10.out | refine eff_drew ?_ _)) (by omega) (by omega) (by omega) (by have := HL1.out; have := HL2.out; have := HL3.out; have := HL4.out; first | (simp [bI_len]; done) | (simp [bI_len]; omega))).mono ?_
                rintro e v16 ⟨rfl, hw16, he16⟩
                have HW16 := Aside0.mk hw16
                have HE16 := Aside0.mk he16
                clear hw16 he16
                have z4_16 : v16.cell? ⟨gh, 4, none⟩ = some (.int .i64 a4) := (blk_cell (HE16.out.keep2 BH1.out HG.out (by decide)) 4).trans rfl
                have z5_16 : v16.cell? ⟨gh, 5, none⟩ = some (.int .i64 a5) := (blk_cell (HE16.out.keep2 BH1.out HG.out (by decide)) 5).trans rfl
                go_wp2_with fail
                refine (un2_calls 8 (a4 - 61440) w p ((clsB a0 ++ limB a1 ++ addrB cs a2 ++ addrB cs a3) ++ bI 2 (2)) w1 _ HP.out (by repeat (first | exact HW16.out | refine wr2_drew ?_ _)) (by repeat (first | exact HE16.out | refine eff_drew ?_ _)) (by omega) (by omega) (by omega) (by have := HL1.out; have := HL2.out; have := HL3.out; have := HL4.out; first | (simp [bI_len]; done) | (simp [bI_len]; omega))).mono ?_
                rintro e v17 ⟨rfl, hw17, he17⟩
                have HW17 := Aside0.mk hw17
                have HE17 := Aside0.mk he17
                clear hw17 he17
                have z4_17 : v17.cell? ⟨gh, 4, none⟩ = some (.int .i64 a4) := (blk_cell (HE17.out.keep2 BH1.out HG.out (by decide)) 4).trans rfl
                have z5_17 : v17.cell? ⟨gh, 5, none⟩ = some (.int .i64 a5) := (blk_cell (HE17.out.keep2 BH1.out HG.out (by decide)) 5).trans rfl
                go_wp2_with fail
                refine (un2_calls 16 (a5) w p (((clsB a0 ++ limB a1 ++ addrB cs a2 ++ addrB cs a3) ++ bI 2 (2)) ++ bI 8 (a4 - 61440)) w1 _ HP.out (by repeat (first | exact HW17.out | refine wr2_drew ?_ _)) (by repeat (first | exact HE17.out | refine eff_drew ?_ _)) (by omega) (by omega) (by omega) (by have := HL1.out; have := HL2.out; have := HL3.out; have := HL4.out; first | (simp [bI_len]; done) | (simp [bI_len]; omega))).mono ?_
                rintro e v18 ⟨rfl, hw18, he18⟩
                have HW18 := Aside0.mk hw18
                have HE18 := Aside0.mk he18
                clear hw18 he18
                have z4_18 : v18.cell? ⟨gh, 4, none⟩ = some (.int .i64 a4) := (blk_cell (HE18.out.keep2 BH1.out HG.out (by decide)) 4).trans rfl
                have z5_18 : v18.cell? ⟨gh, 5, none⟩ = some (.int .i64 a5) := (blk_cell (HE18.out.keep2 BH1.out HG.out (by decide)) 5).trans rfl
                go_wp2_with fail
                go_meet
                case rel => exact ⟨⟨by rw [HX.out, if_neg (by simp), if_neg HQ.out, if_pos (by simp)]; have := HW18.out; simpa [bI] using this⟩, HE18⟩
              | false =>
                go_wp2_with (first | (go_at_call 42; (with_reducible refine (HNA.out _).mono ?_); rintro e w' ⟨rfl, ⟨nd, rfl⟩⟩) | (go_at_call 42; (with_reducible refine (HNB.out _).mono ?_); rintro e w' ⟨rfl, ⟨nd, rfl⟩⟩) | (go_at_call 42; (with_reducible refine (HFA.out _).mono ?_); rintro e w' ⟨rfl, ⟨nd, rfl⟩⟩))
                refine (un2_calls 2 (0) w p (clsB a0 ++ limB a1 ++ addrB cs a2 ++ addrB cs a3) w1 _ HP.out (by repeat (first | exact HW10.out | refine wr2_drew ?_ _)) (by repeat (first | exact HE10.out | refine eff_drew ?_ _)) (by omega) (by omega) (by omega) (by have := HL1.out; have := HL2.out; have := HL3.out; have := HL4.out; first | (simp [bI_len]; done) | (simp [bI_len]; omega))).mono ?_
                rintro e v19 ⟨rfl, hw19, he19⟩
                have HW19 := Aside0.mk hw19
                have HE19 := Aside0.mk he19
                clear hw19 he19
                have z4_19 : v19.cell? ⟨gh, 4, none⟩ = some (.int .i64 a4) := (blk_cell (HE19.out.keep2 BH1.out HG.out (by decide)) 4).trans rfl
                have z5_19 : v19.cell? ⟨gh, 5, none⟩ = some (.int .i64 a5) := (blk_cell (HE19.out.keep2 BH1.out HG.out (by decide)) 5).trans rfl
                go_wp2_with fail
                refine (un2_calls 16 (a4) w p ((clsB a0 ++ limB a1 ++ addrB cs a2 ++ addrB cs a3) ++ bI 2 (0)) w1 _ HP.out (by repeat (first | exact HW19.out | refine wr2_drew ?_ _)) (by repeat (first | exact HE19.out | refine eff_drew ?_ _)) (by omega) (by omega) (by omega) (by have := HL1.out; have := HL2.out; have := HL3.out; have := HL4.out; first | (simp [bI_len]; done) | (simp [bI_len]; omega))).mono ?_
                rintro e v20 ⟨rfl, hw20, he20⟩
                have HW20 := Aside0.mk hw20
                have HE20 := Aside0.mk he20
                clear hw20 he20
                have z4_20 : v20.cell? ⟨gh, 4, none⟩ = some (.int .i64 a4) := (blk_cell (HE20.out.keep2 BH1.out HG.out (by decide)) 4).trans rfl
                have z5_20 : v20.cell? ⟨gh, 5, none⟩ = some (.int .i64 a5) := (blk_cell (HE20.out.keep2 BH1.out HG.out (by decide)) 5).trans rfl
                go_wp2_with fail
                refine (un2_calls 16 (a5) w p (((clsB a0 ++ limB a1 ++ addrB cs a2 ++ addrB cs a3) ++ bI 2 (0)) ++ bI 16 (a4)) w1 _ HP.out (by repeat (first | exact HW20.out | refine wr2_drew ?_ _)) (by repeat (first | exact HE20.out | refine eff_drew ?_ _)) (by omega) (by omega) (by omega) (by have := HL1.out; have := HL2.out; have := HL3.out; have := HL4.out; first | (simp [bI_len]; done) | (simp [bI_len]; omega))).mono ?_
                rintro e v21 ⟨rfl, hw21, he21⟩
                have HW21 := Aside0.mk hw21
                have HE21 := Aside0.mk he21
                clear hw21 he21
                have z4_21 : v21.cell? ⟨gh, 4, none⟩ = some (.int .i64 a4) := (blk_cell (HE21.out.keep2 BH1.out HG.out (by decide)) 4).trans rfl
                have z5_21 : v21.cell? ⟨gh, 5, none⟩ = some (.int .i64 a5) := (blk_cell (HE21.out.keep2 BH1.out HG.out (by decide)) 5).trans rfl
                go_wp2_with fail
                go_meet
                case rel => exact ⟨⟨by rw [HX.out, if_neg (by simp), if_neg HQ.out, if_neg (by simp)]; have := HW21.out; simpa [bI] using this⟩, HE21⟩
        | false =>
          by_cases hab : a4 = a5
          · have dab : (a4 == a5) = true := by simp [hab]
            have HQ := Aside0.mk hab
            clear hab
            go_wp2_with (first | (go_at_call 42; (with_reducible refine (HNA.out _).mono ?_); rintro e w' ⟨rfl, ⟨nd, rfl⟩⟩) | (go_at_call 42; (with_reducible refine (HNB.out _).mono ?_); rintro e w' ⟨rfl, ⟨nd, rfl⟩⟩) | (go_at_call 42; (with_reducible refine (HFA.out _).mono ?_); rintro e w' ⟨rfl, ⟨nd, rfl⟩⟩))
            refine (un2_calls 2 (1) w p (clsB a0 ++ limB a1 ++ addrB cs a2 ++ addrB cs a3) w1 _ HP.out (by repeat (first | exact HW10.out | refine wr2_drew ?_ _)) (by repeat (first | exact HE10.out | refine eff_drew ?_ _)) (by omega) (by omega) (by omega) (by have := HL1.out; have := HL2.out; have := HL3.out; have := HL4.out; first | (simp [bI_len]; done) | (simp [bI_len]; omega))).mono ?_
            rintro e v22 ⟨rfl, hw22, he22⟩
            have HW22 := Aside0.mk hw22
            have HE22 := Aside0.mk he22
            clear hw22 he22
            have z4_22 : v22.cell? ⟨gh, 4, none⟩ = some (.int .i64 a4) := (blk_cell (HE22.out.keep2 BH1.out HG.out (by decide)) 4).trans rfl
            have z5_22 : v22.cell? ⟨gh, 5, none⟩ = some (.int .i64 a5) := (blk_cell (HE22.out.keep2 BH1.out HG.out (by decide)) 5).trans rfl
            go_wp2_with fail
            refine (un2_calls 16 (a4) w p ((clsB a0 ++ limB a1 ++ addrB cs a2 ++ addrB cs a3) ++ bI 2 (1)) w1 _ HP.out (by repeat (first | exact HW22.out | refine wr2_drew ?_ _)) (by repeat (first | exact HE22.out | refine eff_drew ?_ _)) (by omega) (by omega) (by omega) (by have := HL1.out; have := HL2.out; have := HL3.out; have := HL4.out; first | (simp [bI_len]; done) | (simp [bI_len]; omega))).mono ?_
            rintro e v23 ⟨rfl, hw23, he23⟩
            have HW23 := Aside0.mk hw23
            have HE23 := Aside0.mk he23
            clear hw23 he23
            have z4_23 : v23.cell? ⟨gh, 4, none⟩ = some (.int .i64 a4) := (blk_cell (HE23.out.keep2 BH1.out HG.out (by decide)) 4).trans rfl
            have z5_23 : v23.cell? ⟨gh, 5, none⟩ = some (.int .i64 a5) := (blk_cell (HE23.out.keep2 BH1.out HG.out (by decide)) 5).trans rfl
            go_wp2_with fail
            go_meet
            case rel => exact ⟨⟨by rw [HX.out, if_neg (by simp), if_pos HQ.out]; have := HW23.out; simpa [bI] using this⟩, HE23⟩
          · have dab : (a4 == a5) = false := by simp [hab]
            have HQ := Aside0.mk hab
            clear hab
            cases fa with
            | true =>
              obtain ⟨n1, n2⟩ := HNI.out.2.2 rfl
              go_wp2_with (first | (go_at_call 42; (with_reducible refine (HNA.out _).mono ?_); rintro e w' ⟨rfl, ⟨nd, rfl⟩⟩) | (go_at_call 42; (with_reducible refine (HNB.out _).mono ?_); rintro e w' ⟨rfl, ⟨nd, rfl⟩⟩) | (go_at_call 42; (with_reducible refine (HFA.out _).mono ?_); rintro e w' ⟨rfl, ⟨nd, rfl⟩⟩))
              refine (un2_calls 2 (2) w p (clsB a0 ++ limB a1 ++ addrB cs a2 ++ addrB cs a3) w1 _ HP.out (by repeat (first | exact HW10.out | refine wr2_drew ?_ _)) (by repeat (first | exact HE10.out | refine eff_drew ?_ _)) (by omega) (by omega) (by omega) (by have := HL1.out; have := HL2.out; have := HL3.out; have := HL4.out; first | (simp [bI_len]; done) | (simp [bI_len]; omega))).mono ?_
              rintro e v24 ⟨rfl, hw24, he24⟩
              have HW24 := Aside0.mk hw24
              have HE24 := Aside0.mk he24
              clear hw24 he24
              have z4_24 : v24.cell? ⟨gh, 4, none⟩ = some (.int .i64 a4) := (blk_cell (HE24.out.keep2 BH1.out HG.out (by decide)) 4).trans rfl
              have z5_24 : v24.cell? ⟨gh, 5, none⟩ = some (.int .i64 a5) := (blk_cell (HE24.out.keep2 BH1.out HG.out (by decide)) 5).trans rfl
              go_wp2_with fail
              refine (un2_calls 8 (a4 - 61440) w p ((clsB a0 ++ limB a1 ++ addrB cs a2 ++ addrB cs a3) ++ bI 2 (2)) w1 _ HP.out (by repeat (first | exact HW24.out | refine wr2_drew ?_ _)) (by repeat (first | exact HE24.out | refine eff_drew ?_ _)) (by omega) (by omega) (by omega) (by have := HL1.out; have := HL2.out; have := HL3.out; have := HL4.out; first | (simp [bI_len]; done) | (simp [bI_len]; omega))).mono ?_
              rintro e v25 ⟨rfl, hw25, he25⟩
              have HW25 := Aside0.mk hw25
              have HE25 := Aside0.mk he25
              clear hw25 he25
              have z4_25 : v25.cell? ⟨gh, 4, none⟩ = some (.int .i64 a4) := (blk_cell (HE25.out.keep2 BH1.out HG.out (by decide)) 4).trans rfl
              have z5_25 : v25.cell? ⟨gh, 5, none⟩ = some (.int .i64 a5) := (blk_cell (HE25.out.keep2 BH1.out HG.out (by decide)) 5).trans rfl
              go_wp2_with fail
              refine (un2_calls 16 (a5) w p (((clsB a0 ++ limB a1 ++ addrB cs a2 ++ addrB cs a3) ++ bI 2 (2)) ++ bI 8 (a4 - 61440)) w1 _ HP.out (by repeat (first | exact HW25.out | refine wr2_drew ?_ _)) (by repeat (first | exact HE25.out | refine eff_drew ?_ _)) (by omega) (by omega) (by omega) (by have := HL1.out; have := HL2.out; have := HL3.out; have := HL4.out; first | (simp [bI_len]; done) | (simp [bI_len]; omega))).mono ?_
              rintro e v26 ⟨rfl, hw26, he26⟩
              have HW26 := Aside0.mk hw26
              have HE26 := Aside0.mk he26
              clear hw26 he26
              have z4_26 : v26.cell? ⟨gh, 4, none⟩ = some (.int .i64 a4) := (blk_cell (HE26.out.keep2 BH1.out HG.out (by decide)) 4).trans rfl
              have z5_26 : v26.cell? ⟨gh, 5, none⟩ = some (.int .i64 a5) := (blk_cell (HE26.out.keep2 BH1.out HG.out (by decide)) 5).trans rfl
              go_wp2_with fail
              go_meet
              case rel => exact ⟨⟨by rw [HX.out, if_neg (by simp), if_neg HQ.out, if_pos (by simp)]; have := HW26.out; simpa [bI] using this⟩, HE26⟩
            | false =>
              go_wp2_with (first | (go_at_call 42; (with_reducible refine (HNA.out _).mono ?_); rintro e w' ⟨rfl, ⟨nd, rfl⟩⟩) | (go_at_call 42; (with_reducible refine (HNB.out _).mono ?_); rintro e w' ⟨rfl, ⟨nd, rfl⟩⟩) | (go_at_call 42; (with_reducible refine (HFA.out _).mono ?_); rintro e w' ⟨rfl, ⟨nd, rfl⟩⟩))
              refine (un2_calls 2 (0) w p (clsB a0 ++ limB a1 ++ addrB cs a2 ++ addrB cs a3) w1 _ HP.out (by repeat (first | exact HW10.out | refine wr2_drew ?_ _)) (by repeat (first | exact HE10.out | refine eff_drew ?_ _)) (by omega) (by omega) (by omega) (by have := HL1.out; have := HL2.out; have := HL3.out; have := HL4.out; first | (simp [bI_len]; done) | (simp [bI_len]; omega))).mono ?_
              rintro e v27 ⟨rfl, hw27, he27⟩
              have HW27 := Aside0.mk hw27
              have HE27 := Aside0.mk he27
              clear hw27 he27
              have z4_27 : v27.cell? ⟨gh, 4, none⟩ = some (.int .i64 a4) := (blk_cell (HE27.out.keep2 BH1.out HG.out (by decide)) 4).trans rfl
              have z5_27 : v27.cell? ⟨gh, 5, none⟩ = some (.int .i64 a5) := (blk_cell (HE27.out.keep2 BH1.out HG.out (by decide)) 5).trans rfl
              go_wp2_with fail
              refine (un2_calls 16 (a4) w p ((clsB a0 ++ limB a1 ++ addrB cs a2 ++ addrB cs a3) ++ bI 2 (0)) w1 _ HP.out (by repeat (first | exact HW27.out | refine wr2_drew ?_ _)) (by repeat (first | exact HE27.out | refine eff_drew ?_ _)) (by omega) (by omega) (by omega) (by have := HL1.out; have := HL2.out; have := HL3.out; have := HL4.out; first | (simp [bI_len]; done) | (simp [bI_len]; omega))).mono ?_
              rintro e v28 ⟨rfl, hw28, he28⟩
              have HW28 := Aside0.mk hw28
              have HE28 := Aside0.mk he28
              clear hw28 he28
              have z4_28 : v28.cell? ⟨gh, 4, none⟩ = some (.int .i64 a4) := (blk_cell (HE28.out.keep2 BH1.out HG.out (by decide)) 4).trans rfl
              have z5_28 : v28.cell? ⟨gh, 5, none⟩ = some (.int .i64 a5) := (blk_cell (HE28.out.keep2 BH1.out HG.out (by decide)) 5).trans rfl
              go_wp2_with fail
              refine (un2_calls 16 (a5) w p (((clsB a0 ++ limB a1 ++ addrB cs a2 ++ addrB cs a3) ++ bI 2 (0)) ++ bI 16 (a4)) w1 _ HP.out (by repeat (first | exact HW28.out | refine wr2_drew ?_ _)) (by repeat (first | exact HE28.out | refine eff_drew ?_ _)) (by omega) (by omega) (by omega) (by have := HL1.out; have := HL2.out; have := HL3.out; have := HL4.out; first | (simp [bI_len]; done) | (simp [bI_len]; omega))).mono ?_
              rintro e v29 ⟨rfl, hw29, he29⟩
              have HW29 := Aside0.mk hw29
              have HE29 := Aside0.mk he29
              clear hw29 he29
              have z4_29 : v29.cell? ⟨gh, 4, none⟩ = some (.int .i64 a4) := (blk_cell (HE29.out.keep2 BH1.out HG.out (by decide)) 4).trans rfl
              have z5_29 : v29.cell? ⟨gh, 5, none⟩ = some (.int .i64 a5) := (blk_cell (HE29.out.keep2 BH1.out HG.out (by decide)) 5).trans rfl
              go_wp2_with fail
              go_meet
              case rel => exact ⟨⟨by rw [HX.out, if_neg (by simp), if_neg HQ.out, if_neg (by simp)]; have := HW29.out; simpa [bI] using this⟩, HE29⟩
      case rest =>
        clear HW10 HE10 z4_10 z5_10 v10 z2_
        obtain ⟨HW, HE⟩ := hcut
        have z6_ : wc.cell? ⟨gh, 6, none⟩ = some (.int .i64 a6) := (blk_cell (HE.out.keep2 BH1.out HG.out (by decide)) 6).trans rfl
        have HX : Aside0 (lenB a6 = if a6 > 63 then true :: bI 12 a6 else false :: bI 6 a6) := ⟨rfl⟩
        by_cases h6 : a6 > 63
        · have d6 : decide (a6 > 63) = true := decide_eq_true h6
          have H6 := Aside0.mk h6
          go_wp2_with fail
          refine (fl2_calls true w p (clsB a0 ++ limB a1 ++ addrB cs a2 ++ addrB cs a3 ++ portsB a4 a5) w1 _ HP.out (by repeat (first | exact HW.out | refine wr2_drew ?_ _)) (by repeat (first | exact HE.out | refine eff_drew ?_ _)) (by have := HL1.out; have := HL2.out; have := HL3.out; have := HL4.out; first | (simp [bI_len]; done) | (simp [bI_len]; omega))).mono ?_
          rintro e v30 ⟨rfl, hw30, he30⟩
          have HW30 := Aside0.mk hw30
          have HE30 := Aside0.mk he30
          clear hw30 he30
          have z6_30 : v30.cell? ⟨gh, 6, none⟩ = some (.int .i64 a6) := (blk_cell (HE30.out.keep2 BH1.out HG.out (by decide)) 6).trans rfl
          go_wp2_with fail
          refine (un2_calls 12 (a6) w p ((clsB a0 ++ limB a1 ++ addrB cs a2 ++ addrB cs a3 ++ portsB a4 a5) ++ [true]) w1 _ HP.out (by repeat (first | exact HW30.out | refine wr2_drew ?_ _)) (by repeat (first | exact HE30.out | refine eff_drew ?_ _)) (by omega) (by omega) (by omega) (by have := HL1.out; have := HL2.out; have := HL3.out; have := HL4.out; first | (simp [bI_len]; done) | (simp [bI_len]; omega))).mono ?_
          rintro e v31 ⟨rfl, hw31, he31⟩
          have HW31 := Aside0.mk hw31
          have HE31 := Aside0.mk he31
          clear hw31 he31
          go_wp2_with fail
          go_ret
          exact ⟨p, rfl, HP.out, by rw [HEAD.out, HX.out, if_pos (by have := H6.out; omega)]; have := HW31.out; simpa [bI] using this, HE31.out.below⟩
        · have d6 : decide (a6 > 63) = false := decide_eq_false h6
          have H6 := Aside0.mk h6
          go_wp2_with fail
          refine (fl2_calls false w p (clsB a0 ++ limB a1 ++ addrB cs a2 ++ addrB cs a3 ++ portsB a4 a5) w1 _ HP.out (by repeat (first | exact HW.out | refine wr2_drew ?_ _)) (by repeat (first | exact HE.out | refine eff_drew ?_ _)) (by have := HL1.out; have := HL2.out; have := HL3.out; have := HL4.out; first | (simp [bI_len]; done) | (simp [bI_len]; omega))).mono ?_
          rintro e v32 ⟨rfl, hw32, he32⟩
          have HW32 := Aside0.mk hw32
          have HE32 := Aside0.mk he32
          clear hw32 he32
          have z6_32 : v32.cell? ⟨gh, 6, none⟩ = some (.int .i64 a6) := (blk_cell (HE32.out.keep2 BH1.out HG.out (by decide)) 6).trans rfl
          go_wp2_with fail
          refine (un2_calls 6 (a6) w p ((clsB a0 ++ limB a1 ++ addrB cs a2 ++ addrB cs a3 ++ portsB a4 a5) ++ [false]) w1 _ HP.out (by repeat (first | exact HW32.out | refine wr2_drew ?_ _)) (by repeat (first | exact HE32.out | refine eff_drew ?_ _)) (by omega) (by omega) (by omega) (by have := HL1.out; have := HL2.out; have := HL3.out; have := HL4.out; first | (simp [bI_len]; done) | (simp [bI_len]; omega))).mono ?_
          rintro e v33 ⟨rfl, hw33, he33⟩
          have HW33 := Aside0.mk hw33
          have HE33 := Aside0.mk he33
          clear hw33 he33
          go_wp2_with fail
          go_ret
          exact ⟨p, rfl, HP.out, by rw [HEAD.out, HX.out, if_neg (by have := H6.out; omega)]; have := HW33.out; simpa [bI] using this, HE33.out.below⟩
end Go.Proofs.Ytmbbijhppgkdfaa.P14
