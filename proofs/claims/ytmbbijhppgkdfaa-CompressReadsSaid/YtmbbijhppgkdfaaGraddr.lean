/- hopmeshref14.address: the bits of an address. -/
import Derived.Test.YtmbbijhppgkdfaaGrbytes
import Derived.Test.YtmbbijhppgkdfaaTrfind
namespace Go.Proofs.Ytmbbijhppgkdfaa.P14
open Go.RowKit Go.Proofs.YtmbbijhppgkdfaaW.PrintWords Go.Proofs.YtmbbijhppgkdfaaW.PrintLast Go.Proofs.YtmbbijhppgkdfaaW.PrintMore
attribute [local go_sem] max2_int min2_int max_two min_two max_three min_three max_four min_four
set_option linter.unusedVariables false
set_option linter.unusedSimpArgs false

theorem bt_extract (a : ByteArray) (m j : Nat) (hm : m + j < a.size) : bt (a.extract m a.size) (j : Int) = bt a ((m + j : Nat) : Int) := by
  rw [bt_get, bt_get]
  have e : (a.extract m a.size).data.toList = a.data.toList.drop m := by
    have hl : a.data.toList.length = a.data.size := Array.length_toList
    have hs : a.size = a.data.size := rfl
    rw [ByteArray.data_extract, Array.toList_extract, List.extract_eq_take_drop, hs]
    first
      | rw [List.take_of_length_le (by rw [List.length_drop, hl]; exact Nat.le_refl _)]
      | rw [List.take_of_length_le (by rw [hl]; exact Nat.le_refl _)]
  rw [e, List.getD_eq_getElem?_getD, List.getD_eq_getElem?_getD, List.getElem?_drop]
/-- Where the rest of an address begins. -/
def fromS (cs : List S26) (a : ByteArray) : Nat := if 0 ≤ findS cs a then (rd_T26 cs (findS cs a)).f0.size else 0
theorem bt_rest (cs : List S26) (a : ByteArray) (j : Nat) (hj : fromS cs a + j < a.size) : bt (restS cs a) (j : Int) = bt a ((fromS cs a + j : Nat) : Int) := by
  unfold restS fromS at *
  by_cases h : 0 ≤ findS cs a
  · rw [if_pos h] at hj ⊢
    rw [if_pos h]
    exact bt_extract a _ j hj
  · rw [if_neg h, if_neg h, Nat.zero_add]
theorem rest_size (cs : List S26) (a : ByteArray) : fromS cs a + (restS cs a).size = a.size := by
  unfold restS fromS
  by_cases h : 0 ≤ findS cs a
  · rw [if_pos h, if_pos h]
    have := fits_size (findS_fits cs a h)
    rw [ByteArray.size_extract]
    omega
  · rw [if_neg h, if_neg h, Nat.zero_add]
set_option maxRecDepth 100000 in
set_option maxHeartbeats 3200000 in
theorem addr2_calls (w0 : World) (p : Nat) (l : List Bool) (W : World) (A0 : Option Addr) (c0 : Nat) (cs : List S26) (a : ByteArray) (hp : w0.heap.size ≤ p) (hB : Below w0.heap.size w0 W) (hWr : Wr2 w0 p l W) (hr : Kd.C k26 w0 A0 cs.length cs) (hc : cs.length ≤ c0) (hco : conOk cs = true) (ha : a.size = 4) (hl : l.length ≤ 100000) :
    Calls Try.prog 75 #[.pointer (some ⟨p, 0, none⟩), .slice A0 cs.length c0, .string a] W (WPost2 w0 p (l ++ addrB cs a) W) := by
  have hu26 := Try.underlying26
  have h8 := ((conOk_iff cs).mp hco).1
  have hfe := cfind_eq cs a 100 (by omega)
  rw [hco, decide_eq_true ha, if_pos (show (true && true) = true from rfl)] at hfe
  have HFC := Aside0.mk (hopmeshref14_Find.calls 100 A0 c0 cs a (mx (findS cs a) 0) (decide (findS cs a ≥ 0)) W (Kd.C_below hr hB) hc hfe)
  have HP := Aside0.mk hp
  have HW := Aside0.mk hWr
  have HE := Aside0.mk (Eff.refl (p := p) hB)
  have HR := Aside0.mk hr
  have HL := Aside0.mk hl
  obtain ⟨hi0, hi1⟩ := findS_range cs a
  have HA : Aside0 (l ++ addrB cs a = (l ++ headS cs a) ++ bytesB (restS cs a) (restS cs a).size) := ⟨by unfold addrB; rw [List.append_assoc]⟩
  have HH : Aside0 (headS cs a = if 0 ≤ findS cs a then true :: bitsOf 3 (findS cs a).toNat else [false]) := ⟨rfl⟩
  have HBT : Aside0 (∀ j, fromS cs a + j < a.size → bt (restS cs a) (j : Int) = bt a ((fromS cs a + j : Nat) : Int)) := ⟨bt_rest cs a⟩
  have HF : Aside0 (fromS cs a = if 0 ≤ findS cs a then (rd_T26 cs (findS cs a)).f0.size else 0) := ⟨rfl⟩
  have HSZ := Aside0.mk (And.intro (rest_size cs a) (headS_len cs a))
  have HXB : Aside0 ((0 ≤ findS cs a → mx (findS cs a) 0 = findS cs a) ∧ decide (findS cs a ≥ 0) = decide (findS cs a ≥ 0)) := ⟨fun h => by unfold mx; omega, rfl⟩
  generalize findS cs a = I at HFC hi0 hi1 HH HF HXB
  obtain ⟨X, hX⟩ : ∃ X, X = mx I 0 := ⟨_, rfl⟩
  obtain ⟨Bo, hBo⟩ : ∃ b, b = decide (I ≥ 0) := ⟨_, rfl⟩
  rw [← hX, ← hBo] at HFC
  rw [← hX] at HXB
  replace HXB : Aside0 ((0 ≤ I → X = I) ∧ Bo = decide (I ≥ 0)) := ⟨HXB.out.1, hBo⟩
  clear hX hBo
  generalize restS cs a = s at HA HSZ HBT
  generalize headS cs a = hd at HA HH HSZ
  generalize fromS cs a = fr at HF HSZ HBT
  have HI := Aside0.mk (And.intro hi0 hi1)
  have HA4 := Aside0.mk ha
  clear hp hWr hB hr hl hfe hco ha
  go_enter Try.func75, Try.ntmps75
  go_wp2_with fail
  with_reducible refine HFC.out.mono ?_
  rintro e w1 ⟨rfl, hb1⟩
  have HW1 := Aside0.mk (HW.out.step hb1)
  have HE1 := Aside0.mk (HE.out.step hb1)
  have HF1 := Aside0.mk (fun b : Bool => flag2_calls b w0 p l w1 HP.out HE1.out.below HW1.out (by have := HL.out; omega))
  clear hb1 HW HFC HE
  go_wp2_with fail
  refine (HF1.out _).mono ?_
  rintro e w2 ⟨rfl, hw2, he2⟩
  have HW2 := Aside0.mk hw2
  have HE2 := Aside0.mk (HE1.out.trans he2)
  clear hw2 he2 HF1 HE1 HW1
  go_upto_if 19 with fail
  go_cut [8] (fun v8 wc => v8 = .int .i64 (fr : Int) ∧ Aside0 (Wr2 w0 p (l ++ hd) wc) ∧ Aside0 (Eff w0 p W wc))
  case first =>
    by_cases h0 : 0 ≤ I
    · obtain rfl : X = I := HXB.out.1 h0
      obtain rfl : Bo = true := HXB.out.2.trans (decide_eq_true h0)
      have HU := Aside0.mk (uns2_calls 3 X.toNat w0 p (l ++ [true]) w2 HP.out HE2.out.below HW2.out (by omega) (by have := HI.out; omega) (by have := HL.out; simp; omega))
      have hIn : ((X.toNat : Nat) : Int) = X := Int.toNat_of_nonneg h0
      rw [hIn] at HU
      clear hIn
      go_wp2_with fail
      refine HU.out.mono ?_
      rintro e w3 ⟨rfl, hw3, he3⟩
      have HW3 := Aside0.mk hw3
      have HE3 := Aside0.mk (HE2.out.trans he3)
      have HR3 := Aside0.mk (Kd.C_below HR.out HE3.out.below)
      clear hw3 he3 HU HE2 HW2
      obtain ⟨ad, ea, x0⟩ := at_T26 HR3.out X h0 hi1
      subst ea
      go_wp2_with fail
      go_meet
      case rel => exact ⟨by rw [HF.out, if_pos h0], ⟨by rw [HH.out, if_pos h0]; have := HW3.out; simpa using this⟩, HE3⟩
    · obtain rfl : Bo = false := HXB.out.2.trans (decide_eq_false h0)
      have HZ := Aside0.mk h0
      go_wp2_with fail
      go_meet
      case rel => exact ⟨by rw [HF.out, if_neg (by have := HZ.out; omega)]; rfl, ⟨by rw [HH.out, if_neg (by have := HZ.out; omega)]; exact HW2.out⟩, HE2⟩
  case rest =>
    clear HW2 HE2 HH HF HI w2
    obtain ⟨rfl, HW3, HE3⟩ := hcut
    obtain ⟨m, hm⟩ : ∃ m, m = l ++ hd := ⟨_, rfl⟩
    have hml : m.length ≤ 100004 := by rw [hm, List.length_append]; have := HL.out; have := HSZ.out.2; omega
    rw [← hm] at HW3 HA
    have HML := Aside0.mk hml
    have hss : fr + s.size = 4 := by have := HSZ.out.1; have := HA4.out; omega
    have has : a.size = 4 := HA4.out
    have HAS := Aside0.mk has
    clear hm hml HSZ HL has
    go_wp2_with fail
    go_loopg [9] s.size (fun gg v9 wr => ∃ (j : Nat), v9 = .int .i64 ((fr + j : Nat) : Int) ∧ Aside0 (j ≤ s.size ∧ s.size - j ≤ gg) ∧ Aside0 (Wr2 w0 p (m ++ bytesB s j) wr) ∧ Aside0 (Eff w0 p W wr))
    case atStart => exact ⟨0, rfl, ⟨by omega, by omega⟩, ⟨by simpa [bytesB] using HW3.out⟩, HE3⟩
    case round =>
      clear HW3 HE3
      obtain ⟨j, rfl, HJ, HW, EF⟩ := hrel
      obtain ⟨hj1, hj2⟩ := HJ.out
      obtain ⟨K, hK⟩ : ∃ K, K = fr + j := ⟨_, rfl⟩
      rw [← hK]
      have HK := Aside0.mk hK
      by_cases hlt : j < s.size
      · have hKa : K < a.size := by have := HAS.out; omega
        have hbt := HBT.out j (by omega)
        rw [← hK] at hbt
        have hb := bt_rng s (j : Int)
        have hlt1 : (K : Int) < 4 := by omega
        have hlt2 : (K : Int) < (a.size : Int) := by omega
        have hj0 : (0 : Int) ≤ (K : Int) := by omega
        have HU := Aside0.mk (uns2_calls 8 (bt s (j : Int)).toNat w0 p (m ++ bytesB s j) wr HP.out EF.out.below HW.out (by omega) (by omega) (by have := HML.out; rw [List.length_append, bytesB_len]; omega))
        have hwb : wrap64 (((a[K]'hKa).toNat : Nat) : Int) = bt s (j : Int) := by
          have e : ((((a[K]'hKa).toNat : Nat) : Int)) = bt a (K : Int) := by simp [bt, hKa]
          rw [e, ← hbt]; unfold wrap64; omega
        have hIn : (((bt s (j : Int)).toNat : Nat) : Int) = bt s (j : Int) := Int.toNat_of_nonneg hb.1
        rw [hIn] at HU
        clear hIn hbt hK
        go_wp2_with fail
        rw [hwb]
        refine HU.out.mono ?_
        rintro e w3 ⟨rfl, hw3, he3⟩
        have HW3 := Aside0.mk hw3
        have HE3 := Aside0.mk (EF.out.trans he3)
        clear hw3 he3 HU
        go_wp2_with fail
        go_roundg (s.size - (j + 1))
        case measure => omega
        case rel => exact ⟨j + 1, by have := HK.out; rw [show fr + (j + 1) = K + 1 by omega]; go_num, ⟨by omega, by omega⟩, ⟨by have := HW3.out; simpa [bytesB] using this⟩, HE3⟩
      · have hje : j = s.size := by omega
        have hlt1 : ¬ (K : Int) < 4 := by omega
        clear hK
        go_wp2_with fail
        go_end0
        exact ⟨rfl, by rw [HA.out, ← hje]; exact HW.out, EF.out⟩
end Go.Proofs.Ytmbbijhppgkdfaa.P14
