/- compress.writeAddress: the bits of an address. -/
import Derived.Test.YtmbbijhppgkdfaaGwr
import Derived.Test.YtmbbijhppgkdfaaP14Fi
import Derived.Laws.Strings
namespace Go.Proofs.Ytmbbijhppgkdfaa.P14
open Go.RowKit Go.Proofs.YtmbbijhppgkdfaaW.PrintWords Go.Proofs.YtmbbijhppgkdfaaW.PrintLast Go.Proofs.YtmbbijhppgkdfaaW.PrintMore
attribute [local go_sem] max2_int min2_int max_two min_two max_three min_three max_four min_four
set_option linter.unusedVariables false
set_option linter.unusedSimpArgs false

/-- The string p is a beginning of a. -/
def fitsB (a p : ByteArray) : Bool := decide (a.data.toList.take p.size = p.data.toList)
theorem fits_size {a p : ByteArray} (h : fitsB a p = true) : p.size ≤ a.size := by
  have h := congrArg List.length (of_decide_eq_true h)
  have h1 : a.size = a.data.toList.length := Array.length_toList.symm
  have h2 : p.size = p.data.toList.length := Array.length_toList.symm
  rw [List.length_take, ← h1, ← h2] at h
  omega
def findGo (l : List S26) (a : ByteArray) : Nat → Nat → Int → Int
  | 0, _, best => best
  | d + 1, i, best => findGo l a d (i + 1) (if (fitsB a (rd_T26 l (i : Int)).f0 && (decide (best < 0) || decide ((rd_T26 l best).f0.size < (rd_T26 l (i : Int)).f0.size))) = true then (i : Int) else best)
/-- The context of an address, -1 if there is none. -/
def findS (l : List S26) (a : ByteArray) : Int := findGo l a l.length 0 (-1)
theorem findGo_range (l : List S26) (a : ByteArray) (d : Nat) : ∀ (i : Nat) (best : Int), -1 ≤ best → best < (i : Int) → -1 ≤ findGo l a d i best ∧ findGo l a d i best < (i : Int) + d := by
  induction d with
  | zero => exact fun i best h0 h1 => ⟨h0, by simpa [findGo] using h1⟩
  | succ d ih =>
    intro i best h0 h1
    simp only [findGo]
    split
    · have := ih (i + 1) (i : Int) (by omega) (by omega)
      omega
    · have := ih (i + 1) best h0 (by omega)
      omega
theorem findS_range (l : List S26) (a : ByteArray) : -1 ≤ findS l a ∧ findS l a < (l.length : Int) := by
  have := findGo_range l a l.length 0 (-1) (by omega) (by omega)
  unfold findS
  omega
theorem fits_eq (a p : ByteArray) : strings_HasPrefix.f a p = some (fitsB a p) := by
  have hx : fitsB a p = true → p.size ≤ a.size := fits_size
  unfold strings_HasPrefix.f stringslite_HasPrefix.f
  by_cases h : p.size ≤ a.size
  · rw [if_pos (by omega), if_pos (by omega), if_pos (by omega)]
    simp only [Option.bind_some, Option.some.injEq]
    unfold fitsB
    rw [ByteArray.toList_eq, ByteArray.toList_eq, Int.toNat_natCast]
    have e : (a.extract 0 p.size).data.toList = a.data.toList.take p.size := by simp
    rw [e]
    by_cases hq : a.data.toList.take p.size = p.data.toList
    · rw [decide_eq_true hq]; exact beq_iff_eq.mpr hq
    · rw [decide_eq_false hq]; exact beq_eq_false_iff_ne.mpr hq
  · rw [if_neg (by omega)]
    cases hf : fitsB a p with
    | true => exact absurd (hx hf) h
    | false => rfl
theorem find_l0 (l : List S26) (a : ByteArray) (hl : l.length ≤ 1000000) (d : Nat) : ∀ (i k : Nat) (best : Int), i + d = l.length → 2 * d < k → -1 ≤ best → best < (i : Int) → compress_find.l0 k l a best l (l.length : Int) (i : Int) = some (findGo l a d i best) := by
  induction d with
  | zero =>
    intro i k best hi hk h0 h1
    obtain ⟨k, rfl⟩ : ∃ q, k = q + 1 := ⟨k - 1, by omega⟩
    simp only [compress_find.l0, findGo]
    rw [if_neg (by omega)]
  | succ d ih =>
    intro i k best hi hk h0 h1
    obtain ⟨k, rfl⟩ : ∃ q, k = q + 2 := ⟨k - 2, by omega⟩
    have ew : wrap64 ((i : Int) + 1) = ((i + 1 : Nat) : Int) := by unfold wrap64; omega
    simp only [compress_find.l0, findGo]
    rw [if_pos (by omega), if_pos (by omega), if_pos (by omega), fits_eq]
    simp only [Option.bind_some]
    cases hf : fitsB a (rd_T26 l (i : Int)).f0 with
    | false =>
      rw [if_neg (by simp), if_neg (by simp)]
      simp only [compress_find.j1]
      rw [if_neg (by simp), ew]
      exact ih (i + 1) k best (by omega) (by omega) h0 (by omega)
    | true =>
      rw [if_pos rfl]
      simp only [Bool.true_and]
      by_cases hb : best < 0
      · rw [if_pos hb, if_pos (by simp [hb])]
        simp only [compress_find.j1]
        rw [if_pos trivial, ew]
        exact ih (i + 1) k (i : Int) (by omega) (by omega) (by omega) (by omega)
      · rw [if_neg hb, if_pos (by omega), if_pos (by omega)]
        simp only [compress_find.j1]
        by_cases hs : (rd_T26 l best).f0.size < (rd_T26 l (i : Int)).f0.size
        · rw [if_pos (decide_eq_true (by omega)), if_pos (by simp [hs]), ew]
          exact ih (i + 1) k (i : Int) (by omega) (by omega) (by omega) (by omega)
        · rw [if_neg (by simp; omega), if_neg (by simp [hs, hb]), ew]
          exact ih (i + 1) k best (by omega) (by omega) h0 (by omega)
theorem find_eq (l : List S26) (a : ByteArray) (hl : l.length ≤ 1000000) (k : Nat) (hk : 2 * l.length < k) : compress_find.f k l a = some (findS l a) :=
  find_l0 l a hl l.length 0 k (-1) (by omega) hk (by omega) (by omega)
/-- The bits of the first bytes of a string. -/
def bytesB (a : ByteArray) : Nat → List Bool
  | 0 => []
  | d + 1 => bytesB a d ++ bitsOf 8 (bt a (d : Int)).toNat
theorem bt_rng (s : ByteArray) (i : Int) : 0 ≤ bt s i ∧ bt s i ≤ 255 := by
  unfold bt
  split
  · exact ⟨by omega, by have := (s[i.toNat]).toNat_lt; omega⟩
  · omega
theorem bytesB_len (a : ByteArray) (d : Nat) : (bytesB a d).length = 8 * d := by
  induction d with
  | zero => rfl
  | succ d ih => simp only [bytesB, List.length_append, ih, bitsOf_len]; omega
/-- What is left of an address behind its context. -/
def restS (cs : List S26) (a : ByteArray) : ByteArray := if 0 ≤ findS cs a then a.extract (rd_T26 cs (findS cs a)).f0.size a.size else a
def headS (cs : List S26) (a : ByteArray) : List Bool := if 0 ≤ findS cs a then true :: bitsOf 3 (findS cs a).toNat else [false]
def addrB (cs : List S26) (a : ByteArray) : List Bool := headS cs a ++ bytesB (restS cs a) (restS cs a).size
theorem findGo_fits (l : List S26) (a : ByteArray) (d : Nat) : ∀ (i : Nat) (best : Int), (0 ≤ best → fitsB a (rd_T26 l best).f0 = true) → 0 ≤ findGo l a d i best → fitsB a (rd_T26 l (findGo l a d i best)).f0 = true := by
  induction d with
  | zero => exact fun i best h h0 => h h0
  | succ d ih =>
    intro i best h h0
    simp only [findGo] at h0 ⊢
    refine ih (i + 1) _ (fun _ => ?_) h0
    by_cases hc : (fitsB a (rd_T26 l (i : Int)).f0 && (decide (best < 0) || decide ((rd_T26 l best).f0.size < (rd_T26 l (i : Int)).f0.size))) = true
    · rw [if_pos hc]
      exact (Bool.and_eq_true_iff.mp hc).1
    · rw [if_neg hc] at *
      exact h (by assumption)
theorem findS_fits (l : List S26) (a : ByteArray) (h : 0 ≤ findS l a) : fitsB a (rd_T26 l (findS l a)).f0 = true :=
  findGo_fits l a l.length 0 (-1) (by omega) h
theorem restS_size (cs : List S26) (a : ByteArray) : (restS cs a).size ≤ a.size := by
  unfold restS
  split
  · simp
  · exact Nat.le_refl _
theorem headS_len (cs : List S26) (a : ByteArray) : (headS cs a).length ≤ 4 := by
  unfold headS
  split
  · simp [bitsOf_len]
  · simp
theorem addrB_len (cs : List S26) (a : ByteArray) : (addrB cs a).length ≤ 4 + 8 * a.size := by
  have := headS_len cs a
  have := restS_size cs a
  unfold addrB
  rw [List.length_append, bytesB_len]
  omega
theorem Wr.step {w0 W W' : World} {p : Nat} {l : List Bool} (h : Wr w0 p l W) (hb : Below W.heap.size W W') : Wr w0 p l W' := by
  obtain ⟨v, h1, h2⟩ := h.ex
  exact ⟨⟨v, blk_below h1 hb, Kd.R_below h2 hb⟩⟩
theorem WPost.of {w0 W W' W2 : World} {p : Nat} {l : List Bool} {e : Ending} (h : Eff w0 p W W') (k : WPost w0 p l W' e W2) : WPost w0 p l W e W2 := ⟨k.1, k.2.1, h.trans k.2.2⟩
set_option maxRecDepth 100000 in
set_option maxHeartbeats 3200000 in
theorem addr_calls (w0 : World) (p : Nat) (l : List Bool) (W : World) (A0 : Option Addr) (c0 : Nat) (cs : List S26) (a : ByteArray) (hp : w0.heap.size ≤ p) (hB : Below w0.heap.size w0 W) (hWr : Wr w0 p l W) (hr : Kd.C k26 w0 A0 cs.length cs) (hc : cs.length ≤ c0) (h8 : cs.length ≤ 8) (ha : a.size ≤ 4) (hl : l.length ≤ 100000) :
    Calls Try.prog 66 #[.pointer (some ⟨p, 0, none⟩), .slice A0 cs.length c0, .string a] W (WPost w0 p (l ++ addrB cs a) W) := by
  have hu26 := Try.underlying26
  have HFC := Aside0.mk (compress_find.calls 100 A0 c0 cs a (findS cs a) W (Kd.C_below hr hB) hc (find_eq cs a (by omega) 100 (by omega)))
  have HP := Aside0.mk hp
  have HW := Aside0.mk hWr
  have HE := Aside0.mk (Eff.refl (p := p) hB)
  have HR := Aside0.mk hr
  have HL := Aside0.mk hl
  obtain ⟨hi0, hi1⟩ := findS_range cs a
  have hfit := findS_fits cs a
  have HA : Aside0 (l ++ addrB cs a = (l ++ headS cs a) ++ bytesB (restS cs a) (restS cs a).size) := ⟨by unfold addrB; rw [List.append_assoc]⟩
  have HH : Aside0 (headS cs a = if 0 ≤ findS cs a then true :: bitsOf 3 (findS cs a).toNat else [false]) := ⟨rfl⟩
  have HS : Aside0 (restS cs a = if 0 ≤ findS cs a then a.extract (rd_T26 cs (findS cs a)).f0.size a.size else a) := ⟨rfl⟩
  have HSZ := Aside0.mk (And.intro (restS_size cs a) (headS_len cs a))
  generalize findS cs a = I at HFC hi0 hi1 hfit HH HS
  generalize restS cs a = s at HA HS HSZ
  generalize headS cs a = hd at HA HH HSZ
  have HI := Aside0.mk (And.intro hi0 hi1)
  clear hp hWr hB hr hl
  go_enter Try.func66, Try.ntmps66
  go_wp2_with fail
  with_reducible refine HFC.out.mono ?_
  rintro e w1 ⟨rfl, hb1⟩
  have HW1 := Aside0.mk (HW.out.step hb1)
  have HE1 := Aside0.mk (HE.out.step hb1)
  have HF1 := Aside0.mk (fun b : Bool => flag_calls b w0 p l w1 HP.out HE1.out.below HW1.out (by have := HL.out; omega))
  clear hb1 HW HFC HE
  go_wp2_with fail
  refine (HF1.out _).mono ?_
  rintro e w2 ⟨rfl, hw2, he2⟩
  have HW2 := Aside0.mk hw2
  have HE2 := Aside0.mk (HE1.out.trans he2)
  clear hw2 he2 HF1 HE1 HW1
  go_upto_if 16 with fail
  go_cut [2] (fun v2 wc => v2 = .string s ∧ Aside0 (Wr w0 p (l ++ hd) wc) ∧ Aside0 (Eff w0 p W wc))
  case first =>
    by_cases h0 : 0 ≤ I
    · have d0 : decide (I ≥ 0) = true := decide_eq_true h0
      have hps := fits_size (hfit h0)
      have HU := Aside0.mk (unsigned_calls 3 I.toNat w0 p (l ++ [true]) w2 HP.out HE2.out.below (by have := HW2.out; rw [d0] at this; exact this) (by omega) (by have := HI.out; omega) (by have := HL.out; simp; omega))
      have hIn : ((I.toNat : Nat) : Int) = I := Int.toNat_of_nonneg h0
      rw [hIn] at HU
      go_wp2_with fail
      refine HU.out.mono ?_
      rintro e w3 ⟨rfl, hw3, he3⟩
      have HW3 := Aside0.mk hw3
      have HE3 := Aside0.mk (HE2.out.trans he3)
      have HR3 := Aside0.mk (Kd.C_below HR.out HE3.out.below)
      clear hw3 he3 HU HE2 HW2
      obtain ⟨ad, ea, x0⟩ := at_T26 HR3.out I h0 hi1
      subst ea
      have hps0 : (0 : Int) ≤ ((rd_T26 cs I).f0.size : Int) := by omega
      have hps1 : ((rd_T26 cs I).f0.size : Int) ≤ (a.size : Int) := by omega
      go_wp2_with fail
      go_meet
      case rel => exact ⟨by rw [HS.out, if_pos h0], ⟨by rw [HH.out, if_pos h0]; have := HW3.out; simpa using this⟩, HE3⟩
    · have d0 : decide (I ≥ 0) = false := decide_eq_false h0
      have HZ := Aside0.mk h0
      go_wp2_with fail
      go_meet
      case rel => exact ⟨by rw [HS.out, if_neg (by have := HZ.out; omega)], ⟨by rw [HH.out, if_neg (by have := HZ.out; omega)]; have := HW2.out; rw [d0] at this; exact this⟩, HE2⟩
  case rest =>
    clear HW2 HE2 HH HS hfit HI w2
    obtain ⟨rfl, HW3, HE3⟩ := hcut
    obtain ⟨m, hm⟩ : ∃ m, m = l ++ hd := ⟨_, rfl⟩
    have hml : m.length ≤ 100004 := by rw [hm, List.length_append]; have := HL.out; have := HSZ.out.2; omega
    rw [← hm] at HW3 HA
    have HML := Aside0.mk hml
    have hss : s.size ≤ 4 := by have := HSZ.out.1; omega
    clear hm hml HSZ HL
    go_wp2_with fail
    go_loopg [30] s.size (fun gg v30 wr => ∃ (j : Nat), v30 = .int .i64 (j : Int) ∧ Aside0 (j ≤ s.size ∧ s.size - j ≤ gg) ∧ Aside0 (Wr w0 p (m ++ bytesB s j) wr) ∧ Aside0 (Eff w0 p W wr))
    case atStart => exact ⟨0, rfl, ⟨by omega, by omega⟩, ⟨by simpa [bytesB] using HW3.out⟩, HE3⟩
    case round =>
      clear HW3 HE3
      obtain ⟨j, rfl, HJ, HW, EF⟩ := hrel
      obtain ⟨hj1, hj2⟩ := HJ.out
      by_cases hlt : j < s.size
      · have hb := bt_rng s (j : Int)
        have hlt1 : (j : Int) < (s.size : Int) := by omega
        have hj0 : (0 : Int) ≤ (j : Int) := by omega
        have HU := Aside0.mk (unsigned_calls 8 (bt s (j : Int)).toNat w0 p (m ++ bytesB s j) wr HP.out EF.out.below HW.out (by omega) (by omega) (by have := HML.out; rw [List.length_append, bytesB_len]; omega))
        have hwb : wrap64 (((s[j]'hlt).toNat : Nat) : Int) = bt s (j : Int) := by
          have e : ((((s[j]'hlt).toNat : Nat) : Int)) = bt s (j : Int) := by simp [bt, hlt]
          rw [e]; unfold wrap64; omega
        have hIn : (((bt s (j : Int)).toNat : Nat) : Int) = bt s (j : Int) := Int.toNat_of_nonneg hb.1
        have HIn := Aside0.mk hIn
        rw [hIn] at HU
        clear hIn
        go_wp2_with fail
        rw [hwb]
        refine HU.out.mono ?_
        rintro e w3 ⟨rfl, hw3, he3⟩
        have HW3 := Aside0.mk hw3
        have HE3 := Aside0.mk (EF.out.trans he3)
        clear hw3 he3 HU
        go_wp2_with fail
        go_roundg (s.size - (j + 1))
        case measure => omega
        case rel => exact ⟨j + 1, by go_num, ⟨by omega, by omega⟩, ⟨by have := HW3.out; simpa [bytesB] using this⟩, HE3⟩
      · have hje : j = s.size := by omega
        have hlt1 : ¬ (j : Int) < (s.size : Int) := by omega
        go_wp2_with fail
        go_end0
        exact ⟨rfl, by rw [HA.out, ← hje]; exact HW.out, EF.out⟩
end Go.Proofs.Ytmbbijhppgkdfaa.P14
