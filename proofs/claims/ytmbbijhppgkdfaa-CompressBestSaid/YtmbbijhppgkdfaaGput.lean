/- bitio.Writer: what it holds, and what put writes: the bits of a number behind those that stand there. -/
import Derived.Test.YtmbbijhppgkdfaaP140
import Derived.StillTailTactics
import Derived.IntWalk
import Derived.Laws.Shifts
import Derived.Laws.ShiftsVar
import Derived.Deep.DeepCutAuto
import Derived.Deep.CutBlock
namespace Go.Proofs.Ytmbbijhppgkdfaa.P14
open Go.RowKit Go.Proofs.YtmbbijhppgkdfaaW.PrintWords Go.Proofs.YtmbbijhppgkdfaaW.PrintLast Go.Proofs.YtmbbijhppgkdfaaW.PrintMore
attribute [local go_sem] max2_int min2_int max_two min_two max_three min_three max_four min_four
set_option linter.unusedVariables false
set_option linter.unusedSimpArgs false

/-- A byte with one more bit, s places from its end. -/
def orB (x b : Int) (s : Nat) : Int := bits .or .u8 x (b * 2 ^ min s 8 % 256)
def bi (b : Bool) : Int := if b = true then 1 else 0
/-- The bytes, with the bit behind k others. -/
def room (st : List Int) (k : Nat) : List Int := if k % 8 = 0 then st ++ [0] else st
def packStep (st : List Int) (k : Nat) (b : Bool) : List Int := (room st k).set (k / 8) (orB (rd (room st k) (k / 8 : Nat)) (bi b) (7 - k % 8))
def pack (l : List Bool) : List Int := (l.foldl (fun (s : List Int × Nat) b => (packStep s.1 s.2 b, s.2 + 1)) ([], 0)).1
theorem pack_snd (l : List Bool) (s : List Int × Nat) : (l.foldl (fun (s : List Int × Nat) b => (packStep s.1 s.2 b, s.2 + 1)) s).2 = s.2 + l.length := by
  induction l generalizing s with
  | nil => rfl
  | cons b l ih =>
    rw [List.foldl_cons, ih]
    simp
    omega
theorem pack_snoc (l : List Bool) (b : Bool) : pack (l ++ [b]) = packStep (pack l) l.length b := by
  unfold pack
  rw [List.foldl_append]
  simp only [List.foldl_cons, List.foldl_nil]
  rw [pack_snd]
  simp
theorem room_len (st : List Int) (k : Nat) (h : st.length = (k + 7) / 8) : (room st k).length = (k + 8) / 8 := by
  unfold room
  split
  · simp; omega
  · omega
theorem pack_len (l : List Bool) : (pack l).length = (l.length + 7) / 8 := by
  rw [← List.reverse_reverse l]
  induction l.reverse with
  | nil => rfl
  | cons b r ih =>
    rw [List.reverse_cons, pack_snoc]
    unfold packStep
    rw [List.length_set, room_len _ _ ih]
    simp
    omega
/-- The bits of a number, the highest one first. -/
def bitsOf (width n : Nat) : List Bool := (List.range width).map fun j => n.testBit (width - 1 - j)
theorem bitsOf_len (width n : Nat) : (bitsOf width n).length = width := by simp [bitsOf]
theorem bitsOf_take (width n j : Nat) (h : j < width) : (bitsOf width n).take (j + 1) = (bitsOf width n).take j ++ [n.testBit (width - 1 - j)] := by
  rw [List.take_succ_eq_append_getElem (by rw [bitsOf_len]; exact h)]
  simp [bitsOf]
/-- What may have turned: the writer's block, rows of bytes of the call's own, new blocks. -/
structure Eff (w0 : World) (p : Nat) (W W' : World) : Prop where
  below : Below w0.heap.size w0 W'
  size : W.heap.size ≤ W'.heap.size
  far : ∀ (i : Nat) (o : Obj), W.heap[i]? = some o → i ≠ p → (∀ cs, o ≠ .cells cs 5 (0, 0)) → W'.heap[i]? = some o
structure Wr (w0 : World) (p : Nat) (l : List Bool) (W : World) : Prop where
  ex : ∃ v, W.heap[p]? = some (.cells #[v, .int .i64 (l.length : Int), .int .i64 0] 94 (0, 0)) ∧ Kd.R (Kd.int .u8) 5 W w0.heap.size (fun k => k ≠ p) v (pack l)
section
variable {w0 W W' W2 : World} {p : Nat}
theorem Eff.refl (h : Below w0.heap.size w0 W) : Eff w0 p W W := ⟨h, Nat.le_refl _, fun _ _ h _ _ => h⟩
theorem Eff.trans (h : Eff w0 p W W') (k : Eff w0 p W' W2) : Eff w0 p W W2 := ⟨k.below, Nat.le_trans h.size k.size, fun i o hi hp ho => k.far i o (h.far i o hi hp ho) hp ho⟩
theorem Eff.step (h : Eff w0 p W W') (k : Below W'.heap.size W' W2) : Eff w0 p W W2 := ⟨below_step h.below k, Nat.le_trans h.size k.size, fun i o hi hp ho => blk_below (h.far i o hi hp ho) k⟩
theorem Eff.put (h : Eff w0 p W W') (hp : w0.heap.size ≤ p) (j : Nat) (v : Value) : Eff w0 p W (W'.setCell ⟨p, j, none⟩ v) :=
  ⟨below_set h.below hp, by simpa using h.size, fun i o hi hne ho => (Below.heap_setCell W' ⟨p, j, none⟩ v i hne).trans (h.far i o hi hne ho)⟩
theorem Eff.grown {v : Value} {xs : List Int} {ok : Nat → Prop} (h : Eff w0 p W W') (hg : W'.grownBy W2 v.ownBlock) (hR : Kd.R (Kd.int .u8) 5 W' w0.heap.size ok v xs) : Eff w0 p W W2 := by
  refine ⟨h.below.grown hg h.below.size (fun k hk => Kd.R_base hR k hk), Nat.le_trans h.size hg.size, fun i o hi hp ho => ?_⟩
  have h1 := h.far i o hi hp ho
  refine (hg.block i (blk_lt h1) (fun e => ?_)).trans h1
  obtain ⟨cells, hc⟩ := Kd.R_typed hR i e.symm
  rw [h1] at hc
  exact ho cells (Option.some.inj hc)
theorem Eff.row {g j : Nat} {u : Value} {n cap : Nat} {xs : List Int} {ok : Nat → Prop} (h : Eff w0 p W W') (hR : Kd.R (Kd.int .u8) 5 W' w0.heap.size ok (.slice (some ⟨g, 0, none⟩) n cap) xs) : Eff w0 p W (W'.setCell ⟨g, j, none⟩ u) := by
  refine ⟨below_set h.below (Kd.R_base hR g rfl), by simpa using h.size, fun i o hi hp ho => ?_⟩
  have h1 := h.far i o hi hp ho
  refine (Below.heap_setCell W' ⟨g, j, none⟩ u i (fun e => ?_)).trans h1
  obtain ⟨cells, hc⟩ := Kd.R_typed hR g rfl
  rw [e] at h1
  rw [h1] at hc
  exact ho cells (Option.some.inj hc)
end
theorem bit_val (n : Nat) (i : Nat) (hn : n < 18446744073709551616) : IntKind.u8.wrap (bits .and .u64 ((n : Int) / 2 ^ i) 1) = bi (n.testBit i) := by
  have h1 : (n : Int) / 2 ^ i = ((n / 2 ^ i : Nat) : Int) := by simp
  rw [h1]
  have h2 : bits .and .u64 ((n / 2 ^ i : Nat) : Int) 1 = ((n / 2 ^ i % 2 : Nat) : Int) := by
    have hle : n / 2 ^ i ≤ n := Nat.div_le_self _ _
    generalize n / 2 ^ i = a at hle ⊢
    have e64 : (2 : Int) ^ 64 = 18446744073709551616 := by decide
    have hw : ∀ x : Int, 0 ≤ x → x < 2 ^ 64 → IntKind.u64.wrap x = x := by
      intro x h0 h1
      rw [e64] at h1
      simp [IntKind.wrap, IntKind.bits, IntKind.signed]
      omega
    have h := bits_mask .u64 64 (by decide) hw 1 (by decide) (a : Int) (by omega) (by rw [e64]; omega)
    rw [show ((2 : Int) ^ 1 - 1) = 1 by decide] at h
    rw [h]
    omega
  rw [h2, Nat.testBit_eq_decide_div_mod_eq]
  rcases Nat.mod_two_eq_zero_or_one (n / 2 ^ i) with e | e <;> rw [e] <;> decide
theorem drew_R {v : Value} {xs : List Int} {ok : Nat → Prop} {W : World} {base : Nat} (h : Kd.R (Kd.int .u8) 5 W base ok v xs) : Kd.R (Kd.int .u8) 5 W.drew base ok v xs := Kd.R_drew h
set_option maxRecDepth 100000 in
set_option maxHeartbeats 3200000 in
theorem put_calls (w0 : World) (p width n : Nat) (l : List Bool) (W : World) (hw : width ≤ 63) (hn : n < 18446744073709551616) (hl : l.length + width ≤ 524288) (hp : w0.heap.size ≤ p) (hB : Below w0.heap.size w0 W) (hWr : Wr w0 p l W) :
    Calls Try.prog 101 #[.pointer (some ⟨p, 0, none⟩), .int .i64 (width : Int), .int .u64 (n : Int)] W fun e W' => e = .returned (.tuple #[]) ∧ Wr w0 p (l ++ bitsOf width n) W' ∧ Eff w0 p W W' := by
  have HW := Aside0.mk hWr
  have HEf := Aside0.mk (Eff.refl (p := p) hB)
  have HP := Aside0.mk hp
  clear hWr hB hp
  go_enter Try.func101, Try.ntmps101
  go_wp2_with fail
  go_loopg [6] width (fun gg v6 wr => ∃ (j : Nat), v6 = .int .i64 ((width : Int) - 1 - (j : Int)) ∧ Aside0 (j ≤ width ∧ width - j ≤ gg) ∧ Aside0 (Wr w0 p (l ++ (bitsOf width n).take j) wr) ∧ Aside0 (Eff w0 p W wr))
  case atStart => exact ⟨0, by go_num, ⟨by omega, by omega⟩, ⟨by simpa using HW.out⟩, HEf⟩
  case round =>
    clear HW HEf
    obtain ⟨j, rfl, HJ, HW, EF⟩ := hrel
    obtain ⟨hj1, hj2⟩ := HJ.out
    by_cases hlt : j < width
    · have htk := bitsOf_take width n j hlt
      have HT : Aside0 (l ++ (bitsOf width n).take (j + 1) = (l ++ (bitsOf width n).take j) ++ [n.testBit (width - 1 - j)]) := ⟨by rw [htk, List.append_assoc]⟩
      have hkl : (l ++ (bitsOf width n).take j).length = l.length + j := by rw [List.length_append, List.length_take, bitsOf_len]; omega
      generalize l ++ (bitsOf width n).take j = m at HW HT hkl
      clear htk
      obtain ⟨v, hbp, hrv⟩ := HW.out.ex
      have hpl := pack_len m
      rw [hkl] at hbp
      have HM := Aside0.mk hkl
      have HBL : Aside0 ((pack m).length = (l.length + j + 7) / 8) := ⟨by rw [hpl, hkl]⟩
      obtain ⟨K, hK⟩ : ∃ K, K = l.length + j := ⟨_, rfl⟩
      rw [← hK] at hbp HBL
      obtain ⟨bs, hbs⟩ : ∃ bs, bs = pack m := ⟨_, rfl⟩
      rw [← hbs] at hrv HBL
      have HBS := Aside0.mk hbs
      have HKE := Aside0.mk hK
      have hKb : K ≤ 524287 := by omega
      obtain ⟨I, hI⟩ : ∃ I : Nat, (width : Int) - 1 - (j : Int) = (I : Int) := ⟨width - 1 - j, by omega⟩
      have HI : Aside0 (I = width - 1 - j) := ⟨by omega⟩
      have HLT := Aside0.mk hlt
      rw [hI]
      have hIb : I ≤ 62 := by omega
      have BP := Aside0.mk hbp
      have RV := Aside0.mk hrv
      obtain ⟨A0, c0, e0⟩ := Kd.R_slice hrv
      subst e0
      clear hbp hrv HW hpl hkl hbs hK hI hlt hj1 hj2
      have z0 := (blk_cell BP.out 0).trans rfl
      have z1 := (blk_cell BP.out 1).trans rfl
      have f0 := blk_frozen BP.out 0
      go_upto_if 18 with fail
      go_cut [] from 9 to 59 (fun wc => ∃ (g cap : Nat), Aside0 (wc.heap[p]? = some (.cells #[.slice (some ⟨g, 0, none⟩) (room bs K).length cap, .int .i64 (K : Int), .int .i64 0] 94 (0, 0))) ∧ Aside0 (Kd.R (Kd.int .u8) 5 wc w0.heap.size (fun k => k ≠ p) (.slice (some ⟨g, 0, none⟩) (room bs K).length cap) (room bs K)) ∧ Aside0 (Eff w0 p W wc))
      case first =>
        by_cases h8 : K % 8 = 0
        · have h80 : (((K : Int) % 8) == 0) = true := by simp; omega
          have hrl : (room bs K).length = bs.length + 1 := by unfold room; rw [if_pos h8]; simp
          have hrm : room bs K = bs ++ [0] := by unfold room; rw [if_pos h8]
          have HRM := Aside0.mk (And.intro hrm hrl)
          clear hrm hrl
          go_wp2_with ((with_reducible refine gate_builtin (b := .append) (xs := #[.tmp 23, .tmp 24]) rfl ?_); at_builtin; refine Kd.R_append (Kd.int .u8) (w0 := w0) w0.heap.size rfl (.tmp 23) (.tmp 24) 92 5 (.int .u8 0) 1 rfl Try.underlying92 info5 rfl (by decide) (by omega) _ bs (0 : Int) [.int .u8 0] (fun k => k ≠ p) (fun _ => False) rfl (by first | (go_simp; done) | (go_simp; rfl)) ?aP (fun _ hk => hk.elim) ?aF ?aO ?aB ?aS ?aL ?_; (case aP => exact rfl); (case aO => exact RV.out); (case aF => intro k hk; have := blk_lt BP.out; omega); (case aB => exact EF.out.below); (case aS => exact EF.out.below.size); (case aL => have := HBL.out; omega); intro v9 w9 ho hb9 hg9 hat; have R9 := Aside0.mk ho; have EF9 := Aside0.mk (EF.out.grown hg9 RV.out); have BP9 := Aside0.mk (blk_grown BP.out hg9 (fun e => (RV.out.1 p e.symm) rfl)); clear ho hb9 hg9 hat; obtain ⟨A9, c9, e9⟩ := Kd.R_slice R9.out; subst e9; have zq0 := (blk_cell BP9.out 0).trans rfl; have fq0 := blk_frozen BP9.out 0)
          have R8 := Aside0.mk (Kd.R_far (p := ⟨p, 0, none⟩) R9.out (fun _ hk => hk) (.slice A9 (bs ++ [0]).length c9))
          have B8 := Aside0.mk (blk_put BP9.out 0 (.slice A9 (bs ++ [0]).length c9) rfl)
          have EF8 := Aside0.mk (EF9.out.put HP.out 0 (.slice A9 (bs ++ [0]).length c9))
          obtain ⟨g, cap, e9, _, _, _⟩ := Kd.R_form R8.out (by simp)
          rw [e9] at R8 B8 EF8
          injection e9 with e9 _ e10
          subst e9
          subst e10
          go_meet
          case rel => exact ⟨g, _, ⟨by rw [HRM.out.2]; simpa using B8.out⟩, ⟨by rw [HRM.out.1]; have h := R8.out; rw [show (bs ++ [(0 : Int)]).length = bs.length + 1 by simp] at h ⊢; exact h⟩, ⟨by simpa using EF8.out⟩⟩
        · have h80 : (((K : Int) % 8) == 0) = false := by simp; omega
          have hrm : room bs K = bs := by unfold room; rw [if_neg h8]
          have HRM := Aside0.mk hrm
          have hpos : 0 < bs.length := by have := HBL.out; omega
          clear hrm
          obtain ⟨g, cap, e9, _, _, _⟩ := Kd.R_form RV.out hpos
          injection e9 with e9 _ e10
          subst e9
          subst e10
          go_wp2_with fail
          go_meet
          case rel => exact ⟨g, _, ⟨by rw [HRM.out]; exact BP.out⟩, ⟨by rw [HRM.out]; exact RV.out⟩, EF⟩
      case rest =>
        clear EF BP RV z0 z1 f0 wr
        obtain ⟨g, cap, BP, RV, EF⟩ := hcut
        have HRL : Aside0 ((room bs K).length = (K + 8) / 8) := ⟨room_len bs K HBL.out⟩
        obtain ⟨q, hq⟩ : ∃ q, q = K / 8 := ⟨_, rfl⟩
        obtain ⟨r, hr⟩ : ∃ r, r = K % 8 := ⟨_, rfl⟩
        have HQ := Aside0.mk (And.intro hq hr)
        obtain ⟨rs, hrs⟩ : ∃ rs, rs = room bs K := ⟨_, rfl⟩
        rw [← hrs] at BP RV HRL
        have HRS := Aside0.mk hrs
        have hq1 : (q : Int) < (rs.length : Int) := by have := HRL.out; omega
        have hq0 : (0 : Int) ≤ (q : Int) := by omega
        obtain ⟨x1, x2⟩ := Kd.R_celln (0 : Int) RV.out (q : Int) hq0 hq1
        have hxr : rdOf (0 : Int) rs (q : Int) = rd rs (q : Int) := rfl
        rw [hxr, Int.toNat_natCast] at x1
        rw [Int.toNat_natCast] at x2
        obtain ⟨x, hx⟩ : ∃ x, x = rd rs (q : Int) := ⟨_, rfl⟩
        rw [← hx] at x1
        have HX := Aside0.mk hx
        have z0 := (blk_cell BP.out 0).trans rfl
        have z1 := (blk_cell BP.out 1).trans rfl
        have t1 : (K : Int).tdiv 8 = (q : Int) := by rw [Int.tdiv_eq_ediv_of_nonneg (by omega)]; omega
        have t2 : (K : Int).tmod 8 = (r : Int) := by rw [Int.tmod_eq_emod_of_nonneg (by omega)]; omega
        have wq : IntKind.i64.wrap (q : Int) = q := IntWalk.i64_in _ (by omega)
        obtain ⟨s, hs⟩ : ∃ s : Nat, 7 - (r : Int) = (s : Int) := ⟨7 - r, by omega⟩
        have HS := Aside0.mk hs
        have ws : IntKind.i64.wrap (7 - (r : Int)) = (s : Int) := by rw [hs]; exact IntWalk.i64_in _ (by omega)
        have ws2 : IntKind.i64.wrap (s : Int) = (s : Int) := IntWalk.i64_in _ (by omega)
        have s0 : (0 : Int) ≤ (s : Int) := by omega
        have I0 : (0 : Int) ≤ (I : Int) := by omega
        clear hq hr hrs hxr hx hs
        go_wp2_with fail
        go_still_tail 25, (by kernel_rfl)
        change wpList _ _ _ _ _ wc.drew
        rw [bit_val n I hn]
        have BP2 := Aside0.mk (blk_drew BP.out)
        have RV2 := Aside0.mk (drew_R RV.out)
        have EF2 := Aside0.mk (EF.out.step (below_drew1 (Below.refl _ _)))
        generalize wc.drew = w2 at BP2 RV2 EF2 ⊢
        obtain ⟨B, hB⟩ : ∃ B, B = bi (n.testBit I) := ⟨_, rfl⟩
        rw [← hB]
        have HBB := Aside0.mk hB
        clear x1 x2 z0 z1 hB BP RV EF wc
        obtain ⟨x1, x2⟩ := Kd.R_celln (0 : Int) RV2.out (q : Int) hq0 hq1
        rw [Int.toNat_natCast] at x1 x2
        have HG : Aside0 (p ≠ g) := ⟨fun e => (RV2.out.1 g rfl) e.symm⟩
        go_upto_region 6 with fail
        rw [show bits BinOp.or IntKind.u8 x (B * 2 ^ min s 8 % 256) = orB x B s from rfl]
        have RV3 := Aside0.mk (Kd.R_putg RV2.out (q : Int) (orB x B s)).1
        have BP3 := Aside0.mk (blk_far BP2.out (p := ⟨g, q, none⟩) HG.out (.int .u8 (orB x B s)))
        have EF3 := Aside0.mk (EF2.out.row (j := q) (u := .int .u8 (orB x B s)) RV2.out)
        rw [Int.toNat_natCast] at RV3
        generalize w2.setCell ⟨g, q, none⟩ (.int .u8 (orB x B s)) = w3 at RV3 BP3 EF3 ⊢
        clear x1 x2 RV2 BP2 EF2 w2
        have z1 := (blk_cell BP3.out 1).trans rfl
        have f1 := blk_frozen BP3.out 1
        go_wp2_with fail
        go_roundg (width - (j + 1))
        case measure => have := HJ.out; have := HLT.out; omega
        case rel =>
          have hlt := HLT.out
          have hjj := HJ.out
          have hii := HI.out
          have hKK : (m ++ [n.testBit (width - 1 - j)]).length = K + 1 := by have := HM.out; have := HKE.out; simp; omega
          have hpk : pack (m ++ [n.testBit (width - 1 - j)]) = rs.set q (orB x B s) := by
            have hm : m.length = K := by rw [HM.out, ← HKE.out]
            rw [pack_snoc, hm, ← HBS.out]
            unfold packStep
            rw [← HRS.out, ← HQ.out.1, ← HX.out, ← HI.out, ← HBB.out]
            have : 7 - K % 8 = s := by have := HS.out; have := HQ.out; omega
            rw [this]
          refine ⟨j + 1, by go_num, ⟨by omega, by omega⟩, ⟨?_⟩, ⟨EF3.out.put HP.out 1 _⟩⟩
          rw [HT.out]
          refine ⟨⟨.slice (some ⟨g, 0, none⟩) rs.length cap, blk_put BP3.out 1 _ ?_, ?_⟩⟩
          · rw [hKK]; rfl
          · rw [hpk]
            exact Kd.R_far RV3.out (fun _ hk => hk) _
    · have hjw : j = width := by omega
      subst hjw
      have hn1 : ¬ (0 : Int) ≤ (j : Int) - 1 - (j : Int) := by omega
      have e1 : (bitsOf j n).take j = bitsOf j n := List.take_of_length_le (by rw [bitsOf_len]; exact Nat.le_refl _)
      rw [e1] at HW
      go_wp2_with fail
      go_end0
      exact ⟨rfl, HW.out, EF.out⟩
end Go.Proofs.Ytmbbijhppgkdfaa.P14
