/- hopmeshref02.Writer.Bytes: the bytes of what was written. -/
import Derived.Test.YtmbbijhppgkdfaaGrput
import Derived.Test.YtmbbijhppgkdfaaTpack
import Derived.Laws.MakeOwn
namespace Go.Proofs.Ytmbbijhppgkdfaa.P14
open Go.RowKit Go.Proofs.YtmbbijhppgkdfaaW.PrintWords Go.Proofs.YtmbbijhppgkdfaaW.PrintLast Go.Proofs.YtmbbijhppgkdfaaW.PrintMore
attribute [local go_sem] max2_int min2_int max_two min_two max_three min_three max_four min_four
set_option linter.unusedVariables false
set_option linter.unusedSimpArgs false

def byts (l : List Int) : Array Value := (l.map (Value.int .u8)).toArray
theorem byts_set (l : List Int) (i : Nat) (b : Int) : (byts l).setIfInBounds i (.int .u8 b) = byts (l.set i b) := by
  simp [byts, List.map_set]
theorem byts_get (l : List Int) (i : Nat) (h : i < l.length) : (byts l)[i]? = some (.int .u8 (l.getD i 0)) := by
  simp [byts, List.getD_eq_getElem?_getD, List.getElem?_eq_getElem h]
theorem make_byts (W : World) (m : Nat) (h1 : m ≤ 1000000) : (Instr.makeSlice 92 (.int .i64 (m : Int)) (.int .i64 (m : Int))).run Try.prog W = .ok (.slice (some ⟨W.heap.size, 0, none⟩) m m) (W.alloc (.cells (byts (List.replicate m 0)) 5)) := by
  cases hi : Try.prog.info? 5 with
  | none => have := info5; rw [hi] at this; cases this
  | some i =>
    have h4 := info5
    rw [hi] at h4
    simp only [Option.map_some, Option.some.injEq, Prod.mk.injEq] at h4
    obtain ⟨hz, hs, hb⟩ := h4
    rw [run_make W 92 5 i _ Try.underlying92 hi hz .i64 .i64 (m : Int) (m : Int) (by omega) (Int.le_refl _) (by rw [hb]; omega) (by omega), hs]
    have : madeCells (Value.int .u8 0).cells ((m : Int).toNat * 1) = byts (List.replicate m 0) := by
      apply Array.ext'
      simp [madeCells, byts, Value.cells, Nat.mod_one, List.map_replicate, List.eq_replicate_iff]
    rw [this]
    simp only [Int.toNat_natCast]
theorem make_ev {P : Program} {ops : Array Oper} {o : Oper} {rest : List Oper} {a : Act} {Q : Exit → Act → World → Prop} {W : World} {n : Nat} (hgd : o.guard = none) {N : Tmp} (_hd : o.dst = some N) {cs : Array Value} {t : TypeId}
    (hrun : (execOp a.eval o).run P W = .ok (.value (.slice (some ⟨W.heap.size, 0, none⟩) n n)) (W.alloc (.cells cs t (0, 0))))
    (h : ∀ g, g = W.heap.size → ∀ w1, w1.heap[g]? = some (.cells cs t (0, 0)) → Below W.heap.size W w1 → wpList P ops Q rest (a.put o.dst (.slice (some ⟨g, 0, none⟩) n n)) w1) : wpList P ops Q (o :: rest) a W :=
  Kd.event_run hgd hrun (h _ rfl _ (blk_new W _) (below_alloc (Below.refl _ _) _))
theorem C_byts {W : World} {g : Nat} {st : List Int} (h : W.heap[g]? = some (.cells (byts st) 5 (0, 0))) (hl : st.length ≤ 9223372036854775807) : Kd.C (Kd.int .u8) W (some ⟨g, 0, none⟩) st.length st := by
  refine ⟨rfl, hl, fun _ => ⟨⟨g, 0, none⟩, rfl, fun j p hj => ⟨[.int .u8 p], rfl, rfl, fun i u hi => ?_⟩⟩⟩
  obtain ⟨hjl, hj⟩ := List.getElem?_eq_some_iff.mp hj
  cases i with
  | zero =>
    have hu : u = .int .u8 p := by simpa using hi.symm
    subst hu
    have e : (⟨g, 0, none⟩ : Addr).add (j * 1 + 0) = ⟨g, j, none⟩ := by
      cases j with
      | zero => rfl
      | succ j => simp [Addr.add]
    show W.cell? ((⟨g, 0, none⟩ : Addr).add (j * 1 + 0)) = _
    rw [e, blk_cell h j, byts_get st j hjl, gd_in _ _ hjl, hj]
  | succ i => simp at hi
/-- The bytes, with zeros behind them. -/
def padN (st : List Int) (N : Nat) : List Int := st ++ List.replicate (N - st.length) 0
theorem padN_len (st : List Int) (N : Nat) (h : st.length ≤ N) : (padN st N).length = N := by
  unfold padN
  rw [List.length_append, List.length_replicate]
  omega
theorem padN_room (st : List Int) (k N : Nat) (h : (room st k).length ≤ N) : padN (room st k) N = padN st N := by
  unfold room at h ⊢
  split
  · rename_i h8
    rw [if_pos h8, List.length_append, List.length_singleton] at h
    unfold padN
    rw [List.length_append, List.length_singleton, List.append_assoc]
    congr 1
    rw [show N - st.length = N - (st.length + 1) + 1 by omega, List.replicate_succ]
    rfl
  · rfl
theorem padN_step (l : List Bool) (i N : Nat) (hi : i < l.length) (hN : N = (l.length + 7) / 8) : padN (pack (l.take (i + 1))) N = (padN (pack (l.take i)) N).set (i / 8) (orB (rd (padN (pack (l.take i)) N) ((i / 8 : Nat) : Int)) (bi (l.getD i false)) (7 - i % 8)) := by
  have ht : (l.take i).length = i := by rw [List.length_take]; omega
  have hpl := pack_len (l.take i)
  rw [ht] at hpl
  have hrl := room_len (pack (l.take i)) i hpl
  have hpd := padN_room (pack (l.take i)) i N (by omega)
  rw [List.take_succ_eq_append_getElem hi, pack_snoc, ht, gd_in _ _ hi, ← hpd]
  unfold packStep
  generalize room (pack (l.take i)) i = R at hrl
  unfold padN
  rw [List.length_set, List.set_append_left _ _ (by omega)]
  have e : rd (R ++ List.replicate (N - R.length) 0) ((i / 8 : Nat) : Int) = rd R ((i / 8 : Nat) : Int) := by
    unfold rd
    rw [Int.toNat_natCast, gd_left _ _ _ _ (by omega)]
  rw [e]
theorem padN_none (N : Nat) : padN (pack []) N = List.replicate N 0 := by
  unfold padN
  simp [pack]
theorem padN_all (l : List Bool) (N : Nat) (hN : N = (l.length + 7) / 8) : padN (pack (l.take l.length)) N = pack l := by
  rw [List.take_length]
  unfold padN
  rw [pack_len, hN, Nat.sub_self]
  simp
set_option maxRecDepth 100000 in
set_option maxHeartbeats 3200000 in
theorem bytes2_calls (w0 : World) (p : Nat) (l : List Bool) (W : World) (hWr : Wr2 w0 p l W) (hl : l.length ≤ 524288) : Calls Try.prog 39 #[.pointer (some ⟨p, 0, none⟩)] W fun e W' => e = .returned (.tuple #[.string (strOfNums (pack l)), .int .i64 0]) ∧ Below W.heap.size W W' := by
  obtain ⟨v, hb, hr⟩ := hWr.ex
  obtain ⟨A, c, e, hc0, hC⟩ := Kd.R_reads hr
  subst e
  rw [List.length_map] at hb hC
  have BP := Aside0.mk hb
  have HC := Aside0.mk hC
  have HL := Aside0.mk hl
  obtain ⟨N, hN⟩ : ∃ N, N = (l.length + 7) / 8 := ⟨_, rfl⟩
  have HN := Aside0.mk hN
  have z0 := (blk_cell BP.out 0).trans rfl
  have z1 := (blk_cell BP.out 1).trans rfl
  have t1 : ((l.length : Int) + 7).tdiv 8 = (N : Int) := by rw [Int.tdiv_eq_ediv_of_nonneg (by omega)]; omega
  have hNb : N ≤ 65536 := by omega
  clear hb hr hWr hC hN
  go_enter Try.func39, Try.ntmps39
  go_wp2_with (first | ((with_reducible refine gate_dst (N := 22) rfl ?_); refine make_ev (n := N) ?hg (N := 22) ?hd (cs := byts (List.replicate N 0)) (t := 5) ?hr ?_; (case hd => rfl); (case hg => rfl); (case hr => go_simp; rw [make_byts _ _ (by omega)]; rfl); intro gs hg w9 hbox hb; have BS := Aside0.mk hbox; have HS := Aside0.mk hb; have GS := Aside0.mk hg; clear hg hbox hb))
  have BP2 := Aside0.mk (blk_below BP.out HS.out)
  have NG : Aside0 (p ≠ gs) := ⟨by have := blk_lt BP.out; have := GS.out; omega⟩
  clear z0 z1 t1
  go_loopg [5] l.length (fun gg v5 wr => ∃ (i : Nat), v5 = .int .i64 (i : Int) ∧ Aside0 (i ≤ l.length ∧ l.length - i ≤ gg) ∧ Aside0 (wr.heap[gs]? = some (.cells (byts (padN (pack (l.take i)) N)) 5 (0, 0))) ∧ Aside0 (Below W.heap.size W wr))
  case atStart => exact ⟨0, rfl, ⟨by omega, by omega⟩, ⟨by rw [List.take_zero, padN_none]; exact BS.out⟩, ⟨HS.out⟩⟩
  case round =>
    clear BS HS BP2
    obtain ⟨i, rfl, HI, BS, R⟩ := hrel
    obtain ⟨hi1, hi2⟩ := HI.out
    have z0 := (blk_cell (blk_below BP.out R.out) 0).trans rfl
    by_cases hlt : i < l.length
    · have HLT := Aside0.mk hlt
      have HST := Aside0.mk (padN_step l i N hlt HN.out)
      have HSL := Aside0.mk (padN_len (pack (l.take i)) N (by rw [pack_len, List.length_take]; have := HN.out; omega))
      obtain ⟨st, hst⟩ : ∃ st, st = padN (pack (l.take i)) N := ⟨_, rfl⟩
      rw [← hst] at HST HSL BS
      obtain ⟨b, hb⟩ : ∃ b, b = bi (l.getD i false) := ⟨_, rfl⟩
      rw [← hb] at HST
      obtain ⟨ad, cc, rfl, hcl, hk, hcell⟩ := Kd.C_get HC.out 0 (i : Int) (by omega) (by omega)
      have hgd : (l.map bi).getD i 0 = b := by
        rw [hb, gd_in _ _ (by rw [List.length_map]; exact hlt), gd_in _ _ hlt, List.getElem_map]
      rw [Int.toNat_natCast, hgd] at hk
      have hk : cc = [Value.int .u8 b] := hk
      subst hk
      have x0 := hcell 0 _ rfl
      rw [Int.toNat_natCast] at x0
      have x0 : W.cell? (ad.add i) = some (.int .u8 b) := by simpa [Kd.int, Kd.scalar] using x0
      replace x0 := (R.out.cell (World.block_lt_of_cell? W _ x0)).trans x0
      obtain ⟨q, hq⟩ : ∃ q, q = i / 8 := ⟨_, rfl⟩
      obtain ⟨r, hr⟩ : ∃ r, r = i % 8 := ⟨_, rfl⟩
      rw [← hq, ← hr] at HST
      have hqN : q < N := by have := HN.out; omega
      have y0 := blk_cell BS.out q
      rw [byts_get st q (by rw [HSL.out]; exact hqN)] at y0
      have y1 := blk_frozen BS.out q
      have hxr : st.getD q 0 = rd st (q : Int) := by unfold rd; rw [Int.toNat_natCast]
      rw [hxr] at y0
      obtain ⟨x, hx⟩ : ∃ x, x = rd st (q : Int) := ⟨_, rfl⟩
      rw [← hx] at y0 HST
      have t1 : (i : Int).tdiv 8 = (q : Int) := by rw [Int.tdiv_eq_ediv_of_nonneg (by omega)]; omega
      have t2 : (i : Int).tmod 8 = (r : Int) := by rw [Int.tmod_eq_emod_of_nonneg (by omega)]; omega
      have wq : IntKind.i64.wrap (q : Int) = q := IntWalk.i64_in _ (by omega)
      obtain ⟨s, hs⟩ : ∃ s : Nat, 7 - (r : Int) = (s : Int) := ⟨7 - r, by omega⟩
      have HS7 : Aside0 (7 - r = s) := ⟨by omega⟩
      have ws : IntKind.i64.wrap (7 - (r : Int)) = (s : Int) := by rw [hs]; exact IntWalk.i64_in _ (by omega)
      have ws2 : IntKind.i64.wrap (s : Int) = (s : Int) := IntWalk.i64_in _ (by omega)
      have s0 : (0 : Int) ≤ (s : Int) := by omega
      have q0 : (0 : Int) ≤ (q : Int) := by omega
      have q1 : (q : Int) < (N : Int) := by omega
      have i0 : (0 : Int) ≤ (i : Int) := by omega
      have i1 : (i : Int) < (l.length : Int) := by omega
      have HST0 := Aside0.mk hst
      clear hq hr hb hst hx hxr hgd hcell hcl hs
      go_wp2_with fail
      go_still_tail 21, (by kernel_rfl)
      change wpList _ _ _ _ _ wr.drew
      have BS2 := Aside0.mk (blk_drew BS.out)
      have R2 := Aside0.mk (below_drew R.out)
      generalize wr.drew = w2 at BS2 R2 ⊢
      clear x0 y0 y1 z0 BS R wr
      have y0 := blk_cell BS2.out q
      rw [byts_get st q (by rw [HSL.out]; exact hqN)] at y0
      have y1 := blk_frozen BS2.out q
      go_wp2_with fail
      rw [show bits BinOp.or IntKind.u8 x (b * 2 ^ min s 8 % 256) = orB x b s from rfl]
      have BS3 := Aside0.mk (blk_put BS2.out q (.int .u8 (orB x b s)) rfl)
      rw [byts_set] at BS3
      have hgs : W.heap.size ≤ gs := by have := GS.out; omega
      have R3 := Aside0.mk (below_set (g := gs) (j := q) (v := .int .u8 (orB x b s)) R2.out hgs)
      go_roundg (l.length - (i + 1))
      case measure => have := HI.out; have := HLT.out; omega
      case rel =>
        have := HLT.out
        exact ⟨i + 1, by go_num, ⟨by omega, by omega⟩, ⟨by rw [HST.out, HS7.out]; exact BS3.out⟩, R3⟩
    · have hie : i = l.length := by omega
      subst hie
      have HE := Aside0.mk (padN_all l N HN.out)
      have HCB := Aside0.mk (C_byts BS.out (by rw [HE.out, pack_len]; omega))
      rw [HE.out] at HCB
      have hNl : (pack l).length = N := by rw [pack_len]; exact HN.out.symm
      have hcv := Kd.C_string (c := N) Try.underlying92 Try.underlying5 Try.underlying9 HCB.out
      rw [hNl] at hcv
      obtain ⟨S, hS⟩ : ∃ S, S = strOfNums (pack l) := ⟨_, rfl⟩
      rw [← hS] at hcv
      have HSS := Aside0.mk hS
      clear hS
      go_wp2_with fail
      go_ret2
      exact ⟨by rw [← HSS.out]; rfl, R.out⟩
end Go.Proofs.Ytmbbijhppgkdfaa.P14
