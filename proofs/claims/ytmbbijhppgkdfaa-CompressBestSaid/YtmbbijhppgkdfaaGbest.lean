/- compress.Best: what it answers. -/
import Derived.Test.YtmbbijhppgkdfaaGsfun
import Derived.Test.YtmbbijhppgkdfaaGcomp
import Derived.Test.YtmbbijhppgkdfaaTrbest
namespace Go.Proofs.Ytmbbijhppgkdfaa.P14
open Go.RowKit Go.Proofs.YtmbbijhppgkdfaaW.PrintWords Go.Proofs.YtmbbijhppgkdfaaW.PrintLast Go.Proofs.YtmbbijhppgkdfaaW.PrintMore
attribute [local go_sem] max2_int min2_int max_two min_two max_three min_three max_four min_four
set_option linter.unusedVariables false
set_option linter.unusedSimpArgs false
open Go.Sort Go.Proofs Go.Maps Go.WideMaps

def BestR (hs : List S24) (most : Int) (r : List S26) : Prop := (¬ (1 ≤ most ∧ most ≤ 8) → r = []) ∧ (1 ≤ most ∧ most ≤ 8 → ∃ ks, Keyd (occS hs) ks ∧ r = (ks.take most.toNat).map ctxL)
theorem hd7 {W : World} {g t : Nat} {a0 a1 a2 a3 a4 a5 a6 : Value} (h : W.heap[g]? = some (.cells #[a0, a1, a2, a3, a4, a5, a6] t (0, 0))) : W.cell? ⟨g, 0, none⟩ = some a0 ∧ W.cell? ⟨g, 1, none⟩ = some a1 ∧ W.cell? ⟨g, 2, none⟩ = some a2 ∧ W.cell? ⟨g, 3, none⟩ = some a3 ∧ W.cell? ⟨g, 4, none⟩ = some a4 ∧ W.cell? ⟨g, 5, none⟩ = some a5 ∧ W.cell? ⟨g, 6, none⟩ = some a6 ∧ W.frozen? ⟨g, 0, none⟩ = false ∧ W.frozen? ⟨g, 1, none⟩ = false ∧ W.frozen? ⟨g, 2, none⟩ = false ∧ W.frozen? ⟨g, 3, none⟩ = false ∧ W.frozen? ⟨g, 4, none⟩ = false ∧ W.frozen? ⟨g, 5, none⟩ = false ∧ W.frozen? ⟨g, 6, none⟩ = false :=
  ⟨(blk_cell h 0).trans rfl, (blk_cell h 1).trans rfl, (blk_cell h 2).trans rfl, (blk_cell h 3).trans rfl, (blk_cell h 4).trans rfl, (blk_cell h 5).trans rfl, (blk_cell h 6).trans rfl, blk_frozen h 0, blk_frozen h 1, blk_frozen h 2, blk_frozen h 3, blk_frozen h 4, blk_frozen h 5, blk_frozen h 6⟩
theorem hs7 {W : World} {g t : Nat} {a0 a1 a2 a3 a4 a5 a6 b0 b1 b2 b3 b4 b5 b6 : Value} (h : W.heap[g]? = some (.cells #[a0, a1, a2, a3, a4, a5, a6] t (0, 0))) : (((((((W.setCell ⟨g, 0, none⟩ b0).setCell ⟨g, 1, none⟩ b1).setCell ⟨g, 2, none⟩ b2).setCell ⟨g, 3, none⟩ b3).setCell ⟨g, 4, none⟩ b4).setCell ⟨g, 5, none⟩ b5).setCell ⟨g, 6, none⟩ b6).heap[g]? = some (.cells #[b0, b1, b2, b3, b4, b5, b6] t (0, 0)) := by
  have h0 : (W.setCell ⟨g, 0, none⟩ b0).heap[g]? = some (.cells #[b0, a1, a2, a3, a4, a5, a6] t (0, 0)) := blk_put h 0 b0 rfl
  have h1 : ((W.setCell ⟨g, 0, none⟩ b0).setCell ⟨g, 1, none⟩ b1).heap[g]? = some (.cells #[b0, b1, a2, a3, a4, a5, a6] t (0, 0)) := blk_put h0 1 b1 rfl
  have h2 : (((W.setCell ⟨g, 0, none⟩ b0).setCell ⟨g, 1, none⟩ b1).setCell ⟨g, 2, none⟩ b2).heap[g]? = some (.cells #[b0, b1, b2, a3, a4, a5, a6] t (0, 0)) := blk_put h1 2 b2 rfl
  have h3 : ((((W.setCell ⟨g, 0, none⟩ b0).setCell ⟨g, 1, none⟩ b1).setCell ⟨g, 2, none⟩ b2).setCell ⟨g, 3, none⟩ b3).heap[g]? = some (.cells #[b0, b1, b2, b3, a4, a5, a6] t (0, 0)) := blk_put h2 3 b3 rfl
  have h4 : (((((W.setCell ⟨g, 0, none⟩ b0).setCell ⟨g, 1, none⟩ b1).setCell ⟨g, 2, none⟩ b2).setCell ⟨g, 3, none⟩ b3).setCell ⟨g, 4, none⟩ b4).heap[g]? = some (.cells #[b0, b1, b2, b3, b4, a5, a6] t (0, 0)) := blk_put h3 4 b4 rfl
  have h5 : ((((((W.setCell ⟨g, 0, none⟩ b0).setCell ⟨g, 1, none⟩ b1).setCell ⟨g, 2, none⟩ b2).setCell ⟨g, 3, none⟩ b3).setCell ⟨g, 4, none⟩ b4).setCell ⟨g, 5, none⟩ b5).heap[g]? = some (.cells #[b0, b1, b2, b3, b4, b5, a6] t (0, 0)) := blk_put h4 5 b5 rfl
  have h6 : (((((((W.setCell ⟨g, 0, none⟩ b0).setCell ⟨g, 1, none⟩ b1).setCell ⟨g, 2, none⟩ b2).setCell ⟨g, 3, none⟩ b3).setCell ⟨g, 4, none⟩ b4).setCell ⟨g, 5, none⟩ b5).setCell ⟨g, 6, none⟩ b6).heap[g]? = some (.cells #[b0, b1, b2, b3, b4, b5, b6] t (0, 0)) := blk_put h5 6 b6 rfl
  exact h6
theorem hb7 {w0 W : World} {g : Nat} {b0 b1 b2 b3 b4 b5 b6 : Value} (h : Below w0.heap.size w0 W) (hg : w0.heap.size ≤ g) : Below w0.heap.size w0 (((((((W.setCell ⟨g, 0, none⟩ b0).setCell ⟨g, 1, none⟩ b1).setCell ⟨g, 2, none⟩ b2).setCell ⟨g, 3, none⟩ b3).setCell ⟨g, 4, none⟩ b4).setCell ⟨g, 5, none⟩ b5).setCell ⟨g, 6, none⟩ b6) :=
  below_set (below_set (below_set (below_set (below_set (below_set (below_set h hg) hg) hg) hg) hg) hg) hg
theorem hf7 {W : World} {g q t : Nat} {cs : Array Value} {b0 b1 b2 b3 b4 b5 b6 : Value} (h : W.heap[q]? = some (.cells cs t (0, 0))) (hq : q ≠ g) : (((((((W.setCell ⟨g, 0, none⟩ b0).setCell ⟨g, 1, none⟩ b1).setCell ⟨g, 2, none⟩ b2).setCell ⟨g, 3, none⟩ b3).setCell ⟨g, 4, none⟩ b4).setCell ⟨g, 5, none⟩ b5).setCell ⟨g, 6, none⟩ b6).heap[q]? = some (.cells cs t (0, 0)) :=
  blk_far (blk_far (blk_far (blk_far (blk_far (blk_far (blk_far h (p := ⟨g, 0, none⟩) hq b0) (p := ⟨g, 1, none⟩) hq b1) (p := ⟨g, 2, none⟩) hq b2) (p := ⟨g, 3, none⟩) hq b3) (p := ⟨g, 4, none⟩) hq b4) (p := ⟨g, 5, none⟩) hq b5) (p := ⟨g, 6, none⟩) hq b6
theorem hp7 {W : World} {g q : Nat} {b0 b1 b2 b3 b4 b5 b6 : Value} (hq : q ≠ g) : (((((((W.setCell ⟨g, 0, none⟩ b0).setCell ⟨g, 1, none⟩ b1).setCell ⟨g, 2, none⟩ b2).setCell ⟨g, 3, none⟩ b3).setCell ⟨g, 4, none⟩ b4).setCell ⟨g, 5, none⟩ b5).setCell ⟨g, 6, none⟩ b6).heap[q]? = W.heap[q]? :=
  (Below.heap_setCell _ ⟨g, 6, none⟩ _ q hq).trans ((Below.heap_setCell _ ⟨g, 5, none⟩ _ q hq).trans ((Below.heap_setCell _ ⟨g, 4, none⟩ _ q hq).trans ((Below.heap_setCell _ ⟨g, 3, none⟩ _ q hq).trans ((Below.heap_setCell _ ⟨g, 2, none⟩ _ q hq).trans ((Below.heap_setCell _ ⟨g, 1, none⟩ _ q hq).trans (Below.heap_setCell _ ⟨g, 0, none⟩ _ q hq))))))
def BestPost (hs : List S24) (most : Int) (w : World) (e : Ending) (w' : World) : Prop := ∃ v r, e = .returned v ∧ BestR hs most r ∧ Kd.R k26 26 w' w.heap.size (fun _ => True) v r ∧ Below w.heap.size w w'
theorem Mp.drew {W : World} {Bc bm n : Nat} {D : DM} (h : Mp W Bc bm n D) : Mp W.drew Bc bm n D := h.far rfl rfl
theorem Mp.grown {W W' : World} {Bc bm n : Nat} {D : DM} (h : Mp W Bc bm n D) {row : Option Nat} (hg : W.grownBy W' row) (h1 : some Bc ≠ row) (h2 : some bm ≠ row) : Mp W' Bc bm n D := h.far (hg.block Bc h.lt.1 h1) (hg.block bm h.lt.2 h2)
theorem cnt_wf (n : Nat) (h : n < 1000000) : (Lit.int .i64 ((n : Int) + 1)).wf = true := by
  simp [Lit.wf, IntKind.min, IntKind.max, IntKind.bits, IntKind.signed]
  omega
set_option maxRecDepth 100000 in
/-- What a look-up answers before the count grows. -/
theorem Mp.look {W : World} {Bc bm n : Nat} {D : DM} {occ : List (List UInt8)} (h : Mp W Bc bm n D) (hD : Cnt D occ) (b : ByteArray) (hb : b.size ≤ maxLen) : (Instr.lookup 73 (.map (some bm)) (.string b) false).run Try.prog W = .ok (.int .i64 (occ.count b.data.toList : Int)) W := by
  obtain ⟨ca, la, ta, _⟩ := h.own.lookup_int law9 Try.underlying73 Try.underlying3 (zero3 _) (key := .string b) (keyOf_string_mk Try.underlying9 hb)
  rw [hD.at] at ta
  have ea : ca = (occ.count b.data.toList : Int) := by injection ta with ta; injection ta with _ ta; exact ta.symm
  rw [la, ea]
theorem cnt_wrap (n : Nat) (h : n < 1000000) : IntKind.i64.wrap ((n : Int) + 1) = (n : Int) + 1 := by
  rw [IntKind.wrap_i64]
  omega
theorem cnt_lt {occ : List (List UInt8)} (h : occ.length ≤ 100) (s : List UInt8) : occ.count s < 1000000 := by
  have := List.count_le_length (a := s) (l := occ)
  omega
theorem keys52 (bm : Nat) (W : World) : Calls Try.prog 52 #[.map (some bm)] W fun e w' => e = .returned (.func (.func 87) #[] #[.pointer (some ⟨W.heap.size, 0, none⟩)]) ∧ w' = W.alloc (.cells #[.map (some bm)] 73 (0, 0)) := by
  go_enter Try.func52, Try.ntmps52
  go_wp2_with fail
  go_ret
  exact ⟨rfl, rfl⟩
theorem occS_short (hs : List S24) : ∀ s ∈ occS hs, s.length ≤ 100 := by
  intro s h
  obtain ⟨x, _, hx⟩ := List.mem_flatMap.mp h
  unfold occH at hx
  split at hx
  · simp only [List.mem_cons, List.not_mem_nil, or_false] at hx
    rcases hx with rfl | rfl <;> (rw [List.length_take]; omega)
  · simp at hx
def ctxB (x : BS) : S26 := ⟨x.1⟩
theorem ctxB_eq (x : BS) : ctxB x = ctxL (dataB x) := rfl
set_option maxRecDepth 100000 in
set_option maxHeartbeats 6400000 in
theorem best_calls (A : Option Addr) (c : Nat) (hs : List S24) (most : Int) (w : World) (hr : Kd.C k24 w A hs.length hs) (hc : hs.length ≤ c) (hl : hs.length ≤ 20) :
    Calls Try.prog 29 #[.slice A hs.length c, .int .i64 most] w (BestPost hs most w) := by
  have hu24 := Try.underlying24
  have hu26 := Try.underlying26
  have hmm := @run_makeMap Try.prog
  have HR := Aside0.mk hr
  have HL := Aside0.mk hl
  clear hr hc
  by_cases hm : 1 ≤ most ∧ most ≤ 8
  · obtain ⟨m1, m2⟩ := hm
    have M1 : decide (most < 1) = false := decide_eq_false (by omega)
    have M2 : decide (most > 8) = false := decide_eq_false (by omega)
    go_enter Try.func29, Try.ntmps29
    go_wp2_with fail
    have M0 : Aside0 (Mp ((w.alloc (.map #[] 0)).alloc (.cells #[.map (some w.heap.size)] 73 (0, 0))) (w.heap.size + 1) w.heap.size 0 (.map [])) := ⟨⟨by simpa using blk_new (w.alloc (.map #[] 0)) (.cells #[.map (some w.heap.size)] 73 (0, 0)), (World.ownsMap_made w _ _ _).alloc _⟩⟩
    have B0 : Aside0 (Below w.heap.size w ((w.alloc (.map #[] 0)).alloc (.cells #[.map (some w.heap.size)] 73 (0, 0)))) := ⟨below_alloc (below_alloc (Below.refl _ _) _) _⟩
    generalize (w.alloc (.map #[] 0)).alloc (.cells #[.map (some w.heap.size)] 73 (0, 0)) = wi at M0 B0 ⊢
    obtain ⟨bm, hbm⟩ : ∃ bm, bm = w.heap.size := ⟨_, rfl⟩
    obtain ⟨Bc, hBc⟩ : ∃ Bc, Bc = w.heap.size + 1 := ⟨_, rfl⟩
    rw [← hBc, ← hbm] at M0
    rw [← hBc]
    rw [← hbm]
    have HBB : Aside0 (bm = w.heap.size ∧ Bc = w.heap.size + 1) := ⟨⟨hbm, hBc⟩⟩
    clear hbm hBc
    go_loopg [21] hs.length (fun gg v21 wr => ∃ i : Nat, v21 = .int .i64 (i : Int) ∧ Aside0 (i ≤ hs.length ∧ hs.length - i ≤ gg) ∧ Aside0 (∃ D, Mp wr Bc bm (2 * i) D ∧ Cnt D (occS (hs.take i))) ∧ Aside0 (Below w.heap.size w wr))
    case atStart => exact ⟨0, rfl, ⟨by omega, by omega⟩, ⟨⟨_, M0.out, by rw [List.take_zero]; exact Cnt.nil⟩⟩, B0⟩
    case round =>
      clear M0 B0 hmm
      obtain ⟨i, rfl, HI, HM, HB⟩ := hrel
      obtain ⟨hi1, hi2⟩ := HI.out
      by_cases hlt : i < hs.length
      · have HLT := Aside0.mk hlt
        have hltz : (i : Int) < (hs.length : Int) := by omega
        obtain ⟨ad, rfl, x0, x1, x2, x3, x4, x5, x6⟩ := at_T24 (Kd.C_below HR.out HB.out) (i : Int) (by omega) (by omega)
        rw [Int.toNat_natCast] at x0 x1 x2 x3 x4 x5 x6
        have HOS := Aside0.mk (occS_succ hs i hlt)
        have HOL := Aside0.mk (occS_len (hs.take i))
        obtain ⟨D, hM, hD⟩ := HM.out
        have HMp := Aside0.mk hM
        have HD := Aside0.mk hD
        obtain ⟨occ, hocc⟩ : ∃ occ, occ = occS (hs.take i) := ⟨_, rfl⟩
        rw [← hocc] at HD HOL HOS
        generalize rd_T24 hs (i : Int) = h at *
        obtain ⟨a0, a1, a2, a3, a4, a5, a6⟩ := h
        dsimp only at x0 x1 x2 x3 x4 x5 x6
        have HHO := Aside0.mk hocc
        clear hM hD HM hocc
        go_upto_region 7 with ((with_reducible refine gate_dst (N := 7) rfl ?_); refine bx_ 7 #[.int .i64 0, .int .i64 0, .string (⟨#[]⟩ : ByteArray), .string (⟨#[]⟩ : ByteArray), .int .i64 0, .int .i64 0, .int .i64 0] 24 ?_; intro gx hgx w1 hbox hb; have HB1 := Aside0.mk (below_step HB.out hb); have HM1 := Aside0.mk (HMp.out.below hb); have BX1 := Aside0.mk hbox; have HGX : Aside0 (w.heap.size ≤ gx ∧ gx ≠ Bc ∧ gx ≠ bm) := ⟨by have := HB.out.size; have := HMp.out.lt; omega⟩; obtain ⟨z0, z1, z2, z3, z4, z5, z6, z7, z8, z9, z10, z11, z12, z13⟩ := hd7 hbox; clear hb hbox hgx HB HMp)
        have hBX := hs7 (b0 := (.int .i64 a0)) (b1 := (.int .i64 a1)) (b2 := (.string a2)) (b3 := (.string a3)) (b4 := (.int .i64 a4)) (b5 := (.int .i64 a5)) (b6 := (.int .i64 a6)) BX1.out
        have hBB := hb7 (b0 := (.int .i64 a0)) (b1 := (.int .i64 a1)) (b2 := (.string a2)) (b3 := (.string a3)) (b4 := (.int .i64 a4)) (b5 := (.int .i64 a5)) (b6 := (.int .i64 a6)) HB1.out HGX.out.1
        have hBM : Mp (((((((w1.setCell ⟨gx, 0, none⟩ (.int .i64 a0)).setCell ⟨gx, 1, none⟩ (.int .i64 a1)).setCell ⟨gx, 2, none⟩ (.string a2)).setCell ⟨gx, 3, none⟩ (.string a3)).setCell ⟨gx, 4, none⟩ (.int .i64 a4)).setCell ⟨gx, 5, none⟩ (.int .i64 a5)).setCell ⟨gx, 6, none⟩ (.int .i64 a6)) Bc bm (2 * i) D := HM1.out.far (hp7 (b0 := (.int .i64 a0)) (b1 := (.int .i64 a1)) (b2 := (.string a2)) (b3 := (.string a3)) (b4 := (.int .i64 a4)) (b5 := (.int .i64 a5)) (b6 := (.int .i64 a6)) HGX.out.2.1.symm) (hp7 (b0 := (.int .i64 a0)) (b1 := (.int .i64 a1)) (b2 := (.string a2)) (b3 := (.string a3)) (b4 := (.int .i64 a4)) (b5 := (.int .i64 a5)) (b6 := (.int .i64 a6)) HGX.out.2.2.symm)
        generalize (((((((w1.setCell ⟨gx, 0, none⟩ (.int .i64 a0)).setCell ⟨gx, 1, none⟩ (.int .i64 a1)).setCell ⟨gx, 2, none⟩ (.string a2)).setCell ⟨gx, 3, none⟩ (.string a3)).setCell ⟨gx, 4, none⟩ (.int .i64 a4)).setCell ⟨gx, 5, none⟩ (.int .i64 a5)).setCell ⟨gx, 6, none⟩ (.int .i64 a6)) = w2 at hBX hBB hBM ⊢
        have BX2 := Aside0.mk hBX
        have HB2 := Aside0.mk hBB
        have HM2 := Aside0.mk hBM
        clear hBX hBB hBM BX1 HB1 HM1 z0 z1 z2 z3 z4 z5 z6 z7 z8 z9 z10 z11 z12 z13
        obtain ⟨z0, z1, z2, z3, z4, z5, z6, z7, z8, z9, z10, z11, z12, z13⟩ := hd7 BX2.out
        have HK : Aside0 (∀ W, Calls Try.prog 20 #[.agg #[.int .i64 a0, .int .i64 a1, .string a2, .string a3, .int .i64 a4, .int .i64 a5, .int .i64 a6]] W fun e w' => e = .returned (.int .i64 (if okB ⟨a0, a1, a2, a3, a4, a5, a6⟩ = true then 0 else 1)) ∧ Below W.heap.size W w') := ⟨fun W => compress_Check.calls 1 a0 a1 a2 a3 a4 a5 a6 _ W (check_eq 0 a0 a1 a2 a3 a4 a5 a6)⟩
        by_cases ho : okB ⟨a0, a1, a2, a3, a4, a5, a6⟩ = true
        · have HOH : Aside0 (occH ⟨a0, a1, a2, a3, a4, a5, a6⟩ = [a2.data.toList.take 3, a3.data.toList.take 3]) := ⟨by unfold occH; rw [if_pos ho]⟩
          have hok := (okB_iff _).mp ho
          have s2 := hok.f2
          have s3 := hok.f3
          dsimp only at s2 s3
          rw [if_pos ho] at HK
          have HS := Aside0.mk (And.intro s2 s3)
          clear ho hok
          go_wp2_with (go_at_call 20; refine (HK.out _).mono ?_; rintro e w3 ⟨rfl, hb⟩; have HB3 := Aside0.mk (below_step HB2.out hb); have HM3 := Aside0.mk (HM2.out.below hb); have BX3 := Aside0.mk (blk_below BX2.out hb); clear hb HB2 HM2 BX2 z0 z1 z2 z3 z4 z5 z6 z7 z8 z9 z10 z11 z12 z13; obtain ⟨y0, y1, y2, y3, y4, y5, y6, y7, y8, y9, y10, y11, y12, y13⟩ := hd7 BX3.out; have zc := (blk_cell HM3.out.box 0).trans rfl)
          have e8 : (a2.extract 0 3).data.toList = a2.data.toList.take 3 := take3 a2
          have z8 : (a2.extract 0 3).size ≤ maxLen := by unfold maxLen; have := HS.out.1; have := HS.out.2; simp [ByteArray.size_extract]; omega
          have c8 := HD.out.put (a2.extract 0 3).data.toList
          have k8 : (occ).count (a2.extract 0 3).data.toList < 1000000 := cnt_lt (by have := HOL.out; have := HL.out; have : (List.take i hs).length ≤ hs.length := List.length_take_le' _ _; omega) _
          have l8 := HM3.out.drew.look HD.out (a2.extract 0 3) z8
          have p8 := cnt_wrap _ k8
          have n8 : (2 * i) < maxLen := by unfold maxLen; have := HI.out; have := HL.out; omega
          generalize (occ).count (a2.extract 0 3).data.toList = q8 at c8 k8 l8 p8
          have C8 := Aside0.mk c8
          clear c8 e8
          go_wp2_with fail
          go_still_tail 6, (by kernel_rfl)
          change wpList _ _ _ _ _ w3.drew
          have HM48 := Aside0.mk HM3.out.drew
          have HB48 : Aside0 (Below w.heap.size w w3.drew) := ⟨below_drew HB3.out⟩
          have HX48 : Aside0 (w3.drew.heap[gx]? = _) := ⟨BX3.out⟩
          generalize w3.drew = w48 at HM48 HB48 HX48 l8 ⊢
          clear HM3 HB3 BX3
          go_wp2_with (at_mapUpdate; refine wpList_mapUpdate_own _ rfl _ _ _ 73 rfl 9 3 law9 Try.underlying73 _ bm _ D rfl HM48.out.own n8 _ _ _ rfl rfl (keyOf_string_mk Try.underlying9 z8) _ [] (plainElem_int Try.underlying3 (cnt_wf _ k8)) ?_; intro w5 hown hgrow; have MQ8 := Aside0.mk hown; have MG8 := Aside0.mk hgrow; clear hown hgrow l8 k8 p8 z8 n8)
          have HM5 : Aside0 (Mp w5 Bc bm (2 * i + 1) (D.put (.string (a2.extract 0 3).data.toList) (.lit (.int .i64 ((q8 : Int) + 1))))) := ⟨⟨(MG8.out.block Bc HM48.out.lt.1 (by have := HBB.out; intro h; injection h; omega)).trans HM48.out.box, MQ8.out⟩⟩
          have HB5 : Aside0 (Below w.heap.size w w5) := ⟨HB48.out.grown MG8.out HB48.out.size (fun k hk => by injection hk with hk; have := HBB.out; omega)⟩
          have HX5 : Aside0 (w5.heap[gx]? = _) := ⟨(MG8.out.block gx (blk_lt HX48.out) (by have := HGX.out; intro h; injection h; omega)).trans HX48.out⟩
          have HD5 : Aside0 (Cnt (D.put (.string (a2.extract 0 3).data.toList) (.lit (.int .i64 ((q8 : Int) + 1)))) (occ ++ [a2.data.toList.take 3])) := ⟨by rw [← take3]; exact C8.out⟩
          generalize D.put (.string (a2.extract 0 3).data.toList) (.lit (.int .i64 ((q8 : Int) + 1))) = D5 at HM5 HD5
          clear MG8 MQ8 HB48 HM48 HX48 C8 y0 y1 y2 y3 y4 y5 y6 y7 y8 y9 y10 y11 y12 y13 zc
          obtain ⟨y0, y1, y2, y3, y4, y5, y6, y7, y8, y9, y10, y11, y12, y13⟩ := hd7 HX5.out
          have zc := (blk_cell HM5.out.box 0).trans rfl
          have e9 : (a3.extract 0 3).data.toList = a3.data.toList.take 3 := take3 a3
          have z9 : (a3.extract 0 3).size ≤ maxLen := by unfold maxLen; have := HS.out.1; have := HS.out.2; simp [ByteArray.size_extract]; omega
          have c9 := HD5.out.put (a3.extract 0 3).data.toList
          have k9 : (occ ++ [a2.data.toList.take 3]).count (a3.extract 0 3).data.toList < 1000000 := cnt_lt (by have := HOL.out; have := HL.out; have : (List.take i hs).length ≤ hs.length := List.length_take_le' _ _; simp only [List.length_append, List.length_singleton]; omega) _
          have l9 := HM5.out.drew.look HD5.out (a3.extract 0 3) z9
          have p9 := cnt_wrap _ k9
          have n9 : (2 * i + 1) < maxLen := by unfold maxLen; have := HI.out; have := HL.out; omega
          generalize (occ ++ [a2.data.toList.take 3]).count (a3.extract 0 3).data.toList = q9 at c9 k9 l9 p9
          have C9 := Aside0.mk c9
          clear c9 e9
          go_wp2_with fail
          go_still_tail 6, (by kernel_rfl)
          change wpList _ _ _ _ _ w5.drew
          have HM49 := Aside0.mk HM5.out.drew
          have HB49 : Aside0 (Below w.heap.size w w5.drew) := ⟨below_drew HB5.out⟩
          have HX49 : Aside0 (w5.drew.heap[gx]? = _) := ⟨HX5.out⟩
          generalize w5.drew = w49 at HM49 HB49 HX49 l9 ⊢
          clear HM5 HB5 HX5
          go_wp2_with (at_mapUpdate; refine wpList_mapUpdate_own _ rfl _ _ _ 73 rfl 9 3 law9 Try.underlying73 _ bm _ D5 rfl HM49.out.own n9 _ _ _ rfl rfl (keyOf_string_mk Try.underlying9 z9) _ [] (plainElem_int Try.underlying3 (cnt_wf _ k9)) ?_; intro w6 hown hgrow; have MQ9 := Aside0.mk hown; have MG9 := Aside0.mk hgrow; clear hown hgrow l9 k9 p9 z9 n9)
          have HM6 : Aside0 (Mp w6 Bc bm (2 * i + 1 + 1) (D5.put (.string (a3.extract 0 3).data.toList) (.lit (.int .i64 ((q9 : Int) + 1))))) := ⟨⟨(MG9.out.block Bc HM49.out.lt.1 (by have := HBB.out; intro h; injection h; omega)).trans HM49.out.box, MQ9.out⟩⟩
          have HB6 : Aside0 (Below w.heap.size w w6) := ⟨HB49.out.grown MG9.out HB49.out.size (fun k hk => by injection hk with hk; have := HBB.out; omega)⟩
          have HD6 : Aside0 (Cnt (D5.put (.string (a3.extract 0 3).data.toList) (.lit (.int .i64 ((q9 : Int) + 1)))) (occS (hs.take (i + 1)))) := ⟨by rw [HOS.out, HOH.out, show occ ++ [a2.data.toList.take 3, a3.data.toList.take 3] = (occ ++ [a2.data.toList.take 3]) ++ [a3.data.toList.take 3] by simp, ← take3 a3]; exact C9.out⟩
          go_roundg (hs.length - (i + 1))
          exact ⟨i + 1, by simp, ⟨by have := HLT.out; omega, Nat.le_refl _⟩, ⟨_, HM6.out, HD6.out⟩, HB6⟩
          case measure => have := HLT.out; have := HI.out; omega
        · have HOH : Aside0 (occH ⟨a0, a1, a2, a3, a4, a5, a6⟩ = []) := ⟨by unfold occH; rw [if_neg ho]⟩
          rw [if_neg ho] at HK
          clear ho
          go_wp2_with (go_at_call 20; refine (HK.out _).mono ?_; rintro e w3 ⟨rfl, hb⟩; have HB3 := Aside0.mk (below_step HB2.out hb); have HM3 := Aside0.mk (HM2.out.below hb); clear hb HB2 HM2 BX2 z0 z1 z2 z3 z4 z5 z6 z7 z8 z9 z10 z11 z12 z13)
          have HD6 : Aside0 (Cnt D (occS (hs.take (i + 1)))) := ⟨by rw [HOS.out, HOH.out, List.append_nil]; exact HD.out⟩
          go_roundg (hs.length - (i + 1))
          exact ⟨i + 1, by simp, ⟨by have := HLT.out; omega, Nat.le_refl _⟩, ⟨_, ⟨HM3.out.box, HM3.out.own.mono (by omega)⟩, HD6.out⟩, HB3⟩
          case measure => have := HLT.out; have := HI.out; omega
      · have hie : i = hs.length := by omega
        subst hie
        obtain ⟨D, hM, hD⟩ := HM.out
        rw [List.take_length] at hD
        have HM2 := Aside0.mk hM
        have HD := Aside0.mk hD
        have zc := (blk_cell hM.box 0).trans rfl
        have HN : Aside0 (Maps.size D ≤ 1000000) := ⟨by have := hM.own.size_le; have := HL.out; omega⟩
        have HO : Aside0 (∀ s ∈ occS hs, s.length ≤ 100) := ⟨occS_short hs⟩
        clear HM hM hD hlt HI hi1 hi2
        go_upto_region 12 with (first | (go_at_call 52; refine (keys52 bm _).mono ?_; rintro e w2 ⟨rfl, rfl⟩; have HM3 : Aside0 (Mp (wr.alloc (.cells #[.map (some bm)] 73 (0, 0))) Bc bm (2 * hs.length) D) := ⟨HM2.out.below (below_alloc (Below.refl _ _) _)⟩; have HC3 : Aside0 ((wr.alloc (.cells #[.map (some bm)] 73 (0, 0))).cell? ⟨wr.heap.size, 0, none⟩ = some (.map (some bm)) ∧ wr.heap.size < (wr.alloc (.cells #[.map (some bm)] 73 (0, 0))).heap.size) := ⟨(blk_cell (blk_new wr _) 0).trans rfl, by simp⟩) | (go_at_call 51; refine Calls.mono (sorted51 wr.heap.size Bc bm _ D (occS hs) _ HC3.out.1 HC3.out.2 HM3.out HD.out HN.out HO.out) ?_; rintro e w3 ⟨lv, xs, rfl, h1, h2, h3⟩; have K1 := Aside0.mk h1; have K2 := Aside0.mk h2; have HB3 := Aside0.mk (below_step (below_alloc HB.out _) h3); clear h1 h2 h3))
        clear zc
        have HF := Kd.own_of_R K2.out
        obtain ⟨hF1, hF2⟩ := HF
        rcases hF2 with ⟨rfl, hF2⟩ | ⟨g, cap, cur, rfl, hF4, hF5, hF6⟩
        · have ex : xs = [] := List.eq_nil_of_length_eq_zero hF2
          subst ex
          clear hF1 hF2
          have hmm : ¬ most < 0 := by omega
          go_wp2_with fail
          refine wp_loop_rounds 2 ?_
          rw [rounds_succ]
          go_wp2_with fail
          go_ret
          exact ⟨_, [], rfl, ⟨fun h => absurd ⟨m1, m2⟩ h, fun _ => ⟨_, K1.out, by simp⟩⟩, Kd.R_nil _ _ _ _ _, HB3.out⟩
        · obtain ⟨m, hm⟩ : ∃ m : Nat, (m : Int) = (if most < (xs.length : Int) then most else (xs.length : Int)) := ⟨(if most < (xs.length : Int) then most else (xs.length : Int)).toNat, by split <;> omega⟩
          have HM := Aside0.mk hm
          have hmn : m ≤ xs.length := by split at hm <;> omega
          have HMN := Aside0.mk hmn
          have hm' := hm.symm
          have HC := Aside0.mk hF6.1
          have HC2 := Aside0.mk hF6.2.1
          have hmc : (m : Int) ≤ (cap : Int) := by have := HC.out; omega
          have hm0 : (0 : Int) ≤ (m : Int) := by omega
          have hmc2 : m ≤ cap := by omega
          clear hF1 hF4 hF5 hF6 hmn hm
          go_upto_region 14 with fail
          clear hm' hmc hmc2
          go_loopg [9, 52] m (fun gg v9 v52 wz => ∃ j : Nat, v52 = .int .i64 (j : Int) ∧ Aside0 (j ≤ m ∧ m - j ≤ gg) ∧ Aside0 (Kd.R k26 26 wz w3.heap.size (fun _ => True) v9 ((xs.take j).map ctxB)) ∧ Aside0 (Below w3.heap.size w3 wz))
          case atStart => exact ⟨0, rfl, ⟨by omega, by omega⟩, ⟨by rw [List.take_zero]; exact Kd.R_nil _ _ _ _ _⟩, ⟨Below.refl _ _⟩⟩
          case round =>
            obtain ⟨j, rfl, HJ, HO9, HB9⟩ := hrel
            obtain ⟨hj1, hj2⟩ := HJ.out
            obtain ⟨A9, c9, e9⟩ := Kd.R_slice HO9.out
            subst e9
            by_cases hjm : j < m
            · have HJM := Aside0.mk hjm
              have hjz : (j : Int) < (m : Int) := by omega
              have hj0 : (0 : Int) ≤ (j : Int) := by omega
              obtain ⟨x1, _⟩ := Kd.R_celln (⟨⟨#[]⟩, Nat.zero_le _⟩ : BS) (Kd.R_below K2.out HB9.out) (j : Int) hj0 (by have := HMN.out; omega)
              rw [Int.toNat_natCast] at x1
              have hxj : rdOf (⟨⟨#[]⟩, Nat.zero_le _⟩ : BS) xs (j : Int) = xs[j]'(by have := HMN.out; omega) := by unfold rdOf; rw [Int.toNat_natCast, gd_in]
              rw [hxj] at x1
              have HTK : Aside0 ((xs.take (j + 1)).map ctxB = (xs.take j).map ctxB ++ [ctxB (xs[j]'(by have := HMN.out; omega))]) := ⟨by rw [List.take_succ_eq_append_getElem (by have := HMN.out; omega), List.map_append]; rfl⟩
              have HLN : Aside0 (((xs.take j).map ctxB).length ≤ 8) := ⟨by rw [List.length_map, List.length_take]; have := HM.out; split at this <;> omega⟩
              generalize (xs[j]'(by have := HMN.out; omega)) = y at x1 HTK
              obtain ⟨yb, hyb⟩ := y
              have x2 : wr.cell? ⟨g, j, none⟩ = some (.string yb) := x1
              clear x1 hxj hjm hj1 hj2
              go_wp2_with ((with_reducible refine gate_builtin (b := .append) (xs := #[.tmp 56, .tmp 59]) rfl ?_); go_loud (at_builtin; refine Kd.R_append k26 (w0 := w3) w3.heap.size rfl (.tmp 56) (.tmp 59) 22 26 (.agg #[(.string ⟨#[]⟩)]) 16 rfl Try.underlying22 info26 rfl (by decide) (by omega) (.slice A9 ((xs.take j).map ctxB).length c9) ((xs.take j).map ctxB) (ctxB ⟨yb, hyb⟩) [.string yb] (fun _ => True) (fun _ => False) rfl rfl ?aP (fun _ hk => hk.elim) ?aF ?aO ?aB ?aS ?aL ?_; (case aP => exact k26_mkM _ _ _ (ctxB ⟨yb, hyb⟩)); (case aB => exact HB9.out); (case aF => exact (fun _ _ => trivial)); (case aO => exact HO9.out); (case aS => exact HB9.out.size); (case aL => have := HLN.out; omega); intro v10 w10 ho hb hg hat; have HO10 := Aside0.mk ho; have HB10 := Aside0.mk hb; clear ho hb hg hat))
              go_roundg (m - (j + 1))
              exact ⟨j + 1, by rw [← IntWalk.i64_left, IntWalk.i64_in _ (by have h9 := HJM.out; have h8 := HM.out; split at h8 <;> omega)]; simp, ⟨by have := HJM.out; omega, Nat.le_refl _⟩, ⟨by rw [HTK.out]; exact HO10.out⟩, HB10⟩
              case measure => have := HJM.out; have := HJ.out; omega
            · have hje : j = m := by omega
              subst hje
              clear hj1 hj2 hjm HJ
              go_wp2_with fail
              go_ret
              refine ⟨_, _, rfl, ⟨fun h => absurd ⟨m1, m2⟩ h, fun _ => ⟨_, K1.out, ?_⟩⟩, Kd.R_lower HO9.out (below_size HB3.out), below_step HB3.out HB9.out⟩
              rw [← List.map_take, List.map_map]
              have hmt : xs.take j = xs.take most.toNat := by
                have := HM.out
                split at this
                · rw [show j = most.toNat by omega]
                · rw [List.take_of_length_le (by omega), List.take_of_length_le (by omega)]
              rw [hmt]
              rfl
  · have M : (decide (most < 1) || decide (most > 8)) = true := by
      rw [Bool.or_eq_true]
      by_cases h1 : most < 1
      · exact Or.inl (decide_eq_true h1)
      · exact Or.inr (decide_eq_true (by omega))
    have HM := Aside0.mk hm
    by_cases h1 : most < 1
    · clear hm M
      go_enter Try.func29, Try.ntmps29
      go_wp2_with fail
      go_ret
      exact ⟨_, [], rfl, ⟨fun _ => rfl, fun h => absurd h HM.out⟩, Kd.R_nil _ _ _ _ _, Below.refl _ _⟩
    · have h8 : most > 8 := by omega
      clear hm M
      go_enter Try.func29, Try.ntmps29
      go_wp2_with fail
      go_ret
      exact ⟨_, [], rfl, ⟨fun _ => rfl, fun h => absurd h HM.out⟩, Kd.R_nil _ _ _ _ _, Below.refl _ _⟩
end Go.Proofs.Ytmbbijhppgkdfaa.P14
