/- compress.write's function literals: each writes a part of a header. -/
import Derived.Test.YtmbbijhppgkdfaaGports
import Derived.Test.YtmbbijhppgkdfaaP14Ix
import Derived.Test.YtmbbijhppgkdfaaP14R0
namespace Go.Proofs.Ytmbbijhppgkdfaa.P14
open Go.RowKit Go.Proofs.YtmbbijhppgkdfaaW.PrintWords Go.Proofs.YtmbbijhppgkdfaaW.PrintLast Go.Proofs.YtmbbijhppgkdfaaW.PrintMore
attribute [local go_sem] max2_int min2_int max_two min_two max_three min_three max_four min_four
set_option linter.unusedVariables false
set_option linter.unusedSimpArgs false

/-- The boxes of write: the writer, the contexts, the header. -/
structure Bx (gw gl gh p : Nat) (A : Option Addr) (c : Nat) (cs : List S26) (h : S24) (W : World) : Prop where
  bw : W.heap[gw]? = some (.cells #[.pointer (some ⟨p, 0, none⟩)] 54 (0, 0))
  bl : W.heap[gl]? = some (.cells #[.slice A cs.length c] 22 (0, 0))
  bh : W.heap[gh]? = some (.cells #[.int .i64 h.f0, .int .i64 h.f1, .string h.f2, .string h.f3, .int .i64 h.f4, .int .i64 h.f5, .int .i64 h.f6] 24 (0, 0))
theorem Wr.other {w0 W : World} {p : Nat} {l : List Bool} (h : Wr w0 p l W) {g t : Nat} {vs : Array Value} {s : Nat × Nat} (hg : W.heap[g]? = some (.cells vs t s)) (ht : t ≠ 94) : g ≠ p := by
  intro e
  obtain ⟨v, h1, _⟩ := h.ex
  rw [e, h1] at hg
  have := Option.some.inj hg
  injection this with _ h2 _
  exact ht h2.symm
theorem Eff.keep {w0 W W' : World} {p : Nat} {l : List Bool} (e : Eff w0 p W W') (h : Wr w0 p l W) {g t : Nat} {vs : Array Value} (hg : W.heap[g]? = some (.cells vs t (0, 0))) (ht : t ≠ 94) (h5 : t ≠ 5) : W'.heap[g]? = some (.cells vs t (0, 0)) :=
  e.far g _ hg (h.other hg ht) fun cs ec => by injection ec with _ h2 _; exact h5 h2
theorem Bx.eff {gw gl gh p : Nat} {A : Option Addr} {c : Nat} {cs : List S26} {h : S24} {w0 W W' : World} {l : List Bool} (b : Bx gw gl gh p A c cs h W) (hw : Wr w0 p l W) (e : Eff w0 p W W') : Bx gw gl gh p A c cs h W' :=
  ⟨e.keep hw b.bw (by decide) (by decide), e.keep hw b.bl (by decide) (by decide), e.keep hw b.bh (by decide) (by decide)⟩
theorem fl_calls (b : Bool) (w0 : World) (p : Nat) (l : List Bool) (W w : World) (hp : w0.heap.size ≤ p) (hWr : Wr w0 p l w) (hE : Eff w0 p W w) (hl : l.length ≤ 200000) :
    Calls Try.prog 60 #[.pointer (some ⟨p, 0, none⟩), .bool b] w (WPost w0 p (l ++ [b]) W) :=
  (flag_calls b w0 p l w hp hE.below hWr (by omega)).mono fun e w' k => WPost.of hE k
structure okH (h : S24) : Prop where
  f0 : 0 ≤ h.f0 ∧ h.f0 ≤ 255
  f1 : 0 ≤ h.f1 ∧ h.f1 ≤ 255
  f2 : h.f2.size = 4
  f3 : h.f3.size = 4
  f4 : 0 ≤ h.f4 ∧ h.f4 ≤ 65535
  f5 : 0 ≤ h.f5 ∧ h.f5 ≤ 65535
  f6 : 0 ≤ h.f6 ∧ h.f6 ≤ 4095
def clsB (x : Int) : List Bool := if x = 0 then [false] else true :: bI 8 x
def limB (x : Int) : List Bool := if x = 1 then bI 2 1 else if x = 64 then bI 2 2 else if x = 255 then bI 2 3 else bI 2 0 ++ bI 8 x
def lenB (x : Int) : List Bool := if x > 63 then true :: bI 12 x else false :: bI 6 x
def headB (cs : List S26) (h : S24) : List Bool := clsB h.f0 ++ limB h.f1 ++ addrB cs h.f2 ++ addrB cs h.f3 ++ portsB h.f4 h.f5 ++ lenB h.f6
theorem clsB_len (x : Int) : (clsB x).length ≤ 9 := by unfold clsB; split <;> simp [bI_len]
theorem limB_len (x : Int) : (limB x).length ≤ 10 := by
  unfold limB
  split
  · simp [bI_len]
  · split
    · simp [bI_len]
    · split <;> simp [bI_len]
theorem lenB_len (x : Int) : (lenB x).length ≤ 13 := by unfold lenB; split <;> simp [bI_len]
section
variable (gw gl gh p c : Nat) (A : Option Addr) (cs : List S26) (h : S24) (w0 w : World) (l : List Bool)
set_option maxRecDepth 100000 in
set_option maxHeartbeats 3200000 in
theorem part59_calls (hp : w0.heap.size ≤ p) (hb : Bx gw gl gh p A c cs h w) (hWr : Wr w0 p l w) (hB : Below w0.heap.size w0 w) (hl : l.length ≤ 1000) (ok : okH h) :
    Calls Try.prog 59 #[.pointer (some ⟨gw, 0, none⟩), .pointer (some ⟨gh, 0, none⟩)] w (WPost w0 p (l ++ clsB h.f0) w) := by
  have HP := Aside0.mk hp
  have HB := Aside0.mk hb
  have HW := Aside0.mk hWr
  have HE := Aside0.mk (Eff.refl (p := p) hB)
  have HO := Aside0.mk ok
  have HL := Aside0.mk hl
  have zw : w.cell? ⟨gw, 0, none⟩ = some (.pointer (some ⟨p, 0, none⟩)) := (blk_cell hb.bw 0).trans rfl
  have zh0 : w.cell? ⟨gh, 0, none⟩ = some (.int .i64 h.f0) := (blk_cell hb.bh 0).trans rfl
  clear hp hb hWr hB ok hl
  have HX : Aside0 (clsB h.f0 = if h.f0 = 0 then [false] else true :: bI 8 h.f0) := ⟨rfl⟩
  go_enter Try.func59, Try.ntmps59
  by_cases h0 : h.f0 = 0
  · have d0 : (h.f0 == 0) = true := by simp [h0]
    have d1 : (h.f0 != 0) = false := by simp [h0]
    have H0 := Aside0.mk h0
    clear h0
    go_wp2_with fail
    refine (fl_calls _ w0 p l w _ HP.out HW.out HE.out (by have := HL.out; omega)).mono ?_
    rintro e v1 ⟨rfl, hw1, he1⟩
    have HW1 := Aside0.mk hw1
    have HE1 := Aside0.mk he1
    have hb1 := HB.out.eff HW.out he1
    clear hw1 he1
    have zw1 : v1.cell? ⟨gw, 0, none⟩ = some (.pointer (some ⟨p, 0, none⟩)) := (blk_cell hb1.bw 0).trans rfl
    have zh0_1 : v1.cell? ⟨gh, 0, none⟩ = some (.int .i64 h.f0) := (blk_cell hb1.bh 0).trans rfl
    clear hb1
    go_wp2_with fail
    go_end0
    exact ⟨rfl, by rw [HX.out, if_pos H0.out]; exact HW1.out, HE1.out⟩
  · have d0 : (h.f0 == 0) = false := by simp [h0]
    have d1 : (h.f0 != 0) = true := by simp [h0]
    have H0 := Aside0.mk h0
    clear h0
    go_wp2_with fail
    refine (fl_calls _ w0 p l w _ HP.out HW.out HE.out (by have := HL.out; omega)).mono ?_
    rintro e v1 ⟨rfl, hw1, he1⟩
    have HW1 := Aside0.mk hw1
    have HE1 := Aside0.mk he1
    have hb1 := HB.out.eff HW.out he1
    clear hw1 he1
    have zw1 : v1.cell? ⟨gw, 0, none⟩ = some (.pointer (some ⟨p, 0, none⟩)) := (blk_cell hb1.bw 0).trans rfl
    have zh0_1 : v1.cell? ⟨gh, 0, none⟩ = some (.int .i64 h.f0) := (blk_cell hb1.bh 0).trans rfl
    clear hb1
    go_wp2_with fail
    refine (un_calls 8 h.f0 w0 p (l ++ [true]) w _ HP.out HW1.out HE1.out (by omega) (by have := HO.out.f0; omega) (by have := HO.out.f0; omega) (by have := HL.out; simp [bI_len]; omega)).mono ?_
    rintro e v2 ⟨rfl, hw2, he2⟩
    have HW2 := Aside0.mk hw2
    have HE2 := Aside0.mk he2
    have hb2 := HB.out.eff HW.out he2
    clear hw2 he2
    clear hb2
    go_wp2_with fail
    go_end0
    exact ⟨rfl, by rw [HX.out, if_neg H0.out]; have := HW2.out; simpa using this, HE2.out⟩
set_option maxRecDepth 100000 in
set_option maxHeartbeats 3200000 in
theorem part65_calls (hp : w0.heap.size ≤ p) (hb : Bx gw gl gh p A c cs h w) (hWr : Wr w0 p l w) (hB : Below w0.heap.size w0 w) (hl : l.length ≤ 1000) (ok : okH h) (hr : Kd.C k26 w0 A cs.length cs) (hc : cs.length ≤ c) (h8 : cs.length ≤ 8) :
    Calls Try.prog 65 #[.pointer (some ⟨gw, 0, none⟩), .pointer (some ⟨gl, 0, none⟩), .pointer (some ⟨gh, 0, none⟩)] w (WPost w0 p (l ++ addrB cs h.f2) w) := by
  have HP := Aside0.mk hp
  have HB := Aside0.mk hb
  have HW := Aside0.mk hWr
  have HE := Aside0.mk (Eff.refl (p := p) hB)
  have HO := Aside0.mk ok
  have HL := Aside0.mk hl
  have zw : w.cell? ⟨gw, 0, none⟩ = some (.pointer (some ⟨p, 0, none⟩)) := (blk_cell hb.bw 0).trans rfl
  have zl : w.cell? ⟨gl, 0, none⟩ = some (.slice A cs.length c) := (blk_cell hb.bl 0).trans rfl
  have zh2 : w.cell? ⟨gh, 2, none⟩ = some (.string h.f2) := (blk_cell hb.bh 2).trans rfl
  have HU := Aside0.mk (addr_calls w0 p l w A c cs h.f2 hp hB hWr hr hc h8 (by have := ok.f2; omega) (by omega))
  clear hp hb hWr hB ok hl
  go_enter Try.func65, Try.ntmps65
  go_wp2_with fail
  refine HU.out.mono ?_
  rintro e v1 ⟨rfl, hw1, he1⟩
  have HW1 := Aside0.mk hw1
  have HE1 := Aside0.mk he1
  clear hw1 he1
  go_wp2_with fail
  go_end0
  exact ⟨rfl, HW1.out, HE1.out⟩
set_option maxRecDepth 100000 in
set_option maxHeartbeats 3200000 in
theorem part67_calls (hp : w0.heap.size ≤ p) (hb : Bx gw gl gh p A c cs h w) (hWr : Wr w0 p l w) (hB : Below w0.heap.size w0 w) (hl : l.length ≤ 1000) (ok : okH h) (hr : Kd.C k26 w0 A cs.length cs) (hc : cs.length ≤ c) (h8 : cs.length ≤ 8) :
    Calls Try.prog 67 #[.pointer (some ⟨gw, 0, none⟩), .pointer (some ⟨gl, 0, none⟩), .pointer (some ⟨gh, 0, none⟩)] w (WPost w0 p (l ++ addrB cs h.f3) w) := by
  have HP := Aside0.mk hp
  have HB := Aside0.mk hb
  have HW := Aside0.mk hWr
  have HE := Aside0.mk (Eff.refl (p := p) hB)
  have HO := Aside0.mk ok
  have HL := Aside0.mk hl
  have zw : w.cell? ⟨gw, 0, none⟩ = some (.pointer (some ⟨p, 0, none⟩)) := (blk_cell hb.bw 0).trans rfl
  have zl : w.cell? ⟨gl, 0, none⟩ = some (.slice A cs.length c) := (blk_cell hb.bl 0).trans rfl
  have zh3 : w.cell? ⟨gh, 3, none⟩ = some (.string h.f3) := (blk_cell hb.bh 3).trans rfl
  have HU := Aside0.mk (addr_calls w0 p l w A c cs h.f3 hp hB hWr hr hc h8 (by have := ok.f3; omega) (by omega))
  clear hp hb hWr hB ok hl
  go_enter Try.func67, Try.ntmps67
  go_wp2_with fail
  refine HU.out.mono ?_
  rintro e v1 ⟨rfl, hw1, he1⟩
  have HW1 := Aside0.mk hw1
  have HE1 := Aside0.mk he1
  clear hw1 he1
  go_wp2_with fail
  go_end0
  exact ⟨rfl, HW1.out, HE1.out⟩
set_option maxRecDepth 100000 in
set_option maxHeartbeats 3200000 in
theorem part68_calls (hp : w0.heap.size ≤ p) (hb : Bx gw gl gh p A c cs h w) (hWr : Wr w0 p l w) (hB : Below w0.heap.size w0 w) (hl : l.length ≤ 1000) (ok : okH h) :
    Calls Try.prog 68 #[.pointer (some ⟨gw, 0, none⟩), .pointer (some ⟨gh, 0, none⟩)] w (WPost w0 p (l ++ portsB h.f4 h.f5) w) := by
  have HP := Aside0.mk hp
  have HB := Aside0.mk hb
  have HW := Aside0.mk hWr
  have HE := Aside0.mk (Eff.refl (p := p) hB)
  have HO := Aside0.mk ok
  have HL := Aside0.mk hl
  have zw : w.cell? ⟨gw, 0, none⟩ = some (.pointer (some ⟨p, 0, none⟩)) := (blk_cell hb.bw 0).trans rfl
  have zh4 : w.cell? ⟨gh, 4, none⟩ = some (.int .i64 h.f4) := (blk_cell hb.bh 4).trans rfl
  have zh5 : w.cell? ⟨gh, 5, none⟩ = some (.int .i64 h.f5) := (blk_cell hb.bh 5).trans rfl
  have HU := Aside0.mk (ports_calls w0 p l w h.f4 h.f5 hp hB hWr ok.f4.1 ok.f4.2 ok.f5.1 ok.f5.2 (by omega))
  clear hp hb hWr hB ok hl
  go_enter Try.func68, Try.ntmps68
  go_wp2_with fail
  refine HU.out.mono ?_
  rintro e v1 ⟨rfl, hw1, he1⟩
  have HW1 := Aside0.mk hw1
  have HE1 := Aside0.mk he1
  clear hw1 he1
  go_wp2_with fail
  go_end0
  exact ⟨rfl, HW1.out, HE1.out⟩
set_option maxRecDepth 100000 in
set_option maxHeartbeats 3200000 in
theorem part70_calls (hp : w0.heap.size ≤ p) (hb : Bx gw gl gh p A c cs h w) (hWr : Wr w0 p l w) (hB : Below w0.heap.size w0 w) (hl : l.length ≤ 1000) (ok : okH h) :
    Calls Try.prog 70 #[.pointer (some ⟨gh, 0, none⟩), .pointer (some ⟨gw, 0, none⟩)] w (WPost w0 p (l ++ lenB h.f6) w) := by
  have HP := Aside0.mk hp
  have HB := Aside0.mk hb
  have HW := Aside0.mk hWr
  have HE := Aside0.mk (Eff.refl (p := p) hB)
  have HO := Aside0.mk ok
  have HL := Aside0.mk hl
  have zw : w.cell? ⟨gw, 0, none⟩ = some (.pointer (some ⟨p, 0, none⟩)) := (blk_cell hb.bw 0).trans rfl
  have zh6 : w.cell? ⟨gh, 6, none⟩ = some (.int .i64 h.f6) := (blk_cell hb.bh 6).trans rfl
  clear hp hb hWr hB ok hl
  have HX : Aside0 (lenB h.f6 = if h.f6 > 63 then true :: bI 12 h.f6 else false :: bI 6 h.f6) := ⟨rfl⟩
  go_enter Try.func70, Try.ntmps70
  by_cases h0 : h.f6 > 63
  · have d0 : decide (h.f6 > 63) = true := decide_eq_true h0
    have H0 := Aside0.mk h0
    clear h0
    go_wp2_with fail
    refine (fl_calls _ w0 p l w _ HP.out HW.out HE.out (by have := HL.out; omega)).mono ?_
    rintro e v1 ⟨rfl, hw1, he1⟩
    have HW1 := Aside0.mk hw1
    have HE1 := Aside0.mk he1
    have hb1 := HB.out.eff HW.out he1
    clear hw1 he1
    have zw1 : v1.cell? ⟨gw, 0, none⟩ = some (.pointer (some ⟨p, 0, none⟩)) := (blk_cell hb1.bw 0).trans rfl
    have zh6_1 : v1.cell? ⟨gh, 6, none⟩ = some (.int .i64 h.f6) := (blk_cell hb1.bh 6).trans rfl
    clear hb1
    try rw [d0] at HW1
    go_wp2_with fail
    refine (un_calls 12 h.f6 w0 p (l ++ [true]) w _ HP.out HW1.out HE1.out (by omega) (by have := HO.out.f6; omega) (by have := HO.out.f6; have := H0.out; omega) (by have := HL.out; simp; omega)).mono ?_
    rintro e v2 ⟨rfl, hw2, he2⟩
    have HW2 := Aside0.mk hw2
    have HE2 := Aside0.mk he2
    have hb2 := HB.out.eff HW.out he2
    clear hw2 he2
    clear hb2
    go_wp2_with fail
    go_end0
    exact ⟨rfl, by rw [HX.out, if_pos (by have := H0.out; omega)]; have := HW2.out; simpa using this, HE2.out⟩
  · have d0 : decide (h.f6 > 63) = false := decide_eq_false h0
    have H0 := Aside0.mk h0
    clear h0
    go_wp2_with fail
    refine (fl_calls _ w0 p l w _ HP.out HW.out HE.out (by have := HL.out; omega)).mono ?_
    rintro e v1 ⟨rfl, hw1, he1⟩
    have HW1 := Aside0.mk hw1
    have HE1 := Aside0.mk he1
    have hb1 := HB.out.eff HW.out he1
    clear hw1 he1
    have zw1 : v1.cell? ⟨gw, 0, none⟩ = some (.pointer (some ⟨p, 0, none⟩)) := (blk_cell hb1.bw 0).trans rfl
    have zh6_1 : v1.cell? ⟨gh, 6, none⟩ = some (.int .i64 h.f6) := (blk_cell hb1.bh 6).trans rfl
    clear hb1
    try rw [d0] at HW1
    go_wp2_with fail
    refine (un_calls 6 h.f6 w0 p (l ++ [false]) w _ HP.out HW1.out HE1.out (by omega) (by have := HO.out.f6; omega) (by have := HO.out.f6; have := H0.out; omega) (by have := HL.out; simp; omega)).mono ?_
    rintro e v2 ⟨rfl, hw2, he2⟩
    have HW2 := Aside0.mk hw2
    have HE2 := Aside0.mk he2
    have hb2 := HB.out.eff HW.out he2
    clear hw2 he2
    clear hb2
    go_wp2_with fail
    go_end0
    exact ⟨rfl, by rw [HX.out, if_neg (by have := H0.out; omega)]; have := HW2.out; simpa using this, HE2.out⟩

def idxI (x : Int) : Int := if x = 1 then 1 else if x = 64 then 2 else if x = 255 then 3 else -1
theorem idx_eq (x : Int) (h0 : 0 ≤ x) : slices_Index_int_int.f 10 [(-1), 1, 64, 255] x = some (idxI x) := by
  have st : ∀ (k : Nat) (i : Int), 0 ≤ i → i < 4 → slices_Index_int_int.l0 (k + 1) [(-1), 1, 64, 255] x 4 i = if x = rd [(-1), 1, 64, 255] i then some i else slices_Index_int_int.l0 k [(-1), 1, 64, 255] x 4 (wrap64 (i + 1)) := by
    intro k i h0 h1
    simp only [slices_Index_int_int.l0]
    rw [if_pos h1, if_pos h0, if_pos (show i < (([(-1), 1, 64, 255] : List Int).length : Int) from h1)]
  show slices_Index_int_int.l0 10 [(-1), 1, 64, 255] x 4 0 = _
  rw [st 9 0 (by decide) (by decide), show rd [(-1), 1, 64, 255] 0 = -1 from rfl, if_neg (by omega), show wrap64 (0 + 1) = 1 by unfold wrap64; omega]
  rw [st 8 1 (by decide) (by decide), show rd [(-1), 1, 64, 255] 1 = 1 from rfl, show wrap64 (1 + 1) = 2 by unfold wrap64; omega]
  rw [st 7 2 (by decide) (by decide), show rd [(-1), 1, 64, 255] 2 = 64 from rfl, show wrap64 (2 + 1) = 3 by unfold wrap64; omega]
  rw [st 6 3 (by decide) (by decide), show rd [(-1), 1, 64, 255] 3 = 255 from rfl, show wrap64 (3 + 1) = 4 by unfold wrap64; omega]
  unfold idxI
  split
  · rfl
  · split
    · rfl
    · split
      · rfl
      · simp only [slices_Index_int_int.l0]
        rw [if_neg (by decide)]
set_option maxRecDepth 100000 in
set_option maxHeartbeats 3200000 in
theorem part62_calls (hp : w0.heap.size ≤ p) (hb : Bx gw gl gh p A c cs h w) (hWr : Wr w0 p l w) (hB : Below w0.heap.size w0 w) (hl : l.length ≤ 1000) (ok : okH h) :
    Calls Try.prog 62 #[.pointer (some ⟨gh, 0, none⟩), .pointer (some ⟨gw, 0, none⟩)] w (WPost w0 p (l ++ limB h.f1) w) := by
  have HP := Aside0.mk hp
  have HB := Aside0.mk hb
  have HW := Aside0.mk hWr
  have HE := Aside0.mk (Eff.refl (p := p) hB)
  have HO := Aside0.mk ok
  have HL := Aside0.mk hl
  have zw : w.cell? ⟨gw, 0, none⟩ = some (.pointer (some ⟨p, 0, none⟩)) := (blk_cell hb.bw 0).trans rfl
  have zh1 : w.cell? ⟨gh, 1, none⟩ = some (.int .i64 h.f1) := (blk_cell hb.bh 1).trans rfl
  clear hp hb hWr hB ok hl
  have HX : Aside0 (limB h.f1 = if h.f1 = 1 then bI 2 1 else if h.f1 = 64 then bI 2 2 else if h.f1 = 255 then bI 2 3 else bI 2 0 ++ bI 8 h.f1) := ⟨rfl⟩
  have HI := Aside0.mk (idx_eq h.f1 HO.out.f1.1)
  have HY : Aside0 (idxI h.f1 = if h.f1 = 1 then 1 else if h.f1 = 64 then 2 else if h.f1 = 255 then 3 else -1) := ⟨rfl⟩
  generalize idxI h.f1 = J at HI HY
  have HB0 := Aside0.mk (Below.refl w.heap.size w)
  go_enter Try.func62, Try.ntmps62
  go_wp2_with fail
  go_region_held3 (fun w' => w'.cell? ⟨gh, 1, none⟩ = some (.int .i64 h.f1) ∧ w'.cell? ⟨gw, 0, none⟩ = some (.pointer (some ⟨p, 0, none⟩)))
    (first | go_keep | (go_split_ands; refine ⟨?_, ?_⟩ <;> exact (hb8.cell (World.block_lt_of_cell? _ _ (by assumption))).trans (by assumption)))
    (first | (go_at_call 64; refine (compress_limits.calls _ _ rfl).mono ?_; rintro e w8 ⟨v0_, rfl, hr8, hb8⟩; obtain ⟨A8, c8, e8, hc8, hC8⟩ := Kd.R_reads hr8; subst e8) | (go_at_call 63; refine (slices_Index_int_int.calls 10 _ _ [(-1), 1, 64, 255] h.f1 J _ (by first | exact hC8 | exact Kd.C_drew hC8 | (trace_state; fail)) hc8 HI.out).mono ?_; rintro e w9 ⟨rfl, ⟨nd, rfl⟩⟩))
  have hbv : Below w.heap.size w (w8.drewN nd) := pw_below_drewN (below_step (below_drew1 (Below.refl _ _)) hb8) nd
  have HWv := Aside0.mk (HW.out.step hbv)
  have HEv := Aside0.mk (HE.out.step hbv)
  have hbb := HB.out.eff HW.out HEv.out
  have zwv : (w8.drewN nd).cell? ⟨gw, 0, none⟩ = some (.pointer (some ⟨p, 0, none⟩)) := (blk_cell hbb.bw 0).trans rfl
  have zhv : (w8.drewN nd).cell? ⟨gh, 1, none⟩ = some (.int .i64 h.f1) := (blk_cell hbb.bh 1).trans rfl
  have HBv := Aside0.mk hbb
  clear hbv hbb hb8 hr8 hC8 hc8 zh1 zw HB0 HI
  generalize w8.drewN nd = v at HWv HEv HBv zwv zhv ⊢
  have HJ : Aside0 (J = 1 ∧ limB h.f1 = bI 2 1 ∨ J = 2 ∧ limB h.f1 = bI 2 2 ∨ J = 3 ∧ limB h.f1 = bI 2 3 ∨ J = -1 ∧ limB h.f1 = bI 2 0 ++ bI 8 h.f1) := ⟨by
    rw [HX.out, HY.out]
    by_cases h1 : h.f1 = 1
    · rw [if_pos h1, if_pos h1]; exact Or.inl ⟨rfl, rfl⟩
    · by_cases h2 : h.f1 = 64
      · rw [if_neg h1, if_neg h1, if_pos h2, if_pos h2]; exact Or.inr (Or.inl ⟨rfl, rfl⟩)
      · by_cases h3 : h.f1 = 255
        · rw [if_neg h1, if_neg h1, if_neg h2, if_neg h2, if_pos h3, if_pos h3]; exact Or.inr (Or.inr (Or.inl ⟨rfl, rfl⟩))
        · rw [if_neg h1, if_neg h1, if_neg h2, if_neg h2, if_neg h3, if_neg h3]; exact Or.inr (Or.inr (Or.inr ⟨rfl, rfl⟩))⟩
  clear HX HY
  obtain ⟨HJ⟩ := HJ
  rcases HJ with ⟨rfl, hx⟩ | ⟨rfl, hx⟩ | ⟨rfl, hx⟩ | ⟨rfl, hx⟩
  · have HX := Aside0.mk hx
    clear hx
    go_wp2_with fail
    refine (un_calls 2 1 w0 p l w _ HP.out HWv.out HEv.out (by omega) (by omega) (by omega) (by have := HL.out; omega)).mono ?_
    rintro e v1 ⟨rfl, hw1, he1⟩
    have HW1 := Aside0.mk hw1
    have HE1 := Aside0.mk he1
    clear hw1 he1
    go_wp2_with fail
    go_end0
    exact ⟨rfl, by rw [HX.out]; exact HW1.out, HE1.out⟩
  · have HX := Aside0.mk hx
    clear hx
    go_wp2_with fail
    refine (un_calls 2 2 w0 p l w _ HP.out HWv.out HEv.out (by omega) (by omega) (by omega) (by have := HL.out; omega)).mono ?_
    rintro e v1 ⟨rfl, hw1, he1⟩
    have HW1 := Aside0.mk hw1
    have HE1 := Aside0.mk he1
    clear hw1 he1
    go_wp2_with fail
    go_end0
    exact ⟨rfl, by rw [HX.out]; exact HW1.out, HE1.out⟩
  · have HX := Aside0.mk hx
    clear hx
    go_wp2_with fail
    refine (un_calls 2 3 w0 p l w _ HP.out HWv.out HEv.out (by omega) (by omega) (by omega) (by have := HL.out; omega)).mono ?_
    rintro e v1 ⟨rfl, hw1, he1⟩
    have HW1 := Aside0.mk hw1
    have HE1 := Aside0.mk he1
    clear hw1 he1
    go_wp2_with fail
    go_end0
    exact ⟨rfl, by rw [HX.out]; exact HW1.out, HE1.out⟩
  · have HX := Aside0.mk hx
    clear hx
    go_wp2_with fail
    refine (un_calls 2 0 w0 p l w _ HP.out HWv.out HEv.out (by omega) (by omega) (by omega) (by have := HL.out; omega)).mono ?_
    rintro e v1 ⟨rfl, hw1, he1⟩
    have HW1 := Aside0.mk hw1
    have HE1 := Aside0.mk he1
    have hb1 := HB.out.eff HW.out he1
    clear hw1 he1
    have zw1 : v1.cell? ⟨gw, 0, none⟩ = some (.pointer (some ⟨p, 0, none⟩)) := (blk_cell hb1.bw 0).trans rfl
    have zh1_1 : v1.cell? ⟨gh, 1, none⟩ = some (.int .i64 h.f1) := (blk_cell hb1.bh 1).trans rfl
    clear hb1
    go_wp2_with fail
    refine (un_calls 8 h.f1 w0 p (l ++ bI 2 0) w _ HP.out HW1.out HE1.out (by omega) (by have := HO.out.f1; omega) (by have := HO.out.f1; omega) (by have := HL.out; simp [bI_len]; omega)).mono ?_
    rintro e v2 ⟨rfl, hw2, he2⟩
    have HW2 := Aside0.mk hw2
    have HE2 := Aside0.mk he2
    have hb2 := HB.out.eff HW.out he2
    clear hw2 he2
    clear hb2
    go_wp2_with fail
    go_end0
    exact ⟨rfl, by rw [HX.out]; have := HW2.out; simpa using this, HE2.out⟩
end
end Go.Proofs.Ytmbbijhppgkdfaa.P14
