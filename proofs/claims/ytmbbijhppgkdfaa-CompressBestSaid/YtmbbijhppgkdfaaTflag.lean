/- Reading one bit: plain laws of bitio.Reader. -/
import Derived.Test.YtmbbijhppgkdfaaTread
namespace Go.Proofs.Ytmbbijhppgkdfaa.P14
open Go.RowKit Go.Proofs.YtmbbijhppgkdfaaW.PrintWords Go.Proofs.YtmbbijhppgkdfaaW.PrintLast Go.Proofs.YtmbbijhppgkdfaaW.PrintMore
set_option linter.unusedVariables false
set_option linter.unusedSimpArgs false

theorem fl_good (d : ByteArray) (hd : d.size ≤ 65536) (k : Nat) (hk : 1 < k) (q : Nat) (h : q + 1 ≤ 8 * d.size) : bitio_Reader_Flag.f k d (q : Int) 0 = some (bitAt d q, d, ((q + 1 : Nat) : Int), 0) := by
  have hq5 : q ≤ 524288 := by omega
  have hlt : ((1 : Int) > 8 * (d.size : Int) - q) = False := eq_false (by omega)
  have w1 := rt5 d hd q hq5
  have hg := get_l0 d hd 0 1 (by decide) 1 0 q k 0 rfl h hk (by decide)
  rw [show ((0 : Nat) : Int) = 0 from rfl, show ((1 : Nat) : Int) = 1 from rfl] at hg
  unfold bitio_Reader_Flag.f bitio_Reader_field.f bitio_Reader_Left.f bitio_Reader_get.f
  simp only [if_true, Option.bind_some, w1, hlt, if_false, hg]
  simp only [valFrom]
  cases bitAt d q <;> rfl
theorem fl_bad (d : ByteArray) (hd : d.size ≤ 65536) (k : Nat) (q : Nat) (hq : q ≤ 8 * d.size) (h : ¬ q + 1 ≤ 8 * d.size) : bitio_Reader_Flag.f k d (q : Int) 0 = some (false, d, (q : Int), 9) := by
  have hq5 : q ≤ 524288 := by omega
  have hlt : ((1 : Int) > 8 * (d.size : Int) - q) = True := eq_true (by omega)
  have w1 := rt5 d hd q hq5
  unfold bitio_Reader_Flag.f bitio_Reader_field.f bitio_Reader_Left.f bitio_Reader_fail.f
  simp only [if_true, Option.bind_some, w1, hlt]
  rfl
theorem fl_err (d : ByteArray) (q e : Int) (k : Nat) (he : e ≠ 0) : bitio_Reader_Flag.f k d q e = some (false, d, q, e) := by
  unfold bitio_Reader_Flag.f bitio_Reader_field.f
  simp only [he, if_false, Option.bind_some]
  rfl
end Go.Proofs.Ytmbbijhppgkdfaa.P14
