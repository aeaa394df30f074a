/- How an array of six uint16 among the arguments is read. -/
import Derived.Test.YtdcedfciaaooiabO0
set_option linter.unusedVariables false
namespace Go.Proofs.Ytdcedfciaaooiab
open Go.ChangeShapes Go.WideShapes Go.ChangeAt Go.RowKit

theorem cellsU16' : Try.prog.cellsOf 73 = 1 := by kernel_rfl
theorem cellsArr6u : Try.prog.cellsOf 74 = 6 := by kernel_rfl

theorem u16_of {a : Int} (h : (Lit.int .u16 a).wf = true) : 0 ≤ a ∧ a ≤ 65535 := by simp only [Lit.wf, Bool.and_eq_true, decide_eq_true_eq] at h; exact h
section
variable {H : Type} {enc : TypeId × Value → H} {w w0 : World} {base b0 : Nat} {sp : Nat → Bool} {held : Bool} {r : Reach} {v : Value} {d : DataW H} {p : List MemPlace}
set_option maxRecDepth 100000 in
theorem open_arr6u (hv : Value.okWide Try.prog w0 r b0 74 v) (h : DataW.Trod enc Try.prog w base sp held 74 v d p) : ∃ a0 a1 a2 a3 a4 a5, v = .agg #[.int .u16 a0, .int .u16 a1, .int .u16 a2, .int .u16 a3, .int .u16 a4, .int .u16 a5] ∧ (0 ≤ a0 ∧ a0 ≤ 65535) ∧ (0 ≤ a1 ∧ a1 ≤ 65535) ∧ (0 ≤ a2 ∧ a2 ≤ 65535) ∧ (0 ≤ a3 ∧ a3 ≤ 65535) ∧ (0 ≤ a4 ∧ a4 ≤ 65535) ∧ (0 ≤ a5 ∧ a5 ≤ 65535) := by
  obtain ⟨cs, rfl, hsz, _⟩ : ∃ cs, v = .agg cs ∧ cs.size = Try.prog.cellsOf 74 ∧ True := by
    simp only [Value.okWide, Try.underlying74] at hv
    obtain ⟨cs, h1, h2, _⟩ := hv
    exact ⟨cs, h1, h2, trivial⟩
  obtain ⟨fuel, hf⟩ := h
  obtain ⟨hl, n, hi⟩ := trod_items Try.underlying74 hf
  rw [cellsArr6u] at hl
  have hl : cs.toList.length = 6 := hl
  match hcs : cs.toList, hl with
  | [c0, c1, c2, c3, c4, c5], _ =>
    obtain ⟨y0, h0⟩ := hi 0 (by decide)
    obtain ⟨y1, h1⟩ := hi 1 (by decide)
    obtain ⟨y2, h2⟩ := hi 2 (by decide)
    obtain ⟨y3, h3⟩ := hi 3 (by decide)
    obtain ⟨y4, h4⟩ := hi 4 (by decide)
    obtain ⟨y5, h5⟩ := hi 5 (by decide)
    simp [cellsU16', Value.cells, hcs] at h0 h1 h2 h3 h4 h5
    obtain ⟨a0, rfl, w0⟩ := trod_i64 Try.underlying73 h0
    obtain ⟨a1, rfl, w1⟩ := trod_i64 Try.underlying73 h1
    obtain ⟨a2, rfl, w2⟩ := trod_i64 Try.underlying73 h2
    obtain ⟨a3, rfl, w3⟩ := trod_i64 Try.underlying73 h3
    obtain ⟨a4, rfl, w4⟩ := trod_i64 Try.underlying73 h4
    obtain ⟨a5, rfl, w5⟩ := trod_i64 Try.underlying73 h5
    refine ⟨a0, a1, a2, a3, a4, a5, by rw [show cs = cs.toList.toArray from rfl, hcs], u16_of w0, u16_of w1, u16_of w2, u16_of w3, u16_of w4, u16_of w5⟩
end
end Go.Proofs.Ytdcedfciaaooiab
