/- How an array of two uint16 among the arguments is read. -/
import Derived.Test.YtdcedfciaaooiaaO0
set_option linter.unusedVariables false
namespace Go.Proofs.Ytdcedfciaaooiaa
open Go.ChangeShapes Go.WideShapes Go.ChangeAt Go.RowKit

theorem cellsU16 : Try.prog.cellsOf 56 = 1 := by kernel_rfl
theorem cellsArr2u : Try.prog.cellsOf 57 = 2 := by kernel_rfl

section
variable {H : Type} {enc : TypeId × Value → H} {w w0 : World} {base b0 : Nat} {sp : Nat → Bool} {held : Bool} {r : Reach} {v : Value} {d : DataW H} {p : List MemPlace}
set_option maxRecDepth 100000 in
theorem open_arr2u (hv : Value.okWide Try.prog w0 r b0 57 v) (h : DataW.Trod enc Try.prog w base sp held 57 v d p) : ∃ a b, v = .agg #[.int .u16 a, .int .u16 b] ∧ (Lit.int .u16 a).wf = true ∧ (Lit.int .u16 b).wf = true := by
  obtain ⟨cs, rfl, hsz, _⟩ : ∃ cs, v = .agg cs ∧ cs.size = Try.prog.cellsOf 57 ∧ True := by
    simp only [Value.okWide, Try.underlying57] at hv
    obtain ⟨cs, h1, h2, _⟩ := hv
    exact ⟨cs, h1, h2, trivial⟩
  obtain ⟨fuel, hf⟩ := h
  obtain ⟨hl, n, hi⟩ := trod_items Try.underlying57 hf
  rw [cellsArr2u] at hl
  have hl : cs.toList.length = 2 := hl
  match hcs : cs.toList, hl with
  | [c0, c1], _ =>
    obtain ⟨y0, h0⟩ := hi 0 (by decide)
    obtain ⟨y1, h1⟩ := hi 1 (by decide)
    simp [cellsU16, Value.cells, hcs] at h0 h1
    obtain ⟨a, rfl, wa⟩ := trod_i64 Try.underlying56 h0
    obtain ⟨b, rfl, wb⟩ := trod_i64 Try.underlying56 h1
    exact ⟨a, b, by rw [show cs = cs.toList.toArray from rfl, hcs], wa, wb⟩
end
end Go.Proofs.Ytdcedfciaaooiaa
