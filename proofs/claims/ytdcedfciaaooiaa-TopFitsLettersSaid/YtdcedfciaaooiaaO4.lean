/- How a fit of four numbers among the arguments is read. -/
import Derived.Test.YtdcedfciaaooiaaO0
set_option linter.unusedVariables false
namespace Go.Proofs.Ytdcedfciaaooiaa
open Go.ChangeShapes Go.WideShapes Go.ChangeAt Go.RowKit

theorem cellsRun : Try.prog.cellsOf 65 = 4 := by kernel_rfl

section
variable {H : Type} {enc : TypeId × Value → H} {w w0 : World} {base b0 : Nat} {sp : Nat → Bool} {held : Bool} {r : Reach} {v : Value} {d : DataW H} {p : List MemPlace}
set_option maxRecDepth 100000 in
theorem open_run (hv : Value.okWide Try.prog w0 r b0 65 v) (h : DataW.Trod enc Try.prog w base sp held 65 v d p) : ∃ a b c e, v = .agg #[.int .i64 a, .int .i64 b, .int .i64 c, .int .i64 e] := by
  obtain ⟨cs, rfl, hsz⟩ := okWide_struct Try.underlying65 hv
  obtain ⟨fuel, hf⟩ := h
  obtain ⟨hl, n, hi⟩ := trod_fields Try.underlying65 hf
  rw [cellsRun] at hl
  have hl : cs.toList.length = 4 := hl
  match hcs : cs.toList, hl with
  | [c0, c1, c2, c3], _ =>
    obtain ⟨y0, h0⟩ := hi _ (List.mem_cons_self ..)
    obtain ⟨y1, h1⟩ := hi _ (List.mem_cons_of_mem _ (List.mem_cons_self ..))
    obtain ⟨y2, h2⟩ := hi _ (List.mem_cons_of_mem _ (List.mem_cons_of_mem _ (List.mem_cons_self ..)))
    obtain ⟨y3, h3⟩ := hi _ (List.mem_cons_of_mem _ (List.mem_cons_of_mem _ (List.mem_cons_of_mem _ (List.mem_cons_self ..))))
    simp [cellsInt, Value.cells, hcs] at h0 h1 h2 h3
    obtain ⟨a, rfl, wa⟩ := trod_i64 Try.underlying3 h0
    obtain ⟨b, rfl, wb⟩ := trod_i64 Try.underlying3 h1
    obtain ⟨c, rfl, wc⟩ := trod_i64 Try.underlying3 h2
    obtain ⟨e, rfl, we⟩ := trod_i64 Try.underlying3 h3
    exact ⟨a, b, c, e, by rw [show cs = cs.toList.toArray from rfl, hcs]⟩
end
end Go.Proofs.Ytdcedfciaaooiaa
