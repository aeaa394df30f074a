/- How dimensions, lists of dimensions and small arrays among the arguments are read. -/
import Derived.Test.YtdcedfciaaooiaaO0
import Derived.Test.YtdcedfciaaooiaaX4
set_option linter.unusedVariables false
namespace Go.Proofs.Ytdcedfciaaooiaa
open Go.ChangeShapes Go.WideShapes Go.ChangeAt Go.RowKit
open Go.ChangeMaps (open_string shut_string)

theorem cellsDim : Try.prog.cellsOf 40 = 5 := by kernel_rfl
theorem cellsStr : Try.prog.cellsOf 9 = 1 := by kernel_rfl

section
variable {H : Type} {enc : TypeId × Value → H} {w w0 : World} {base b0 : Nat} {sp : Nat → Bool} {held : Bool} {r : Reach} {v : Value} {d : DataW H} {p : List MemPlace}
theorem trod_str {P : Program} {t : TypeId} {fuel : Nat} {v : Value} {x : DataW H × List MemPlace} (ht : P.underlying t = some .string) (h : DataW.trod enc P w base sp held fuel t [v] = some x) : ∃ s : ByteArray, v = .string s ∧ s.size ≤ maxLen := by
  obtain ⟨s, hs, _, hl⟩ := DataW.trod_string ht h
  exact ⟨s, by simpa using hs, hl⟩
set_option maxRecDepth 100000 in
theorem dim_cells {fuel : Nat} {x : DataW H × List MemPlace} {cs : List Value} (h : DataW.trod enc Try.prog w base sp held fuel 40 cs = some x) : ∃ D : Dim, cs = [.string D.frm, .string D.to, .int .i64 D.axis, .int .i64 D.lo, .int .i64 D.hi] ∧ D.fits := by
  obtain ⟨hl, n, hf⟩ := trod_fields Try.underlying40 h
  rw [cellsDim] at hl
  match cs, hl with
  | [c0, c1, c2, c3, c4], _ =>
    obtain ⟨y0, h0⟩ := hf _ (List.mem_cons_self ..)
    obtain ⟨y1, h1⟩ := hf _ (List.mem_cons_of_mem _ (List.mem_cons_self ..))
    obtain ⟨y2, h2⟩ := hf _ (List.mem_cons_of_mem _ (List.mem_cons_of_mem _ (List.mem_cons_self ..)))
    obtain ⟨y3, h3⟩ := hf _ (List.mem_cons_of_mem _ (List.mem_cons_of_mem _ (List.mem_cons_of_mem _ (List.mem_cons_self ..))))
    simp [cellsInt, cellsStr, cellsLim] at h0 h1 h2 h3
    obtain ⟨s, rfl, ws⟩ := trod_str Try.underlying9 h0
    obtain ⟨t, rfl, wt⟩ := trod_str Try.underlying9 h1
    obtain ⟨k, rfl, wk⟩ := trod_i64 Try.underlying3 h2
    obtain ⟨a, b, hab, wa, wb⟩ := lim_cells h3
    simp at hab
    obtain ⟨rfl, rfl⟩ := hab
    exact ⟨⟨s, t, k, a, b⟩, rfl, by simpa [maxLen] using ws, by simpa [maxLen] using wt⟩
set_option maxRecDepth 100000 in
theorem open_dim (hv : Value.okWide Try.prog w0 r b0 40 v) (h : DataW.Trod enc Try.prog w base sp held 40 v d p) : ∃ D : Dim, v = .agg #[.string D.frm, .string D.to, .int .i64 D.axis, .int .i64 D.lo, .int .i64 D.hi] ∧ D.fits := by
  obtain ⟨cs, rfl, hsz⟩ := okWide_struct Try.underlying40 hv
  obtain ⟨fuel, hf⟩ := h
  obtain ⟨D, hcs, hD⟩ := dim_cells hf
  refine ⟨D, ?_, hD⟩
  have : cs.toList = [.string D.frm, .string D.to, .int .i64 D.axis, .int .i64 D.lo, .int .i64 D.hi] := hcs
  rw [show cs = cs.toList.toArray from rfl, this]
end
end Go.Proofs.Ytdcedfciaaooiaa
