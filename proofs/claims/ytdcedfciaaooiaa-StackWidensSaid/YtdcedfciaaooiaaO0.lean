/- How the arguments of the laws are read: structs and arrays laid open. -/
import Derived.Test.YtdcedfciaaooiaaProg
import Derived.Test.YtdcedfciaaooiaaP17
import Derived.WalkKit
import Derived.ProofKit
import Derived.OpenShut
import Derived.ShutString
import Derived.ChangeOld
import Derived.Below
import Derived.SizedLaws
import Derived.KernelRfl
set_option linter.unusedVariables false
namespace Go.Proofs.Ytdcedfciaaooiaa
open Go.ChangeShapes Go.WideShapes Go.ChangeAt Go.RowKit
open Go.ChangeMaps (open_string shut_string)

section
variable {H : Type} {enc : TypeId × Value → H} {P : Program} {w : World} {base : Nat} {sp : Nat → Bool} {held : Bool}
theorem mapM_all {α β : Type} {f : α → Option β} : ∀ {l : List α} {r : List β}, l.mapM f = some r → ∀ x ∈ l, ∃ y, f x = some y
  | [], _, _, _, h => by cases h
  | a :: l, r, hr, x, hx => by
    rw [List.mapM_cons] at hr
    simp only [Option.bind_eq_bind, Option.bind_eq_some_iff] at hr
    obtain ⟨y, hy, ys, hys, _⟩ := hr
    cases hx with
    | head => exact ⟨y, hy⟩
    | tail _ hx => exact mapM_all hys x hx
theorem trod_fields {t : TypeId} {fs : Array Field} {fuel : Nat} {cs : List Value} {x : DataW H × List MemPlace} (ht : P.underlying t = some (.struct fs)) (h : DataW.trod enc P w base sp held fuel t cs = some x) :
    cs.length = P.cellsOf t ∧ ∃ n, ∀ f ∈ fs.toList, ∃ y, DataW.trod enc P w base sp held n f.type ((cs.drop f.offset).take (P.cellsOf f.type)) = some y := by
  cases fuel with
  | zero => simp [DataW.trod] at h
  | succ n =>
    unfold DataW.trod at h
    rw [ht] at h
    simp only at h
    split at h
    · rename_i hl
      rw [Option.map_eq_some_iff] at h
      obtain ⟨xs, hxs, _⟩ := h
      exact ⟨hl, n, mapM_all hxs⟩
    · cases h
theorem trod_items {t e : TypeId} {k fuel : Nat} {cs : List Value} {x : DataW H × List MemPlace} (ht : P.underlying t = some (.array k e)) (h : DataW.trod enc P w base sp held fuel t cs = some x) :
    cs.length = P.cellsOf t ∧ ∃ n, ∀ i, i < k → ∃ y, DataW.trod enc P w base sp held n e ((cs.drop (i * P.cellsOf e)).take (P.cellsOf e)) = some y := by
  cases fuel with
  | zero => simp [DataW.trod] at h
  | succ n =>
    unfold DataW.trod at h
    rw [ht] at h
    simp only at h
    split at h
    · rename_i hl
      rw [Option.map_eq_some_iff] at h
      obtain ⟨xs, hxs, _⟩ := h
      exact ⟨hl, n, fun i hi => mapM_all hxs i (by simpa using hi)⟩
    · cases h
theorem trod_i64 {t : TypeId} {k : IntKind} {fuel : Nat} {v : Value} {x : DataW H × List MemPlace} (ht : P.underlying t = some (.int k)) (h : DataW.trod enc P w base sp held fuel t [v] = some x) : ∃ n, v = .int k n ∧ (Lit.int k n).wf = true := by
  obtain ⟨n, hn, _, hw⟩ := DataW.trod_int ht h
  exact ⟨n, by simpa using hn, hw⟩
end

theorem cellsLim : Try.prog.cellsOf 23 = 2 := by kernel_rfl
theorem cellsInt : Try.prog.cellsOf 3 = 1 := by kernel_rfl
theorem cellsArr3 : Try.prog.cellsOf 24 = 3 := by kernel_rfl

section
variable {H : Type} {enc : TypeId × Value → H} {w w0 : World} {base b0 : Nat} {sp : Nat → Bool} {held : Bool} {r : Reach} {v : Value} {d : DataW H} {p : List MemPlace}

set_option maxRecDepth 100000 in
theorem lim_cells {fuel : Nat} {x : DataW H × List MemPlace} {cs : List Value} (h : DataW.trod enc Try.prog w base sp held fuel 23 cs = some x) : ∃ a b, cs = [.int .i64 a, .int .i64 b] ∧ (Lit.int .i64 a).wf = true ∧ (Lit.int .i64 b).wf = true := by
  obtain ⟨hl, n, hf⟩ := trod_fields Try.underlying23 h
  rw [cellsLim] at hl
  match cs, hl with
  | [c0, c1], _ =>
    obtain ⟨y0, h0⟩ := hf _ (List.mem_cons_self ..)
    obtain ⟨y1, h1⟩ := hf _ (List.mem_cons_of_mem _ (List.mem_cons_self ..))
    simp [cellsInt] at h0 h1
    obtain ⟨a, rfl, wa⟩ := trod_i64 Try.underlying3 h0
    obtain ⟨b, rfl, wb⟩ := trod_i64 Try.underlying3 h1
    exact ⟨a, b, rfl, wa, wb⟩
set_option maxRecDepth 100000 in
theorem open_lim (hv : Value.okWide Try.prog w0 r b0 23 v) (h : DataW.Trod enc Try.prog w base sp held 23 v d p) : ∃ a b, v = .agg #[.int .i64 a, .int .i64 b] ∧ (Lit.int .i64 a).wf = true ∧ (Lit.int .i64 b).wf = true := by
  obtain ⟨cs, rfl, hsz⟩ := okWide_struct Try.underlying23 hv
  obtain ⟨fuel, hf⟩ := h
  obtain ⟨a, b, hcs, wa, wb⟩ := lim_cells hf
  refine ⟨a, b, ?_, wa, wb⟩
  have : cs.toList = [.int .i64 a, .int .i64 b] := hcs
  rw [show cs = cs.toList.toArray from rfl, this]
set_option maxRecDepth 100000 in
theorem open_arr3 (hv : Value.okWide Try.prog w0 r b0 24 v) (h : DataW.Trod enc Try.prog w base sp held 24 v d p) : ∃ a b c, v = .agg #[.int .i64 a, .int .i64 b, .int .i64 c] := by
  obtain ⟨cs, rfl, hsz, _⟩ : ∃ cs, v = .agg cs ∧ cs.size = Try.prog.cellsOf 24 ∧ True := by
    simp only [Value.okWide, Try.underlying24] at hv
    obtain ⟨cs, h1, h2, _⟩ := hv
    exact ⟨cs, h1, h2, trivial⟩
  obtain ⟨fuel, hf⟩ := h
  obtain ⟨hl, n, hi⟩ := trod_items Try.underlying24 hf
  rw [cellsArr3] at hl
  have hl : cs.toList.length = 3 := hl
  match hcs : cs.toList, hl with
  | [c0, c1, c2], _ =>
    obtain ⟨y0, h0⟩ := hi 0 (by decide)
    obtain ⟨y1, h1⟩ := hi 1 (by decide)
    obtain ⟨y2, h2⟩ := hi 2 (by decide)
    simp [cellsInt, Value.cells, hcs] at h0 h1 h2
    obtain ⟨a, rfl, wa⟩ := trod_i64 Try.underlying3 h0
    obtain ⟨b, rfl, wb⟩ := trod_i64 Try.underlying3 h1
    obtain ⟨c, rfl, wc⟩ := trod_i64 Try.underlying3 h2
    exact ⟨a, b, c, by rw [show cs = cs.toList.toArray from rfl, hcs]⟩
end
end Go.Proofs.Ytdcedfciaaooiaa
