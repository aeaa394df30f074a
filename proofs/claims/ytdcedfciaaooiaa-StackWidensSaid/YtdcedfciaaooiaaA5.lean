/- Rows of dimensions that the call itself makes. -/
import Derived.Test.YtdcedfciaaooiaaJ0
import Derived.RangeFuncBox
import Derived.OwnWalkIn
set_option linter.unusedVariables false
namespace Go.Proofs.Ytdcedfciaaooiaa
open Go.RowKit

def cellsD (d : Dim) : List Value := [.string d.frm, .string d.to, .int .i64 d.axis, .int .i64 d.lo, .int .i64 d.hi]
def flatD (ys : List Dim) : List Value := ys.flatMap cellsD
theorem flatD_snoc (ys : List Dim) (d : Dim) : flatD (ys ++ [d]) = flatD ys ++ cellsD d := by simp [flatD]
theorem flatD_at : ∀ (ys : List Dim) (k i : Nat), k < ys.length → i < 5 → (flatD ys)[k * 5 + i]? = (cellsD (ys.getD k zeroD))[i]?
  | [], k, i, hk, _ => by simp at hk
  | y :: ys, 0, i, _, hi => by
    have : (cellsD y).length = 5 := rfl
    rw [flatD, List.flatMap_cons, Nat.zero_mul, Nat.zero_add, List.getElem?_append_left (by rw [this]; exact hi)]
    rfl
  | y :: ys, k + 1, i, hk, hi => by
    have : (cellsD y).length = 5 := rfl
    have e : (k + 1) * 5 + i = 5 + (k * 5 + i) := by omega
    rw [flatD, List.flatMap_cons, e, List.getElem?_append_right (by rw [this]; omega), this, Nat.add_sub_cancel_left]
    have := flatD_at ys k i (by simpa using hk) hi
    rw [flatD] at this
    rw [this]
    rfl
/-- A row of dimensions that the call owns is a list of dimensions. -/
theorem ownsD {w : World} {base : Nat} {v : Value} {k : Nat} {ys : List Dim} (h : w.ownsRow base 40 5 v k (flatD ys)) (hl : ys.length = k) (hk : k ≤ 35184372088832) (hf : ∀ y ∈ ys, y.fits) : ∃ A c, v = .slice A k c ∧ Dims w A k ys := by
  have hfit : ∀ j, j < k → (ys.getD j zeroD).fits := fun j hj => by
    rw [List.getD_eq_getElem?_getD, List.getElem?_eq_getElem (by omega)]
    exact hf _ (List.getElem_mem _)
  rcases h.2 with ⟨rfl, rfl⟩ | ⟨g, cap, cur, rfl, hb, hg, h1, h2, h3, h4⟩
  · exact ⟨none, 0, rfl, hl, hk, hfit, .inl rfl⟩
  · refine ⟨_, _, rfl, hl, hk, hfit, ?_⟩
    right
    refine ⟨g, 0, rfl, fun j hj => ?_⟩
    have hc : ∀ i, i < 5 → w.cell? ⟨g, 0 + j * 5 + i, none⟩ = (cellsD (ys.getD j zeroD))[i]? := fun i hi => by
      have e := flatD_at ys j i (by omega) hi
      have hlen : i < (cellsD (ys.getD j zeroD)).length := hi
      have := h.cells (g := g) rfl (j * 5 + i) _ (by rw [e, List.getElem?_eq_getElem hlen])
      rw [List.getElem?_eq_getElem hlen, ← this]
      unfold Addr.add
      split <;> simp_all
    exact ⟨hc 0 (by omega), hc 1 (by omega), hc 2 (by omega), hc 3 (by omega), hc 4 (by omega)⟩
theorem Blk.not_row {W : World} {g : Nat} {cs : Array Value} {t e : TypeId} (h : Blk W g cs t) (hte : t ≠ e) {base size k : Nat} {v : Value} {xs : List Value} (hr : W.ownsRow base e size v k xs) : some g ≠ v.ownBlock := by
  rcases hr.2 with ⟨rfl, _⟩ | ⟨g', cap, cur, rfl, _, hgb, _⟩
  · simp [Value.ownBlock]
  · intro e'
    obtain rfl : g = g' := by simpa [Value.ownBlock] using e'
    have := (show W.heap[g]? = _ from h).symm.trans hgb
    simp at this
    exact hte this.2
theorem infoDim : (Try.prog.info? 40).map (fun i => (i.zero, i.size, i.bytes)) = some (some (.agg #[.string ⟨#[]⟩, .string ⟨#[]⟩, .int .i64 0, .int .i64 0, .int .i64 0]), 5, 56) := by kernel_rfl
theorem cells_five (w : World) (a b c d e : Value) (t : TypeId) : ∀ j u, [a, b, c, d, e][j]? = some u → (w.alloc (.cells #[a, b, c, d, e] t)).cell? ((⟨w.heap.size, 0, none⟩ : Addr).add j) = some u := by
  intro j u hj
  have hB := Blk.new w #[a, b, c, d, e] t
  have e1 : (⟨w.heap.size, 0, none⟩ : Addr).add j = ⟨w.heap.size, j, none⟩ := by unfold Addr.add; split <;> simp_all
  rw [e1, hB.cell j, ← hj]
  simp
end Go.Proofs.Ytdcedfciaaooiaa
