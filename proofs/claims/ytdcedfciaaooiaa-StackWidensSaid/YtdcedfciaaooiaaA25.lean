/- Rows of ints that the call itself makes. -/
import Derived.Test.YtdcedfciaaooiaaJ0
import Derived.RangeFuncBox
import Derived.OwnWalkIn
set_option linter.unusedVariables false
namespace Go.Proofs.Ytdcedfciaaooiaa
open Go.RowKit

def flatI (ys : List Int) : List Value := ys.map (Value.int .i64 ·)
theorem flatI_snoc (ys : List Int) (d : Int) : flatI (ys ++ [d]) = flatI ys ++ [.int .i64 d] := by simp [flatI]
theorem flatI_len (ys : List Int) : (flatI ys).length = ys.length := by simp [flatI]
theorem Blk.under_row {W : World} {g : Nat} {cs : Array Value} {t e : TypeId} (h : Blk W g cs t) {base size k : Nat} {v : Value} {xs : List Value} (hg : g < base) (hr : W.ownsRow base e size v k xs) : some g ≠ v.ownBlock := by
  rcases hr.2 with ⟨rfl, _⟩ | ⟨g', cap, cur, rfl, hb, hgb, _⟩
  · simp [Value.ownBlock]
  · intro e'
    obtain rfl : g = g' := by simpa [Value.ownBlock] using e'
    omega
theorem infoInt : (Try.prog.info? 3).map (fun i => (i.zero, i.size, i.bytes)) = some (some (.int .i64 0), 1, 8) := by kernel_rfl
theorem cells_one (w : World) (a : Value) (t : TypeId) : ∀ j u, [a][j]? = some u → (w.alloc (.cells #[a] t)).cell? ((⟨w.heap.size, 0, none⟩ : Addr).add j) = some u := by
  intro j u hj
  have hB := Blk.new w #[a] t
  have e1 : (⟨w.heap.size, 0, none⟩ : Addr).add j = ⟨w.heap.size, j, none⟩ := by unfold Addr.add; split <;> simp_all
  rw [e1, hB.cell j, ← hj]
  simp
/-- A row of ints of the call's own: where it lies, its room, what it holds. -/
def IRow (W : World) (base g n : Nat) (cur : Array Value) (ys : List Int) : Prop :=
  base ≤ g ∧ Blk W g cur 3 ∧ ys.length = n ∧ n ≤ cur.size ∧ ∀ j, j < n → cur[j]? = some (.int .i64 (ys.getD j 0))
theorem ownsI {W : World} {base : Nat} {v : Value} {k : Nat} {ys : List Int} (h : W.ownsRow base 3 1 v k (flatI ys)) (hk : 0 < k) : ∃ g cap cur, v = .slice (some ⟨g, 0, none⟩) k cap ∧ IRow W base g k cur ys := by
  have hl := h.1
  rw [flatI_len, Nat.mul_one] at hl
  rcases h.2 with ⟨rfl, h0⟩ | ⟨g, cap, cur, rfl, hb, hg, h1, h2, h3, h4⟩
  · omega
  · rw [Nat.mul_one] at h3 h4
    refine ⟨g, cap, cur, rfl, hb, hg, hl, by omega, fun j hj => ?_⟩
    have e := congrArg (fun l => l[j]?) h4
    simp only [List.getElem?_take, if_pos hj, Array.getElem?_toList] at e
    rw [e, flatI, List.getElem?_map, List.getD_eq_getElem?_getD, List.getElem?_eq_getElem (by omega)]
    rfl
theorem IRow.lt {W : World} {base g n : Nat} {cur : Array Value} {ys : List Int} (h : IRow W base g n cur ys) : g < W.heap.size := h.2.1.lt
theorem IRow.ext {W W' : World} {base g n : Nat} {cur : Array Value} {ys : List Int} (h : IRow W base g n cur ys) (he : Ext W W') : IRow W' base g n cur ys := ⟨h.1, h.2.1.ext he, h.2.2⟩
theorem IRow.cell {W : World} {base g n : Nat} {cur : Array Value} {ys : List Int} (h : IRow W base g n cur ys) {j : Nat} (hj : j < n) : W.cell? ⟨g, j, none⟩ = some (.int .i64 (ys.getD j 0)) ∧ W.frozen? ⟨g, j, none⟩ = false :=
  ⟨(h.2.1.cell j).trans (h.2.2.2.2 j hj), h.2.1.frozen j⟩
theorem IRow.put {W : World} {base g n : Nat} {cur : Array Value} {ys : List Int} (h : IRow W base g n cur ys) {j : Nat} (hj : j < n) (v : Int) :
    IRow (W.setCell ⟨g, j, none⟩ (.int .i64 v)) base g n (cur.setIfInBounds j (.int .i64 v)) (ys.set j v) := by
  refine ⟨h.1, h.2.1.set j _, by rw [List.length_set]; exact h.2.2.1, by rw [Array.size_setIfInBounds]; exact h.2.2.2.1, fun i hi => ?_⟩
  have h3 := h.2.2.1
  have h4 := h.2.2.2.1
  by_cases e : j = i
  · subst e
    rw [Array.getElem?_setIfInBounds_self_of_lt (by omega), List.getD_eq_getElem?_getD, List.getElem?_set_self (by omega)]
    rfl
  · rw [Array.getElem?_setIfInBounds_ne e, h.2.2.2.2 i hi, List.getD_eq_getElem?_getD, List.getD_eq_getElem?_getD, List.getElem?_set_ne e]
end Go.Proofs.Ytdcedfciaaooiaa
