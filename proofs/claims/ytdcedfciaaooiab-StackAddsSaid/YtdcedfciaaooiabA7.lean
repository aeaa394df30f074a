/- Rows of links of the call's own, whichever of the two types. -/
import Derived.Test.YtdcedfciaaooiabO25
set_option linter.unusedVariables false
namespace Go.Proofs.Ytdcedfciaaooiab
open Go.RowKit

theorem flatL_len : ∀ (ys : List Lk), (flatL ys).length = ys.length * 2
  | [] => rfl
  | y :: ys => by
    have := flatL_len ys
    rw [flatL] at this ⊢
    rw [List.flatMap_cons, List.length_append, this, List.length_cons]
    simp [cellsL]
    omega
theorem flatL_append (a b : List Lk) : flatL (a ++ b) = flatL a ++ flatL b := by simp [flatL]
theorem flatL_one (ys : List Lk) : ∀ u ∈ flatL ys, u.oneCell' = true := by
  intro u hu
  obtain ⟨d, _, hd⟩ := List.mem_flatMap.1 hu
  simp only [cellsL, List.mem_cons, List.not_mem_nil, or_false] at hd
  rcases hd with rfl | rfl <;> rfl
theorem flatL_get (ys : List Lk) (j : Nat) (u : Value) (h : (flatL ys)[j]? = some u) : ∃ k i, k < ys.length ∧ i < 2 ∧ j = k * 2 + i ∧ (cellsL (ys.getD k zeroK))[i]? = some u := by
  have hl := (List.getElem?_eq_some_iff.1 h).1
  rw [flatL_len] at hl
  have hk : j / 2 < ys.length := by omega
  have hi : j % 2 < 2 := Nat.mod_lt _ (by omega)
  have e : j = j / 2 * 2 + j % 2 := by omega
  refine ⟨j / 2, j % 2, hk, hi, e, ?_⟩
  rw [← flatL_at ys _ _ hk hi, ← e]
  exact h
theorem LCells.get {w : World} {b o : Nat} {d : Lk} (h : LCells w b o d) (i : Nat) (hi : i < 2) : w.cell? ⟨b, o + i, none⟩ = (cellsL d)[i]? := by
  obtain ⟨h0, h1⟩ := h
  match i, hi with
  | 0, _ => exact h0
  | 1, _ => exact h1
theorem Lnks.news {w w' : World} {b o n : Nat} {ks : List Lk} (hx : ks.length = n) (h : ∀ k, k < n → LCells w b (o + k * 2) (ks.getD k zeroK)) (he : Ext w w') : ∀ j u, (flatL ks)[j]? = some u → w'.cell? ((⟨b, o, none⟩ : Addr).add j) = some u := by
  intro j u hj
  obtain ⟨k, i, hk, hi, e, hu⟩ := flatL_get ks j u hj
  have e1 : (⟨b, o, none⟩ : Addr).add j = ⟨b, o + k * 2 + i, none⟩ := by unfold Addr.add; split <;> simp_all; omega
  rw [e1, ((h k (by omega)).ext he).get i hi]
  exact hu
/-- A row of links of the call's own: where it lies, what it holds. -/
def LRow (t : TypeId) (W : World) (base g n : Nat) (cur : Array Value) (ys : List Lk) : Prop :=
  base ≤ g ∧ Blk W g cur t ∧ ys.length = n ∧ n * 2 ≤ cur.size ∧ ∀ j, j < n → ∀ i, i < 2 → cur[j * 2 + i]? = (cellsL (ys.getD j zeroK))[i]?
theorem ownsLR {t : TypeId} {w : World} {base : Nat} {v : Value} {k : Nat} {ys : List Lk} (h : w.ownsRow base t 2 v k (flatL ys)) (hk : 0 < k) : ∃ g cap cur, v = .slice (some ⟨g, 0, none⟩) k cap ∧ k ≤ cap ∧ LRow t w base g k cur ys := by
  have hl := h.1
  rw [flatL_len] at hl
  rcases h.2 with ⟨rfl, h0⟩ | ⟨g, cap, cur, rfl, hb, hg, h1, h2, h3, h4⟩
  · omega
  · refine ⟨g, cap, cur, rfl, h1, hb, hg, by omega, by omega, fun j hj i hi => ?_⟩
    have e := congrArg (fun l => l[j * 2 + i]?) h4
    have hlt : j * 2 + i < k * 2 := by omega
    simp only [List.getElem?_take, if_pos hlt, Array.getElem?_toList] at e
    rw [e, flatL_at ys j i (by omega) hi]
section
variable {t : TypeId} {W W' : World} {base g n : Nat} {cur : Array Value} {ys : List Lk}
theorem LRow.lt (h : LRow t W base g n cur ys) : g < W.heap.size := h.2.1.lt
theorem LRow.ge (h : LRow t W base g n cur ys) : base ≤ g := h.1
theorem LRow.ext (h : LRow t W base g n cur ys) (he : Ext W W') : LRow t W' base g n cur ys := ⟨h.1, h.2.1.ext he, h.2.2⟩
theorem LRow.lnks (h : LRow t W base g n cur ys) (hn : n ≤ 35184372088832) : Lnks W (some ⟨g, 0, none⟩) n ys := by
  refine ⟨h.2.2.1, hn, .inr ⟨g, 0, rfl, fun k hk => ?_⟩⟩
  have hc : ∀ i, i < 2 → W.cell? ⟨g, 0 + k * 2 + i, none⟩ = (cellsL (ys.getD k zeroK))[i]? := fun i hi => by
    rw [Nat.zero_add, h.2.1.cell, h.2.2.2.2 k hk i hi]
  exact ⟨hc 0 (by omega), hc 1 (by omega)⟩
end
end Go.Proofs.Ytdcedfciaaooiab
