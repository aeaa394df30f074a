/- Rows of dimensions of the call's own: one of them gets other limits. -/
import Derived.Test.YtdcedfciaaooiaaA5
import Derived.Test.YtdcedfciaaooiaaQ26
set_option linter.unusedVariables false
namespace Go.Proofs.Ytdcedfciaaooiaa
open Go.RowKit

theorem cellsD_len (d : Dim) : (cellsD d).length = 5 := rfl
theorem flatD_len : ∀ (ys : List Dim), (flatD ys).length = ys.length * 5
  | [] => rfl
  | y :: ys => by
    have := flatD_len ys
    rw [flatD] at this ⊢
    rw [List.flatMap_cons, List.length_append, this, cellsD_len, List.length_cons]
    omega
theorem flatD_one (ys : List Dim) : ∀ u ∈ flatD ys, u.oneCell' = true := by
  intro u hu
  obtain ⟨d, _, hd⟩ := List.mem_flatMap.1 hu
  simp only [cellsD, List.mem_cons, List.not_mem_nil, or_false] at hd
  rcases hd with rfl | rfl | rfl | rfl | rfl <;> rfl
theorem flatD_get (ys : List Dim) (j : Nat) (u : Value) (h : (flatD ys)[j]? = some u) : ∃ k i, k < ys.length ∧ i < 5 ∧ j = k * 5 + i ∧ (cellsD (ys.getD k zeroD))[i]? = some u := by
  have hl := (List.getElem?_eq_some_iff.1 h).1
  rw [flatD_len] at hl
  have hk : j / 5 < ys.length := by omega
  have hi : j % 5 < 5 := Nat.mod_lt _ (by omega)
  have e : j = j / 5 * 5 + j % 5 := by omega
  refine ⟨j / 5, j % 5, hk, hi, e, ?_⟩
  rw [← flatD_at ys _ _ hk hi, ← e]
  exact h
theorem DCells.get {w : World} {b o : Nat} {d : Dim} (h : DCells w b o d) (i : Nat) (hi : i < 5) : w.cell? ⟨b, o + i, none⟩ = (cellsD d)[i]? := by
  obtain ⟨h0, h1, h2, h3, h4⟩ := h
  match i, hi with
  | 0, _ => exact h0
  | 1, _ => exact h1
  | 2, _ => exact h2
  | 3, _ => exact h3
  | 4, _ => exact h4
theorem Dims.news {w w' : World} {b o n : Nat} {xs : List Dim} (hx : xs.length = n) (h : ∀ k, k < n → DCells w b (o + k * 5) (xs.getD k zeroD)) (he : Ext w w') : ∀ j u, (flatD xs)[j]? = some u → w'.cell? ((⟨b, o, none⟩ : Addr).add j) = some u := by
  intro j u hj
  obtain ⟨k, i, hk, hi, e, hu⟩ := flatD_get xs j u hj
  have e1 : (⟨b, o, none⟩ : Addr).add j = ⟨b, o + k * 5 + i, none⟩ := by unfold Addr.add; split <;> simp_all; omega
  rw [e1, ((h k (by omega)).ext he).get i hi]
  exact hu
/-- A row of dimensions of the call's own: where it lies, what it holds. -/
def DRow (W : World) (base g n : Nat) (cur : Array Value) (ys : List Dim) : Prop :=
  base ≤ g ∧ Blk W g cur 40 ∧ ys.length = n ∧ n * 5 ≤ cur.size ∧ ∀ j, j < n → ∀ i, i < 5 → cur[j * 5 + i]? = (cellsD (ys.getD j zeroD))[i]?
theorem ownsDR {w : World} {base : Nat} {v : Value} {k : Nat} {ys : List Dim} (h : w.ownsRow base 40 5 v k (flatD ys)) (hk : 0 < k) : ∃ g cap cur, v = .slice (some ⟨g, 0, none⟩) k cap ∧ DRow w base g k cur ys := by
  have hl := h.1
  rw [flatD_len] at hl
  rcases h.2 with ⟨rfl, h0⟩ | ⟨g, cap, cur, rfl, hb, hg, h1, h2, h3, h4⟩
  · omega
  · refine ⟨g, cap, cur, rfl, hb, hg, by omega, by omega, fun j hj i hi => ?_⟩
    have e := congrArg (fun l => l[j * 5 + i]?) h4
    have hlt : j * 5 + i < k * 5 := by omega
    simp only [List.getElem?_take, if_pos hlt, Array.getElem?_toList] at e
    rw [e, flatD_at ys j i (by omega) hi]
section
variable {W W' : World} {base g n : Nat} {cur : Array Value} {ys : List Dim}
theorem DRow.lt (h : DRow W base g n cur ys) : g < W.heap.size := h.2.1.lt
theorem DRow.ge (h : DRow W base g n cur ys) : base ≤ g := h.1
theorem DRow.ext (h : DRow W base g n cur ys) (he : Ext W W') : DRow W' base g n cur ys := ⟨h.1, h.2.1.ext he, h.2.2⟩
theorem DRow.dims (h : DRow W base g n cur ys) (hn : n ≤ 35184372088832) (hf : ∀ k, k < n → (ys.getD k zeroD).fits) : Dims W (some ⟨g, 0, none⟩) n ys := by
  refine ⟨h.2.2.1, hn, hf, .inr ⟨g, 0, rfl, fun k hk => ?_⟩⟩
  have hc : ∀ i, i < 5 → W.cell? ⟨g, 0 + k * 5 + i, none⟩ = (cellsD (ys.getD k zeroD))[i]? := fun i hi => by
    rw [Nat.zero_add, h.2.1.cell, h.2.2.2.2 k hk i hi]
  exact ⟨hc 0 (by omega), hc 1 (by omega), hc 2 (by omega), hc 3 (by omega), hc 4 (by omega)⟩
theorem DRow.cells (h : DRow W base g n cur ys) {p : Nat} (hp : p < n) (d : Dim) (hd : ys.getD p zeroD = d) :
    (W.cell? ⟨g, p * 5 + 3, none⟩ = some (.int .i64 d.lo) ∧ W.cell? ⟨g, p * 5 + 4, none⟩ = some (.int .i64 d.hi)) ∧ W.frozen? ⟨g, p * 5 + 3, none⟩ = false ∧ W.frozen? ⟨g, p * 5 + 4, none⟩ = false := by
  subst hd
  exact ⟨⟨(h.2.1.cell _).trans (h.2.2.2.2 p hp 3 (by omega)), (h.2.1.cell _).trans (h.2.2.2.2 p hp 4 (by omega))⟩, h.2.1.frozen _, h.2.1.frozen _⟩
theorem DRow.put (h : DRow W base g n cur ys) {p i : Nat} (hp : p < n) (hi : i < 5) (v : Value) (d : Dim) (hd : cellsD d = (cellsD (ys.getD p zeroD)).set i v) :
    DRow (W.setCell ⟨g, p * 5 + i, none⟩ v) base g n (cur.setIfInBounds (p * 5 + i) v) (ys.set p d) := by
  have h3 := h.2.2.1
  have h4 := h.2.2.2.1
  refine ⟨h.1, h.2.1.set _ _, by rw [List.length_set]; exact h3, by rw [Array.size_setIfInBounds]; exact h4, fun j hj k hk => ?_⟩
  by_cases e : p = j
  · subst e
    rw [List.getD_eq_getElem?_getD, List.getElem?_set_self (by omega), Option.getD_some, hd]
    by_cases e2 : i = k
    · subst e2
      rw [Array.getElem?_setIfInBounds_self_of_lt (by omega), List.getElem?_set_self (by rw [cellsD_len]; exact hi)]
    · rw [Array.getElem?_setIfInBounds_ne (by omega), List.getElem?_set_ne e2, h.2.2.2.2 p hp k hk]
  · rw [Array.getElem?_setIfInBounds_ne (by omega), h.2.2.2.2 j hj k hk, List.getD_eq_getElem?_getD, List.getD_eq_getElem?_getD, List.getElem?_set_ne e]
theorem DRow.far (h : DRow W base g n cur ys) {p : Addr} (hp : g ≠ p.block) (u : Value) : DRow (W.setCell p u) base g n cur ys := ⟨h.1, h.2.1.far hp u, h.2.2⟩
theorem DRow.alloc (h : DRow W base g n cur ys) (o : Obj) : DRow (W.alloc o) base g n cur ys := ⟨h.1, h.2.1.alloc o, h.2.2⟩
theorem withL_eq (ys : List Dim) (p : Nat) (hp : p < ys.length) (l : Lim) : (ys.set p { ys.getD p zeroD with lo := l.lo }).set p { (ys.set p { ys.getD p zeroD with lo := l.lo }).getD p zeroD with hi := l.hi } = withL ys p l := by
  rw [List.set_set, withL]
  congr 1
  rw [List.getD_eq_getElem?_getD, List.getElem?_set_self hp, Option.getD_some]
theorem DRow.putL (h : DRow W base g n cur ys) {p : Nat} (hp : p < n) (l : Lim) :
    DRow ((W.setCell ⟨g, p * 5 + 3, none⟩ (.int .i64 l.lo)).setCell ⟨g, p * 5 + 4, none⟩ (.int .i64 l.hi)) base g n ((cur.setIfInBounds (p * 5 + 3) (.int .i64 l.lo)).setIfInBounds (p * 5 + 4) (.int .i64 l.hi)) (withL ys p l) := by
  have h1 := h.put hp (i := 3) (by omega) (.int .i64 l.lo) { ys.getD p zeroD with lo := l.lo } rfl
  have h2 := h1.put hp (i := 4) (by omega) (.int .i64 l.hi) { (ys.set p { ys.getD p zeroD with lo := l.lo }).getD p zeroD with hi := l.hi } rfl
  rwa [withL_eq ys p (by have := h.2.2.1; omega) l] at h2
theorem DRow.putH (h : DRow W base g n cur ys) {p : Nat} (hp : p < n) (x : Int) :
    DRow (W.setCell ⟨g, p * 5 + 4, none⟩ (.int .i64 x)) base g n (cur.setIfInBounds (p * 5 + 4) (.int .i64 x)) (withL ys p ⟨(ys.getD p zeroD).lo, x⟩) :=
  h.put hp (i := 4) (by omega) (.int .i64 x) _ rfl
end
end Go.Proofs.Ytdcedfciaaooiaa
