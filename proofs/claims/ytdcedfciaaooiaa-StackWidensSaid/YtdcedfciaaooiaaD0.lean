/- Lists of dimensions in memory, as they are read. -/
import Derived.Test.YtdcedfciaaooiaaX0
import Derived.Test.YtdcedfciaaooiaaX4
set_option linter.unusedVariables false
namespace Go.Proofs.Ytdcedfciaaooiaa
open Go.RowKit

def DCells (w : World) (b o : Nat) (d : Dim) : Prop :=
  w.cell? ⟨b, o, none⟩ = some (.string d.frm) ∧ w.cell? ⟨b, o + 1, none⟩ = some (.string d.to) ∧ w.cell? ⟨b, o + 2, none⟩ = some (.int .i64 d.axis) ∧ w.cell? ⟨b, o + 3, none⟩ = some (.int .i64 d.lo) ∧ w.cell? ⟨b, o + 4, none⟩ = some (.int .i64 d.hi)
theorem DCells.ext {w w' : World} {b o : Nat} {d : Dim} (h : DCells w b o d) (he : Ext w w') : DCells w' b o d :=
  ⟨he.cell h.1, he.cell h.2.1, he.cell h.2.2.1, he.cell h.2.2.2.1, he.cell h.2.2.2.2⟩
/-- The slice at A of n elements reads as xs. -/
def Dims (w : World) (A : Option Addr) (n : Nat) (xs : List Dim) : Prop :=
  xs.length = n ∧ n ≤ 35184372088832 ∧ (∀ k, k < n → (xs.getD k zeroD).fits) ∧ (n = 0 ∨ ∃ b o, A = some ⟨b, o, none⟩ ∧ ∀ k, k < n → DCells w b (o + k * 5) (xs.getD k zeroD))
theorem Dims.ext {w w' : World} {A : Option Addr} {n : Nat} {xs : List Dim} (h : Dims w A n xs) (he : Ext w w') : Dims w' A n xs := by
  obtain ⟨h1, h2, h3, h4⟩ := h
  refine ⟨h1, h2, h3, ?_⟩
  rcases h4 with h4 | ⟨b, o, hA, hc⟩
  · exact .inl h4
  · exact .inr ⟨b, o, hA, fun k hk => (hc k hk).ext he⟩
theorem Dims.len {w : World} {A : Option Addr} {n : Nat} {xs : List Dim} (h : Dims w A n xs) : xs.length = n := h.1
theorem Dims.max {w : World} {A : Option Addr} {n : Nat} {xs : List Dim} (h : Dims w A n xs) : n ≤ 35184372088832 := h.2.1
theorem Dims.fit {w : World} {A : Option Addr} {n : Nat} {xs : List Dim} (h : Dims w A n xs) (k : Nat) (hk : k < n) : (xs.getD k zeroD).fits := h.2.2.1 k hk
theorem Dims.at_ {w : World} {A : Option Addr} {n : Nat} {xs : List Dim} (h : Dims w A n xs) (h0 : 0 < n) : ∃ b o, A = some ⟨b, o, none⟩ ∧ ∀ k, k < n → DCells w b (o + k * 5) (xs.getD k zeroD) := by
  rcases h.2.2.2 with h4 | h4
  · omega
  · exact h4
theorem Dims.below {w : World} {A : Option Addr} {n : Nat} {xs : List Dim} (h : Dims w A n xs) (h0 : n ≠ 0) (b o : Nat) (hA : A = some ⟨b, o, none⟩) : b < w.heap.size := by
  obtain ⟨b', o', hA', hc⟩ := h.at_ (by omega)
  rw [hA] at hA'
  cases hA'
  exact World.block_lt_of_cell? w _ (hc 0 (by omega)).1
/-- The cells of element k, in a later world. -/
theorem Dims.cells {w w' : World} {b o n : Nat} {xs : List Dim} (h : ∀ k, k < n → DCells w b (o + k * 5) (xs.getD k zeroD)) (he : Ext w w') (k : Nat) (hk : k < n) (d : Dim) (hd : xs.getD k zeroD = d) :
    w'.cell? ⟨b, o + k * 5, none⟩ = some (.string d.frm) ∧ w'.cell? ⟨b, o + k * 5 + 1, none⟩ = some (.string d.to) ∧ w'.cell? ⟨b, o + k * 5 + 2, none⟩ = some (.int .i64 d.axis) ∧ w'.cell? ⟨b, o + k * 5 + 3, none⟩ = some (.int .i64 d.lo) ∧ w'.cell? ⟨b, o + k * 5 + 4, none⟩ = some (.int .i64 d.hi) :=
  hd ▸ (h k hk).ext he
theorem Dims.take {w : World} {A : Option Addr} {n : Nat} {xs : List Dim} (h : Dims w A n xs) {k : Nat} (hk : k ≤ n) : Dims w A k (xs.take k) := by
  have e : ∀ j, j < k → (xs.take k).getD j zeroD = xs.getD j zeroD := fun j hj => by
    rw [List.getD_eq_getElem?_getD, List.getD_eq_getElem?_getD, List.getElem?_take_of_lt hj]
  refine ⟨by rw [List.length_take, h.len]; omega, by have := h.max; omega, fun j hj => by rw [e j hj]; exact h.fit j (by omega), ?_⟩
  by_cases h0 : k = 0
  · exact .inl h0
  · obtain ⟨b, o, hA, hc⟩ := h.at_ (by omega)
    exact .inr ⟨b, o, hA, fun j hj => by rw [e j hj]; exact hc j (by omega)⟩
theorem Dims.drop {w : World} {b o n : Nat} {xs : List Dim} (h : Dims w (some ⟨b, o, none⟩) n xs) {k : Nat} (hk : k < n) : Dims w (some ⟨b, o + k * 5, none⟩) (n - k) (xs.drop k) := by
  have e : ∀ j, (xs.drop k).getD j zeroD = xs.getD (k + j) zeroD := fun j => by
    rw [List.getD_eq_getElem?_getD, List.getD_eq_getElem?_getD, List.getElem?_drop]
  refine ⟨by rw [List.length_drop, h.len], by have := h.max; omega, fun j hj => by rw [e j]; exact h.fit _ (by omega), ?_⟩
  obtain ⟨b', o', hA, hc⟩ := h.at_ (by omega)
  cases hA
  refine .inr ⟨b, o + k * 5, rfl, fun j hj => ?_⟩
  rw [e j, show o + k * 5 + j * 5 = o + (k + j) * 5 from by omega]
  exact hc _ (by omega)
/-- The first error of some dimensions. -/
def allE (xs : List Dim) : Int := firstE (xs.map validE)
theorem getD_map {xs : List Dim} {k : Nat} (hk : k < xs.length) : (xs.map validE).getD k 0 = validE (xs.getD k zeroD) := by
  simp [List.getD_eq_getElem?_getD, hk]
theorem allE_hit {xs : List Dim} {n : Nat} (hn : xs.length = n) (k : Nat) (hk : k < n) (ha : ∀ j, j < k → validE (xs.getD j zeroD) = 0) (h : validE (xs.getD k zeroD) ≠ 0) : allE xs = validE (xs.getD k zeroD) := by
  rw [← getD_map (by omega)]
  exact firstE_hit _ k (fun j hj => by rw [getD_map (by omega)]; exact ha j hj) (by rw [getD_map (by omega)]; exact h)
theorem allE_none {xs : List Dim} {n : Nat} (hn : xs.length = n) (ha : ∀ j, j < n → validE (xs.getD j zeroD) = 0) : allE xs = 0 :=
  firstE_none _ n (by simpa using hn) (fun j hj => by rw [getD_map (by omega)]; exact ha j hj)
def givenE (xs : List Dim) : Int := if 256 < xs.length then 5 else allE xs
theorem givenE_many {xs : List Dim} {n : Nat} (hn : xs.length = n) (h : 256 < n) : givenE xs = 5 := by rw [givenE, if_pos (by omega)]
theorem givenE_few {xs : List Dim} {n : Nat} (hn : xs.length = n) (h : ¬ 256 < n) : givenE xs = allE xs := by rw [givenE, if_neg (by omega)]
end Go.Proofs.Ytdcedfciaaooiaa
