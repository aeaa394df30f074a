/- Chains of links: in memory, and in plain Lean (goes, chain). -/
import Derived.Test.YtdcedfciaaooiaaE24
import Derived.Test.YtdcedfciaaooiaaM0
set_option linter.unusedVariables false
namespace Go.Proofs.Ytdcedfciaaooiaa
open Go.RowKit

def zeroK : Lk := ⟨0, false⟩
def LCells (w : World) (b o : Nat) (x : Lk) : Prop := w.cell? ⟨b, o, none⟩ = some (.int .i64 x.dim) ∧ w.cell? ⟨b, o + 1, none⟩ = some (.bool x.back)
theorem LCells.ext {w w' : World} {b o : Nat} {x : Lk} (h : LCells w b o x) (he : Ext w w') : LCells w' b o x := ⟨he.cell h.1, he.cell h.2⟩
/-- The slice at A of n links reads as cs. -/
def Lnks (w : World) (A : Option Addr) (n : Nat) (cs : List Lk) : Prop :=
  cs.length = n ∧ n ≤ 35184372088832 ∧ (n = 0 ∨ ∃ b o, A = some ⟨b, o, none⟩ ∧ ∀ k, k < n → LCells w b (o + k * 2) (cs.getD k zeroK))
section
variable {w w' : World} {A : Option Addr} {n : Nat} {cs : List Lk}
theorem Lnks.ext (h : Lnks w A n cs) (he : Ext w w') : Lnks w' A n cs := by
  obtain ⟨h1, h2, h4⟩ := h
  refine ⟨h1, h2, ?_⟩
  rcases h4 with h4 | ⟨b, o, hA, hc⟩
  · exact .inl h4
  · exact .inr ⟨b, o, hA, fun k hk => (hc k hk).ext he⟩
theorem Lnks.len (h : Lnks w A n cs) : cs.length = n := h.1
theorem Lnks.max (h : Lnks w A n cs) : n ≤ 35184372088832 := h.2.1
theorem Lnks.at_ (h : Lnks w A n cs) (h0 : 0 < n) : ∃ b o, A = some ⟨b, o, none⟩ ∧ ∀ k, k < n → LCells w b (o + k * 2) (cs.getD k zeroK) := by
  rcases h.2.2 with h4 | h4
  · omega
  · exact h4
theorem Lnks.take (h : Lnks w A n cs) {k : Nat} (hk : k ≤ n) : Lnks w A k (cs.take k) := by
  have e : ∀ j, j < k → (cs.take k).getD j zeroK = cs.getD j zeroK := fun j hj => by
    rw [List.getD_eq_getElem?_getD, List.getD_eq_getElem?_getD, List.getElem?_take_of_lt hj]
  refine ⟨by rw [List.length_take, h.len]; omega, by have := h.max; omega, ?_⟩
  by_cases h0 : k = 0
  · exact .inl h0
  · obtain ⟨b, o, hA, hc⟩ := h.at_ (by omega)
    exact .inr ⟨b, o, hA, fun j hj => by rw [e j hj]; exact hc j (by omega)⟩
end
theorem Lnks.cells {w w' : World} {b o n : Nat} {cs : List Lk} (h : ∀ k, k < n → LCells w b (o + k * 2) (cs.getD k zeroK)) (he : Ext w w') (k : Nat) (hk : k < n) (x : Lk) (hx : cs.getD k zeroK = x) :
    w'.cell? ⟨b, o + k * 2, none⟩ = some (.int .i64 x.dim) ∧ w'.cell? ⟨b, o + k * 2 + 1, none⟩ = some (.bool x.back) := hx ▸ (h k hk).ext he

/-! Plain. -/
def axisK (xs : List Dim) (x : Lk) : Int := (xs.getD x.dim.toNat zeroD).axis
def rangeB (xs : List Dim) (x : Lk) : Bool := decide (x.dim < 0) || decide ((xs.length : Int) ≤ x.dim)
def firstK (cs : List Lk) : Lk := cs.getD 0 zeroK
def lastK (cs : List Lk) : Lk := cs.getD (cs.length - 1) zeroK
def shapeB (xs : List Dim) (cs : List Lk) (x : Lk) : Bool := decide (0 < cs.length) && (axisK xs x != axisK xs (firstK cs) || !sameS (beginS xs x) (stopS xs (lastK cs)))
def usedB (cs : List Lk) (x : Lk) : Bool := cs.any (fun y => y.dim == x.dim)
def begunB (xs : List Dim) (cs : List Lk) (x : Lk) : Bool := (cs.drop 1).any (fun y => sameS (beginS xs y) (stopS xs x))
def shutB (xs : List Dim) (cs : List Lk) : Bool := decide (0 < cs.length) && sameS (beginS xs (firstK cs)) (stopS xs (lastK cs))
def goesE (xs : List Dim) (cs : List Lk) (x : Lk) : Int :=
  if rangeB xs x then 2 else if shapeB xs cs x then 8 else if usedB cs x || shutB xs cs || begunB xs cs x then 7 else 0
def goesAll (xs : List Dim) (cs : List Lk) : List Int := (List.range cs.length).map fun k => goesE xs (cs.take k) (cs.getD k zeroK)
def chainE (xs : List Dim) (cs : List Lk) : Int := if cs.length = 0 then 13 else if 256 < cs.length then 5 else firstE (goesAll xs cs)
def checkE (xs : List Dim) (cs : List Lk) : Int := if givenE xs ≠ 0 then givenE xs else chainE xs cs
theorem goesAll_at (xs : List Dim) (cs : List Lk) (k : Nat) (hk : k < cs.length) : (goesAll xs cs).getD k 0 = goesE xs (cs.take k) (cs.getD k zeroK) := by
  simp [goesAll, List.getD_eq_getElem?_getD, hk]
theorem chainE_hit {xs : List Dim} {cs : List Lk} {n : Nat} (hn : cs.length = n) (h1 : n ≤ 256) (k : Nat) (hk : k < n) (ha : ∀ j, j < k → goesE xs (cs.take j) (cs.getD j zeroK) = 0) (h : goesE xs (cs.take k) (cs.getD k zeroK) ≠ 0) :
    chainE xs cs = goesE xs (cs.take k) (cs.getD k zeroK) := by
  rw [chainE, if_neg (by omega), if_neg (by omega), ← goesAll_at xs cs k (by omega)]
  exact firstE_hit _ k (fun j hj => by rw [goesAll_at _ _ _ (by omega)]; exact ha j hj) (by rw [goesAll_at _ _ _ (by omega)]; exact h)
theorem chainE_none {xs : List Dim} {cs : List Lk} {n : Nat} (hn : cs.length = n) (h0 : n ≠ 0) (h1 : n ≤ 256) (ha : ∀ j, j < n → goesE xs (cs.take j) (cs.getD j zeroK) = 0) : chainE xs cs = 0 := by
  rw [chainE, if_neg (by omega), if_neg (by omega)]
  exact firstE_none _ n (by simpa [goesAll] using hn) (fun j hj => by rw [goesAll_at _ _ _ (by omega)]; exact ha j hj)
theorem chainE_empty {xs : List Dim} {cs : List Lk} (h : cs.length = 0) : chainE xs cs = 13 := by rw [chainE, if_pos h]
theorem chainE_many {xs : List Dim} {cs : List Lk} (h : 256 < cs.length) : chainE xs cs = 5 := by rw [chainE, if_neg (by omega), if_pos h]
theorem goesE_2 {xs : List Dim} {cs : List Lk} {x : Lk} (h : rangeB xs x = true) : goesE xs cs x = 2 := by rw [goesE, if_pos h]
theorem goesE_8 {xs : List Dim} {cs : List Lk} {x : Lk} (h : rangeB xs x = false) (h1 : shapeB xs cs x = true) : goesE xs cs x = 8 := by rw [goesE, if_neg (by simp [h]), if_pos h1]
theorem goesE_7 {xs : List Dim} {cs : List Lk} {x : Lk} (h : rangeB xs x = false) (h1 : shapeB xs cs x = false) (h2 : (usedB cs x || shutB xs cs || begunB xs cs x) = true) : goesE xs cs x = 7 := by rw [goesE, if_neg (by simp [h]), if_neg (by simp [h1]), if_pos h2]
theorem goesE_0 {xs : List Dim} {cs : List Lk} {x : Lk} (h : rangeB xs x = false) (h1 : shapeB xs cs x = false) (h2 : (usedB cs x || shutB xs cs || begunB xs cs x) = false) : goesE xs cs x = 0 := by rw [goesE, if_neg (by simp [h]), if_neg (by simp [h1]), if_neg (by simp [h2])]
theorem goesE_range {xs : List Dim} {cs : List Lk} {x : Lk} (h : goesE xs cs x = 0) : 0 ≤ x.dim ∧ x.dim < xs.length := by
  unfold goesE at h
  split at h
  · simp at h
  · rename_i h1
    simp only [rangeB, Bool.or_eq_true, decide_eq_true_eq] at h1
    omega
theorem range_in {xs : List Dim} {x : Lk} (h0 : 0 ≤ x.dim) (h1 : x.dim < xs.length) : rangeB xs x = false := by
  simp only [rangeB, Bool.or_eq_false_iff, decide_eq_false_iff_not]
  omega
theorem take_succK {cs : List Lk} {k : Nat} (hk : k < cs.length) : cs.take (k + 1) = cs.take k ++ [cs.getD k zeroK] := by
  rw [List.take_add_one, List.getD_eq_getElem?_getD, List.getElem?_eq_getElem hk]
  rfl
end Go.Proofs.Ytdcedfciaaooiaa
