/- What layers 15 and 16 compute, in plain Lean: tolerances, deviations, limits, fits. No program in sight. -/
import Derived.Test.YtdcedfciaaooiaaP17
set_option linter.unusedVariables false
namespace Go.Proofs.Ytdcedfciaaooiaa

def mosts : List Int := [3000, 6000, 10000, 18000, 30000, 50000, 80000, 100000]
def bases : List Int := [6, 8, 9, 11, 13, 16, 19, 22]
def facs : List Int := [7, 10, 16, 25, 40, 64, 100, 160]
def shifts : List Int := [50, 31, 16, 6, 0, 0, 2, 9, 15, 22]
/-- The index of the size step. -/
def stepI (n : Int) : Nat := if n ≤ 3000 then 0 else if n ≤ 6000 then 1 else if n ≤ 10000 then 2 else if n ≤ 18000 then 3 else if n ≤ 30000 then 4 else if n ≤ 50000 then 5 else if n ≤ 80000 then 6 else 7
theorem stepI_lt (n : Int) : stepI n < 8 := by
  unfold stepI
  repeat' split
  all_goals omega
def baseI (n : Int) : Int := bases.getD (stepI n) 0
def facI (g : Int) : Int := facs.getD (g - 5).toNat 0
def tolI (n g : Int) : Int := (baseI n * facI g + 5) / 10
def shI (n : Int) (k : Nat) : Int := baseI n * shifts.getD k 0 / 10
/-- The deviations of a shaft with letter k. -/
def devI (n : Int) (k : Nat) (g : Int) : Lim :=
  if k = 5 then ⟨-(tolI n g / 2), tolI n g / 2⟩ else if k < 5 then ⟨-(shI n k) - tolI n g, -(shI n k)⟩ else ⟨shI n k, shI n k + tolI n g⟩
def awayI (n : Int) (hole : Bool) (k : Nat) (g : Int) : Lim := if hole then ⟨-(devI n k g).hi, -(devI n k g).lo⟩ else devI n k g
theorem base_cases (n : Int) : baseI n = 6 ∨ baseI n = 8 ∨ baseI n = 9 ∨ baseI n = 11 ∨ baseI n = 13 ∨ baseI n = 16 ∨ baseI n = 19 ∨ baseI n = 22 := by
  unfold baseI stepI
  repeat' split
  all_goals simp [bases]
theorem fac_cases {g : Int} (h5 : 5 ≤ g) (h12 : g ≤ 12) : facI g = 7 ∨ facI g = 10 ∨ facI g = 16 ∨ facI g = 25 ∨ facI g = 40 ∨ facI g = 64 ∨ facI g = 100 ∨ facI g = 160 := by
  have hg : g = 5 ∨ g = 6 ∨ g = 7 ∨ g = 8 ∨ g = 9 ∨ g = 10 ∨ g = 11 ∨ g = 12 := by omega
  rcases hg with rfl | rfl | rfl | rfl | rfl | rfl | rfl | rfl <;> simp [facI, facs]
theorem base_range (n : Int) : 6 ≤ baseI n ∧ baseI n ≤ 22 := by have := base_cases n; omega
theorem fac_range {g : Int} (h5 : 5 ≤ g) (h12 : g ≤ 12) : 7 ≤ facI g ∧ facI g ≤ 160 := by have := fac_cases h5 h12; omega
theorem tol_range (n : Int) {g : Int} (h5 : 5 ≤ g) (h12 : g ≤ 12) : 4 ≤ tolI n g ∧ tolI n g ≤ 352 := by
  have h1 := base_range n
  have h2 := fac_cases h5 h12
  unfold tolI
  rcases h2 with h | h | h | h | h | h | h | h <;> rw [h] <;> omega
theorem sh_cases {k : Nat} (hk : k < 10) : shifts.getD k 0 = 50 ∨ shifts.getD k 0 = 31 ∨ shifts.getD k 0 = 16 ∨ shifts.getD k 0 = 6 ∨ shifts.getD k 0 = 0 ∨ shifts.getD k 0 = 2 ∨ shifts.getD k 0 = 9 ∨ shifts.getD k 0 = 15 ∨ shifts.getD k 0 = 22 := by
  have hg : k = 0 ∨ k = 1 ∨ k = 2 ∨ k = 3 ∨ k = 4 ∨ k = 5 ∨ k = 6 ∨ k = 7 ∨ k = 8 ∨ k = 9 := by omega
  rcases hg with rfl | rfl | rfl | rfl | rfl | rfl | rfl | rfl | rfl | rfl <;> simp [shifts]
theorem sh_range (n : Int) {k : Nat} (hk : k < 10) : 0 ≤ shI n k ∧ shI n k ≤ 110 := by
  have h1 := base_range n
  unfold shI
  rcases sh_cases hk with h | h | h | h | h | h | h | h | h <;> rw [h] <;> omega
theorem sh_pos (n : Int) {k : Nat} (h5 : 5 < k) (hk : k < 10) : 1 ≤ shI n k := by
  have h1 := base_range n
  have hg : k = 6 ∨ k = 7 ∨ k = 8 ∨ k = 9 := by omega
  unfold shI
  rcases hg with rfl | rfl | rfl | rfl <;> simp only [shifts, List.getD_cons_succ, List.getD_cons_zero] <;> omega
theorem dev_range (n : Int) {k : Nat} {g : Int} (hk : k < 10) (h5 : 5 ≤ g) (h12 : g ≤ 12) : -500 ≤ (devI n k g).lo ∧ (devI n k g).lo ≤ 500 ∧ -500 ≤ (devI n k g).hi ∧ (devI n k g).hi ≤ 500 := by
  have h1 := tol_range n h5 h12
  have h2 := sh_range n hk
  unfold devI
  split
  · dsimp only; omega
  · split <;> (dsimp only; omega)
theorem away_range (n : Int) (b : Bool) {k : Nat} {g : Int} (hk : k < 10) (h5 : 5 ≤ g) (h12 : g ≤ 12) : -500 ≤ (awayI n b k g).lo ∧ (awayI n b k g).lo ≤ 500 ∧ -500 ≤ (awayI n b k g).hi ∧ (awayI n b k g).hi ≤ 500 := by
  have := dev_range n hk h5 h12
  unfold awayI
  split
  · dsimp only; omega
  · exact this

def sizeE (n : Int) : Int := if n < 1 ∨ 100000 < n then 2 else 0
def gradeE (g : Int) : Int := if g < 5 ∨ 12 < g then 2 else 0
def classE (k g : Int) : Int := if k < 0 ∨ 9 < k then 1 else gradeE g
/-- The limits of a right class are in range. -/
def inE (n : Int) (l : Lim) : Int := if n + l.lo < 1 ∨ 100000 < n + l.hi then 2 else 0
def limI (n : Int) (hole : Bool) (k g : Int) : Int := if sizeE n = 0 then (if classE k g = 0 then inE n (awayI n hole k.toNat g) else classE k g) else sizeE n
/-- The error of a fit with a hole class (hb, hk, hg) and a shaft class. -/
def fitE (n : Int) (hb : Bool) (hk hg : Int) (sb : Bool) (sk sg : Int) : Int :=
  if sizeE n ≠ 0 then sizeE n else if classE hk hg ≠ 0 then classE hk hg else if classE sk sg ≠ 0 then classE sk sg else if hb = false ∨ sb = true then 3 else
  if limI n hb hk hg ≠ 0 then limI n hb hk hg else limI n sb sk sg
theorem sizeE_zero {n : Int} (h : sizeE n = 0) : 1 ≤ n ∧ n ≤ 100000 := by unfold sizeE at h; split at h <;> omega
theorem gradeE_zero {n : Int} (h : gradeE n = 0) : 5 ≤ n ∧ n ≤ 12 := by unfold gradeE at h; split at h <;> omega
theorem classE_zero {k g : Int} (h : classE k g = 0) : 0 ≤ k ∧ k ≤ 9 ∧ 5 ≤ g ∧ g ≤ 12 := by
  unfold classE at h
  split at h
  · omega
  · have := gradeE_zero h; omega
theorem inE_zero {n : Int} {l : Lim} (h : inE n l = 0) : 1 ≤ n + l.lo ∧ n + l.hi ≤ 100000 := by unfold inE at h; split at h <;> omega
end Go.Proofs.Ytdcedfciaaooiaa
