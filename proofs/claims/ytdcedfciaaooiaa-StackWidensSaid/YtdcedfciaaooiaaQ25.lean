/- Right tasks: plain. -/
import Derived.Test.YtdcedfciaaooiaaP25
set_option linter.unusedVariables false
namespace Go.Proofs.Ytdcedfciaaooiaa

theorem firstE_all : ∀ (l : List Int), firstE l = 0 → ∀ x ∈ l, x = 0
  | [], _, x, hx => by simp at hx
  | r :: rs, h, x, hx => by
    unfold firstE at h
    split at h
    · rename_i hr
      rcases List.mem_cons.1 hx with rfl | hx
      · exact hr
      · exact firstE_all rs h x hx
    · rename_i hr; exact absurd h hr
/-- What a right task is. -/
structure RT (n m : Nat) (xs : List Dim) (cs : List Lk) : Prop where
  xl : xs.length = n
  cl : cs.length = m
  n256 : n ≤ 256
  m256 : m ≤ 256
  m0 : 0 < m
  fine : ∀ j, j < m → Fine xs (cs.getD j zeroK)
  lims : ∀ p, p < n → -100000 ≤ (xs.getD p zeroD).lo ∧ (xs.getD p zeroD).lo ≤ (xs.getD p zeroD).hi ∧ (xs.getD p zeroD).hi ≤ 100000
  uniq : ∀ i j, i < j → j < m → (cs.getD i zeroK).dim ≠ (cs.getD j zeroK).dim
theorem chk_lims {a b : Int} (h : chk a b = 0) : -100000 ≤ a ∧ a ≤ b ∧ b ≤ 100000 := by
  unfold chk inR at h
  split at h
  · rename_i h1
    simp only [Bool.and_eq_true, decide_eq_true_eq] at h1
    split at h
    · omega
    · omega
  · omega
theorem taskE_zero {xs : List Dim} {cs : List Lk} {lo hi : Int} (h : taskE xs cs lo hi = 0) : checkE xs cs = 0 ∧ chk lo hi = 0 := by
  unfold taskE at h
  split at h
  · contradiction
  · rename_i h1; exact ⟨by simpa using h1, h⟩
theorem checkE_zero {xs : List Dim} {cs : List Lk} (h : checkE xs cs = 0) : givenE xs = 0 ∧ chainE xs cs = 0 := by
  unfold checkE at h
  split at h
  · contradiction
  · rename_i h1; exact ⟨by simpa using h1, h⟩
theorem rt_of {n m : Nat} {xs : List Dim} {cs : List Lk} (hx : xs.length = n) (hc : cs.length = m) (h : checkE xs cs = 0) : RT n m xs cs := by
  obtain ⟨hg, hch⟩ := checkE_zero h
  have hn : n ≤ 256 := by
    unfold givenE at hg
    split at hg
    · omega
    · omega
  rw [givenE_few hx (by omega)] at hg
  have hval : ∀ p, p < n → validE (xs.getD p zeroD) = 0 := fun p hp => by
    refine firstE_all _ hg _ ?_
    rw [List.mem_map]
    refine ⟨xs.getD p zeroD, ?_, rfl⟩
    rw [List.getD_eq_getElem?_getD, List.getElem?_eq_getElem (by omega)]
    exact List.getElem_mem _
  have hlim : ∀ p, p < n → -100000 ≤ (xs.getD p zeroD).lo ∧ (xs.getD p zeroD).lo ≤ (xs.getD p zeroD).hi ∧ (xs.getD p zeroD).hi ≤ 100000 := fun p hp =>
    chk_lims (firstE_all _ (hval p hp) _ (by simp))
  have hm : 0 < m ∧ m ≤ 256 := by
    unfold chainE at hch
    split at hch
    · omega
    · split at hch <;> omega
  have hgo : ∀ j, j < m → goesE xs (cs.take j) (cs.getD j zeroK) = 0 := fun j hj => by
    unfold chainE at hch
    rw [if_neg (by omega), if_neg (by omega)] at hch
    refine firstE_all _ hch _ ?_
    unfold goesAll
    rw [List.mem_map]
    exact ⟨j, List.mem_range.2 (by omega), rfl⟩
  refine ⟨hx, hc, hn, hm.2, hm.1, fun j hj => ?_, hlim, fun i j hij hj => ?_⟩
  · have hr := goesE_range (hgo j hj)
    have hl := hlim (cs.getD j zeroK).dim.toNat (by omega)
    exact ⟨hr.1, hr.2, hl.1, by unfold dimK; omega, by unfold dimK; omega, hl.2.2⟩
  · intro he
    have hz := hgo j hj
    have hu : usedB (cs.take j) (cs.getD j zeroK) = true := by
      unfold usedB
      rw [List.any_eq_true]
      refine ⟨cs.getD i zeroK, ?_, by simpa using he⟩
      rw [List.getD_eq_getElem?_getD, List.getElem?_eq_getElem (by omega)]
      rw [List.mem_iff_getElem]
      exact ⟨i, by rw [List.length_take]; omega, by simp⟩
    unfold goesE at hz
    split at hz
    · simp at hz
    · split at hz
      · simp at hz
      · rw [if_pos (by rw [hu]; rfl)] at hz
        simp at hz
section
variable {n m : Nat} {xs : List Dim} {cs : List Lk}
theorem RT.mem (h : RT n m xs cs) (j : Nat) (hj : j < m) : (cs.getD j zeroK).dim.toNat < n := by
  have := h.fine j hj
  have h1 := this.1
  have h2 := this.2.1
  have h3 := h.xl
  omega
theorem RT.dimK_at (h : RT n m xs cs) (x : Lk) : dimK xs x = xs.getD x.dim.toNat zeroD := rfl

/-- The part that attains an end, dimension by dimension. -/
def extV (gr : Bool) (xs : List Dim) (cs : List Lk) (i : Nat) : Int :=
  if cs.any (fun x => x.dim == (i : Int) && x.back != gr) then (xs.getD i zeroD).hi else (xs.getD i zeroD).lo
def extL (gr : Bool) (xs : List Dim) (cs : List Lk) : List Int := (List.range xs.length).map (extV gr xs cs)
theorem lows_at (xs : List Dim) (i : Nat) (hi : i < xs.length) : (lows xs).getD i 0 = (xs.getD i zeroD).lo := by
  simp [lows, List.getD_eq_getElem?_getD, hi]
theorem extV_snoc_ne {gr : Bool} {xs : List Dim} {cs : List Lk} {x : Lk} {i : Nat} (h : x.dim ≠ (i : Int)) : extV gr xs (cs ++ [x]) i = extV gr xs cs i := by
  have : (x.dim == (i : Int)) = false := by simpa using h
  simp [extV, List.any_append, this]
theorem extV_snoc_eq {gr : Bool} {xs : List Dim} {cs : List Lk} {x : Lk} {i : Nat} (h : x.dim = (i : Int)) (hc : ∀ y ∈ cs, y.dim ≠ (i : Int)) : extV gr xs (cs ++ [x]) i = if x.back != gr then (xs.getD i zeroD).hi else (xs.getD i zeroD).lo := by
  have h1 : (x.dim == (i : Int)) = true := by simpa using h
  have h2 : cs.any (fun x => x.dim == (i : Int) && x.back != gr) = false := by
    rw [List.any_eq_false]
    intro y hy
    simp [hc y hy]
  simp only [extV, List.any_append, h2, List.any_cons, List.any_nil, h1, Bool.true_and, Bool.false_or, Bool.or_false]
def signT (gr : Bool) : Int := if gr then -1 else 1
theorem low_ext (gr : Bool) (lo hi : Int) (x : Lk) : lowV lo hi (signT gr * sgn x) = if x.back != gr then hi else lo := by
  cases gr <;> cases hb : x.back <;> simp [lowV, signT, sgn, hb]
theorem partL_len (t : Int) (xs : List Dim) (cs : List Lk) : (partL t xs cs).length = xs.length := by
  unfold partL
  have : ∀ (l : List Lk) (vs : List Int), (l.foldl (layE t xs) vs).length = vs.length := by
    intro l
    induction l with
    | nil => intro vs; rfl
    | cons x l ih => intro vs; rw [List.foldl_cons, ih]; simp [layE]
  rw [this]
  simp [lows]
theorem part_take (h : RT n m xs cs) (gr : Bool) : ∀ k, k ≤ m → ∀ i, i < n → (partL (signT gr) xs (cs.take k)).getD i 0 = extV gr xs (cs.take k) i := by
  intro k
  induction k with
  | zero =>
    intro _ i hi
    rw [List.take_zero]
    have : extV gr xs [] i = (xs.getD i zeroD).lo := by simp [extV]
    rw [this]
    exact lows_at xs i (by rw [h.xl]; exact hi)
  | succ k ih =>
    intro hk i hi
    have hck : cs.take (k + 1) = cs.take k ++ [cs.getD k zeroK] := take_succK (by rw [h.cl]; omega)
    rw [hck, partL_snoc]
    have hf := h.fine k (by omega)
    have hd := h.mem k (by omega)
    have hlen : (partL (signT gr) xs (cs.take k)).length = n := by rw [partL_len, h.xl]
    by_cases he : (cs.getD k zeroK).dim = (i : Int)
    · have hti : (cs.getD k zeroK).dim.toNat = i := by omega
      rw [extV_snoc_eq he (fun y hy => ?_)]
      · rw [layE, hti, List.getD_eq_getElem?_getD, List.getElem?_set_self (by omega), Option.getD_some, low_ext, dimK, hti]
      · obtain ⟨j, hj, rfl⟩ := List.mem_iff_getElem.1 hy
        rw [List.length_take] at hj
        have hu := h.uniq j k (by omega) (by omega)
        rw [← he]
        rw [List.getElem_take]
        rw [List.getD_eq_getElem?_getD, List.getElem?_eq_getElem (by rw [h.cl]; omega)] at hu
        exact hu
    · have hf0 := hf.1
      rw [extV_snoc_ne he, layE, List.getD_eq_getElem?_getD, List.getElem?_set_ne (by omega), ← List.getD_eq_getElem?_getD]
      exact ih (by omega) i hi
theorem part_ext (h : RT n m xs cs) (gr : Bool) : partL (signT gr) xs cs = extL gr xs cs := by
  apply List.ext_getElem
  · rw [partL_len]; simp [extL]
  · intro i h1 h2
    rw [partL_len, h.xl] at h1
    have := part_take h gr m (Nat.le_refl _) i h1
    rw [show cs.take m = cs from by rw [← h.cl, List.take_length]] at this
    rw [List.getD_eq_getElem?_getD, List.getElem?_eq_getElem (by rw [partL_len, h.xl]; exact h1), Option.getD_some] at this
    rw [this]
    simp [extL]
/-- The sum of a chain. -/
def totalL (cs : List Lk) (vs : List Int) : Int := cs.foldl (fun s x => s + sgn x * vs.getD x.dim.toNat 0) 0
theorem ext_at (h : RT n m xs cs) (gr : Bool) (j : Nat) (hj : j < m) : (extL gr xs cs).getD (cs.getD j zeroK).dim.toNat 0 = lowV (dimK xs (cs.getD j zeroK)).lo (dimK xs (cs.getD j zeroK)).hi (signT gr * sgn (cs.getD j zeroK)) := by
  have hd := h.mem j hj
  have hf := h.fine j hj
  have he : (extL gr xs cs).getD (cs.getD j zeroK).dim.toNat 0 = extV gr xs cs (cs.getD j zeroK).dim.toNat := by
    have : (cs.getD j zeroK).dim.toNat < xs.length := by rw [h.xl]; exact hd
    unfold extL
    rw [List.getD_eq_getElem?_getD, List.getElem?_map, List.getElem?_range this]
    rfl
  rw [he, low_ext]
  have hany : cs.any (fun x => x.dim == (((cs.getD j zeroK).dim.toNat : Nat) : Int) && x.back != gr) = ((cs.getD j zeroK).back != gr) := by
    have hnat : (((cs.getD j zeroK).dim.toNat : Nat) : Int) = (cs.getD j zeroK).dim := by have := hf.1; omega
    rw [hnat]
    rw [Bool.eq_iff_iff, List.any_eq_true]
    constructor
    · rintro ⟨y, hy, hb⟩
      obtain ⟨i, hi, rfl⟩ := List.mem_iff_getElem.1 hy
      rw [h.cl] at hi
      simp only [Bool.and_eq_true, beq_iff_eq] at hb
      have hyi : cs[i] = cs.getD i zeroK := by rw [List.getD_eq_getElem?_getD, List.getElem?_eq_getElem (by rw [h.cl]; omega)]; rfl
      rw [hyi] at hb
      have : i = j := by
        rcases Nat.lt_trichotomy i j with hl | hl | hl
        · exact absurd hb.1 (h.uniq i j hl hj)
        · exact hl
        · exact absurd hb.1.symm (h.uniq j i hl hi)
      rw [this] at hb
      exact hb.2
    · intro hb
      refine ⟨cs.getD j zeroK, ?_, by rw [hb, beq_self_eq_true]; rfl⟩
      rw [List.getD_eq_getElem?_getD, List.getElem?_eq_getElem (by rw [h.cl]; omega)]
      exact List.getElem_mem _
  unfold extV
  rw [hany]
  rfl
theorem total_end (h : RT n m xs cs) (gr : Bool) : totalL cs (extL gr xs cs) = endS (signT gr) xs cs := by
  have key : ∀ (l : List Lk) (s : Int), (∀ x ∈ l, ∃ j, j < m ∧ x = cs.getD j zeroK) → l.foldl (fun s x => s + sgn x * (extL gr xs cs).getD x.dim.toNat 0) s = l.foldl (fun s x => s + sgn x * lowV (dimK xs x).lo (dimK xs x).hi (signT gr * sgn x)) s := by
    intro l
    induction l with
    | nil => intro s _; rfl
    | cons x l ih =>
      intro s hl
      obtain ⟨j, hj, hx⟩ := hl x (by simp)
      rw [List.foldl_cons, List.foldl_cons, ih _ (fun y hy => hl y (by simp [hy]))]
      congr 1
      rw [hx, ext_at h gr j hj]
  unfold totalL endS
  refine key cs 0 (fun x hx => ?_)
  obtain ⟨j, hj, rfl⟩ := List.mem_iff_getElem.1 hx
  refine ⟨j, by rw [← h.cl]; exact hj, ?_⟩
  rw [List.getD_eq_getElem?_getD, List.getElem?_eq_getElem hj]
  rfl
theorem RT.range (h : RT n m xs cs) (t : Int) : -25600000 ≤ endS t xs cs ∧ endS t xs cs ≤ 25600000 := by
  have := endS_range t xs m cs h.cl (fun x hx => by
    obtain ⟨j, hj, rfl⟩ := List.mem_iff_getElem.1 hx
    have := h.fine j (by rw [← h.cl]; exact hj)
    rwa [List.getD_eq_getElem?_getD, List.getElem?_eq_getElem hj] at this)
  have := h.m256
  omega
end
end Go.Proofs.Ytdcedfciaaooiaa
