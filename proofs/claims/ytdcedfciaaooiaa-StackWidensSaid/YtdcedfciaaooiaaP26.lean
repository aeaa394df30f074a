/- Which sums parts have: plain. -/
import Derived.Test.YtdcedfciaaooiaaQ26
import Derived.Test.YtdcedfciaaooiaaT25
set_option linter.unusedVariables false
namespace Go.Proofs.Ytdcedfciaaooiaa

section
variable {n m : Nat} {xs : List Dim} {cs : List Lk}
/-- Values are a part. -/
def PartOf (n : Nat) (xs : List Dim) (vs : List Int) : Prop := ∀ i, i < n → (xs.getD i zeroD).lo ≤ vs.getD i 0 ∧ vs.getD i 0 ≤ (xs.getD i zeroD).hi
theorem ext_part (h : RT n m xs cs) (gr : Bool) : PartOf n xs (extL gr xs cs) := by
  intro i hi
  have he : (extL gr xs cs).getD i 0 = extV gr xs cs i := by
    unfold extL
    rw [List.getD_eq_getElem?_getD, List.getElem?_map, List.getElem?_range (by rw [h.xl]; exact hi)]
    rfl
  have hl := h.lims i hi
  rw [he]
  unfold extV
  split <;> omega
theorem PartOf.small (h : RT n m xs cs) {vs : List Int} (hp : PartOf n xs vs) : ∀ i, i < n → -100000 ≤ vs.getD i 0 ∧ vs.getD i 0 ≤ 100000 := by
  intro i hi
  have hl := h.lims i hi
  have := hp i hi
  omega
theorem total_take (vs : List Int) (k : Nat) (hk : k < cs.length) : totalL (cs.take (k + 1)) vs = totalL (cs.take k) vs + sgn (cs.getD k zeroK) * vs.getD (cs.getD k zeroK).dim.toNat 0 := by
  rw [take_succK hk]
  simp [totalL]
theorem take_all (h : RT n m xs cs) : cs.take m = cs := by rw [← h.cl, List.take_length]
theorem total_in_take (h : RT n m xs cs) {vs : List Int} (hp : PartOf n xs vs) : ∀ q, q ≤ m → endS 1 xs (cs.take q) ≤ totalL (cs.take q) vs ∧ totalL (cs.take q) vs ≤ endS (-1) xs (cs.take q) := by
  intro q
  induction q with
  | zero => intro _; simp [endS, totalL]
  | succ q ih =>
    intro hq
    have hi := ih (by omega)
    rw [endS_take 1 xs cs q (by rw [h.cl]; omega), endS_take (-1) xs cs q (by rw [h.cl]; omega), total_take vs q (by rw [h.cl]; omega)]
    have hv := hp _ (h.mem q (by omega))
    have hd : dimK xs (cs.getD q zeroK) = xs.getD (cs.getD q zeroK).dim.toNat zeroD := rfl
    rw [← hd] at hv
    unfold linkV
    generalize cs.getD q zeroK = x at hv ⊢
    generalize vs.getD x.dim.toNat 0 = v at hv ⊢
    cases hb : x.back <;> simp [sgn, hb, lowV] <;> omega
theorem total_in (h : RT n m xs cs) {vs : List Int} (hp : PartOf n xs vs) : endS 1 xs cs ≤ totalL cs vs ∧ totalL cs vs ≤ endS (-1) xs cs := by
  have := total_in_take h hp m (Nat.le_refl _)
  rwa [take_all h] at this
theorem dim_ne (h : RT n m xs cs) {i j : Nat} (hi : i < m) (hj : j < m) (hne : i ≠ j) : (cs.getD i zeroK).dim.toNat ≠ (cs.getD j zeroK).dim.toNat := by
  have h1 := (h.fine i hi).1
  have h2 := (h.fine j hj).1
  have hu : (cs.getD i zeroK).dim ≠ (cs.getD j zeroK).dim := by
    rcases Nat.lt_or_gt_of_ne hne with hl | hl
    · exact h.uniq i j hl hj
    · exact fun e => h.uniq j i hl hi e.symm
  omega
theorem getD_set_self {vs : List Int} {p : Nat} {v : Int} (hp : p < vs.length) : (vs.set p v).getD p 0 = v := by
  rw [List.getD_eq_getElem?_getD, List.getElem?_set_self hp, Option.getD_some]
theorem getD_set_ne {vs : List Int} {p i : Nat} {v : Int} (hp : p ≠ i) : (vs.set p v).getD i 0 = vs.getD i 0 := by
  rw [List.getD_eq_getElem?_getD, List.getElem?_set_ne hp, ← List.getD_eq_getElem?_getD]
theorem total_set_take (h : RT n m xs cs) {vs : List Int} (hvl : vs.length = n) (k : Nat) (hk : k < m) (v : Int) : ∀ q, q ≤ m →
    totalL (cs.take q) (vs.set (cs.getD k zeroK).dim.toNat v) = totalL (cs.take q) vs + (if k < q then sgn (cs.getD k zeroK) * (v - vs.getD (cs.getD k zeroK).dim.toNat 0) else 0) := by
  intro q
  induction q with
  | zero => intro _; simp [totalL]
  | succ q ih =>
    intro hq
    rw [total_take _ q (by rw [h.cl]; omega), total_take vs q (by rw [h.cl]; omega), ih (by omega)]
    by_cases he : q = k
    · subst he
      rw [if_neg (by omega), if_pos (by omega), getD_set_self (by rw [hvl]; exact h.mem q hk), Int.mul_sub]
      omega
    · rw [getD_set_ne (dim_ne h hk (by omega) (fun e => he e.symm))]
      by_cases hlt : k < q
      · rw [if_pos hlt, if_pos (by omega)]
        omega
      · rw [if_neg hlt, if_neg (by omega)]
        omega
theorem total_set (h : RT n m xs cs) {vs : List Int} (hvl : vs.length = n) (k : Nat) (hk : k < m) (v : Int) : totalL cs (vs.set (cs.getD k zeroK).dim.toNat v) = totalL cs vs + sgn (cs.getD k zeroK) * (v - vs.getD (cs.getD k zeroK).dim.toNat 0) := by
  have := total_set_take h hvl k hk v m (Nat.le_refl _)
  rwa [if_pos hk, take_all h] at this
theorem sgn_sq (x : Lk) (v : Int) : sgn x * (sgn x * v) = v := by
  cases hb : x.back <;> simp [sgn, hb]
/-- What the walk over the links keeps. -/
structure Laid (n m : Nat) (xs : List Dim) (cs : List Lk) (left : Int) (k : Nat) (s : List Int × Int) : Prop where
  len : s.1.length = n
  ge : 0 ≤ s.2
  is : s.2 = 0 ∨ s.2 = left - (endS (-1) xs (cs.take k) - endS 1 xs (cs.take k))
  part : PartOf n xs s.1
  rest : ∀ j, k ≤ j → j < m → s.1.getD (cs.getD j zeroK).dim.toNat 0 = lowV (dimK xs (cs.getD j zeroK)).lo (dimK xs (cs.getD j zeroK)).hi (sgn (cs.getD j zeroK))
  sum : totalL cs s.1 + s.2 = endS 1 xs cs + left
theorem laid_take (h : RT n m xs cs) (left : Int) (hl : 0 ≤ left) : ∀ k, k ≤ m → Laid n m xs cs left k (foldP xs (cs.take k) (partL 1 xs cs, left)) := by
  intro k
  induction k with
  | zero =>
    intro _
    have hpe := part_ext h false
    rw [show signT false = 1 from rfl] at hpe
    simp only [List.take_zero, foldP, List.foldl_nil]
    refine ⟨by rw [partL_len, h.xl], hl, .inr (by simp [endS]), ?_, fun j _ hj => ?_, ?_⟩
    · rw [hpe]; exact ext_part h false
    · rw [hpe]
      have := ext_at h false j hj
      rwa [show signT false = 1 from rfl, Int.one_mul] at this
    · show totalL cs (partL 1 xs cs) + left = _
      rw [hpe, total_end h false]; rfl
  | succ k ih =>
    intro hk
    have i := ih (by omega)
    have hkm : k < m := by omega
    rw [take_succK (by rw [h.cl]; omega), foldP_snoc]
    generalize hS : foldP xs (cs.take k) (partL 1 xs cs, left) = S at i
    obtain ⟨vs, lf⟩ := S
    have hm := h.mem k hkm
    have hlim := h.lims _ hm
    have hd : dimK xs (cs.getD k zeroK) = xs.getD (cs.getD k zeroK).dim.toNat zeroD := rfl
    rw [← hd] at hlim
    have hr := i.rest k (Nat.le_refl _) hkm
    have hge := i.ge
    have his := i.is
    have hsum := i.sum
    have hlen := i.len
    dsimp only at hr hge his hsum hlen
    have hT : 0 ≤ takeI xs (cs.getD k zeroK) lf ∧ takeI xs (cs.getD k zeroK) lf ≤ lf ∧ takeI xs (cs.getD k zeroK) lf ≤ (dimK xs (cs.getD k zeroK)).hi - (dimK xs (cs.getD k zeroK)).lo ∧ (takeI xs (cs.getD k zeroK) lf = lf ∨ takeI xs (cs.getD k zeroK) lf = (dimK xs (cs.getD k zeroK)).hi - (dimK xs (cs.getD k zeroK)).lo) := by
      unfold takeI
      split <;> omega
    generalize hTT : takeI xs (cs.getD k zeroK) lf = T at hT
    have hst : stepP xs (vs, lf) (cs.getD k zeroK) = (vs.set (cs.getD k zeroK).dim.toNat (vs.getD (cs.getD k zeroK).dim.toNat 0 + sgn (cs.getD k zeroK) * T), lf - T) := by rw [stepP, hTT]
    rw [hst]
    have hw : endS (-1) xs (cs.take k ++ [cs.getD k zeroK]) - endS 1 xs (cs.take k ++ [cs.getD k zeroK]) = endS (-1) xs (cs.take k) - endS 1 xs (cs.take k) + ((dimK xs (cs.getD k zeroK)).hi - (dimK xs (cs.getD k zeroK)).lo) := by
      rw [endS_snoc, endS_snoc]
      generalize cs.getD k zeroK = x
      cases hb : x.back <;> simp [sgn, hb, lowV] <;> omega
    refine ⟨by rw [List.length_set]; exact hlen, by dsimp only; omega, ?_, ?_, ?_, ?_⟩
    · dsimp only
      rw [take_succK (by rw [h.cl]; omega), hw]
      omega
    · intro p hp
      dsimp only
      by_cases he : (cs.getD k zeroK).dim.toNat = p
      · subst he
        rw [getD_set_self (by rw [hlen]; exact hm), hr, ← hd]
        generalize cs.getD k zeroK = x at hT hlim ⊢
        cases hb : x.back <;> simp [sgn, hb, lowV] <;> omega
      · rw [getD_set_ne he]
        exact i.part p hp
    · intro j hj hjm
      dsimp only
      rw [getD_set_ne (dim_ne h hkm hjm (by omega))]
      exact i.rest j (by omega) hjm
    · dsimp only
      rw [total_set h hlen k hkm, Int.add_comm (vs.getD _ 0), Int.add_sub_cancel, sgn_sq]
      omega
theorem sum_part (h : RT n m xs cs) (sum : Int) (hs : endS 1 xs cs ≤ sum ∧ sum ≤ endS (-1) xs cs) : PartOf n xs (sumP xs cs (sum - endS 1 xs cs)) ∧ totalL cs (sumP xs cs (sum - endS 1 xs cs)) = sum := by
  have hl := laid_take h (sum - endS 1 xs cs) (by omega) m (Nat.le_refl _)
  rw [take_all h] at hl
  have h1 := hl.is
  have h2 := hl.ge
  have h3 := hl.sum
  rw [take_all h] at h1
  refine ⟨hl.part, ?_⟩
  show totalL cs (foldP xs cs (partL 1 xs cs, sum - endS 1 xs cs)).1 = sum
  omega
theorem ends_le (h : RT n m xs cs) : endS 1 xs cs ≤ endS (-1) xs cs := by
  have h1 := total_in h (ext_part h false)
  omega
end
end Go.Proofs.Ytdcedfciaaooiaa
