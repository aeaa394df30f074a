/- A task in which the dimension of a link has the limits 0 and 0: plain. -/
import Derived.Test.YtdcedfciaaooiaaR25
set_option linter.unusedVariables false
namespace Go.Proofs.Ytdcedfciaaooiaa

def withL (xs : List Dim) (p : Nat) (l : Lim) : List Dim := xs.set p { xs.getD p zeroD with lo := l.lo, hi := l.hi }
theorem withL_len (xs : List Dim) (p : Nat) (l : Lim) : (withL xs p l).length = xs.length := by simp [withL]
theorem withL_at {xs : List Dim} {p : Nat} {l : Lim} (hp : p < xs.length) : (withL xs p l).getD p zeroD = { xs.getD p zeroD with lo := l.lo, hi := l.hi } := by
  rw [withL, List.getD_eq_getElem?_getD, List.getElem?_set_self hp, Option.getD_some]
theorem withL_ne {xs : List Dim} {p i : Nat} {l : Lim} (hp : p ≠ i) : (withL xs p l).getD i zeroD = xs.getD i zeroD := by
  rw [withL, List.getD_eq_getElem?_getD, List.getElem?_set_ne hp, ← List.getD_eq_getElem?_getD]
section
variable {n m : Nat} {xs : List Dim} {cs : List Lk}
theorem rt_with (h : RT n m xs cs) (p : Nat) (l : Lim) (hl : -100000 ≤ l.lo ∧ l.lo ≤ l.hi ∧ l.hi ≤ 100000) : RT n m (withL xs p l) cs := by
  have hlim : ∀ i, i < n → -100000 ≤ ((withL xs p l).getD i zeroD).lo ∧ ((withL xs p l).getD i zeroD).lo ≤ ((withL xs p l).getD i zeroD).hi ∧ ((withL xs p l).getD i zeroD).hi ≤ 100000 := fun i hi => by
    by_cases he : p = i
    · subst he
      rw [withL_at (by rw [h.xl]; exact hi)]
      exact hl
    · rw [withL_ne he]
      exact h.lims i hi
  refine ⟨by rw [withL_len, h.xl], h.cl, h.n256, h.m256, h.m0, fun j hj => ?_, hlim, h.uniq⟩
  have hf := h.fine j hj
  have hm := h.mem j hj
  have hq := hlim _ hm
  have h2 := hf.2.1
  rw [h.xl] at h2
  exact ⟨hf.1, by rw [withL_len, h.xl]; exact h2, hq.1, by unfold dimK; omega, by unfold dimK; omega, hq.2.2⟩
theorem foldl_add (f : Lk → Int) : ∀ (l : List Lk) (s : Int), l.foldl (fun s x => s + f x) s = s + l.foldl (fun s x => s + f x) 0 := by
  intro l
  induction l with
  | nil => intro s; simp
  | cons x l ih => intro s; rw [List.foldl_cons, List.foldl_cons, ih (s + f x), ih (0 + f x)]; omega
/-- What one link adds. -/
def linkV (t : Int) (xs : List Dim) (x : Lk) : Int := sgn x * lowV (dimK xs x).lo (dimK xs x).hi (t * sgn x)
theorem endS_take (t : Int) (xs : List Dim) (cs : List Lk) (k : Nat) (hk : k < cs.length) : endS t xs (cs.take (k + 1)) = endS t xs (cs.take k) + linkV t xs (cs.getD k zeroK) := by
  rw [take_succK hk, endS_snoc]; rfl
theorem with_take (h : RT n m xs cs) (t : Int) (l : Lim) (k : Nat) (hk : k < m) : ∀ q, q ≤ m →
    endS t (withL xs (cs.getD k zeroK).dim.toNat l) (cs.take q) = endS t xs (cs.take q) + (if k < q then linkV t (withL xs (cs.getD k zeroK).dim.toNat l) (cs.getD k zeroK) - linkV t xs (cs.getD k zeroK) else 0) := by
  intro q
  induction q with
  | zero => intro _; simp [endS]
  | succ q ih =>
    intro hq
    rw [endS_take t _ cs q (by rw [h.cl]; omega), endS_take t xs cs q (by rw [h.cl]; omega), ih (by omega)]
    by_cases he : q = k
    · subst he
      rw [if_neg (by omega), if_pos (by omega)]
      omega
    · have hne : (cs.getD k zeroK).dim.toNat ≠ (cs.getD q zeroK).dim.toNat := by
        have h1 := h.fine k hk
        have h2 := h.fine q (by omega)
        have h3 := h1.1
        have h4 := h2.1
        have hu : (cs.getD k zeroK).dim ≠ (cs.getD q zeroK).dim := by
          rcases Nat.lt_or_gt_of_ne he with hl | hl
          · exact fun e => h.uniq q k hl hk e.symm
          · exact h.uniq k q hl (by omega)
        omega
      have hv : linkV t (withL xs (cs.getD k zeroK).dim.toNat l) (cs.getD q zeroK) = linkV t xs (cs.getD q zeroK) := by
        unfold linkV dimK
        rw [withL_ne hne]
      rw [hv]
      by_cases hlt : k < q
      · rw [if_pos hlt, if_pos (by omega)]
        omega
      · rw [if_neg hlt, if_neg (by omega)]
        omega
theorem ends_with (h : RT n m xs cs) (t : Int) (l : Lim) (k : Nat) (hk : k < m) : endS t (withL xs (cs.getD k zeroK).dim.toNat l) cs = endS t xs cs + linkV t (withL xs (cs.getD k zeroK).dim.toNat l) (cs.getD k zeroK) - linkV t xs (cs.getD k zeroK) := by
  have := with_take h t l k hk m (Nat.le_refl _)
  rw [if_pos hk, show cs.take m = cs from by rw [← h.cl, List.take_length]] at this
  omega
theorem link_with (h : RT n m xs cs) (t : Int) (l : Lim) (k : Nat) (hk : k < m) : linkV t (withL xs (cs.getD k zeroK).dim.toNat l) (cs.getD k zeroK) = sgn (cs.getD k zeroK) * lowV l.lo l.hi (t * sgn (cs.getD k zeroK)) := by
  unfold linkV dimK
  rw [withL_at (by rw [h.xl]; exact h.mem k hk)]
theorem link_zero (h : RT n m xs cs) (t : Int) (k : Nat) (hk : k < m) : linkV t (withL xs (cs.getD k zeroK).dim.toNat ⟨0, 0⟩) (cs.getD k zeroK) = 0 := by
  rw [link_with h t _ k hk]
  simp [lowV]
/-- The limits of the room, from the sums of the others. -/
theorem room_false (h : RT n m xs cs) (wl wh : Int) (k : Nat) (hk : k < m) (hb : (cs.getD k zeroK).back = false) :
    wl - endS 1 (withL xs (cs.getD k zeroK).dim.toNat ⟨0, 0⟩) cs = roomL (endS 1 xs cs) (endS (-1) xs cs) wl wh (dimK xs (cs.getD k zeroK)).lo (dimK xs (cs.getD k zeroK)).hi false ∧
    wh - endS (-1) (withL xs (cs.getD k zeroK).dim.toNat ⟨0, 0⟩) cs = roomH (endS 1 xs cs) (endS (-1) xs cs) wl wh (dimK xs (cs.getD k zeroK)).lo (dimK xs (cs.getD k zeroK)).hi false := by
  rw [ends_with h 1 _ k hk, ends_with h (-1) _ k hk, link_zero h 1 k hk, link_zero h (-1) k hk]
  generalize cs.getD k zeroK = x at hb ⊢
  simp [linkV, sgn, hb, lowV, roomL, roomH]
theorem room_true (h : RT n m xs cs) (wl wh : Int) (k : Nat) (hk : k < m) (hb : (cs.getD k zeroK).back = true) :
    endS (-1) (withL xs (cs.getD k zeroK).dim.toNat ⟨0, 0⟩) cs - wh = roomL (endS 1 xs cs) (endS (-1) xs cs) wl wh (dimK xs (cs.getD k zeroK)).lo (dimK xs (cs.getD k zeroK)).hi true ∧
    endS 1 (withL xs (cs.getD k zeroK).dim.toNat ⟨0, 0⟩) cs - wl = roomH (endS 1 xs cs) (endS (-1) xs cs) wl wh (dimK xs (cs.getD k zeroK)).lo (dimK xs (cs.getD k zeroK)).hi true := by
  rw [ends_with h 1 _ k hk, ends_with h (-1) _ k hk, link_zero h 1 k hk, link_zero h (-1) k hk]
  generalize cs.getD k zeroK = x at hb ⊢
  simp [linkV, sgn, hb, lowV, roomL, roomH]
end
end Go.Proofs.Ytdcedfciaaooiaa
