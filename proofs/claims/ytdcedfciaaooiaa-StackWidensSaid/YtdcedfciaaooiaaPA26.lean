/- Sums of chains: in parts, backwards; shares; wider limits; the room of a link: plain. -/
import Derived.Test.YtdcedfciaaooiaaQ26
import Derived.Test.YtdcedfciaaooiaaPC26
set_option linter.unusedVariables false
namespace Go.Proofs.Ytdcedfciaaooiaa

theorem endS_cons (t : Int) (xs : List Dim) (x : Lk) (cs : List Lk) : endS t xs (x :: cs) = linkV t xs x + endS t xs cs := by
  have h := foldl_add (linkV t xs) cs (0 + linkV t xs x)
  show List.foldl (fun s x => s + linkV t xs x) (0 + linkV t xs x) cs = linkV t xs x + List.foldl (fun s x => s + linkV t xs x) 0 cs
  rw [h]
  omega
theorem endS_nil (t : Int) (xs : List Dim) : endS t xs [] = 0 := rfl
theorem endS_append (t : Int) (xs : List Dim) (a b : List Lk) : endS t xs (a ++ b) = endS t xs a + endS t xs b := by
  induction a with
  | nil => simp [endS_nil]
  | cons x a ih => rw [List.cons_append, endS_cons, endS_cons, ih]; omega
theorem linkV_flip (t : Int) (xs : List Dim) (x : Lk) : linkV t xs (flipK x) = - linkV (-t) xs x := by
  have hd : dimK xs (flipK x) = dimK xs x := rfl
  have hs : sgn (flipK x) = - sgn x := by cases hb : x.back <;> simp [sgn, flipK, hb]
  have ht : t * -sgn x = -t * sgn x := by rw [Int.mul_neg, Int.neg_mul]
  unfold linkV
  rw [hd, hs, ht, Int.neg_mul]
theorem endS_rev (t : Int) (xs : List Dim) (cs : List Lk) : endS t xs (revC cs) = - endS (-t) xs cs := by
  induction cs with
  | nil => rfl
  | cons x cs ih =>
    have e : revC (x :: cs) = revC cs ++ [flipK x] := by simp [revC]
    rw [e, endS_append, ih, endS_cons, endS_cons, endS_nil, linkV_flip]
    omega
theorem endS_cut (t : Int) (xs : List Dim) (cs : List Lk) (k : Nat) : endS t xs (cs.take k) + endS t xs (cs.drop k) = endS t xs cs := by
  rw [← endS_append, List.take_append_drop]
theorem width_take {xs : List Dim} : ∀ (cs : List Lk), endS (-1) xs cs - endS 1 xs cs = (cs.map fun x => (dimK xs x).hi - (dimK xs x).lo).foldl (· + ·) 0
  | [] => rfl
  | x :: cs => by
    have ih := width_take (xs := xs) cs
    have ha : ∀ (l : List Int) (s : Int), l.foldl (· + ·) s = s + l.foldl (· + ·) 0 := by
      intro l
      induction l with
      | nil => intro s; simp
      | cons y l ih => intro s; rw [List.foldl_cons, List.foldl_cons, ih (s + y), ih (0 + y)]; omega
    rw [endS_cons, endS_cons, List.map_cons, List.foldl_cons, ha, ← ih]
    unfold linkV
    cases hb : x.back <;> simp [sgn, hb, lowV] <;> omega
/-- Wider limits. -/
theorem endS_wide (xs ys : List Dim) (h : ∀ i, (ys.getD i zeroD).lo ≤ (xs.getD i zeroD).lo ∧ (xs.getD i zeroD).hi ≤ (ys.getD i zeroD).hi) : ∀ (cs : List Lk), endS 1 ys cs ≤ endS 1 xs cs ∧ endS (-1) xs cs ≤ endS (-1) ys cs
  | [] => by simp [endS_nil]
  | x :: cs => by
    have ih := endS_wide xs ys h cs
    have hx := h x.dim.toNat
    rw [endS_cons, endS_cons, endS_cons, endS_cons]
    unfold linkV dimK
    generalize xs.getD x.dim.toNat zeroD = d at hx ⊢
    generalize ys.getD x.dim.toNat zeroD = d' at hx ⊢
    cases hb : x.back <;> simp [sgn, lowV, hb] <;> omega
theorem withL_wide (xs : List Dim) (p : Nat) (hp : p < xs.length) (x : Int) (hx : (xs.getD p zeroD).hi ≤ x) : ∀ i, ((withL xs p ⟨(xs.getD p zeroD).lo, x⟩).getD i zeroD).lo ≤ (xs.getD i zeroD).lo ∧ (xs.getD i zeroD).hi ≤ ((withL xs p ⟨(xs.getD p zeroD).lo, x⟩).getD i zeroD).hi := by
  intro i
  by_cases e : p = i
  · subst e
    rw [withL_at hp]
    exact ⟨Int.le_refl _, hx⟩
  · rw [withL_ne e]
    exact ⟨Int.le_refl _, Int.le_refl _⟩
section
variable {n m : Nat} {xs : List Dim} {cs : List Lk}
/-- Whether the stack keeps what is wanted, when the dimension of a link has other limits. -/
theorem keeps_with (h : RT n m xs cs) (wl wh : Int) (k : Nat) (hk : k < m) (l : Lim) (bk : Bool) (hb : (cs.getD k zeroK).back = bk) :
    (wl ≤ endS 1 (withL xs (cs.getD k zeroK).dim.toNat l) cs ∧ endS (-1) (withL xs (cs.getD k zeroK).dim.toNat l) cs ≤ wh) ↔
    (roomL (endS 1 xs cs) (endS (-1) xs cs) wl wh (dimK xs (cs.getD k zeroK)).lo (dimK xs (cs.getD k zeroK)).hi bk ≤ l.lo ∧ l.hi ≤ roomH (endS 1 xs cs) (endS (-1) xs cs) wl wh (dimK xs (cs.getD k zeroK)).lo (dimK xs (cs.getD k zeroK)).hi bk) := by
  rw [ends_with h 1 _ k hk, ends_with h (-1) _ k hk, link_with h 1 _ k hk, link_with h (-1) _ k hk]
  generalize cs.getD k zeroK = x at hb ⊢
  cases bk <;> simp [linkV, sgn, hb, lowV, roomL, roomH] <;> omega
end
theorem roomP_ok {L M : Int} (h : (roomP L M).err = 0) : (roomP L M).lo = clampLo L ∧ (roomP L M).hi = clampHi M ∧ clampLo L ≤ clampHi M := by
  unfold roomP at h ⊢
  split at h
  · contradiction
  · rename_i h1
    rw [if_neg h1]
    exact ⟨rfl, rfl, by omega⟩
theorem roomP_err (L M : Int) : (roomP L M).err = 0 ∨ (roomP L M).err = 16 := by
  unfold roomP
  split
  · exact .inr rfl
  · exact .inl rfl
end Go.Proofs.Ytdcedfciaaooiaa
