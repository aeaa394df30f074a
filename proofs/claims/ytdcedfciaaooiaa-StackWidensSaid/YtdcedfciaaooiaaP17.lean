/- What layer 17 computes, in plain Lean: names, limits, dimensions. -/
import Derived.RowKit
import Derived.Laws.Strings
set_option linter.unusedVariables false
namespace Go.Proofs.Ytdcedfciaaooiaa

/-- A byte of a string, as a number. -/
def bt (s : ByteArray) (k : Nat) : Int := if h : k < s.size then ((s[k]'h).toNat : Int) else 0
theorem bt_range (s : ByteArray) (k : Nat) : 0 ≤ bt s k ∧ bt s k ≤ 255 := by
  unfold bt
  split
  · rename_i h
    have := (s[k]'h).toNat_lt
    omega
  · omega
def inR (n : Int) : Bool := decide (-100000 ≤ n ∧ n ≤ 100000)
def chk (a b : Int) : Int := if inR a && inR b then (if a ≤ b then 0 else 9) else 2
structure Lim where
  lo : Int
  hi : Int
def limE (l : Lim) : Int := chk l.lo l.hi
def madeL (a b : Int) : Lim := if chk a b = 0 then ⟨a, b⟩ else ⟨0, 0⟩
def ofL (n a b : Int) : Lim := if inR n && inR a && inR b then madeL (n + a) (n + b) else ⟨0, 0⟩
def ofE (n a b : Int) : Int := if inR n && inR a && inR b then chk (n + a) (n + b) else 2
/-- The first error of some checks. -/
def firstE : List Int → Int
  | [] => 0
  | r :: rs => if r = 0 then firstE rs else r
theorem firstE_hit : ∀ (rs : List Int) (k : Nat), (∀ j, j < k → rs.getD j 0 = 0) → rs.getD k 0 ≠ 0 → firstE rs = rs.getD k 0
  | [], k, _, h => by simp at h
  | r :: rs, 0, _, h => by
    simp only [firstE, List.getD_cons_zero] at h ⊢
    rw [if_neg h]
  | r :: rs, k + 1, ha, h => by
    have h0 : r = 0 := by simpa using ha 0 (by omega)
    simp only [firstE, h0, if_true, List.getD_cons_succ] at h ⊢
    exact firstE_hit rs k (fun j hj => by simpa using ha (j + 1) (by omega)) h
theorem firstE_none : ∀ (rs : List Int) (n : Nat), rs.length = n → (∀ j, j < n → rs.getD j 0 = 0) → firstE rs = 0
  | [], _, _, _ => rfl
  | r :: rs, n, hn, ha => by
    have h0 : r = 0 := by simpa using ha 0 (by rw [← hn]; simp)
    simp only [firstE, h0, if_true]
    exact firstE_none rs (n - 1) (by rw [← hn]; simp) (fun j hj => by simpa using ha (j + 1) (by omega))
def bothE (a b c d : Int) : Int := firstE [chk a b, chk c d]
theorem bothE_zero {a b c d : Int} (h : bothE a b c d = 0) : chk a b = 0 ∧ chk c d = 0 := by
  unfold bothE firstE firstE firstE at h
  split at h
  · split at h
    · exact ⟨by assumption, by assumption⟩
    · contradiction
  · contradiction
theorem bothE_cases (a b c d : Int) : bothE a b c d = if chk a b = 0 then chk c d else chk a b := by
  unfold bothE firstE firstE firstE
  split
  · split
    · rename_i h; rw [h]
    · rfl
  · rfl
def insideB (a b c d : Int) : Bool := if bothE a b c d = 0 then decide (c ≤ a) && decide (b ≤ d) else false
theorem insideB_no {a b c d : Int} (h : (bothE a b c d != 0) = true) : insideB a b c d = false := by
  have h' : ¬ bothE a b c d = 0 := by simpa using h
  simp [insideB, h']
theorem insideB_yes {a b c d : Int} (h : (bothE a b c d != 0) = false) : insideB a b c d = (decide (c ≤ a) && decide (b ≤ d)) := by
  have h' : bothE a b c d = 0 := by simpa using h
  simp [insideB, h']
def meetL (a b c d : Int) : Lim := if bothE a b c d = 0 ∧ max a c ≤ min b d then ⟨max a c, min b d⟩ else ⟨0, 0⟩
def meetE (a b c d : Int) : Int := if bothE a b c d = 0 then (if max a c ≤ min b d then 0 else 16) else bothE a b c d
def addL (a b c d : Int) : Lim := if bothE a b c d = 0 then madeL (a + c) (b + d) else ⟨0, 0⟩
def addE (a b c d : Int) : Int := if bothE a b c d = 0 then chk (a + c) (b + d) else bothE a b c d
def negL (a b : Int) : Lim := if chk a b = 0 then ⟨-b, -a⟩ else ⟨0, 0⟩
def containsB (a b v : Int) : Bool := if chk a b = 0 then decide (a ≤ v) && decide (v ≤ b) else false
def letterB (c : Int) : Bool := decide ((65 ≤ c ∧ c ≤ 90) ∨ (97 ≤ c ∧ c ≤ 122))
def digitB (c : Int) : Bool := decide (48 ≤ c ∧ c ≤ 57)
def okB (c : Int) : Bool := letterB c || digitB c
def nameE (s : ByteArray) : Int :=
  if 24 < s.size then 17 else if s.size = 0 then 3 else if letterB (bt s 0) = false then 3
  else if ∀ k, k < s.size → okB (bt s k) = true then 0 else 3

theorem inR_t {n : Int} (h : inR n = true) : -100000 ≤ n ∧ n ≤ 100000 := by simpa [inR] using h
theorem chk_cases (a b : Int) : chk a b = 0 ∨ chk a b = 2 ∨ chk a b = 9 := by
  unfold chk
  split
  · split <;> simp
  · simp
theorem chk_zero {a b : Int} (h : chk a b = 0) : -100000 ≤ a ∧ a ≤ b ∧ b ≤ 100000 := by
  unfold chk at h
  split at h
  · rename_i h1
    simp only [Bool.and_eq_true] at h1
    have := inR_t h1.1
    have := inR_t h1.2
    split at h
    · omega
    · simp at h
  · simp at h
theorem chk_of {a b : Int} (h : -100000 ≤ a) (h1 : a ≤ b) (h2 : b ≤ 100000) : chk a b = 0 := by
  unfold chk inR
  rw [if_pos (by simp; omega), if_pos h1]
theorem nameE_long {s : ByteArray} (h : 24 < s.size) : nameE s = 17 := by simp [nameE, h]
theorem nameE_empty {s : ByteArray} (h : s.size = 0) : nameE s = 3 := by simp [nameE, h]
theorem nameE_first {s : ByteArray} (h : ¬ 24 < s.size) (hl : letterB (bt s 0) = false) : nameE s = 3 := by
  unfold nameE
  rw [if_neg h]
  split
  · rfl
  · first | rfl | rw [if_pos hl]
theorem nameE_bad {s : ByteArray} (h : ¬ 24 < s.size) (k : Nat) (hk : k < s.size) (hb : okB (bt s k) = false) : nameE s = 3 := by
  unfold nameE
  rw [if_neg h]
  split
  · rfl
  · split
    · rfl
    · rw [if_neg]
      intro hall
      rw [hall k hk] at hb
      simp at hb
theorem nameE_good {s : ByteArray} (h : ¬ 24 < s.size) (h0 : 0 < s.size) (hl : letterB (bt s 0) = true) (hall : ∀ k, k < s.size → okB (bt s k) = true) : nameE s = 0 := by
  unfold nameE
  rw [if_neg h, if_neg (by omega), if_neg (by simp [hl]), if_pos hall]

/-- Two strings are the same, as the walk spells it. -/
def sameS (s t : ByteArray) : Bool := s.toList == t.toList
theorem sameS_eq (s t : ByteArray) : sameS s t = (s.data.toList == t.data.toList) := by
  unfold sameS
  rw [ByteArray.toList_eq, ByteArray.toList_eq]
structure Dim where
  frm : ByteArray
  to : ByteArray
  axis : Int
  lo : Int
  hi : Int
def zeroD : Dim := ⟨⟨#[]⟩, ⟨#[]⟩, 0, 0, 0⟩
def midE (d : Dim) : Int := if sameS d.frm d.to then 7 else if d.axis < 0 ∨ 3 ≤ d.axis then 1 else 0
def validE (d : Dim) : Int := firstE [nameE d.frm, nameE d.to, midE d, chk d.lo d.hi]
def turnD (d : Dim) : Dim := ⟨d.to, d.frm, d.axis, -d.hi, -d.lo⟩
def revD (d : Dim) : Dim := if validE d = 0 then turnD d else zeroD
def joinE (a b : Dim) : Int :=
  if validE a ≠ 0 then validE a else if validE b ≠ 0 then validE b else if a.axis ≠ b.axis ∨ sameS a.to b.frm = false then 8
  else if sameS a.frm b.to then 7 else addE a.lo a.hi b.lo b.hi
def joinD (a b : Dim) : Dim :=
  if joinE a b = 0 then ⟨a.frm, b.to, a.axis, (addL a.lo a.hi b.lo b.hi).lo, (addL a.lo a.hi b.lo b.hi).hi⟩ else zeroD
theorem joinE_1 {a b : Dim} (h : validE a ≠ 0) : joinE a b = validE a := by simp [joinE, h]
theorem joinE_2 {a b : Dim} (h : validE a = 0) (h2 : validE b ≠ 0) : joinE a b = validE b := by simp [joinE, h, h2]
theorem joinE_3 {a b : Dim} (h : validE a = 0) (h2 : validE b = 0) (h3 : a.axis ≠ b.axis ∨ sameS a.to b.frm = false) : joinE a b = 8 := by simp only [joinE, h, h2]; simp [h3]
theorem joinE_4 {a b : Dim} (h : validE a = 0) (h2 : validE b = 0) (h3 : a.axis = b.axis) (h4 : sameS a.to b.frm = true) (h5 : sameS a.frm b.to = true) : joinE a b = 7 := by simp [joinE, h, h2, h3, h4, h5]
theorem joinE_5 {a b : Dim} (h : validE a = 0) (h2 : validE b = 0) (h3 : a.axis = b.axis) (h4 : sameS a.to b.frm = true) (h5 : sameS a.frm b.to = false) : joinE a b = addE a.lo a.hi b.lo b.hi := by simp [joinE, h, h2, h3, h4, h5]
theorem joinD_no {a b : Dim} (h : joinE a b ≠ 0) : joinD a b = zeroD := by simp [joinD, h]
theorem joinD_yes {a b : Dim} (h : joinE a b = 0) : joinD a b = ⟨a.frm, b.to, a.axis, (addL a.lo a.hi b.lo b.hi).lo, (addL a.lo a.hi b.lo b.hi).hi⟩ := by simp [joinD, h]
theorem validE_zero {d : Dim} (h : validE d = 0) : nameE d.frm = 0 ∧ nameE d.to = 0 ∧ midE d = 0 ∧ chk d.lo d.hi = 0 := by
  simp only [validE, firstE] at h
  split at h
  · split at h
    · split at h
      · split at h
        · exact ⟨by assumption, by assumption, by assumption, by assumption⟩
        · contradiction
      · contradiction
    · contradiction
  · contradiction
end Go.Proofs.Ytdcedfciaaooiaa
