/- Chains of dimensions, in plain Lean: joined, turned, cut. -/
import Derived.Test.YtdcedfciaaooiaaJ17
import Derived.Test.YtdcedfciaaooiaaJ18
set_option linter.unusedVariables false
namespace Go.Proofs.Ytdcedfciaaooiaa

theorem sameS_iff {s t : ByteArray} : sameS s t = true ↔ s = t := by
  rw [sameS_eq]
  constructor
  · intro h
    have h1 : s.data.toList = t.data.toList := by simpa using h
    cases s with | mk a => cases t with | mk b => simp only [ByteArray.mk.injEq]; exact Array.toList_inj.1 h1
  · rintro rfl; simp
theorem sameS_ne {s t : ByteArray} (h : s ≠ t) : sameS s t = false := by
  cases h1 : sameS s t
  · rfl
  · exact absurd (sameS_iff.1 h1) h
def cat (q x : Dim) : Dim := ⟨q.frm, x.to, q.axis, q.lo + x.lo, q.hi + x.hi⟩
inductive Ch : List Dim → Dim → Prop where
  | one (x : Dim) : Ch [x] x
  | snoc {ys : List Dim} {q x : Dim} (h : Ch ys q) (ha : q.axis = x.axis) (ht : q.to = x.frm) : Ch (ys ++ [x]) (cat q x)
theorem Ch.ne {ys : List Dim} {q : Dim} (h : Ch ys q) : ys ≠ [] := by cases h <;> simp
theorem cat_assoc (a b c : Dim) : cat (cat a b) c = cat a (cat b c) := by simp [cat, Int.add_assoc]
theorem Ch.append {ys zs : List Dim} {q r : Dim} (h : Ch ys q) (h2 : Ch zs r) (ha : q.axis = r.axis) (ht : q.to = r.frm) : Ch (ys ++ zs) (cat q r) := by
  induction h2 with
  | one x => exact h.snoc ha ht
  | @snoc zs r x h2 ha2 ht2 ih =>
    rw [← List.append_assoc, ← cat_assoc]
    exact (ih ha ht).snoc (by show q.axis = x.axis; exact ha.trans ha2) ht2
theorem Ch.inv {l : List Dim} {q : Dim} (h : Ch l q) : (∃ x, l = [x] ∧ q = x) ∨ ∃ ys r x, l = ys ++ [x] ∧ Ch ys r ∧ r.axis = x.axis ∧ r.to = x.frm ∧ q = cat r x := by
  cases h with
  | one => exact .inl ⟨_, rfl, rfl⟩
  | snoc h ha ht => exact .inr ⟨_, _, _, rfl, h, ha, ht, rfl⟩
theorem snoc_cases {α : Type} (l : List α) : l = [] ∨ ∃ ys x, l = ys ++ [x] := by
  rcases List.eq_nil_or_concat l with h | ⟨ys, x, h⟩
  · exact .inl h
  · exact .inr ⟨ys, x, by rw [h, List.concat_eq_append]⟩
theorem Ch.split (n : Nat) : ∀ {ys zs : List Dim} {q : Dim}, zs.length = n → Ch (ys ++ zs) q → ys ≠ [] → zs ≠ [] → ∃ q1 q2, Ch ys q1 ∧ Ch zs q2 ∧ q1.axis = q2.axis ∧ q1.to = q2.frm ∧ q = cat q1 q2 := by
  induction n with
  | zero => intro ys zs q hn h hy hz; exact absurd (List.length_eq_zero_iff.1 hn) hz
  | succ n ih =>
    intro ys zs q hn h hy hz
    rcases snoc_cases zs with rfl | ⟨zs', z, rfl⟩
    · exact absurd rfl hz
    · have hn' : zs'.length = n := by simpa using hn
      rcases h.inv with ⟨x, hx, _⟩ | ⟨ws, r, x, hx, h1, ha, ht, rfl⟩
      · exfalso
        have := congrArg List.length hx
        have hl : 0 < ys.length := List.length_pos_iff.2 hy
        simp at this
        omega
      · rw [← List.append_assoc] at hx
        obtain ⟨hx1, hx2⟩ := List.append_inj' hx rfl
        obtain rfl : z = x := by simpa using hx2
        subst hx1
        by_cases hz' : zs' = []
        · subst hz'
          rw [List.append_nil] at h1
          exact ⟨r, z, h1, .one z, ha, ht, rfl⟩
        · obtain ⟨q1, q2, c1, c2, e1, e2, rfl⟩ := ih hn' h1 hy hz'
          exact ⟨q1, cat q2 z, c1, c2.snoc (by simpa [cat] using e1.symm.trans ha) (by simpa [cat] using ht), e1, e2, cat_assoc _ _ _⟩
theorem Ch.turn {ys : List Dim} {q : Dim} (h : Ch ys q) : Ch ((ys.map turnD).reverse) (turnD q) := by
  induction h with
  | one x => exact .one _
  | @snoc ys q x h ha ht ih =>
    rw [List.map_append, List.reverse_append]
    have h2 := (Ch.one (turnD x)).append ih ha.symm ht.symm
    have e : cat (turnD x) (turnD q) = turnD (cat q x) := by simp [cat, turnD, ha]; omega
    rw [e] at h2
    exact h2

theorem chk_le {a b : Int} (h : a ≤ b) : chk a b = 0 ∨ chk a b = 2 := by
  unfold chk
  split <;> simp
theorem validE_of {d : Dim} (h1 : nameE d.frm = 0) (h2 : nameE d.to = 0) (h3 : midE d = 0) (h4 : chk d.lo d.hi = 0) : validE d = 0 := by simp [validE, firstE, h1, h2, h3, h4]
theorem midE_zero {d : Dim} (h : midE d = 0) : sameS d.frm d.to = false ∧ 0 ≤ d.axis ∧ d.axis < 3 := by
  unfold midE at h
  split at h
  · simp at h
  · split at h
    · simp at h
    · rename_i h1 h2
      exact ⟨by simpa using h1, by omega, by omega⟩
theorem midE_of {d : Dim} (h : sameS d.frm d.to = false) (h0 : 0 ≤ d.axis) (h1 : d.axis < 3) : midE d = 0 := by
  unfold midE
  rw [if_neg (by simp [h]), if_neg (by omega)]
theorem sameS_symm {s t : ByteArray} (h : sameS s t = false) : sameS t s = false := sameS_ne (fun e => by rw [sameS_iff.2 e.symm] at h; simp at h)
theorem turn_valid {d : Dim} (h : validE d = 0) : validE (turnD d) = 0 := by
  obtain ⟨h1, h2, h3, h4⟩ := validE_zero h
  obtain ⟨m1, m2, m3⟩ := midE_zero h3
  have := chk_zero h4
  exact validE_of h2 h1 (midE_of (sameS_symm m1) m2 m3) (chk_of (by show -100000 ≤ -d.hi; omega) (by show -d.hi ≤ -d.lo; omega) (by show -d.lo ≤ 100000; omega))
theorem turn_turn (d : Dim) : turnD (turnD d) = d := by simp [turnD]
theorem revD_valid {d : Dim} (h : validE d = 0) : revD d = turnD d := by rw [revD, if_pos h]
/-- Joining two right dimensions that fit. -/
theorem join_fit {q x : Dim} (hq : validE q = 0) (hx : validE x = 0) (ha : q.axis = x.axis) (ht : q.to = x.frm) :
    (joinE q x = 0 ∧ joinD q x = cat q x ∧ validE (cat q x) = 0) ∨ joinE q x = 7 ∨ joinE q x = 2 := by
  obtain ⟨q1, q2, q3, q4⟩ := validE_zero hq
  obtain ⟨x1, x2, x3, x4⟩ := validE_zero hx
  have c1 := chk_zero q4
  have c2 := chk_zero x4
  cases hs : sameS q.frm x.to
  · have e := joinE_5 hq hx ha (sameS_iff.2 ht) hs
    have hb : bothE q.lo q.hi x.lo x.hi = 0 := by rw [bothE_cases, if_pos q4, x4]
    have hadd : addE q.lo q.hi x.lo x.hi = chk (q.lo + x.lo) (q.hi + x.hi) := by rw [addE, if_pos hb]
    rw [hadd] at e
    rcases chk_le (a := q.lo + x.lo) (b := q.hi + x.hi) (by omega) with h0 | h0
    · left
      have hL : addL q.lo q.hi x.lo x.hi = ⟨q.lo + x.lo, q.hi + x.hi⟩ := by rw [addL, if_pos hb, madeL, if_pos h0]
      refine ⟨e.trans h0, by rw [joinD_yes (e.trans h0), hL]; rfl, ?_⟩
      obtain ⟨m1, m2, m3⟩ := midE_zero q3
      exact validE_of q1 x2 (midE_of hs m2 m3) h0
    · exact .inr (.inr (e.trans h0))
  · exact .inr (.inl (joinE_4 hq hx ha (sameS_iff.2 ht) hs))
theorem Ch.run {ys : List Dim} {q : Dim} (h : Ch ys q) : (∀ y ∈ ys, validE y = 0) → (stL ys = (true, q, 0) ∧ validE q = 0) ∨ (stL ys).2.2 = 7 ∨ (stL ys).2.2 = 2 := by
  induction h with
  | one x => intro hv; exact .inl ⟨rfl, hv x (by simp)⟩
  | @snoc ys q x h ha ht ih =>
    intro hv
    have hx := hv x (by simp)
    rcases ih (fun y hy => hv y (by simp [hy])) with ⟨e, hq⟩ | e | e
    · have es : stL (ys ++ [x]) = (true, joinD q x, joinE q x) := by rw [stL_next (by rw [e]) (by rw [e]), e]
      rcases join_fit hq hx ha ht with ⟨j0, j1, j2⟩ | j | j
      · left; exact ⟨by rw [es, j0, j1], j2⟩
      · right; left; rw [es]; exact j
      · right; right; rw [es]; exact j
    · right; left; rw [stL_app ys [x] (by rw [e]; decide)]; exact e
    · right; right; rw [stL_app ys [x] (by rw [e]; decide)]; exact e
theorem joinE_zero {q x : Dim} (h : joinE q x = 0) : validE q = 0 ∧ validE x = 0 ∧ q.axis = x.axis ∧ q.to = x.frm := by
  by_cases h1 : validE q = 0
  · by_cases h2 : validE x = 0
    · by_cases h3 : q.axis ≠ x.axis ∨ sameS q.to x.frm = false
      · rw [joinE_3 h1 h2 h3] at h; exact absurd h (by decide)
      · refine ⟨h1, h2, ?_, ?_⟩
        · exact Classical.byContradiction fun hn => h3 (.inl hn)
        · refine sameS_iff.1 ?_
          cases hs : sameS q.to x.frm
          · exact absurd (.inr hs) h3
          · rfl
    · rw [joinE_2 h1 h2] at h; exact absurd h h2
  · rw [joinE_1 h1] at h; exact absurd h h1
theorem Ch.of_run (n : Nat) : ∀ {ys : List Dim}, ys.length = n → ys ≠ [] → (∀ y ∈ ys, validE y = 0) → (stL ys).2.2 = 0 → ∃ q, Ch ys q ∧ stL ys = (true, q, 0) ∧ validE q = 0 := by
  induction n with
  | zero => intro ys hn hy; exact absurd (List.length_eq_zero_iff.1 hn) hy
  | succ n ih =>
    intro ys hn hy hv he
    rcases snoc_cases ys with rfl | ⟨zs, x, rfl⟩
    · exact absurd rfl hy
    · have hn' : zs.length = n := by simpa using hn
      by_cases hz : zs = []
      · subst hz
        exact ⟨x, .one x, rfl, hv x (by simp)⟩
      · have e0 : (stL zs).2.2 = 0 := by
          apply Classical.byContradiction
          intro hne
          rw [stL_app zs [x] hne] at he
          exact hne he
        obtain ⟨q, c, e, hq⟩ := ih hn' hz (fun y hy => hv y (by simp [hy])) e0
        have es : stL (zs ++ [x]) = (true, joinD q x, joinE q x) := by rw [stL_next (by rw [e]) (by rw [e]), e]
        rw [es] at he
        obtain ⟨_, hx, ha, ht⟩ := joinE_zero he
        have c2 := c.snoc ha ht
        rcases c2.run hv with ⟨e2, hq2⟩ | e2 | e2
        · exact ⟨_, c2, e2, hq2⟩
        · rw [es] at e2; exact absurd (he.symm.trans e2) (by decide)
        · rw [es] at e2; exact absurd (he.symm.trans e2) (by decide)

theorem allE_iff {xs : List Dim} : allE xs = 0 ↔ ∀ y ∈ xs, validE y = 0 := by
  constructor
  · intro h
    unfold allE at h
    induction xs with
    | nil => simp
    | cons x xs ih =>
      simp only [List.map_cons, firstE] at h
      split at h
      · intro y hy
        rcases List.mem_cons.1 hy with rfl | hy
        · assumption
        · exact ih h y hy
      · rename_i hh; exact absurd h hh
  · intro h
    unfold allE
    induction xs with
    | nil => rfl
    | cons x xs ih =>
      simp only [List.map_cons, firstE]
      rw [if_pos (h x (by simp))]
      exact ih (fun y hy => h y (by simp [hy]))
/-- What a right path is. -/
theorem path_ok {xs : List Dim} (h : pathE xs = 0) : (∀ y ∈ xs, validE y = 0) ∧ xs ≠ [] ∧ Ch xs (pathD xs) ∧ stL xs = (true, pathD xs, 0) ∧ validE (pathD xs) = 0 := by
  by_cases ha : allE xs = 0
  · by_cases h0 : xs.length = 0
    · rw [pathE_2 ha h0] at h; exact absurd h (by decide)
    · by_cases h1 : 256 < xs.length
      · rw [pathE_3 ha h1] at h; exact absurd h (by decide)
      · have e := pathE_4 ha h0 h1
        have d := pathD_4 ha h0 h1
        have hv := allE_iff.1 ha
        have hne : xs ≠ [] := fun e => h0 (by rw [e]; rfl)
        obtain ⟨q, c, es, hq⟩ := Ch.of_run _ rfl hne hv (e.symm.trans h)
        rw [es] at d
        exact ⟨hv, hne, by rw [d]; exact c, by rw [d, es], by rw [d]; exact hq⟩
  · rw [pathE_1 ha] at h; exact absurd h ha
/-- A path of right dimensions that are a chain. -/
theorem path_chain {ys : List Dim} {q : Dim} (c : Ch ys q) (hv : ∀ y ∈ ys, validE y = 0) (hn : ys.length ≤ 256) : (pathE ys = 0 ∧ pathD ys = q ∧ validE q = 0) ∨ pathE ys = 7 ∨ pathE ys = 2 := by
  have ha := allE_iff.2 hv
  have h0 : ys.length ≠ 0 := fun e => c.ne (List.length_eq_zero_iff.1 e)
  have e := pathE_4 ha h0 (by omega)
  have d := pathD_4 ha h0 (by omega)
  rcases c.run hv with ⟨es, hq⟩ | es | es
  · exact .inl ⟨by rw [e, es], by rw [d, es], hq⟩
  · exact .inr (.inl (e.trans es))
  · exact .inr (.inr (e.trans es))

/-! What the law DimensionTurns wants of a right path. -/
theorem turns_back {xs : List Dim} (h : pathE xs = 0) (hn : xs.length ≤ 256) : (pathE (xs.map turnD).reverse = 0 ∧ pathD (xs.map turnD).reverse = turnD (pathD xs)) ∨ pathE (xs.map turnD).reverse = 7 ∨ pathE (xs.map turnD).reverse = 2 := by
  obtain ⟨hv, hne, c, es, hq⟩ := path_ok h
  rcases path_chain c.turn (fun y hy => by
    simp only [List.mem_reverse, List.mem_map] at hy
    obtain ⟨x, hx, rfl⟩ := hy
    exact turn_valid (hv x hx)) (by simpa using hn) with ⟨a, b, _⟩ | a | a
  · exact .inl ⟨a, b⟩
  · exact .inr (.inl a)
  · exact .inr (.inr a)
theorem turns_cut {xs : List Dim} (h : pathE xs = 0) (hn : xs.length ≤ 256) {k : Nat} (hk : 0 < k) (hk2 : k < xs.length) :
    pathE (xs.take k) = 0 ∧ ((pathE (xs.drop k) = 0 ∧ joinE (pathD (xs.take k)) (pathD (xs.drop k)) = 0 ∧ joinD (pathD (xs.take k)) (pathD (xs.drop k)) = pathD xs) ∨ pathE (xs.drop k) = 7 ∨ pathE (xs.drop k) = 2) := by
  obtain ⟨hv, hne, c, es, hq⟩ := path_ok h
  have ht : xs.take k ≠ [] := fun e => by
    have := congrArg List.length e
    rw [List.length_take, List.length_nil] at this
    omega
  have hd : xs.drop k ≠ [] := fun e => by
    have := congrArg List.length e
    rw [List.length_drop, List.length_nil] at this
    omega
  rw [← List.take_append_drop k xs] at c
  obtain ⟨q1, q2, c1, c2, e1, e2, e3⟩ := Ch.split _ rfl c ht hd
  rw [List.take_append_drop] at e3
  have v1 : ∀ y ∈ xs.take k, validE y = 0 := fun y hy => hv y (List.mem_of_mem_take hy)
  have v2 : ∀ y ∈ xs.drop k, validE y = 0 := fun y hy => hv y (List.mem_of_mem_drop hy)
  have l1 : (xs.take k).length ≤ 256 := by rw [List.length_take]; omega
  have l2 : (xs.drop k).length ≤ 256 := by rw [List.length_drop]; omega
  have p1 : pathE (xs.take k) = 0 ∧ pathD (xs.take k) = q1 ∧ validE q1 = 0 := by
    have hz : (stL (xs.take k)).2.2 = 0 := by
      apply Classical.byContradiction
      intro hne
      have := stL_take hne
      rw [← this, es] at hne
      exact hne rfl
    rcases path_chain c1 v1 l1 with hh | hh | hh
    · exact hh
    · rw [pathE_4 (allE_iff.2 v1) (fun e => ht (List.length_eq_zero_iff.1 e)) (by omega), hz] at hh; exact absurd hh (by decide)
    · rw [pathE_4 (allE_iff.2 v1) (fun e => ht (List.length_eq_zero_iff.1 e)) (by omega), hz] at hh; exact absurd hh (by decide)
  obtain ⟨a1, a2, a3⟩ := p1
  refine ⟨a1, ?_⟩
  rcases path_chain c2 v2 l2 with ⟨b1, b2, b3⟩ | hh | hh
  · left
    obtain ⟨_, _, m, cc⟩ := validE_zero hq
    have hs : sameS q1.frm q2.to = false := by have := (midE_zero m).1; rw [e3] at this; exact this
    have hb : bothE q1.lo q1.hi q2.lo q2.hi = 0 := by rw [bothE_cases, if_pos (validE_zero a3).2.2.2]; exact (validE_zero b3).2.2.2
    have hc : chk (q1.lo + q2.lo) (q1.hi + q2.hi) = 0 := by rw [e3] at cc; exact cc
    have hj : joinE q1 q2 = 0 := by rw [joinE_5 a3 b3 e1 (sameS_iff.2 e2) hs, addE, if_pos hb, hc]
    refine ⟨b1, by rw [a2, b2]; exact hj, ?_⟩
    rw [a2, b2, joinD_yes hj, addL, if_pos hb, madeL, if_pos hc, e3]
    rfl
  · exact .inr (.inl hh)
  · exact .inr (.inr hh)
end Go.Proofs.Ytdcedfciaaooiaa
