/- Right chains of links, said by their features; turned and cut: plain. -/
import Derived.Test.YtdcedfciaaooiaaC24
set_option linter.unusedVariables false
namespace Go.Proofs.Ytdcedfciaaooiaa

theorem sameS_iff (s t : ByteArray) : sameS s t = true ↔ s = t := by
  rw [sameS_eq, beq_iff_eq]
  constructor
  · intro h
    obtain ⟨⟨a⟩⟩ := s
    obtain ⟨⟨b⟩⟩ := t
    simp_all
  · rintro rfl; rfl
theorem sameS_no (s t : ByteArray) : sameS s t = false ↔ s ≠ t := by
  rw [← Bool.not_eq_true, sameS_iff]
/-- A right chain. -/
structure CH (xs : List Dim) (cs : List Lk) : Prop where
  rng : ∀ j, j < cs.length → 0 ≤ (cs.getD j zeroK).dim ∧ (cs.getD j zeroK).dim < xs.length
  axis : ∀ i j, i < cs.length → j < cs.length → axisK xs (cs.getD i zeroK) = axisK xs (cs.getD j zeroK)
  next : ∀ j, j + 1 < cs.length → beginS xs (cs.getD (j + 1) zeroK) = stopS xs (cs.getD j zeroK)
  once : ∀ i j, i < j → j < cs.length → (cs.getD i zeroK).dim ≠ (cs.getD j zeroK).dim
  inner : ∀ i j, 0 < i → i < j → j < cs.length → beginS xs (cs.getD i zeroK) ≠ stopS xs (cs.getD j zeroK)
  shut : ∀ j, j + 1 < cs.length → beginS xs (cs.getD 0 zeroK) ≠ stopS xs (cs.getD j zeroK)
theorem pk_take {cs : List Lk} {j i : Nat} (h : i < j) : (cs.take j).getD i zeroK = cs.getD i zeroK := by
  rw [List.getD_eq_getElem?_getD, List.getD_eq_getElem?_getD, List.getElem?_take_of_lt h]
theorem pk_drop (cs : List Lk) (j i : Nat) : (cs.drop j).getD i zeroK = cs.getD (j + i) zeroK := by
  rw [List.getD_eq_getElem?_getD, List.getD_eq_getElem?_getD, List.getElem?_drop]
theorem pk_mem {cs : List Lk} {j : Nat} (h : j < cs.length) : cs.getD j zeroK ∈ cs := by
  rw [List.getD_eq_getElem?_getD, List.getElem?_eq_getElem h, Option.getD_some]
  exact List.getElem_mem _
theorem pk_of {cs : List Lk} {x : Lk} (h : x ∈ cs) : ∃ j, j < cs.length ∧ x = cs.getD j zeroK := by
  obtain ⟨j, hj, rfl⟩ := List.mem_iff_getElem.1 h
  exact ⟨j, hj, by rw [List.getD_eq_getElem?_getD, List.getElem?_eq_getElem hj, Option.getD_some]⟩
theorem goesE_zero {xs : List Dim} {cs : List Lk} {x : Lk} : goesE xs cs x = 0 ↔ rangeB xs x = false ∧ shapeB xs cs x = false ∧ usedB cs x = false ∧ shutB xs cs = false ∧ begunB xs cs x = false := by
  unfold goesE
  cases rangeB xs x <;> cases shapeB xs cs x <;> cases usedB cs x <;> cases shutB xs cs <;> cases begunB xs cs x <;> simp
/-- What it says of link j. -/
theorem goes_at {xs : List Dim} {cs : List Lk} {j : Nat} (hj : j < cs.length) : goesE xs (cs.take j) (cs.getD j zeroK) = 0 ↔
    (0 ≤ (cs.getD j zeroK).dim ∧ (cs.getD j zeroK).dim < xs.length) ∧
    (0 < j → axisK xs (cs.getD j zeroK) = axisK xs (cs.getD 0 zeroK) ∧ beginS xs (cs.getD j zeroK) = stopS xs (cs.getD (j - 1) zeroK)) ∧
    (∀ i, i < j → (cs.getD i zeroK).dim ≠ (cs.getD j zeroK).dim) ∧
    (0 < j → beginS xs (cs.getD 0 zeroK) ≠ stopS xs (cs.getD (j - 1) zeroK)) ∧
    (∀ i, 0 < i → i < j → beginS xs (cs.getD i zeroK) ≠ stopS xs (cs.getD j zeroK)) := by
  have hl : (cs.take j).length = j := by rw [List.length_take]; omega
  have hf : 0 < j → firstK (cs.take j) = cs.getD 0 zeroK := fun h => pk_take h
  have hla : 0 < j → lastK (cs.take j) = cs.getD (j - 1) zeroK := fun h => by unfold lastK; rw [hl, pk_take (by omega)]
  rw [goesE_zero]
  refine and_congr ?_ (and_congr ?_ (and_congr ?_ (and_congr ?_ ?_)))
  · simp only [rangeB, Bool.or_eq_false_iff, decide_eq_false_iff_not]
    omega
  · unfold shapeB
    rw [hl]
    by_cases h0 : 0 < j
    · rw [hf h0, hla h0]
      simp [h0, sameS_iff]
    · simp [h0]
  · unfold usedB
    rw [List.any_eq_false]
    constructor
    · intro h i hi e
      exact h (cs.getD i zeroK) (by rw [← pk_take hi]; exact pk_mem (by omega)) (by simpa using e)
    · intro h x hx
      obtain ⟨i, hi, rfl⟩ := pk_of hx
      rw [hl] at hi
      rw [pk_take hi]
      simpa using h i hi
  · unfold shutB
    rw [hl]
    by_cases h0 : 0 < j
    · rw [hf h0, hla h0]
      simp [h0, sameS_no]
    · simp [h0]
  · unfold begunB
    rw [List.any_eq_false]
    constructor
    · intro h i hi0 hi e
      refine h (cs.getD i zeroK) ?_ (by rw [sameS_iff]; exact e)
      have := pk_drop (cs.take j) 1 (i - 1)
      rw [show 1 + (i - 1) = i from by omega, pk_take hi] at this
      rw [← this]
      exact pk_mem (by rw [List.length_drop]; omega)
    · intro h x hx
      obtain ⟨i, hi, rfl⟩ := pk_of hx
      rw [List.length_drop, hl] at hi
      rw [pk_drop, pk_take (by omega), sameS_iff]
      exact h (1 + i) (by omega) (by omega)
theorem ch_of {xs : List Dim} {cs : List Lk} (h : ∀ j, j < cs.length → goesE xs (cs.take j) (cs.getD j zeroK) = 0) : CH xs cs := by
  have g := fun j hj => (goes_at hj).1 (h j hj)
  have ax0 : ∀ j, j < cs.length → axisK xs (cs.getD j zeroK) = axisK xs (cs.getD 0 zeroK) := fun j hj => by
    by_cases h0 : 0 < j
    · exact ((g j hj).2.1 h0).1
    · rw [show j = 0 from by omega]
  refine ⟨fun j hj => (g j hj).1, fun i j hi hj => by rw [ax0 i hi, ax0 j hj], fun j hj => ?_, fun i j hi hj => (g j hj).2.2.1 i hi, fun i j h0 hi hj => (g j hj).2.2.2.2 i h0 hi, fun j hj => ?_⟩
  · have := ((g (j + 1) hj).2.1 (by omega)).2
    rwa [Nat.add_sub_cancel] at this
  · have := (g (j + 1) hj).2.2.2.1 (by omega)
    rwa [Nat.add_sub_cancel] at this
theorem ch_goes {xs : List Dim} {cs : List Lk} (h : CH xs cs) : ∀ j, j < cs.length → goesE xs (cs.take j) (cs.getD j zeroK) = 0 := fun j hj => by
  refine (goes_at hj).2 ⟨h.rng j hj, fun h0 => ⟨h.axis j 0 hj (by omega), ?_⟩, fun i hi => h.once i j hi hj, fun h0 => h.shut (j - 1) (by omega), fun i h0 hi => h.inner i j h0 hi hj⟩
  have := h.next (j - 1) (by omega)
  rwa [show j - 1 + 1 = j from by omega] at this
theorem chainE_ch {xs : List Dim} {cs : List Lk} (h : chainE xs cs = 0) : CH xs cs ∧ 0 < cs.length ∧ cs.length ≤ 256 := by
  unfold chainE at h
  split at h
  · contradiction
  · split at h
    · contradiction
    · refine ⟨ch_of fun j hj => ?_, by omega, by omega⟩
      rw [← goesAll_at xs cs j hj]
      have : ∀ (l : List Int), firstE l = 0 → ∀ x ∈ l, x = 0 := by
        intro l
        induction l with
        | nil => intro _ x hx; cases hx
        | cons r rs ih =>
          intro h x hx
          unfold firstE at h
          split at h
          · rcases List.mem_cons.1 hx with rfl | hx
            · assumption
            · exact ih h x hx
          · contradiction
      refine this _ h _ ?_
      rw [List.getD_eq_getElem?_getD, List.getElem?_eq_getElem (by simpa [goesAll] using hj), Option.getD_some]
      exact List.getElem_mem _
theorem ch_chainE {xs : List Dim} {cs : List Lk} (h : CH xs cs) (h0 : 0 < cs.length) (h1 : cs.length ≤ 256) : chainE xs cs = 0 :=
  chainE_none rfl (by omega) h1 (ch_goes h)
/-- No dimension begins where it ends. -/
def Apart (xs : List Dim) : Prop := ∀ x : Lk, 0 ≤ x.dim → x.dim < xs.length → beginS xs x ≠ stopS xs x
theorem apart_of {xs : List Dim} (h : givenE xs = 0) : Apart xs := by
  have hn : ¬ 256 < xs.length := by
    intro h1
    rw [givenE, if_pos h1] at h
    omega
  rw [givenE_few rfl hn] at h
  intro x h0 h1
  have hv : validE (xs.getD x.dim.toNat zeroD) = 0 := by
    have : ∀ (l : List Int), firstE l = 0 → ∀ x ∈ l, x = 0 := by
      intro l
      induction l with
      | nil => intro _ x hx; cases hx
      | cons r rs ih =>
        intro h x hx
        unfold firstE at h
        split at h
        · rcases List.mem_cons.1 hx with rfl | hx
          · assumption
          · exact ih h x hx
        · contradiction
    refine this _ h _ (List.mem_map.2 ⟨xs.getD x.dim.toNat zeroD, ?_, rfl⟩)
    rw [List.getD_eq_getElem?_getD, List.getElem?_eq_getElem (by omega), Option.getD_some]
    exact List.getElem_mem _
  have hm := (validE_zero hv).2.2.1
  unfold midE at hm
  have hs : sameS (xs.getD x.dim.toNat zeroD).frm (xs.getD x.dim.toNat zeroD).to = false := by
    cases hs : sameS (xs.getD x.dim.toNat zeroD).frm (xs.getD x.dim.toNat zeroD).to
    · rfl
    · rw [hs] at hm; simp at hm
  rw [sameS_no] at hs
  unfold beginS stopS
  split
  · exact fun e => hs e.symm
  · exact hs
/-- A link, and a chain, backwards. -/
def flipK (x : Lk) : Lk := ⟨x.dim, !x.back⟩
def revC (cs : List Lk) : List Lk := cs.reverse.map flipK
theorem revC_len (cs : List Lk) : (revC cs).length = cs.length := by simp [revC]
theorem flip_begin (xs : List Dim) (x : Lk) : beginS xs (flipK x) = stopS xs x := by cases hb : x.back <;> simp [beginS, stopS, flipK, hb]
theorem flip_stop (xs : List Dim) (x : Lk) : stopS xs (flipK x) = beginS xs x := by cases hb : x.back <;> simp [beginS, stopS, flipK, hb]
theorem flip_axis (xs : List Dim) (x : Lk) : axisK xs (flipK x) = axisK xs x := rfl
theorem flip_flip (x : Lk) : flipK (flipK x) = x := by simp [flipK]
theorem revC_revC (cs : List Lk) : revC (revC cs) = cs := by
  have : (flipK ∘ flipK) = id := by funext x; exact flip_flip x
  simp [revC, List.map_reverse, List.map_map, this]
theorem revC_at {cs : List Lk} {j : Nat} (h : j < cs.length) : (revC cs).getD j zeroK = flipK (cs.getD (cs.length - 1 - j) zeroK) := by
  unfold revC
  rw [List.getD_eq_getElem?_getD, List.getElem?_map, List.getElem?_reverse h, List.getD_eq_getElem?_getD, List.getElem?_eq_getElem (by omega)]
  rfl
theorem CH.rev {xs : List Dim} {cs : List Lk} (h : CH xs cs) (ha : Apart xs) : CH xs (revC cs) := by
  refine ⟨fun j hj => ?_, fun i j hi hj => ?_, fun j hj => ?_, fun i j hi hj => ?_, fun i j h0 hi hj => ?_, fun j hj => ?_⟩
  all_goals rw [revC_len] at *
  · rw [revC_at hj]
    exact h.rng (cs.length - 1 - j) (by omega)
  · rw [revC_at hi, revC_at hj, flip_axis, flip_axis]
    exact h.axis _ _ (by omega) (by omega)
  · rw [revC_at hj, revC_at (by omega), flip_begin, flip_stop, ← h.next (cs.length - 1 - (j + 1)) (by omega)]
    congr 2
    omega
  · rw [revC_at hj, revC_at (by omega)]
    exact fun e => h.once (cs.length - 1 - j) (cs.length - 1 - i) (by omega) (by omega) e.symm
  · rw [revC_at hj, revC_at (by omega), flip_begin, flip_stop]
    by_cases hz : cs.length - 1 - j = 0
    · rw [hz]
      exact fun e => h.shut (cs.length - 1 - i) (by omega) e.symm
    · exact fun e => h.inner (cs.length - 1 - j) (cs.length - 1 - i) (by omega) (by omega) (by omega) e.symm
  · rw [revC_at (by omega), revC_at (by omega), flip_begin, flip_stop, Nat.sub_zero]
    by_cases hz : j = 0
    · subst hz
      have := h.rng (cs.length - 1) (by omega)
      exact fun e => ha _ this.1 this.2 e.symm
    · exact fun e => h.inner (cs.length - 1 - j) (cs.length - 1) (by omega) (by omega) (by omega) e.symm
theorem CH.take {xs : List Dim} {cs : List Lk} (h : CH xs cs) {k : Nat} (hk : k ≤ cs.length) : CH xs (cs.take k) := by
  have hl : (cs.take k).length = k := by rw [List.length_take]; omega
  refine ⟨fun j hj => ?_, fun i j hi hj => ?_, fun j hj => ?_, fun i j hi hj => ?_, fun i j h0 hi hj => ?_, fun j hj => ?_⟩
  all_goals rw [hl] at *
  · rw [pk_take hj]; exact h.rng j (by omega)
  · rw [pk_take hj, pk_take hi]; exact h.axis i j (by omega) (by omega)
  · rw [pk_take hj, pk_take (by omega)]; exact h.next j (by omega)
  · rw [pk_take hj, pk_take (by omega)]; exact h.once i j hi (by omega)
  · rw [pk_take hj, pk_take (by omega)]; exact h.inner i j h0 hi (by omega)
  · rw [pk_take (by omega), pk_take (by omega)]; exact h.shut j (by omega)
theorem CH.drop {xs : List Dim} {cs : List Lk} (h : CH xs cs) (ha : Apart xs) (k : Nat) : CH xs (cs.drop k) := by
  have hl : (cs.drop k).length = cs.length - k := List.length_drop ..
  refine ⟨fun j hj => ?_, fun i j hi hj => ?_, fun j hj => ?_, fun i j hi hj => ?_, fun i j h0 hi hj => ?_, fun j hj => ?_⟩
  all_goals rw [hl] at *
  · rw [pk_drop]; exact h.rng _ (by omega)
  · rw [pk_drop, pk_drop]; exact h.axis _ _ (by omega) (by omega)
  · rw [pk_drop, pk_drop]; exact h.next (k + j) (by omega)
  · rw [pk_drop, pk_drop]; exact h.once _ _ (by omega) (by omega)
  · rw [pk_drop, pk_drop]; exact h.inner _ _ (by omega) (by omega) (by omega)
  · rw [pk_drop, pk_drop, Nat.add_zero]
    by_cases hz : k = 0
    · subst hz
      rw [Nat.zero_add]
      exact h.shut j (by omega)
    · by_cases hj0 : j = 0
      · subst hj0
        have := h.rng k (by omega)
        exact ha _ this.1 this.2
      · exact h.inner k (k + j) (by omega) (by omega) (by omega)
theorem check_parts {xs : List Dim} {cs : List Lk} (h : checkE xs cs = 0) : givenE xs = 0 ∧ CH xs cs ∧ 0 < cs.length ∧ cs.length ≤ 256 := by
  unfold checkE at h
  split at h
  · contradiction
  · rename_i h1
    exact ⟨by simpa using h1, chainE_ch h⟩
theorem check_mk {xs : List Dim} {cs : List Lk} (hg : givenE xs = 0) (h : CH xs cs) (h0 : 0 < cs.length) (h1 : cs.length ≤ 256) : checkE xs cs = 0 := by
  unfold checkE
  rw [if_neg (by simpa using hg)]
  exact ch_chainE h h0 h1
theorem check_rev {xs : List Dim} {cs : List Lk} (h : checkE xs cs = 0) : checkE xs (revC cs) = 0 := by
  obtain ⟨hg, hc, h0, h1⟩ := check_parts h
  exact check_mk hg (hc.rev (apart_of hg)) (by rw [revC_len]; exact h0) (by rw [revC_len]; exact h1)
theorem check_take {xs : List Dim} {cs : List Lk} (h : checkE xs cs = 0) {k : Nat} (h0 : 0 < k) (hk : k ≤ cs.length) : checkE xs (cs.take k) = 0 := by
  obtain ⟨hg, hc, h0, h1⟩ := check_parts h
  exact check_mk hg (hc.take hk) (by rw [List.length_take]; omega) (by rw [List.length_take]; omega)
theorem check_drop {xs : List Dim} {cs : List Lk} (h : checkE xs cs = 0) {k : Nat} (hk : k < cs.length) : checkE xs (cs.drop k) = 0 := by
  obtain ⟨hg, hc, h0, h1⟩ := check_parts h
  exact check_mk hg (hc.drop (apart_of hg) k) (by rw [List.length_drop]; omega) (by rw [List.length_drop]; omega)
end Go.Proofs.Ytdcedfciaaooiaa
