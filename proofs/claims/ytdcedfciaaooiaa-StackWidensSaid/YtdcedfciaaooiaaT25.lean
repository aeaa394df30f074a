/- stack.Part: the walk. -/
import Derived.Test.YtdcedfciaaooiaaD25
set_option linter.unusedVariables false
namespace Go.Proofs.Ytdcedfciaaooiaa
open Go.RowKit Go.Shelf
attribute [local go_sem] Oper.semAt_some

/-- What a link takes of what is left. -/
def takeI (xs : List Dim) (x : Lk) (left : Int) : Int := if (dimK xs x).hi - (dimK xs x).lo < left then (dimK xs x).hi - (dimK xs x).lo else left
def stepP (xs : List Dim) (s : List Int × Int) (x : Lk) : List Int × Int := (s.1.set x.dim.toNat (s.1.getD x.dim.toNat 0 + sgn x * takeI xs x s.2), s.2 - takeI xs x s.2)
def foldP (xs : List Dim) (cs : List Lk) (s : List Int × Int) : List Int × Int := cs.foldl (stepP xs) s
/-- The part for a sum that is so much above the least one. -/
def sumP (xs : List Dim) (cs : List Lk) (left : Int) : List Int := (foldP xs cs (partL 1 xs cs, left)).1
theorem foldP_snoc (xs : List Dim) (cs : List Lk) (x : Lk) (s : List Int × Int) : foldP xs (cs ++ [x]) s = stepP xs (foldP xs cs s) x := by simp [foldP]
theorem foldP_len (xs : List Dim) (cs : List Lk) (s : List Int × Int) : (foldP xs cs s).1.length = s.1.length := by
  unfold foldP
  induction cs generalizing s with
  | nil => rfl
  | cons x l ih => rw [List.foldl_cons, ih]; simp [stepP]
theorem endM_tt0 {F : Fence} {n : Nat} {P : Program} {fn : Func} {R : Ending → World → Prop} {a : Act} {w : World} {p1 p2 : Tmp} (hr : fn.results = #[.tmp p1, .tmp p2]) (hd : a.defers = [])
    (h : R (.returned (.tuple #[a.tmps.getD p1 undef, a.tmps.getD p2 undef])) w) : bodyPostM F n P fn R .ret a w := by
  show LeavesInM F n P fn a.tmps R a.defers .returning w
  rw [hd]
  exact ⟨_, outs_many (rs := [.tmp p1, .tmp p2]) hr (by simp) (.tmp (.tmp .nil)), h⟩
theorem endM_tt {F : Fence} {n : Nat} {P : Program} {fn : Func} {R : Ending → World → Prop} {a : Act} {w : World} {p1 p2 : Tmp} {D : Nat} (hr : fn.results = #[.tmp p1, .tmp p2])
    (hd : a.defers = [{ target := .collected D, args := #[] }]) (hK : w.heap[D]? = some (.deferred (some [])))
    (h : R (.returned (.tuple #[a.tmps.getD p1 undef, a.tmps.getD p2 undef])) (w.putObj D (.deferred none))) : bodyPostM F n P fn R .ret a w := by
  show LeavesInM F n P fn a.tmps R a.defers .returning w
  rw [hd]
  refine ⟨by simp, .inl ⟨_, _, rfl, run_takeDeferred hK, ?_⟩⟩
  exact ⟨_, outs_many (rs := [.tmp p1, .tmp p2]) hr (by simp) (.tmp (.tmp .nil)), h⟩
theorem part_range {n m : Nat} {xs : List Dim} {cs : List Lk} (h : RT n m xs cs) (i : Nat) : -100000 ≤ (partL 1 xs cs).getD i 0 ∧ (partL 1 xs cs).getD i 0 ≤ 100000 := by
  by_cases hi : i < n
  · have := part_take h false m (Nat.le_refl _) i hi
    rw [show cs.take m = cs from by rw [← h.cl, List.take_length]] at this
    rw [show partL 1 xs cs = partL (signT false) xs cs from rfl, this]
    have hl := h.lims i hi
    unfold extV
    split <;> omega
  · rw [List.getD_eq_getElem?_getD, List.getElem?_eq_none (by rw [partL_len, h.xl]; omega)]
    simp
theorem take_range {xs : List Dim} {x : Lk} {left : Int} (hf : Fine xs x) (hl : 0 ≤ left) : takeI xs x left ≤ left ∧ -200000 ≤ takeI xs x left ∧ takeI xs x left ≤ 200000 := by
  obtain ⟨-, -, h1, h2, h3, h4⟩ := hf
  unfold takeI
  split <;> omega
theorem sgn_take {xs : List Dim} {x : Lk} {v : Int} (h : -200000 ≤ v ∧ v ≤ 200000) : -200000 ≤ sgn x * v ∧ sgn x * v ≤ 200000 := by
  unfold sgn; split <;> omega
theorem foldP_range {xs : List Dim} {Y X : Int} (s : List Int × Int) (h0 : 0 ≤ s.2 ∧ s.2 ≤ X) (hv : ∀ i, -Y ≤ s.1.getD i 0 ∧ s.1.getD i 0 ≤ Y) (hY : 0 ≤ Y) : ∀ (k : Nat) (cs : List Lk), cs.length = k → (∀ x ∈ cs, Fine xs x) →
    (0 ≤ (foldP xs cs s).2 ∧ (foldP xs cs s).2 ≤ X + 200000 * k) ∧ ∀ i, -(Y + 200000 * k) ≤ (foldP xs cs s).1.getD i 0 ∧ (foldP xs cs s).1.getD i 0 ≤ Y + 200000 * k := by
  intro k
  induction k with
  | zero => intro cs hl _; rw [List.length_eq_zero_iff.1 hl]; simpa [foldP] using ⟨h0, hv⟩
  | succ k ih =>
    intro cs hl hf
    rcases List.eq_nil_or_concat cs with h | ⟨ys, x, h⟩
    · rw [h] at hl; simp at hl
    · rw [List.concat_eq_append] at h
      subst h
      obtain ⟨⟨i1, i2⟩, i3⟩ := ih ys (by simpa using hl) (fun y hy => hf y (by simp [hy]))
      have hx := hf x (by simp)
      have ht := take_range hx i1
      have hs := sgn_take (xs := xs) (x := x) ht.2
      rw [foldP_snoc]
      refine ⟨⟨by dsimp only [stepP]; omega, by dsimp only [stepP]; omega⟩, fun i => ?_⟩
      dsimp only [stepP]
      by_cases he : x.dim.toNat = i
      · by_cases hlt : i < (foldP xs ys s).1.length
        · have := i3 i
          rw [he, List.getD_eq_getElem?_getD, List.getElem?_set_self hlt, Option.getD_some]
          omega
        · rw [List.getD_eq_getElem?_getD, List.getElem?_eq_none (by rw [List.length_set]; omega)]
          simp only [Option.getD_none]
          omega
      · have := i3 i
        rw [List.getD_eq_getElem?_getD, List.getElem?_set_ne he, ← List.getD_eq_getElem?_getD]
        omega
set_option maxRecDepth 20000 in
set_option maxHeartbeats 4000000 in
theorem spart_bad (sum : Int) (A B : Option Addr) (n m c c2 : Nat) (xs : List Dim) (cs : List Lk) (lo hi : Int) (w : World) (hx : Dims w A n xs) (hk : Lnks w B m cs) (E : Int) (h : taskE xs cs lo hi = E) (hE : (E != 0) = true) : Calls Try.prog 52 #[.agg #[.slice A n c, .slice B m c2, .int .i64 lo, .int .i64 hi], .int .i64 sum] w (Ret (.tuple #[.slice none 0 0, .int .i64 E]) w) := by
  have HX := Lib.hid hx
  have HK := Lib.hid hk
  have HOF := Lib.hid (fun w (h1 : Dims w A n xs) (h2 : Lnks w B m cs) => of_bad A B n m c c2 xs cs lo hi w h1 h2 E h hE)
  clear hx hk h
  refine (callsIn_wide (n := 3)).1 ?_
  refine callsIn_of_wp_marks Try.func52 rfl trivial ?_ rfl
  simp only [Try.ntmps52, List.size_toArray, List.length_cons, List.length_nil, Nat.reduceAdd, Nat.reduceSub, Array.replicate_succ, Array.replicate_zero, List.push_toArray, List.append_toArray, List.nil_append, List.cons_append]
  gi_wp2
  refine ⟨trivial, ?_⟩
  gi_at_call 91
  refine (callsIn_wide.2 (HOF.out _ (HX.out.ext (by (repeat (first | (with_reducible assumption) | with_reducible exact Ext.refl _ | with_reducible apply Ext.alloc | with_reducible apply Ext.drew | with_reducible apply Ext.drewN | ((with_reducible apply Ext.set); case hp => (first | (simp; done) | (dsimp only; omega) | omega)) | ((with_reducible apply Ext.trans); case k => with_reducible assumption))))) (HK.out.ext (by (repeat (first | (with_reducible assumption) | with_reducible exact Ext.refl _ | with_reducible apply Ext.alloc | with_reducible apply Ext.drew | with_reducible apply Ext.drewN | ((with_reducible apply Ext.set); case hp => (first | (simp; done) | (dsimp only; omega) | omega)) | ((with_reducible apply Ext.trans); case k => with_reducible assumption))))))).mono ?_
  rintro e w2 ⟨rfl, h2⟩
  gi_wp2
  refine endM_tt0 (p1 := 4) (p2 := 5) rfl rfl ?_
  exact Ret.mk' rfl (by (repeat (first | (with_reducible assumption) | with_reducible exact Ext.refl _ | with_reducible apply Ext.alloc | with_reducible apply Ext.drew | with_reducible apply Ext.drewN | ((with_reducible apply Ext.set); case hp => (first | (simp; done) | (dsimp only; omega) | omega)) | ((with_reducible apply Ext.trans); case k => with_reducible assumption))))
set_option maxRecDepth 20000 in
set_option maxHeartbeats 4000000 in
theorem spart_out (sum : Int) (A B : Option Addr) (n m c c2 : Nat) (xs : List Dim) (cs : List Lk) (lo hi : Int) (w : World) (hx : Dims w A n xs) (hk : Lnks w B m cs) (h : taskE xs cs lo hi = 0) (hsum : sum < endS 1 xs cs ∨ endS (-1) xs cs < sum) : Calls Try.prog 52 #[.agg #[.slice A n c, .slice B m c2, .int .i64 lo, .int .i64 hi], .int .i64 sum] w (Ret (.tuple #[.slice none 0 0, .int .i64 2]) w) := by
  have hrt := rt_of hx.len hk.len (taskE_zero h).1
  have hwant := chk_lims0 (taskE_zero h).2
  have HRT := Lib.hid hrt
  have HX := Lib.hid hx
  have HK := Lib.hid hk
  have HOF := Lib.hid (fun w (h1 : Dims w A n xs) (h2 : Lnks w B m cs) => of_ok A B n m c c2 xs cs lo hi w h1 h2 h)
  have HB := Lib.hid (fun w (h1 : Dims w A n xs) (h2 : Lnks w B m cs) => bounds_any A B n m c c2 xs cs lo hi w h1 h2 hrt.fine hrt.m256 hrt.m0)
  have hr1 := hrt.range 1
  have hr2 := hrt.range (-1)
  clear hx hk h hrt
  generalize endS 1 xs cs = b1 at *
  generalize endS (-1) xs cs = b2 at *
  have hcase : sum < b1 ∨ (b1 ≤ sum ∧ b2 < sum) := by omega
  rcases hcase with hc | hc
  all_goals
    refine (callsIn_wide (n := 3)).1 ?_
    refine callsIn_of_wp_marks Try.func52 rfl trivial ?_ rfl
    simp only [Try.ntmps52, List.size_toArray, List.length_cons, List.length_nil, Nat.reduceAdd, Nat.reduceSub, Array.replicate_succ, Array.replicate_zero, List.push_toArray, List.append_toArray, List.nil_append, List.cons_append]
    gi_wp2
    refine ⟨trivial, ?_⟩
    gi_at_call 91
    refine (callsIn_wide.2 (HOF.out _ (HX.out.ext (by (repeat (first | (with_reducible assumption) | with_reducible exact Ext.refl _ | with_reducible apply Ext.alloc | with_reducible apply Ext.drew | with_reducible apply Ext.drewN | ((with_reducible apply Ext.set); case hp => (first | (simp; done) | (dsimp only; omega) | omega)) | ((with_reducible apply Ext.trans); case k => with_reducible assumption))))) (HK.out.ext (by (repeat (first | (with_reducible assumption) | with_reducible exact Ext.refl _ | with_reducible apply Ext.alloc | with_reducible apply Ext.drew | with_reducible apply Ext.drewN | ((with_reducible apply Ext.set); case hp => (first | (simp; done) | (dsimp only; omega) | omega)) | ((with_reducible apply Ext.trans); case k => with_reducible assumption))))))).mono ?_
    rintro e w2 ⟨rfl, h2⟩
    have hs2 := Ext.size h2
    simp only [World.size_alloc] at hs2
    gi_wp2
    refine ⟨trivial, ?_⟩
    gi_at_call 92
    refine (callsIn_wide.2 (HB.out _ (HX.out.ext (by (repeat (first | (with_reducible assumption) | with_reducible exact Ext.refl _ | with_reducible apply Ext.alloc | with_reducible apply Ext.drew | with_reducible apply Ext.drewN | ((with_reducible apply Ext.set); case hp => (first | (simp; done) | (dsimp only; omega) | omega)) | ((with_reducible apply Ext.trans); case k => with_reducible assumption))))) (HK.out.ext (by (repeat (first | (with_reducible assumption) | with_reducible exact Ext.refl _ | with_reducible apply Ext.alloc | with_reducible apply Ext.drew | with_reducible apply Ext.drewN | ((with_reducible apply Ext.set); case hp => (first | (simp; done) | (dsimp only; omega) | omega)) | ((with_reducible apply Ext.trans); case k => with_reducible assumption))))))).mono ?_
    rintro e w3 ⟨rfl, h3⟩
    have hs3 := Ext.size h3
    simp only [World.size_alloc] at hs3
    gi_wp2
    refine endM_tt0 (p1 := 4) (p2 := 5) rfl rfl ?_
    exact Ret.mk' rfl (by (repeat (first | (with_reducible assumption) | with_reducible exact Ext.refl _ | with_reducible apply Ext.alloc | with_reducible apply Ext.drew | with_reducible apply Ext.drewN | ((with_reducible apply Ext.set); case hp => (first | (simp; done) | (dsimp only; omega) | omega)) | ((with_reducible apply Ext.trans); case k => with_reducible assumption))))
set_option maxRecDepth 20000 in
set_option maxHeartbeats 4000000 in
theorem spart_ok (sum : Int) (A B : Option Addr) (n m c c2 : Nat) (xs : List Dim) (cs : List Lk) (lo hi : Int) (w : World) (hx : Dims w A n xs) (hk : Lnks w B m cs) (h : taskE xs cs lo hi = 0) (hsum : endS 1 xs cs ≤ sum ∧ sum ≤ endS (-1) xs cs) : Calls Try.prog 52 #[.agg #[.slice A n c, .slice B m c2, .int .i64 lo, .int .i64 hi], .int .i64 sum] w (fun e w' => ∃ g cap cur, e = .returned (.tuple #[.slice (some ⟨g, 0, none⟩) n cap, .int .i64 0]) ∧ IRow w' w.heap.size g n cur (sumP xs cs (sum - endS 1 xs cs)) ∧ Ext w w') := by
  have hrt := rt_of hx.len hk.len (taskE_zero h).1
  have hwant := chk_lims0 (taskE_zero h).2
  have HRT := Lib.hid hrt
  have HX := Lib.hid hx
  have HK := Lib.hid hk
  have HOF := Lib.hid (fun w (h1 : Dims w A n xs) (h2 : Lnks w B m cs) => of_ok A B n m c c2 xs cs lo hi w h1 h2 h)
  have HB := Lib.hid (fun w (h1 : Dims w A n xs) (h2 : Lnks w B m cs) => bounds_any A B n m c c2 xs cs lo hi w h1 h2 hrt.fine hrt.m256 hrt.m0)
  have hr1 := hrt.range 1
  have hr2 := hrt.range (-1)
  have HP := Lib.hid (fun w (h1 : Dims w A n xs) (h2 : Lnks w B m cs) => part_any 1 0 (by simp) A B n m c c2 xs cs lo hi w h1 h2 hrt.fine hrt.m256 hrt.m0 (by have := hrt.n256; omega))
  have hpr := part_range hrt
  have HPR := Lib.hid hpr
  have hm256 := hrt.m256
  have hm0 := hrt.m0
  have hxl := hrt.xl
  have hn0 : 0 < n := by have := hrt.mem 0 hrt.m0; omega
  obtain ⟨bA, oA, rfl, hcA⟩ := hx.at_ hn0
  have HCA := Lib.hid hcA
  clear hpr hcA
  clear hx hk h hrt
  generalize hb1 : endS 1 xs cs = b1 at *
  generalize hb2 : endS (-1) xs cs = b2 at *
  refine (callsIn_wide (n := 3)).1 ?_
  refine callsIn_of_wp_marks Try.func52 rfl trivial ?_ rfl
  simp only [Try.ntmps52, List.size_toArray, List.length_cons, List.length_nil, Nat.reduceAdd, Nat.reduceSub, Array.replicate_succ, Array.replicate_zero, List.push_toArray, List.append_toArray, List.nil_append, List.cons_append]
  gi_wp2
  refine ⟨trivial, ?_⟩
  gi_at_call 91
  refine (callsIn_wide.2 (HOF.out _ (HX.out.ext (by (repeat (first | (with_reducible assumption) | with_reducible exact Ext.refl _ | with_reducible apply Ext.alloc | with_reducible apply Ext.drew | with_reducible apply Ext.drewN | ((with_reducible apply Ext.set); case hp => (first | (simp; done) | (dsimp only; omega) | omega)) | ((with_reducible apply Ext.trans); case k => with_reducible assumption))))) (HK.out.ext (by (repeat (first | (with_reducible assumption) | with_reducible exact Ext.refl _ | with_reducible apply Ext.alloc | with_reducible apply Ext.drew | with_reducible apply Ext.drewN | ((with_reducible apply Ext.set); case hp => (first | (simp; done) | (dsimp only; omega) | omega)) | ((with_reducible apply Ext.trans); case k => with_reducible assumption))))))).mono ?_
  rintro e w2 ⟨rfl, h2⟩
  have hs2 := Ext.size h2
  simp only [World.size_alloc] at hs2
  gi_wp2
  refine ⟨trivial, ?_⟩
  gi_at_call 92
  refine (callsIn_wide.2 (HB.out _ (HX.out.ext (by (repeat (first | (with_reducible assumption) | with_reducible exact Ext.refl _ | with_reducible apply Ext.alloc | with_reducible apply Ext.drew | with_reducible apply Ext.drewN | ((with_reducible apply Ext.set); case hp => (first | (simp; done) | (dsimp only; omega) | omega)) | ((with_reducible apply Ext.trans); case k => with_reducible assumption))))) (HK.out.ext (by (repeat (first | (with_reducible assumption) | with_reducible exact Ext.refl _ | with_reducible apply Ext.alloc | with_reducible apply Ext.drew | with_reducible apply Ext.drewN | ((with_reducible apply Ext.set); case hp => (first | (simp; done) | (dsimp only; omega) | omega)) | ((with_reducible apply Ext.trans); case k => with_reducible assumption))))))).mono ?_
  rintro e w3 ⟨rfl, h3⟩
  have hs3 := Ext.size h3
  simp only [World.size_alloc] at hs3
  have T3 : Blk w3 (w2.heap.size) #[.slice (some ⟨bA, oA, none⟩) n c, .slice B m c2, .int .i64 lo, .int .i64 hi, .func (.func 113) #[] #[], .func (.func 114) #[] #[]] 150 := by (repeat (first | (with_reducible assumption) | ((with_reducible apply Blk.new_at); focus (first | (simp; done) | (simp; omega))) | with_reducible apply Blk.alloc | with_reducible apply Blk.drew | with_reducible apply Blk.drewN | with_reducible apply Blk.set | ((with_reducible apply Blk.far); case hp => (first | (simp; done) | (dsimp only; omega))) | ((with_reducible apply Blk.ext); case he => with_reducible assumption)))
  have T3c0 := T3.cell 0
  have T3c1 := T3.cell 1
  have T3c2 := T3.cell 2
  have T3c3 := T3.cell 3
  have T3c4 := T3.cell 4
  have T3c5 := T3.cell 5
  simp at T3c0 T3c1 T3c2 T3c3 T3c4 T3c5
  have T3l := T3.lt
  gi_wp2
  refine ⟨trivial, ?_⟩
  gi_at_call 93
  refine (callsIn_wide.2 (HP.out _ (HX.out.ext (by (repeat (first | (with_reducible assumption) | with_reducible exact Ext.refl _ | with_reducible apply Ext.alloc | with_reducible apply Ext.drew | with_reducible apply Ext.drewN | ((with_reducible apply Ext.set); case hp => (first | (simp; done) | (dsimp only; omega) | omega)) | ((with_reducible apply Ext.trans); case k => with_reducible assumption))))) (HK.out.ext (by (repeat (first | (with_reducible assumption) | with_reducible exact Ext.refl _ | with_reducible apply Ext.alloc | with_reducible apply Ext.drew | with_reducible apply Ext.drewN | ((with_reducible apply Ext.set); case hp => (first | (simp; done) | (dsimp only; omega) | omega)) | ((with_reducible apply Ext.trans); case k => with_reducible assumption))))))).mono ?_
  rintro e w4 ⟨g, cap, cur, rfl, hI, h4⟩
  have hs4 := Ext.size h4
  simp only [World.size_alloc] at hs4 hI
  have T4 : Blk w4 (w2.heap.size) #[.slice (some ⟨bA, oA, none⟩) n c, .slice B m c2, .int .i64 lo, .int .i64 hi, .func (.func 113) #[] #[], .func (.func 114) #[] #[]] 150 := by (repeat (first | (with_reducible assumption) | ((with_reducible apply Blk.new_at); focus (first | (simp; done) | (simp; omega))) | with_reducible apply Blk.alloc | with_reducible apply Blk.drew | with_reducible apply Blk.drewN | with_reducible apply Blk.set | ((with_reducible apply Blk.far); case hp => (first | (simp; done) | (dsimp only; omega))) | ((with_reducible apply Blk.ext); case he => with_reducible assumption)))
  have T4c0 := T4.cell 0
  have T4c1 := T4.cell 1
  have T4c2 := T4.cell 2
  have T4c3 := T4.cell 3
  have T4c4 := T4.cell 4
  have T4c5 := T4.cell 5
  simp at T4c0 T4c1 T4c2 T4c3 T4c4 T4c5
  have T4l := T4.lt
  have X4 : Blk w4 (w3.heap.size) #[.int .i64 b1, .int .i64 b2] 23 := (by (repeat (first | (with_reducible assumption) | ((with_reducible apply Blk.new_at); focus (first | (simp; done) | (simp; omega))) | with_reducible apply Blk.alloc | with_reducible apply Blk.drew | with_reducible apply Blk.drewN | with_reducible apply Blk.set | ((with_reducible apply Blk.far); case hp => (first | (simp; done) | (dsimp only; omega))) | ((with_reducible apply Blk.ext); case he => with_reducible assumption)))); obtain ⟨X41, X42, X43, X44⟩ := X4.c2; have X45 := X4.lt
  have hd0 : 0 ≤ sum - b1 ∧ sum - b1 ≤ 60000000 := by omega
  gi_wp2
  refine ⟨trivial, ?_⟩
  gi_at_call 94
  refine (callsIn_wide.2 (links_any (some ⟨bA, oA, none⟩) B n m c c2 lo hi _ _ _)).mono ?_
  rintro e w5 ⟨rfl, rfl⟩
  gi_wp2
  have hge := hI.1
  have hgl := hI.lt
  obtain ⟨W0, hW0⟩ : ∃ W0, (((w4.alloc (.cells #[.slice (some ⟨g, 0, none⟩) n cap] 91)).alloc (.cells #[.int .i64 (sum - b1)] 3)).alloc (.cells #[.slice (some ⟨bA, oA, none⟩) n c, .slice B m c2, .int .i64 lo, .int .i64 hi, .func (.func 113) #[] #[], .func (.func 114) #[] #[]] 150)) = W0 := ⟨_, rfl⟩
  have bT : Blk W0 w2.heap.size #[.slice (some ⟨bA, oA, none⟩) n c, .slice B m c2, .int .i64 lo, .int .i64 hi, .func (.func 113) #[] #[], .func (.func 114) #[] #[]] 150 := by rw [← hW0]; (repeat (first | (with_reducible assumption) | ((with_reducible apply Blk.new_at); focus (first | (simp; done) | (simp; omega))) | with_reducible apply Blk.alloc | with_reducible apply Blk.drew | with_reducible apply Blk.drewN | with_reducible apply Blk.set | ((with_reducible apply Blk.far); case hp => (first | (simp; done) | (dsimp only; omega))) | ((with_reducible apply Blk.ext); case he => with_reducible assumption)))
  have bO : Blk W0 w4.heap.size #[.slice (some ⟨g, 0, none⟩) n cap] 91 := by rw [← hW0]; (repeat (first | (with_reducible assumption) | ((with_reducible apply Blk.new_at); focus (first | (simp; done) | (simp; omega))) | with_reducible apply Blk.alloc | with_reducible apply Blk.drew | with_reducible apply Blk.drewN | with_reducible apply Blk.set | ((with_reducible apply Blk.far); case hp => (first | (simp; done) | (dsimp only; omega))) | ((with_reducible apply Blk.ext); case he => with_reducible assumption)))
  have bF : Blk W0 (w4.heap.size + 1) #[.int .i64 (sum - b1)] 3 := by rw [← hW0]; (repeat (first | (with_reducible assumption) | ((with_reducible apply Blk.new_at); focus (first | (simp; done) | (simp; omega))) | with_reducible apply Blk.alloc | with_reducible apply Blk.drew | with_reducible apply Blk.drewN | with_reducible apply Blk.set | ((with_reducible apply Blk.far); case hp => (first | (simp; done) | (dsimp only; omega))) | ((with_reducible apply Blk.ext); case he => with_reducible assumption)))
  have bL : Blk W0 (w4.heap.size + 1 + 1) #[.slice (some ⟨bA, oA, none⟩) n c, .slice B m c2, .int .i64 lo, .int .i64 hi, .func (.func 113) #[] #[], .func (.func 114) #[] #[]] 150 := by rw [← hW0]; (repeat (first | (with_reducible assumption) | ((with_reducible apply Blk.new_at); focus (first | (simp; done) | (simp; omega))) | with_reducible apply Blk.alloc | with_reducible apply Blk.drew | with_reducible apply Blk.drewN | with_reducible apply Blk.set | ((with_reducible apply Blk.far); case hp => (first | (simp; done) | (dsimp only; omega))) | ((with_reducible apply Blk.ext); case he => with_reducible assumption)))
  have hw4 : Ext w w4 := by (repeat (first | (with_reducible assumption) | with_reducible exact Ext.refl _ | with_reducible apply Ext.alloc | with_reducible apply Ext.drew | with_reducible apply Ext.drewN | ((with_reducible apply Ext.set); case hp => (first | (simp; done) | (dsimp only; omega) | omega)) | ((with_reducible apply Ext.trans); case k => with_reducible assumption)))
  have bR : IRow W0 (w3.heap.size + 1) g n cur (partL 1 xs cs) := by rw [← hW0]; exact hI.ext ((((Ext.refl _).alloc _).alloc _).alloc _)
  have hE0 : Ext w W0 := by rw [← hW0]; exact ((hw4.alloc _).alloc _).alloc _
  have hsz : W0.heap.size = w4.heap.size + 3 := by rw [← hW0]; simp
  rw [hW0]
  clear hW0 hw4
  have hcl := bL.cell 1
  simp at hcl
  have hwl : w.heap.size ≤ w2.heap.size := by omega
  obtain ⟨f, hf⟩ : ∃ f : Nat → FK xs, ∀ j, j < m → (f j).1 = cs.getD j zeroK := ⟨fth ⟨_, HRT.out.fine 0 hm0⟩ cs, fun j hj => fth_val (HRT.out.fine j hj)⟩
  have hfp0 : (foldP xs [] (partL 1 xs cs, sum - b1)) = (partL 1 xs cs, sum - b1) := rfl
  refine wpIn_rangeFunc_ownH rfl (by decide) (gf := 115) (lb := #[.pointer (some ⟨w4.heap.size + 1 + 1, 0, none⟩)]) rfl trivial (enters_of Try.func115 (by kernel_rfl) rfl)
    (linksL_stops (fun x : FK xs => x.1) f Fence.wide (3 - 1) trivial rfl (by decide) (w4.heap.size + 1 + 1) w.heap.size m c2 B cs W0 (by omega) (by omega) hcl (fun h0 b o hA => HK.out.below h0 b o hA) (HK.out.ext hE0) hf) belowK_t (belowK_b (by omega)) (Below.refl _ _) (fun _ => rfl)
    (fun pre W => (((Blk W w2.heap.size #[.slice (some ⟨bA, oA, none⟩) n c, .slice B m c2, .int .i64 lo, .int .i64 hi, .func (.func 113) #[] #[], .func (.func 114) #[] #[]] 150 ∧ Blk W w4.heap.size #[.slice (some ⟨g, 0, none⟩) n cap] 91) ∧ Blk W (w4.heap.size + 1) #[.int .i64 (foldP xs (valsK pre) (partL 1 xs cs, sum - b1)).2] 3) ∧ (∃ cur, IRow W (w3.heap.size + 1) g n cur (foldP xs (valsK pre) (partL 1 xs cs, sum - b1)).1)) ∧ Below w.heap.size w W)
    (fun _ _ _ => False)
    (OwnFrom.and (OwnFrom.and (OwnFrom.and (OwnFrom.and (Own.from (blk_own _ _ _) _) (Own.from (blk_own _ _ _) _)) (Own.from (blk_own _ _ (fun pre : List (FK xs) => #[.int .i64 (foldP xs (valsK pre) (partL 1 xs cs, sum - b1)).2])) _)) (Own.from (irow_own _ _ _ (fun pre : List (FK xs) => (foldP xs (valsK pre) (partL 1 xs cs, sum - b1)).1)) _)) (ownFrom_below (Nat.le_refl _) (by omega)))
    (fun _ _ _ _ _ hs _ _ => hs)
    ⟨⟨⟨⟨bT, bO⟩, bF⟩, ⟨cur, bR⟩⟩, hE0⟩
    (fun x a' _ => a' = { tmps := #[.agg #[.slice (some ⟨bA, oA, none⟩) n c, .slice B m c2, .int .i64 lo, .int .i64 hi], .int .i64 sum, .pointer (some ⟨w.heap.size, 0, none⟩), undef, .slice none 0 0, .int .i64 0, .pointer (some ⟨w2.heap.size, 0, none⟩), .int .i64 0, .pointer (some ⟨w3.heap.size, 0, none⟩), .pointer (some ⟨w4.heap.size, 0, none⟩), .pointer (some ⟨w4.heap.size + 1, 0, none⟩), .int .i64 x.1.dim, .int .i64 (sgn x.1), undef, undef, .tuple #[.agg #[.slice (some ⟨bA, oA, none⟩) n c, .slice B m c2, .int .i64 lo, .int .i64 hi, .func (.func 113) #[] #[], .func (.func 114) #[] #[]], .int .i64 0], .agg #[.slice (some ⟨bA, oA, none⟩) n c, .slice B m c2, .int .i64 lo, .int .i64 hi], .tuple #[.agg #[.slice (some ⟨bA, oA, none⟩) n c, .slice B m c2, .int .i64 lo, .int .i64 hi, .func (.func 113) #[] #[], .func (.func 114) #[] #[]], .int .i64 0], .agg #[.slice (some ⟨bA, oA, none⟩) n c, .slice B m c2, .int .i64 lo, .int .i64 hi, .func (.func 113) #[] #[], .func (.func 114) #[] #[]], .int .i64 0, .int .i64 0, .bool false, undef, .agg #[.slice (some ⟨bA, oA, none⟩) n c, .slice B m c2, .int .i64 lo, .int .i64 hi, .func (.func 113) #[] #[], .func (.func 114) #[] #[]], .agg #[.int .i64 b1, .int .i64 b2], .int .i64 sum, .pointer (some ⟨w3.heap.size, 0, none⟩), .int .i64 b1, .bool (decide (sum < b1)), .bool (decide (sum < b1)), .int .i64 sum, .pointer (some ⟨w3.heap.size, 1, none⟩), .int .i64 b2, .bool (decide (b2 < sum)), .bool (decide (sum < b1) || decide (b2 < sum)), .agg #[.slice (some ⟨bA, oA, none⟩) n c, .slice B m c2, .int .i64 lo, .int .i64 hi, .func (.func 113) #[] #[], .func (.func 114) #[] #[]], .slice (some ⟨g, 0, none⟩) n cap, .int .i64 sum, .pointer (some ⟨w3.heap.size, 0, none⟩), .int .i64 b1, .int .i64 (sum - b1), .agg #[.slice (some ⟨bA, oA, none⟩) n c, .slice B m c2, .int .i64 lo, .int .i64 hi, .func (.func 113) #[] #[], .func (.func 114) #[] #[]], .func (.func 115) #[] #[.pointer (some ⟨w4.heap.size + 1 + 1, 0, none⟩)], .int .i64 x.1.dim, .int .i64 (sgn x.1), undef, undef, undef, undef, undef, undef, undef, undef, undef, undef, undef, undef, undef, undef, undef, undef, undef, undef, undef, undef, undef, undef, undef, undef, undef, undef, undef], defers := [] })
    (fun _ _ _ _ _ _ hs _ _ => hs)
    ?assign ?body ?done ?stop
  case assign =>
    rintro l pre x W K hi hK
    gi_wp2
    exact hK _ _ (KeepsFrom.refl _ _) (Below.refl _ _) hi rfl
  case body =>
    rintro l pre x a' W hl hr ⟨⟨⟨⟨qT, qO⟩, qF⟩, ⟨cur1, qRow⟩⟩, qB⟩ rfl hlt
    obtain ⟨⟨i, bk⟩, hfx⟩ := x
    have hfi := hfx
    obtain ⟨g0, g1, g2, g3, g4, g5⟩ := hfx
    dsimp only at g0 g1
    obtain ⟨p, rfl⟩ := Int.eq_ofNat_of_zero_le g0
    rw [hxl] at g1
    have hp : p < n := by omega
    obtain ⟨d, hd⟩ : ∃ d, xs.getD p zeroD = d := ⟨_, rfl⟩
    obtain ⟨-, -, -, a4, a5⟩ := Dims.cells HCA.out (show Ext w W from qB) p hp d hd
    obtain ⟨sg, hsg⟩ : ∃ v, sgn ⟨(p : Int), bk⟩ = v := ⟨_, rfl⟩
    have hsg1 : sg = 1 ∨ sg = -1 := by rw [← hsg]; unfold sgn; split <;> omega
    have hdk : dimK xs ⟨(p : Int), bk⟩ = d := by unfold dimK; rw [Int.toNat_natCast]; exact hd
    rw [hdk] at g2 g3 g4 g5
    have hfr := foldP_range (xs := xs) (Y := 100000) (X := 60000000) (partL 1 xs cs, sum - b1) hd0 HPR.out (by omega) (valsK pre).length (valsK pre) rfl (fun x hx => by
      simp only [valsK, List.mem_map] at hx
      obtain ⟨y, _, rfl⟩ := hx
      exact y.2)
    have hpl : (valsK pre).length = pre.length := by simp [valsK]
    have hn2 : foldP xs (valsK (pre ++ [⟨⟨(p : Int), bk⟩, hfi⟩])) (partL 1 xs cs, sum - b1) = stepP xs (foldP xs (valsK pre) (partL 1 xs cs, sum - b1)) ⟨(p : Int), bk⟩ := by
      rw [valsK_snoc, foldP_snoc]
    obtain ⟨⟨vs, left⟩, hPL⟩ : ∃ v, foldP xs (valsK pre) (partL 1 xs cs, sum - b1) = v := ⟨_, rfl⟩
    rw [hPL] at qRow qF hn2 hfr
    dsimp only at qRow qF hfr
    obtain ⟨⟨f1, f2⟩, f3⟩ := hfr
    have f4 := f3 p
    obtain ⟨v, hv⟩ : ∃ v, vs.getD p 0 = v := ⟨_, rfl⟩
    obtain ⟨rc, rf⟩ := qRow.cell hp
    rw [hv] at rc f4
    rw [hpl] at f2 f4
    have hTl := qT.lt
    have hOl := qO.lt
    have hFl := qF.lt
    have hgl2 := qRow.lt
    have hbl : bA < W.heap.size := World.block_lt_of_cell? W _ a4
    have hkb : KB w.heap.size W W := KB.refl (by omega)
    have o0 := qO.cell 0
    have t0 := qT.cell 0
    have l0 := qF.cell 0
    have l1 := qF.frozen 0
    simp at o0 t0 l0
    obtain ⟨D, hD⟩ : ∃ D, d.hi - d.lo = D := ⟨_, rfl⟩
    have hDr : -200000 ≤ D ∧ D ≤ 200000 := by omega
    have hti : takeI xs ⟨(p : Int), bk⟩ left = if D < left then D else left := by unfold takeI; rw [hdk, hD]
    have hst : ∀ by_, takeI xs ⟨(p : Int), bk⟩ left = by_ → stepP xs (vs, left) ⟨(p : Int), bk⟩ = (vs.set p (v + sg * by_), left - by_) := fun by_ hb => by
      unfold stepP
      dsimp only
      rw [hb, Int.toNat_natCast, hv, hsg]
    have HD := Lib.hid hd
    clear hd hdk hPL f3 hpl
    have hx3 : D < left ∨ left < D ∨ left = D := by omega
    rcases hx3 with hc | hc | hc
    · rw [if_pos hc] at hti
      obtain ⟨N, hN⟩ : ∃ N, v + sg * D = N := ⟨_, rfl⟩
      have hmr : -200000 ≤ sg * D ∧ sg * D ≤ 200000 := by rcases hsg1 with rfl | rfl <;> omega
      have HN := Lib.hid (And.intro (hn2.trans (hst _ hti)) hN)
      have w1 : IntKind.i64.wrap (sg * D) = sg * D := i64_in' (by omega)
      have w2' : IntKind.i64.wrap (v + sg * D) = N := by rw [← hN]; exact i64_in' (by omega)
      clear hn2 hst hti hN
      gi_wp2
      refine ⟨KB.keeps (B := w.heap.size) (by (repeat (first | (with_reducible assumption) | ((with_reducible apply KB.refl); (first | assumption | omega)) | with_reducible apply KB.alloc | with_reducible apply KB.drew | ((with_reducible apply KB.set); case hp => (first | (simp; done) | (dsimp only; omega) | omega)) | ((with_reducible apply KB.ext); case he => with_reducible assumption)))) (by omega), KB.below (by (repeat (first | (with_reducible assumption) | ((with_reducible apply KB.refl); (first | assumption | omega)) | with_reducible apply KB.alloc | with_reducible apply KB.drew | ((with_reducible apply KB.set); case hp => (first | (simp; done) | (dsimp only; omega) | omega)) | ((with_reducible apply KB.ext); case he => with_reducible assumption)))), ?_⟩
      have hP := qRow.put hp N
      have hP2 : IRow ((W.setCell ⟨g, p, none⟩ (.int .i64 N)).setCell ⟨w4.heap.size + 1, 0, none⟩ (.int .i64 (left - D))) (w3.heap.size + 1) g n (cur1.setIfInBounds p (.int .i64 N)) (vs.set p N) := ⟨hP.1, hP.2.1.far (p := ⟨w4.heap.size + 1, 0, none⟩) (by dsimp only; omega) _, hP.2.2⟩
      have hP3 := hP2.ext (Ext.alloc (Ext.refl _) (.cells #[.int .i64 d.lo, .int .i64 d.hi] 23))
      have e1 := HN.out.1
      have e2 := HN.out.2
      refine ⟨⟨⟨⟨?_, ?_⟩, ?_⟩, ?_⟩, ?_⟩
      · (repeat (first | (with_reducible assumption) | ((with_reducible apply Blk.new_at); focus (first | (simp; done) | (simp; omega))) | with_reducible apply Blk.alloc | with_reducible apply Blk.drew | with_reducible apply Blk.drewN | with_reducible apply Blk.set | ((with_reducible apply Blk.far); case hp => (first | (simp; done) | (dsimp only; omega))) | ((with_reducible apply Blk.ext); case he => with_reducible assumption)))
      · (repeat (first | (with_reducible assumption) | ((with_reducible apply Blk.new_at); focus (first | (simp; done) | (simp; omega))) | with_reducible apply Blk.alloc | with_reducible apply Blk.drew | with_reducible apply Blk.drewN | with_reducible apply Blk.set | ((with_reducible apply Blk.far); case hp => (first | (simp; done) | (dsimp only; omega))) | ((with_reducible apply Blk.ext); case he => with_reducible assumption)))
      · rw [e1]
        refine Blk.is (cs := #[.int .i64 (left - D)]) (by (apply Blk.is; (case h => (repeat (first | (with_reducible assumption) | ((with_reducible apply Blk.new_at); focus (first | (simp; done) | (simp; omega))) | with_reducible apply Blk.alloc | with_reducible apply Blk.drew | with_reducible apply Blk.drewN | with_reducible apply Blk.set | ((with_reducible apply Blk.far); case hp => (first | (simp; done) | (dsimp only; omega))) | ((with_reducible apply Blk.ext); case he => with_reducible assumption)))); all_goals rfl)) (by simp)
      · refine ⟨cur1.setIfInBounds p (.int .i64 N), ?_⟩
        rw [e1]
        dsimp only
        rw [e2]
        exact hP3
      · exact qB.trans (KB.below (by (repeat (first | (with_reducible assumption) | ((with_reducible apply KB.refl); (first | assumption | omega)) | with_reducible apply KB.alloc | with_reducible apply KB.drew | ((with_reducible apply KB.set); case hp => (first | (simp; done) | (dsimp only; omega) | omega)) | ((with_reducible apply KB.ext); case he => with_reducible assumption)))))
    · rw [if_neg (by omega)] at hti
      obtain ⟨N, hN⟩ : ∃ N, v + sg * left = N := ⟨_, rfl⟩
      have hmr : -200000 ≤ sg * left ∧ sg * left ≤ 200000 := by rcases hsg1 with rfl | rfl <;> omega
      have HN := Lib.hid (And.intro (hn2.trans (hst _ hti)) hN)
      have w1 : IntKind.i64.wrap (sg * left) = sg * left := i64_in' (by omega)
      have w2' : IntKind.i64.wrap (v + sg * left) = N := by rw [← hN]; exact i64_in' (by omega)
      clear hn2 hst hti hN
      gi_wp2
      refine ⟨KB.keeps (B := w.heap.size) (by (repeat (first | (with_reducible assumption) | ((with_reducible apply KB.refl); (first | assumption | omega)) | with_reducible apply KB.alloc | with_reducible apply KB.drew | ((with_reducible apply KB.set); case hp => (first | (simp; done) | (dsimp only; omega) | omega)) | ((with_reducible apply KB.ext); case he => with_reducible assumption)))) (by omega), KB.below (by (repeat (first | (with_reducible assumption) | ((with_reducible apply KB.refl); (first | assumption | omega)) | with_reducible apply KB.alloc | with_reducible apply KB.drew | ((with_reducible apply KB.set); case hp => (first | (simp; done) | (dsimp only; omega) | omega)) | ((with_reducible apply KB.ext); case he => with_reducible assumption)))), ?_⟩
      have hP := qRow.put hp N
      have hP2 : IRow ((W.setCell ⟨g, p, none⟩ (.int .i64 N)).setCell ⟨w4.heap.size + 1, 0, none⟩ (.int .i64 (0))) (w3.heap.size + 1) g n (cur1.setIfInBounds p (.int .i64 N)) (vs.set p N) := ⟨hP.1, hP.2.1.far (p := ⟨w4.heap.size + 1, 0, none⟩) (by dsimp only; omega) _, hP.2.2⟩
      have hP3 := hP2.ext (Ext.alloc (Ext.refl _) (.cells #[.int .i64 d.lo, .int .i64 d.hi] 23))
      have e1 := HN.out.1
      have e2 := HN.out.2
      refine ⟨⟨⟨⟨?_, ?_⟩, ?_⟩, ?_⟩, ?_⟩
      · (repeat (first | (with_reducible assumption) | ((with_reducible apply Blk.new_at); focus (first | (simp; done) | (simp; omega))) | with_reducible apply Blk.alloc | with_reducible apply Blk.drew | with_reducible apply Blk.drewN | with_reducible apply Blk.set | ((with_reducible apply Blk.far); case hp => (first | (simp; done) | (dsimp only; omega))) | ((with_reducible apply Blk.ext); case he => with_reducible assumption)))
      · (repeat (first | (with_reducible assumption) | ((with_reducible apply Blk.new_at); focus (first | (simp; done) | (simp; omega))) | with_reducible apply Blk.alloc | with_reducible apply Blk.drew | with_reducible apply Blk.drewN | with_reducible apply Blk.set | ((with_reducible apply Blk.far); case hp => (first | (simp; done) | (dsimp only; omega))) | ((with_reducible apply Blk.ext); case he => with_reducible assumption)))
      · rw [e1]
        refine Blk.is (cs := #[.int .i64 (0)]) (by (apply Blk.is; (case h => (repeat (first | (with_reducible assumption) | ((with_reducible apply Blk.new_at); focus (first | (simp; done) | (simp; omega))) | with_reducible apply Blk.alloc | with_reducible apply Blk.drew | with_reducible apply Blk.drewN | with_reducible apply Blk.set | ((with_reducible apply Blk.far); case hp => (first | (simp; done) | (dsimp only; omega))) | ((with_reducible apply Blk.ext); case he => with_reducible assumption)))); all_goals rfl)) (by simp)
      · refine ⟨cur1.setIfInBounds p (.int .i64 N), ?_⟩
        rw [e1]
        dsimp only
        rw [e2]
        exact hP3
      · exact qB.trans (KB.below (by (repeat (first | (with_reducible assumption) | ((with_reducible apply KB.refl); (first | assumption | omega)) | with_reducible apply KB.alloc | with_reducible apply KB.drew | ((with_reducible apply KB.set); case hp => (first | (simp; done) | (dsimp only; omega) | omega)) | ((with_reducible apply KB.ext); case he => with_reducible assumption)))))
    · rw [if_neg (by omega)] at hti
      subst hc
      obtain ⟨N, hN⟩ : ∃ N, v + sg * left = N := ⟨_, rfl⟩
      have hmr : -200000 ≤ sg * left ∧ sg * left ≤ 200000 := by rcases hsg1 with rfl | rfl <;> omega
      have HN := Lib.hid (And.intro (hn2.trans (hst _ hti)) hN)
      have w1 : IntKind.i64.wrap (sg * left) = sg * left := i64_in' (by omega)
      have w2' : IntKind.i64.wrap (v + sg * left) = N := by rw [← hN]; exact i64_in' (by omega)
      clear hn2 hst hti hN
      gi_wp2
      refine ⟨KB.keeps (B := w.heap.size) (by (repeat (first | (with_reducible assumption) | ((with_reducible apply KB.refl); (first | assumption | omega)) | with_reducible apply KB.alloc | with_reducible apply KB.drew | ((with_reducible apply KB.set); case hp => (first | (simp; done) | (dsimp only; omega) | omega)) | ((with_reducible apply KB.ext); case he => with_reducible assumption)))) (by omega), KB.below (by (repeat (first | (with_reducible assumption) | ((with_reducible apply KB.refl); (first | assumption | omega)) | with_reducible apply KB.alloc | with_reducible apply KB.drew | ((with_reducible apply KB.set); case hp => (first | (simp; done) | (dsimp only; omega) | omega)) | ((with_reducible apply KB.ext); case he => with_reducible assumption)))), ?_⟩
      have hP := qRow.put hp N
      have hP2 : IRow ((W.setCell ⟨g, p, none⟩ (.int .i64 N)).setCell ⟨w4.heap.size + 1, 0, none⟩ (.int .i64 (0))) (w3.heap.size + 1) g n (cur1.setIfInBounds p (.int .i64 N)) (vs.set p N) := ⟨hP.1, hP.2.1.far (p := ⟨w4.heap.size + 1, 0, none⟩) (by dsimp only; omega) _, hP.2.2⟩
      have hP3 := hP2.ext (Ext.alloc (Ext.refl _) (.cells #[.int .i64 d.lo, .int .i64 d.hi] 23))
      have e1 := HN.out.1
      have e2 := HN.out.2
      refine ⟨⟨⟨⟨?_, ?_⟩, ?_⟩, ?_⟩, ?_⟩
      · (repeat (first | (with_reducible assumption) | ((with_reducible apply Blk.new_at); focus (first | (simp; done) | (simp; omega))) | with_reducible apply Blk.alloc | with_reducible apply Blk.drew | with_reducible apply Blk.drewN | with_reducible apply Blk.set | ((with_reducible apply Blk.far); case hp => (first | (simp; done) | (dsimp only; omega))) | ((with_reducible apply Blk.ext); case he => with_reducible assumption)))
      · (repeat (first | (with_reducible assumption) | ((with_reducible apply Blk.new_at); focus (first | (simp; done) | (simp; omega))) | with_reducible apply Blk.alloc | with_reducible apply Blk.drew | with_reducible apply Blk.drewN | with_reducible apply Blk.set | ((with_reducible apply Blk.far); case hp => (first | (simp; done) | (dsimp only; omega))) | ((with_reducible apply Blk.ext); case he => with_reducible assumption)))
      · rw [e1]
        refine Blk.is (cs := #[.int .i64 (0)]) (by (apply Blk.is; (case h => (repeat (first | (with_reducible assumption) | ((with_reducible apply Blk.new_at); focus (first | (simp; done) | (simp; omega))) | with_reducible apply Blk.alloc | with_reducible apply Blk.drew | with_reducible apply Blk.drewN | with_reducible apply Blk.set | ((with_reducible apply Blk.far); case hp => (first | (simp; done) | (dsimp only; omega))) | ((with_reducible apply Blk.ext); case he => with_reducible assumption)))); all_goals rfl)) (by simp)
      · refine ⟨cur1.setIfInBounds p (.int .i64 N), ?_⟩
        rw [e1]
        dsimp only
        rw [e2]
        exact hP3
      · exact qB.trans (KB.below (by (repeat (first | (with_reducible assumption) | ((with_reducible apply KB.refl); (first | assumption | omega)) | with_reducible apply KB.alloc | with_reducible apply KB.drew | ((with_reducible apply KB.set); case hp => (first | (simp; done) | (dsimp only; omega) | omega)) | ((with_reducible apply KB.ext); case he => with_reducible assumption)))))
  case done =>
    rintro D ys W hD rfl ⟨⟨⟨⟨qT, qO⟩, qF⟩, ⟨cur1, qRow⟩⟩, qB⟩ hK
    have hv : valsK (upto f m) = cs := by
      rw [upto_valK HK.out.len f hf m (Nat.le_refl _), ← HK.out.len, List.take_length]
    rw [hv] at qRow
    have hOc := qO.cell 0
    have hOl := qO.lt
    have hgl2 := qRow.lt
    simp at hOc
    gi_wp2
    refine endM_tt (p1 := 4) (p2 := 5) rfl rfl hK ?_
    refine ⟨g, cap, cur1, rfl, ⟨by have := qRow.1; omega, qRow.2.1.putObj _ hK rfl, qRow.2.2⟩, ?_⟩
    exact qB.trans (belowK_b (w := w) (Nat.le_refl _) W D _ _ (by omega) hK rfl rfl)
  case stop =>
    rintro D c pre W _ _ h _
    exact h.elim
end Go.Proofs.Ytdcedfciaaooiaa
