/- The law DimensionTurns returns true at every input: the walk. -/
import Derived.Test.YtdcedfciaaooiaaF17
import Derived.Test.YtdcedfciaaooiaaQ17
import Derived.Test.YtdcedfciaaooiaaB17
import Derived.Test.YtdcedfciaaooiaaA5
set_option linter.unusedVariables false
namespace Go.Proofs.Ytdcedfciaaooiaa
open Go.RowKit Go.Shelf
attribute [local go_sem] Oper.semAt_some

theorem run_loadVar_bool {P : Program} (w : World) (g : Nat) (t ty : TypeId) (b : Bool) (hg : Blk w g #[.bool b] t) (hu : P.underlying ty = some .bool) : (loadVar ty ⟨g, 0, none⟩).run P w = .ok (.bool b) w := by
  have hc := hg.cell 0
  simp at hc
  have hagg : (isAgg ty).run P w = .ok false w := by
    unfold isAgg
    rw [Sem.run_bind, run_underlying hu w]
    rfl
  simp [loadVar, Sem.run_bind, hagg, hc]
theorem results_c {P : Program} {fn : Func} {tmps : Array Value} {w : World} {p1 : Tmp} {y1 : TypeId} {a1 : Addr} {v1 : Value} (hr : fn.results = #[.cell p1 y1])
    (e1 : tmps.getD p1 undef = .pointer (some a1)) (h1 : (loadVar y1 a1).run P w = .ok v1 w) : (results fn tmps).run P w = .ok v1 w := by
  unfold results
  rw [show fn.results = [.cell p1 y1].toArray from hr, List.mapM_toArray]
  simp only [Sem.run_bind, Sem.run_map, List.mapM_cons, List.mapM_nil]
  simp [e1, asAddr, h1]
theorem endM_0 {F : Fence} {n : Nat} {P : Program} {fn : Func} {R : Ending → World → Prop} {a : Act} {w : World} {p1 : Tmp} {y1 t1 : TypeId} {g1 : Nat} {b : Bool} (hr : fn.results = #[.cell p1 y1])
    (hd : a.defers = []) (e1 : a.tmps.getD p1 undef = .pointer (some ⟨g1, 0, none⟩)) (h1 : Blk w g1 #[.bool b] t1) (hu : P.underlying y1 = some .bool)
    (h : R (.returned (.bool b)) w) : bodyPostM F n P fn R .ret a w := by
  show LeavesInM F n P fn a.tmps R a.defers .returning w
  rw [hd]
  exact ⟨_, results_c hr e1 (run_loadVar_bool _ g1 t1 y1 b h1 hu), h⟩
theorem endM_1 {F : Fence} {n : Nat} {P : Program} {fn : Func} {R : Ending → World → Prop} {a : Act} {w : World} {p1 : Tmp} {y1 t1 : TypeId} {D g1 : Nat} {b : Bool} (hr : fn.results = #[.cell p1 y1])
    (hd : a.defers = [{ target := .collected D, args := #[] }]) (hK : w.heap[D]? = some (.deferred (some []))) (e1 : a.tmps.getD p1 undef = .pointer (some ⟨g1, 0, none⟩)) (h1 : Blk w g1 #[.bool b] t1) (hu : P.underlying y1 = some .bool)
    (h : R (.returned (.bool b)) (w.putObj D (.deferred none))) : bodyPostM F n P fn R .ret a w := by
  show LeavesInM F n P fn a.tmps R a.defers .returning w
  rw [hd]
  refine ⟨by simp, .inl ⟨_, _, rfl, run_takeDeferred hK, ?_⟩⟩
  exact ⟨_, results_c hr e1 (run_loadVar_bool _ g1 t1 y1 b (h1.putObj _ hK rfl) hu), h⟩

theorem pathD_fits {xs : List Dim} (h : ∀ y ∈ xs, y.fits) : (pathD xs).fits := by
  unfold pathD
  split
  · exact zeroF.2
  · exact stL_fits _ h
theorem endM_b {F : Fence} {n : Nat} {P : Program} {fn : Func} {a : Act} {w W' wf : World} {p1 : Tmp} {y1 t1 : TypeId} {D g1 : Nat} {b : Bool} (hr : fn.results = #[.cell p1 y1])
    (hd : a.defers = [{ target := .collected D, args := #[] }]) (hKB : KB w.heap.size W' wf) (hK : W'.heap[D]? = some (.deferred (some []))) (hD : w.heap.size ≤ D) (hWW : Ext w W') (e1 : a.tmps.getD p1 undef = .pointer (some ⟨g1, 0, none⟩)) (h1 : Blk wf g1 #[.bool b] t1) (hu : P.underlying y1 = some .bool) :
    bodyPostM F n P fn (Ret (.bool b) w) .ret a wf := by
  have hK' := (hKB.keeps (Nat.le_refl _)).same D _ hD hK rfl
  refine endM_1 hr hd hK' e1 h1 hu ⟨rfl, ?_⟩
  exact (Below.trans hWW hKB.below).trans (belowK_b (w := w) (Nat.le_refl _) wf D _ _ hD hK' rfl rfl)

abbrev VD := { d : Dim // d.fits ∧ validE d = 0 }
open Classical in
noncomputable def vth (d0 : VD) (xs : List Dim) (k : Nat) : VD := if h : (xs.getD k zeroD).fits ∧ validE (xs.getD k zeroD) = 0 then ⟨xs.getD k zeroD, h⟩ else d0
theorem vth_val {d0 : VD} {xs : List Dim} {k : Nat} (h : (xs.getD k zeroD).fits ∧ validE (xs.getD k zeroD) = 0) : (vth d0 xs k).1 = xs.getD k zeroD := by unfold vth; rw [dif_pos h]
def turned (pre : List (Nat × VD)) : List Dim := pre.map (fun x => turnD x.2.1)
theorem turned_snoc (pre : List (Nat × VD)) (x : Nat × VD) : turned (pre ++ [x]) = turned pre ++ [turnD x.2.1] := by simp [turned]
theorem turned_len (pre : List (Nat × VD)) : (turned pre).length = pre.length := by simp [turned]
theorem turned_fits (pre : List (Nat × VD)) : ∀ y ∈ turned pre, y.fits := by
  intro y hy
  simp only [turned, List.mem_map] at hy
  obtain ⟨x, _, rfl⟩ := hy
  exact ⟨x.2.2.1.2, x.2.2.1.1⟩
theorem turned_all {xs : List Dim} {n : Nat} (hn : xs.length = n) (f : Nat → VD) (hf : ∀ j, j < n → (f j).1 = xs.getD j zeroD) : turned (upto (backF f n) n) = (xs.map turnD).reverse := by
  apply List.ext_getElem
  · simp [turned, upto, hn]
  · intro k h1 h2
    have hk : k < n := by simpa [turned, upto] using h1
    have e : n - 1 - k < xs.length := by omega
    simp only [turned, upto, backF, List.getElem_map, List.getElem_range, List.getElem_reverse, List.length_map]
    rw [hf _ (by omega)]
    congr 1
    rw [List.getD_eq_getElem?_getD, List.getElem?_eq_getElem e]
    simp [hn]

set_option maxRecDepth 100000 in
set_option maxHeartbeats 8000000 in
theorem law_turns (A : Option Addr) (n c : Nat) (at_ : Int) (xs : List Dim) (w : World) (hx : Dims w A n xs) (hnc : n ≤ c) (hat : 0 ≤ at_ ∧ at_ ≤ 255) : Calls Try.prog 11 #[.slice A n c, .int .u8 at_] w (Ret (.bool true) w) := by
  obtain ⟨W, hW⟩ : ∃ W, pathD xs = W := ⟨_, rfl⟩
  obtain ⟨E, hE⟩ : ∃ E, pathE xs = E := ⟨_, rfl⟩
  have HX := Lib.hid hx
  have HP : Hid (∀ w', Dims w' A n xs → Calls Try.prog 46 #[.slice A n c] w' (Ret (.tuple #[.agg #[.string W.frm, .string W.to, .int .i64 W.axis, .int .i64 W.lo, .int .i64 W.hi], .int .i64 E]) w')) := Lib.hid (fun w' h => by have := path_any A n c xs w' h; rwa [hW, hE] at this)
  have HW := Lib.hid hW
  have HE := Lib.hid hE
  clear hx hW hE
  refine (callsIn_wide (n := 3)).1 ?_
  refine callsIn_of_wp_marks Try.func11 rfl trivial ?_ rfl
  simp only [Try.ntmps11, List.size_toArray, List.length_cons, List.length_nil, Nat.reduceAdd, Nat.reduceSub, Array.replicate_succ, Array.replicate_zero, List.push_toArray, List.append_toArray, List.nil_append, List.cons_append]
  gi_wp2
  refine ⟨trivial, ?_⟩
  gi_at_call 26
  refine (callsIn_wide.2 (few17_any _ _ _ xs _ (HX.out.ext (by (repeat (first | (with_reducible assumption) | with_reducible exact Ext.refl _ | with_reducible apply Ext.alloc | with_reducible apply Ext.drew | with_reducible apply Ext.drewN | ((with_reducible apply Ext.set); case hp => (first | (simp; done) | (dsimp only; omega) | omega)) | ((with_reducible apply Ext.trans); case k => with_reducible assumption))))))).mono ?_
  rintro e w1 ⟨x, rfl, h1⟩
  have q1 : Blk w1 w.heap.size #[.bool false] 4 := by (repeat (first | (with_reducible assumption) | ((with_reducible apply Blk.new_at); focus (first | (simp; done) | (simp; omega))) | with_reducible apply Blk.alloc | with_reducible apply Blk.drew | with_reducible apply Blk.drewN | with_reducible apply Blk.set | ((with_reducible apply Blk.far); case hp => (first | (simp; done) | (dsimp only; omega))) | ((with_reducible apply Blk.ext); case he => with_reducible assumption)))
  obtain ⟨f1, f2⟩ := q1.c1
  have f3 := q1.lt
  cases x
  · gi_wp2; refine ⟨trivial, ?_⟩; gi_at_call 15; refine (callsIn_wide.2 (awake17_any _)).mono ?_; rintro e w2 ⟨rfl, h2⟩
    have q2 : Blk w2 (w.heap.size) #[.bool false] 4 := (by (repeat (first | (with_reducible assumption) | ((with_reducible apply Blk.new_at); focus (first | (simp; done) | (simp; omega))) | with_reducible apply Blk.alloc | with_reducible apply Blk.drew | with_reducible apply Blk.drewN | with_reducible apply Blk.set | ((with_reducible apply Blk.far); case hp => (first | (simp; done) | (dsimp only; omega))) | ((with_reducible apply Blk.ext); case he => with_reducible assumption)))); obtain ⟨q21, q22⟩ := q2.c1; have q2lt := q2.lt
    gi_wp2
    refine endM_0 (b := true) rfl rfl rfl (by (apply Blk.is; (case h => (repeat (first | (with_reducible assumption) | ((with_reducible apply Blk.new_at); focus (first | (simp; done) | (simp; omega))) | with_reducible apply Blk.alloc | with_reducible apply Blk.drew | with_reducible apply Blk.drewN | with_reducible apply Blk.set | ((with_reducible apply Blk.far); case hp => (first | (simp; done) | (dsimp only; omega))) | ((with_reducible apply Blk.ext); case he => with_reducible assumption)))); all_goals rfl)) Try.underlying4 ?_
    exact ⟨rfl, by (repeat (first | (with_reducible assumption) | with_reducible exact Ext.refl _ | with_reducible apply Ext.alloc | with_reducible apply Ext.drew | with_reducible apply Ext.drewN | ((with_reducible apply Ext.set); case hp => (first | (simp; done) | (dsimp only; omega) | omega)) | ((with_reducible apply Ext.trans); case k => with_reducible assumption)))⟩
  by_cases hn2 : n < 2
  · gi_wp2; refine ⟨trivial, ?_⟩; gi_at_call 15; refine (callsIn_wide.2 (awake17_any _)).mono ?_; rintro e w2 ⟨rfl, h2⟩
    have q2 : Blk w2 (w.heap.size) #[.bool false] 4 := (by (repeat (first | (with_reducible assumption) | ((with_reducible apply Blk.new_at); focus (first | (simp; done) | (simp; omega))) | with_reducible apply Blk.alloc | with_reducible apply Blk.drew | with_reducible apply Blk.drewN | with_reducible apply Blk.set | ((with_reducible apply Blk.far); case hp => (first | (simp; done) | (dsimp only; omega))) | ((with_reducible apply Blk.ext); case he => with_reducible assumption)))); obtain ⟨q21, q22⟩ := q2.c1; have q2lt := q2.lt
    gi_wp2
    refine endM_0 (b := true) rfl rfl rfl (by (apply Blk.is; (case h => (repeat (first | (with_reducible assumption) | ((with_reducible apply Blk.new_at); focus (first | (simp; done) | (simp; omega))) | with_reducible apply Blk.alloc | with_reducible apply Blk.drew | with_reducible apply Blk.drewN | with_reducible apply Blk.set | ((with_reducible apply Blk.far); case hp => (first | (simp; done) | (dsimp only; omega))) | ((with_reducible apply Blk.ext); case he => with_reducible assumption)))); all_goals rfl)) Try.underlying4 ?_
    exact ⟨rfl, by (repeat (first | (with_reducible assumption) | with_reducible exact Ext.refl _ | with_reducible apply Ext.alloc | with_reducible apply Ext.drew | with_reducible apply Ext.drewN | ((with_reducible apply Ext.set); case hp => (first | (simp; done) | (dsimp only; omega) | omega)) | ((with_reducible apply Ext.trans); case k => with_reducible assumption)))⟩
  by_cases hn10 : 10 < n
  · gi_wp2; refine ⟨trivial, ?_⟩; gi_at_call 15; refine (callsIn_wide.2 (awake17_any _)).mono ?_; rintro e w2 ⟨rfl, h2⟩
    have q2 : Blk w2 (w.heap.size) #[.bool false] 4 := (by (repeat (first | (with_reducible assumption) | ((with_reducible apply Blk.new_at); focus (first | (simp; done) | (simp; omega))) | with_reducible apply Blk.alloc | with_reducible apply Blk.drew | with_reducible apply Blk.drewN | with_reducible apply Blk.set | ((with_reducible apply Blk.far); case hp => (first | (simp; done) | (dsimp only; omega))) | ((with_reducible apply Blk.ext); case he => with_reducible assumption)))); obtain ⟨q21, q22⟩ := q2.c1; have q2lt := q2.lt
    gi_wp2
    refine endM_0 (b := true) rfl rfl rfl (by (apply Blk.is; (case h => (repeat (first | (with_reducible assumption) | ((with_reducible apply Blk.new_at); focus (first | (simp; done) | (simp; omega))) | with_reducible apply Blk.alloc | with_reducible apply Blk.drew | with_reducible apply Blk.drewN | with_reducible apply Blk.set | ((with_reducible apply Blk.far); case hp => (first | (simp; done) | (dsimp only; omega))) | ((with_reducible apply Blk.ext); case he => with_reducible assumption)))); all_goals rfl)) Try.underlying4 ?_
    exact ⟨rfl, by (repeat (first | (with_reducible assumption) | with_reducible exact Ext.refl _ | with_reducible apply Ext.alloc | with_reducible apply Ext.drew | with_reducible apply Ext.drewN | ((with_reducible apply Ext.set); case hp => (first | (simp; done) | (dsimp only; omega) | omega)) | ((with_reducible apply Ext.trans); case k => with_reducible assumption)))⟩
  cases hE0 : E != 0
  case true =>
    gi_wp2; refine ⟨trivial, ?_⟩; gi_at_call 46; refine (callsIn_wide.2 (HP.out _ (HX.out.ext (by (repeat (first | (with_reducible assumption) | with_reducible exact Ext.refl _ | with_reducible apply Ext.alloc | with_reducible apply Ext.drew | with_reducible apply Ext.drewN | ((with_reducible apply Ext.set); case hp => (first | (simp; done) | (dsimp only; omega) | omega)) | ((with_reducible apply Ext.trans); case k => with_reducible assumption))))))).mono ?_; rintro e w2 ⟨rfl, h2⟩
    gi_wp2; refine ⟨trivial, ?_⟩; gi_at_call 15; refine (callsIn_wide.2 (awake17_any _)).mono ?_; rintro e w3 ⟨rfl, h3⟩
    have q3 : Blk w3 (w.heap.size) #[.bool false] 4 := (by (repeat (first | (with_reducible assumption) | ((with_reducible apply Blk.new_at); focus (first | (simp; done) | (simp; omega))) | with_reducible apply Blk.alloc | with_reducible apply Blk.drew | with_reducible apply Blk.drewN | with_reducible apply Blk.set | ((with_reducible apply Blk.far); case hp => (first | (simp; done) | (dsimp only; omega))) | ((with_reducible apply Blk.ext); case he => with_reducible assumption)))); obtain ⟨q31, q32⟩ := q3.c1; have q3lt := q3.lt
    gi_wp2
    refine endM_0 (b := true) rfl rfl rfl (by (apply Blk.is; (case h => (repeat (first | (with_reducible assumption) | ((with_reducible apply Blk.new_at); focus (first | (simp; done) | (simp; omega))) | with_reducible apply Blk.alloc | with_reducible apply Blk.drew | with_reducible apply Blk.drewN | with_reducible apply Blk.set | ((with_reducible apply Blk.far); case hp => (first | (simp; done) | (dsimp only; omega))) | ((with_reducible apply Blk.ext); case he => with_reducible assumption)))); all_goals rfl)) Try.underlying4 ?_
    exact ⟨rfl, by (repeat (first | (with_reducible assumption) | with_reducible exact Ext.refl _ | with_reducible apply Ext.alloc | with_reducible apply Ext.drew | with_reducible apply Ext.drewN | ((with_reducible apply Ext.set); case hp => (first | (simp; done) | (dsimp only; omega) | omega)) | ((with_reducible apply Ext.trans); case k => with_reducible assumption)))⟩
  have hp : pathE xs = 0 := HE.out.trans (by simpa using hE0)
  obtain rfl : E = 0 := by simpa using hE0
  have HP0 := Lib.hid hp
  clear hp
  obtain ⟨b, o, hAA, -⟩ := HX.out.at_ (by omega)
  subst hAA
  gi_wp2; refine ⟨trivial, ?_⟩; gi_at_call 46; refine (callsIn_wide.2 (HP.out _ (HX.out.ext (by (repeat (first | (with_reducible assumption) | with_reducible exact Ext.refl _ | with_reducible apply Ext.alloc | with_reducible apply Ext.drew | with_reducible apply Ext.drewN | ((with_reducible apply Ext.set); case hp => (first | (simp; done) | (dsimp only; omega) | omega)) | ((with_reducible apply Ext.trans); case k => with_reducible assumption))))))).mono ?_; rintro e w2 ⟨rfl, h2⟩
  gi_wp2
  refine ⟨trivial, ?_⟩
  gi_at_call 48
  refine (callsIn_wide.2 (back_any (some ⟨b, o, none⟩) n c _)).mono ?_
  rintro e w3 ⟨rfl, rfl⟩
  gi_wp2
  obtain ⟨hval, hne, hch, hst, hWv⟩ := path_ok HP0.out
  have hmem : ∀ j, j < n → xs.getD j zeroD ∈ xs := fun j hj => by
    rw [List.getD_eq_getElem?_getD, List.getElem?_eq_getElem (by rw [HX.out.len]; exact hj)]
    exact List.getElem_mem _
  have hok : ∀ j, j < n → (xs.getD j zeroD).fits ∧ validE (xs.getD j zeroD) = 0 := fun j hj => ⟨HX.out.fit j hj, hval _ (hmem j hj)⟩
  obtain ⟨d0, hd0⟩ : ∃ d0 : VD, d0.1 = xs.getD 0 zeroD := ⟨⟨_, hok 0 (by omega)⟩, rfl⟩
  obtain ⟨f, hf⟩ : ∃ f : Nat → VD, ∀ j, j < n → (f j).1 = xs.getD j zeroD := ⟨vth d0 xs, fun j hj => vth_val (hok j hj)⟩
  obtain ⟨W0, hW0⟩ : ∃ W0, (((w2.alloc (.cells #[.string W.frm, .string W.to, .int .i64 W.axis, .int .i64 W.lo, .int .i64 W.hi] 40)).alloc (.cells #[.slice none 0 0] 42)).alloc (.cells #[.slice (some ⟨b, o, none⟩) n c] 42)) = W0 := ⟨_, rfl⟩
  have b5 : Blk W0 w2.heap.size #[.string W.frm, .string W.to, .int .i64 W.axis, .int .i64 W.lo, .int .i64 W.hi] 40 := by rw [← hW0]; (repeat (first | (with_reducible assumption) | ((with_reducible apply Blk.new_at); focus (first | (simp; done) | (simp; omega))) | with_reducible apply Blk.alloc | with_reducible apply Blk.drew | with_reducible apply Blk.drewN | with_reducible apply Blk.set | ((with_reducible apply Blk.far); case hp => (first | (simp; done) | (dsimp only; omega))) | ((with_reducible apply Blk.ext); case he => with_reducible assumption)))
  have b7 : Blk W0 (w2.heap.size + 1) #[.slice none 0 0] 42 := by rw [← hW0]; (repeat (first | (with_reducible assumption) | ((with_reducible apply Blk.new_at); focus (first | (simp; done) | (simp; omega))) | with_reducible apply Blk.alloc | with_reducible apply Blk.drew | with_reducible apply Blk.drewN | with_reducible apply Blk.set | ((with_reducible apply Blk.far); case hp => (first | (simp; done) | (dsimp only; omega))) | ((with_reducible apply Blk.ext); case he => with_reducible assumption)))
  have bB : Blk W0 (w2.heap.size + 1 + 1) #[.slice (some ⟨b, o, none⟩) n c] 42 := by rw [← hW0]; (repeat (first | (with_reducible assumption) | ((with_reducible apply Blk.new_at); focus (first | (simp; done) | (simp; omega))) | with_reducible apply Blk.alloc | with_reducible apply Blk.drew | with_reducible apply Blk.drewN | with_reducible apply Blk.set | ((with_reducible apply Blk.far); case hp => (first | (simp; done) | (dsimp only; omega))) | ((with_reducible apply Blk.ext); case he => with_reducible assumption)))
  have bR : Blk W0 w.heap.size #[.bool false] 4 := by rw [← hW0]; (repeat (first | (with_reducible assumption) | ((with_reducible apply Blk.new_at); focus (first | (simp; done) | (simp; omega))) | with_reducible apply Blk.alloc | with_reducible apply Blk.drew | with_reducible apply Blk.drewN | with_reducible apply Blk.set | ((with_reducible apply Blk.far); case hp => (first | (simp; done) | (dsimp only; omega))) | ((with_reducible apply Blk.ext); case he => with_reducible assumption)))
  have hE0' : Ext w W0 := by rw [← hW0]; (repeat (first | (with_reducible assumption) | with_reducible exact Ext.refl _ | with_reducible apply Ext.alloc | with_reducible apply Ext.drew | with_reducible apply Ext.drewN | ((with_reducible apply Ext.set); case hp => (first | (simp; done) | (dsimp only; omega) | omega)) | ((with_reducible apply Ext.trans); case k => with_reducible assumption)))
  have hsz : W0.heap.size = w2.heap.size + 3 := by rw [← hW0]; simp
  have hs2 : w.heap.size < w2.heap.size := by have := h2.size; omega
  rw [hW0]
  clear hW0
  have HCH := Lib.hid hch
  have HVAL := Lib.hid hval
  have HF := Lib.hid hf
  clear hch hval hst hf hok hmem
  refine wpIn_rangeFunc_ownH rfl (by decide) (gf := 88) (lb := #[.pointer (some ⟨w2.heap.size + 1 + 1, 0, none⟩)]) rfl trivial (enters_of Try.func88 (by kernel_rfl) rfl)
    (backD_stops (fun d : VD => d.1) f Fence.wide (3 - 1) trivial rfl (by decide) (w2.heap.size + 1 + 1) (w2.heap.size + 1) n c (some ⟨b, o, none⟩) xs W0 (by omega) (Blk.r1 bB) (fun h b' o' hA => by have := HX.out.below h b' o' hA; omega) (HX.out.ext hE0') HF.out) kpB_t (kpB_b (by omega) (by omega)) (Below.refl _ _) (fun _ => rfl)
    (fun pre W => ((∃ v, Boxed W (w2.heap.size + 1) 42 v ∧ W.ownsRow (w2.heap.size + 1) 40 5 v pre.length (flatD (turned pre)) ∧ True) ∧ Blk W (w2.heap.size + 1 + 1) #[.slice (some ⟨b, o, none⟩) n c] 42) ∧ Below (w2.heap.size + 1) W0 W)
    (fun _ _ _ => False)
    (OwnFrom.and (OwnFrom.and (Own.from (holdsRow_own (w2.heap.size + 1) (w2.heap.size + 1) 42 40 5 (fun pre : List (Nat × VD) => pre.length) (fun pre => flatD (turned pre)) (fun _ _ => True)) _) (Own.from (blk_own _ _ _) _)) (ownFrom_below (by omega) (by omega)))
    (fun _ _ _ _ _ hs _ _ => hs)
    ⟨⟨⟨_, b7, World.ownsRow_nil _ _ _ _, trivial⟩, bB⟩, Below.refl _ _⟩
    (fun x a' W' => ∃ Bx, w2.heap.size + 3 ≤ Bx ∧ Blk W' Bx #[.string x.2.1.frm, .string x.2.1.to, .int .i64 x.2.1.axis, .int .i64 x.2.1.lo, .int .i64 x.2.1.hi] 40 ∧ a' = { tmps := #[.slice (some ⟨b, o, none⟩) n c, .int .u8 at_, undef, undef, .pointer (some ⟨w.heap.size, 0, none⟩), .pointer (some ⟨w2.heap.size, 0, none⟩), .int .i64 0, .pointer (some ⟨w2.heap.size + 1, 0, none⟩), undef, .pointer (some ⟨Bx, 0, none⟩), undef, undef, undef, undef, undef, undef, undef, undef, undef, undef, undef, .slice (some ⟨b, o, none⟩) n c, .bool true, .bool false, .bool false, .slice (some ⟨b, o, none⟩) n c, .int .i64 ((n : Nat) : Int), .bool (decide (((n : Nat) : Int) < 2)), .bool (decide (((n : Nat) : Int) < 2)), .bool (decide (((n : Nat) : Int) < 2)), .slice (some ⟨b, o, none⟩) n c, .int .i64 ((n : Nat) : Int), .bool (decide (10 < ((n : Nat) : Int))), .bool (decide (((n : Nat) : Int) < 2) || decide (10 < ((n : Nat) : Int))), undef, .tuple #[.agg #[.string W.frm, .string W.to, .int .i64 W.axis, .int .i64 W.lo, .int .i64 W.hi], .int .i64 0], .slice (some ⟨b, o, none⟩) n c, .tuple #[.agg #[.string W.frm, .string W.to, .int .i64 W.axis, .int .i64 W.lo, .int .i64 W.hi], .int .i64 0], .agg #[.string W.frm, .string W.to, .int .i64 W.axis, .int .i64 W.lo, .int .i64 W.hi], .int .i64 0, .int .i64 0, .bool false, undef, .slice (some ⟨b, o, none⟩) n c, .func (.func 88) #[] #[.pointer (some ⟨w2.heap.size + 1 + 1, 0, none⟩)], .int .i64 ((x.1 : Nat) : Int), .agg #[.string x.2.1.frm, .string x.2.1.to, .int .i64 x.2.1.axis, .int .i64 x.2.1.lo, .int .i64 x.2.1.hi], undef, undef, undef, undef, undef, undef, undef, undef, undef, undef, undef, undef, undef, undef, undef, undef, undef, undef, undef, undef, undef, undef, undef, undef, undef, undef, undef, undef, undef, undef, undef, undef, undef, undef, undef, undef, undef, undef, undef, undef, undef, undef, undef, undef, undef, undef, undef, undef, undef, undef, undef, undef, undef, undef, undef, undef, undef, undef, undef, undef, undef, undef, undef, undef, undef, undef, undef, undef, undef, undef, undef, undef, undef, undef, undef, undef, undef, undef, undef, undef, undef, undef, undef, undef, undef, undef, undef, undef, undef, undef, undef, undef, undef, undef, undef, undef, undef, undef, undef, undef, undef, undef, undef, undef, undef, undef], defers := [] })
    (fun x a' _ X Y row hs hg hr => by obtain ⟨Bx, e1, e2, e3⟩ := hs; exact ⟨Bx, e1, blk_own Bx _ (fun (_ : Unit) => #[.string x.2.1.frm, .string x.2.1.to, .int .i64 x.2.1.axis, .int .i64 x.2.1.lo, .int .i64 x.2.1.hi]) () X Y row e2 hg (fun r e => (hr r e).2), e3⟩)
    ?assign ?body ?done ?stop
  case assign =>
    rintro l pre x W' K ⟨⟨⟨v, hv, hrow, _⟩, qB⟩, qW⟩ hK
    have hWs := qW.size
    gi_wp2
    exact hK _ _ ((KeepsOthers.alloc _ _).from _) ⟨(Below.refl _ W').alloc (by omega) _, Below.heap_alloc _ _ _ (by omega)⟩ ⟨⟨⟨v, hv.alloc _, hrow.alloc _, trivial⟩, qB.alloc _⟩, qW.alloc (by omega) _⟩ ⟨W'.heap.size, by omega, Blk.new W' _ _, rfl⟩
  case body =>
    rintro l pre x a' W' hl ⟨r, hr⟩ ⟨⟨⟨v, hv, hrow, _⟩, qB⟩, qW⟩ ⟨Bx, hBx, bX, rfl⟩ hlt
    have hWs := qW.size
    obtain ⟨i, d, hdf, hdv⟩ := x
    dsimp only at bX ⊢
    have R1 := fun w => reverse_any d w hdf
    have R2 := fun w => reverse_any (turnD d) w ⟨hdf.2, hdf.1⟩
    rw [revD_valid hdv, hdv] at R1
    rw [revD_valid (turn_valid hdv), turn_turn, turn_valid hdv] at R2
    have H1 := Lib.hid R1
    have H2 := Lib.hid R2
    clear R1 R2
    have h1' : 1 ≤ 3 - 1 - 1 := by decide
    obtain ⟨y, hy⟩ : ∃ y, turnD d = y := ⟨_, rfl⟩
    rw [hy] at H1 H2
    have HY := Lib.hid hy
    clear hy
    obtain ⟨⟨X1, X2, X3, X4, X5⟩, X6, X7, X8, X9, X10⟩ := bX.c5
    have hXlt := bX.lt
    gi_wp2
    refine ⟨trivial, ?_⟩
    gi_at_call 27
    refine (CallsIn.inRound l (callsIn_wide.2 (H1.out _))).mono ?_
    rintro e w4 ⟨rfl, h4⟩
    gi_wp2
    refine ⟨trivial, ?_⟩
    gi_at_call 27
    refine (CallsIn.inRound l (callsIn_wide.2 (H2.out _))).mono ?_
    rintro e w5 ⟨rfl, h5⟩
    have Y : Blk w5 (w4.heap.size) #[.string y.frm, .string y.to, .int .i64 y.axis, .int .i64 y.lo, .int .i64 y.hi] 40 := (by (repeat (first | (with_reducible assumption) | ((with_reducible apply Blk.new_at); focus (first | (simp; done) | (simp; omega))) | with_reducible apply Blk.alloc | with_reducible apply Blk.drew | with_reducible apply Blk.drewN | with_reducible apply Blk.set | ((with_reducible apply Blk.far); case hp => (first | (simp; done) | (dsimp only; omega))) | ((with_reducible apply Blk.ext); case he => with_reducible assumption)))); obtain ⟨⟨Y1, Y2, Y3, Y4, Y5⟩, Y6, Y7, Y8, Y9, Y10⟩ := Y.c5; have Ylt := Y.lt
    have h45 : Ext W' w5 := by (repeat (first | (with_reducible assumption) | with_reducible exact Ext.refl _ | with_reducible apply Ext.alloc | with_reducible apply Ext.drew | with_reducible apply Ext.drewN | ((with_reducible apply Ext.set); case hp => (first | (simp; done) | (dsimp only; omega) | omega)) | ((with_reducible apply Ext.trans); case k => with_reducible assumption)))
    have hs45 := h45.size
    have Z : Blk w5 (Bx) #[.string d.frm, .string d.to, .int .i64 d.axis, .int .i64 d.lo, .int .i64 d.hi] 40 := (by (repeat (first | (with_reducible assumption) | ((with_reducible apply Blk.new_at); focus (first | (simp; done) | (simp; omega))) | with_reducible apply Blk.alloc | with_reducible apply Blk.drew | with_reducible apply Blk.drewN | with_reducible apply Blk.set | ((with_reducible apply Blk.far); case hp => (first | (simp; done) | (dsimp only; omega))) | ((with_reducible apply Blk.ext); case he => with_reducible assumption)))); obtain ⟨⟨Z1, Z2, Z3, Z4, Z5⟩, Z6, Z7, Z8, Z9, Z10⟩ := Z.c5; have Zlt := Z.lt
    have hv5 : Boxed w5 (w2.heap.size + 1) 42 v := Blk.ext hv h45
    have hv5c := hv5.cell
    have hv5f := hv5.frozen
    have hv5l := hv5.lt
    have hrow5 : w5.ownsRow (w2.heap.size + 1) 40 5 v pre.length (flatD (turned pre)) := hrow.kept (h45.grownBy none) (by cases v.ownBlock <;> simp)
    have qB5 : Blk w5 (w2.heap.size + 1 + 1) #[.slice (some ⟨b, o, none⟩) n c] 42 := qB.ext h45
    obtain ⟨i0, hi, hz0, hz1, hz2⟩ := info_parts infoDim
    have hi' := Lib.hid hi
    have hz0' := Lib.hid hz0
    have hz1' := Lib.hid hz1
    have hz2' := Lib.hid hz2
    clear hi hz0 hz1 hz2
    have hrow6 := hrow5.alloc (.cells #[.string d.frm, .string d.to, .int .i64 d.axis, .int .i64 d.lo, .int .i64 d.hi] 40)
    gi_wp2_with (gi_at_builtin; refine wpListIn_append_own _ rfl _ _ 42 rfl (w2.heap.size + 1) 40 i0 _ 5 56 Try.underlying42 hi'.out hz0'.out hz1'.out hz2'.out rfl (by decide) _ _ _ rfl (hrow6.alloc _) ⟨w5.heap.size + 1, 0, none⟩ 1 1 (cellsD y) rfl rfl (by have := cells_five (w5.alloc (.cells #[.string d.frm, .string d.to, .int .i64 d.axis, .int .i64 d.lo, .int .i64 d.hi] 40)) (.string y.frm) (.string y.to) (.int .i64 y.axis) (.int .i64 y.lo) (.int .i64 y.hi) 40; rw [World.size_alloc] at this; exact this) (by simp [cellsD, Value.oneCell']) (by have : maxLen = 9223372036854775807 := rfl; omega) (by omega) (by simp; omega) ?_; intro v' w6 hown' hgrow _; obtain ⟨g', cap', rfl⟩ := ownsRow_succ hown'; obtain ⟨hv1, hv2, hr2, hk2, hb2⟩ := (hv5.alloc _).appended (by decide) hrow6 (by simp; omega) (Nat.le_refl _) hown' hgrow; have hc1 := hv1.cell; have hf1 := hv1.frozen)
    have hgrow' : ((w5.alloc (.cells #[.string d.frm, .string d.to, .int .i64 d.axis, .int .i64 d.lo, .int .i64 d.hi] 40)).alloc (.cells #[.string y.frm, .string y.to, .int .i64 y.axis, .int .i64 y.lo, .int .i64 y.hi] 40)).grownBy w6 v.ownBlock := hgrow
    have hkb : KB (w2.heap.size + 1) W' (w5.alloc (.cells #[.string d.frm, .string d.to, .int .i64 d.axis, .int .i64 d.lo, .int .i64 d.hi] 40)) := KB.alloc (KB.ext (KB.refl (by omega)) h45) _
    have qB7 : Blk (w6.setCell { block := w2.heap.size + 1, off := 0 } (Value.slice (some { block := g', off := 0 }) (pre.length + 1) cap')) (w2.heap.size + 1 + 1) #[.slice (some ⟨b, o, none⟩) n c] 42 :=
      (Blk.grown ((qB5.alloc _).alloc _) hgrow' (Blk.not_row ((qB5.alloc _).alloc (.cells #[.string y.frm, .string y.to, .int .i64 y.axis, .int .i64 y.lo, .int .i64 y.hi] 40)) (by decide) (hrow6.alloc (.cells #[.string y.frm, .string y.to, .int .i64 y.axis, .int .i64 y.lo, .int .i64 y.hi] 40)))).far (by simp) _
    have hbel := hkb.below.trans hb2
    refine ⟨(hkb.keeps (by omega)).trans (hk2.from _), ⟨hbel, Eq.trans qB7 (Eq.symm qB)⟩, ⟨⟨_, hv2, ?_, trivial⟩, qB7⟩, qW.trans hbel⟩
    rw [turned_snoc, flatD_snoc, List.length_append, HY.out]
    exact hr2
  case done =>
    rintro D ys W' hD rfl ⟨⟨⟨v, hv, hrow, _⟩, qB⟩, qW⟩ hK
    have hlen : (upto (backF f n) n).length = n := upto_length _ _
    have hys := turned_all HX.out.len f HF.out
    obtain ⟨A', c', rfl, hD2⟩ := ownsD (ys := turned (upto (backF f n) n)) hrow (by rw [turned_len]) (by rw [hlen]; omega) (turned_fits _)
    rw [hys, hlen] at hD2
    rw [hlen] at hv
    clear hrow
    have hWs := qW.size
    have hb1 := turns_back HP0.out (by rw [HX.out.len]; omega)
    rw [HW.out] at hb1 hWv HCH
    have HP2 := path_any A' n c' (xs.map turnD).reverse
    obtain ⟨E2, hE2⟩ : ∃ E2, pathE (xs.map turnD).reverse = E2 := ⟨_, rfl⟩
    obtain ⟨W2, hW2⟩ : ∃ W2, pathD (xs.map turnD).reverse = W2 := ⟨_, rfl⟩
    simp only [hE2, hW2] at hb1 HP2
    have hP2 := Lib.hid HP2
    have HB := Lib.hid hb1
    clear HP2 hb1
    have qR : Blk W' w.heap.size #[.bool false] 4 := (qW.block _ (by omega)).trans bR
    have q5 : Blk W' w2.heap.size #[.string W.frm, .string W.to, .int .i64 W.axis, .int .i64 W.lo, .int .i64 W.hi] 40 := (qW.block _ (by omega)).trans b5
    have hvc := hv.cell
    have hvf := hv.frozen
    have hvl := hv.lt
    have HD2 := Lib.hid hD2
    clear hD2
    have hWf : W.fits := by
      rw [← HW.out]
      unfold pathD
      split
      · exact zeroF.2
      · refine stL_fits _ (fun y hy => ?_)
        obtain ⟨j, hj, rfl⟩ := List.getElem_of_mem hy
        have := HX.out.fit j (by rw [← HX.out.len]; exact hj)
        rwa [List.getD_eq_getElem?_getD, List.getElem?_eq_getElem hj] at this
    have HR : Hid (∀ w, Calls Try.prog 27 #[.agg #[.string W.frm, .string W.to, .int .i64 W.axis, .int .i64 W.lo, .int .i64 W.hi]] w (Ret (.tuple #[.agg #[.string (turnD W).frm, .string (turnD W).to, .int .i64 (turnD W).axis, .int .i64 (turnD W).lo, .int .i64 (turnD W).hi], .int .i64 0]) w)) := Lib.hid (fun w => by have := reverse_any W w hWf; rwa [revD_valid hWv, hWv] at this)
    obtain ⟨T, hT⟩ : ∃ T, turnD W = T := ⟨_, rfl⟩
    rw [hT] at HR HB
    clear hT
    have hb3 := HB.out
    clear HB
    have hkb : KB w.heap.size W' W' := KB.refl (by omega)
    have hWW : Ext w W' := Below.trans hE0' (qW.mono (by omega))
    have hkk : ∃ kk : Nat, 1 + at_ % ((n : Int) - 1) = (kk : Int) ∧ 0 < kk ∧ kk < n := by
      have e1 := Int.emod_nonneg at_ (show (n : Int) - 1 ≠ 0 by omega)
      have e2 := Int.emod_lt_of_pos at_ (show (0 : Int) < (n : Int) - 1 by omega)
      exact ⟨(1 + at_ % ((n : Int) - 1)).toNat, by omega, by omega, by omega⟩
    obtain ⟨kk, hk0, hk1, hk2⟩ := hkk
    have hkw : wrap64 (1 + at_ % ((n : Int) - 1)) = (kk : Int) := by
      rw [hk0]
      have hlt9 : (kk : Int) < 10 := by omega
      simp (disch := omega) only [IntWalk.wrap64_in]
    clear hk0
    have hcut := turns_cut HP0.out (by rw [HX.out.len]; omega) hk1 (by rw [HX.out.len]; exact hk2)
    obtain ⟨U, hU⟩ : ∃ U, pathD (xs.take kk) = U := ⟨_, rfl⟩
    obtain ⟨V, hV⟩ : ∃ V, pathD (xs.drop kk) = V := ⟨_, rfl⟩
    obtain ⟨E3, hE3⟩ : ∃ E3, pathE (xs.drop kk) = E3 := ⟨_, rfl⟩
    rw [hU, hV, hE3, HW.out] at hcut
    obtain ⟨hc0, hc3⟩ := hcut
    have HXt := Lib.hid (HX.out.take (k := kk) (by omega))
    have HXd := Lib.hid (HX.out.drop (k := kk) hk2)
    have HT : Hid (∀ w', Dims w' (some ⟨b, o, none⟩) kk (xs.take kk) → Calls Try.prog 46 #[.slice (some ⟨b, o, none⟩) kk c] w' (Ret (.tuple #[.agg #[.string U.frm, .string U.to, .int .i64 U.axis, .int .i64 U.lo, .int .i64 U.hi], .int .i64 0]) w')) := Lib.hid (fun w' h => by have := path_any _ kk c _ w' h; rwa [hU, hc0] at this)
    have HDr : Hid (∀ w', Dims w' (some ⟨b, o + kk * 5, none⟩) (n - kk) (xs.drop kk) → Calls Try.prog 46 #[.slice (some ⟨b, o + kk * 5, none⟩) (n - kk) (c - kk)] w' (Ret (.tuple #[.agg #[.string V.frm, .string V.to, .int .i64 V.axis, .int .i64 V.lo, .int .i64 V.hi], .int .i64 E3]) w')) := Lib.hid (fun w' h => by have := path_any _ (n - kk) (c - kk) _ w' h; rwa [hV, hE3] at this)
    have HC3 := Lib.hid hc3
    have hfit : ∀ y ∈ xs, y.fits := fun y hy => by
      obtain ⟨j, hj, rfl⟩ := List.getElem_of_mem hy
      have := HX.out.fit j (by rw [← HX.out.len]; exact hj)
      rwa [List.getD_eq_getElem?_getD, List.getElem?_eq_getElem hj] at this
    have hUf : U.fits := by rw [← hU]; exact pathD_fits (fun y hy => hfit y (List.mem_of_mem_take hy))
    have hVf : V.fits := by rw [← hV]; exact pathD_fits (fun y hy => hfit y (List.mem_of_mem_drop hy))
    clear hU hV hE3 hc0 hc3 hfit
    have h3 : (E2 = 0 ∧ W2 = T) ∨ E2 = 7 ∨ E2 = 2 := hb3
    clear hb3 hE2 hW2
    rcases h3 with ⟨rfl, rfl⟩ | rfl | rfl
    all_goals
      gi_wp2; refine ⟨trivial, ?_⟩; gi_at_call 46; refine (callsIn_wide.2 (hP2.out _ HD2.out)).mono ?_; rintro e w4 ⟨rfl, h4⟩
      have q54 := q5.ext h4
      obtain ⟨⟨m1, m2, m3, m4, m5⟩, m6, m7, m8, m9, m10⟩ := q54.c5
      have m11 := q54.lt
      gi_wp2; refine ⟨trivial, ?_⟩; gi_at_call 27; refine (callsIn_wide.2 (HR.out _)).mono ?_; rintro e w5 ⟨rfl, h5⟩
      have P5 : Blk w5 (w4.heap.size) #[.string W2.frm, .string W2.to, .int .i64 W2.axis, .int .i64 W2.lo, .int .i64 W2.hi] 40 := (by (repeat (first | (with_reducible assumption) | ((with_reducible apply Blk.new_at); focus (first | (simp; done) | (simp; omega))) | with_reducible apply Blk.alloc | with_reducible apply Blk.drew | with_reducible apply Blk.drewN | with_reducible apply Blk.set | ((with_reducible apply Blk.far); case hp => (first | (simp; done) | (dsimp only; omega))) | ((with_reducible apply Blk.ext); case he => with_reducible assumption)))); obtain ⟨⟨P51, P52, P53, P54, P55⟩, P56, P57, P58, P59, P510⟩ := P5.c5; have P5lt := P5.lt
      have qR5 : Blk w5 w.heap.size #[.bool false] 4 := (qR.ext h4).alloc _ |>.ext h5
      obtain ⟨r1, r2⟩ := qR5.c1
      have r3 := qR5.lt
      gi_wp2; refine ⟨trivial, ?_⟩; gi_at_call 46; refine (callsIn_wide.2 (HT.out _ (HXt.out.ext (by (repeat (first | (with_reducible assumption) | with_reducible exact Ext.refl _ | with_reducible apply Ext.alloc | with_reducible apply Ext.drew | with_reducible apply Ext.drewN | ((with_reducible apply Ext.set); case hp => (first | (simp; done) | (dsimp only; omega) | omega)) | ((with_reducible apply Ext.trans); case k => with_reducible assumption))))))).mono ?_; rintro e w6 ⟨rfl, h6⟩
      have qU6 := Blk.new w6 #[.string U.frm, .string U.to, .int .i64 U.axis, .int .i64 U.lo, .int .i64 U.hi] 40
      gi_wp2; refine ⟨trivial, ?_⟩; gi_at_call 46; refine (callsIn_wide.2 (HDr.out _ (HXd.out.ext (by (repeat (first | (with_reducible assumption) | with_reducible exact Ext.refl _ | with_reducible apply Ext.alloc | with_reducible apply Ext.drew | with_reducible apply Ext.drewN | ((with_reducible apply Ext.set); case hp => (first | (simp; done) | (dsimp only; omega) | omega)) | ((with_reducible apply Ext.trans); case k => with_reducible assumption))))))).mono ?_; rintro e w7 ⟨rfl, h7⟩
      have qU7 := qU6.ext h7
      have q57 : Blk w7 w2.heap.size #[.string W.frm, .string W.to, .int .i64 W.axis, .int .i64 W.lo, .int .i64 W.hi] 40 := by (repeat (first | (with_reducible assumption) | ((with_reducible apply Blk.new_at); focus (first | (simp; done) | (simp; omega))) | with_reducible apply Blk.alloc | with_reducible apply Blk.drew | with_reducible apply Blk.drewN | with_reducible apply Blk.set | ((with_reducible apply Blk.far); case hp => (first | (simp; done) | (dsimp only; omega))) | ((with_reducible apply Blk.ext); case he => with_reducible assumption)))
      have qR7 : Blk w7 w.heap.size #[.bool false] 4 := by (repeat (first | (with_reducible assumption) | ((with_reducible apply Blk.new_at); focus (first | (simp; done) | (simp; omega))) | with_reducible apply Blk.alloc | with_reducible apply Blk.drew | with_reducible apply Blk.drewN | with_reducible apply Blk.set | ((with_reducible apply Blk.far); case hp => (first | (simp; done) | (dsimp only; omega))) | ((with_reducible apply Blk.ext); case he => with_reducible assumption)))
      have hkb7 : KB w.heap.size W' w7 := by (repeat (first | (with_reducible assumption) | ((with_reducible apply KB.refl); (first | assumption | omega)) | with_reducible apply KB.alloc | with_reducible apply KB.drew | ((with_reducible apply KB.set); case hp => (first | (simp; done) | (dsimp only; omega) | omega)) | ((with_reducible apply KB.ext); case he => with_reducible assumption)))
      have qUl := qU7.lt
      have q5l := q57.lt
      have qRl := qR7.lt
      have h3 := HC3.out
      rcases h3 with ⟨rfl, j0, j1⟩ | rfl | rfl
      case inl =>
        have HJ : Hid (∀ w, Calls Try.prog 29 #[.agg #[.string U.frm, .string U.to, .int .i64 U.axis, .int .i64 U.lo, .int .i64 U.hi], .agg #[.string V.frm, .string V.to, .int .i64 V.axis, .int .i64 V.lo, .int .i64 V.hi]] w (Ret (.tuple #[.agg #[.string W.frm, .string W.to, .int .i64 W.axis, .int .i64 W.lo, .int .i64 W.hi], .int .i64 0]) w)) := Lib.hid (fun w => by have := join_any U V w hUf hVf; rwa [j0, j1] at this)
        clear j0 j1
        obtain ⟨⟨u1, u2, u3, u4, u5⟩, u6, u7, u8, u9, u10⟩ := qU7.c5
        gi_wp2; refine ⟨trivial, ?_⟩; gi_at_call 29; refine (callsIn_wide.2 (HJ.out _)).mono ?_; rintro e w8 ⟨rfl, h8⟩
        have S8 : Blk w8 (w2.heap.size) #[.string W.frm, .string W.to, .int .i64 W.axis, .int .i64 W.lo, .int .i64 W.hi] 40 := (by (repeat (first | (with_reducible assumption) | ((with_reducible apply Blk.new_at); focus (first | (simp; done) | (simp; omega))) | with_reducible apply Blk.alloc | with_reducible apply Blk.drew | with_reducible apply Blk.drewN | with_reducible apply Blk.set | ((with_reducible apply Blk.far); case hp => (first | (simp; done) | (dsimp only; omega))) | ((with_reducible apply Blk.ext); case he => with_reducible assumption)))); obtain ⟨⟨S81, S82, S83, S84, S85⟩, S86, S87, S88, S89, S810⟩ := S8.c5; have S8lt := S8.lt
        gi_wp2; refine ⟨trivial, ?_⟩; gi_at_call 15; refine (callsIn_wide.2 (awake17_any _)).mono ?_; rintro e w9 ⟨rfl, h9⟩
        have z9 : Blk w9 (w.heap.size) #[.bool false] 4 := (by (repeat (first | (with_reducible assumption) | ((with_reducible apply Blk.new_at); focus (first | (simp; done) | (simp; omega))) | with_reducible apply Blk.alloc | with_reducible apply Blk.drew | with_reducible apply Blk.drewN | with_reducible apply Blk.set | ((with_reducible apply Blk.far); case hp => (first | (simp; done) | (dsimp only; omega))) | ((with_reducible apply Blk.ext); case he => with_reducible assumption)))); obtain ⟨z91, z92⟩ := z9.c1; have z9lt := z9.lt
        gi_wp2
        exact endM_b (b := true) rfl rfl (by (repeat (first | (with_reducible assumption) | ((with_reducible apply KB.refl); (first | assumption | omega)) | with_reducible apply KB.alloc | with_reducible apply KB.drew | ((with_reducible apply KB.set); case hp => (first | (simp; done) | (dsimp only; omega) | omega)) | ((with_reducible apply KB.ext); case he => with_reducible assumption)))) hK (by omega) hWW rfl (by (apply Blk.is; (case h => (repeat (first | (with_reducible assumption) | ((with_reducible apply Blk.new_at); focus (first | (simp; done) | (simp; omega))) | with_reducible apply Blk.alloc | with_reducible apply Blk.drew | with_reducible apply Blk.drewN | with_reducible apply Blk.set | ((with_reducible apply Blk.far); case hp => (first | (simp; done) | (dsimp only; omega))) | ((with_reducible apply Blk.ext); case he => with_reducible assumption)))); all_goals rfl)) Try.underlying4
      all_goals
        gi_wp2; refine ⟨trivial, ?_⟩; gi_at_call 15; refine (callsIn_wide.2 (awake17_any _)).mono ?_; rintro e w9 ⟨rfl, h9⟩
        have z9 : Blk w9 (w.heap.size) #[.bool false] 4 := (by (repeat (first | (with_reducible assumption) | ((with_reducible apply Blk.new_at); focus (first | (simp; done) | (simp; omega))) | with_reducible apply Blk.alloc | with_reducible apply Blk.drew | with_reducible apply Blk.drewN | with_reducible apply Blk.set | ((with_reducible apply Blk.far); case hp => (first | (simp; done) | (dsimp only; omega))) | ((with_reducible apply Blk.ext); case he => with_reducible assumption)))); obtain ⟨z91, z92⟩ := z9.c1; have z9lt := z9.lt
        gi_wp2
        exact endM_b (b := true) rfl rfl (by (repeat (first | (with_reducible assumption) | ((with_reducible apply KB.refl); (first | assumption | omega)) | with_reducible apply KB.alloc | with_reducible apply KB.drew | ((with_reducible apply KB.set); case hp => (first | (simp; done) | (dsimp only; omega) | omega)) | ((with_reducible apply KB.ext); case he => with_reducible assumption)))) hK (by omega) hWW rfl (by (apply Blk.is; (case h => (repeat (first | (with_reducible assumption) | ((with_reducible apply Blk.new_at); focus (first | (simp; done) | (simp; omega))) | with_reducible apply Blk.alloc | with_reducible apply Blk.drew | with_reducible apply Blk.drewN | with_reducible apply Blk.set | ((with_reducible apply Blk.far); case hp => (first | (simp; done) | (dsimp only; omega))) | ((with_reducible apply Blk.ext); case he => with_reducible assumption)))); all_goals rfl)) Try.underlying4
  case stop =>
    rintro D c pre W' _ _ h _
    exact h.elim
end Go.Proofs.Ytdcedfciaaooiaa
