/- bounds of a task: plain, and the walk. -/
import Derived.Test.YtdcedfciaaooiaaV25
import Derived.Test.YtdcedfciaaooiaaK0
set_option linter.unusedVariables false
namespace Go.Proofs.Ytdcedfciaaooiaa
open Go.RowKit Go.Shelf
attribute [local go_sem] Oper.semAt_some

def dimK (xs : List Dim) (x : Lk) : Dim := xs.getD x.dim.toNat zeroD
/-- The least (s = 1) and the greatest (s = -1) sum of a chain. -/
def endS (t : Int) (xs : List Dim) (cs : List Lk) : Int := cs.foldl (fun s x => s + sgn x * lowV (dimK xs x).lo (dimK xs x).hi (t * sgn x)) 0
theorem endS_snoc (t : Int) (xs : List Dim) (cs : List Lk) (x : Lk) : endS t xs (cs ++ [x]) = endS t xs cs + sgn x * lowV (dimK xs x).lo (dimK xs x).hi (t * sgn x) := by simp [endS]
/-- What each link of a right task is. -/
def Fine (xs : List Dim) (x : Lk) : Prop := 0 ≤ x.dim ∧ x.dim < xs.length ∧ -100000 ≤ (dimK xs x).lo ∧ (dimK xs x).lo ≤ 100000 ∧ -100000 ≤ (dimK xs x).hi ∧ (dimK xs x).hi ≤ 100000
theorem lowV_range {lo hi s : Int} (h : -100000 ≤ lo ∧ lo ≤ 100000 ∧ -100000 ≤ hi ∧ hi ≤ 100000) : -100000 ≤ lowV lo hi s ∧ lowV lo hi s ≤ 100000 := by
  unfold lowV; split <;> omega
theorem i64_in' {x : Int} (h : -9223372036854775808 ≤ x ∧ x ≤ 9223372036854775807) : IntKind.i64.wrap x = x := by rw [IntKind.wrap_i64]; omega
theorem sgn_mul_range {x : Lk} {v : Int} (h : -100000 ≤ v ∧ v ≤ 100000) : -100000 ≤ sgn x * v ∧ sgn x * v ≤ 100000 := by
  unfold sgn; split <;> omega
theorem endS_range (t : Int) (xs : List Dim) : ∀ (n : Nat) (cs : List Lk), cs.length = n → (∀ x ∈ cs, Fine xs x) → -(100000 * (n : Int)) ≤ endS t xs cs ∧ endS t xs cs ≤ 100000 * (n : Int) := by
  intro n
  induction n with
  | zero => intro cs hl _; rw [List.length_eq_zero_iff.1 hl]; simp [endS]
  | succ n ih =>
    intro cs hl hf
    rcases List.eq_nil_or_concat cs with h | ⟨ys, x, h⟩
    · rw [h] at hl; simp at hl
    · rw [List.concat_eq_append] at h
      subst h
      have h1 := ih ys (by simpa using hl) (fun y hy => hf y (by simp [hy]))
      have hx := hf x (by simp)
      have h2 := sgn_mul_range (x := x) (lowV_range (s := t * sgn x) ⟨hx.2.2.1, hx.2.2.2.1, hx.2.2.2.2.1, hx.2.2.2.2.2⟩)
      rw [endS_snoc]
      omega

abbrev FK (xs : List Dim) := { x : Lk // Fine xs x }
def valsK {xs : List Dim} (pre : List (FK xs)) : List Lk := pre.map (·.1)
theorem valsK_snoc {xs : List Dim} (pre : List (FK xs)) (x : FK xs) : valsK (pre ++ [x]) = valsK pre ++ [x.1] := by simp [valsK]

open Classical in
noncomputable def fth {xs : List Dim} (d0 : FK xs) (cs : List Lk) (k : Nat) : FK xs := if h : Fine xs (cs.getD k zeroK) then ⟨cs.getD k zeroK, h⟩ else d0
theorem fth_val {xs : List Dim} {d0 : FK xs} {cs : List Lk} {k : Nat} (h : Fine xs (cs.getD k zeroK)) : (fth d0 cs k).1 = cs.getD k zeroK := by unfold fth; rw [dif_pos h]
theorem upto_valK {xs : List Dim} {cs : List Lk} {n : Nat} (hn : cs.length = n) (f : Nat → FK xs) (hf : ∀ j, j < n → (f j).1 = cs.getD j zeroK) : ∀ k, k ≤ n → valsK (upto f k) = cs.take k := by
  intro k
  induction k with
  | zero => intro _; rfl
  | succ k ih =>
    intro hk
    rw [upto_succ, valsK_snoc, ih (by omega), hf k (by omega), List.take_add_one, List.getElem?_eq_getElem (by omega), List.getD_eq_getElem?_getD, List.getElem?_eq_getElem (by omega)]
    rfl
theorem Lnks.below {w : World} {A : Option Addr} {n : Nat} {cs : List Lk} (h : Lnks w A n cs) (h0 : n ≠ 0) (b o : Nat) (hA : A = some ⟨b, o, none⟩) : b < w.heap.size := by
  obtain ⟨b', o', hA', hc⟩ := h.at_ (by omega)
  rw [hA] at hA'
  cases hA'
  exact World.block_lt_of_cell? w _ (hc 0 (by omega)).1
/-- The end of a walk with a range over a function in it: a struct in cells. -/
theorem endM_s {F : Fence} {n : Nat} {P : Program} {fn : Func} {R : Ending → World → Prop} {a : Act} {w : World} {p1 : Tmp} {y1 t1 : TypeId} {D g1 : Nat} {cs : Array Value} {d : TypeDesc} (hr : fn.results = #[.cell p1 y1])
    (hd : a.defers = [{ target := .collected D, args := #[] }]) (hK : w.heap[D]? = some (.deferred (some []))) (e1 : a.tmps.getD p1 undef = .pointer (some ⟨g1, 0, none⟩)) (h1 : Blk w g1 cs t1)
    (hu : P.underlying y1 = some d) (hs : (match d with | .struct _ | .array _ _ => true | _ => false) = true) (hi : (P.info? y1).map (·.size) = some cs.size)
    (h : R (.returned (.agg cs)) (w.putObj D (.deferred none))) : bodyPostM F n P fn R .ret a w := by
  show LeavesInM F n P fn a.tmps R a.defers .returning w
  rw [hd]
  refine ⟨by simp, .inl ⟨_, _, rfl, run_takeDeferred hK, ?_⟩⟩
  exact ⟨_, outs_one hr (.cell g1 t1 cs d e1 (h1.putObj _ hK rfl) hu hs hi .nil), h⟩

set_option maxRecDepth 100000 in
set_option maxHeartbeats 4000000 in
theorem bounds_any (A B : Option Addr) (n m c c2 : Nat) (xs : List Dim) (cs : List Lk) (lo hi : Int) (w : World) (hx : Dims w A n xs) (hk : Lnks w B m cs) (hf : ∀ j, j < m → Fine xs (cs.getD j zeroK)) (hm : m ≤ 256) (hm0 : 0 < m) :
    Calls Try.prog 92 #[.agg #[.slice A n c, .slice B m c2, .int .i64 lo, .int .i64 hi, .func (.func 113) #[] #[], .func (.func 114) #[] #[]]] w
      (Ret (.agg #[.int .i64 (endS 1 xs cs), .int .i64 (endS (-1) xs cs)]) w) := by
  have HX := Lib.hid hx
  have HK := Lib.hid hk
  have HF := Lib.hid hf
  clear hx hk hf
  refine (callsIn_wide (n := 3)).1 ?_
  refine callsIn_of_wp_marks Try.func92 rfl trivial ?_ rfl
  simp only [Try.ntmps92, List.size_toArray, List.length_cons, List.length_nil, Nat.reduceAdd, Nat.reduceSub, Array.replicate_succ, Array.replicate_zero, List.push_toArray, List.append_toArray, List.nil_append, List.cons_append]
  gi_wp2
  refine ⟨trivial, ?_⟩
  gi_at_call 94
  refine (callsIn_wide.2 (links_any A B n m c c2 lo hi _ _ _)).mono ?_
  rintro e w3 ⟨rfl, rfl⟩
  gi_wp2
  obtain ⟨W0, hW0⟩ : ∃ W0, ((((w.alloc (.cells #[.slice A n c, .slice B m c2, .int .i64 lo, .int .i64 hi, .func (.func 113) #[] #[], .func (.func 114) #[] #[]] 150)).alloc (.cells #[.int .i64 0, .int .i64 0] 23)).alloc (.cells #[.int .i64 0, .int .i64 0] 23)).alloc (.cells #[.slice A n c, .slice B m c2, .int .i64 lo, .int .i64 hi, .func (.func 113) #[] #[], .func (.func 114) #[] #[]] 150)) = W0 := ⟨_, rfl⟩
  have bT : Blk W0 w.heap.size #[.slice A n c, .slice B m c2, .int .i64 lo, .int .i64 hi, .func (.func 113) #[] #[], .func (.func 114) #[] #[]] 150 := by rw [← hW0]; (repeat (first | (with_reducible assumption) | ((with_reducible apply Blk.new_at); focus (first | (simp; done) | (simp; omega))) | with_reducible apply Blk.alloc | with_reducible apply Blk.drew | with_reducible apply Blk.drewN | with_reducible apply Blk.set | ((with_reducible apply Blk.far); case hp => (first | (simp; done) | (dsimp only; omega))) | ((with_reducible apply Blk.ext); case he => with_reducible assumption)))
  have bR : Blk W0 (w.heap.size + 1) #[.int .i64 0, .int .i64 0] 23 := by rw [← hW0]; (repeat (first | (with_reducible assumption) | ((with_reducible apply Blk.new_at); focus (first | (simp; done) | (simp; omega))) | with_reducible apply Blk.alloc | with_reducible apply Blk.drew | with_reducible apply Blk.drewN | with_reducible apply Blk.set | ((with_reducible apply Blk.far); case hp => (first | (simp; done) | (dsimp only; omega))) | ((with_reducible apply Blk.ext); case he => with_reducible assumption)))
  have bS : Blk W0 (w.heap.size + 1 + 1) #[.int .i64 0, .int .i64 0] 23 := by rw [← hW0]; (repeat (first | (with_reducible assumption) | ((with_reducible apply Blk.new_at); focus (first | (simp; done) | (simp; omega))) | with_reducible apply Blk.alloc | with_reducible apply Blk.drew | with_reducible apply Blk.drewN | with_reducible apply Blk.set | ((with_reducible apply Blk.far); case hp => (first | (simp; done) | (dsimp only; omega))) | ((with_reducible apply Blk.ext); case he => with_reducible assumption)))
  have bL : Blk W0 (w.heap.size + 1 + 1 + 1) #[.slice A n c, .slice B m c2, .int .i64 lo, .int .i64 hi, .func (.func 113) #[] #[], .func (.func 114) #[] #[]] 150 := by rw [← hW0]; (repeat (first | (with_reducible assumption) | ((with_reducible apply Blk.new_at); focus (first | (simp; done) | (simp; omega))) | with_reducible apply Blk.alloc | with_reducible apply Blk.drew | with_reducible apply Blk.drewN | with_reducible apply Blk.set | ((with_reducible apply Blk.far); case hp => (first | (simp; done) | (dsimp only; omega))) | ((with_reducible apply Blk.ext); case he => with_reducible assumption)))
  have hE0 : Ext w W0 := by rw [← hW0]; (repeat (first | (with_reducible assumption) | with_reducible exact Ext.refl _ | with_reducible apply Ext.alloc | with_reducible apply Ext.drew | with_reducible apply Ext.drewN | ((with_reducible apply Ext.set); case hp => (first | (simp; done) | (dsimp only; omega) | omega)) | ((with_reducible apply Ext.trans); case k => with_reducible assumption)))
  have hsz : W0.heap.size = w.heap.size + 4 := by rw [← hW0]; simp
  rw [hW0]
  clear hW0
  have hcl := bL.cell 1
  simp at hcl
  obtain ⟨f, hf⟩ : ∃ f : Nat → FK xs, ∀ j, j < m → (f j).1 = cs.getD j zeroK := ⟨fth ⟨_, HF.out 0 hm0⟩ cs, fun j hj => fth_val (HF.out j hj)⟩
  refine wpIn_rangeFunc_ownH rfl (by decide) (gf := 115) (lb := #[.pointer (some ⟨w.heap.size + 1 + 1 + 1, 0, none⟩)]) rfl trivial (enters_of Try.func115 (by kernel_rfl) rfl)
    (linksL_stops (fun x : FK xs => x.1) f Fence.wide (3 - 1) trivial rfl (by decide) (w.heap.size + 1 + 1 + 1) w.heap.size m c2 B cs W0 (by omega) (by omega) hcl (fun h0 b o hA => HK.out.below h0 b o hA) (HK.out.ext hE0) hf) belowK_t (belowK_b (by omega)) (Below.refl _ _) (fun _ => rfl)
    (fun pre W => ((Blk W w.heap.size #[.slice A n c, .slice B m c2, .int .i64 lo, .int .i64 hi, .func (.func 113) #[] #[], .func (.func 114) #[] #[]] 150 ∧ Blk W (w.heap.size + 1) #[.int .i64 0, .int .i64 0] 23) ∧ Blk W (w.heap.size + 1 + 1) #[.int .i64 (endS 1 xs (valsK pre)), .int .i64 (endS (-1) xs (valsK pre))] 23) ∧ Below w.heap.size w W)
    (fun _ _ _ => False)
    (OwnFrom.and (OwnFrom.and (OwnFrom.and (Own.from (blk_own _ _ _) _) (Own.from (blk_own _ _ _) _)) (Own.from (blk_own _ _ _) _)) (ownFrom_below (Nat.le_refl _) (by omega)))
    (fun _ _ _ _ _ hs _ _ => hs)
    ⟨⟨⟨bT, bR⟩, bS⟩, hE0⟩
    (fun x a' _ => a' = { tmps := #[.agg #[.slice A n c, .slice B m c2, .int .i64 lo, .int .i64 hi, .func (.func 113) #[] #[], .func (.func 114) #[] #[]], .pointer (some ⟨w.heap.size, 0, none⟩), .pointer (some ⟨w.heap.size + 1, 0, none⟩), .pointer (some ⟨w.heap.size + 1 + 1, 0, none⟩), .int .i64 x.1.dim, .int .i64 (sgn x.1), undef, .agg #[.slice A n c, .slice B m c2, .int .i64 lo, .int .i64 hi, .func (.func 113) #[] #[], .func (.func 114) #[] #[]], .func (.func 115) #[] #[.pointer (some ⟨w.heap.size + 1 + 1 + 1, 0, none⟩)], .int .i64 x.1.dim, .int .i64 (sgn x.1), undef, undef, undef, undef, undef, undef, undef, undef, undef, undef, undef, undef, undef, undef, undef, undef, undef, undef, undef, undef, undef, undef, undef, undef, undef, undef, undef, undef, undef, undef, undef, undef], defers := [] })
    (fun _ _ _ _ _ _ hs _ _ => hs)
    ?assign ?body ?done ?stop
  case assign =>
    rintro l pre x W K hi hK
    gi_wp2
    exact hK _ _ (KeepsFrom.refl _ _) (Below.refl _ _) hi rfl
  case body =>
    rintro l pre x a' W hl hr ⟨⟨⟨qT, qR⟩, qS⟩, qB⟩ rfl hlt
    obtain ⟨⟨i, bk⟩, hfx⟩ := x
    have hfi := hfx
    obtain ⟨g0, g1, g2, g3, g4, g5⟩ := hfx
    dsimp only at g0 g1
    obtain ⟨p, rfl⟩ := Int.eq_ofNat_of_zero_le g0
    rw [HX.out.len] at g1
    have hp : p < n := by omega
    obtain ⟨bA, oA, hA, hcA⟩ := HX.out.at_ (by omega)
    obtain ⟨d, hd⟩ : ∃ d, xs.getD p zeroD = d := ⟨_, rfl⟩
    obtain ⟨-, -, -, a4, a5⟩ := Dims.cells hcA (show Ext w W from qB) p hp d hd
    have t0 := qT.cell 0
    have t4 := qT.cell 4
    have t5 := qT.cell 5
    simp at t0 t4 t5
    subst hA
    obtain ⟨⟨s1, s2, s3, s4⟩⟩ : Nonempty (_ ∧ _ ∧ _ ∧ _) := ⟨qS.c2⟩
    obtain ⟨S1, hS1⟩ : ∃ v, endS 1 xs (valsK pre) = v := ⟨_, rfl⟩
    obtain ⟨S2, hS2⟩ : ∃ v, endS (-1) xs (valsK pre) = v := ⟨_, rfl⟩
    rw [hS1] at s1
    rw [hS2] at s2
    have qS' : Blk W (w.heap.size + 1 + 1) #[.int .i64 S1, .int .i64 S2] 23 := by rw [← hS1, ← hS2]; exact qS
    obtain ⟨sg, hsg⟩ : ∃ v, sgn ⟨(p : Int), bk⟩ = v := ⟨_, rfl⟩
    have HCA := Lib.hid hcA
    have HD := Lib.hid hd
    clear hcA
    have hTl := qT.lt
    have hSl := qS.lt
    have hbl : bA < W.heap.size := World.block_lt_of_cell? W _ a4
    have hsg1 : -1 ≤ sg ∧ sg ≤ 1 := by rw [← hsg]; unfold sgn; split <;> omega
    have hdk : dimK xs ⟨(p : Int), bk⟩ = d := by unfold dimK; rw [Int.toNat_natCast]; exact hd
    rw [hdk] at g2 g3 g4 g5
    have hpl : (valsK pre).length = pre.length := by simp [valsK]
    have hfv : ∀ x ∈ valsK pre, Fine xs x := fun x hx => by
      simp only [valsK, List.mem_map] at hx
      obtain ⟨y, _, rfl⟩ := hx
      exact y.2
    have hr1 := endS_range 1 xs _ _ hpl hfv
    have hr2 := endS_range (-1) xs _ _ hpl hfv
    rw [hS1] at hr1
    rw [hS2] at hr2
    obtain ⟨N1, hN1⟩ : ∃ v, endS 1 xs (valsK (pre ++ [⟨⟨(p : Int), bk⟩, hfi⟩])) = v := ⟨_, rfl⟩
    obtain ⟨N2, hN2⟩ : ∃ v, endS (-1) xs (valsK (pre ++ [⟨⟨(p : Int), bk⟩, hfi⟩])) = v := ⟨_, rfl⟩
    have hv1 := sgn_mul_range (x := ⟨(p : Int), bk⟩) (lowV_range (s := sg) ⟨g2, g3, g4, g5⟩)
    have hv2 := sgn_mul_range (x := ⟨(p : Int), bk⟩) (lowV_range (s := -sg) ⟨g2, g3, g4, g5⟩)
    rw [hsg] at hv1 hv2
    have hw1 : IntKind.i64.wrap (S1 + IntKind.i64.wrap (sg * lowV d.lo d.hi sg)) = N1 := by
      have e : N1 = S1 + sg * lowV d.lo d.hi sg := by rw [← hN1, valsK_snoc, endS_snoc, hS1, hdk, hsg, Int.one_mul]
      rw [e, i64_in' (x := sg * lowV d.lo d.hi sg) (by omega), i64_in' (by omega)]
    have hw2 : IntKind.i64.wrap (S2 + IntKind.i64.wrap (sg * lowV d.lo d.hi (-sg))) = N2 := by
      have e : N2 = S2 + sg * lowV d.lo d.hi (-sg) := by rw [← hN2, valsK_snoc, endS_snoc, hS2, hdk, hsg, Int.neg_one_mul]
      rw [e, i64_in' (x := sg * lowV d.lo d.hi (-sg)) (by omega), i64_in' (by omega)]
    have HN := Lib.hid (And.intro hN1 hN2)
    clear hd
    clear hN1 hN2 hv1 hv2 hr1 hr2 hfv hpl hdk
    have hRl := qR.lt
    -- BODY BEGINS
    gi_wp2
    refine wpIn_region_held (S := fun W' => W'.cell? ⟨w.heap.size, 4, none⟩ = some (.func (.func 113) #[] #[]) ∧ W'.cell? ⟨W.heap.size, 0, none⟩ = some (.int .i64 d.lo) ∧ W'.cell? ⟨W.heap.size, 1, none⟩ = some (.int .i64 d.hi)) (by kernel_rfl) (by kernel_rfl) ?_ (fun hHeld => ?_)
    · exact ⟨(show Blk _ w.heap.size #[.slice (some ⟨bA, oA, none⟩) n c, .slice B m c2, .int .i64 lo, .int .i64 hi, .func (.func 113) #[] #[], .func (.func 114) #[] #[]] 150 from by (repeat (first | (with_reducible assumption) | ((with_reducible apply Blk.new_at); focus (first | (simp; done) | (simp; omega))) | with_reducible apply Blk.alloc | with_reducible apply Blk.drew | with_reducible apply Blk.drewN | with_reducible apply Blk.set | ((with_reducible apply Blk.far); case hp => (first | (simp; done) | (dsimp only; omega))) | ((with_reducible apply Blk.ext); case he => with_reducible assumption)))).cell 4, Blk.r2 (t := 23) (by (repeat (first | (with_reducible assumption) | ((with_reducible apply Blk.new_at); focus (first | (simp; done) | (simp; omega))) | with_reducible apply Blk.alloc | with_reducible apply Blk.drew | with_reducible apply Blk.drewN | with_reducible apply Blk.set | ((with_reducible apply Blk.far); case hp => (first | (simp; done) | (dsimp only; omega))) | ((with_reducible apply Blk.ext); case he => with_reducible assumption))))⟩
    refine wpAnyH_take (i := 0) (oi := _) (v := ?va0) rfl (by kernel_rfl) (by kernel_rfl) (by kernel_rfl) (fun _ _ _ h => h) (Or.inl ⟨by rfl, ?hya0⟩) (by assumption) ?resta0; (case hya0 => (intro w hSw; (try dsimp only at hSw); go_simp; try (with_reducible rfl)))
    refine wpAnyH_take (i := 2) (oi := _) (v := ?va2) rfl (by kernel_rfl) (by kernel_rfl) (by kernel_rfl) (fun _ _ _ h => h) (Or.inl ⟨by rfl, ?hya2⟩) (by assumption) ?resta2; (case hya2 => (intro w hSw; (try dsimp only at hSw); go_simp; try (with_reducible rfl)))
    refine wpAnyH_take (i := 3) (oi := _) (v := ?va3) rfl (by kernel_rfl) (by kernel_rfl) (by kernel_rfl) (fun _ _ _ h => h) (Or.inl ⟨by rfl, ?hya3⟩) (by assumption) ?resta3; (case hya3 => (intro w hSw; (try dsimp only at hSw); go_simp; try (with_reducible rfl)))
    refine wpAnyH_take (i := 4) (oi := _) (v := ?va4) rfl (by kernel_rfl) (by kernel_rfl) (by kernel_rfl) (fun _ _ _ h => h) (Or.inl ⟨by rfl, ?hya4⟩) (by assumption) ?resta4; (case hya4 => (intro w hSw; (try dsimp only at hSw); go_simp; try (with_reducible rfl)))
    refine wpAnyH_take (i := 5) (oi := _) (v := ?va5) rfl (by kernel_rfl) (by kernel_rfl) (by kernel_rfl) (fun _ _ _ h => h) (Or.inl ⟨by rfl, ?hya5⟩) (by assumption) ?resta5; (case hya5 => (intro w hSw; (try dsimp only at hSw); go_simp; try (with_reducible rfl)))
    refine wpAnyH_take (i := 6) (oi := _) (v := ?va6) rfl (by kernel_rfl) (by kernel_rfl) (by kernel_rfl) (fun _ _ _ h => h) (Or.inl ⟨by rfl, ?hya6⟩) (by assumption) ?resta6; (case hya6 => (intro w hSw; (try dsimp only at hSw); go_simp; try (with_reducible rfl)))
    refine wpAnyH_take (i := 7) (oi := _) (v := ?va7) rfl (by kernel_rfl) (by kernel_rfl) (by kernel_rfl) (fun _ _ _ h => h) (Or.inl ⟨by rfl, ?hya7⟩) (by assumption) ?resta7; (case hya7 => (intro w hSw; (try dsimp only at hSw); go_simp; try (with_reducible rfl)))
    (simp only [Act.put, List.setIfInBounds_toArray])
    refine wpAnyH_ready (rs := [1, 8]) (by kernel_rfl) (by simp) ?_
    refine AllReadyH.cons (o := _) rfl (fun K hK => ?_) (AllReadyH.cons (o := _) rfl (fun K hK => ?_) AllReadyH.nil)
    · go_simp
      (try dsimp only)
      refine hK.out _ _ ?_ (fun hHeld => ?_)
      · exact ⟨(show Blk _ w.heap.size #[.slice (some ⟨bA, oA, none⟩) n c, .slice B m c2, .int .i64 lo, .int .i64 hi, .func (.func 113) #[] #[], .func (.func 114) #[] #[]] 150 from by (repeat (first | (with_reducible assumption) | ((with_reducible apply Blk.new_at); focus (first | (simp; done) | (simp; omega))) | with_reducible apply Blk.alloc | with_reducible apply Blk.drew | with_reducible apply Blk.drewN | with_reducible apply Blk.set | ((with_reducible apply Blk.far); case hp => (first | (simp; done) | (dsimp only; omega))) | ((with_reducible apply Blk.ext); case he => with_reducible assumption)))).cell 4, Blk.r2 (t := 23) (by (repeat (first | (with_reducible assumption) | ((with_reducible apply Blk.new_at); focus (first | (simp; done) | (simp; omega))) | with_reducible apply Blk.alloc | with_reducible apply Blk.drew | with_reducible apply Blk.drewN | with_reducible apply Blk.set | ((with_reducible apply Blk.far); case hp => (first | (simp; done) | (dsimp only; omega))) | ((with_reducible apply Blk.ext); case he => with_reducible assumption))))⟩
      clear hK K
      refine wpAnyH_ready (rs := [8]) (by kernel_rfl) (by simp) ?_; refine AllReadyH.cons (o := _) rfl (fun K hK => ?_) AllReadyH.nil; go_simp
      refine (low_any d.lo d.hi sg _).mono ?_
      rintro e w5 ⟨rfl, h5⟩
      have h5T : Blk w5 w.heap.size #[.slice (some ⟨bA, oA, none⟩) n c, .slice B m c2, .int .i64 lo, .int .i64 hi, .func (.func 113) #[] #[], .func (.func 114) #[] #[]] 150 := by (repeat (first | (with_reducible assumption) | ((with_reducible apply Blk.new_at); focus (first | (simp; done) | (simp; omega))) | with_reducible apply Blk.alloc | with_reducible apply Blk.drew | with_reducible apply Blk.drewN | with_reducible apply Blk.set | ((with_reducible apply Blk.far); case hp => (first | (simp; done) | (dsimp only; omega))) | ((with_reducible apply Blk.ext); case he => with_reducible assumption)))
      have h5R : Blk w5 (w.heap.size + 1) #[.int .i64 0, .int .i64 0] 23 := by (repeat (first | (with_reducible assumption) | ((with_reducible apply Blk.new_at); focus (first | (simp; done) | (simp; omega))) | with_reducible apply Blk.alloc | with_reducible apply Blk.drew | with_reducible apply Blk.drewN | with_reducible apply Blk.set | ((with_reducible apply Blk.far); case hp => (first | (simp; done) | (dsimp only; omega))) | ((with_reducible apply Blk.ext); case he => with_reducible assumption)))
      have h5S : Blk w5 (w.heap.size + 1 + 1) #[.int .i64 S1, .int .i64 S2] 23 := (by (apply Blk.is; (case h => (repeat (first | (with_reducible assumption) | ((with_reducible apply Blk.new_at); focus (first | (simp; done) | (simp; omega))) | with_reducible apply Blk.alloc | with_reducible apply Blk.drew | with_reducible apply Blk.drewN | with_reducible apply Blk.set | ((with_reducible apply Blk.far); case hp => (first | (simp; done) | (dsimp only; omega))) | ((with_reducible apply Blk.ext); case he => with_reducible assumption)))); all_goals rfl)); obtain ⟨h5S1, h5S2, h5S3, h5S4⟩ := h5S.c2; have h5S5 := h5S.lt
      have h5L : Blk w5 W.heap.size #[.int .i64 d.lo, .int .i64 d.hi] 23 := by (repeat (first | (with_reducible assumption) | ((with_reducible apply Blk.new_at); focus (first | (simp; done) | (simp; omega))) | with_reducible apply Blk.alloc | with_reducible apply Blk.drew | with_reducible apply Blk.drewN | with_reducible apply Blk.set | ((with_reducible apply Blk.far); case hp => (first | (simp; done) | (dsimp only; omega))) | ((with_reducible apply Blk.ext); case he => with_reducible assumption)))
      have h5Tl := h5T.lt
      have h5Rl := h5R.lt
      have h5Ll := h5L.lt
      (try dsimp only)
      refine hK.out _ _ ?_ (fun hHeld => ?_)
      · exact ⟨(show Blk _ w.heap.size #[.slice (some ⟨bA, oA, none⟩) n c, .slice B m c2, .int .i64 lo, .int .i64 hi, .func (.func 113) #[] #[], .func (.func 114) #[] #[]] 150 from by (repeat (first | (with_reducible assumption) | ((with_reducible apply Blk.new_at); focus (first | (simp; done) | (simp; omega))) | with_reducible apply Blk.alloc | with_reducible apply Blk.drew | with_reducible apply Blk.drewN | with_reducible apply Blk.set | ((with_reducible apply Blk.far); case hp => (first | (simp; done) | (dsimp only; omega))) | ((with_reducible apply Blk.ext); case he => with_reducible assumption)))).cell 4, Blk.r2 (t := 23) (by (repeat (first | (with_reducible assumption) | ((with_reducible apply Blk.new_at); focus (first | (simp; done) | (simp; omega))) | with_reducible apply Blk.alloc | with_reducible apply Blk.drew | with_reducible apply Blk.drewN | with_reducible apply Blk.set | ((with_reducible apply Blk.far); case hp => (first | (simp; done) | (dsimp only; omega))) | ((with_reducible apply Blk.ext); case he => with_reducible assumption))))⟩
      clear hK K
      refine wpAnyH_take (i := 9) (oi := _) (v := ?vax9) rfl (by kernel_rfl) (by kernel_rfl) (by kernel_rfl) (fun _ _ _ h => h) (Or.inl ⟨by rfl, ?hyax9⟩) (by assumption) ?restax9; (case hyax9 => (intro w hSw; (try dsimp only at hSw); go_simp; try (with_reducible rfl)))
      refine wpAnyH_take (i := 10) (oi := _) (v := ?vax10) rfl (by kernel_rfl) (by kernel_rfl) (by kernel_rfl) (fun _ _ _ h => h) (Or.inl ⟨by rfl, ?hyax10⟩) (by assumption) ?restax10; (case hyax10 => (intro w hSw; (try dsimp only at hSw); go_simp; try (with_reducible rfl)))
      refine wpAnyH_take (i := 11) (oi := _) (v := ?vax11) rfl (by kernel_rfl) (by kernel_rfl) (by kernel_rfl) (fun _ _ _ h => h) (Or.inl ⟨by rfl, ?hyax11⟩) (by assumption) ?restax11; (case hyax11 => (intro w hSw; (try dsimp only at hSw); go_simp; try (with_reducible rfl)))
      (simp only [Act.put, List.setIfInBounds_toArray])
      refine wpAnyH_ready (rs := [12]) (by kernel_rfl) (by simp) ?_; refine AllReadyH.cons (o := _) rfl (fun K hK => ?_) AllReadyH.nil; go_simp
      (try dsimp only)
      refine hK.out _ _ ?_ (fun hHeld => ?_)
      · exact ⟨(show Blk _ w.heap.size #[.slice (some ⟨bA, oA, none⟩) n c, .slice B m c2, .int .i64 lo, .int .i64 hi, .func (.func 113) #[] #[], .func (.func 114) #[] #[]] 150 from by (repeat (first | (with_reducible assumption) | ((with_reducible apply Blk.new_at); focus (first | (simp; done) | (simp; omega))) | with_reducible apply Blk.alloc | with_reducible apply Blk.drew | with_reducible apply Blk.drewN | with_reducible apply Blk.set | ((with_reducible apply Blk.far); case hp => (first | (simp; done) | (dsimp only; omega))) | ((with_reducible apply Blk.ext); case he => with_reducible assumption)))).cell 4, Blk.r2 (t := 23) (by (repeat (first | (with_reducible assumption) | ((with_reducible apply Blk.new_at); focus (first | (simp; done) | (simp; omega))) | with_reducible apply Blk.alloc | with_reducible apply Blk.drew | with_reducible apply Blk.drewN | with_reducible apply Blk.set | ((with_reducible apply Blk.far); case hp => (first | (simp; done) | (dsimp only; omega))) | ((with_reducible apply Blk.ext); case he => with_reducible assumption))))⟩
      clear hK K
      refine wpAnyH_done (by kernel_rfl) ?_ _
      refine NoOut.normal ?_
      gi_wp2
      refine wpIn_region_held (S := fun W' => W'.cell? ⟨w.heap.size, 5, none⟩ = some (.func (.func 114) #[] #[]) ∧ W'.cell? ⟨W.heap.size, 0, none⟩ = some (.int .i64 d.lo) ∧ W'.cell? ⟨W.heap.size, 1, none⟩ = some (.int .i64 d.hi)) (by kernel_rfl) (by kernel_rfl) ?_ (fun hHeld => ?_)
      · exact ⟨(show Blk _ w.heap.size #[.slice (some ⟨bA, oA, none⟩) n c, .slice B m c2, .int .i64 lo, .int .i64 hi, .func (.func 113) #[] #[], .func (.func 114) #[] #[]] 150 from by (repeat (first | (with_reducible assumption) | ((with_reducible apply Blk.new_at); focus (first | (simp; done) | (simp; omega))) | with_reducible apply Blk.alloc | with_reducible apply Blk.drew | with_reducible apply Blk.drewN | with_reducible apply Blk.set | ((with_reducible apply Blk.far); case hp => (first | (simp; done) | (dsimp only; omega))) | ((with_reducible apply Blk.ext); case he => with_reducible assumption)))).cell 5, Blk.r2 (t := 23) (by (repeat (first | (with_reducible assumption) | ((with_reducible apply Blk.new_at); focus (first | (simp; done) | (simp; omega))) | with_reducible apply Blk.alloc | with_reducible apply Blk.drew | with_reducible apply Blk.drewN | with_reducible apply Blk.set | ((with_reducible apply Blk.far); case hp => (first | (simp; done) | (dsimp only; omega))) | ((with_reducible apply Blk.ext); case he => with_reducible assumption))))⟩
      refine wpAnyH_take (i := 0) (oi := _) (v := ?vax0) rfl (by kernel_rfl) (by kernel_rfl) (by kernel_rfl) (fun _ _ _ h => h) (Or.inl ⟨by rfl, ?hyax0⟩) (by assumption) ?restax0; (case hyax0 => (intro w hSw; (try dsimp only at hSw); go_simp; try (with_reducible rfl)))
      refine wpAnyH_take (i := 2) (oi := _) (v := ?vax2) rfl (by kernel_rfl) (by kernel_rfl) (by kernel_rfl) (fun _ _ _ h => h) (Or.inl ⟨by rfl, ?hyax2⟩) (by assumption) ?restax2; (case hyax2 => (intro w hSw; (try dsimp only at hSw); go_simp; try (with_reducible rfl)))
      refine wpAnyH_take (i := 3) (oi := _) (v := ?vax3) rfl (by kernel_rfl) (by kernel_rfl) (by kernel_rfl) (fun _ _ _ h => h) (Or.inl ⟨by rfl, ?hyax3⟩) (by assumption) ?restax3; (case hyax3 => (intro w hSw; (try dsimp only at hSw); go_simp; try (with_reducible rfl)))
      refine wpAnyH_take (i := 4) (oi := _) (v := ?vax4) rfl (by kernel_rfl) (by kernel_rfl) (by kernel_rfl) (fun _ _ _ h => h) (Or.inl ⟨by rfl, ?hyax4⟩) (by assumption) ?restax4; (case hyax4 => (intro w hSw; (try dsimp only at hSw); go_simp; try (with_reducible rfl)))
      refine wpAnyH_take (i := 5) (oi := _) (v := ?vax5) rfl (by kernel_rfl) (by kernel_rfl) (by kernel_rfl) (fun _ _ _ h => h) (Or.inl ⟨by rfl, ?hyax5⟩) (by assumption) ?restax5; (case hyax5 => (intro w hSw; (try dsimp only at hSw); go_simp; try (with_reducible rfl)))
      refine wpAnyH_take (i := 6) (oi := _) (v := ?vax6) rfl (by kernel_rfl) (by kernel_rfl) (by kernel_rfl) (fun _ _ _ h => h) (Or.inl ⟨by rfl, ?hyax6⟩) (by assumption) ?restax6; (case hyax6 => (intro w hSw; (try dsimp only at hSw); go_simp; try (with_reducible rfl)))
      refine wpAnyH_take (i := 7) (oi := _) (v := ?vax7) rfl (by kernel_rfl) (by kernel_rfl) (by kernel_rfl) (fun _ _ _ h => h) (Or.inl ⟨by rfl, ?hyax7⟩) (by assumption) ?restax7; (case hyax7 => (intro w hSw; (try dsimp only at hSw); go_simp; try (with_reducible rfl)))
      (simp only [Act.put, List.setIfInBounds_toArray])
      refine wpAnyH_ready (rs := [1, 8]) (by kernel_rfl) (by simp) ?_
      refine AllReadyH.cons (o := _) rfl (fun K hK => ?_) (AllReadyH.cons (o := _) rfl (fun K hK => ?_) AllReadyH.nil)
      · go_simp
        (try dsimp only)
        refine hK.out _ _ ?_ (fun hHeld => ?_)
        · exact ⟨(show Blk _ w.heap.size #[.slice (some ⟨bA, oA, none⟩) n c, .slice B m c2, .int .i64 lo, .int .i64 hi, .func (.func 113) #[] #[], .func (.func 114) #[] #[]] 150 from by (repeat (first | (with_reducible assumption) | ((with_reducible apply Blk.new_at); focus (first | (simp; done) | (simp; omega))) | with_reducible apply Blk.alloc | with_reducible apply Blk.drew | with_reducible apply Blk.drewN | with_reducible apply Blk.set | ((with_reducible apply Blk.far); case hp => (first | (simp; done) | (dsimp only; omega))) | ((with_reducible apply Blk.ext); case he => with_reducible assumption)))).cell 5, Blk.r2 (t := 23) (by (repeat (first | (with_reducible assumption) | ((with_reducible apply Blk.new_at); focus (first | (simp; done) | (simp; omega))) | with_reducible apply Blk.alloc | with_reducible apply Blk.drew | with_reducible apply Blk.drewN | with_reducible apply Blk.set | ((with_reducible apply Blk.far); case hp => (first | (simp; done) | (dsimp only; omega))) | ((with_reducible apply Blk.ext); case he => with_reducible assumption))))⟩
        clear hK K
        refine wpAnyH_ready (rs := [8]) (by kernel_rfl) (by simp) ?_; refine AllReadyH.cons (o := _) rfl (fun K hK => ?_) AllReadyH.nil; go_simp
        refine (high_any d.lo d.hi sg hsg1 _).mono ?_
        rintro e w6 ⟨rfl, h6⟩
        have h6T : Blk w6 w.heap.size #[.slice (some ⟨bA, oA, none⟩) n c, .slice B m c2, .int .i64 lo, .int .i64 hi, .func (.func 113) #[] #[], .func (.func 114) #[] #[]] 150 := by (repeat (first | (with_reducible assumption) | ((with_reducible apply Blk.new_at); focus (first | (simp; done) | (simp; omega))) | with_reducible apply Blk.alloc | with_reducible apply Blk.drew | with_reducible apply Blk.drewN | with_reducible apply Blk.set | ((with_reducible apply Blk.far); case hp => (first | (simp; done) | (dsimp only; omega))) | ((with_reducible apply Blk.ext); case he => with_reducible assumption)))
        have h6R : Blk w6 (w.heap.size + 1) #[.int .i64 0, .int .i64 0] 23 := by (repeat (first | (with_reducible assumption) | ((with_reducible apply Blk.new_at); focus (first | (simp; done) | (simp; omega))) | with_reducible apply Blk.alloc | with_reducible apply Blk.drew | with_reducible apply Blk.drewN | with_reducible apply Blk.set | ((with_reducible apply Blk.far); case hp => (first | (simp; done) | (dsimp only; omega))) | ((with_reducible apply Blk.ext); case he => with_reducible assumption)))
        have h6S : Blk w6 (w.heap.size + 1 + 1) #[.int .i64 N1, .int .i64 S2] 23 := (by (apply Blk.is; (case h => (repeat (first | (with_reducible assumption) | ((with_reducible apply Blk.new_at); focus (first | (simp; done) | (simp; omega))) | with_reducible apply Blk.alloc | with_reducible apply Blk.drew | with_reducible apply Blk.drewN | with_reducible apply Blk.set | ((with_reducible apply Blk.far); case hp => (first | (simp; done) | (dsimp only; omega))) | ((with_reducible apply Blk.ext); case he => with_reducible assumption)))); all_goals rfl)); obtain ⟨h6S1, h6S2, h6S3, h6S4⟩ := h6S.c2; have h6S5 := h6S.lt
        have h6L : Blk w6 W.heap.size #[.int .i64 d.lo, .int .i64 d.hi] 23 := by (repeat (first | (with_reducible assumption) | ((with_reducible apply Blk.new_at); focus (first | (simp; done) | (simp; omega))) | with_reducible apply Blk.alloc | with_reducible apply Blk.drew | with_reducible apply Blk.drewN | with_reducible apply Blk.set | ((with_reducible apply Blk.far); case hp => (first | (simp; done) | (dsimp only; omega))) | ((with_reducible apply Blk.ext); case he => with_reducible assumption)))
        have h6Tl := h6T.lt
        have h6Rl := h6R.lt
        have h6Ll := h6L.lt
        (try dsimp only)
        refine hK.out _ _ ?_ (fun hHeld => ?_)
        · exact ⟨(show Blk _ w.heap.size #[.slice (some ⟨bA, oA, none⟩) n c, .slice B m c2, .int .i64 lo, .int .i64 hi, .func (.func 113) #[] #[], .func (.func 114) #[] #[]] 150 from by (repeat (first | (with_reducible assumption) | ((with_reducible apply Blk.new_at); focus (first | (simp; done) | (simp; omega))) | with_reducible apply Blk.alloc | with_reducible apply Blk.drew | with_reducible apply Blk.drewN | with_reducible apply Blk.set | ((with_reducible apply Blk.far); case hp => (first | (simp; done) | (dsimp only; omega))) | ((with_reducible apply Blk.ext); case he => with_reducible assumption)))).cell 5, Blk.r2 (t := 23) (by (repeat (first | (with_reducible assumption) | ((with_reducible apply Blk.new_at); focus (first | (simp; done) | (simp; omega))) | with_reducible apply Blk.alloc | with_reducible apply Blk.drew | with_reducible apply Blk.drewN | with_reducible apply Blk.set | ((with_reducible apply Blk.far); case hp => (first | (simp; done) | (dsimp only; omega))) | ((with_reducible apply Blk.ext); case he => with_reducible assumption))))⟩
        clear hK K
        refine wpAnyH_take (i := 9) (oi := _) (v := ?vaxx9) rfl (by kernel_rfl) (by kernel_rfl) (by kernel_rfl) (fun _ _ _ h => h) (Or.inl ⟨by rfl, ?hyaxx9⟩) (by assumption) ?restaxx9; (case hyaxx9 => (intro w hSw; (try dsimp only at hSw); go_simp; try (with_reducible rfl)))
        refine wpAnyH_take (i := 10) (oi := _) (v := ?vaxx10) rfl (by kernel_rfl) (by kernel_rfl) (by kernel_rfl) (fun _ _ _ h => h) (Or.inl ⟨by rfl, ?hyaxx10⟩) (by assumption) ?restaxx10; (case hyaxx10 => (intro w hSw; (try dsimp only at hSw); go_simp; try (with_reducible rfl)))
        refine wpAnyH_take (i := 11) (oi := _) (v := ?vaxx11) rfl (by kernel_rfl) (by kernel_rfl) (by kernel_rfl) (fun _ _ _ h => h) (Or.inl ⟨by rfl, ?hyaxx11⟩) (by assumption) ?restaxx11; (case hyaxx11 => (intro w hSw; (try dsimp only at hSw); go_simp; try (with_reducible rfl)))
        (simp only [Act.put, List.setIfInBounds_toArray])
        refine wpAnyH_ready (rs := [12]) (by kernel_rfl) (by simp) ?_; refine AllReadyH.cons (o := _) rfl (fun K hK => ?_) AllReadyH.nil; go_simp
        (try dsimp only)
        refine hK.out _ _ ?_ (fun hHeld => ?_)
        · exact ⟨(show Blk _ w.heap.size #[.slice (some ⟨bA, oA, none⟩) n c, .slice B m c2, .int .i64 lo, .int .i64 hi, .func (.func 113) #[] #[], .func (.func 114) #[] #[]] 150 from by (repeat (first | (with_reducible assumption) | ((with_reducible apply Blk.new_at); focus (first | (simp; done) | (simp; omega))) | with_reducible apply Blk.alloc | with_reducible apply Blk.drew | with_reducible apply Blk.drewN | with_reducible apply Blk.set | ((with_reducible apply Blk.far); case hp => (first | (simp; done) | (dsimp only; omega))) | ((with_reducible apply Blk.ext); case he => with_reducible assumption)))).cell 5, Blk.r2 (t := 23) (by (repeat (first | (with_reducible assumption) | ((with_reducible apply Blk.new_at); focus (first | (simp; done) | (simp; omega))) | with_reducible apply Blk.alloc | with_reducible apply Blk.drew | with_reducible apply Blk.drewN | with_reducible apply Blk.set | ((with_reducible apply Blk.far); case hp => (first | (simp; done) | (dsimp only; omega))) | ((with_reducible apply Blk.ext); case he => with_reducible assumption))))⟩
        clear hK K
        refine wpAnyH_done (by kernel_rfl) ?_ _
        refine NoOut.normal ?_
        gi_wp2
        refine ⟨KB.keeps (B := w.heap.size) (by (repeat (first | (with_reducible assumption) | ((with_reducible apply KB.refl); (first | assumption | omega)) | with_reducible apply KB.alloc | with_reducible apply KB.drew | ((with_reducible apply KB.set); case hp => (first | (simp; done) | (dsimp only; omega) | omega)) | ((with_reducible apply KB.ext); case he => with_reducible assumption)))) (by omega), KB.below (by (repeat (first | (with_reducible assumption) | ((with_reducible apply KB.refl); (first | assumption | omega)) | with_reducible apply KB.alloc | with_reducible apply KB.drew | ((with_reducible apply KB.set); case hp => (first | (simp; done) | (dsimp only; omega) | omega)) | ((with_reducible apply KB.ext); case he => with_reducible assumption)))), ?_⟩
        exact ⟨⟨⟨by (repeat (first | (with_reducible assumption) | ((with_reducible apply Blk.new_at); focus (first | (simp; done) | (simp; omega))) | with_reducible apply Blk.alloc | with_reducible apply Blk.drew | with_reducible apply Blk.drewN | with_reducible apply Blk.set | ((with_reducible apply Blk.far); case hp => (first | (simp; done) | (dsimp only; omega))) | ((with_reducible apply Blk.ext); case he => with_reducible assumption))), by (repeat (first | (with_reducible assumption) | ((with_reducible apply Blk.new_at); focus (first | (simp; done) | (simp; omega))) | with_reducible apply Blk.alloc | with_reducible apply Blk.drew | with_reducible apply Blk.drewN | with_reducible apply Blk.set | ((with_reducible apply Blk.far); case hp => (first | (simp; done) | (dsimp only; omega))) | ((with_reducible apply Blk.ext); case he => with_reducible assumption)))⟩, Blk.is (cs := #[.int .i64 N1, .int .i64 N2]) (by (apply Blk.is; (case h => (repeat (first | (with_reducible assumption) | ((with_reducible apply Blk.new_at); focus (first | (simp; done) | (simp; omega))) | with_reducible apply Blk.alloc | with_reducible apply Blk.drew | with_reducible apply Blk.drewN | with_reducible apply Blk.set | ((with_reducible apply Blk.far); case hp => (first | (simp; done) | (dsimp only; omega))) | ((with_reducible apply Blk.ext); case he => with_reducible assumption)))); all_goals rfl)) (by rw [← HN.out.1, ← HN.out.2])⟩, qB.trans (KB.below (by (repeat (first | (with_reducible assumption) | ((with_reducible apply KB.refl); (first | assumption | omega)) | with_reducible apply KB.alloc | with_reducible apply KB.drew | ((with_reducible apply KB.set); case hp => (first | (simp; done) | (dsimp only; omega) | omega)) | ((with_reducible apply KB.ext); case he => with_reducible assumption)))))⟩
      · go_simp
        refine (high_any d.lo d.hi sg hsg1 _).mono ?_
        rintro e w6 ⟨rfl, h6⟩
        have h6T : Blk w6 w.heap.size #[.slice (some ⟨bA, oA, none⟩) n c, .slice B m c2, .int .i64 lo, .int .i64 hi, .func (.func 113) #[] #[], .func (.func 114) #[] #[]] 150 := by (repeat (first | (with_reducible assumption) | ((with_reducible apply Blk.new_at); focus (first | (simp; done) | (simp; omega))) | with_reducible apply Blk.alloc | with_reducible apply Blk.drew | with_reducible apply Blk.drewN | with_reducible apply Blk.set | ((with_reducible apply Blk.far); case hp => (first | (simp; done) | (dsimp only; omega))) | ((with_reducible apply Blk.ext); case he => with_reducible assumption)))
        have h6R : Blk w6 (w.heap.size + 1) #[.int .i64 0, .int .i64 0] 23 := by (repeat (first | (with_reducible assumption) | ((with_reducible apply Blk.new_at); focus (first | (simp; done) | (simp; omega))) | with_reducible apply Blk.alloc | with_reducible apply Blk.drew | with_reducible apply Blk.drewN | with_reducible apply Blk.set | ((with_reducible apply Blk.far); case hp => (first | (simp; done) | (dsimp only; omega))) | ((with_reducible apply Blk.ext); case he => with_reducible assumption)))
        have h6S : Blk w6 (w.heap.size + 1 + 1) #[.int .i64 N1, .int .i64 S2] 23 := (by (apply Blk.is; (case h => (repeat (first | (with_reducible assumption) | ((with_reducible apply Blk.new_at); focus (first | (simp; done) | (simp; omega))) | with_reducible apply Blk.alloc | with_reducible apply Blk.drew | with_reducible apply Blk.drewN | with_reducible apply Blk.set | ((with_reducible apply Blk.far); case hp => (first | (simp; done) | (dsimp only; omega))) | ((with_reducible apply Blk.ext); case he => with_reducible assumption)))); all_goals rfl)); obtain ⟨h6S1, h6S2, h6S3, h6S4⟩ := h6S.c2; have h6S5 := h6S.lt
        have h6L : Blk w6 W.heap.size #[.int .i64 d.lo, .int .i64 d.hi] 23 := by (repeat (first | (with_reducible assumption) | ((with_reducible apply Blk.new_at); focus (first | (simp; done) | (simp; omega))) | with_reducible apply Blk.alloc | with_reducible apply Blk.drew | with_reducible apply Blk.drewN | with_reducible apply Blk.set | ((with_reducible apply Blk.far); case hp => (first | (simp; done) | (dsimp only; omega))) | ((with_reducible apply Blk.ext); case he => with_reducible assumption)))
        have h6Tl := h6T.lt
        have h6Rl := h6R.lt
        have h6Ll := h6L.lt
        (try dsimp only)
        refine hK.out _ _ ?_ (fun hHeld => ?_)
        · exact ⟨(show Blk _ w.heap.size #[.slice (some ⟨bA, oA, none⟩) n c, .slice B m c2, .int .i64 lo, .int .i64 hi, .func (.func 113) #[] #[], .func (.func 114) #[] #[]] 150 from by (repeat (first | (with_reducible assumption) | ((with_reducible apply Blk.new_at); focus (first | (simp; done) | (simp; omega))) | with_reducible apply Blk.alloc | with_reducible apply Blk.drew | with_reducible apply Blk.drewN | with_reducible apply Blk.set | ((with_reducible apply Blk.far); case hp => (first | (simp; done) | (dsimp only; omega))) | ((with_reducible apply Blk.ext); case he => with_reducible assumption)))).cell 5, Blk.r2 (t := 23) (by (repeat (first | (with_reducible assumption) | ((with_reducible apply Blk.new_at); focus (first | (simp; done) | (simp; omega))) | with_reducible apply Blk.alloc | with_reducible apply Blk.drew | with_reducible apply Blk.drewN | with_reducible apply Blk.set | ((with_reducible apply Blk.far); case hp => (first | (simp; done) | (dsimp only; omega))) | ((with_reducible apply Blk.ext); case he => with_reducible assumption))))⟩
        clear hK K
        refine wpAnyH_take (i := 9) (oi := _) (v := ?vaxy9) rfl (by kernel_rfl) (by kernel_rfl) (by kernel_rfl) (fun _ _ _ h => h) (Or.inl ⟨by rfl, ?hyaxy9⟩) (by assumption) ?restaxy9; (case hyaxy9 => (intro w hSw; (try dsimp only at hSw); go_simp; try (with_reducible rfl)))
        refine wpAnyH_ready (rs := [1]) (by kernel_rfl) (by simp) ?_; refine AllReadyH.cons (o := _) rfl (fun K hK => ?_) AllReadyH.nil; go_simp
        (try dsimp only)
        refine hK.out _ _ ?_ (fun hHeld => ?_)
        · exact ⟨(show Blk _ w.heap.size #[.slice (some ⟨bA, oA, none⟩) n c, .slice B m c2, .int .i64 lo, .int .i64 hi, .func (.func 113) #[] #[], .func (.func 114) #[] #[]] 150 from by (repeat (first | (with_reducible assumption) | ((with_reducible apply Blk.new_at); focus (first | (simp; done) | (simp; omega))) | with_reducible apply Blk.alloc | with_reducible apply Blk.drew | with_reducible apply Blk.drewN | with_reducible apply Blk.set | ((with_reducible apply Blk.far); case hp => (first | (simp; done) | (dsimp only; omega))) | ((with_reducible apply Blk.ext); case he => with_reducible assumption)))).cell 5, Blk.r2 (t := 23) (by (repeat (first | (with_reducible assumption) | ((with_reducible apply Blk.new_at); focus (first | (simp; done) | (simp; omega))) | with_reducible apply Blk.alloc | with_reducible apply Blk.drew | with_reducible apply Blk.drewN | with_reducible apply Blk.set | ((with_reducible apply Blk.far); case hp => (first | (simp; done) | (dsimp only; omega))) | ((with_reducible apply Blk.ext); case he => with_reducible assumption))))⟩
        clear hK K
        refine wpAnyH_take (i := 10) (oi := _) (v := ?vaxy10) rfl (by kernel_rfl) (by kernel_rfl) (by kernel_rfl) (fun _ _ _ h => h) (Or.inl ⟨by rfl, ?hyaxy10⟩) (by assumption) ?restaxy10; (case hyaxy10 => (intro w hSw; (try dsimp only at hSw); go_simp; try (with_reducible rfl)))
        refine wpAnyH_take (i := 11) (oi := _) (v := ?vaxy11) rfl (by kernel_rfl) (by kernel_rfl) (by kernel_rfl) (fun _ _ _ h => h) (Or.inl ⟨by rfl, ?hyaxy11⟩) (by assumption) ?restaxy11; (case hyaxy11 => (intro w hSw; (try dsimp only at hSw); go_simp; try (with_reducible rfl)))
        (simp only [Act.put, List.setIfInBounds_toArray])
        refine wpAnyH_ready (rs := [12]) (by kernel_rfl) (by simp) ?_; refine AllReadyH.cons (o := _) rfl (fun K hK => ?_) AllReadyH.nil; go_simp
        (try dsimp only)
        refine hK.out _ _ ?_ (fun hHeld => ?_)
        · exact ⟨(show Blk _ w.heap.size #[.slice (some ⟨bA, oA, none⟩) n c, .slice B m c2, .int .i64 lo, .int .i64 hi, .func (.func 113) #[] #[], .func (.func 114) #[] #[]] 150 from by (repeat (first | (with_reducible assumption) | ((with_reducible apply Blk.new_at); focus (first | (simp; done) | (simp; omega))) | with_reducible apply Blk.alloc | with_reducible apply Blk.drew | with_reducible apply Blk.drewN | with_reducible apply Blk.set | ((with_reducible apply Blk.far); case hp => (first | (simp; done) | (dsimp only; omega))) | ((with_reducible apply Blk.ext); case he => with_reducible assumption)))).cell 5, Blk.r2 (t := 23) (by (repeat (first | (with_reducible assumption) | ((with_reducible apply Blk.new_at); focus (first | (simp; done) | (simp; omega))) | with_reducible apply Blk.alloc | with_reducible apply Blk.drew | with_reducible apply Blk.drewN | with_reducible apply Blk.set | ((with_reducible apply Blk.far); case hp => (first | (simp; done) | (dsimp only; omega))) | ((with_reducible apply Blk.ext); case he => with_reducible assumption))))⟩
        clear hK K
        refine wpAnyH_done (by kernel_rfl) ?_ _
        refine NoOut.normal ?_
        gi_wp2
        refine ⟨KB.keeps (B := w.heap.size) (by (repeat (first | (with_reducible assumption) | ((with_reducible apply KB.refl); (first | assumption | omega)) | with_reducible apply KB.alloc | with_reducible apply KB.drew | ((with_reducible apply KB.set); case hp => (first | (simp; done) | (dsimp only; omega) | omega)) | ((with_reducible apply KB.ext); case he => with_reducible assumption)))) (by omega), KB.below (by (repeat (first | (with_reducible assumption) | ((with_reducible apply KB.refl); (first | assumption | omega)) | with_reducible apply KB.alloc | with_reducible apply KB.drew | ((with_reducible apply KB.set); case hp => (first | (simp; done) | (dsimp only; omega) | omega)) | ((with_reducible apply KB.ext); case he => with_reducible assumption)))), ?_⟩
        exact ⟨⟨⟨by (repeat (first | (with_reducible assumption) | ((with_reducible apply Blk.new_at); focus (first | (simp; done) | (simp; omega))) | with_reducible apply Blk.alloc | with_reducible apply Blk.drew | with_reducible apply Blk.drewN | with_reducible apply Blk.set | ((with_reducible apply Blk.far); case hp => (first | (simp; done) | (dsimp only; omega))) | ((with_reducible apply Blk.ext); case he => with_reducible assumption))), by (repeat (first | (with_reducible assumption) | ((with_reducible apply Blk.new_at); focus (first | (simp; done) | (simp; omega))) | with_reducible apply Blk.alloc | with_reducible apply Blk.drew | with_reducible apply Blk.drewN | with_reducible apply Blk.set | ((with_reducible apply Blk.far); case hp => (first | (simp; done) | (dsimp only; omega))) | ((with_reducible apply Blk.ext); case he => with_reducible assumption)))⟩, Blk.is (cs := #[.int .i64 N1, .int .i64 N2]) (by (apply Blk.is; (case h => (repeat (first | (with_reducible assumption) | ((with_reducible apply Blk.new_at); focus (first | (simp; done) | (simp; omega))) | with_reducible apply Blk.alloc | with_reducible apply Blk.drew | with_reducible apply Blk.drewN | with_reducible apply Blk.set | ((with_reducible apply Blk.far); case hp => (first | (simp; done) | (dsimp only; omega))) | ((with_reducible apply Blk.ext); case he => with_reducible assumption)))); all_goals rfl)) (by rw [← HN.out.1, ← HN.out.2])⟩, qB.trans (KB.below (by (repeat (first | (with_reducible assumption) | ((with_reducible apply KB.refl); (first | assumption | omega)) | with_reducible apply KB.alloc | with_reducible apply KB.drew | ((with_reducible apply KB.set); case hp => (first | (simp; done) | (dsimp only; omega) | omega)) | ((with_reducible apply KB.ext); case he => with_reducible assumption)))))⟩
    · go_simp
      refine (low_any d.lo d.hi sg _).mono ?_
      rintro e w5 ⟨rfl, h5⟩
      have h5T : Blk w5 w.heap.size #[.slice (some ⟨bA, oA, none⟩) n c, .slice B m c2, .int .i64 lo, .int .i64 hi, .func (.func 113) #[] #[], .func (.func 114) #[] #[]] 150 := by (repeat (first | (with_reducible assumption) | ((with_reducible apply Blk.new_at); focus (first | (simp; done) | (simp; omega))) | with_reducible apply Blk.alloc | with_reducible apply Blk.drew | with_reducible apply Blk.drewN | with_reducible apply Blk.set | ((with_reducible apply Blk.far); case hp => (first | (simp; done) | (dsimp only; omega))) | ((with_reducible apply Blk.ext); case he => with_reducible assumption)))
      have h5R : Blk w5 (w.heap.size + 1) #[.int .i64 0, .int .i64 0] 23 := by (repeat (first | (with_reducible assumption) | ((with_reducible apply Blk.new_at); focus (first | (simp; done) | (simp; omega))) | with_reducible apply Blk.alloc | with_reducible apply Blk.drew | with_reducible apply Blk.drewN | with_reducible apply Blk.set | ((with_reducible apply Blk.far); case hp => (first | (simp; done) | (dsimp only; omega))) | ((with_reducible apply Blk.ext); case he => with_reducible assumption)))
      have h5S : Blk w5 (w.heap.size + 1 + 1) #[.int .i64 S1, .int .i64 S2] 23 := (by (apply Blk.is; (case h => (repeat (first | (with_reducible assumption) | ((with_reducible apply Blk.new_at); focus (first | (simp; done) | (simp; omega))) | with_reducible apply Blk.alloc | with_reducible apply Blk.drew | with_reducible apply Blk.drewN | with_reducible apply Blk.set | ((with_reducible apply Blk.far); case hp => (first | (simp; done) | (dsimp only; omega))) | ((with_reducible apply Blk.ext); case he => with_reducible assumption)))); all_goals rfl)); obtain ⟨h5S1, h5S2, h5S3, h5S4⟩ := h5S.c2; have h5S5 := h5S.lt
      have h5L : Blk w5 W.heap.size #[.int .i64 d.lo, .int .i64 d.hi] 23 := by (repeat (first | (with_reducible assumption) | ((with_reducible apply Blk.new_at); focus (first | (simp; done) | (simp; omega))) | with_reducible apply Blk.alloc | with_reducible apply Blk.drew | with_reducible apply Blk.drewN | with_reducible apply Blk.set | ((with_reducible apply Blk.far); case hp => (first | (simp; done) | (dsimp only; omega))) | ((with_reducible apply Blk.ext); case he => with_reducible assumption)))
      have h5Tl := h5T.lt
      have h5Rl := h5R.lt
      have h5Ll := h5L.lt
      (try dsimp only)
      refine hK.out _ _ ?_ (fun hHeld => ?_)
      · exact ⟨(show Blk _ w.heap.size #[.slice (some ⟨bA, oA, none⟩) n c, .slice B m c2, .int .i64 lo, .int .i64 hi, .func (.func 113) #[] #[], .func (.func 114) #[] #[]] 150 from by (repeat (first | (with_reducible assumption) | ((with_reducible apply Blk.new_at); focus (first | (simp; done) | (simp; omega))) | with_reducible apply Blk.alloc | with_reducible apply Blk.drew | with_reducible apply Blk.drewN | with_reducible apply Blk.set | ((with_reducible apply Blk.far); case hp => (first | (simp; done) | (dsimp only; omega))) | ((with_reducible apply Blk.ext); case he => with_reducible assumption)))).cell 4, Blk.r2 (t := 23) (by (repeat (first | (with_reducible assumption) | ((with_reducible apply Blk.new_at); focus (first | (simp; done) | (simp; omega))) | with_reducible apply Blk.alloc | with_reducible apply Blk.drew | with_reducible apply Blk.drewN | with_reducible apply Blk.set | ((with_reducible apply Blk.far); case hp => (first | (simp; done) | (dsimp only; omega))) | ((with_reducible apply Blk.ext); case he => with_reducible assumption))))⟩
      clear hK K
      refine wpAnyH_take (i := 9) (oi := _) (v := ?vay9) rfl (by kernel_rfl) (by kernel_rfl) (by kernel_rfl) (fun _ _ _ h => h) (Or.inl ⟨by rfl, ?hyay9⟩) (by assumption) ?restay9; (case hyay9 => (intro w hSw; (try dsimp only at hSw); go_simp; try (with_reducible rfl)))
      refine wpAnyH_ready (rs := [1]) (by kernel_rfl) (by simp) ?_; refine AllReadyH.cons (o := _) rfl (fun K hK => ?_) AllReadyH.nil; go_simp
      (try dsimp only)
      refine hK.out _ _ ?_ (fun hHeld => ?_)
      · exact ⟨(show Blk _ w.heap.size #[.slice (some ⟨bA, oA, none⟩) n c, .slice B m c2, .int .i64 lo, .int .i64 hi, .func (.func 113) #[] #[], .func (.func 114) #[] #[]] 150 from by (repeat (first | (with_reducible assumption) | ((with_reducible apply Blk.new_at); focus (first | (simp; done) | (simp; omega))) | with_reducible apply Blk.alloc | with_reducible apply Blk.drew | with_reducible apply Blk.drewN | with_reducible apply Blk.set | ((with_reducible apply Blk.far); case hp => (first | (simp; done) | (dsimp only; omega))) | ((with_reducible apply Blk.ext); case he => with_reducible assumption)))).cell 4, Blk.r2 (t := 23) (by (repeat (first | (with_reducible assumption) | ((with_reducible apply Blk.new_at); focus (first | (simp; done) | (simp; omega))) | with_reducible apply Blk.alloc | with_reducible apply Blk.drew | with_reducible apply Blk.drewN | with_reducible apply Blk.set | ((with_reducible apply Blk.far); case hp => (first | (simp; done) | (dsimp only; omega))) | ((with_reducible apply Blk.ext); case he => with_reducible assumption))))⟩
      clear hK K
      refine wpAnyH_take (i := 10) (oi := _) (v := ?vay10) rfl (by kernel_rfl) (by kernel_rfl) (by kernel_rfl) (fun _ _ _ h => h) (Or.inl ⟨by rfl, ?hyay10⟩) (by assumption) ?restay10; (case hyay10 => (intro w hSw; (try dsimp only at hSw); go_simp; try (with_reducible rfl)))
      refine wpAnyH_take (i := 11) (oi := _) (v := ?vay11) rfl (by kernel_rfl) (by kernel_rfl) (by kernel_rfl) (fun _ _ _ h => h) (Or.inl ⟨by rfl, ?hyay11⟩) (by assumption) ?restay11; (case hyay11 => (intro w hSw; (try dsimp only at hSw); go_simp; try (with_reducible rfl)))
      (simp only [Act.put, List.setIfInBounds_toArray])
      refine wpAnyH_ready (rs := [12]) (by kernel_rfl) (by simp) ?_; refine AllReadyH.cons (o := _) rfl (fun K hK => ?_) AllReadyH.nil; go_simp
      (try dsimp only)
      refine hK.out _ _ ?_ (fun hHeld => ?_)
      · exact ⟨(show Blk _ w.heap.size #[.slice (some ⟨bA, oA, none⟩) n c, .slice B m c2, .int .i64 lo, .int .i64 hi, .func (.func 113) #[] #[], .func (.func 114) #[] #[]] 150 from by (repeat (first | (with_reducible assumption) | ((with_reducible apply Blk.new_at); focus (first | (simp; done) | (simp; omega))) | with_reducible apply Blk.alloc | with_reducible apply Blk.drew | with_reducible apply Blk.drewN | with_reducible apply Blk.set | ((with_reducible apply Blk.far); case hp => (first | (simp; done) | (dsimp only; omega))) | ((with_reducible apply Blk.ext); case he => with_reducible assumption)))).cell 4, Blk.r2 (t := 23) (by (repeat (first | (with_reducible assumption) | ((with_reducible apply Blk.new_at); focus (first | (simp; done) | (simp; omega))) | with_reducible apply Blk.alloc | with_reducible apply Blk.drew | with_reducible apply Blk.drewN | with_reducible apply Blk.set | ((with_reducible apply Blk.far); case hp => (first | (simp; done) | (dsimp only; omega))) | ((with_reducible apply Blk.ext); case he => with_reducible assumption))))⟩
      clear hK K
      refine wpAnyH_done (by kernel_rfl) ?_ _
      refine NoOut.normal ?_
      gi_wp2
      refine wpIn_region_held (S := fun W' => W'.cell? ⟨w.heap.size, 5, none⟩ = some (.func (.func 114) #[] #[]) ∧ W'.cell? ⟨W.heap.size, 0, none⟩ = some (.int .i64 d.lo) ∧ W'.cell? ⟨W.heap.size, 1, none⟩ = some (.int .i64 d.hi)) (by kernel_rfl) (by kernel_rfl) ?_ (fun hHeld => ?_)
      · exact ⟨(show Blk _ w.heap.size #[.slice (some ⟨bA, oA, none⟩) n c, .slice B m c2, .int .i64 lo, .int .i64 hi, .func (.func 113) #[] #[], .func (.func 114) #[] #[]] 150 from by (repeat (first | (with_reducible assumption) | ((with_reducible apply Blk.new_at); focus (first | (simp; done) | (simp; omega))) | with_reducible apply Blk.alloc | with_reducible apply Blk.drew | with_reducible apply Blk.drewN | with_reducible apply Blk.set | ((with_reducible apply Blk.far); case hp => (first | (simp; done) | (dsimp only; omega))) | ((with_reducible apply Blk.ext); case he => with_reducible assumption)))).cell 5, Blk.r2 (t := 23) (by (repeat (first | (with_reducible assumption) | ((with_reducible apply Blk.new_at); focus (first | (simp; done) | (simp; omega))) | with_reducible apply Blk.alloc | with_reducible apply Blk.drew | with_reducible apply Blk.drewN | with_reducible apply Blk.set | ((with_reducible apply Blk.far); case hp => (first | (simp; done) | (dsimp only; omega))) | ((with_reducible apply Blk.ext); case he => with_reducible assumption))))⟩
      refine wpAnyH_take (i := 0) (oi := _) (v := ?vay0) rfl (by kernel_rfl) (by kernel_rfl) (by kernel_rfl) (fun _ _ _ h => h) (Or.inl ⟨by rfl, ?hyay0⟩) (by assumption) ?restay0; (case hyay0 => (intro w hSw; (try dsimp only at hSw); go_simp; try (with_reducible rfl)))
      refine wpAnyH_take (i := 2) (oi := _) (v := ?vay2) rfl (by kernel_rfl) (by kernel_rfl) (by kernel_rfl) (fun _ _ _ h => h) (Or.inl ⟨by rfl, ?hyay2⟩) (by assumption) ?restay2; (case hyay2 => (intro w hSw; (try dsimp only at hSw); go_simp; try (with_reducible rfl)))
      refine wpAnyH_take (i := 3) (oi := _) (v := ?vay3) rfl (by kernel_rfl) (by kernel_rfl) (by kernel_rfl) (fun _ _ _ h => h) (Or.inl ⟨by rfl, ?hyay3⟩) (by assumption) ?restay3; (case hyay3 => (intro w hSw; (try dsimp only at hSw); go_simp; try (with_reducible rfl)))
      refine wpAnyH_take (i := 4) (oi := _) (v := ?vay4) rfl (by kernel_rfl) (by kernel_rfl) (by kernel_rfl) (fun _ _ _ h => h) (Or.inl ⟨by rfl, ?hyay4⟩) (by assumption) ?restay4; (case hyay4 => (intro w hSw; (try dsimp only at hSw); go_simp; try (with_reducible rfl)))
      refine wpAnyH_take (i := 5) (oi := _) (v := ?vay5) rfl (by kernel_rfl) (by kernel_rfl) (by kernel_rfl) (fun _ _ _ h => h) (Or.inl ⟨by rfl, ?hyay5⟩) (by assumption) ?restay5; (case hyay5 => (intro w hSw; (try dsimp only at hSw); go_simp; try (with_reducible rfl)))
      refine wpAnyH_take (i := 6) (oi := _) (v := ?vay6) rfl (by kernel_rfl) (by kernel_rfl) (by kernel_rfl) (fun _ _ _ h => h) (Or.inl ⟨by rfl, ?hyay6⟩) (by assumption) ?restay6; (case hyay6 => (intro w hSw; (try dsimp only at hSw); go_simp; try (with_reducible rfl)))
      refine wpAnyH_take (i := 7) (oi := _) (v := ?vay7) rfl (by kernel_rfl) (by kernel_rfl) (by kernel_rfl) (fun _ _ _ h => h) (Or.inl ⟨by rfl, ?hyay7⟩) (by assumption) ?restay7; (case hyay7 => (intro w hSw; (try dsimp only at hSw); go_simp; try (with_reducible rfl)))
      (simp only [Act.put, List.setIfInBounds_toArray])
      refine wpAnyH_ready (rs := [1, 8]) (by kernel_rfl) (by simp) ?_
      refine AllReadyH.cons (o := _) rfl (fun K hK => ?_) (AllReadyH.cons (o := _) rfl (fun K hK => ?_) AllReadyH.nil)
      · go_simp
        (try dsimp only)
        refine hK.out _ _ ?_ (fun hHeld => ?_)
        · exact ⟨(show Blk _ w.heap.size #[.slice (some ⟨bA, oA, none⟩) n c, .slice B m c2, .int .i64 lo, .int .i64 hi, .func (.func 113) #[] #[], .func (.func 114) #[] #[]] 150 from by (repeat (first | (with_reducible assumption) | ((with_reducible apply Blk.new_at); focus (first | (simp; done) | (simp; omega))) | with_reducible apply Blk.alloc | with_reducible apply Blk.drew | with_reducible apply Blk.drewN | with_reducible apply Blk.set | ((with_reducible apply Blk.far); case hp => (first | (simp; done) | (dsimp only; omega))) | ((with_reducible apply Blk.ext); case he => with_reducible assumption)))).cell 5, Blk.r2 (t := 23) (by (repeat (first | (with_reducible assumption) | ((with_reducible apply Blk.new_at); focus (first | (simp; done) | (simp; omega))) | with_reducible apply Blk.alloc | with_reducible apply Blk.drew | with_reducible apply Blk.drewN | with_reducible apply Blk.set | ((with_reducible apply Blk.far); case hp => (first | (simp; done) | (dsimp only; omega))) | ((with_reducible apply Blk.ext); case he => with_reducible assumption))))⟩
        clear hK K
        refine wpAnyH_ready (rs := [8]) (by kernel_rfl) (by simp) ?_; refine AllReadyH.cons (o := _) rfl (fun K hK => ?_) AllReadyH.nil; go_simp
        refine (high_any d.lo d.hi sg hsg1 _).mono ?_
        rintro e w6 ⟨rfl, h6⟩
        have h6T : Blk w6 w.heap.size #[.slice (some ⟨bA, oA, none⟩) n c, .slice B m c2, .int .i64 lo, .int .i64 hi, .func (.func 113) #[] #[], .func (.func 114) #[] #[]] 150 := by (repeat (first | (with_reducible assumption) | ((with_reducible apply Blk.new_at); focus (first | (simp; done) | (simp; omega))) | with_reducible apply Blk.alloc | with_reducible apply Blk.drew | with_reducible apply Blk.drewN | with_reducible apply Blk.set | ((with_reducible apply Blk.far); case hp => (first | (simp; done) | (dsimp only; omega))) | ((with_reducible apply Blk.ext); case he => with_reducible assumption)))
        have h6R : Blk w6 (w.heap.size + 1) #[.int .i64 0, .int .i64 0] 23 := by (repeat (first | (with_reducible assumption) | ((with_reducible apply Blk.new_at); focus (first | (simp; done) | (simp; omega))) | with_reducible apply Blk.alloc | with_reducible apply Blk.drew | with_reducible apply Blk.drewN | with_reducible apply Blk.set | ((with_reducible apply Blk.far); case hp => (first | (simp; done) | (dsimp only; omega))) | ((with_reducible apply Blk.ext); case he => with_reducible assumption)))
        have h6S : Blk w6 (w.heap.size + 1 + 1) #[.int .i64 N1, .int .i64 S2] 23 := (by (apply Blk.is; (case h => (repeat (first | (with_reducible assumption) | ((with_reducible apply Blk.new_at); focus (first | (simp; done) | (simp; omega))) | with_reducible apply Blk.alloc | with_reducible apply Blk.drew | with_reducible apply Blk.drewN | with_reducible apply Blk.set | ((with_reducible apply Blk.far); case hp => (first | (simp; done) | (dsimp only; omega))) | ((with_reducible apply Blk.ext); case he => with_reducible assumption)))); all_goals rfl)); obtain ⟨h6S1, h6S2, h6S3, h6S4⟩ := h6S.c2; have h6S5 := h6S.lt
        have h6L : Blk w6 W.heap.size #[.int .i64 d.lo, .int .i64 d.hi] 23 := by (repeat (first | (with_reducible assumption) | ((with_reducible apply Blk.new_at); focus (first | (simp; done) | (simp; omega))) | with_reducible apply Blk.alloc | with_reducible apply Blk.drew | with_reducible apply Blk.drewN | with_reducible apply Blk.set | ((with_reducible apply Blk.far); case hp => (first | (simp; done) | (dsimp only; omega))) | ((with_reducible apply Blk.ext); case he => with_reducible assumption)))
        have h6Tl := h6T.lt
        have h6Rl := h6R.lt
        have h6Ll := h6L.lt
        (try dsimp only)
        refine hK.out _ _ ?_ (fun hHeld => ?_)
        · exact ⟨(show Blk _ w.heap.size #[.slice (some ⟨bA, oA, none⟩) n c, .slice B m c2, .int .i64 lo, .int .i64 hi, .func (.func 113) #[] #[], .func (.func 114) #[] #[]] 150 from by (repeat (first | (with_reducible assumption) | ((with_reducible apply Blk.new_at); focus (first | (simp; done) | (simp; omega))) | with_reducible apply Blk.alloc | with_reducible apply Blk.drew | with_reducible apply Blk.drewN | with_reducible apply Blk.set | ((with_reducible apply Blk.far); case hp => (first | (simp; done) | (dsimp only; omega))) | ((with_reducible apply Blk.ext); case he => with_reducible assumption)))).cell 5, Blk.r2 (t := 23) (by (repeat (first | (with_reducible assumption) | ((with_reducible apply Blk.new_at); focus (first | (simp; done) | (simp; omega))) | with_reducible apply Blk.alloc | with_reducible apply Blk.drew | with_reducible apply Blk.drewN | with_reducible apply Blk.set | ((with_reducible apply Blk.far); case hp => (first | (simp; done) | (dsimp only; omega))) | ((with_reducible apply Blk.ext); case he => with_reducible assumption))))⟩
        clear hK K
        refine wpAnyH_take (i := 9) (oi := _) (v := ?vayx9) rfl (by kernel_rfl) (by kernel_rfl) (by kernel_rfl) (fun _ _ _ h => h) (Or.inl ⟨by rfl, ?hyayx9⟩) (by assumption) ?restayx9; (case hyayx9 => (intro w hSw; (try dsimp only at hSw); go_simp; try (with_reducible rfl)))
        refine wpAnyH_take (i := 10) (oi := _) (v := ?vayx10) rfl (by kernel_rfl) (by kernel_rfl) (by kernel_rfl) (fun _ _ _ h => h) (Or.inl ⟨by rfl, ?hyayx10⟩) (by assumption) ?restayx10; (case hyayx10 => (intro w hSw; (try dsimp only at hSw); go_simp; try (with_reducible rfl)))
        refine wpAnyH_take (i := 11) (oi := _) (v := ?vayx11) rfl (by kernel_rfl) (by kernel_rfl) (by kernel_rfl) (fun _ _ _ h => h) (Or.inl ⟨by rfl, ?hyayx11⟩) (by assumption) ?restayx11; (case hyayx11 => (intro w hSw; (try dsimp only at hSw); go_simp; try (with_reducible rfl)))
        (simp only [Act.put, List.setIfInBounds_toArray])
        refine wpAnyH_ready (rs := [12]) (by kernel_rfl) (by simp) ?_; refine AllReadyH.cons (o := _) rfl (fun K hK => ?_) AllReadyH.nil; go_simp
        (try dsimp only)
        refine hK.out _ _ ?_ (fun hHeld => ?_)
        · exact ⟨(show Blk _ w.heap.size #[.slice (some ⟨bA, oA, none⟩) n c, .slice B m c2, .int .i64 lo, .int .i64 hi, .func (.func 113) #[] #[], .func (.func 114) #[] #[]] 150 from by (repeat (first | (with_reducible assumption) | ((with_reducible apply Blk.new_at); focus (first | (simp; done) | (simp; omega))) | with_reducible apply Blk.alloc | with_reducible apply Blk.drew | with_reducible apply Blk.drewN | with_reducible apply Blk.set | ((with_reducible apply Blk.far); case hp => (first | (simp; done) | (dsimp only; omega))) | ((with_reducible apply Blk.ext); case he => with_reducible assumption)))).cell 5, Blk.r2 (t := 23) (by (repeat (first | (with_reducible assumption) | ((with_reducible apply Blk.new_at); focus (first | (simp; done) | (simp; omega))) | with_reducible apply Blk.alloc | with_reducible apply Blk.drew | with_reducible apply Blk.drewN | with_reducible apply Blk.set | ((with_reducible apply Blk.far); case hp => (first | (simp; done) | (dsimp only; omega))) | ((with_reducible apply Blk.ext); case he => with_reducible assumption))))⟩
        clear hK K
        refine wpAnyH_done (by kernel_rfl) ?_ _
        refine NoOut.normal ?_
        gi_wp2
        refine ⟨KB.keeps (B := w.heap.size) (by (repeat (first | (with_reducible assumption) | ((with_reducible apply KB.refl); (first | assumption | omega)) | with_reducible apply KB.alloc | with_reducible apply KB.drew | ((with_reducible apply KB.set); case hp => (first | (simp; done) | (dsimp only; omega) | omega)) | ((with_reducible apply KB.ext); case he => with_reducible assumption)))) (by omega), KB.below (by (repeat (first | (with_reducible assumption) | ((with_reducible apply KB.refl); (first | assumption | omega)) | with_reducible apply KB.alloc | with_reducible apply KB.drew | ((with_reducible apply KB.set); case hp => (first | (simp; done) | (dsimp only; omega) | omega)) | ((with_reducible apply KB.ext); case he => with_reducible assumption)))), ?_⟩
        exact ⟨⟨⟨by (repeat (first | (with_reducible assumption) | ((with_reducible apply Blk.new_at); focus (first | (simp; done) | (simp; omega))) | with_reducible apply Blk.alloc | with_reducible apply Blk.drew | with_reducible apply Blk.drewN | with_reducible apply Blk.set | ((with_reducible apply Blk.far); case hp => (first | (simp; done) | (dsimp only; omega))) | ((with_reducible apply Blk.ext); case he => with_reducible assumption))), by (repeat (first | (with_reducible assumption) | ((with_reducible apply Blk.new_at); focus (first | (simp; done) | (simp; omega))) | with_reducible apply Blk.alloc | with_reducible apply Blk.drew | with_reducible apply Blk.drewN | with_reducible apply Blk.set | ((with_reducible apply Blk.far); case hp => (first | (simp; done) | (dsimp only; omega))) | ((with_reducible apply Blk.ext); case he => with_reducible assumption)))⟩, Blk.is (cs := #[.int .i64 N1, .int .i64 N2]) (by (apply Blk.is; (case h => (repeat (first | (with_reducible assumption) | ((with_reducible apply Blk.new_at); focus (first | (simp; done) | (simp; omega))) | with_reducible apply Blk.alloc | with_reducible apply Blk.drew | with_reducible apply Blk.drewN | with_reducible apply Blk.set | ((with_reducible apply Blk.far); case hp => (first | (simp; done) | (dsimp only; omega))) | ((with_reducible apply Blk.ext); case he => with_reducible assumption)))); all_goals rfl)) (by rw [← HN.out.1, ← HN.out.2])⟩, qB.trans (KB.below (by (repeat (first | (with_reducible assumption) | ((with_reducible apply KB.refl); (first | assumption | omega)) | with_reducible apply KB.alloc | with_reducible apply KB.drew | ((with_reducible apply KB.set); case hp => (first | (simp; done) | (dsimp only; omega) | omega)) | ((with_reducible apply KB.ext); case he => with_reducible assumption)))))⟩
      · go_simp
        refine (high_any d.lo d.hi sg hsg1 _).mono ?_
        rintro e w6 ⟨rfl, h6⟩
        have h6T : Blk w6 w.heap.size #[.slice (some ⟨bA, oA, none⟩) n c, .slice B m c2, .int .i64 lo, .int .i64 hi, .func (.func 113) #[] #[], .func (.func 114) #[] #[]] 150 := by (repeat (first | (with_reducible assumption) | ((with_reducible apply Blk.new_at); focus (first | (simp; done) | (simp; omega))) | with_reducible apply Blk.alloc | with_reducible apply Blk.drew | with_reducible apply Blk.drewN | with_reducible apply Blk.set | ((with_reducible apply Blk.far); case hp => (first | (simp; done) | (dsimp only; omega))) | ((with_reducible apply Blk.ext); case he => with_reducible assumption)))
        have h6R : Blk w6 (w.heap.size + 1) #[.int .i64 0, .int .i64 0] 23 := by (repeat (first | (with_reducible assumption) | ((with_reducible apply Blk.new_at); focus (first | (simp; done) | (simp; omega))) | with_reducible apply Blk.alloc | with_reducible apply Blk.drew | with_reducible apply Blk.drewN | with_reducible apply Blk.set | ((with_reducible apply Blk.far); case hp => (first | (simp; done) | (dsimp only; omega))) | ((with_reducible apply Blk.ext); case he => with_reducible assumption)))
        have h6S : Blk w6 (w.heap.size + 1 + 1) #[.int .i64 N1, .int .i64 S2] 23 := (by (apply Blk.is; (case h => (repeat (first | (with_reducible assumption) | ((with_reducible apply Blk.new_at); focus (first | (simp; done) | (simp; omega))) | with_reducible apply Blk.alloc | with_reducible apply Blk.drew | with_reducible apply Blk.drewN | with_reducible apply Blk.set | ((with_reducible apply Blk.far); case hp => (first | (simp; done) | (dsimp only; omega))) | ((with_reducible apply Blk.ext); case he => with_reducible assumption)))); all_goals rfl)); obtain ⟨h6S1, h6S2, h6S3, h6S4⟩ := h6S.c2; have h6S5 := h6S.lt
        have h6L : Blk w6 W.heap.size #[.int .i64 d.lo, .int .i64 d.hi] 23 := by (repeat (first | (with_reducible assumption) | ((with_reducible apply Blk.new_at); focus (first | (simp; done) | (simp; omega))) | with_reducible apply Blk.alloc | with_reducible apply Blk.drew | with_reducible apply Blk.drewN | with_reducible apply Blk.set | ((with_reducible apply Blk.far); case hp => (first | (simp; done) | (dsimp only; omega))) | ((with_reducible apply Blk.ext); case he => with_reducible assumption)))
        have h6Tl := h6T.lt
        have h6Rl := h6R.lt
        have h6Ll := h6L.lt
        (try dsimp only)
        refine hK.out _ _ ?_ (fun hHeld => ?_)
        · exact ⟨(show Blk _ w.heap.size #[.slice (some ⟨bA, oA, none⟩) n c, .slice B m c2, .int .i64 lo, .int .i64 hi, .func (.func 113) #[] #[], .func (.func 114) #[] #[]] 150 from by (repeat (first | (with_reducible assumption) | ((with_reducible apply Blk.new_at); focus (first | (simp; done) | (simp; omega))) | with_reducible apply Blk.alloc | with_reducible apply Blk.drew | with_reducible apply Blk.drewN | with_reducible apply Blk.set | ((with_reducible apply Blk.far); case hp => (first | (simp; done) | (dsimp only; omega))) | ((with_reducible apply Blk.ext); case he => with_reducible assumption)))).cell 5, Blk.r2 (t := 23) (by (repeat (first | (with_reducible assumption) | ((with_reducible apply Blk.new_at); focus (first | (simp; done) | (simp; omega))) | with_reducible apply Blk.alloc | with_reducible apply Blk.drew | with_reducible apply Blk.drewN | with_reducible apply Blk.set | ((with_reducible apply Blk.far); case hp => (first | (simp; done) | (dsimp only; omega))) | ((with_reducible apply Blk.ext); case he => with_reducible assumption))))⟩
        clear hK K
        refine wpAnyH_take (i := 9) (oi := _) (v := ?vayy9) rfl (by kernel_rfl) (by kernel_rfl) (by kernel_rfl) (fun _ _ _ h => h) (Or.inl ⟨by rfl, ?hyayy9⟩) (by assumption) ?restayy9; (case hyayy9 => (intro w hSw; (try dsimp only at hSw); go_simp; try (with_reducible rfl)))
        refine wpAnyH_ready (rs := [1]) (by kernel_rfl) (by simp) ?_; refine AllReadyH.cons (o := _) rfl (fun K hK => ?_) AllReadyH.nil; go_simp
        (try dsimp only)
        refine hK.out _ _ ?_ (fun hHeld => ?_)
        · exact ⟨(show Blk _ w.heap.size #[.slice (some ⟨bA, oA, none⟩) n c, .slice B m c2, .int .i64 lo, .int .i64 hi, .func (.func 113) #[] #[], .func (.func 114) #[] #[]] 150 from by (repeat (first | (with_reducible assumption) | ((with_reducible apply Blk.new_at); focus (first | (simp; done) | (simp; omega))) | with_reducible apply Blk.alloc | with_reducible apply Blk.drew | with_reducible apply Blk.drewN | with_reducible apply Blk.set | ((with_reducible apply Blk.far); case hp => (first | (simp; done) | (dsimp only; omega))) | ((with_reducible apply Blk.ext); case he => with_reducible assumption)))).cell 5, Blk.r2 (t := 23) (by (repeat (first | (with_reducible assumption) | ((with_reducible apply Blk.new_at); focus (first | (simp; done) | (simp; omega))) | with_reducible apply Blk.alloc | with_reducible apply Blk.drew | with_reducible apply Blk.drewN | with_reducible apply Blk.set | ((with_reducible apply Blk.far); case hp => (first | (simp; done) | (dsimp only; omega))) | ((with_reducible apply Blk.ext); case he => with_reducible assumption))))⟩
        clear hK K
        refine wpAnyH_take (i := 10) (oi := _) (v := ?vayy10) rfl (by kernel_rfl) (by kernel_rfl) (by kernel_rfl) (fun _ _ _ h => h) (Or.inl ⟨by rfl, ?hyayy10⟩) (by assumption) ?restayy10; (case hyayy10 => (intro w hSw; (try dsimp only at hSw); go_simp; try (with_reducible rfl)))
        refine wpAnyH_take (i := 11) (oi := _) (v := ?vayy11) rfl (by kernel_rfl) (by kernel_rfl) (by kernel_rfl) (fun _ _ _ h => h) (Or.inl ⟨by rfl, ?hyayy11⟩) (by assumption) ?restayy11; (case hyayy11 => (intro w hSw; (try dsimp only at hSw); go_simp; try (with_reducible rfl)))
        (simp only [Act.put, List.setIfInBounds_toArray])
        refine wpAnyH_ready (rs := [12]) (by kernel_rfl) (by simp) ?_; refine AllReadyH.cons (o := _) rfl (fun K hK => ?_) AllReadyH.nil; go_simp
        (try dsimp only)
        refine hK.out _ _ ?_ (fun hHeld => ?_)
        · exact ⟨(show Blk _ w.heap.size #[.slice (some ⟨bA, oA, none⟩) n c, .slice B m c2, .int .i64 lo, .int .i64 hi, .func (.func 113) #[] #[], .func (.func 114) #[] #[]] 150 from by (repeat (first | (with_reducible assumption) | ((with_reducible apply Blk.new_at); focus (first | (simp; done) | (simp; omega))) | with_reducible apply Blk.alloc | with_reducible apply Blk.drew | with_reducible apply Blk.drewN | with_reducible apply Blk.set | ((with_reducible apply Blk.far); case hp => (first | (simp; done) | (dsimp only; omega))) | ((with_reducible apply Blk.ext); case he => with_reducible assumption)))).cell 5, Blk.r2 (t := 23) (by (repeat (first | (with_reducible assumption) | ((with_reducible apply Blk.new_at); focus (first | (simp; done) | (simp; omega))) | with_reducible apply Blk.alloc | with_reducible apply Blk.drew | with_reducible apply Blk.drewN | with_reducible apply Blk.set | ((with_reducible apply Blk.far); case hp => (first | (simp; done) | (dsimp only; omega))) | ((with_reducible apply Blk.ext); case he => with_reducible assumption))))⟩
        clear hK K
        refine wpAnyH_done (by kernel_rfl) ?_ _
        refine NoOut.normal ?_
        gi_wp2
        refine ⟨KB.keeps (B := w.heap.size) (by (repeat (first | (with_reducible assumption) | ((with_reducible apply KB.refl); (first | assumption | omega)) | with_reducible apply KB.alloc | with_reducible apply KB.drew | ((with_reducible apply KB.set); case hp => (first | (simp; done) | (dsimp only; omega) | omega)) | ((with_reducible apply KB.ext); case he => with_reducible assumption)))) (by omega), KB.below (by (repeat (first | (with_reducible assumption) | ((with_reducible apply KB.refl); (first | assumption | omega)) | with_reducible apply KB.alloc | with_reducible apply KB.drew | ((with_reducible apply KB.set); case hp => (first | (simp; done) | (dsimp only; omega) | omega)) | ((with_reducible apply KB.ext); case he => with_reducible assumption)))), ?_⟩
        exact ⟨⟨⟨by (repeat (first | (with_reducible assumption) | ((with_reducible apply Blk.new_at); focus (first | (simp; done) | (simp; omega))) | with_reducible apply Blk.alloc | with_reducible apply Blk.drew | with_reducible apply Blk.drewN | with_reducible apply Blk.set | ((with_reducible apply Blk.far); case hp => (first | (simp; done) | (dsimp only; omega))) | ((with_reducible apply Blk.ext); case he => with_reducible assumption))), by (repeat (first | (with_reducible assumption) | ((with_reducible apply Blk.new_at); focus (first | (simp; done) | (simp; omega))) | with_reducible apply Blk.alloc | with_reducible apply Blk.drew | with_reducible apply Blk.drewN | with_reducible apply Blk.set | ((with_reducible apply Blk.far); case hp => (first | (simp; done) | (dsimp only; omega))) | ((with_reducible apply Blk.ext); case he => with_reducible assumption)))⟩, Blk.is (cs := #[.int .i64 N1, .int .i64 N2]) (by (apply Blk.is; (case h => (repeat (first | (with_reducible assumption) | ((with_reducible apply Blk.new_at); focus (first | (simp; done) | (simp; omega))) | with_reducible apply Blk.alloc | with_reducible apply Blk.drew | with_reducible apply Blk.drewN | with_reducible apply Blk.set | ((with_reducible apply Blk.far); case hp => (first | (simp; done) | (dsimp only; omega))) | ((with_reducible apply Blk.ext); case he => with_reducible assumption)))); all_goals rfl)) (by rw [← HN.out.1, ← HN.out.2])⟩, qB.trans (KB.below (by (repeat (first | (with_reducible assumption) | ((with_reducible apply KB.refl); (first | assumption | omega)) | with_reducible apply KB.alloc | with_reducible apply KB.drew | ((with_reducible apply KB.set); case hp => (first | (simp; done) | (dsimp only; omega) | omega)) | ((with_reducible apply KB.ext); case he => with_reducible assumption)))))⟩
  case done =>
    rintro D ys W hD rfl ⟨⟨⟨qT, qR⟩, qS⟩, qB⟩ hK
    have hv : valsK (upto f m) = cs := by
      rw [upto_valK HK.out.len f hf m (Nat.le_refl _), ← HK.out.len, List.take_length]
    rw [hv] at qS
    have hWs := qB.size
    have hSlt := qS.lt
    have hRlt := qR.lt
    obtain ⟨s1, s2, s3, s4⟩ := qS.c2
    obtain ⟨r1, r2, r3, r4⟩ := qR.c2
    gi_wp2
    have hkb : KB w.heap.size W W := KB.refl hWs
    obtain ⟨W2, hW2⟩ : ∃ W2, ((W.setCell ⟨w.heap.size + 1, 0, none⟩ (.int .i64 (endS 1 xs cs))).setCell ⟨w.heap.size + 1, 1, none⟩ (.int .i64 (endS (-1) xs cs))) = W2 := ⟨_, rfl⟩
    have k2 : Blk W2 (w.heap.size + 1) #[.int .i64 (endS 1 xs cs), .int .i64 (endS (-1) xs cs)] 23 := by rw [← hW2]; (apply Blk.is; (case h => (repeat (first | (with_reducible assumption) | ((with_reducible apply Blk.new_at); focus (first | (simp; done) | (simp; omega))) | with_reducible apply Blk.alloc | with_reducible apply Blk.drew | with_reducible apply Blk.drewN | with_reducible apply Blk.set | ((with_reducible apply Blk.far); case hp => (first | (simp; done) | (dsimp only; omega))) | ((with_reducible apply Blk.ext); case he => with_reducible assumption)))); all_goals rfl)
    have hkb2 : KB w.heap.size W W2 := by rw [← hW2]; (repeat (first | (with_reducible assumption) | ((with_reducible apply KB.refl); (first | assumption | omega)) | with_reducible apply KB.alloc | with_reducible apply KB.drew | ((with_reducible apply KB.set); case hp => (first | (simp; done) | (dsimp only; omega) | omega)) | ((with_reducible apply KB.ext); case he => with_reducible assumption)))
    rw [hW2]
    have hK' := (hkb2.keeps (B' := W0.heap.size) (by omega)).same D _ hD hK rfl
    refine endM_s rfl rfl hK' rfl k2 Try.underlying23 rfl (by exact szL) ?_
    exact ⟨rfl, (qB.trans hkb2.below).trans (belowK_b (w := w) (Nat.le_refl _) W2 D _ _ (by omega) hK' rfl rfl)⟩
  case stop =>
    rintro D c pre W _ _ h _
    exact h.elim
end Go.Proofs.Ytdcedfciaaooiaa
