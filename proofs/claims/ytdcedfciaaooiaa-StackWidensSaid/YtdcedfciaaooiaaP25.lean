/- part of a task: the walk. -/
import Derived.Test.YtdcedfciaaooiaaB25
import Derived.Test.YtdcedfciaaooiaaA25
set_option linter.unusedVariables false
namespace Go.Proofs.Ytdcedfciaaooiaa
open Go.RowKit Go.Shelf
attribute [local go_sem] Oper.semAt_some

/-- The least values of all dimensions. -/
def lows (xs : List Dim) : List Int := xs.map (·.lo)
/-- One link's value is laid: the least (t = 1) or the greatest (t = -1) end. -/
def layE (t : Int) (xs : List Dim) (vs : List Int) (x : Lk) : List Int := vs.set x.dim.toNat (lowV (dimK xs x).lo (dimK xs x).hi (t * sgn x))
def partL (t : Int) (xs : List Dim) (cs : List Lk) : List Int := cs.foldl (layE t xs) (lows xs)
theorem partL_snoc (t : Int) (xs : List Dim) (cs : List Lk) (x : Lk) : partL t xs (cs ++ [x]) = layE t xs (partL t xs cs) x := by simp [partL]
theorem lows_take {xs : List Dim} {n k : Nat} (hn : xs.length = n) (hk : k < n) : lows (xs.take (k + 1)) = lows (xs.take k) ++ [(xs.getD k zeroD).lo] := by
  rw [List.take_add_one, List.getElem?_eq_getElem (by omega), List.getD_eq_getElem?_getD, List.getElem?_eq_getElem (by omega)]
  simp only [lows, Option.toList_some, List.map_append, List.map_cons, List.map_nil, Option.getD_some]
def endFn (t : Int) : Nat := if t = 1 then 113 else 114

/-- The end of a walk with a range over a function in it: a slot. -/
theorem endM_t {F : Fence} {n : Nat} {P : Program} {fn : Func} {R : Ending → World → Prop} {a : Act} {w : World} {p1 : Tmp} {D : Nat} (hr : fn.results = #[.tmp p1])
    (hd : a.defers = [{ target := .collected D, args := #[] }]) (hK : w.heap[D]? = some (.deferred (some [])))
    (h : R (.returned (a.tmps.getD p1 undef)) (w.putObj D (.deferred none))) : bodyPostM F n P fn R .ret a w := by
  show LeavesInM F n P fn a.tmps R a.defers .returning w
  rw [hd]
  refine ⟨by simp, .inl ⟨_, _, rfl, run_takeDeferred hK, ?_⟩⟩
  exact ⟨_, outs_one hr (.tmp .nil), h⟩
theorem irow_own {β : Type} (base g n : Nat) (f : β → List Int) : Own (fun s W => ∃ cur, IRow W base g n cur (f s)) := fun s X Y row ⟨cur, h⟩ hg hrow => ⟨cur, h.1, blk_own g 3 (fun _ : Unit => cur) () X Y row h.2.1 hg hrow, h.2.2⟩
set_option maxRecDepth 100000 in
set_option maxHeartbeats 4000000 in
theorem part_any (t : Int) (k : Int) (ht : (t = 1 ∧ k = 0) ∨ (t = -1 ∧ k = 1)) (A B : Option Addr) (n m c c2 : Nat) (xs : List Dim) (cs : List Lk) (lo hi : Int) (w : World) (hx : Dims w A n xs) (hk : Lnks w B m cs) (hf : ∀ j, j < m → Fine xs (cs.getD j zeroK)) (hm : m ≤ 256) (hm0 : 0 < m) (hn : n ≤ 100000) :
    Calls Try.prog 93 #[.agg #[.slice A n c, .slice B m c2, .int .i64 lo, .int .i64 hi, .func (.func 113) #[] #[], .func (.func 114) #[] #[]], .int .i64 k] w
      (fun e w' => ∃ g cap cur, e = .returned (.slice (some ⟨g, 0, none⟩) n cap) ∧ IRow w' w.heap.size g n cur (partL t xs cs) ∧ Ext w w') := by
  have HX := Lib.hid hx
  have HK := Lib.hid hk
  have HF := Lib.hid hf
  have hxm := hx.max
  have hxl := hx.len
  have hn0 : 0 < n := by have := hf 0 hm0; have h1 := this.1; have h2 := this.2.1; omega
  obtain ⟨bA, oA, rfl, hcA⟩ := HX.out.at_ hn0
  have hbA : bA < w.heap.size := HX.out.below (by omega) bA oA rfl
  have HCA := Lib.hid hcA
  obtain ⟨i0, hi0, hz0, hz1, hz2⟩ := info_parts infoInt
  have hi' := Lib.hid hi0
  have hz0' := Lib.hid hz0
  have hz1' := Lib.hid hz1
  have hz2' := Lib.hid hz2
  clear hx hk hf hcA hi0 hz0 hz1 hz2
  refine (callsIn_wide (n := 3)).1 ?_
  refine callsIn_of_wp_marks Try.func93 rfl trivial ?_ rfl
  simp only [Try.ntmps93, List.size_toArray, List.length_cons, List.length_nil, Nat.reduceAdd, Nat.reduceSub, Array.replicate_succ, Array.replicate_zero, List.push_toArray, List.append_toArray, List.nil_append, List.cons_append]
  gi_wp2
  gi_loopw [14] (fun i wr => ∃ j : Nat, j ≤ n ∧ i = .int .i64 j ∧ Ext w wr ∧ Blk wr w.heap.size #[.slice (some ⟨bA, oA, none⟩) n c, .slice B m c2, .int .i64 lo, .int .i64 hi, .func (.func 113) #[] #[], .func (.func 114) #[] #[]] 150 ∧ Blk wr (w.heap.size + 1) #[.int .i64 k] 3 ∧
      ∃ v, Boxed wr (w.heap.size + 1 + 1) 91 v ∧ wr.ownsRow (w.heap.size + 1 + 1) 3 1 v j (flatI (lows (xs.take j)))) (fun i _ => n - (intOf i).toNat)
  case atStart =>
    refine ⟨0, Nat.zero_le _, rfl, by (repeat (first | (with_reducible assumption) | with_reducible exact Ext.refl _ | with_reducible apply Ext.alloc | with_reducible apply Ext.drew | with_reducible apply Ext.drewN | ((with_reducible apply Ext.set); case hp => (first | (simp; done) | (dsimp only; omega) | omega)) | ((with_reducible apply Ext.trans); case k => with_reducible assumption))), by (repeat (first | (with_reducible assumption) | ((with_reducible apply Blk.new_at); focus (first | (simp; done) | (simp; omega))) | with_reducible apply Blk.alloc | with_reducible apply Blk.drew | with_reducible apply Blk.drewN | with_reducible apply Blk.set | ((with_reducible apply Blk.far); case hp => (first | (simp; done) | (dsimp only; omega))) | ((with_reducible apply Blk.ext); case he => with_reducible assumption))), by (repeat (first | (with_reducible assumption) | ((with_reducible apply Blk.new_at); focus (first | (simp; done) | (simp; omega))) | with_reducible apply Blk.alloc | with_reducible apply Blk.drew | with_reducible apply Blk.drewN | with_reducible apply Blk.set | ((with_reducible apply Blk.far); case hp => (first | (simp; done) | (dsimp only; omega))) | ((with_reducible apply Blk.ext); case he => with_reducible assumption))), .slice none 0 0, (Blk.new_at _ _ _ _ (by simp) : Blk _ (w.heap.size + 1 + 1) #[.slice none 0 0] 91), World.ownsRow_nil _ _ _ _⟩
  case round =>
    obtain ⟨j, hj, rfl, hE, hT, hEn, v, hv, hrow⟩ := hrel
    have hTl := hT.lt
    have hEl := hEn.lt
    have hvl := hv.lt
    have hvc := hv.cell
    have hvf := hv.frozen
    by_cases hlt : j < n
    · obtain ⟨d, hd⟩ : ∃ d, xs.getD j zeroD = d := ⟨_, rfl⟩
      obtain ⟨a1, a2, a3, a4, a5⟩ := Dims.cells HCA.out hE j hlt d hd
      have hbl : bA < wr.heap.size := by have := hE.size; omega
      have hsn := lows_take hxl hlt
      rw [hd] at hsn
      have HSN := Lib.hid hsn
      clear hsn hd
      have hv5 : Boxed wr (w.heap.size + 1 + 1) 91 v := hv
      have hrow6 := hrow.alloc (.cells #[.string d.frm, .string d.to, .int .i64 d.axis, .int .i64 d.lo, .int .i64 d.hi] 40)
      gi_wp2_with (gi_at_builtin; refine wpListIn_append_own _ rfl _ _ 91 rfl (w.heap.size + 1 + 1) 3 i0 _ 1 8 Try.underlying91 hi'.out hz0'.out hz1'.out hz2'.out rfl (by decide) _ _ _ rfl (hrow6.alloc _) ⟨wr.heap.size + 1, 0, none⟩ 1 1 [.int .i64 d.lo] rfl rfl (by have := cells_one (wr.alloc (.cells #[.string d.frm, .string d.to, .int .i64 d.axis, .int .i64 d.lo, .int .i64 d.hi] 40)) (.int .i64 d.lo) 3; rw [World.size_alloc] at this; exact this) (by simp [Value.oneCell']) (by have : maxLen = 9223372036854775807 := rfl; omega) (by omega) (by simp; omega) ?_; intro v' w6 hown' hgrow _; obtain ⟨g', cap', rfl⟩ := ownsRow_succ hown'; obtain ⟨hv1, hv2, hr2, hk2, hb2⟩ := (hv5.alloc _).appended (by decide) hrow6 (by simp; omega) (Nat.le_refl _) hown' hgrow; have hc1 := hv1.cell; have hf1 := hv1.frozen)
      go_roundw
      case rel =>
        refine ⟨j + 1, by omega, by simp, ?_, (hb2.block _ (by omega)).trans (hT.alloc _), (hb2.block _ (by omega)).trans (hEn.alloc _), _, hv2, ?_⟩
        · exact Below.trans (Below.alloc hE hE.size _) (Below.mono hb2 (by omega))
        · rw [HSN.out, flatI_snoc]
          exact hr2
      case measure => simp [intOf]; omega
    · obtain rfl : n = j := by omega
      have hrow0 : wr.ownsRow (w.heap.size + 1 + 1) 3 1 v n (flatI (lows xs)) := by rw [show xs.take n = xs from by rw [← hxl, List.take_length]] at hrow; exact hrow
      obtain ⟨g, cap, cur, rfl, hR⟩ := ownsI hrow0 (by omega)
      clear hrow hrow0
      have t0 := hT.cell 0
      have t1 := hT.cell 1
      have t2 := hT.cell 2
      have t3 := hT.cell 3
      have t4 := hT.cell 4
      have t5 := hT.cell 5
      simp at t0 t1 t2 t3 t4 t5
      gi_wp2
      refine ⟨trivial, ?_⟩
      gi_at_call 94
      refine (callsIn_wide.2 (links_any (some ⟨bA, oA, none⟩) B n m c c2 lo hi _ _ _)).mono ?_
      rintro e w3 ⟨rfl, rfl⟩
      gi_wp2
      clear t0 t1 t2 t3 t4 t5
      have hge := hR.1
      have hgl := hR.lt
      obtain ⟨W0, hW0⟩ : ∃ W0, wr.alloc (.cells #[.slice (some ⟨bA, oA, none⟩) n c, .slice B m c2, .int .i64 lo, .int .i64 hi, .func (.func 113) #[] #[], .func (.func 114) #[] #[]] 150) = W0 := ⟨_, rfl⟩
      have bT : Blk W0 w.heap.size #[.slice (some ⟨bA, oA, none⟩) n c, .slice B m c2, .int .i64 lo, .int .i64 hi, .func (.func 113) #[] #[], .func (.func 114) #[] #[]] 150 := by rw [← hW0]; exact hT.alloc _
      have bE : Blk W0 (w.heap.size + 1) #[.int .i64 k] 3 := by rw [← hW0]; exact hEn.alloc _
      have bO : Blk W0 (w.heap.size + 1 + 1) #[.slice (some ⟨g, 0, none⟩) n cap] 91 := by rw [← hW0]; exact Blk.alloc hv _
      have bL : Blk W0 wr.heap.size #[.slice (some ⟨bA, oA, none⟩) n c, .slice B m c2, .int .i64 lo, .int .i64 hi, .func (.func 113) #[] #[], .func (.func 114) #[] #[]] 150 := by rw [← hW0]; exact Blk.new _ _ _
      have bR : IRow W0 (w.heap.size + 1 + 1) g n cur (lows xs) := by rw [← hW0]; exact hR.ext ((Ext.refl _).alloc _)
      have hE0 : Ext w W0 := by rw [← hW0]; exact hE.alloc _
      have hsz : W0.heap.size = wr.heap.size + 1 := by rw [← hW0]; simp
      rw [hW0]
      clear hW0 hT hEn hv hR hvc hvf
      have hcl := bL.cell 1
      simp at hcl
      obtain ⟨f, hf⟩ : ∃ f : Nat → FK xs, ∀ j, j < m → (f j).1 = cs.getD j zeroK := ⟨fth ⟨_, HF.out 0 hm0⟩ cs, fun j hj => fth_val (HF.out j hj)⟩
      -- RANGE BEGINS
      refine wpIn_rangeFunc_ownH rfl (by decide) (gf := 115) (lb := #[.pointer (some ⟨wr.heap.size, 0, none⟩)]) rfl trivial (enters_of Try.func115 (by kernel_rfl) rfl)
        (linksL_stops (fun x : FK xs => x.1) f Fence.wide (3 - 1) trivial rfl (by decide) wr.heap.size w.heap.size m c2 B cs W0 (by omega) (by omega) hcl (fun h0 b o hA => HK.out.below h0 b o hA) (HK.out.ext hE0) hf) belowK_t (belowK_b (by omega)) (Below.refl _ _) (fun _ => rfl)
        (fun pre W => (((Blk W w.heap.size #[.slice (some ⟨bA, oA, none⟩) n c, .slice B m c2, .int .i64 lo, .int .i64 hi, .func (.func 113) #[] #[], .func (.func 114) #[] #[]] 150 ∧ Blk W (w.heap.size + 1) #[.int .i64 k] 3) ∧ Blk W (w.heap.size + 1 + 1) #[.slice (some ⟨g, 0, none⟩) n cap] 91) ∧ (∃ cur, IRow W (w.heap.size + 1 + 1) g n cur (partL t xs (valsK pre)))) ∧ Below w.heap.size w W)
        (fun _ _ _ => False)
        (OwnFrom.and (OwnFrom.and (OwnFrom.and (OwnFrom.and (Own.from (blk_own _ _ _) _) (Own.from (blk_own _ _ _) _)) (Own.from (blk_own _ _ _) _)) (Own.from (irow_own _ _ _ (fun pre : List (FK xs) => partL t xs (valsK pre))) _)) (ownFrom_below (Nat.le_refl _) (by omega)))
        (fun _ _ _ _ _ hs _ _ => hs)
        ⟨⟨⟨⟨bT, bE⟩, bO⟩, ⟨cur, bR⟩⟩, hE0⟩
        (fun x a' _ => a' = { tmps := #[.agg #[.slice (some ⟨bA, oA, none⟩) n c, .slice B m c2, .int .i64 lo, .int .i64 hi, .func (.func 113) #[] #[], .func (.func 114) #[] #[]], .int .i64 k, .pointer (some ⟨w.heap.size, 0, none⟩), .pointer (some ⟨w.heap.size + 1, 0, none⟩), .slice none 0 0, .pointer (some ⟨w.heap.size + 1 + 1, 0, none⟩), undef, u7, .int .i64 x.1.dim, .int .i64 (sgn x.1), .pointer (some ⟨w.heap.size, 0, none⟩), .pointer (some ⟨w.heap.size, 0, none⟩), .slice (some ⟨bA, oA, none⟩) n c, .int .i64 ((n : Nat) : Int), .int .i64 ((n : Nat) : Int), .bool false, u16, u17, u18, u19, u20, u21, u22, u23, u24, .agg #[.slice (some ⟨bA, oA, none⟩) n c, .slice B m c2, .int .i64 lo, .int .i64 hi, .func (.func 113) #[] #[], .func (.func 114) #[] #[]], .func (.func 115) #[] #[.pointer (some ⟨wr.heap.size, 0, none⟩)], .int .i64 x.1.dim, .int .i64 (sgn x.1), undef, undef, undef, undef, undef, undef, undef, undef, undef, undef, undef, undef, undef, undef, undef, undef, undef], defers := [] })
        (fun _ _ _ _ _ _ hs _ _ => hs)
        ?assign ?body ?done ?stop
      case assign =>
        rintro l pre x W K hi hK
        gi_wp2
        exact hK _ _ (KeepsFrom.refl _ _) (Below.refl _ _) hi rfl
      case body =>
        rintro l pre x a' W hl hr ⟨⟨⟨⟨qT, qE⟩, qO⟩, ⟨cur1, qRow⟩⟩, qB⟩ rfl hlt
        obtain ⟨⟨i, bk⟩, hfx⟩ := x
        have hfi := hfx
        obtain ⟨g0, g1, g2, g3, g4, g5⟩ := hfx
        dsimp only at g0 g1
        obtain ⟨p, rfl⟩ := Int.eq_ofNat_of_zero_le g0
        rw [hxl] at g1
        have hp : p < n := by omega
        obtain ⟨d, hd⟩ : ∃ d, xs.getD p zeroD = d := ⟨_, rfl⟩
        obtain ⟨-, -, -, a4, a5⟩ := Dims.cells HCA.out (show Ext w W from qB) p hp d hd
        obtain ⟨sg, hsg⟩ : ∃ v, sgn ⟨(p : Int), bk⟩ = v := ⟨_, rfl⟩
        have hsg1 : -1 ≤ sg ∧ sg ≤ 1 := by rw [← hsg]; unfold sgn; split <;> omega
        have hdk : dimK xs ⟨(p : Int), bk⟩ = d := by unfold dimK; rw [Int.toNat_natCast]; exact hd
        have hTl := qT.lt
        have hEl := qE.lt
        have hOl := qO.lt
        have hgl2 := qRow.lt
        have hbl : bA < W.heap.size := World.block_lt_of_cell? W _ a4
        have hOg : w.heap.size + 1 + 1 ≠ g := qO.ne qRow.2.1 (by decide)
        have hEw : Ext w W := qB
        have hkb : KB w.heap.size W W := KB.refl (by omega)
        have hn2 : partL t xs (valsK (pre ++ [⟨⟨(p : Int), bk⟩, hfi⟩])) = (partL t xs (valsK pre)).set p (lowV d.lo d.hi (t * sg)) := by
          rw [valsK_snoc, partL_snoc, layE, hdk, hsg]; simp
        obtain ⟨PL, hPL⟩ : ∃ v, partL t xs (valsK pre) = v := ⟨_, rfl⟩
        rw [hPL] at qRow hn2
        have HD := Lib.hid hd
        clear hd hdk hPL a4 a5
        rcases ht with ⟨rfl, rfl⟩ | ⟨rfl, rfl⟩
        · rw [Int.one_mul] at hn2
          have HN := Lib.hid hn2
          clear hn2
          gi_wp2
          refine wpIn_region_held (S := fun W' => (W'.cell? ⟨w.heap.size + 1 + 1, 0, none⟩ = some (.slice (some ⟨g, 0, none⟩) n cap) ∧ W'.cell? ⟨w.heap.size + 1, 0, none⟩ = some (.int .i64 0)) ∧ (W'.cell? ⟨w.heap.size, 0, none⟩ = some (.slice (some ⟨bA, oA, none⟩) n c) ∧ W'.cell? ⟨w.heap.size, 4, none⟩ = some (.func (.func 113) #[] #[])) ∧ (W'.cell? ⟨bA, oA + p * 5 + 3, none⟩ = some (.int .i64 d.lo) ∧ W'.cell? ⟨bA, oA + p * 5 + 4, none⟩ = some (.int .i64 d.hi))) (by kernel_rfl) (by kernel_rfl) ?_ (fun hHeld => ?_)
          · exact ⟨⟨(show Blk _ (w.heap.size + 1 + 1) #[.slice (some ⟨g, 0, none⟩) n cap] 91 from by (repeat (first | (with_reducible assumption) | ((with_reducible apply Blk.new_at); focus (first | (simp; done) | (simp; omega))) | with_reducible apply Blk.alloc | with_reducible apply Blk.drew | with_reducible apply Blk.drewN | with_reducible apply Blk.set | ((with_reducible apply Blk.far); case hp => (first | (simp; done) | (dsimp only; omega))) | ((with_reducible apply Blk.ext); case he => with_reducible assumption)))).r1, (show Blk _ (w.heap.size + 1) #[.int .i64 0] 3 from by (repeat (first | (with_reducible assumption) | ((with_reducible apply Blk.new_at); focus (first | (simp; done) | (simp; omega))) | with_reducible apply Blk.alloc | with_reducible apply Blk.drew | with_reducible apply Blk.drewN | with_reducible apply Blk.set | ((with_reducible apply Blk.far); case hp => (first | (simp; done) | (dsimp only; omega))) | ((with_reducible apply Blk.ext); case he => with_reducible assumption)))).r1⟩, ⟨(show Blk _ w.heap.size #[.slice (some ⟨bA, oA, none⟩) n c, .slice B m c2, .int .i64 lo, .int .i64 hi, .func (.func 113) #[] #[], .func (.func 114) #[] #[]] 150 from by (repeat (first | (with_reducible assumption) | ((with_reducible apply Blk.new_at); focus (first | (simp; done) | (simp; omega))) | with_reducible apply Blk.alloc | with_reducible apply Blk.drew | with_reducible apply Blk.drewN | with_reducible apply Blk.set | ((with_reducible apply Blk.far); case hp => (first | (simp; done) | (dsimp only; omega))) | ((with_reducible apply Blk.ext); case he => with_reducible assumption)))).cell 0, (show Blk _ w.heap.size #[.slice (some ⟨bA, oA, none⟩) n c, .slice B m c2, .int .i64 lo, .int .i64 hi, .func (.func 113) #[] #[], .func (.func 114) #[] #[]] 150 from by (repeat (first | (with_reducible assumption) | ((with_reducible apply Blk.new_at); focus (first | (simp; done) | (simp; omega))) | with_reducible apply Blk.alloc | with_reducible apply Blk.drew | with_reducible apply Blk.drewN | with_reducible apply Blk.set | ((with_reducible apply Blk.far); case hp => (first | (simp; done) | (dsimp only; omega))) | ((with_reducible apply Blk.ext); case he => with_reducible assumption)))).cell 4⟩, (Dims.cells HCA.out (by (repeat (first | (with_reducible assumption) | with_reducible exact Ext.refl _ | with_reducible apply Ext.alloc | with_reducible apply Ext.drew | with_reducible apply Ext.drewN | ((with_reducible apply Ext.set); case hp => (first | (simp; done) | (dsimp only; omega) | omega)) | ((with_reducible apply Ext.trans); case k => with_reducible assumption)))) p hp d HD.out).2.2.2⟩
          refine wpAnyH_take (i := 0) (oi := _) (v := ?vq00) rfl (by kernel_rfl) (by kernel_rfl) (by kernel_rfl) (fun _ _ _ h => h) (Or.inl ⟨by rfl, ?hyq00⟩) (by assumption) ?restq00; (case hyq00 => (intro w hSw; (try dsimp only at hSw); go_simp; try (with_reducible rfl)))
          refine wpAnyH_take (i := 1) (oi := _) (v := ?vq01) rfl (by kernel_rfl) (by kernel_rfl) (by kernel_rfl) (fun _ _ _ h => h) (Or.inl ⟨by rfl, ?hyq01⟩) (by assumption) ?restq01; (case hyq01 => (intro w hSw; (try dsimp only at hSw); go_simp; try (with_reducible rfl)))
          refine wpAnyH_take (i := 2) (oi := _) (v := ?vq02) rfl (by kernel_rfl) (by kernel_rfl) (by kernel_rfl) (fun _ _ _ h => h) (Or.inl ⟨by rfl, ?hyq02⟩) (by assumption) ?restq02; (case hyq02 => (intro w hSw; (try dsimp only at hSw); go_simp; try (with_reducible rfl)))
          refine wpAnyH_take (i := 3) (oi := _) (v := ?vq03) rfl (by kernel_rfl) (by kernel_rfl) (by kernel_rfl) (fun _ _ _ h => h) (Or.inl ⟨by rfl, ?hyq03⟩) (by assumption) ?restq03; (case hyq03 => (intro w hSw; (try dsimp only at hSw); go_simp; try (with_reducible rfl)))
          refine wpAnyH_take (i := 4) (oi := _) (v := ?vq04) rfl (by kernel_rfl) (by kernel_rfl) (by kernel_rfl) (fun _ _ _ h => h) (Or.inl ⟨by rfl, ?hyq04⟩) (by assumption) ?restq04; (case hyq04 => (intro w hSw; (try dsimp only at hSw); go_simp; try (with_reducible rfl)))
          refine wpAnyH_take (i := 5) (oi := _) (v := ?vq05) rfl (by kernel_rfl) (by kernel_rfl) (by kernel_rfl) (fun _ _ _ h => h) (Or.inl ⟨by rfl, ?hyq05⟩) (by assumption) ?restq05; (case hyq05 => (intro w hSw; (try dsimp only at hSw); go_simp; try (with_reducible rfl)))
          refine wpAnyH_take (i := 6) (oi := _) (v := ?vq06) rfl (by kernel_rfl) (by kernel_rfl) (by kernel_rfl) (fun _ _ _ h => h) (Or.inl ⟨by rfl, ?hyq06⟩) (by assumption) ?restq06; (case hyq06 => (intro w hSw; (try dsimp only at hSw); go_simp; try (with_reducible rfl)))
          refine wpAnyH_take (i := 7) (oi := _) (v := ?vq07) rfl (by kernel_rfl) (by kernel_rfl) (by kernel_rfl) (fun _ _ _ h => h) (Or.inl ⟨by rfl, ?hyq07⟩) (by assumption) ?restq07; (case hyq07 => (intro w hSw; (try dsimp only at hSw); go_simp; try (with_reducible rfl)))
          refine wpAnyH_take (i := 8) (oi := _) (v := ?vq08) rfl (by kernel_rfl) (by kernel_rfl) (by kernel_rfl) (fun _ _ _ h => h) (Or.inl ⟨by rfl, ?hyq08⟩) (by assumption) ?restq08; (case hyq08 => (intro w hSw; (try dsimp only at hSw); go_simp; try (with_reducible rfl)))
          refine wpAnyH_take (i := 9) (oi := _) (v := ?vq09) rfl (by kernel_rfl) (by kernel_rfl) (by kernel_rfl) (fun _ _ _ h => h) (Or.inl ⟨by rfl, ?hyq09⟩) (by assumption) ?restq09; (case hyq09 => (intro w hSw; (try dsimp only at hSw); go_simp; try (with_reducible rfl)))
          refine wpAnyH_take (i := 10) (oi := _) (v := ?vq010) rfl (by kernel_rfl) (by kernel_rfl) (by kernel_rfl) (fun _ _ _ h => h) (Or.inl ⟨by rfl, ?hyq010⟩) (by assumption) ?restq010; (case hyq010 => (intro w hSw; (try dsimp only at hSw); go_simp; try (with_reducible rfl)))
          refine wpAnyH_take (i := 11) (oi := _) (v := ?vq011) rfl (by kernel_rfl) (by kernel_rfl) (by kernel_rfl) (fun _ _ _ h => h) (Or.inl ⟨by rfl, ?hyq011⟩) (by assumption) ?restq011; (case hyq011 => (intro w hSw; (try dsimp only at hSw); go_simp; try (with_reducible rfl)))
          refine wpAnyH_take (i := 12) (oi := _) (v := ?vq012) rfl (by kernel_rfl) (by kernel_rfl) (by kernel_rfl) (fun _ _ _ h => h) (Or.inl ⟨by rfl, ?hyq012⟩) (by assumption) ?restq012; (case hyq012 => (intro w hSw; (try dsimp only at hSw); go_simp; try (with_reducible rfl)))
          refine wpAnyH_take (i := 13) (oi := _) (v := ?vq013) rfl (by kernel_rfl) (by kernel_rfl) (by kernel_rfl) (fun _ _ _ h => h) (Or.inl ⟨by rfl, ?hyq013⟩) (by assumption) ?restq013; (case hyq013 => (intro w hSw; (try dsimp only at hSw); go_simp; try (with_reducible rfl)))
          (simp only [Act.put, List.setIfInBounds_toArray])
          refine wpAnyH_ready (rs := [14]) (by kernel_rfl) (by simp) ?_; refine AllReadyH.cons (o := _) rfl (fun K hK => ?_) AllReadyH.nil; go_simp
          refine (low_any d.lo d.hi sg _).mono ?_
          rintro e w5 ⟨rfl, h5⟩
          have hT5 : Blk w5 w.heap.size #[.slice (some ⟨bA, oA, none⟩) n c, .slice B m c2, .int .i64 lo, .int .i64 hi, .func (.func 113) #[] #[], .func (.func 114) #[] #[]] 150 := by (repeat (first | (with_reducible assumption) | ((with_reducible apply Blk.new_at); focus (first | (simp; done) | (simp; omega))) | with_reducible apply Blk.alloc | with_reducible apply Blk.drew | with_reducible apply Blk.drewN | with_reducible apply Blk.set | ((with_reducible apply Blk.far); case hp => (first | (simp; done) | (dsimp only; omega))) | ((with_reducible apply Blk.ext); case he => with_reducible assumption)))
          have hE5 : Blk w5 (w.heap.size + 1) #[.int .i64 0] 3 := by (repeat (first | (with_reducible assumption) | ((with_reducible apply Blk.new_at); focus (first | (simp; done) | (simp; omega))) | with_reducible apply Blk.alloc | with_reducible apply Blk.drew | with_reducible apply Blk.drewN | with_reducible apply Blk.set | ((with_reducible apply Blk.far); case hp => (first | (simp; done) | (dsimp only; omega))) | ((with_reducible apply Blk.ext); case he => with_reducible assumption)))
          have hO5 : Blk w5 (w.heap.size + 1 + 1) #[.slice (some ⟨g, 0, none⟩) n cap] 91 := by (repeat (first | (with_reducible assumption) | ((with_reducible apply Blk.new_at); focus (first | (simp; done) | (simp; omega))) | with_reducible apply Blk.alloc | with_reducible apply Blk.drew | with_reducible apply Blk.drewN | with_reducible apply Blk.set | ((with_reducible apply Blk.far); case hp => (first | (simp; done) | (dsimp only; omega))) | ((with_reducible apply Blk.ext); case he => with_reducible assumption)))
          have hR5 := qRow.ext ((Ext.refl W).drew.trans h5)
          have hEw5 : Ext w w5 := by (repeat (first | (with_reducible assumption) | with_reducible exact Ext.refl _ | with_reducible apply Ext.alloc | with_reducible apply Ext.drew | with_reducible apply Ext.drewN | ((with_reducible apply Ext.set); case hp => (first | (simp; done) | (dsimp only; omega) | omega)) | ((with_reducible apply Ext.trans); case k => with_reducible assumption)))
          obtain ⟨rc, rf⟩ := hR5.cell hp
          have hgl5 := hR5.lt
          (try dsimp only)
          refine hK.out _ _ ?_ (fun hHeld => ?_)
          · exact ⟨⟨(show Blk _ (w.heap.size + 1 + 1) #[.slice (some ⟨g, 0, none⟩) n cap] 91 from by (repeat (first | (with_reducible assumption) | ((with_reducible apply Blk.new_at); focus (first | (simp; done) | (simp; omega))) | with_reducible apply Blk.alloc | with_reducible apply Blk.drew | with_reducible apply Blk.drewN | with_reducible apply Blk.set | ((with_reducible apply Blk.far); case hp => (first | (simp; done) | (dsimp only; omega))) | ((with_reducible apply Blk.ext); case he => with_reducible assumption)))).r1, (show Blk _ (w.heap.size + 1) #[.int .i64 0] 3 from by (repeat (first | (with_reducible assumption) | ((with_reducible apply Blk.new_at); focus (first | (simp; done) | (simp; omega))) | with_reducible apply Blk.alloc | with_reducible apply Blk.drew | with_reducible apply Blk.drewN | with_reducible apply Blk.set | ((with_reducible apply Blk.far); case hp => (first | (simp; done) | (dsimp only; omega))) | ((with_reducible apply Blk.ext); case he => with_reducible assumption)))).r1⟩, ⟨(show Blk _ w.heap.size #[.slice (some ⟨bA, oA, none⟩) n c, .slice B m c2, .int .i64 lo, .int .i64 hi, .func (.func 113) #[] #[], .func (.func 114) #[] #[]] 150 from by (repeat (first | (with_reducible assumption) | ((with_reducible apply Blk.new_at); focus (first | (simp; done) | (simp; omega))) | with_reducible apply Blk.alloc | with_reducible apply Blk.drew | with_reducible apply Blk.drewN | with_reducible apply Blk.set | ((with_reducible apply Blk.far); case hp => (first | (simp; done) | (dsimp only; omega))) | ((with_reducible apply Blk.ext); case he => with_reducible assumption)))).cell 0, (show Blk _ w.heap.size #[.slice (some ⟨bA, oA, none⟩) n c, .slice B m c2, .int .i64 lo, .int .i64 hi, .func (.func 113) #[] #[], .func (.func 114) #[] #[]] 150 from by (repeat (first | (with_reducible assumption) | ((with_reducible apply Blk.new_at); focus (first | (simp; done) | (simp; omega))) | with_reducible apply Blk.alloc | with_reducible apply Blk.drew | with_reducible apply Blk.drewN | with_reducible apply Blk.set | ((with_reducible apply Blk.far); case hp => (first | (simp; done) | (dsimp only; omega))) | ((with_reducible apply Blk.ext); case he => with_reducible assumption)))).cell 4⟩, (Dims.cells HCA.out (by (repeat (first | (with_reducible assumption) | with_reducible exact Ext.refl _ | with_reducible apply Ext.alloc | with_reducible apply Ext.drew | with_reducible apply Ext.drewN | ((with_reducible apply Ext.set); case hp => (first | (simp; done) | (dsimp only; omega) | omega)) | ((with_reducible apply Ext.trans); case k => with_reducible assumption)))) p hp d HD.out).2.2.2⟩
          clear hK K
          refine wpAnyH_take (i := 15) (oi := _) (v := ?vq015) rfl (by kernel_rfl) (by kernel_rfl) (by kernel_rfl) (fun _ _ _ h => h) (Or.inl ⟨by rfl, ?hyq015⟩) (by assumption) ?restq015; (case hyq015 => (intro w hSw; (try dsimp only at hSw); go_simp; try (with_reducible rfl)))
          (simp only [Act.put, List.setIfInBounds_toArray])
          refine wpAnyH_ready (rs := [16]) (by kernel_rfl) (by simp) ?_; refine AllReadyH.cons (o := _) rfl (fun K hK => ?_) AllReadyH.nil; go_simp
          (try dsimp only)
          refine hK.out _ _ ?_ (fun hHeld => ?_)
          · exact ⟨⟨(show Blk _ (w.heap.size + 1 + 1) #[.slice (some ⟨g, 0, none⟩) n cap] 91 from by (repeat (first | (with_reducible assumption) | ((with_reducible apply Blk.new_at); focus (first | (simp; done) | (simp; omega))) | with_reducible apply Blk.alloc | with_reducible apply Blk.drew | with_reducible apply Blk.drewN | with_reducible apply Blk.set | ((with_reducible apply Blk.far); case hp => (first | (simp; done) | (dsimp only; omega))) | ((with_reducible apply Blk.ext); case he => with_reducible assumption)))).r1, (show Blk _ (w.heap.size + 1) #[.int .i64 0] 3 from by (repeat (first | (with_reducible assumption) | ((with_reducible apply Blk.new_at); focus (first | (simp; done) | (simp; omega))) | with_reducible apply Blk.alloc | with_reducible apply Blk.drew | with_reducible apply Blk.drewN | with_reducible apply Blk.set | ((with_reducible apply Blk.far); case hp => (first | (simp; done) | (dsimp only; omega))) | ((with_reducible apply Blk.ext); case he => with_reducible assumption)))).r1⟩, ⟨(show Blk _ w.heap.size #[.slice (some ⟨bA, oA, none⟩) n c, .slice B m c2, .int .i64 lo, .int .i64 hi, .func (.func 113) #[] #[], .func (.func 114) #[] #[]] 150 from by (repeat (first | (with_reducible assumption) | ((with_reducible apply Blk.new_at); focus (first | (simp; done) | (simp; omega))) | with_reducible apply Blk.alloc | with_reducible apply Blk.drew | with_reducible apply Blk.drewN | with_reducible apply Blk.set | ((with_reducible apply Blk.far); case hp => (first | (simp; done) | (dsimp only; omega))) | ((with_reducible apply Blk.ext); case he => with_reducible assumption)))).cell 0, (show Blk _ w.heap.size #[.slice (some ⟨bA, oA, none⟩) n c, .slice B m c2, .int .i64 lo, .int .i64 hi, .func (.func 113) #[] #[], .func (.func 114) #[] #[]] 150 from by (repeat (first | (with_reducible assumption) | ((with_reducible apply Blk.new_at); focus (first | (simp; done) | (simp; omega))) | with_reducible apply Blk.alloc | with_reducible apply Blk.drew | with_reducible apply Blk.drewN | with_reducible apply Blk.set | ((with_reducible apply Blk.far); case hp => (first | (simp; done) | (dsimp only; omega))) | ((with_reducible apply Blk.ext); case he => with_reducible assumption)))).cell 4⟩, (Dims.cells HCA.out (by (repeat (first | (with_reducible assumption) | with_reducible exact Ext.refl _ | with_reducible apply Ext.alloc | with_reducible apply Ext.drew | with_reducible apply Ext.drewN | ((with_reducible apply Ext.set); case hp => (first | (simp; done) | (dsimp only; omega) | omega)) | ((with_reducible apply Ext.trans); case k => with_reducible assumption)))) p hp d HD.out).2.2.2⟩
          clear hK K
          refine wpAnyH_done (by kernel_rfl) ?_ _
          refine NoOut.normal ?_
          gi_wp2
          clear hEw hEw5
          refine ⟨KB.keeps (B := w.heap.size) (by (repeat (first | (with_reducible assumption) | ((with_reducible apply KB.refl); (first | assumption | omega)) | with_reducible apply KB.alloc | with_reducible apply KB.drew | ((with_reducible apply KB.set); case hp => (first | (simp; done) | (dsimp only; omega) | omega)) | ((with_reducible apply KB.ext); case he => with_reducible assumption)))) (by omega), KB.below (by (repeat (first | (with_reducible assumption) | ((with_reducible apply KB.refl); (first | assumption | omega)) | with_reducible apply KB.alloc | with_reducible apply KB.drew | ((with_reducible apply KB.set); case hp => (first | (simp; done) | (dsimp only; omega) | omega)) | ((with_reducible apply KB.ext); case he => with_reducible assumption)))), ?_⟩
          have hP := hR5.put hp (lowV d.lo d.hi sg)
          exact ⟨⟨⟨⟨by (repeat (first | (with_reducible assumption) | ((with_reducible apply Blk.new_at); focus (first | (simp; done) | (simp; omega))) | with_reducible apply Blk.alloc | with_reducible apply Blk.drew | with_reducible apply Blk.drewN | with_reducible apply Blk.set | ((with_reducible apply Blk.far); case hp => (first | (simp; done) | (dsimp only; omega))) | ((with_reducible apply Blk.ext); case he => with_reducible assumption))), by (repeat (first | (with_reducible assumption) | ((with_reducible apply Blk.new_at); focus (first | (simp; done) | (simp; omega))) | with_reducible apply Blk.alloc | with_reducible apply Blk.drew | with_reducible apply Blk.drewN | with_reducible apply Blk.set | ((with_reducible apply Blk.far); case hp => (first | (simp; done) | (dsimp only; omega))) | ((with_reducible apply Blk.ext); case he => with_reducible assumption)))⟩, by (repeat (first | (with_reducible assumption) | ((with_reducible apply Blk.new_at); focus (first | (simp; done) | (simp; omega))) | with_reducible apply Blk.alloc | with_reducible apply Blk.drew | with_reducible apply Blk.drewN | with_reducible apply Blk.set | ((with_reducible apply Blk.far); case hp => (first | (simp; done) | (dsimp only; omega))) | ((with_reducible apply Blk.ext); case he => with_reducible assumption)))⟩, ⟨_, by rw [HN.out]; exact hP⟩⟩, qB.trans (KB.below (by (repeat (first | (with_reducible assumption) | ((with_reducible apply KB.refl); (first | assumption | omega)) | with_reducible apply KB.alloc | with_reducible apply KB.drew | ((with_reducible apply KB.set); case hp => (first | (simp; done) | (dsimp only; omega) | omega)) | ((with_reducible apply KB.ext); case he => with_reducible assumption)))))⟩
        · rw [Int.neg_one_mul] at hn2
          have HN := Lib.hid hn2
          clear hn2
          gi_wp2
          refine wpIn_region_held (S := fun W' => (W'.cell? ⟨w.heap.size + 1 + 1, 0, none⟩ = some (.slice (some ⟨g, 0, none⟩) n cap) ∧ W'.cell? ⟨w.heap.size + 1, 0, none⟩ = some (.int .i64 1)) ∧ (W'.cell? ⟨w.heap.size, 0, none⟩ = some (.slice (some ⟨bA, oA, none⟩) n c) ∧ W'.cell? ⟨w.heap.size, 5, none⟩ = some (.func (.func 114) #[] #[])) ∧ (W'.cell? ⟨bA, oA + p * 5 + 3, none⟩ = some (.int .i64 d.lo) ∧ W'.cell? ⟨bA, oA + p * 5 + 4, none⟩ = some (.int .i64 d.hi))) (by kernel_rfl) (by kernel_rfl) ?_ (fun hHeld => ?_)
          · exact ⟨⟨(show Blk _ (w.heap.size + 1 + 1) #[.slice (some ⟨g, 0, none⟩) n cap] 91 from by (repeat (first | (with_reducible assumption) | ((with_reducible apply Blk.new_at); focus (first | (simp; done) | (simp; omega))) | with_reducible apply Blk.alloc | with_reducible apply Blk.drew | with_reducible apply Blk.drewN | with_reducible apply Blk.set | ((with_reducible apply Blk.far); case hp => (first | (simp; done) | (dsimp only; omega))) | ((with_reducible apply Blk.ext); case he => with_reducible assumption)))).r1, (show Blk _ (w.heap.size + 1) #[.int .i64 1] 3 from by (repeat (first | (with_reducible assumption) | ((with_reducible apply Blk.new_at); focus (first | (simp; done) | (simp; omega))) | with_reducible apply Blk.alloc | with_reducible apply Blk.drew | with_reducible apply Blk.drewN | with_reducible apply Blk.set | ((with_reducible apply Blk.far); case hp => (first | (simp; done) | (dsimp only; omega))) | ((with_reducible apply Blk.ext); case he => with_reducible assumption)))).r1⟩, ⟨(show Blk _ w.heap.size #[.slice (some ⟨bA, oA, none⟩) n c, .slice B m c2, .int .i64 lo, .int .i64 hi, .func (.func 113) #[] #[], .func (.func 114) #[] #[]] 150 from by (repeat (first | (with_reducible assumption) | ((with_reducible apply Blk.new_at); focus (first | (simp; done) | (simp; omega))) | with_reducible apply Blk.alloc | with_reducible apply Blk.drew | with_reducible apply Blk.drewN | with_reducible apply Blk.set | ((with_reducible apply Blk.far); case hp => (first | (simp; done) | (dsimp only; omega))) | ((with_reducible apply Blk.ext); case he => with_reducible assumption)))).cell 0, (show Blk _ w.heap.size #[.slice (some ⟨bA, oA, none⟩) n c, .slice B m c2, .int .i64 lo, .int .i64 hi, .func (.func 113) #[] #[], .func (.func 114) #[] #[]] 150 from by (repeat (first | (with_reducible assumption) | ((with_reducible apply Blk.new_at); focus (first | (simp; done) | (simp; omega))) | with_reducible apply Blk.alloc | with_reducible apply Blk.drew | with_reducible apply Blk.drewN | with_reducible apply Blk.set | ((with_reducible apply Blk.far); case hp => (first | (simp; done) | (dsimp only; omega))) | ((with_reducible apply Blk.ext); case he => with_reducible assumption)))).cell 5⟩, (Dims.cells HCA.out (by (repeat (first | (with_reducible assumption) | with_reducible exact Ext.refl _ | with_reducible apply Ext.alloc | with_reducible apply Ext.drew | with_reducible apply Ext.drewN | ((with_reducible apply Ext.set); case hp => (first | (simp; done) | (dsimp only; omega) | omega)) | ((with_reducible apply Ext.trans); case k => with_reducible assumption)))) p hp d HD.out).2.2.2⟩
          refine wpAnyH_take (i := 0) (oi := _) (v := ?vq10) rfl (by kernel_rfl) (by kernel_rfl) (by kernel_rfl) (fun _ _ _ h => h) (Or.inl ⟨by rfl, ?hyq10⟩) (by assumption) ?restq10; (case hyq10 => (intro w hSw; (try dsimp only at hSw); go_simp; try (with_reducible rfl)))
          refine wpAnyH_take (i := 1) (oi := _) (v := ?vq11) rfl (by kernel_rfl) (by kernel_rfl) (by kernel_rfl) (fun _ _ _ h => h) (Or.inl ⟨by rfl, ?hyq11⟩) (by assumption) ?restq11; (case hyq11 => (intro w hSw; (try dsimp only at hSw); go_simp; try (with_reducible rfl)))
          refine wpAnyH_take (i := 2) (oi := _) (v := ?vq12) rfl (by kernel_rfl) (by kernel_rfl) (by kernel_rfl) (fun _ _ _ h => h) (Or.inl ⟨by rfl, ?hyq12⟩) (by assumption) ?restq12; (case hyq12 => (intro w hSw; (try dsimp only at hSw); go_simp; try (with_reducible rfl)))
          refine wpAnyH_take (i := 3) (oi := _) (v := ?vq13) rfl (by kernel_rfl) (by kernel_rfl) (by kernel_rfl) (fun _ _ _ h => h) (Or.inl ⟨by rfl, ?hyq13⟩) (by assumption) ?restq13; (case hyq13 => (intro w hSw; (try dsimp only at hSw); go_simp; try (with_reducible rfl)))
          refine wpAnyH_take (i := 4) (oi := _) (v := ?vq14) rfl (by kernel_rfl) (by kernel_rfl) (by kernel_rfl) (fun _ _ _ h => h) (Or.inl ⟨by rfl, ?hyq14⟩) (by assumption) ?restq14; (case hyq14 => (intro w hSw; (try dsimp only at hSw); go_simp; try (with_reducible rfl)))
          refine wpAnyH_take (i := 5) (oi := _) (v := ?vq15) rfl (by kernel_rfl) (by kernel_rfl) (by kernel_rfl) (fun _ _ _ h => h) (Or.inl ⟨by rfl, ?hyq15⟩) (by assumption) ?restq15; (case hyq15 => (intro w hSw; (try dsimp only at hSw); go_simp; try (with_reducible rfl)))
          refine wpAnyH_take (i := 6) (oi := _) (v := ?vq16) rfl (by kernel_rfl) (by kernel_rfl) (by kernel_rfl) (fun _ _ _ h => h) (Or.inl ⟨by rfl, ?hyq16⟩) (by assumption) ?restq16; (case hyq16 => (intro w hSw; (try dsimp only at hSw); go_simp; try (with_reducible rfl)))
          refine wpAnyH_take (i := 7) (oi := _) (v := ?vq17) rfl (by kernel_rfl) (by kernel_rfl) (by kernel_rfl) (fun _ _ _ h => h) (Or.inl ⟨by rfl, ?hyq17⟩) (by assumption) ?restq17; (case hyq17 => (intro w hSw; (try dsimp only at hSw); go_simp; try (with_reducible rfl)))
          refine wpAnyH_take (i := 8) (oi := _) (v := ?vq18) rfl (by kernel_rfl) (by kernel_rfl) (by kernel_rfl) (fun _ _ _ h => h) (Or.inl ⟨by rfl, ?hyq18⟩) (by assumption) ?restq18; (case hyq18 => (intro w hSw; (try dsimp only at hSw); go_simp; try (with_reducible rfl)))
          refine wpAnyH_take (i := 9) (oi := _) (v := ?vq19) rfl (by kernel_rfl) (by kernel_rfl) (by kernel_rfl) (fun _ _ _ h => h) (Or.inl ⟨by rfl, ?hyq19⟩) (by assumption) ?restq19; (case hyq19 => (intro w hSw; (try dsimp only at hSw); go_simp; try (with_reducible rfl)))
          refine wpAnyH_take (i := 10) (oi := _) (v := ?vq110) rfl (by kernel_rfl) (by kernel_rfl) (by kernel_rfl) (fun _ _ _ h => h) (Or.inl ⟨by rfl, ?hyq110⟩) (by assumption) ?restq110; (case hyq110 => (intro w hSw; (try dsimp only at hSw); go_simp; try (with_reducible rfl)))
          refine wpAnyH_take (i := 11) (oi := _) (v := ?vq111) rfl (by kernel_rfl) (by kernel_rfl) (by kernel_rfl) (fun _ _ _ h => h) (Or.inl ⟨by rfl, ?hyq111⟩) (by assumption) ?restq111; (case hyq111 => (intro w hSw; (try dsimp only at hSw); go_simp; try (with_reducible rfl)))
          refine wpAnyH_take (i := 12) (oi := _) (v := ?vq112) rfl (by kernel_rfl) (by kernel_rfl) (by kernel_rfl) (fun _ _ _ h => h) (Or.inl ⟨by rfl, ?hyq112⟩) (by assumption) ?restq112; (case hyq112 => (intro w hSw; (try dsimp only at hSw); go_simp; try (with_reducible rfl)))
          refine wpAnyH_take (i := 13) (oi := _) (v := ?vq113) rfl (by kernel_rfl) (by kernel_rfl) (by kernel_rfl) (fun _ _ _ h => h) (Or.inl ⟨by rfl, ?hyq113⟩) (by assumption) ?restq113; (case hyq113 => (intro w hSw; (try dsimp only at hSw); go_simp; try (with_reducible rfl)))
          (simp only [Act.put, List.setIfInBounds_toArray])
          refine wpAnyH_ready (rs := [14]) (by kernel_rfl) (by simp) ?_; refine AllReadyH.cons (o := _) rfl (fun K hK => ?_) AllReadyH.nil; go_simp
          refine (high_any d.lo d.hi sg hsg1 _).mono ?_
          rintro e w5 ⟨rfl, h5⟩
          have hT5 : Blk w5 w.heap.size #[.slice (some ⟨bA, oA, none⟩) n c, .slice B m c2, .int .i64 lo, .int .i64 hi, .func (.func 113) #[] #[], .func (.func 114) #[] #[]] 150 := by (repeat (first | (with_reducible assumption) | ((with_reducible apply Blk.new_at); focus (first | (simp; done) | (simp; omega))) | with_reducible apply Blk.alloc | with_reducible apply Blk.drew | with_reducible apply Blk.drewN | with_reducible apply Blk.set | ((with_reducible apply Blk.far); case hp => (first | (simp; done) | (dsimp only; omega))) | ((with_reducible apply Blk.ext); case he => with_reducible assumption)))
          have hE5 : Blk w5 (w.heap.size + 1) #[.int .i64 1] 3 := by (repeat (first | (with_reducible assumption) | ((with_reducible apply Blk.new_at); focus (first | (simp; done) | (simp; omega))) | with_reducible apply Blk.alloc | with_reducible apply Blk.drew | with_reducible apply Blk.drewN | with_reducible apply Blk.set | ((with_reducible apply Blk.far); case hp => (first | (simp; done) | (dsimp only; omega))) | ((with_reducible apply Blk.ext); case he => with_reducible assumption)))
          have hO5 : Blk w5 (w.heap.size + 1 + 1) #[.slice (some ⟨g, 0, none⟩) n cap] 91 := by (repeat (first | (with_reducible assumption) | ((with_reducible apply Blk.new_at); focus (first | (simp; done) | (simp; omega))) | with_reducible apply Blk.alloc | with_reducible apply Blk.drew | with_reducible apply Blk.drewN | with_reducible apply Blk.set | ((with_reducible apply Blk.far); case hp => (first | (simp; done) | (dsimp only; omega))) | ((with_reducible apply Blk.ext); case he => with_reducible assumption)))
          have hR5 := qRow.ext ((Ext.refl W).drew.trans h5)
          have hEw5 : Ext w w5 := by (repeat (first | (with_reducible assumption) | with_reducible exact Ext.refl _ | with_reducible apply Ext.alloc | with_reducible apply Ext.drew | with_reducible apply Ext.drewN | ((with_reducible apply Ext.set); case hp => (first | (simp; done) | (dsimp only; omega) | omega)) | ((with_reducible apply Ext.trans); case k => with_reducible assumption)))
          obtain ⟨rc, rf⟩ := hR5.cell hp
          have hgl5 := hR5.lt
          (try dsimp only)
          refine hK.out _ _ ?_ (fun hHeld => ?_)
          · exact ⟨⟨(show Blk _ (w.heap.size + 1 + 1) #[.slice (some ⟨g, 0, none⟩) n cap] 91 from by (repeat (first | (with_reducible assumption) | ((with_reducible apply Blk.new_at); focus (first | (simp; done) | (simp; omega))) | with_reducible apply Blk.alloc | with_reducible apply Blk.drew | with_reducible apply Blk.drewN | with_reducible apply Blk.set | ((with_reducible apply Blk.far); case hp => (first | (simp; done) | (dsimp only; omega))) | ((with_reducible apply Blk.ext); case he => with_reducible assumption)))).r1, (show Blk _ (w.heap.size + 1) #[.int .i64 1] 3 from by (repeat (first | (with_reducible assumption) | ((with_reducible apply Blk.new_at); focus (first | (simp; done) | (simp; omega))) | with_reducible apply Blk.alloc | with_reducible apply Blk.drew | with_reducible apply Blk.drewN | with_reducible apply Blk.set | ((with_reducible apply Blk.far); case hp => (first | (simp; done) | (dsimp only; omega))) | ((with_reducible apply Blk.ext); case he => with_reducible assumption)))).r1⟩, ⟨(show Blk _ w.heap.size #[.slice (some ⟨bA, oA, none⟩) n c, .slice B m c2, .int .i64 lo, .int .i64 hi, .func (.func 113) #[] #[], .func (.func 114) #[] #[]] 150 from by (repeat (first | (with_reducible assumption) | ((with_reducible apply Blk.new_at); focus (first | (simp; done) | (simp; omega))) | with_reducible apply Blk.alloc | with_reducible apply Blk.drew | with_reducible apply Blk.drewN | with_reducible apply Blk.set | ((with_reducible apply Blk.far); case hp => (first | (simp; done) | (dsimp only; omega))) | ((with_reducible apply Blk.ext); case he => with_reducible assumption)))).cell 0, (show Blk _ w.heap.size #[.slice (some ⟨bA, oA, none⟩) n c, .slice B m c2, .int .i64 lo, .int .i64 hi, .func (.func 113) #[] #[], .func (.func 114) #[] #[]] 150 from by (repeat (first | (with_reducible assumption) | ((with_reducible apply Blk.new_at); focus (first | (simp; done) | (simp; omega))) | with_reducible apply Blk.alloc | with_reducible apply Blk.drew | with_reducible apply Blk.drewN | with_reducible apply Blk.set | ((with_reducible apply Blk.far); case hp => (first | (simp; done) | (dsimp only; omega))) | ((with_reducible apply Blk.ext); case he => with_reducible assumption)))).cell 5⟩, (Dims.cells HCA.out (by (repeat (first | (with_reducible assumption) | with_reducible exact Ext.refl _ | with_reducible apply Ext.alloc | with_reducible apply Ext.drew | with_reducible apply Ext.drewN | ((with_reducible apply Ext.set); case hp => (first | (simp; done) | (dsimp only; omega) | omega)) | ((with_reducible apply Ext.trans); case k => with_reducible assumption)))) p hp d HD.out).2.2.2⟩
          clear hK K
          refine wpAnyH_take (i := 15) (oi := _) (v := ?vq115) rfl (by kernel_rfl) (by kernel_rfl) (by kernel_rfl) (fun _ _ _ h => h) (Or.inl ⟨by rfl, ?hyq115⟩) (by assumption) ?restq115; (case hyq115 => (intro w hSw; (try dsimp only at hSw); go_simp; try (with_reducible rfl)))
          (simp only [Act.put, List.setIfInBounds_toArray])
          refine wpAnyH_ready (rs := [16]) (by kernel_rfl) (by simp) ?_; refine AllReadyH.cons (o := _) rfl (fun K hK => ?_) AllReadyH.nil; go_simp
          (try dsimp only)
          refine hK.out _ _ ?_ (fun hHeld => ?_)
          · exact ⟨⟨(show Blk _ (w.heap.size + 1 + 1) #[.slice (some ⟨g, 0, none⟩) n cap] 91 from by (repeat (first | (with_reducible assumption) | ((with_reducible apply Blk.new_at); focus (first | (simp; done) | (simp; omega))) | with_reducible apply Blk.alloc | with_reducible apply Blk.drew | with_reducible apply Blk.drewN | with_reducible apply Blk.set | ((with_reducible apply Blk.far); case hp => (first | (simp; done) | (dsimp only; omega))) | ((with_reducible apply Blk.ext); case he => with_reducible assumption)))).r1, (show Blk _ (w.heap.size + 1) #[.int .i64 1] 3 from by (repeat (first | (with_reducible assumption) | ((with_reducible apply Blk.new_at); focus (first | (simp; done) | (simp; omega))) | with_reducible apply Blk.alloc | with_reducible apply Blk.drew | with_reducible apply Blk.drewN | with_reducible apply Blk.set | ((with_reducible apply Blk.far); case hp => (first | (simp; done) | (dsimp only; omega))) | ((with_reducible apply Blk.ext); case he => with_reducible assumption)))).r1⟩, ⟨(show Blk _ w.heap.size #[.slice (some ⟨bA, oA, none⟩) n c, .slice B m c2, .int .i64 lo, .int .i64 hi, .func (.func 113) #[] #[], .func (.func 114) #[] #[]] 150 from by (repeat (first | (with_reducible assumption) | ((with_reducible apply Blk.new_at); focus (first | (simp; done) | (simp; omega))) | with_reducible apply Blk.alloc | with_reducible apply Blk.drew | with_reducible apply Blk.drewN | with_reducible apply Blk.set | ((with_reducible apply Blk.far); case hp => (first | (simp; done) | (dsimp only; omega))) | ((with_reducible apply Blk.ext); case he => with_reducible assumption)))).cell 0, (show Blk _ w.heap.size #[.slice (some ⟨bA, oA, none⟩) n c, .slice B m c2, .int .i64 lo, .int .i64 hi, .func (.func 113) #[] #[], .func (.func 114) #[] #[]] 150 from by (repeat (first | (with_reducible assumption) | ((with_reducible apply Blk.new_at); focus (first | (simp; done) | (simp; omega))) | with_reducible apply Blk.alloc | with_reducible apply Blk.drew | with_reducible apply Blk.drewN | with_reducible apply Blk.set | ((with_reducible apply Blk.far); case hp => (first | (simp; done) | (dsimp only; omega))) | ((with_reducible apply Blk.ext); case he => with_reducible assumption)))).cell 5⟩, (Dims.cells HCA.out (by (repeat (first | (with_reducible assumption) | with_reducible exact Ext.refl _ | with_reducible apply Ext.alloc | with_reducible apply Ext.drew | with_reducible apply Ext.drewN | ((with_reducible apply Ext.set); case hp => (first | (simp; done) | (dsimp only; omega) | omega)) | ((with_reducible apply Ext.trans); case k => with_reducible assumption)))) p hp d HD.out).2.2.2⟩
          clear hK K
          refine wpAnyH_done (by kernel_rfl) ?_ _
          refine NoOut.normal ?_
          gi_wp2
          clear hEw hEw5
          refine ⟨KB.keeps (B := w.heap.size) (by (repeat (first | (with_reducible assumption) | ((with_reducible apply KB.refl); (first | assumption | omega)) | with_reducible apply KB.alloc | with_reducible apply KB.drew | ((with_reducible apply KB.set); case hp => (first | (simp; done) | (dsimp only; omega) | omega)) | ((with_reducible apply KB.ext); case he => with_reducible assumption)))) (by omega), KB.below (by (repeat (first | (with_reducible assumption) | ((with_reducible apply KB.refl); (first | assumption | omega)) | with_reducible apply KB.alloc | with_reducible apply KB.drew | ((with_reducible apply KB.set); case hp => (first | (simp; done) | (dsimp only; omega) | omega)) | ((with_reducible apply KB.ext); case he => with_reducible assumption)))), ?_⟩
          have hP := hR5.put hp (lowV d.lo d.hi (-sg))
          exact ⟨⟨⟨⟨by (repeat (first | (with_reducible assumption) | ((with_reducible apply Blk.new_at); focus (first | (simp; done) | (simp; omega))) | with_reducible apply Blk.alloc | with_reducible apply Blk.drew | with_reducible apply Blk.drewN | with_reducible apply Blk.set | ((with_reducible apply Blk.far); case hp => (first | (simp; done) | (dsimp only; omega))) | ((with_reducible apply Blk.ext); case he => with_reducible assumption))), by (repeat (first | (with_reducible assumption) | ((with_reducible apply Blk.new_at); focus (first | (simp; done) | (simp; omega))) | with_reducible apply Blk.alloc | with_reducible apply Blk.drew | with_reducible apply Blk.drewN | with_reducible apply Blk.set | ((with_reducible apply Blk.far); case hp => (first | (simp; done) | (dsimp only; omega))) | ((with_reducible apply Blk.ext); case he => with_reducible assumption)))⟩, by (repeat (first | (with_reducible assumption) | ((with_reducible apply Blk.new_at); focus (first | (simp; done) | (simp; omega))) | with_reducible apply Blk.alloc | with_reducible apply Blk.drew | with_reducible apply Blk.drewN | with_reducible apply Blk.set | ((with_reducible apply Blk.far); case hp => (first | (simp; done) | (dsimp only; omega))) | ((with_reducible apply Blk.ext); case he => with_reducible assumption)))⟩, ⟨_, by rw [HN.out]; exact hP⟩⟩, qB.trans (KB.below (by (repeat (first | (with_reducible assumption) | ((with_reducible apply KB.refl); (first | assumption | omega)) | with_reducible apply KB.alloc | with_reducible apply KB.drew | ((with_reducible apply KB.set); case hp => (first | (simp; done) | (dsimp only; omega) | omega)) | ((with_reducible apply KB.ext); case he => with_reducible assumption)))))⟩
      case done =>
        rintro D ys W hD rfl ⟨⟨⟨⟨qT, qE⟩, qO⟩, ⟨cur1, qRow⟩⟩, qB⟩ hK
        have hv : valsK (upto f m) = cs := by
          rw [upto_valK HK.out.len f hf m (Nat.le_refl _), ← HK.out.len, List.take_length]
        rw [hv] at qRow
        have hOc := qO.cell 0
        have hOl := qO.lt
        have hgl2 := qRow.lt
        simp at hOc
        gi_wp2
        refine endM_t rfl rfl hK ?_
        refine ⟨g, cap, cur1, rfl, ⟨by have := qRow.1; omega, qRow.2.1.putObj _ hK rfl, qRow.2.2⟩, ?_⟩
        exact qB.trans (belowK_b (w := w) (Nat.le_refl _) W D _ _ (by omega) hK rfl rfl)
      case stop =>
        rintro D c pre W _ _ h _
        exact h.elim
end Go.Proofs.Ytdcedfciaaooiaa
