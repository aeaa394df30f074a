/- stack.Shares: the walk. -/
import Derived.Test.YtdcedfciaaooiabT25
set_option linter.unusedVariables false
namespace Go.Proofs.Ytdcedfciaaooiab
open Go.RowKit Go.Shelf
attribute [local go_sem] Oper.semAt_some

def shareI (xs : List Dim) (x : Lk) : Int := (dimK xs x).hi - (dimK xs x).lo
def sharesL (xs : List Dim) (cs : List Lk) : List Int := cs.map (shareI xs)
theorem sharesL_snoc (xs : List Dim) (cs : List Lk) (x : Lk) : sharesL xs (cs ++ [x]) = sharesL xs cs ++ [shareI xs x] := by simp [sharesL]
set_option maxRecDepth 20000 in
set_option maxHeartbeats 4000000 in
theorem sshares_bad (A B : Option Addr) (n m c c2 : Nat) (xs : List Dim) (cs : List Lk) (lo hi : Int) (w : World) (hx : Dims w A n xs) (hk : Lnks w B m cs) (E : Int) (h : taskE xs cs lo hi = E) (hE : (E != 0) = true) : Calls Try.prog 25 #[.agg #[.slice A n c, .slice B m c2, .int .i64 lo, .int .i64 hi]] w (Ret (.tuple #[.slice none 0 0, .int .i64 E]) w) := by
  have HX := Lib.hid hx
  have HK := Lib.hid hk
  have HOF := Lib.hid (fun w (h1 : Dims w A n xs) (h2 : Lnks w B m cs) => of_bad A B n m c c2 xs cs lo hi w h1 h2 E h hE)
  clear hx hk h
  refine (callsIn_wide (n := 3)).1 ?_
  refine callsIn_of_wp_marks Try.func25 rfl trivial ?_ rfl
  simp only [Try.ntmps25, List.size_toArray, List.length_cons, List.length_nil, Nat.reduceAdd, Nat.reduceSub, Array.replicate_succ, Array.replicate_zero, List.push_toArray, List.append_toArray, List.nil_append, List.cons_append]
  gi_wp2
  refine ⟨trivial, ?_⟩
  gi_at_call 63
  refine (callsIn_wide.2 (HOF.out _ (HX.out.ext (by (repeat (first | (with_reducible assumption) | with_reducible exact Ext.refl _ | with_reducible apply Ext.alloc | with_reducible apply Ext.drew | with_reducible apply Ext.drewN | ((with_reducible apply Ext.set); case hp => (first | (simp; done) | (dsimp only; omega) | omega)) | ((with_reducible apply Ext.trans); case k => with_reducible assumption))))) (HK.out.ext (by (repeat (first | (with_reducible assumption) | with_reducible exact Ext.refl _ | with_reducible apply Ext.alloc | with_reducible apply Ext.drew | with_reducible apply Ext.drewN | ((with_reducible apply Ext.set); case hp => (first | (simp; done) | (dsimp only; omega) | omega)) | ((with_reducible apply Ext.trans); case k => with_reducible assumption))))))).mono ?_
  rintro e w2 ⟨rfl, h2⟩
  have hs2 := Ext.size h2
  simp only [World.size_alloc] at hs2
  gi_wp2
  refine endM_tt0 (p1 := 2) (p2 := 3) rfl rfl ?_
  exact Ret.mk' rfl (by (repeat (first | (with_reducible assumption) | with_reducible exact Ext.refl _ | with_reducible apply Ext.alloc | with_reducible apply Ext.drew | with_reducible apply Ext.drewN | ((with_reducible apply Ext.set); case hp => (first | (simp; done) | (dsimp only; omega) | omega)) | ((with_reducible apply Ext.trans); case k => with_reducible assumption))))
set_option maxRecDepth 20000 in
set_option maxHeartbeats 4000000 in
theorem sshares_ok (A B : Option Addr) (n m c c2 : Nat) (xs : List Dim) (cs : List Lk) (lo hi : Int) (w : World) (hx : Dims w A n xs) (hk : Lnks w B m cs) (h : taskE xs cs lo hi = 0) : Calls Try.prog 25 #[.agg #[.slice A n c, .slice B m c2, .int .i64 lo, .int .i64 hi]] w (fun e w' => ∃ g cap cur, e = .returned (.tuple #[.slice (some ⟨g, 0, none⟩) m cap, .int .i64 0]) ∧ IRow w' w.heap.size g m cur (sharesL xs cs) ∧ Ext w w') := by
  have hrt := rt_of hx.len hk.len (taskE_zero h).1
  have hwant := chk_lims0 (taskE_zero h).2
  have HRT := Lib.hid hrt
  have HX := Lib.hid hx
  have HK := Lib.hid hk
  have HOF := Lib.hid (fun w (h1 : Dims w A n xs) (h2 : Lnks w B m cs) => of_ok A B n m c c2 xs cs lo hi w h1 h2 h)
  have HB := Lib.hid (fun w (h1 : Dims w A n xs) (h2 : Lnks w B m cs) => bounds_any A B n m c c2 xs cs lo hi w h1 h2 hrt.fine hrt.m256 hrt.m0)
  have hr1 := hrt.range 1
  have hr2 := hrt.range (-1)
  have hm256 := hrt.m256
  have hm0 := hrt.m0
  have hxl := hrt.xl
  have hn0 : 0 < n := by have := hrt.mem 0 hrt.m0; omega
  obtain ⟨bA, oA, rfl, hcA⟩ := hx.at_ hn0
  have HCA := Lib.hid hcA
  obtain ⟨i0, hi0, hz0, hz1, hz2⟩ := info_parts infoInt
  have hi' := Lib.hid hi0
  have hz0' := Lib.hid hz0
  have hz1' := Lib.hid hz1
  have hz2' := Lib.hid hz2
  clear hcA hi0 hz0 hz1 hz2
  clear hx hk h hrt
  refine (callsIn_wide (n := 3)).1 ?_
  refine callsIn_of_wp_marks Try.func25 rfl trivial ?_ rfl
  simp only [Try.ntmps25, List.size_toArray, List.length_cons, List.length_nil, Nat.reduceAdd, Nat.reduceSub, Array.replicate_succ, Array.replicate_zero, List.push_toArray, List.append_toArray, List.nil_append, List.cons_append]
  gi_wp2
  refine ⟨trivial, ?_⟩
  gi_at_call 63
  refine (callsIn_wide.2 (HOF.out _ (HX.out.ext (by (repeat (first | (with_reducible assumption) | with_reducible exact Ext.refl _ | with_reducible apply Ext.alloc | with_reducible apply Ext.drew | with_reducible apply Ext.drewN | ((with_reducible apply Ext.set); case hp => (first | (simp; done) | (dsimp only; omega) | omega)) | ((with_reducible apply Ext.trans); case k => with_reducible assumption))))) (HK.out.ext (by (repeat (first | (with_reducible assumption) | with_reducible exact Ext.refl _ | with_reducible apply Ext.alloc | with_reducible apply Ext.drew | with_reducible apply Ext.drewN | ((with_reducible apply Ext.set); case hp => (first | (simp; done) | (dsimp only; omega) | omega)) | ((with_reducible apply Ext.trans); case k => with_reducible assumption))))))).mono ?_
  rintro e w2 ⟨rfl, h2⟩
  have hs2 := Ext.size h2
  simp only [World.size_alloc] at hs2
  gi_wp2
  refine ⟨trivial, ?_⟩
  gi_at_call 70
  refine (callsIn_wide.2 (links_any (some ⟨bA, oA, none⟩) B n m c c2 lo hi _ _ _)).mono ?_
  rintro e w5 ⟨rfl, rfl⟩
  gi_wp2
  obtain ⟨W0, hW0⟩ : ∃ W0, (((w2.alloc (.cells #[.slice (some ⟨bA, oA, none⟩) n c, .slice B m c2, .int .i64 lo, .int .i64 hi, .func (.func 97) #[] #[], .func (.func 98) #[] #[]] 115)).alloc (.cells #[.slice none 0 0] 39)).alloc (.cells #[.slice (some ⟨bA, oA, none⟩) n c, .slice B m c2, .int .i64 lo, .int .i64 hi, .func (.func 97) #[] #[], .func (.func 98) #[] #[]] 115)) = W0 := ⟨_, rfl⟩
  have bT : Blk W0 w2.heap.size #[.slice (some ⟨bA, oA, none⟩) n c, .slice B m c2, .int .i64 lo, .int .i64 hi, .func (.func 97) #[] #[], .func (.func 98) #[] #[]] 115 := by rw [← hW0]; (repeat (first | (with_reducible assumption) | ((with_reducible apply Blk.new_at); focus (first | (simp; done) | (simp; omega))) | with_reducible apply Blk.alloc | with_reducible apply Blk.drew | with_reducible apply Blk.drewN | with_reducible apply Blk.set | ((with_reducible apply Blk.far); case hp => (first | (simp; done) | (dsimp only; omega))) | ((with_reducible apply Blk.ext); case he => with_reducible assumption)))
  have bO : Blk W0 (w2.heap.size + 1) #[.slice none 0 0] 39 := by rw [← hW0]; (repeat (first | (with_reducible assumption) | ((with_reducible apply Blk.new_at); focus (first | (simp; done) | (simp; omega))) | with_reducible apply Blk.alloc | with_reducible apply Blk.drew | with_reducible apply Blk.drewN | with_reducible apply Blk.set | ((with_reducible apply Blk.far); case hp => (first | (simp; done) | (dsimp only; omega))) | ((with_reducible apply Blk.ext); case he => with_reducible assumption)))
  have bL : Blk W0 (w2.heap.size + 1 + 1) #[.slice (some ⟨bA, oA, none⟩) n c, .slice B m c2, .int .i64 lo, .int .i64 hi, .func (.func 97) #[] #[], .func (.func 98) #[] #[]] 115 := by rw [← hW0]; (repeat (first | (with_reducible assumption) | ((with_reducible apply Blk.new_at); focus (first | (simp; done) | (simp; omega))) | with_reducible apply Blk.alloc | with_reducible apply Blk.drew | with_reducible apply Blk.drewN | with_reducible apply Blk.set | ((with_reducible apply Blk.far); case hp => (first | (simp; done) | (dsimp only; omega))) | ((with_reducible apply Blk.ext); case he => with_reducible assumption)))
  have hE0 : Ext w W0 := by rw [← hW0]; (repeat (first | (with_reducible assumption) | with_reducible exact Ext.refl _ | with_reducible apply Ext.alloc | with_reducible apply Ext.drew | with_reducible apply Ext.drewN | ((with_reducible apply Ext.set); case hp => (first | (simp; done) | (dsimp only; omega) | omega)) | ((with_reducible apply Ext.trans); case k => with_reducible assumption)))
  have hsz : W0.heap.size = w2.heap.size + 3 := by rw [← hW0]; simp
  rw [hW0]
  clear hW0
  have hcl := bL.cell 1
  simp at hcl
  obtain ⟨f, hf⟩ : ∃ f : Nat → FK xs, ∀ j, j < m → (f j).1 = cs.getD j zeroK := ⟨fth ⟨_, HRT.out.fine 0 hm0⟩ cs, fun j hj => fth_val (HRT.out.fine j hj)⟩
  refine wpIn_rangeFunc_ownH rfl (by decide) (gf := 100) (lb := #[.pointer (some ⟨w2.heap.size + 1 + 1, 0, none⟩)]) rfl trivial (enters_of Try.func100 (by kernel_rfl) rfl)
    (linksL_stops (fun x : FK xs => x.1) f Fence.wide (3 - 1) trivial rfl (by decide) (w2.heap.size + 1 + 1) w.heap.size m c2 B cs W0 (by omega) (by omega) hcl (fun h0 b o hA => HK.out.below h0 b o hA) (HK.out.ext hE0) hf) belowK_t (belowK_b (by omega)) (Below.refl _ _) (fun _ => rfl)
    (fun pre W => ((∃ v, Boxed W (w2.heap.size + 1) 39 v ∧ W.ownsRow (w2.heap.size + 1) 3 1 v pre.length (flatI (sharesL xs (valsK pre))) ∧ True) ∧ Blk W w2.heap.size #[.slice (some ⟨bA, oA, none⟩) n c, .slice B m c2, .int .i64 lo, .int .i64 hi, .func (.func 97) #[] #[], .func (.func 98) #[] #[]] 115) ∧ Below w.heap.size w W)
    (fun _ _ _ => False)
    (OwnFrom.and (OwnFrom.and (Own.from (holdsRow_own (w2.heap.size + 1) (w2.heap.size + 1) 39 3 1 (fun pre : List (FK xs) => pre.length) (fun pre => flatI (sharesL xs (valsK pre))) (fun _ _ => True)) _) (Own.from (blk_own _ _ _) _)) (ownFrom_below (Nat.le_refl _) (by omega)))
    (fun _ _ _ _ _ hs _ _ => hs)
    ⟨⟨⟨_, bO, World.ownsRow_nil _ _ _ _, trivial⟩, bT⟩, hE0⟩
    (fun x a' _ => a' = { tmps := #[.agg #[.slice (some ⟨bA, oA, none⟩) n c, .slice B m c2, .int .i64 lo, .int .i64 hi], .pointer (some ⟨w.heap.size, 0, none⟩), .slice none 0 0, .int .i64 0, .pointer (some ⟨w2.heap.size, 0, none⟩), .int .i64 0, .pointer (some ⟨w2.heap.size + 1, 0, none⟩), .int .i64 x.1.dim, undef, .tuple #[.agg #[.slice (some ⟨bA, oA, none⟩) n c, .slice B m c2, .int .i64 lo, .int .i64 hi, .func (.func 97) #[] #[], .func (.func 98) #[] #[]], .int .i64 0], .agg #[.slice (some ⟨bA, oA, none⟩) n c, .slice B m c2, .int .i64 lo, .int .i64 hi], .tuple #[.agg #[.slice (some ⟨bA, oA, none⟩) n c, .slice B m c2, .int .i64 lo, .int .i64 hi, .func (.func 97) #[] #[], .func (.func 98) #[] #[]], .int .i64 0], .agg #[.slice (some ⟨bA, oA, none⟩) n c, .slice B m c2, .int .i64 lo, .int .i64 hi, .func (.func 97) #[] #[], .func (.func 98) #[] #[]], .int .i64 0, .int .i64 0, .bool false, undef, .agg #[.slice (some ⟨bA, oA, none⟩) n c, .slice B m c2, .int .i64 lo, .int .i64 hi, .func (.func 97) #[] #[], .func (.func 98) #[] #[]], .func (.func 100) #[] #[.pointer (some ⟨w2.heap.size + 1 + 1, 0, none⟩)], .int .i64 x.1.dim, .int .i64 (sgn x.1), undef, undef, undef, undef, undef, undef, undef, undef, undef, undef, undef, undef, undef, undef, undef, undef], defers := [] })
    (fun _ _ _ _ _ _ hs _ _ => hs)
    ?assign ?body ?done ?stop
  case assign =>
    rintro l pre x W K hi hK
    gi_wp2
    exact hK _ _ (KeepsFrom.refl _ _) (Below.refl _ _) hi rfl
  case body =>
    rintro l pre x a' W hl hr ⟨⟨⟨v, hv, hrow, _⟩, qT⟩, qB⟩ rfl hlt
    obtain ⟨⟨i, bk⟩, hfx⟩ := x
    have hfi := hfx
    obtain ⟨g0, g1, g2, g3, g4, g5⟩ := hfx
    dsimp only at g0 g1
    obtain ⟨p, rfl⟩ := Int.eq_ofNat_of_zero_le g0
    rw [hxl] at g1
    have hp : p < n := by omega
    obtain ⟨d, hd⟩ : ∃ d, xs.getD p zeroD = d := ⟨_, rfl⟩
    obtain ⟨-, -, -, a4, a5⟩ := Dims.cells HCA.out (show Ext w W from qB) p hp d hd
    have hdk : dimK xs ⟨(p : Int), bk⟩ = d := by unfold dimK; rw [Int.toNat_natCast]; exact hd
    rw [hdk] at g2 g3 g4 g5
    obtain ⟨D, hD⟩ : ∃ D, d.hi - d.lo = D := ⟨_, rfl⟩
    have hsn : sharesL xs (valsK (pre ++ [⟨⟨(p : Int), bk⟩, hfi⟩])) = sharesL xs (valsK pre) ++ [D] := by rw [valsK_snoc, sharesL_snoc, shareI, hdk, hD]
    have hTl := qT.lt
    have hvl := hv.lt
    have hvc := hv.cell
    have hvf := hv.frozen
    have hbl : bA < W.heap.size := World.block_lt_of_cell? W _ a4
    have t0 := qT.cell 0
    simp at t0
    have HSN := Lib.hid hsn
    clear hsn hd hdk
    have hrow6 := hrow.alloc (.cells #[.int .i64 d.lo, .int .i64 d.hi] 25)
    gi_wp2_with (gi_at_builtin; refine wpListIn_append_own _ rfl _ _ 39 rfl (w2.heap.size + 1) 3 i0 _ 1 8 Try.underlying39 hi'.out hz0'.out hz1'.out hz2'.out rfl (by decide) _ _ _ rfl (hrow6.alloc _) ⟨W.heap.size + 1, 0, none⟩ 1 1 [.int .i64 D] rfl rfl (by have := cells_one (W.alloc (.cells #[.int .i64 d.lo, .int .i64 d.hi] 25)) (.int .i64 D) 3; rw [World.size_alloc] at this; exact this) (by simp [Value.oneCell']) (by have : maxLen = 9223372036854775807 := rfl; omega) (by omega) (by simp; omega) ?_; intro v' w6 hown' hgrow _; obtain ⟨g', cap', rfl⟩ := ownsRow_succ hown'; obtain ⟨hv1, hv2, hr2, hk2, hb2⟩ := (hv.alloc _).appended (by decide) hrow6 (by simp; omega) (Nat.le_refl _) hown' hgrow; have hc1 := hv1.cell; have hf1 := hv1.frozen)
    have hkb : KB (w2.heap.size + 1) W (W.alloc (.cells #[.int .i64 d.lo, .int .i64 d.hi] 25)) := KB.alloc (KB.refl (by omega)) _
    have hbel := hkb.below.trans hb2
    refine ⟨(hkb.keeps (by omega)).trans (hk2.from _), Below.mono hbel (by omega), ⟨⟨_, hv2, ?_, trivial⟩, (hbel.block _ (by omega)).trans qT⟩, qB.trans (Below.mono hbel (by omega))⟩
    rw [HSN.out, flatI_snoc, List.length_append]
    exact hr2
  case done =>
    rintro D ys W hD rfl ⟨⟨⟨v, hv, hrow, _⟩, qT⟩, qB⟩ hK
    have hlen : (upto f m).length = m := upto_length _ _
    have hvk : valsK (upto f m) = cs := by
      rw [upto_valK HK.out.len f hf m (Nat.le_refl _), ← HK.out.len, List.take_length]
    rw [hlen, hvk] at hrow
    obtain ⟨g, cap, cur, rfl, hR⟩ := ownsI hrow hm0
    clear hrow
    have hvc := hv.cell
    have hvl := hv.lt
    gi_wp2
    refine endM_tt (p1 := 2) (p2 := 3) rfl rfl hK ?_
    refine ⟨g, cap, cur, rfl, ⟨by have := hR.1; omega, hR.2.1.putObj _ hK rfl, hR.2.2⟩, ?_⟩
    exact qB.trans (belowK_b (w := w) (Nat.le_refl _) W D _ _ (by omega) hK rfl rfl)
  case stop =>
    rintro D c pre W _ _ h _
    exact h.elim
end Go.Proofs.Ytdcedfciaaooiab
