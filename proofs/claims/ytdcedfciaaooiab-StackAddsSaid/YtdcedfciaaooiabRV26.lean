/- loop.Reverse: the walk. -/
import Derived.Test.YtdcedfciaaooiabA5
import Derived.Test.YtdcedfciaaooiabA7
import Derived.Test.YtdcedfciaaooiabBL26
import Derived.Test.YtdcedfciaaooiabPC26
import Derived.Test.YtdcedfciaaooiabT25
import Derived.Test.YtdcedfciaaooiabX25
set_option linter.unusedVariables false
namespace Go.Proofs.Ytdcedfciaaooiab
open Go.RowKit Go.Shelf
attribute [local go_sem] Oper.semAt_some

theorem infoLl : (Try.prog.info? 64).map (fun i => (i.zero, i.size, i.bytes)) = some (some (.agg #[.int .i64 0, .bool false]), 2, 16) := by kernel_rfl
/-- The links so far, backwards. -/
def turnedK (pre : List (Nat × Lk)) : List Lk := pre.map fun x => flipK x.2
theorem turnedK_all {cs : List Lk} {m : Nat} (hm : cs.length = m) (f : Nat → Lk) (hf : ∀ j, j < m → f j = cs.getD j zeroK) : turnedK (upto (backK f m) m) = revC cs := by
  apply List.ext_getElem
  · simp [turnedK, upto, revC, hm]
  · intro k h1 h2
    have hk : k < m := by simpa [turnedK, upto] using h1
    have e : m - 1 - k < cs.length := by omega
    simp only [turnedK, revC, upto, backK, List.getElem_map, List.getElem_range, List.getElem_reverse]
    rw [hf _ (by omega), List.getD_eq_getElem?_getD, List.getElem?_eq_getElem e]
    simp [hm]
set_option maxRecDepth 20000 in
set_option maxHeartbeats 4000000 in
theorem lreverse_bad (A B : Option Addr) (n m c c2 : Nat) (xs : List Dim) (cs : List Lk) (w : World) (hx : Dims w A n xs) (hk : Lnks w B m cs) (E : Int) (h : checkE xs cs = E) (hE : (E != 0) = true) : Calls Try.prog 37 #[.slice A n c, .slice B m c2] w (Ret (.tuple #[.slice none 0 0, .int .i64 E]) w) := by
  have HX := Lib.hid hx
  have HK := Lib.hid hk
  have HC := Lib.hid (fun w (h1 : Dims w A n xs) (h2 : Lnks w B m cs) => (by have := lcheck_any A B n m c c2 xs cs w h1 h2; rwa [h] at this : Calls Try.prog 60 #[.slice A n c, .slice B m c2] w (Ret (.int .i64 E) w)))
  clear hx hk h
  refine (callsIn_wide (n := 3)).1 ?_
  refine callsIn_of_wp_marks Try.func37 rfl trivial ?_ rfl
  simp only [Try.ntmps37, List.size_toArray, List.length_cons, List.length_nil, Nat.reduceAdd, Nat.reduceSub, Array.replicate_succ, Array.replicate_zero, List.push_toArray, List.append_toArray, List.nil_append, List.cons_append]
  gi_wp2
  refine ⟨trivial, ?_⟩
  gi_at_call 60
  refine (callsIn_wide.2 (HC.out _ (HX.out.ext (by (repeat (first | (with_reducible assumption) | with_reducible exact Ext.refl _ | with_reducible apply Ext.alloc | with_reducible apply Ext.drew | with_reducible apply Ext.drewN | ((with_reducible apply Ext.set); case hp => (first | (simp; done) | (dsimp only; omega) | omega)) | ((with_reducible apply Ext.trans); case k => with_reducible assumption))))) (HK.out.ext (by (repeat (first | (with_reducible assumption) | with_reducible exact Ext.refl _ | with_reducible apply Ext.alloc | with_reducible apply Ext.drew | with_reducible apply Ext.drewN | ((with_reducible apply Ext.set); case hp => (first | (simp; done) | (dsimp only; omega) | omega)) | ((with_reducible apply Ext.trans); case k => with_reducible assumption))))))).mono ?_
  rintro e w2 ⟨rfl, h2⟩
  gi_wp2
  refine endM_tt0 (p1 := 4) (p2 := 5) rfl rfl ?_
  exact Ret.mk' rfl (by (repeat (first | (with_reducible assumption) | with_reducible exact Ext.refl _ | with_reducible apply Ext.alloc | with_reducible apply Ext.drew | with_reducible apply Ext.drewN | ((with_reducible apply Ext.set); case hp => (first | (simp; done) | (dsimp only; omega) | omega)) | ((with_reducible apply Ext.trans); case k => with_reducible assumption))))
set_option maxRecDepth 20000 in
set_option maxHeartbeats 4000000 in
theorem lreverse_ok (A B : Option Addr) (n m c c2 : Nat) (xs : List Dim) (cs : List Lk) (w : World) (hx : Dims w A n xs) (hk : Lnks w B m cs) (h : checkE xs cs = 0) : Calls Try.prog 37 #[.slice A n c, .slice B m c2] w (fun e w' => ∃ g cap cur, e = .returned (.tuple #[.slice (some ⟨g, 0, none⟩) m cap, .int .i64 0]) ∧ LRow 64 w' w.heap.size g m cur (revC cs) ∧ m ≤ cap ∧ Ext w w') := by
  have hparts := check_parts h
  have hm0 : 0 < m := by have := hparts.2.2.1; have := hk.len; omega
  have hm256 : m ≤ 256 := by have := hparts.2.2.2; have := hk.len; omega
  have hkl := hk.len
  obtain ⟨bB, oB, rfl, -⟩ := hk.at_ hm0
  have HX := Lib.hid hx
  have HK := Lib.hid hk
  have HC := Lib.hid (fun w (h1 : Dims w A n xs) (h2 : Lnks w (some ⟨bB, oB, none⟩) m cs) => (by have := lcheck_any A (some ⟨bB, oB, none⟩) n m c c2 xs cs w h1 h2; rwa [h] at this : Calls Try.prog 60 #[.slice A n c, .slice (some ⟨bB, oB, none⟩) m c2] w (Ret (.int .i64 0) w)))
  obtain ⟨i0, hi0, hz0, hz1, hz2⟩ := info_parts infoLl
  have hi' := Lib.hid hi0
  have hz0' := Lib.hid hz0
  have hz1' := Lib.hid hz1
  have hz2' := Lib.hid hz2
  clear hi0 hz0 hz1 hz2 hx hk h hparts
  refine (callsIn_wide (n := 3)).1 ?_
  refine callsIn_of_wp_marks Try.func37 rfl trivial ?_ rfl
  simp only [Try.ntmps37, List.size_toArray, List.length_cons, List.length_nil, Nat.reduceAdd, Nat.reduceSub, Array.replicate_succ, Array.replicate_zero, List.push_toArray, List.append_toArray, List.nil_append, List.cons_append]
  gi_wp2
  refine ⟨trivial, ?_⟩
  gi_at_call 60
  refine (callsIn_wide.2 (HC.out _ (HX.out.ext (by (repeat (first | (with_reducible assumption) | with_reducible exact Ext.refl _ | with_reducible apply Ext.alloc | with_reducible apply Ext.drew | with_reducible apply Ext.drewN | ((with_reducible apply Ext.set); case hp => (first | (simp; done) | (dsimp only; omega) | omega)) | ((with_reducible apply Ext.trans); case k => with_reducible assumption))))) (HK.out.ext (by (repeat (first | (with_reducible assumption) | with_reducible exact Ext.refl _ | with_reducible apply Ext.alloc | with_reducible apply Ext.drew | with_reducible apply Ext.drewN | ((with_reducible apply Ext.set); case hp => (first | (simp; done) | (dsimp only; omega) | omega)) | ((with_reducible apply Ext.trans); case k => with_reducible assumption))))))).mono ?_
  rintro e w2 ⟨rfl, h2⟩
  have hs2 := Ext.size h2
  gi_wp2
  refine ⟨trivial, ?_⟩
  gi_at_call 72
  refine (callsIn_wide.2 (lback_any (some ⟨bB, oB, none⟩) m c2 _)).mono ?_
  rintro e w5 ⟨rfl, rfl⟩
  gi_wp2
  obtain ⟨W0, hW0⟩ : ∃ W0, ((w2.alloc (.cells #[.slice none 0 0] 23)).alloc (.cells #[.slice (some ⟨bB, oB, none⟩) m c2] 23)) = W0 := ⟨_, rfl⟩
  have b7 : Blk W0 w2.heap.size #[.slice none 0 0] 23 := by rw [← hW0]; (repeat (first | (with_reducible assumption) | ((with_reducible apply Blk.new_at); focus (first | (simp; done) | (simp; omega))) | with_reducible apply Blk.alloc | with_reducible apply Blk.drew | with_reducible apply Blk.drewN | with_reducible apply Blk.set | ((with_reducible apply Blk.far); case hp => (first | (simp; done) | (dsimp only; omega))) | ((with_reducible apply Blk.ext); case he => with_reducible assumption)))
  have bB' : Blk W0 (w2.heap.size + 1) #[.slice (some ⟨bB, oB, none⟩) m c2] 23 := by rw [← hW0]; (repeat (first | (with_reducible assumption) | ((with_reducible apply Blk.new_at); focus (first | (simp; done) | (simp; omega))) | with_reducible apply Blk.alloc | with_reducible apply Blk.drew | with_reducible apply Blk.drewN | with_reducible apply Blk.set | ((with_reducible apply Blk.far); case hp => (first | (simp; done) | (dsimp only; omega))) | ((with_reducible apply Blk.ext); case he => with_reducible assumption)))
  have hE0 : Ext w W0 := by rw [← hW0]; (repeat (first | (with_reducible assumption) | with_reducible exact Ext.refl _ | with_reducible apply Ext.alloc | with_reducible apply Ext.drew | with_reducible apply Ext.drewN | ((with_reducible apply Ext.set); case hp => (first | (simp; done) | (dsimp only; omega) | omega)) | ((with_reducible apply Ext.trans); case k => with_reducible assumption)))
  have hsz : W0.heap.size = w2.heap.size + 2 := by rw [← hW0]; simp
  rw [hW0]
  clear hW0
  have hbl : bB < w.heap.size := by
    obtain ⟨b', o', e, hc⟩ := HK.out.at_ hm0
    cases e
    exact World.block_lt_of_cell? w _ (hc 0 hm0).1
  obtain ⟨f, hf⟩ : ∃ f : Nat → Lk, ∀ j, j < m → f j = cs.getD j zeroK := ⟨fun j => cs.getD j zeroK, fun j _ => rfl⟩
  have HF := Lib.hid hf
  clear hf
  refine wpIn_rangeFunc_ownH rfl (by decide) (gf := 101) (lb := #[.pointer (some ⟨w2.heap.size + 1, 0, none⟩)]) rfl trivial (enters_of Try.func101 (by kernel_rfl) rfl)
    (backL_stops (fun x : Lk => x) f Fence.wide (3 - 1) trivial rfl (by decide) (w2.heap.size + 1) w2.heap.size m c2 (some ⟨bB, oB, none⟩) cs W0 (by omega) (Blk.r1 bB') (fun _ b' o' hA => by cases hA; omega) (HK.out.ext hE0) HF.out) kpB_t (kpB_b (by omega) (by omega)) (Below.refl _ _) (fun _ => rfl)
    (fun pre W => ((∃ v, Boxed W w2.heap.size 23 v ∧ W.ownsRow w2.heap.size 64 2 v pre.length (flatL (turnedK pre)) ∧ True) ∧ Blk W (w2.heap.size + 1) #[.slice (some ⟨bB, oB, none⟩) m c2] 23) ∧ Below w2.heap.size W0 W)
    (fun _ _ _ => False)
    (OwnFrom.and (OwnFrom.and (Own.from (holdsRow_own w2.heap.size w2.heap.size 23 64 2 (fun pre : List (Nat × Lk) => pre.length) (fun pre => flatL (turnedK pre)) (fun _ _ => True)) _) (Own.from (blk_own _ _ _) _)) (ownFrom_below (by omega) (by omega)))
    (fun _ _ _ _ _ hs _ _ => hs)
    ⟨⟨⟨_, b7, World.ownsRow_nil _ _ _ _, trivial⟩, bB'⟩, Below.refl _ _⟩
    (fun x a' W' => ∃ Bx, w2.heap.size + 2 ≤ Bx ∧ Blk W' Bx #[.int .i64 x.2.dim, .bool x.2.back] 64 ∧ a' = { tmps := #[.slice A n c, .slice (some ⟨bB, oB, none⟩) m c2, undef, undef, .slice none 0 0, .int .i64 0, .int .i64 0, .pointer (some ⟨w2.heap.size, 0, none⟩), undef, .pointer (some ⟨Bx, 0, none⟩), .slice A n c, .slice (some ⟨bB, oB, none⟩) m c2, .int .i64 0, .int .i64 0, .bool false, undef, .slice (some ⟨bB, oB, none⟩) m c2, .func (.func 101) #[] #[.pointer (some ⟨w2.heap.size + 1, 0, none⟩)], .int .i64 ((x.1 : Nat) : Int), .agg #[.int .i64 x.2.dim, .bool x.2.back], undef, undef, undef, undef, undef, undef, undef, undef, undef, undef], defers := [] })
    (fun x a' _ X Y row hs hg hr => by obtain ⟨Bx, e1, e2, e3⟩ := hs; exact ⟨Bx, e1, blk_own Bx _ (fun (_ : Unit) => #[.int .i64 x.2.dim, .bool x.2.back]) () X Y row e2 hg (fun r e => (hr r e).2), e3⟩)
    ?assign ?body ?done ?stop
  case assign =>
    rintro l pre x W' K ⟨⟨⟨v, hv, hrow, _⟩, qB⟩, qW⟩ hK
    have hWs := qW.size
    gi_wp2
    exact hK _ _ ((KeepsOthers.alloc _ _).from _) ⟨(Below.refl _ W').alloc (by omega) _, Below.heap_alloc _ _ _ (by omega)⟩ ⟨⟨⟨v, hv.alloc _, hrow.alloc _, trivial⟩, qB.alloc _⟩, qW.alloc (by omega) _⟩ ⟨W'.heap.size, by omega, Blk.new W' _ _, rfl⟩
  case body =>
    rintro l pre x a' W hl ⟨r, hr⟩ ⟨⟨⟨v, hv, hrow, _⟩, qB⟩, qW⟩ ⟨Bx, hBx, bX, rfl⟩ hlt
    have hWs := qW.size
    obtain ⟨i, ⟨dm, bk⟩⟩ := x
    dsimp only at bX ⊢
    obtain ⟨X1, X2, X3, X4⟩ := bX.c2
    have hXlt := bX.lt
    have hvl := hv.lt
    have hvc := hv.cell
    have hvf := hv.frozen
    have hsn : turnedK (pre ++ [(i, ⟨dm, bk⟩)]) = turnedK pre ++ [⟨dm, !bk⟩] := by simp [turnedK, flipK]
    have HSN := Lib.hid hsn
    clear hsn
    have hrow6 := hrow.alloc (.cells #[.int .i64 dm, .bool !bk] 64)
    gi_wp2_with (gi_at_builtin; refine wpListIn_append_own _ rfl _ _ 23 rfl w2.heap.size 64 i0 _ 2 16 Try.underlying23 hi'.out hz0'.out hz1'.out hz2'.out rfl (by decide) _ _ _ rfl hrow6 ⟨W.heap.size, 0, none⟩ 1 1 [.int .i64 dm, .bool !bk] rfl rfl (cells_two _ _ _ _) (by simp [Value.oneCell']) (by have : maxLen = 9223372036854775807 := rfl; omega) (by omega) (by simp; omega) ?_; intro v' w6 hown' hgrow _; obtain ⟨g', cap', rfl⟩ := ownsRow_succ hown'; obtain ⟨hv1, hv2, hr2, hk2, hb2⟩ := hv.appended (by decide) hrow (by omega) (Nat.le_refl _) hown' hgrow; have hc1 := hv1.cell; have hf1 := hv1.frozen)
    have hgrow' : (W.alloc (.cells #[.int .i64 dm, .bool !bk] 64)).grownBy w6 v.ownBlock := hgrow
    have qB7 : Blk (w6.setCell { block := w2.heap.size, off := 0 } (Value.slice (some { block := g', off := 0 }) (pre.length + 1) cap')) (w2.heap.size + 1) #[.slice (some ⟨bB, oB, none⟩) m c2] 23 :=
      (Blk.grown (qB.alloc _) hgrow' (Blk.not_row (qB.alloc (.cells #[.int .i64 dm, .bool !bk] 64)) (by decide) hrow6)).far (by simp) _
    refine ⟨hk2.from _, ⟨hb2, Eq.trans qB7 (Eq.symm qB)⟩, ⟨⟨_, hv2, ?_, trivial⟩, qB7⟩, qW.trans hb2⟩
    rw [HSN.out, flatL_snoc, List.length_append]
    exact hr2
  case done =>
    rintro D ys W hD rfl ⟨⟨⟨v, hv, hrow, _⟩, qB⟩, qW⟩ hK
    have hlen : (upto (backK f m) m).length = m := upto_length _ _
    rw [hlen, turnedK_all hkl f HF.out] at hrow
    obtain ⟨g, cap, cur, rfl, hcap, hR⟩ := ownsLR hrow hm0
    clear hrow
    have hvc := hv.cell
    have hvl := hv.lt
    gi_wp2
    refine endM_tt (p1 := 4) (p2 := 5) rfl rfl hK ?_
    refine ⟨g, cap, cur, rfl, ⟨by have := hR.1; omega, hR.2.1.putObj _ hK rfl, hR.2.2⟩, hcap, ?_⟩
    exact ((show Below w.heap.size w W0 from hE0).trans (Below.mono qW (by omega))).trans (belowK_b (w := w) (Nat.le_refl _) W D _ _ (by omega) hK rfl rfl)
  case stop =>
    rintro D c pre W _ _ h _
    exact h.elim
end Go.Proofs.Ytdcedfciaaooiab
