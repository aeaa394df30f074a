/- slices.Values and dimension.joined: the walks. -/
import Derived.Test.YtdcedfciaaooiaaJ0
import Derived.Test.YtdcedfciaaooiaaX5
set_option linter.unusedVariables false
namespace Go.Proofs.Ytdcedfciaaooiaa
open Go.RowKit Go.Shelf
attribute [local go_sem] Oper.semAt_some

theorem values_any (A : Option Addr) (m c : Nat) (w : World) : Calls Try.prog 87 #[.slice A m c] w
    (fun e w' => e = .returned (.func (.func 110) #[] #[.pointer (some ⟨w.heap.size, 0, none⟩)]) ∧ w.alloc (.cells #[.slice A m c] 42) = w') := by
  go_enter Try.func87, Try.ntmps87
  go_wp2_with fail
  go_ret
  exact ⟨rfl, rfl⟩

theorem zeroD_fits : zeroD.fits := zeroF.2
theorem stL_nil : stL [] = (false, zeroD, 0) := rfl
theorem stL_first {ys : List Dim} {x : Dim} (h : (stL ys).2.2 = 0) (h1 : (stL ys).1 = false) : stL (ys ++ [x]) = (true, x, 0) := by
  rw [stL_snoc, stepL, if_neg (by simp [h]), if_neg (by simp [h1])]
theorem stL_next {ys : List Dim} {x : Dim} (h : (stL ys).2.2 = 0) (h1 : (stL ys).1 = true) : stL (ys ++ [x]) = (true, joinD (stL ys).2.1 x, joinE (stL ys).2.1 x) := by
  rw [stL_snoc, stepL, if_neg (by simp [h]), if_pos h1]
theorem stL_zero (ys : List Dim) (h : (stL ys).2.2 ≠ 0) : (stL ys).2.1 = zeroD := by
  suffices ∀ (s : Bool × Dim × Int), (s.2.2 ≠ 0 → s.2.1 = zeroD) → (ys.foldl stepL s).2.2 ≠ 0 → (ys.foldl stepL s).2.1 = zeroD from this _ (fun h => absurd rfl h) h
  clear h
  induction ys with
  | nil => intro s hs h; exact hs h
  | cons y ys ih =>
    intro s hs h
    rw [List.foldl_cons] at h ⊢
    refine ih _ ?_ h
    unfold stepL
    split
    · exact hs
    · split
      · exact fun h => joinD_no h
      · exact fun h => absurd rfl h
def vals (pre : List FD) : List Dim := pre.map (·.1)
theorem vals_snoc (pre : List FD) (x : FD) : vals (pre ++ [x]) = vals pre ++ [x.1] := by simp [vals]
theorem vals_fits (pre : List FD) : ∀ y ∈ vals pre, y.fits := by
  intro y hy
  simp only [vals, List.mem_map] at hy
  obtain ⟨x, _, rfl⟩ := hy
  exact x.2

set_option maxRecDepth 100000 in
set_option maxHeartbeats 4000000 in
theorem joined_any (Bs m c : Nat) (A : Option Addr) (xs : List Dim) (w : World) (hc : w.cell? ⟨Bs, 0, none⟩ = some (.slice A m c)) (hx : Dims w A m xs) :
    Calls Try.prog 86 #[.func (.func 110) #[] #[.pointer (some ⟨Bs, 0, none⟩)]] w
      (Ret (.tuple #[.agg #[.string (stL xs).2.1.frm, .string (stL xs).2.1.to, .int .i64 (stL xs).2.1.axis, .int .i64 (stL xs).2.1.lo, .int .i64 (stL xs).2.1.hi], .int .i64 (stL xs).2.2]) w) := by
  have hBs := World.block_lt_of_cell? w _ hc
  simp only at hBs
  refine (callsIn_wide (n := 3)).1 ?_
  refine callsIn_of_wp_marks Try.func86 rfl trivial ?_ rfl
  simp only [Try.ntmps86, List.size_toArray, List.length_cons, List.length_nil, Nat.reduceAdd, Nat.reduceSub, Array.replicate_succ, Array.replicate_zero, List.push_toArray, List.append_toArray, List.nil_append, List.cons_append]
  gi_wp2
  obtain ⟨W0, hW0⟩ : ∃ W0, (((w.alloc (.cells #[.string ⟨#[]⟩, .string ⟨#[]⟩, .int .i64 0, .int .i64 0, .int .i64 0] 40)).alloc (.cells #[.int .i64 0] 26)).alloc (.cells #[.string ⟨#[]⟩, .string ⟨#[]⟩, .int .i64 0, .int .i64 0, .int .i64 0] 40)).alloc (.cells #[.bool false] 4) = W0 := ⟨_, rfl⟩
  have bR2 : Blk W0 w.heap.size #[.string zeroD.frm, .string zeroD.to, .int .i64 zeroD.axis, .int .i64 zeroD.lo, .int .i64 zeroD.hi] 40 := by rw [← hW0]; (apply Blk.is; (case h => (repeat (first | (with_reducible assumption) | ((with_reducible apply Blk.new_at); focus (first | (simp; done) | (simp; omega))) | with_reducible apply Blk.alloc | with_reducible apply Blk.drew | with_reducible apply Blk.drewN | with_reducible apply Blk.set | ((with_reducible apply Blk.far); case hp => (first | (simp; done) | (dsimp only; omega))) | ((with_reducible apply Blk.ext); case he => with_reducible assumption)))); all_goals rfl)
  have bR3 : Blk W0 (w.heap.size + 1) #[.int .i64 0] 26 := by rw [← hW0]; (repeat (first | (with_reducible assumption) | ((with_reducible apply Blk.new_at); focus (first | (simp; done) | (simp; omega))) | with_reducible apply Blk.alloc | with_reducible apply Blk.drew | with_reducible apply Blk.drewN | with_reducible apply Blk.set | ((with_reducible apply Blk.far); case hp => (first | (simp; done) | (dsimp only; omega))) | ((with_reducible apply Blk.ext); case he => with_reducible assumption)))
  have bO : Blk W0 (w.heap.size + 1 + 1) #[.string zeroD.frm, .string zeroD.to, .int .i64 zeroD.axis, .int .i64 zeroD.lo, .int .i64 zeroD.hi] 40 := by rw [← hW0]; (apply Blk.is; (case h => (repeat (first | (with_reducible assumption) | ((with_reducible apply Blk.new_at); focus (first | (simp; done) | (simp; omega))) | with_reducible apply Blk.alloc | with_reducible apply Blk.drew | with_reducible apply Blk.drewN | with_reducible apply Blk.set | ((with_reducible apply Blk.far); case hp => (first | (simp; done) | (dsimp only; omega))) | ((with_reducible apply Blk.ext); case he => with_reducible assumption)))); all_goals rfl)
  have bS : Blk W0 (w.heap.size + 1 + 1 + 1) #[.bool false] 4 := by rw [← hW0]; (repeat (first | (with_reducible assumption) | ((with_reducible apply Blk.new_at); focus (first | (simp; done) | (simp; omega))) | with_reducible apply Blk.alloc | with_reducible apply Blk.drew | with_reducible apply Blk.drewN | with_reducible apply Blk.set | ((with_reducible apply Blk.far); case hp => (first | (simp; done) | (dsimp only; omega))) | ((with_reducible apply Blk.ext); case he => with_reducible assumption)))
  have hE0 : Ext w W0 := by rw [← hW0]; (repeat (first | (with_reducible assumption) | with_reducible exact Ext.refl _ | with_reducible apply Ext.alloc | with_reducible apply Ext.drew | with_reducible apply Ext.drewN | ((with_reducible apply Ext.set); case hp => (first | (simp; done) | (dsimp only; omega) | omega)) | ((with_reducible apply Ext.trans); case k => with_reducible assumption)))
  have hsz : W0.heap.size = w.heap.size + 4 := by rw [← hW0]; simp
  rw [hW0]
  clear hW0
  refine wpIn_rangeFunc_ownH rfl (by decide) (gf := 110) (lb := #[.pointer (some ⟨Bs, 0, none⟩)]) rfl trivial (enters_of Try.func110 (by kernel_rfl) rfl)
    (valuesD_stops Fence.wide (3 - 1) trivial rfl (by decide) Bs w.heap.size m c A xs W0 (by omega) (by omega) (hE0.cell hc) hx.below (hx.ext hE0)) belowK_t (belowK_b (by omega)) (Below.refl _ _) (fun _ => rfl)
    (fun pre W => (((((stL (vals pre)).2.2 = 0) ∧ Blk W w.heap.size #[.string zeroD.frm, .string zeroD.to, .int .i64 zeroD.axis, .int .i64 zeroD.lo, .int .i64 zeroD.hi] 40) ∧ Blk W (w.heap.size + 1) #[.int .i64 0] 26) ∧ Blk W (w.heap.size + 1 + 1) #[.string (stL (vals pre)).2.1.frm, .string (stL (vals pre)).2.1.to, .int .i64 (stL (vals pre)).2.1.axis, .int .i64 (stL (vals pre)).2.1.lo, .int .i64 (stL (vals pre)).2.1.hi] 40 ∧ Blk W (w.heap.size + 1 + 1 + 1) #[.bool (stL (vals pre)).1] 4) ∧ Below w.heap.size w W)
    (fun c pre W => (((c = .ret ∧ (stL (vals pre)).2.2 ≠ 0) ∧ Blk W w.heap.size #[.string zeroD.frm, .string zeroD.to, .int .i64 zeroD.axis, .int .i64 zeroD.lo, .int .i64 zeroD.hi] 40) ∧ Blk W (w.heap.size + 1) #[.int .i64 (stL (vals pre)).2.2] 26) ∧ Below w.heap.size w W)
    (OwnFrom.and (OwnFrom.and (OwnFrom.and (OwnFrom.and (ownFrom_pure _ _) (Own.from (blk_own _ _ _) _)) (Own.from (blk_own _ _ _) _)) (OwnFrom.and (Own.from (blk_own _ _ _) _) (Own.from (blk_own _ _ _) _))) (ownFrom_below (Nat.le_refl _) (by omega)))
    (fun c => OwnFrom.and (OwnFrom.and (OwnFrom.and (ownFrom_pure _ _) (Own.from (blk_own _ _ _) _)) (Own.from (blk_own _ _ _) _)) (ownFrom_below (Nat.le_refl _) (by omega)))
    ⟨⟨⟨⟨rfl, bR2⟩, bR3⟩, bO, bS⟩, hE0⟩
    (fun x a' W => ∃ Bx, w.heap.size + 4 ≤ Bx ∧ Blk W Bx #[.string x.1.frm, .string x.1.to, .int .i64 x.1.axis, .int .i64 x.1.lo, .int .i64 x.1.hi] 40 ∧ a' = { tmps := #[.func (.func 110) #[] #[.pointer (some ⟨Bs, 0, none⟩)], undef, .pointer (some ⟨w.heap.size, 0, none⟩), .pointer (some ⟨w.heap.size + 1, 0, none⟩), .pointer (some ⟨w.heap.size + 1 + 1, 0, none⟩), .pointer (some ⟨w.heap.size + 1 + 1 + 1, 0, none⟩), .pointer (some ⟨Bx, 0, none⟩), undef, undef, .func (.func 110) #[] #[.pointer (some ⟨Bs, 0, none⟩)], .agg #[.string x.1.frm, .string x.1.to, .int .i64 x.1.axis, .int .i64 x.1.lo, .int .i64 x.1.hi], undef, undef, undef, undef, undef, undef, undef, undef, undef, undef, undef, undef, undef, undef, undef], defers := [] })
    (fun x a' _ X Y row hs hg hr => by obtain ⟨Bx, e1, e2, e3⟩ := hs; exact ⟨Bx, e1, blk_own Bx _ (fun (_ : Unit) => #[.string x.1.frm, .string x.1.to, .int .i64 x.1.axis, .int .i64 x.1.lo, .int .i64 x.1.hi]) () X Y row e2 hg (fun r e => (hr r e).2), e3⟩)
    ?assign ?body ?done ?stop
  case assign =>
    rintro l pre x W K ⟨⟨⟨⟨hp, q2⟩, q3⟩, qO, qS⟩, qB⟩ hK
    have hWs := qB.size
    have hlt := qS.lt
    gi_wp2
    exact hK _ _ ((KeepsOthers.alloc _ _).from _) ((Below.refl _ W).alloc hWs _) ⟨⟨⟨⟨hp, q2.alloc _⟩, q3.alloc _⟩, qO.alloc _, qS.alloc _⟩, qB.alloc hWs _⟩ ⟨W.heap.size, by omega, Blk.new W _ _, rfl⟩
  case body =>
    rintro l pre x a' W hl ⟨r, hr⟩ ⟨⟨⟨⟨hp, q2⟩, q3⟩, qO, qS⟩, qB⟩ ⟨Bx, hBx, bX, rfl⟩ hlt
    obtain ⟨⟨s, o, e⟩, hst⟩ : ∃ s, stL (vals pre) = s := ⟨_, rfl⟩
    have ho : o.fits := by have := stL_fits _ (vals_fits pre); rw [hst] at this; exact this
    have hx := x.2
    simp only [hst] at hp q2 q3 qO qS
    subst hp
    have HST := Lib.hid hst
    clear hst
    have hWs := qB.size
    have hSlt := qS.lt
    have hkb : KB w.heap.size W W := KB.refl hWs
    have h1' : 1 ≤ 3 - 1 - 1 := by decide
    obtain ⟨⟨O1, O2, O3, O4, O5⟩, O6, O7, O8, O9, O10⟩ := qO.c5
    obtain ⟨⟨X1, X2, X3, X4, X5⟩, X6, X7, X8, X9, X10⟩ := bX.c5
    obtain ⟨S1, S2⟩ := qS.c1
    cases s
    · have e1 : stL (vals (pre ++ [x])) = (true, x.1, 0) := by rw [vals_snoc, stL_first (by rw [HST.out]) (by rw [HST.out])]
      gi_wp2
      refine ⟨KB.keeps (B := w.heap.size) (by (repeat (first | (with_reducible assumption) | ((with_reducible apply KB.refl); (first | assumption | omega)) | with_reducible apply KB.alloc | with_reducible apply KB.drew | ((with_reducible apply KB.set); case hp => (first | (simp; done) | (dsimp only; omega) | omega)) | ((with_reducible apply KB.ext); case he => with_reducible assumption)))) (by omega), KB.below (by (repeat (first | (with_reducible assumption) | ((with_reducible apply KB.refl); (first | assumption | omega)) | with_reducible apply KB.alloc | with_reducible apply KB.drew | ((with_reducible apply KB.set); case hp => (first | (simp; done) | (dsimp only; omega) | omega)) | ((with_reducible apply KB.ext); case he => with_reducible assumption)))), ?_⟩
      simp only [e1]
      exact ⟨⟨⟨⟨trivial, by (repeat (first | (with_reducible assumption) | ((with_reducible apply Blk.new_at); focus (first | (simp; done) | (simp; omega))) | with_reducible apply Blk.alloc | with_reducible apply Blk.drew | with_reducible apply Blk.drewN | with_reducible apply Blk.set | ((with_reducible apply Blk.far); case hp => (first | (simp; done) | (dsimp only; omega))) | ((with_reducible apply Blk.ext); case he => with_reducible assumption)))⟩, by (repeat (first | (with_reducible assumption) | ((with_reducible apply Blk.new_at); focus (first | (simp; done) | (simp; omega))) | with_reducible apply Blk.alloc | with_reducible apply Blk.drew | with_reducible apply Blk.drewN | with_reducible apply Blk.set | ((with_reducible apply Blk.far); case hp => (first | (simp; done) | (dsimp only; omega))) | ((with_reducible apply Blk.ext); case he => with_reducible assumption)))⟩, by (apply Blk.is; (case h => (repeat (first | (with_reducible assumption) | ((with_reducible apply Blk.new_at); focus (first | (simp; done) | (simp; omega))) | with_reducible apply Blk.alloc | with_reducible apply Blk.drew | with_reducible apply Blk.drewN | with_reducible apply Blk.set | ((with_reducible apply Blk.far); case hp => (first | (simp; done) | (dsimp only; omega))) | ((with_reducible apply Blk.ext); case he => with_reducible assumption)))); all_goals rfl), by (apply Blk.is; (case h => (repeat (first | (with_reducible assumption) | ((with_reducible apply Blk.new_at); focus (first | (simp; done) | (simp; omega))) | with_reducible apply Blk.alloc | with_reducible apply Blk.drew | with_reducible apply Blk.drewN | with_reducible apply Blk.set | ((with_reducible apply Blk.far); case hp => (first | (simp; done) | (dsimp only; omega))) | ((with_reducible apply Blk.ext); case he => with_reducible assumption)))); all_goals rfl)⟩, by (repeat (first | (with_reducible assumption) | with_reducible apply Below.drew | ((with_reducible apply Below.alloc); case hB => omega) | ((with_reducible apply Below.setCell); case hp => (first | (simp; done) | (dsimp only; omega) | omega))))⟩
    · have e1 : stL (vals (pre ++ [x])) = (true, joinD o x.1, joinE o x.1) := by rw [vals_snoc, stL_next (by rw [HST.out]) (by rw [HST.out]), HST.out]
      cases hj : joinE o x.1 != 0
      · gi_wp2_with (refine ⟨trivial, ?_⟩; gi_at_call 29; refine (CallsIn.inRound l (callsIn_wide.2 (join_any o x.1 _ ho hx))).mono ?_; rintro e w2 ⟨rfl, h2⟩; have zO := qO.ext h2; have zS := qS.ext h2; have hs2 := h2.size; obtain ⟨⟨P1, P2, P3, P4, P5⟩, P6, P7, P8, P9, P10⟩ := zO.c5; have P11 := zO.lt)
        refine ⟨KB.keeps (B := w.heap.size) (by (repeat (first | (with_reducible assumption) | ((with_reducible apply KB.refl); (first | assumption | omega)) | with_reducible apply KB.alloc | with_reducible apply KB.drew | ((with_reducible apply KB.set); case hp => (first | (simp; done) | (dsimp only; omega) | omega)) | ((with_reducible apply KB.ext); case he => with_reducible assumption)))) (by omega), KB.below (by (repeat (first | (with_reducible assumption) | ((with_reducible apply KB.refl); (first | assumption | omega)) | with_reducible apply KB.alloc | with_reducible apply KB.drew | ((with_reducible apply KB.set); case hp => (first | (simp; done) | (dsimp only; omega) | omega)) | ((with_reducible apply KB.ext); case he => with_reducible assumption)))), ?_⟩
        simp only [e1]
        refine ⟨⟨⟨⟨by simpa using hj, by (repeat (first | (with_reducible assumption) | ((with_reducible apply Blk.new_at); focus (first | (simp; done) | (simp; omega))) | with_reducible apply Blk.alloc | with_reducible apply Blk.drew | with_reducible apply Blk.drewN | with_reducible apply Blk.set | ((with_reducible apply Blk.far); case hp => (first | (simp; done) | (dsimp only; omega))) | ((with_reducible apply Blk.ext); case he => with_reducible assumption)))⟩, by (repeat (first | (with_reducible assumption) | ((with_reducible apply Blk.new_at); focus (first | (simp; done) | (simp; omega))) | with_reducible apply Blk.alloc | with_reducible apply Blk.drew | with_reducible apply Blk.drewN | with_reducible apply Blk.set | ((with_reducible apply Blk.far); case hp => (first | (simp; done) | (dsimp only; omega))) | ((with_reducible apply Blk.ext); case he => with_reducible assumption)))⟩, by (apply Blk.is; (case h => (repeat (first | (with_reducible assumption) | ((with_reducible apply Blk.new_at); focus (first | (simp; done) | (simp; omega))) | with_reducible apply Blk.alloc | with_reducible apply Blk.drew | with_reducible apply Blk.drewN | with_reducible apply Blk.set | ((with_reducible apply Blk.far); case hp => (first | (simp; done) | (dsimp only; omega))) | ((with_reducible apply Blk.ext); case he => with_reducible assumption)))); all_goals rfl), by (repeat (first | (with_reducible assumption) | ((with_reducible apply Blk.new_at); focus (first | (simp; done) | (simp; omega))) | with_reducible apply Blk.alloc | with_reducible apply Blk.drew | with_reducible apply Blk.drewN | with_reducible apply Blk.set | ((with_reducible apply Blk.far); case hp => (first | (simp; done) | (dsimp only; omega))) | ((with_reducible apply Blk.ext); case he => with_reducible assumption)))⟩, ?_⟩
        exact qB.trans (KB.below (by (repeat (first | (with_reducible assumption) | ((with_reducible apply KB.refl); (first | assumption | omega)) | with_reducible apply KB.alloc | with_reducible apply KB.drew | ((with_reducible apply KB.set); case hp => (first | (simp; done) | (dsimp only; omega) | omega)) | ((with_reducible apply KB.ext); case he => with_reducible assumption)))))
      · gi_wp2_with (refine ⟨trivial, ?_⟩; gi_at_call 29; refine (CallsIn.inRound l (callsIn_wide.2 (join_any o x.1 _ ho hx))).mono ?_; rintro e w2 ⟨rfl, h2⟩; have zR := q2.ext h2; have zE := q3.ext h2; have hs2 := h2.size; obtain ⟨⟨P1, P2, P3, P4, P5⟩, P6, P7, P8, P9, P10⟩ := zR.c5; obtain ⟨E1, E2⟩ := zE.c1; have P11 := zR.lt; have P12 := zE.lt)
        refine ⟨KB.keeps (B := w.heap.size) (by (repeat (first | (with_reducible assumption) | ((with_reducible apply KB.refl); (first | assumption | omega)) | with_reducible apply KB.alloc | with_reducible apply KB.drew | ((with_reducible apply KB.set); case hp => (first | (simp; done) | (dsimp only; omega) | omega)) | ((with_reducible apply KB.ext); case he => with_reducible assumption)))) (by omega), ?_⟩
        simp only [e1]
        refine ⟨⟨⟨⟨trivial, by simpa using hj⟩, by (apply Blk.is; (case h => (repeat (first | (with_reducible assumption) | ((with_reducible apply Blk.new_at); focus (first | (simp; done) | (simp; omega))) | with_reducible apply Blk.alloc | with_reducible apply Blk.drew | with_reducible apply Blk.drewN | with_reducible apply Blk.set | ((with_reducible apply Blk.far); case hp => (first | (simp; done) | (dsimp only; omega))) | ((with_reducible apply Blk.ext); case he => with_reducible assumption)))); all_goals rfl)⟩, by (apply Blk.is; (case h => (repeat (first | (with_reducible assumption) | ((with_reducible apply Blk.new_at); focus (first | (simp; done) | (simp; omega))) | with_reducible apply Blk.alloc | with_reducible apply Blk.drew | with_reducible apply Blk.drewN | with_reducible apply Blk.set | ((with_reducible apply Blk.far); case hp => (first | (simp; done) | (dsimp only; omega))) | ((with_reducible apply Blk.ext); case he => with_reducible assumption)))); all_goals rfl)⟩, ?_⟩
        exact qB.trans (KB.below (by (repeat (first | (with_reducible assumption) | ((with_reducible apply KB.refl); (first | assumption | omega)) | with_reducible apply KB.alloc | with_reducible apply KB.drew | ((with_reducible apply KB.set); case hp => (first | (simp; done) | (dsimp only; omega) | omega)) | ((with_reducible apply KB.ext); case he => with_reducible assumption)))))
  case done =>
    rintro D ys W hD rfl ⟨⟨⟨⟨hp, q2⟩, q3⟩, qO, qS⟩, qB⟩ hK
    have hv : vals (upto (nth xs) m) = xs := by
      rw [vals, upto_val hx.len (fun k hk => hx.fit k hk) m (Nat.le_refl _), ← hx.len, List.take_length]
    rw [hv] at hp qO qS
    have hWs := qB.size
    have hSlt := qS.lt
    obtain ⟨⟨O1, O2, O3, O4, O5⟩, O6, O7, O8, O9, O10⟩ := qO.c5
    obtain ⟨⟨P1, P2, P3, P4, P5⟩, P6, P7, P8, P9, P10⟩ := q2.c5
    obtain ⟨E1, E2⟩ := q3.c1
    gi_wp2
    have hkb : KB w.heap.size W W := KB.refl hWs
    obtain ⟨W2, hW2⟩ : ∃ W2, ((((((W.setCell { block := w.heap.size, off := 0 } (Value.string (stL xs).snd.fst.frm)).setCell { block := w.heap.size, off := 1 } (Value.string (stL xs).snd.fst.to)).setCell { block := w.heap.size, off := 2 } (Value.int IntKind.i64 (stL xs).snd.fst.axis)).setCell { block := w.heap.size, off := 3 } (Value.int IntKind.i64 (stL xs).snd.fst.lo)).setCell { block := w.heap.size, off := 4 } (Value.int IntKind.i64 (stL xs).snd.fst.hi)).setCell { block := w.heap.size + 1, off := 0 } (Value.int IntKind.i64 0)) = W2 := ⟨_, rfl⟩
    have k2 : Blk W2 w.heap.size #[.string (stL xs).2.1.frm, .string (stL xs).2.1.to, .int .i64 (stL xs).2.1.axis, .int .i64 (stL xs).2.1.lo, .int .i64 (stL xs).2.1.hi] 40 := by rw [← hW2]; (apply Blk.is; (case h => (repeat (first | (with_reducible assumption) | ((with_reducible apply Blk.new_at); focus (first | (simp; done) | (simp; omega))) | with_reducible apply Blk.alloc | with_reducible apply Blk.drew | with_reducible apply Blk.drewN | with_reducible apply Blk.set | ((with_reducible apply Blk.far); case hp => (first | (simp; done) | (dsimp only; omega))) | ((with_reducible apply Blk.ext); case he => with_reducible assumption)))); all_goals rfl)
    have k3 : Blk W2 (w.heap.size + 1) #[.int .i64 0] 26 := by rw [← hW2]; (apply Blk.is; (case h => (repeat (first | (with_reducible assumption) | ((with_reducible apply Blk.new_at); focus (first | (simp; done) | (simp; omega))) | with_reducible apply Blk.alloc | with_reducible apply Blk.drew | with_reducible apply Blk.drewN | with_reducible apply Blk.set | ((with_reducible apply Blk.far); case hp => (first | (simp; done) | (dsimp only; omega))) | ((with_reducible apply Blk.ext); case he => with_reducible assumption)))); all_goals rfl)
    have hkb2 : KB w.heap.size W W2 := by rw [← hW2]; (repeat (first | (with_reducible assumption) | ((with_reducible apply KB.refl); (first | assumption | omega)) | with_reducible apply KB.alloc | with_reducible apply KB.drew | ((with_reducible apply KB.set); case hp => (first | (simp; done) | (dsimp only; omega) | omega)) | ((with_reducible apply KB.ext); case he => with_reducible assumption)))
    rw [hW2]
    have hK' := (hkb2.keeps (B' := W0.heap.size) (by omega)).same D _ hD hK rfl
    refine endM_cc rfl rfl hK' rfl rfl k2 k3 Try.underlying40 rfl (by exact szD) Try.underlying26 ?_
    exact ⟨by rw [hp], (qB.trans hkb2.below).trans (belowK_b (w := w) (Nat.le_refl _) W2 D _ _ (by omega) hK' rfl rfl)⟩
  case stop =>
    rintro D c pre W hD ⟨k, hk, rfl⟩ ⟨⟨⟨⟨rfl, hp⟩, q2⟩, q3⟩, qB⟩ hK
    have hv : vals (upto (nth xs) k) = xs.take k := upto_val hx.len (fun k hk => hx.fit k hk) k hk
    rw [hv] at hp q3
    have hst : stL (xs.take k) = stL xs := by
      have := stL_app (xs.take k) (xs.drop k) hp
      rw [List.take_append_drop] at this
      exact this.symm
    rw [hst] at hp q3
    have hz : (stL xs).2.1 = zeroD := stL_zero xs hp
    gi_wp2
    refine endM_cc rfl rfl hK rfl rfl q2 q3 Try.underlying40 rfl (by exact szD) Try.underlying26 ?_
    exact ⟨by rw [hz], qB.trans (belowK_b (w := w) (Nat.le_refl _) W D _ _ (by omega) hK rfl rfl)⟩
end Go.Proofs.Ytdcedfciaaooiaa
