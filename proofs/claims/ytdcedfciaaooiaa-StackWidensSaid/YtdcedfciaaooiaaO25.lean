/- A task as one of the reference: the walk. -/
import Derived.Test.YtdcedfciaaooiaaQ25
import Derived.OwnWalk
import Derived.RangeFuncBox
import Derived.Test.YtdcedfciaaooiaaA25
set_option linter.unusedVariables false
namespace Go.Proofs.Ytdcedfciaaooiaa
open Go.RowKit

def cellsL (x : Lk) : List Value := [.int .i64 x.dim, .bool x.back]
def flatL (ys : List Lk) : List Value := ys.flatMap cellsL
theorem flatL_snoc (ys : List Lk) (d : Lk) : flatL (ys ++ [d]) = flatL ys ++ cellsL d := by simp [flatL]
theorem flatL_at : ∀ (ys : List Lk) (k i : Nat), k < ys.length → i < 2 → (flatL ys)[k * 2 + i]? = (cellsL (ys.getD k zeroK))[i]?
  | [], k, i, hk, _ => by simp at hk
  | y :: ys, 0, i, _, hi => by
    have : (cellsL y).length = 2 := rfl
    rw [flatL, List.flatMap_cons, Nat.zero_mul, Nat.zero_add, List.getElem?_append_left (by rw [this]; exact hi)]
    rfl
  | y :: ys, k + 1, i, hk, hi => by
    have : (cellsL y).length = 2 := rfl
    have e : (k + 1) * 2 + i = 2 + (k * 2 + i) := by omega
    rw [flatL, List.flatMap_cons, e, List.getElem?_append_right (by rw [this]; omega), this, Nat.add_sub_cancel_left]
    have := flatL_at ys k i (by simpa using hk) hi
    rw [flatL] at this
    rw [this]
    rfl
theorem ownsL {w : World} {base : Nat} {e : TypeId} {v : Value} {k : Nat} {ys : List Lk} (h : w.ownsRow base e 2 v k (flatL ys)) (hl : ys.length = k) (hk : k ≤ 35184372088832) : ∃ A c, v = .slice A k c ∧ Lnks w A k ys ∧ k ≤ c := by
  rcases h.2 with ⟨rfl, rfl⟩ | ⟨g, cap, cur, rfl, hb, hg, h1, h2, h3, h4⟩
  · exact ⟨none, 0, rfl, ⟨hl, hk, .inl rfl⟩, Nat.le_refl _⟩
  · refine ⟨_, _, rfl, ⟨hl, hk, ?_⟩, h1⟩
    right
    refine ⟨g, 0, rfl, fun j hj => ?_⟩
    have hc : ∀ i, i < 2 → w.cell? ⟨g, 0 + j * 2 + i, none⟩ = (cellsL (ys.getD j zeroK))[i]? := fun i hi => by
      have e := flatL_at ys j i (by omega) hi
      have hlen : i < (cellsL (ys.getD j zeroK)).length := hi
      have := h.cells (g := g) rfl (j * 2 + i) _ (by rw [e, List.getElem?_eq_getElem hlen])
      rw [List.getElem?_eq_getElem hlen, ← this]
      unfold Addr.add
      split <;> simp_all
    exact ⟨hc 0 (by omega), hc 1 (by omega)⟩
theorem infoLk : (Try.prog.info? 145).map (fun i => (i.zero, i.size, i.bytes)) = some (some (.agg #[.int .i64 0, .bool false]), 2, 16) := by kernel_rfl
theorem cells_two (w : World) (a b : Value) (t : TypeId) : ∀ j u, [a, b][j]? = some u → (w.alloc (.cells #[a, b] t)).cell? ((⟨w.heap.size, 0, none⟩ : Addr).add j) = some u := by
  intro j u hj
  have hB := Blk.new w #[a, b] t
  have e1 : (⟨w.heap.size, 0, none⟩ : Addr).add j = ⟨w.heap.size, j, none⟩ := by unfold Addr.add; split <;> simp_all
  rw [e1, hB.cell j, ← hj]
  simp
theorem szRT : (Try.prog.info? 89).map (·.size) = some 4 := by kernel_rfl
theorem ownsRow_set {W : World} {base : Nat} {e : TypeId} {size : Nat} {v : Value} {k : Nat} {xs : List Value} (h : W.ownsRow base e size v k xs) {p : Addr} (hp : p.block < base) (u : Value) : (W.setCell p u).ownsRow base e size v k xs := by
  refine ⟨h.1, ?_⟩
  rcases h.2 with h0 | ⟨g, cap, cur, e1, hb, hg, rest⟩
  · exact .inl h0
  · exact .inr ⟨g, cap, cur, e1, hb, (Below.heap_setCell W p u g (by omega)).trans hg, rest⟩
theorem ownBlock_ge' {W : World} {base : Nat} {e : TypeId} {size : Nat} {v : Value} {k g : Nat} {xs : List Value} (h : W.ownsRow base e size v k xs) (hg : v.ownBlock = some g) : base ≤ g := by
  rcases h.2 with ⟨rfl, _⟩ | ⟨g', cap, cur, rfl, hb, _⟩
  · simp [Value.ownBlock] at hg
  · obtain rfl : g' = g := by simpa [Value.ownBlock] using hg
    exact hb
set_option maxRecDepth 100000 in
set_option maxHeartbeats 4000000 in
theorem own25_any (A B : Option Addr) (n m c c2 : Nat) (cs : List Lk) (lo hi : Int) (w : World) (hk : Lnks w B m cs) (hm : m < 8796093022208) :
    Calls Try.prog 50 #[.agg #[.slice A n c, .slice B m c2, .int .i64 lo, .int .i64 hi]] w
      (fun e w' => ∃ B' c', e = .returned (.agg #[.slice A n c, .slice B' m c', .int .i64 lo, .int .i64 hi]) ∧ Lnks w' B' m cs ∧ m ≤ c' ∧ Ext w w') := by
  have HK := Lib.hid hk
  have hcl := hk.len
  obtain ⟨i0, hi0, hz0, hz1, hz2⟩ := info_parts infoLk
  have hi' := Lib.hid hi0
  have hz0' := Lib.hid hz0
  have hz1' := Lib.hid hz1
  have hz2' := Lib.hid hz2
  clear hk hi0 hz0 hz1 hz2
  go_enter Try.func50, Try.ntmps50
  go_wp2_with fail
  go_loopw [14] (fun i wr => ∃ j : Nat, j ≤ m ∧ i = .int .i64 j ∧ Ext w wr ∧ Blk wr w.heap.size #[.slice A n c, .slice B m c2, .int .i64 lo, .int .i64 hi] 85 ∧ Blk wr (w.heap.size + 1) #[.slice none 0 0, .slice none 0 0, .int .i64 0, .int .i64 0] 89 ∧
      ∃ v, Blk wr (w.heap.size + 1 + 1) #[.slice A n c, v, .int .i64 lo, .int .i64 hi] 89 ∧ wr.ownsRow (w.heap.size + 1 + 1 + 1) 145 2 v j (flatL (cs.take j))) (fun i _ => m - (intOf i).toNat)
  case atStart => exact ⟨0, Nat.zero_le _, rfl, by (repeat (first | (with_reducible assumption) | with_reducible exact Ext.refl _ | with_reducible apply Ext.alloc | with_reducible apply Ext.drew | with_reducible apply Ext.drewN | ((with_reducible apply Ext.set); case hp => (first | (simp; done) | (dsimp only; omega) | omega)) | ((with_reducible apply Ext.trans); case k => with_reducible assumption))), by (repeat (first | (with_reducible assumption) | ((with_reducible apply Blk.new_at); focus (first | (simp; done) | (simp; omega))) | with_reducible apply Blk.alloc | with_reducible apply Blk.drew | with_reducible apply Blk.drewN | with_reducible apply Blk.set | ((with_reducible apply Blk.far); case hp => (first | (simp; done) | (dsimp only; omega))) | ((with_reducible apply Blk.ext); case he => with_reducible assumption))), by (repeat (first | (with_reducible assumption) | ((with_reducible apply Blk.new_at); focus (first | (simp; done) | (simp; omega))) | with_reducible apply Blk.alloc | with_reducible apply Blk.drew | with_reducible apply Blk.drewN | with_reducible apply Blk.set | ((with_reducible apply Blk.far); case hp => (first | (simp; done) | (dsimp only; omega))) | ((with_reducible apply Blk.ext); case he => with_reducible assumption))), .slice none 0 0, by (apply Blk.is; (case h => (repeat (first | (with_reducible assumption) | ((with_reducible apply Blk.new_at); focus (first | (simp; done) | (simp; omega))) | with_reducible apply Blk.alloc | with_reducible apply Blk.drew | with_reducible apply Blk.drewN | with_reducible apply Blk.set | ((with_reducible apply Blk.far); case hp => (first | (simp; done) | (dsimp only; omega))) | ((with_reducible apply Blk.ext); case he => with_reducible assumption)))); all_goals rfl), World.ownsRow_nil _ _ _ _⟩
  case round =>
    obtain ⟨j, hj, rfl, hE, hT, hR, v, hO, hrow⟩ := hrel
    have hTl := hT.lt
    have hOl := hO.lt
    have hRl := hR.lt
    have O0 := hO.cell 0
    have O1 := hO.cell 1
    have O2 := hO.cell 2
    have O3 := hO.cell 3
    have P1 := hO.frozen 1
    simp at O0 O1 O2 O3
    by_cases hlt : j < m
    · obtain ⟨bB, oB, rfl, hcB⟩ := HK.out.at_ (by omega)
      obtain ⟨⟨y, bk⟩, hy⟩ : ∃ y, cs.getD j zeroK = y := ⟨_, rfl⟩
      obtain ⟨l1, l2⟩ := Lnks.cells hcB hE j hlt _ hy
      dsimp only at l1 l2
      have hbl : bB < wr.heap.size := World.block_lt_of_cell? wr _ l1
      have hck : cs.take (j + 1) = cs.take j ++ [⟨y, bk⟩] := by rw [take_succK (by omega), hy]
      have HCK := Lib.hid hck
      clear hck hcB hy
      have hrow6 := hrow.alloc (.cells #[.int .i64 y, .bool bk] 144)
      go_wp2_with (at_builtin; refine wpList_append_own _ rfl _ _ 87 rfl (w.heap.size + 1 + 1 + 1) 145 i0 _ 2 16 Try.underlying87 hi'.out hz0'.out hz1'.out hz2'.out rfl (by decide) _ _ _ rfl (hrow6.alloc _) ⟨wr.heap.size + 1, 0, none⟩ 1 1 [.int .i64 y, .bool bk] rfl rfl (by have := cells_two (wr.alloc (.cells #[.int .i64 y, .bool bk] 144)) (.int .i64 y) (.bool bk) 145; rw [World.size_alloc] at this; exact this) (by simp [Value.oneCell']) (by have : maxLen = 9223372036854775807 := rfl; omega) (by omega) (by simp; omega) ?_; intro v' w6 hown' hgrow _; have hg2 : ((wr.alloc (.cells #[.int .i64 y, .bool bk] 144)).alloc (.cells #[.int .i64 y, .bool bk] 145)).grownBy w6 v.ownBlock := hgrow; have hT6 := Blk.grown ((hT.alloc _).alloc _) hg2 (Blk.under_row ((hT.alloc (.cells #[.int .i64 y, .bool bk] 144)).alloc (.cells #[.int .i64 y, .bool bk] 145)) (by omega) (hrow6.alloc _)); have hR6 := Blk.grown ((hR.alloc _).alloc _) hg2 (Blk.under_row ((hR.alloc (.cells #[.int .i64 y, .bool bk] 144)).alloc (.cells #[.int .i64 y, .bool bk] 145)) (by omega) (hrow6.alloc _)); have hO6 := Blk.grown ((hO.alloc _).alloc _) hg2 (Blk.under_row ((hO.alloc (.cells #[.int .i64 y, .bool bk] 144)).alloc (.cells #[.int .i64 y, .bool bk] 145)) (by omega) (hrow6.alloc _)); have hE6 := ((hE.alloc _).alloc _).grown hg2 (fun k e => by have := ownBlock_ge' hrow6 e; omega); obtain ⟨g', cap', rfl⟩ := ownsRow_succ hown'; have z1 := hO6.cell 1; have z2 := hO6.frozen 1; simp at z1)
      go_roundw
      case rel =>
        refine ⟨j + 1, by omega, by simp, by (repeat (first | (with_reducible assumption) | with_reducible exact Ext.refl _ | with_reducible apply Ext.alloc | with_reducible apply Ext.drew | with_reducible apply Ext.drewN | ((with_reducible apply Ext.set); case hp => (first | (simp; done) | (dsimp only; omega) | omega)) | ((with_reducible apply Ext.trans); case k => with_reducible assumption))), by (repeat (first | (with_reducible assumption) | ((with_reducible apply Blk.new_at); focus (first | (simp; done) | (simp; omega))) | with_reducible apply Blk.alloc | with_reducible apply Blk.drew | with_reducible apply Blk.drewN | with_reducible apply Blk.set | ((with_reducible apply Blk.far); case hp => (first | (simp; done) | (dsimp only; omega))) | ((with_reducible apply Blk.ext); case he => with_reducible assumption))), by (repeat (first | (with_reducible assumption) | ((with_reducible apply Blk.new_at); focus (first | (simp; done) | (simp; omega))) | with_reducible apply Blk.alloc | with_reducible apply Blk.drew | with_reducible apply Blk.drewN | with_reducible apply Blk.set | ((with_reducible apply Blk.far); case hp => (first | (simp; done) | (dsimp only; omega))) | ((with_reducible apply Blk.ext); case he => with_reducible assumption))), .slice (some ⟨g', 0, none⟩) (j + 1) cap', (hO6.set 1 _).is (by simp), ownsRow_set ?_ (by simp) _⟩
        rw [HCK.out, flatL_snoc]
        exact hown'
      case measure => simp [intOf]; omega
    · obtain rfl : m = j := by omega
      rw [show cs.take m = cs from by rw [← hcl, List.take_length]] at hrow
      obtain ⟨A', c', rfl, hL, hcc⟩ := ownsL hrow hcl (by omega)
      have hR0 := hR.cell 0
      have hR1 := hR.cell 1
      have hR2 := hR.cell 2
      have hR3 := hR.cell 3
      have hF0 := hR.frozen 0
      have hF1 := hR.frozen 1
      have hF2 := hR.frozen 2
      have hF3 := hR.frozen 3
      simp at hR0 hR1 hR2 hR3
      have HROW := Lib.hid hrow
      clear hrow hL
      go_wp2_with fail
      refine end_c rfl rfl _ _ _ _ rfl (by (apply Blk.is; (case h => (repeat (first | (with_reducible assumption) | ((with_reducible apply Blk.new_at); focus (first | (simp; done) | (simp; omega))) | with_reducible apply Blk.alloc | with_reducible apply Blk.drew | with_reducible apply Blk.drewN | with_reducible apply Blk.set | ((with_reducible apply Blk.far); case hp => (first | (simp; done) | (dsimp only; omega))) | ((with_reducible apply Blk.ext); case he => with_reducible assumption)))); all_goals rfl)) Try.underlying89 rfl (by exact szRT) ?_
      have hfin := ownsL (ownsRow_set (ownsRow_set (ownsRow_set (ownsRow_set HROW.out (p := ⟨w.heap.size + 1, 0, none⟩) (by dsimp only; omega) (.slice A n c)) (p := ⟨w.heap.size + 1, 1, none⟩) (by dsimp only; omega) (.slice A' m c')) (p := ⟨w.heap.size + 1, 2, none⟩) (by dsimp only; omega) (.int .i64 lo)) (p := ⟨w.heap.size + 1, 3, none⟩) (by dsimp only; omega) (.int .i64 hi)) hcl (by omega)
      obtain ⟨A2, c3, he, hL2, -⟩ := hfin
      injection he with he1 he2 he3
      subst he1
      exact ⟨A', c', by simp, hL2, hcc, by (repeat (first | (with_reducible assumption) | with_reducible exact Ext.refl _ | with_reducible apply Ext.alloc | with_reducible apply Ext.drew | with_reducible apply Ext.drewN | ((with_reducible apply Ext.set); case hp => (first | (simp; done) | (dsimp only; omega) | omega)) | ((with_reducible apply Ext.trans); case k => with_reducible assumption)))⟩
end Go.Proofs.Ytdcedfciaaooiaa
