/- The reference's With: the walk. -/
import Derived.Test.YtdcedfciaaooiaaA6
import Derived.Test.YtdcedfciaaooiaaY25
import Derived.Test.YtdcedfciaaooiaaO25
import Derived.Deep.AppendLies
set_option linter.unusedVariables false
namespace Go.Proofs.Ytdcedfciaaooiaa
open Go.RowKit

theorem tcells {W : World} {g : Nat} {a b c d : Value} {t : TypeId} (h : Blk W g #[a, b, c, d] t) : (W.cell? ⟨g, 0, none⟩ = some a ∧ W.cell? ⟨g, 1, none⟩ = some b) ∧ (W.cell? ⟨g, 2, none⟩ = some c ∧ W.cell? ⟨g, 3, none⟩ = some d) := ⟨⟨h.cell 0, h.cell 1⟩, h.cell 2, h.cell 3⟩
theorem tcellsF {W : World} {g : Nat} {a b c d : Value} {t : TypeId} (h : Blk W g #[a, b, c, d] t) : ((W.cell? ⟨g, 0, none⟩ = some a ∧ W.cell? ⟨g, 1, none⟩ = some b) ∧ (W.cell? ⟨g, 2, none⟩ = some c ∧ W.cell? ⟨g, 3, none⟩ = some d)) ∧ W.frozen? ⟨g, 0, none⟩ = false ∧ W.frozen? ⟨g, 1, none⟩ = false ∧ W.frozen? ⟨g, 2, none⟩ = false ∧ W.frozen? ⟨g, 3, none⟩ = false := ⟨tcells h, h.frozen 0, h.frozen 1, h.frozen 2, h.frozen 3⟩
theorem keepW {W : World} {g1 g2 g3 : Nat} {ps qs : Array Value} {a b c0 c1 : Value} {t t2 : TypeId} (h1 : Blk W g1 ps t) (h2 : Blk W g2 qs t) (h3 : Blk W g3 #[c0, c1] t2) (ea : ps[1]? = some a) (eb : qs[0]? = some b) : (W.cell? ⟨g1, 1, none⟩ = some a ∧ W.cell? ⟨g2, 0, none⟩ = some b) ∧ (W.cell? ⟨g3, 0, none⟩ = some c0 ∧ W.cell? ⟨g3, 1, none⟩ = some c1) := ⟨⟨(h1.cell 1).trans ea, (h2.cell 0).trans eb⟩, h3.cell 0, h3.cell 1⟩
theorem ownsRow_none {w : World} {base g size : Nat} {e : TypeId} (h : Blk w g #[] e) (hb : base ≤ g) : w.ownsRow base e size (.slice (some ⟨g, 0, none⟩) 0 0) 0 [] :=
  ⟨by simp, .inr ⟨g, 0, #[], rfl, hb, h, Nat.le_refl _, Nat.zero_le _, by simp, by simp⟩⟩
theorem ownsDR' {w : World} {base g k cap : Nat} {ys : List Dim} (h : w.ownsRow base 40 5 (.slice (some ⟨g, 0, none⟩) k cap) k (flatD ys)) (hk : 0 < k) : ∃ cur, DRow w base g k cur ys := by
  obtain ⟨g', cap', cur, e, hD⟩ := ownsDR h hk
  cases e
  exact ⟨cur, hD⟩
set_option maxRecDepth 20000 in
set_option maxHeartbeats 4000000 in
theorem rwith_any (A B : Option Addr) (n m c c2 : Nat) (xs : List Dim) (cs : List Lk) (lo hi : Int) (l : Lim) (k : Nat) (w : World) (hx : Dims w A n xs) (hk : Lnks w B m cs) (hkm : k < m) (hmax : n ≤ 256) (hm256 : m ≤ 256) (hmem : 0 ≤ (cs.getD k zeroK).dim ∧ (cs.getD k zeroK).dim < (n : Int)) :
    Calls Try.prog 98 #[.agg #[.slice A n c, .slice B m c2, .int .i64 lo, .int .i64 hi], .int .i64 (k : Int), .agg #[.int .i64 l.lo, .int .i64 l.hi]] w
      (fun e w' => ∃ g cap cur, e = .returned (.agg #[.slice (some ⟨g, 0, none⟩) n cap, .slice B m c2, .int .i64 lo, .int .i64 hi]) ∧ DRow w' w.heap.size g n cur (withL xs (cs.getD k zeroK).dim.toNat l) ∧ Ext w w') := by
  have hn : 0 < n := by omega
  have hl := hx.len
  obtain ⟨bA, oA, rfl, hcA⟩ := hx.at_ hn
  obtain ⟨bB, oB, rfl, hcB⟩ := hk.at_ (by omega)
  have HCA := Lib.hid hcA
  have HCB := Lib.hid hcB
  obtain ⟨p, hpd⟩ := Int.eq_ofNat_of_zero_le hmem.1
  have hp : p < n := by omega
  obtain ⟨y, hy⟩ : ∃ y, cs.getD k zeroK = y := ⟨_, rfl⟩
  rw [hy] at hpd
  rw [hy, hpd, Int.toNat_natCast]
  have HY := Lib.hid hy
  have HPD := Lib.hid hpd
  obtain ⟨i0, hi0, hz0, hz1, hz2⟩ := info_parts infoDim
  have hi' := Lib.hid hi0
  have hz0' := Lib.hid hz0
  have hz1' := Lib.hid hz1
  have hz2' := Lib.hid hz2
  clear hi0 hz0 hz1 hz2 hcA hcB hx hk hmem hy hpd
  go_enter Try.func98, Try.ntmps98
  have hT : Blk ((((w.alloc (.cells #[.slice (some ⟨bA, oA, none⟩) n c, .slice (some ⟨bB, oB, none⟩) m c2, .int .i64 lo, .int .i64 hi] 89)).alloc (.cells #[.int .i64 l.lo, .int .i64 l.hi] 23)).alloc (.cells #[.slice none 0 0, .slice none 0 0, .int .i64 0, .int .i64 0] 89))) w.heap.size #[.slice (some ⟨bA, oA, none⟩) n c, .slice (some ⟨bB, oB, none⟩) m c2, .int .i64 lo, .int .i64 hi] 89 := by (repeat (first | (with_reducible assumption) | ((with_reducible apply Blk.new_at); focus (first | (simp; done) | (simp; omega))) | with_reducible apply Blk.alloc | with_reducible apply Blk.drew | with_reducible apply Blk.drewN | with_reducible apply Blk.set | ((with_reducible apply Blk.far); case hp => (first | (simp; done) | (dsimp only; omega))) | ((with_reducible apply Blk.ext); case he => with_reducible assumption)))
  go_upto_region 1 with fail
  go_cut [7] (fun s7 wc => ∃ ga gg cap cur, s7 = .pointer (some ⟨ga, 0, none⟩) ∧ w.heap.size + 2 < ga ∧ Blk wc ga #[.slice (some ⟨gg, 0, none⟩) n cap, .slice (some ⟨bB, oB, none⟩) m c2, .int .i64 lo, .int .i64 hi] 89 ∧ DRow wc w.heap.size gg n cur xs ∧ Blk wc w.heap.size #[.slice (some ⟨bA, oA, none⟩) n c, .slice (some ⟨bB, oB, none⟩) m c2, .int .i64 lo, .int .i64 hi] 89 ∧ Blk wc (w.heap.size + 1) #[.int .i64 l.lo, .int .i64 l.hi] 23 ∧ Blk wc (w.heap.size + 2) #[.slice none 0 0, .slice none 0 0, .int .i64 0, .int .i64 0] 89 ∧ Ext w wc)
  case first =>
    go_region_held3 (fun W => (W.cell? ⟨w.heap.size, 0, none⟩ = some (.slice (some ⟨bA, oA, none⟩) n c) ∧ W.cell? ⟨w.heap.size, 1, none⟩ = some (.slice (some ⟨bB, oB, none⟩) m c2)) ∧ (W.cell? ⟨w.heap.size, 2, none⟩ = some (.int .i64 lo) ∧ W.cell? ⟨w.heap.size, 3, none⟩ = some (.int .i64 hi)))
      (first | (refine tcells (t := 89) ?_; (focus ((repeat (first | (with_reducible assumption) | ((with_reducible apply Blk.new_at); focus (first | (simp; done) | (simp; omega))) | with_reducible apply Blk.alloc | with_reducible apply Blk.drew | with_reducible apply Blk.drewN | with_reducible apply Blk.set | ((with_reducible apply Blk.far); case hp => (first | (simp; done) | (dsimp only; omega))) | ((with_reducible apply Blk.ext); case he => with_reducible assumption))); done))))
      (first | (refine step_append_lies _ (by rfl) _ _ 42 (by rfl) w.heap.size 40 i0 _ 5 56 Try.underlying42 hi'.out hz0'.out hz1'.out hz2'.out rfl (by omega) _ 0 [] (by rfl) (ownsRow_none (g := _) (by (repeat (first | (with_reducible assumption) | ((with_reducible apply Blk.new_at); focus (first | (simp; done) | (simp; omega))) | with_reducible apply Blk.alloc | with_reducible apply Blk.drew | with_reducible apply Blk.drewN | with_reducible apply Blk.set | ((with_reducible apply Blk.far); case hp => (first | (simp; done) | (dsimp only; omega))) | ((with_reducible apply Blk.ext); case he => with_reducible assumption)))) (by omega)) ⟨bA, oA, none⟩ n c (flatD xs) (by rfl) (by rw [flatD_len, hl]) (Dims.news hl HCA.out (by (repeat (first | (with_reducible assumption) | with_reducible exact Ext.refl _ | with_reducible apply Ext.alloc | with_reducible apply Ext.drew | with_reducible apply Ext.drewN | ((with_reducible apply Ext.set); case hp => (first | (simp; done) | (dsimp only; omega) | omega)) | ((with_reducible apply Ext.trans); case k => with_reducible assumption))))) (flatD_one xs) hn (by have : maxLen = 9223372036854775807 := rfl; omega) (by omega) (by first | (simp; done) | (simp; omega) | omega) _ rfl ?_; intro gg cap w12 hown12 hgrow hat hlt12; (try (refine (have hN0 : Blk w12 (w.heap.size + 1 + 1 + 1) #[.slice none 0 0, .slice none 0 0, .int .i64 0, .int .i64 0] 89 := Blk.grown ?_ hgrow ?_; ?_); (focus ((repeat (first | (with_reducible assumption) | ((with_reducible apply Blk.new_at); focus (first | (simp; done) | (simp; omega))) | with_reducible apply Blk.alloc | with_reducible apply Blk.drew | with_reducible apply Blk.drewN | with_reducible apply Blk.set | ((with_reducible apply Blk.far); case hp => (first | (simp; done) | (dsimp only; omega))) | ((with_reducible apply Blk.ext); case he => with_reducible assumption))); done)); (focus (first | (simp [Value.ownBlock]; done) | (simp [Value.ownBlock]; omega))); obtain ⟨⟨⟨n01, n02⟩, n03, n04⟩, n05, n06, n07, n08⟩ := tcellsF hN0)); (try (refine (have hN1 : Blk w12 (w.heap.size + 1 + 1 + 1 + 1) #[.slice none 0 0, .slice none 0 0, .int .i64 0, .int .i64 0] 89 := Blk.grown ?_ hgrow ?_; ?_); (focus ((repeat (first | (with_reducible assumption) | ((with_reducible apply Blk.new_at); focus (first | (simp; done) | (simp; omega))) | with_reducible apply Blk.alloc | with_reducible apply Blk.drew | with_reducible apply Blk.drewN | with_reducible apply Blk.set | ((with_reducible apply Blk.far); case hp => (first | (simp; done) | (dsimp only; omega))) | ((with_reducible apply Blk.ext); case he => with_reducible assumption))); done)); (focus (first | (simp [Value.ownBlock]; done) | (simp [Value.ownBlock]; omega))); obtain ⟨⟨⟨n11, n12⟩, n13, n14⟩, n15, n16, n17, n18⟩ := tcellsF hN1)); (refine (have hD0 : w12.ownsRow w.heap.size 40 5 (.slice (some ⟨gg, 0, none⟩) n cap) n (flatD xs) := ?_; ?_); (focus (simpa using hown12)); obtain ⟨cur, hDR0⟩ := ownsDR' hD0 hn; have hDR := Lib.hid hDR0; refine (have hT12 : Blk w12 w.heap.size #[.slice (some ⟨bA, oA, none⟩) n c, .slice (some ⟨bB, oB, none⟩) m c2, .int .i64 lo, .int .i64 hi] 89 := Blk.grown ?_ hgrow ?_; ?_); (focus ((repeat (first | (with_reducible assumption) | ((with_reducible apply Blk.new_at); focus (first | (simp; done) | (simp; omega))) | with_reducible apply Blk.alloc | with_reducible apply Blk.drew | with_reducible apply Blk.drewN | with_reducible apply Blk.set | ((with_reducible apply Blk.far); case hp => (first | (simp; done) | (dsimp only; omega))) | ((with_reducible apply Blk.ext); case he => with_reducible assumption))); done)); (focus (first | (simp [Value.ownBlock]; done) | (simp [Value.ownBlock]; omega))); refine (have hL12 : Blk w12 (w.heap.size + 1) #[.int .i64 l.lo, .int .i64 l.hi] 23 := Blk.grown ?_ hgrow ?_; ?_); (focus ((repeat (first | (with_reducible assumption) | ((with_reducible apply Blk.new_at); focus (first | (simp; done) | (simp; omega))) | with_reducible apply Blk.alloc | with_reducible apply Blk.drew | with_reducible apply Blk.drewN | with_reducible apply Blk.set | ((with_reducible apply Blk.far); case hp => (first | (simp; done) | (dsimp only; omega))) | ((with_reducible apply Blk.ext); case he => with_reducible assumption))); done)); (focus (first | (simp [Value.ownBlock]; done) | (simp [Value.ownBlock]; omega))); refine (have hR12 : Blk w12 (w.heap.size + 1 + 1) #[.slice none 0 0, .slice none 0 0, .int .i64 0, .int .i64 0] 89 := Blk.grown ?_ hgrow ?_; ?_); (focus ((repeat (first | (with_reducible assumption) | ((with_reducible apply Blk.new_at); focus (first | (simp; done) | (simp; omega))) | with_reducible apply Blk.alloc | with_reducible apply Blk.drew | with_reducible apply Blk.drewN | with_reducible apply Blk.set | ((with_reducible apply Blk.far); case hp => (first | (simp; done) | (dsimp only; omega))) | ((with_reducible apply Blk.ext); case he => with_reducible assumption))); done)); (focus (first | (simp [Value.ownBlock]; done) | (simp [Value.ownBlock]; omega))); refine (have hE12 : Ext w w12 := Ext.grown ?_ hgrow ?_; ?_); (focus ((repeat (first | (with_reducible assumption) | with_reducible exact Ext.refl _ | with_reducible apply Ext.alloc | with_reducible apply Ext.drew | with_reducible apply Ext.drewN | ((with_reducible apply Ext.set); case hp => (first | (simp; done) | (dsimp only; omega) | omega)) | ((with_reducible apply Ext.trans); case k => with_reducible assumption))); done)); (focus (intro r hr; simp [Value.ownBlock] at hr; omega)); have hs12 := hgrow.size; simp only [World.size_alloc, World.drew] at hs12; clear hat hown12 hgrow hD0 hDR0)))
    all_goals
      have hgl := hDR.out.lt
      have hA0 : ∀ {ga : Nat} {cs : Array Value}, Blk w12 ga cs 89 → gg ≠ ga := fun h => Blk.ne hDR.out.2.1 h (by decide)
      have hA1 := hA0 hT12
      have hA2 := hA0 hR12
      go_wp2_with fail
      go_meet
      refine ⟨_, gg, cap, cur, rfl, ?_, ?_, ?_, ?_, ?_, ?_, ?_⟩
      · first | (simp; done) | omega | (simp; omega)
      · (apply Blk.is; (case h => (repeat (first | (with_reducible assumption) | ((with_reducible apply Blk.new_at); focus (first | (simp; done) | (simp; omega))) | with_reducible apply Blk.alloc | with_reducible apply Blk.drew | with_reducible apply Blk.drewN | with_reducible apply Blk.set | ((with_reducible apply Blk.far); case hp => (first | (simp; done) | (dsimp only; omega))) | ((with_reducible apply Blk.ext); case he => with_reducible assumption)))); all_goals rfl)
      · (repeat (first | exact hDR.out | ((with_reducible apply DRow.far); case hp => (first | exact Nat.ne_of_lt hgl | exact hA0 hN0 | exact hA0 hN1)) | with_reducible apply DRow.alloc))
      · (repeat (first | (with_reducible assumption) | ((with_reducible apply Blk.new_at); focus (first | (simp; done) | (simp; omega))) | with_reducible apply Blk.alloc | with_reducible apply Blk.drew | with_reducible apply Blk.drewN | with_reducible apply Blk.set | ((with_reducible apply Blk.far); case hp => (first | (simp; done) | (dsimp only; omega))) | ((with_reducible apply Blk.ext); case he => with_reducible assumption)))
      · (repeat (first | (with_reducible assumption) | ((with_reducible apply Blk.new_at); focus (first | (simp; done) | (simp; omega))) | with_reducible apply Blk.alloc | with_reducible apply Blk.drew | with_reducible apply Blk.drewN | with_reducible apply Blk.set | ((with_reducible apply Blk.far); case hp => (first | (simp; done) | (dsimp only; omega))) | ((with_reducible apply Blk.ext); case he => with_reducible assumption)))
      · (repeat (first | (with_reducible assumption) | ((with_reducible apply Blk.new_at); focus (first | (simp; done) | (simp; omega))) | with_reducible apply Blk.alloc | with_reducible apply Blk.drew | with_reducible apply Blk.drewN | with_reducible apply Blk.set | ((with_reducible apply Blk.far); case hp => (first | (simp; done) | (dsimp only; omega))) | ((with_reducible apply Blk.ext); case he => with_reducible assumption)))
      · (repeat (first | (with_reducible assumption) | with_reducible exact Ext.refl _ | with_reducible apply Ext.alloc | with_reducible apply Ext.drew | with_reducible apply Ext.drewN | ((with_reducible apply Ext.set); case hp => (first | (simp; done) | (dsimp only; omega) | omega)) | ((with_reducible apply Ext.trans); case k => with_reducible assumption)))
  case rest =>
    obtain ⟨ga, gg, cap, cur, rfl, hga, bT, hDR, bB', bL, bR, hE⟩ := hcut
    rename_i wc
    have hgl := hDR.lt
    have hge := hDR.ge
    have hg1 : gg ≠ ga := Blk.ne hDR.2.1 bT (by decide)
    have hg2 : gg ≠ w.heap.size := Blk.ne hDR.2.1 bB' (by decide)
    have hg3 : gg ≠ w.heap.size + 1 := Blk.ne hDR.2.1 bL (by decide)
    have hg4 : gg ≠ w.heap.size + 2 := Blk.ne hDR.2.1 bR (by decide)
    obtain ⟨k1, -⟩ := Lnks.cells HCB.out hE k hkm y HY.out
    rw [HPD.out] at k1
    obtain ⟨d, hd⟩ : ∃ d, xs.getD p zeroD = d := ⟨_, rfl⟩
    obtain ⟨⟨c1, c2'⟩, c3, c4⟩ := hDR.cells hp d hd
    have hbl2 : bB < wc.heap.size := World.block_lt_of_cell? wc _ k1
    have hal := bT.lt
    have hll := bL.lt
    have hDRH := Lib.hid hDR
    have hpn : (p : Int) < (n : Int) := by omega
    clear hDR
    go_upto_region 2 with fail
    go_region_held3 (fun W => ((W.cell? ⟨w.heap.size, 1, none⟩ = some (.slice (some ⟨bB, oB, none⟩) m c2) ∧ W.cell? ⟨ga, 0, none⟩ = some (.slice (some ⟨gg, 0, none⟩) n cap)) ∧ (W.cell? ⟨w.heap.size + 1, 0, none⟩ = some (.int .i64 l.lo) ∧ W.cell? ⟨w.heap.size + 1, 1, none⟩ = some (.int .i64 l.hi))) ∧ W.cell? ⟨bB, oB + k * 2, none⟩ = some (.int .i64 (p : Int)))
      (first | (refine ⟨keepW (t := 89) (t2 := 23) (ps := #[.slice (some ⟨bA, oA, none⟩) n c, .slice (some ⟨bB, oB, none⟩) m c2, .int .i64 lo, .int .i64 hi]) (qs := #[.slice (some ⟨gg, 0, none⟩) n cap, .slice (some ⟨bB, oB, none⟩) m c2, .int .i64 lo, .int .i64 hi]) ?_ ?_ ?_ (by rfl) (by rfl), ?_⟩; (focus ((repeat (first | (with_reducible assumption) | ((with_reducible apply Blk.new_at); focus (first | (simp; done) | (simp; omega))) | with_reducible apply Blk.alloc | with_reducible apply Blk.drew | with_reducible apply Blk.drewN | with_reducible apply Blk.set | ((with_reducible apply Blk.far); case hp => (first | (simp; done) | (dsimp only; omega))) | ((with_reducible apply Blk.ext); case he => with_reducible assumption))); done)); (focus ((repeat (first | (with_reducible assumption) | ((with_reducible apply Blk.new_at); focus (first | (simp; done) | (simp; omega))) | with_reducible apply Blk.alloc | with_reducible apply Blk.drew | with_reducible apply Blk.drewN | with_reducible apply Blk.set | ((with_reducible apply Blk.far); case hp => (first | (simp; done) | (dsimp only; omega))) | ((with_reducible apply Blk.ext); case he => with_reducible assumption))); done)); (focus ((repeat (first | (with_reducible assumption) | ((with_reducible apply Blk.new_at); focus (first | (simp; done) | (simp; omega))) | with_reducible apply Blk.alloc | with_reducible apply Blk.drew | with_reducible apply Blk.drewN | with_reducible apply Blk.set | ((with_reducible apply Blk.far); case hp => (first | (simp; done) | (dsimp only; omega))) | ((with_reducible apply Blk.ext); case he => with_reducible assumption))); done)); (focus (exact HPD.out ▸ (Lnks.cells HCB.out (by (repeat (first | (with_reducible assumption) | with_reducible exact Ext.refl _ | with_reducible apply Ext.alloc | with_reducible apply Ext.drew | with_reducible apply Ext.drewN | ((with_reducible apply Ext.set); case hp => (first | (simp; done) | (dsimp only; omega) | omega)) | ((with_reducible apply Ext.trans); case k => with_reducible assumption)))) k hkm y HY.out).1)))) (fail)
    obtain ⟨W5, hW5⟩ : ∃ W5, ((wc.setCell { block := gg, off := p * 5 + 3 } (.int .i64 l.lo)).setCell { block := gg, off := p * 5 + 3 + 1 } (.int .i64 l.hi)).drew = W5 := ⟨_, rfl⟩
    have d1 := hDRH.out.putL hp l
    obtain ⟨cur5, d2⟩ : ∃ c5, DRow W5 w.heap.size gg n c5 (withL xs p l) := ⟨_, by rw [← hW5]; exact d1⟩
    have bT5 : Blk W5 ga #[.slice (some ⟨gg, 0, none⟩) n cap, .slice (some ⟨bB, oB, none⟩) m c2, .int .i64 lo, .int .i64 hi] 89 := by rw [← hW5]; (repeat (first | (with_reducible assumption) | ((with_reducible apply Blk.new_at); focus (first | (simp; done) | (simp; omega))) | with_reducible apply Blk.alloc | with_reducible apply Blk.drew | with_reducible apply Blk.drewN | with_reducible apply Blk.set | ((with_reducible apply Blk.far); case hp => (first | (simp; done) | (dsimp only; omega))) | ((with_reducible apply Blk.ext); case he => with_reducible assumption)))
    have bR5 : Blk W5 (w.heap.size + 2) #[.slice none 0 0, .slice none 0 0, .int .i64 0, .int .i64 0] 89 := by rw [← hW5]; (repeat (first | (with_reducible assumption) | ((with_reducible apply Blk.new_at); focus (first | (simp; done) | (simp; omega))) | with_reducible apply Blk.alloc | with_reducible apply Blk.drew | with_reducible apply Blk.drewN | with_reducible apply Blk.set | ((with_reducible apply Blk.far); case hp => (first | (simp; done) | (dsimp only; omega))) | ((with_reducible apply Blk.ext); case he => with_reducible assumption)))
    have hE5 : Ext w W5 := by rw [← hW5]; (repeat (first | (with_reducible assumption) | with_reducible exact Ext.refl _ | with_reducible apply Ext.alloc | with_reducible apply Ext.drew | with_reducible apply Ext.drewN | ((with_reducible apply Ext.set); case hp => (first | (simp; done) | (dsimp only; omega) | omega)) | ((with_reducible apply Ext.trans); case k => with_reducible assumption)))
    rw [hW5]
    clear hW5 d1
    have d3 := Lib.hid d2
    clear d2
    obtain ⟨⟨⟨n1, n2⟩, n3, n4⟩, n5, n6, n7, n8⟩ := tcellsF bT5
    obtain ⟨⟨⟨o1, o2⟩, o3, o4⟩, o5, o6, o7, o8⟩ := tcellsF bR5
    have hal5 := bT5.lt
    have hrl5 := bR5.lt
    go_wp2_with fail
    refine end_c rfl rfl _ _ _ _ rfl (by (apply Blk.is; (case h => (repeat (first | (with_reducible assumption) | ((with_reducible apply Blk.new_at); focus (first | (simp; done) | (simp; omega))) | with_reducible apply Blk.alloc | with_reducible apply Blk.drew | with_reducible apply Blk.drewN | with_reducible apply Blk.set | ((with_reducible apply Blk.far); case hp => (first | (simp; done) | (dsimp only; omega))) | ((with_reducible apply Blk.ext); case he => with_reducible assumption)))); all_goals rfl)) Try.underlying89 rfl (by exact szRT) ?_
    refine ⟨gg, cap, cur5, rfl, ?_, by (repeat (first | (with_reducible assumption) | with_reducible exact Ext.refl _ | with_reducible apply Ext.alloc | with_reducible apply Ext.drew | with_reducible apply Ext.drewN | ((with_reducible apply Ext.set); case hp => (first | (simp; done) | (dsimp only; omega) | omega)) | ((with_reducible apply Ext.trans); case k => with_reducible assumption)))⟩
    (repeat (first | exact d3.out | ((with_reducible apply DRow.far); case hp => exact hg4)))
end Go.Proofs.Ytdcedfciaaooiaa
