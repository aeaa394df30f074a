/- stack.Room: the walk. -/
import Derived.Test.YtdcedfciaaooiaaD25
set_option linter.unusedVariables false
namespace Go.Proofs.Ytdcedfciaaooiaa
open Go.RowKit

def roomL (b1 b2 wl wh dlo dhi : Int) (back : Bool) : Int := if back then b2 + dlo - wh else wl - (b1 - dlo)
def roomH (b1 b2 wl wh dlo dhi : Int) (back : Bool) : Int := if back then b1 + dhi - wl else wh - (b2 - dhi)
def clampLo (L : Int) : Int := if L < -100000 then -100000 else L
def clampHi (M : Int) : Int := if 100000 < M then 100000 else M
structure Room where
  lo : Int
  hi : Int
  err : Int
def roomP (L M : Int) : Room := if clampHi M < clampLo L then ⟨0, 0, 16⟩ else ⟨clampLo L, clampHi M, 0⟩
theorem roomP_of {b1 b2 wl wh dlo dhi : Int} {back : Bool} {L M : Int} (hL : roomL b1 b2 wl wh dlo dhi back = L) (hM : roomH b1 b2 wl wh dlo dhi back = M) :
    ∀ x y e (w w' : World), (x = clampLo L ∧ y = clampHi M ∧ x ≤ y ∧ e = 0) ∨ (clampHi M < clampLo L ∧ x = 0 ∧ y = 0 ∧ e = 16) → Ext w w' →
      Ret (.tuple #[.agg #[.int .i64 (roomP (roomL b1 b2 wl wh dlo dhi back) (roomH b1 b2 wl wh dlo dhi back)).lo, .int .i64 (roomP (roomL b1 b2 wl wh dlo dhi back) (roomH b1 b2 wl wh dlo dhi back)).hi], .int .i64 (roomP (roomL b1 b2 wl wh dlo dhi back) (roomH b1 b2 wl wh dlo dhi back)).err]) w
        (.returned (.tuple #[.agg ((#[.int .i64 0, .int .i64 0].setIfInBounds 0 (.int .i64 x)).setIfInBounds 1 (.int .i64 y)), .int .i64 e])) w' := by
  intro x y e w w' h hE
  rw [hL, hM]
  refine ⟨?_, hE⟩
  unfold roomP
  rcases h with ⟨rfl, rfl, h, rfl⟩ | ⟨h, rfl, rfl, rfl⟩
  · rw [if_neg (by omega)]; rfl
  · rw [if_pos h]; rfl
set_option maxRecDepth 20000 in
set_option maxHeartbeats 4000000 in
theorem sroom_false (A B : Option Addr) (n m c c2 : Nat) (xs : List Dim) (cs : List Lk) (lo hi : Int) (w : World) (hx : Dims w A n xs) (hk : Lnks w B m cs) (h : taskE xs cs lo hi = 0) (k : Nat) (hkm : k < m) (hb : (cs.getD k zeroK).back = false) :
    Calls Try.prog 55 #[.agg #[.slice A n c, .slice B m c2, .int .i64 lo, .int .i64 hi], .int .i64 (k : Int)] w (Ret (.tuple #[.agg #[.int .i64 (roomP (roomL (endS 1 xs cs) (endS (-1) xs cs) lo hi (dimK xs (cs.getD k zeroK)).lo (dimK xs (cs.getD k zeroK)).hi false) (roomH (endS 1 xs cs) (endS (-1) xs cs) lo hi (dimK xs (cs.getD k zeroK)).lo (dimK xs (cs.getD k zeroK)).hi false)).lo, .int .i64 (roomP (roomL (endS 1 xs cs) (endS (-1) xs cs) lo hi (dimK xs (cs.getD k zeroK)).lo (dimK xs (cs.getD k zeroK)).hi false) (roomH (endS 1 xs cs) (endS (-1) xs cs) lo hi (dimK xs (cs.getD k zeroK)).lo (dimK xs (cs.getD k zeroK)).hi false)).hi], .int .i64 (roomP (roomL (endS 1 xs cs) (endS (-1) xs cs) lo hi (dimK xs (cs.getD k zeroK)).lo (dimK xs (cs.getD k zeroK)).hi false) (roomH (endS 1 xs cs) (endS (-1) xs cs) lo hi (dimK xs (cs.getD k zeroK)).lo (dimK xs (cs.getD k zeroK)).hi false)).err]) w) := by
  have hrt := rt_of hx.len hk.len (taskE_zero h).1
  have hwant := chk_lims0 (taskE_zero h).2
  have HRT := Lib.hid hrt
  have HX := Lib.hid hx
  have HK := Lib.hid hk
  have HOF := Lib.hid (fun w (h1 : Dims w A n xs) (h2 : Lnks w B m cs) => of_ok A B n m c c2 xs cs lo hi w h1 h2 h)
  have HB := Lib.hid (fun w (h1 : Dims w A n xs) (h2 : Lnks w B m cs) => bounds_any A B n m c c2 xs cs lo hi w h1 h2 hrt.fine hrt.m256 hrt.m0)
  have hr1 := hrt.range 1
  have hr2 := hrt.range (-1)
  have hfk := hrt.fine k hkm
  have hmm := hrt.mem k hkm
  have hm256 := hrt.m256
  have hn256 := hrt.n256
  obtain ⟨bA, oA, rfl, hcA⟩ := hx.at_ (by omega)
  obtain ⟨bB, oB, rfl, hcB⟩ := hk.at_ (by omega)
  obtain ⟨p, hpd⟩ := Int.eq_ofNat_of_zero_le hfk.1
  have hp : p < n := by omega
  obtain ⟨d, hd⟩ : ∃ d, xs.getD p zeroD = d := ⟨_, rfl⟩
  have hdk : dimK xs (cs.getD k zeroK) = d := by unfold dimK; rw [hpd, Int.toNat_natCast]; exact hd
  have hxk : cs.getD k zeroK = ⟨(p : Int), false⟩ := by
    have : ∀ y : Lk, y.dim = (p : Int) → y.back = false → y = ⟨(p : Int), false⟩ := by rintro ⟨_, _⟩ rfl rfl; rfl
    exact this _ hpd hb
  obtain ⟨-, -, g2, g3, g4, g5⟩ := hfk
  rw [hdk] at g2 g3 g4 g5
  rw [hdk]
  have HXK := Lib.hid hxk
  have HD := Lib.hid hd
  have HCA := Lib.hid hcA
  have HCB := Lib.hid hcB
  clear hd hdk hxk hpd hcA hcB hb hmm
  clear hx hk h hrt
  generalize endS 1 xs cs = b1 at *
  generalize endS (-1) xs cs = b2 at *
  obtain ⟨L, hL⟩ : ∃ L, lo - (b1 - d.lo) = L := ⟨_, rfl⟩
  obtain ⟨M, hM⟩ : ∃ M, hi - (b2 - d.hi) = M := ⟨_, rfl⟩
  have hLr : -30000000 ≤ L ∧ L ≤ 30000000 := by omega
  have hMr : -30000000 ≤ M ∧ M ≤ 30000000 := by omega
  have hfin := roomP_of (b1 := b1) (b2 := b2) (wl := lo) (wh := hi) (dlo := d.lo) (dhi := d.hi) (back := false) (L := L) (M := M) (by simp [roomL, hL]) (by simp [roomH, hM])
  have HFIN := Lib.hid hfin
  clear hfin
  have hx8 : (L < -100000 ∧ 100000 < M) ∨ (L < -100000 ∧ M ≤ 100000 ∧ -100000 ≤ M) ∨ (L < -100000 ∧ M < -100000) ∨ (-100000 ≤ L ∧ L ≤ 100000 ∧ 100000 < M) ∨ (100000 < L ∧ 100000 < M) ∨ (-100000 ≤ L ∧ M ≤ 100000 ∧ L ≤ M) ∨ (-100000 ≤ L ∧ M ≤ 100000 ∧ M < L) := by omega
  rcases hx8 with q | q | q | q | q | q | q
  all_goals
    go_enter Try.func55, Try.ntmps55
    go_wp2_with fail; refine (HOF.out _ (HX.out.ext (by (repeat (first | (with_reducible assumption) | with_reducible exact Ext.refl _ | with_reducible apply Ext.alloc | with_reducible apply Ext.drew | with_reducible apply Ext.drewN | ((with_reducible apply Ext.set); case hp => (first | (simp; done) | (dsimp only; omega) | omega)) | ((with_reducible apply Ext.trans); case k => with_reducible assumption))))) (HK.out.ext (by (repeat (first | (with_reducible assumption) | with_reducible exact Ext.refl _ | with_reducible apply Ext.alloc | with_reducible apply Ext.drew | with_reducible apply Ext.drewN | ((with_reducible apply Ext.set); case hp => (first | (simp; done) | (dsimp only; omega) | omega)) | ((with_reducible apply Ext.trans); case k => with_reducible assumption)))))).mono ?_; rintro e w2 ⟨rfl, h2⟩
    have hT2 : Blk w2 w.heap.size #[.slice (some ⟨bA, oA, none⟩) n c, .slice (some ⟨bB, oB, none⟩) m c2, .int .i64 lo, .int .i64 hi] 85 := by (repeat (first | (with_reducible assumption) | ((with_reducible apply Blk.new_at); focus (first | (simp; done) | (simp; omega))) | with_reducible apply Blk.alloc | with_reducible apply Blk.drew | with_reducible apply Blk.drewN | with_reducible apply Blk.set | ((with_reducible apply Blk.far); case hp => (first | (simp; done) | (dsimp only; omega))) | ((with_reducible apply Blk.ext); case he => with_reducible assumption)))
    have hT2l := hT2.lt
    have hs2 := Ext.size h2
    simp only [World.size_alloc] at hs2
    go_wp2_with fail; refine (HB.out _ (HX.out.ext (by (repeat (first | (with_reducible assumption) | with_reducible exact Ext.refl _ | with_reducible apply Ext.alloc | with_reducible apply Ext.drew | with_reducible apply Ext.drewN | ((with_reducible apply Ext.set); case hp => (first | (simp; done) | (dsimp only; omega) | omega)) | ((with_reducible apply Ext.trans); case k => with_reducible assumption))))) (HK.out.ext (by (repeat (first | (with_reducible assumption) | with_reducible exact Ext.refl _ | with_reducible apply Ext.alloc | with_reducible apply Ext.drew | with_reducible apply Ext.drewN | ((with_reducible apply Ext.set); case hp => (first | (simp; done) | (dsimp only; omega) | omega)) | ((with_reducible apply Ext.trans); case k => with_reducible assumption)))))).mono ?_; rintro e w3 ⟨rfl, h3⟩
    have hT3 : Blk w3 w2.heap.size #[.slice (some ⟨bA, oA, none⟩) n c, .slice (some ⟨bB, oB, none⟩) m c2, .int .i64 lo, .int .i64 hi, .func (.func 113) #[] #[], .func (.func 114) #[] #[]] 150 := by (repeat (first | (with_reducible assumption) | ((with_reducible apply Blk.new_at); focus (first | (simp; done) | (simp; omega))) | with_reducible apply Blk.alloc | with_reducible apply Blk.drew | with_reducible apply Blk.drewN | with_reducible apply Blk.set | ((with_reducible apply Blk.far); case hp => (first | (simp; done) | (dsimp only; omega))) | ((with_reducible apply Blk.ext); case he => with_reducible assumption)))
    have T0 := hT3.cell 0
    have T1 := hT3.cell 1
    have T2 := hT3.cell 2
    have T3 := hT3.cell 3
    simp at T0 T1 T2 T3
    have hT3l := hT3.lt
    have O3 : Blk w3 (w.heap.size + 1) #[.int .i64 0, .int .i64 0] 23 := (by (repeat (first | (with_reducible assumption) | ((with_reducible apply Blk.new_at); focus (first | (simp; done) | (simp; omega))) | with_reducible apply Blk.alloc | with_reducible apply Blk.drew | with_reducible apply Blk.drewN | with_reducible apply Blk.set | ((with_reducible apply Blk.far); case hp => (first | (simp; done) | (dsimp only; omega))) | ((with_reducible apply Blk.ext); case he => with_reducible assumption)))); obtain ⟨O31, O32, O33, O34⟩ := O3.c2; have O35 := O3.lt
    have hs3 := Ext.size h3
    simp only [World.size_alloc] at hs3
    have hE3 : Ext w w3 := by (repeat (first | (with_reducible assumption) | with_reducible exact Ext.refl _ | with_reducible apply Ext.alloc | with_reducible apply Ext.drew | with_reducible apply Ext.drewN | ((with_reducible apply Ext.set); case hp => (first | (simp; done) | (dsimp only; omega) | omega)) | ((with_reducible apply Ext.trans); case k => with_reducible assumption)))
    obtain ⟨l1, l2⟩ := Lnks.cells HCB.out hE3 k hkm ⟨(p : Int), false⟩ HXK.out
    obtain ⟨-, -, -, a4, a5⟩ := Dims.cells HCA.out hE3 p hp d HD.out
    dsimp only at l1 l2
    have hbl : bA < w3.heap.size := World.block_lt_of_cell? w3 _ a4
    have hbl2 : bB < w3.heap.size := World.block_lt_of_cell? w3 _ l1
    go_wp2_with fail
    go_region_held3 (fun W => (W.cell? ⟨w2.heap.size, 0, none⟩ = some (.slice (some ⟨bA, oA, none⟩) n c) ∧ W.cell? ⟨w2.heap.size, 1, none⟩ = some (.slice (some ⟨bB, oB, none⟩) m c2)) ∧ W.cell? ⟨bB, oB + k * 2, none⟩ = some (.int .i64 (p : Int)) ∧ (W.cell? ⟨bA, oA + p * 5 + 3, none⟩ = some (.int .i64 d.lo) ∧ W.cell? ⟨bA, oA + p * 5 + 4, none⟩ = some (.int .i64 d.hi)))
      (exact ⟨⟨(show Blk _ w2.heap.size #[.slice (some ⟨bA, oA, none⟩) n c, .slice (some ⟨bB, oB, none⟩) m c2, .int .i64 lo, .int .i64 hi, .func (.func 113) #[] #[], .func (.func 114) #[] #[]] 150 from by (repeat (first | (with_reducible assumption) | ((with_reducible apply Blk.new_at); focus (first | (simp; done) | (simp; omega))) | with_reducible apply Blk.alloc | with_reducible apply Blk.drew | with_reducible apply Blk.drewN | with_reducible apply Blk.set | ((with_reducible apply Blk.far); case hp => (first | (simp; done) | (dsimp only; omega))) | ((with_reducible apply Blk.ext); case he => with_reducible assumption)))).cell 0, (show Blk _ w2.heap.size #[.slice (some ⟨bA, oA, none⟩) n c, .slice (some ⟨bB, oB, none⟩) m c2, .int .i64 lo, .int .i64 hi, .func (.func 113) #[] #[], .func (.func 114) #[] #[]] 150 from by (repeat (first | (with_reducible assumption) | ((with_reducible apply Blk.new_at); focus (first | (simp; done) | (simp; omega))) | with_reducible apply Blk.alloc | with_reducible apply Blk.drew | with_reducible apply Blk.drewN | with_reducible apply Blk.set | ((with_reducible apply Blk.far); case hp => (first | (simp; done) | (dsimp only; omega))) | ((with_reducible apply Blk.ext); case he => with_reducible assumption)))).cell 1⟩, (Lnks.cells HCB.out (by (repeat (first | (with_reducible assumption) | with_reducible exact Ext.refl _ | with_reducible apply Ext.alloc | with_reducible apply Ext.drew | with_reducible apply Ext.drewN | ((with_reducible apply Ext.set); case hp => (first | (simp; done) | (dsimp only; omega) | omega)) | ((with_reducible apply Ext.trans); case k => with_reducible assumption)))) k hkm ⟨(p : Int), false⟩ HXK.out).1, (Dims.cells HCA.out (by (repeat (first | (with_reducible assumption) | with_reducible exact Ext.refl _ | with_reducible apply Ext.alloc | with_reducible apply Ext.drew | with_reducible apply Ext.drewN | ((with_reducible apply Ext.set); case hp => (first | (simp; done) | (dsimp only; omega) | omega)) | ((with_reducible apply Ext.trans); case k => with_reducible assumption)))) p hp d HD.out).2.2.2⟩) (fail)
    obtain ⟨W5, hW5⟩ : ∃ W5, (((w3.alloc (.cells #[.int .i64 b1, .int .i64 b2] 23)).alloc (.cells #[.int .i64 0, .int .i64 0] 23)).alloc (.cells #[.int .i64 d.lo, .int .i64 d.hi] 23)).drew = W5 := ⟨_, rfl⟩
    have hE5 : Ext w W5 := by rw [← hW5]; (repeat (first | (with_reducible assumption) | with_reducible exact Ext.refl _ | with_reducible apply Ext.alloc | with_reducible apply Ext.drew | with_reducible apply Ext.drewN | ((with_reducible apply Ext.set); case hp => (first | (simp; done) | (dsimp only; omega) | omega)) | ((with_reducible apply Ext.trans); case k => with_reducible assumption)))
    have hT5 : Blk W5 w2.heap.size #[.slice (some ⟨bA, oA, none⟩) n c, .slice (some ⟨bB, oB, none⟩) m c2, .int .i64 lo, .int .i64 hi, .func (.func 113) #[] #[], .func (.func 114) #[] #[]] 150 := by rw [← hW5]; (repeat (first | (with_reducible assumption) | ((with_reducible apply Blk.new_at); focus (first | (simp; done) | (simp; omega))) | with_reducible apply Blk.alloc | with_reducible apply Blk.drew | with_reducible apply Blk.drewN | with_reducible apply Blk.set | ((with_reducible apply Blk.far); case hp => (first | (simp; done) | (dsimp only; omega))) | ((with_reducible apply Blk.ext); case he => with_reducible assumption)))
    have hO5 : Blk W5 (w.heap.size + 1) #[.int .i64 0, .int .i64 0] 23 := by rw [← hW5]; (repeat (first | (with_reducible assumption) | ((with_reducible apply Blk.new_at); focus (first | (simp; done) | (simp; omega))) | with_reducible apply Blk.alloc | with_reducible apply Blk.drew | with_reducible apply Blk.drewN | with_reducible apply Blk.set | ((with_reducible apply Blk.far); case hp => (first | (simp; done) | (dsimp only; omega))) | ((with_reducible apply Blk.ext); case he => with_reducible assumption)))
    have hB5 : Blk W5 w3.heap.size #[.int .i64 b1, .int .i64 b2] 23 := by rw [← hW5]; (repeat (first | (with_reducible assumption) | ((with_reducible apply Blk.new_at); focus (first | (simp; done) | (simp; omega))) | with_reducible apply Blk.alloc | with_reducible apply Blk.drew | with_reducible apply Blk.drewN | with_reducible apply Blk.set | ((with_reducible apply Blk.far); case hp => (first | (simp; done) | (dsimp only; omega))) | ((with_reducible apply Blk.ext); case he => with_reducible assumption)))
    have hU5 : Blk W5 (w3.heap.size + 1) #[.int .i64 0, .int .i64 0] 23 := by rw [← hW5]; (repeat (first | (with_reducible assumption) | ((with_reducible apply Blk.new_at); focus (first | (simp; done) | (simp; omega))) | with_reducible apply Blk.alloc | with_reducible apply Blk.drew | with_reducible apply Blk.drewN | with_reducible apply Blk.set | ((with_reducible apply Blk.far); case hp => (first | (simp; done) | (dsimp only; omega))) | ((with_reducible apply Blk.ext); case he => with_reducible assumption)))
    have hD5 : Blk W5 (w3.heap.size + 1 + 1) #[.int .i64 d.lo, .int .i64 d.hi] 23 := by rw [← hW5]; (repeat (first | (with_reducible assumption) | ((with_reducible apply Blk.new_at); focus (first | (simp; done) | (simp; omega))) | with_reducible apply Blk.alloc | with_reducible apply Blk.drew | with_reducible apply Blk.drewN | with_reducible apply Blk.set | ((with_reducible apply Blk.far); case hp => (first | (simp; done) | (dsimp only; omega))) | ((with_reducible apply Blk.ext); case he => with_reducible assumption)))
    rw [hW5]
    clear hW5 a4 a5 l1 l2 T0 T1 T2 T3
    obtain ⟨l1, l2⟩ := Lnks.cells HCB.out hE5 k hkm ⟨(p : Int), false⟩ HXK.out
    dsimp only at l1 l2
    have T0 := hT5.cell 0
    have T1 := hT5.cell 1
    have T2 := hT5.cell 2
    have T3 := hT5.cell 3
    simp at T0 T1 T2 T3
    obtain ⟨o1, o2, o3, o4⟩ := hO5.c2
    obtain ⟨x1, x2, x3, x4⟩ := hB5.c2
    obtain ⟨y1, y2, y3, y4⟩ := hU5.c2
    obtain ⟨z1, z2, z3, z4⟩ := hD5.c2
    have hul := hU5.lt
    have hol := hO5.lt
    go_upto_region 12 with fail
    obtain ⟨W6, hW6⟩ : ∃ W6, ((W5.setCell ⟨w3.heap.size + 1, 0, none⟩ (.int .i64 L)).setCell ⟨w3.heap.size + 1, 1, none⟩ (.int .i64 M)) = W6 := ⟨_, rfl⟩
    have hE6 : Ext w W6 := by rw [← hW6]; (repeat (first | (with_reducible assumption) | with_reducible exact Ext.refl _ | with_reducible apply Ext.alloc | with_reducible apply Ext.drew | with_reducible apply Ext.drewN | ((with_reducible apply Ext.set); case hp => (first | (simp; done) | (dsimp only; omega) | omega)) | ((with_reducible apply Ext.trans); case k => with_reducible assumption)))
    have hO6 : Blk W6 (w.heap.size + 1) #[.int .i64 0, .int .i64 0] 23 := by rw [← hW6]; (repeat (first | (with_reducible assumption) | ((with_reducible apply Blk.new_at); focus (first | (simp; done) | (simp; omega))) | with_reducible apply Blk.alloc | with_reducible apply Blk.drew | with_reducible apply Blk.drewN | with_reducible apply Blk.set | ((with_reducible apply Blk.far); case hp => (first | (simp; done) | (dsimp only; omega))) | ((with_reducible apply Blk.ext); case he => with_reducible assumption)))
    have hU6 : Blk W6 (w3.heap.size + 1) #[.int .i64 L, .int .i64 M] 23 := by rw [← hW6]; (apply Blk.is; (case h => (repeat (first | (with_reducible assumption) | ((with_reducible apply Blk.new_at); focus (first | (simp; done) | (simp; omega))) | with_reducible apply Blk.alloc | with_reducible apply Blk.drew | with_reducible apply Blk.drewN | with_reducible apply Blk.set | ((with_reducible apply Blk.far); case hp => (first | (simp; done) | (dsimp only; omega))) | ((with_reducible apply Blk.ext); case he => with_reducible assumption)))); all_goals rfl)
    rw [hW6]
    clear hW6 o1 o2 o3 o4 y1 y2 y3 y4
    obtain ⟨o1, o2, o3, o4⟩ := hO6.c2
    obtain ⟨y1, y2, y3, y4⟩ := hU6.c2
    have hul6 := hU6.lt
    have hol6 := hO6.lt
    go_wp2_with fail
    refine end_ct rfl rfl _ _ _ _ _ rfl rfl (by (repeat (first | (with_reducible assumption) | ((with_reducible apply Blk.new_at); focus (first | (simp; done) | (simp; omega))) | with_reducible apply Blk.alloc | with_reducible apply Blk.drew | with_reducible apply Blk.drewN | with_reducible apply Blk.set | ((with_reducible apply Blk.far); case hp => (first | (simp; done) | (dsimp only; omega))) | ((with_reducible apply Blk.ext); case he => with_reducible assumption)))) Try.underlying23 rfl (by exact szL) ?_
    refine HFIN.out _ _ _ w _ ?_ (by (repeat (first | (with_reducible assumption) | with_reducible exact Ext.refl _ | with_reducible apply Ext.alloc | with_reducible apply Ext.drew | with_reducible apply Ext.drewN | ((with_reducible apply Ext.set); case hp => (first | (simp; done) | (dsimp only; omega) | omega)) | ((with_reducible apply Ext.trans); case k => with_reducible assumption))))
    unfold clampLo clampHi
    first
      | exact .inl ⟨by split <;> omega, by split <;> omega, by omega, rfl⟩
      | exact .inr ⟨by split <;> split <;> omega, rfl, rfl, rfl⟩
set_option maxRecDepth 20000 in
set_option maxHeartbeats 4000000 in
theorem sroom_true (A B : Option Addr) (n m c c2 : Nat) (xs : List Dim) (cs : List Lk) (lo hi : Int) (w : World) (hx : Dims w A n xs) (hk : Lnks w B m cs) (h : taskE xs cs lo hi = 0) (k : Nat) (hkm : k < m) (hb : (cs.getD k zeroK).back = true) :
    Calls Try.prog 55 #[.agg #[.slice A n c, .slice B m c2, .int .i64 lo, .int .i64 hi], .int .i64 (k : Int)] w (Ret (.tuple #[.agg #[.int .i64 (roomP (roomL (endS 1 xs cs) (endS (-1) xs cs) lo hi (dimK xs (cs.getD k zeroK)).lo (dimK xs (cs.getD k zeroK)).hi true) (roomH (endS 1 xs cs) (endS (-1) xs cs) lo hi (dimK xs (cs.getD k zeroK)).lo (dimK xs (cs.getD k zeroK)).hi true)).lo, .int .i64 (roomP (roomL (endS 1 xs cs) (endS (-1) xs cs) lo hi (dimK xs (cs.getD k zeroK)).lo (dimK xs (cs.getD k zeroK)).hi true) (roomH (endS 1 xs cs) (endS (-1) xs cs) lo hi (dimK xs (cs.getD k zeroK)).lo (dimK xs (cs.getD k zeroK)).hi true)).hi], .int .i64 (roomP (roomL (endS 1 xs cs) (endS (-1) xs cs) lo hi (dimK xs (cs.getD k zeroK)).lo (dimK xs (cs.getD k zeroK)).hi true) (roomH (endS 1 xs cs) (endS (-1) xs cs) lo hi (dimK xs (cs.getD k zeroK)).lo (dimK xs (cs.getD k zeroK)).hi true)).err]) w) := by
  have hrt := rt_of hx.len hk.len (taskE_zero h).1
  have hwant := chk_lims0 (taskE_zero h).2
  have HRT := Lib.hid hrt
  have HX := Lib.hid hx
  have HK := Lib.hid hk
  have HOF := Lib.hid (fun w (h1 : Dims w A n xs) (h2 : Lnks w B m cs) => of_ok A B n m c c2 xs cs lo hi w h1 h2 h)
  have HB := Lib.hid (fun w (h1 : Dims w A n xs) (h2 : Lnks w B m cs) => bounds_any A B n m c c2 xs cs lo hi w h1 h2 hrt.fine hrt.m256 hrt.m0)
  have hr1 := hrt.range 1
  have hr2 := hrt.range (-1)
  have hfk := hrt.fine k hkm
  have hmm := hrt.mem k hkm
  have hm256 := hrt.m256
  have hn256 := hrt.n256
  obtain ⟨bA, oA, rfl, hcA⟩ := hx.at_ (by omega)
  obtain ⟨bB, oB, rfl, hcB⟩ := hk.at_ (by omega)
  obtain ⟨p, hpd⟩ := Int.eq_ofNat_of_zero_le hfk.1
  have hp : p < n := by omega
  obtain ⟨d, hd⟩ : ∃ d, xs.getD p zeroD = d := ⟨_, rfl⟩
  have hdk : dimK xs (cs.getD k zeroK) = d := by unfold dimK; rw [hpd, Int.toNat_natCast]; exact hd
  have hxk : cs.getD k zeroK = ⟨(p : Int), true⟩ := by
    have : ∀ y : Lk, y.dim = (p : Int) → y.back = true → y = ⟨(p : Int), true⟩ := by rintro ⟨_, _⟩ rfl rfl; rfl
    exact this _ hpd hb
  obtain ⟨-, -, g2, g3, g4, g5⟩ := hfk
  rw [hdk] at g2 g3 g4 g5
  rw [hdk]
  have HXK := Lib.hid hxk
  have HD := Lib.hid hd
  have HCA := Lib.hid hcA
  have HCB := Lib.hid hcB
  clear hd hdk hxk hpd hcA hcB hb hmm
  clear hx hk h hrt
  generalize endS 1 xs cs = b1 at *
  generalize endS (-1) xs cs = b2 at *
  obtain ⟨L, hL⟩ : ∃ L, b2 + d.lo - hi = L := ⟨_, rfl⟩
  obtain ⟨M, hM⟩ : ∃ M, b1 + d.hi - lo = M := ⟨_, rfl⟩
  have hLr : -30000000 ≤ L ∧ L ≤ 30000000 := by omega
  have hMr : -30000000 ≤ M ∧ M ≤ 30000000 := by omega
  have hfin := roomP_of (b1 := b1) (b2 := b2) (wl := lo) (wh := hi) (dlo := d.lo) (dhi := d.hi) (back := true) (L := L) (M := M) (by simp [roomL, hL]) (by simp [roomH, hM])
  have HFIN := Lib.hid hfin
  clear hfin
  have hx8 : (L < -100000 ∧ 100000 < M) ∨ (L < -100000 ∧ M ≤ 100000 ∧ -100000 ≤ M) ∨ (L < -100000 ∧ M < -100000) ∨ (-100000 ≤ L ∧ L ≤ 100000 ∧ 100000 < M) ∨ (100000 < L ∧ 100000 < M) ∨ (-100000 ≤ L ∧ M ≤ 100000 ∧ L ≤ M) ∨ (-100000 ≤ L ∧ M ≤ 100000 ∧ M < L) := by omega
  rcases hx8 with q | q | q | q | q | q | q
  all_goals
    go_enter Try.func55, Try.ntmps55
    go_wp2_with fail; refine (HOF.out _ (HX.out.ext (by (repeat (first | (with_reducible assumption) | with_reducible exact Ext.refl _ | with_reducible apply Ext.alloc | with_reducible apply Ext.drew | with_reducible apply Ext.drewN | ((with_reducible apply Ext.set); case hp => (first | (simp; done) | (dsimp only; omega) | omega)) | ((with_reducible apply Ext.trans); case k => with_reducible assumption))))) (HK.out.ext (by (repeat (first | (with_reducible assumption) | with_reducible exact Ext.refl _ | with_reducible apply Ext.alloc | with_reducible apply Ext.drew | with_reducible apply Ext.drewN | ((with_reducible apply Ext.set); case hp => (first | (simp; done) | (dsimp only; omega) | omega)) | ((with_reducible apply Ext.trans); case k => with_reducible assumption)))))).mono ?_; rintro e w2 ⟨rfl, h2⟩
    have hT2 : Blk w2 w.heap.size #[.slice (some ⟨bA, oA, none⟩) n c, .slice (some ⟨bB, oB, none⟩) m c2, .int .i64 lo, .int .i64 hi] 85 := by (repeat (first | (with_reducible assumption) | ((with_reducible apply Blk.new_at); focus (first | (simp; done) | (simp; omega))) | with_reducible apply Blk.alloc | with_reducible apply Blk.drew | with_reducible apply Blk.drewN | with_reducible apply Blk.set | ((with_reducible apply Blk.far); case hp => (first | (simp; done) | (dsimp only; omega))) | ((with_reducible apply Blk.ext); case he => with_reducible assumption)))
    have hT2l := hT2.lt
    have hs2 := Ext.size h2
    simp only [World.size_alloc] at hs2
    go_wp2_with fail; refine (HB.out _ (HX.out.ext (by (repeat (first | (with_reducible assumption) | with_reducible exact Ext.refl _ | with_reducible apply Ext.alloc | with_reducible apply Ext.drew | with_reducible apply Ext.drewN | ((with_reducible apply Ext.set); case hp => (first | (simp; done) | (dsimp only; omega) | omega)) | ((with_reducible apply Ext.trans); case k => with_reducible assumption))))) (HK.out.ext (by (repeat (first | (with_reducible assumption) | with_reducible exact Ext.refl _ | with_reducible apply Ext.alloc | with_reducible apply Ext.drew | with_reducible apply Ext.drewN | ((with_reducible apply Ext.set); case hp => (first | (simp; done) | (dsimp only; omega) | omega)) | ((with_reducible apply Ext.trans); case k => with_reducible assumption)))))).mono ?_; rintro e w3 ⟨rfl, h3⟩
    have hT3 : Blk w3 w2.heap.size #[.slice (some ⟨bA, oA, none⟩) n c, .slice (some ⟨bB, oB, none⟩) m c2, .int .i64 lo, .int .i64 hi, .func (.func 113) #[] #[], .func (.func 114) #[] #[]] 150 := by (repeat (first | (with_reducible assumption) | ((with_reducible apply Blk.new_at); focus (first | (simp; done) | (simp; omega))) | with_reducible apply Blk.alloc | with_reducible apply Blk.drew | with_reducible apply Blk.drewN | with_reducible apply Blk.set | ((with_reducible apply Blk.far); case hp => (first | (simp; done) | (dsimp only; omega))) | ((with_reducible apply Blk.ext); case he => with_reducible assumption)))
    have T0 := hT3.cell 0
    have T1 := hT3.cell 1
    have T2 := hT3.cell 2
    have T3 := hT3.cell 3
    simp at T0 T1 T2 T3
    have hT3l := hT3.lt
    have O3 : Blk w3 (w.heap.size + 1) #[.int .i64 0, .int .i64 0] 23 := (by (repeat (first | (with_reducible assumption) | ((with_reducible apply Blk.new_at); focus (first | (simp; done) | (simp; omega))) | with_reducible apply Blk.alloc | with_reducible apply Blk.drew | with_reducible apply Blk.drewN | with_reducible apply Blk.set | ((with_reducible apply Blk.far); case hp => (first | (simp; done) | (dsimp only; omega))) | ((with_reducible apply Blk.ext); case he => with_reducible assumption)))); obtain ⟨O31, O32, O33, O34⟩ := O3.c2; have O35 := O3.lt
    have hs3 := Ext.size h3
    simp only [World.size_alloc] at hs3
    have hE3 : Ext w w3 := by (repeat (first | (with_reducible assumption) | with_reducible exact Ext.refl _ | with_reducible apply Ext.alloc | with_reducible apply Ext.drew | with_reducible apply Ext.drewN | ((with_reducible apply Ext.set); case hp => (first | (simp; done) | (dsimp only; omega) | omega)) | ((with_reducible apply Ext.trans); case k => with_reducible assumption)))
    obtain ⟨l1, l2⟩ := Lnks.cells HCB.out hE3 k hkm ⟨(p : Int), true⟩ HXK.out
    obtain ⟨-, -, -, a4, a5⟩ := Dims.cells HCA.out hE3 p hp d HD.out
    dsimp only at l1 l2
    have hbl : bA < w3.heap.size := World.block_lt_of_cell? w3 _ a4
    have hbl2 : bB < w3.heap.size := World.block_lt_of_cell? w3 _ l1
    go_wp2_with fail
    go_region_held3 (fun W => (W.cell? ⟨w2.heap.size, 0, none⟩ = some (.slice (some ⟨bA, oA, none⟩) n c) ∧ W.cell? ⟨w2.heap.size, 1, none⟩ = some (.slice (some ⟨bB, oB, none⟩) m c2)) ∧ W.cell? ⟨bB, oB + k * 2, none⟩ = some (.int .i64 (p : Int)) ∧ (W.cell? ⟨bA, oA + p * 5 + 3, none⟩ = some (.int .i64 d.lo) ∧ W.cell? ⟨bA, oA + p * 5 + 4, none⟩ = some (.int .i64 d.hi)))
      (exact ⟨⟨(show Blk _ w2.heap.size #[.slice (some ⟨bA, oA, none⟩) n c, .slice (some ⟨bB, oB, none⟩) m c2, .int .i64 lo, .int .i64 hi, .func (.func 113) #[] #[], .func (.func 114) #[] #[]] 150 from by (repeat (first | (with_reducible assumption) | ((with_reducible apply Blk.new_at); focus (first | (simp; done) | (simp; omega))) | with_reducible apply Blk.alloc | with_reducible apply Blk.drew | with_reducible apply Blk.drewN | with_reducible apply Blk.set | ((with_reducible apply Blk.far); case hp => (first | (simp; done) | (dsimp only; omega))) | ((with_reducible apply Blk.ext); case he => with_reducible assumption)))).cell 0, (show Blk _ w2.heap.size #[.slice (some ⟨bA, oA, none⟩) n c, .slice (some ⟨bB, oB, none⟩) m c2, .int .i64 lo, .int .i64 hi, .func (.func 113) #[] #[], .func (.func 114) #[] #[]] 150 from by (repeat (first | (with_reducible assumption) | ((with_reducible apply Blk.new_at); focus (first | (simp; done) | (simp; omega))) | with_reducible apply Blk.alloc | with_reducible apply Blk.drew | with_reducible apply Blk.drewN | with_reducible apply Blk.set | ((with_reducible apply Blk.far); case hp => (first | (simp; done) | (dsimp only; omega))) | ((with_reducible apply Blk.ext); case he => with_reducible assumption)))).cell 1⟩, (Lnks.cells HCB.out (by (repeat (first | (with_reducible assumption) | with_reducible exact Ext.refl _ | with_reducible apply Ext.alloc | with_reducible apply Ext.drew | with_reducible apply Ext.drewN | ((with_reducible apply Ext.set); case hp => (first | (simp; done) | (dsimp only; omega) | omega)) | ((with_reducible apply Ext.trans); case k => with_reducible assumption)))) k hkm ⟨(p : Int), true⟩ HXK.out).1, (Dims.cells HCA.out (by (repeat (first | (with_reducible assumption) | with_reducible exact Ext.refl _ | with_reducible apply Ext.alloc | with_reducible apply Ext.drew | with_reducible apply Ext.drewN | ((with_reducible apply Ext.set); case hp => (first | (simp; done) | (dsimp only; omega) | omega)) | ((with_reducible apply Ext.trans); case k => with_reducible assumption)))) p hp d HD.out).2.2.2⟩) (fail)
    obtain ⟨W5, hW5⟩ : ∃ W5, (((w3.alloc (.cells #[.int .i64 b1, .int .i64 b2] 23)).alloc (.cells #[.int .i64 0, .int .i64 0] 23)).alloc (.cells #[.int .i64 d.lo, .int .i64 d.hi] 23)).drew = W5 := ⟨_, rfl⟩
    have hE5 : Ext w W5 := by rw [← hW5]; (repeat (first | (with_reducible assumption) | with_reducible exact Ext.refl _ | with_reducible apply Ext.alloc | with_reducible apply Ext.drew | with_reducible apply Ext.drewN | ((with_reducible apply Ext.set); case hp => (first | (simp; done) | (dsimp only; omega) | omega)) | ((with_reducible apply Ext.trans); case k => with_reducible assumption)))
    have hT5 : Blk W5 w2.heap.size #[.slice (some ⟨bA, oA, none⟩) n c, .slice (some ⟨bB, oB, none⟩) m c2, .int .i64 lo, .int .i64 hi, .func (.func 113) #[] #[], .func (.func 114) #[] #[]] 150 := by rw [← hW5]; (repeat (first | (with_reducible assumption) | ((with_reducible apply Blk.new_at); focus (first | (simp; done) | (simp; omega))) | with_reducible apply Blk.alloc | with_reducible apply Blk.drew | with_reducible apply Blk.drewN | with_reducible apply Blk.set | ((with_reducible apply Blk.far); case hp => (first | (simp; done) | (dsimp only; omega))) | ((with_reducible apply Blk.ext); case he => with_reducible assumption)))
    have hO5 : Blk W5 (w.heap.size + 1) #[.int .i64 0, .int .i64 0] 23 := by rw [← hW5]; (repeat (first | (with_reducible assumption) | ((with_reducible apply Blk.new_at); focus (first | (simp; done) | (simp; omega))) | with_reducible apply Blk.alloc | with_reducible apply Blk.drew | with_reducible apply Blk.drewN | with_reducible apply Blk.set | ((with_reducible apply Blk.far); case hp => (first | (simp; done) | (dsimp only; omega))) | ((with_reducible apply Blk.ext); case he => with_reducible assumption)))
    have hB5 : Blk W5 w3.heap.size #[.int .i64 b1, .int .i64 b2] 23 := by rw [← hW5]; (repeat (first | (with_reducible assumption) | ((with_reducible apply Blk.new_at); focus (first | (simp; done) | (simp; omega))) | with_reducible apply Blk.alloc | with_reducible apply Blk.drew | with_reducible apply Blk.drewN | with_reducible apply Blk.set | ((with_reducible apply Blk.far); case hp => (first | (simp; done) | (dsimp only; omega))) | ((with_reducible apply Blk.ext); case he => with_reducible assumption)))
    have hU5 : Blk W5 (w3.heap.size + 1) #[.int .i64 0, .int .i64 0] 23 := by rw [← hW5]; (repeat (first | (with_reducible assumption) | ((with_reducible apply Blk.new_at); focus (first | (simp; done) | (simp; omega))) | with_reducible apply Blk.alloc | with_reducible apply Blk.drew | with_reducible apply Blk.drewN | with_reducible apply Blk.set | ((with_reducible apply Blk.far); case hp => (first | (simp; done) | (dsimp only; omega))) | ((with_reducible apply Blk.ext); case he => with_reducible assumption)))
    have hD5 : Blk W5 (w3.heap.size + 1 + 1) #[.int .i64 d.lo, .int .i64 d.hi] 23 := by rw [← hW5]; (repeat (first | (with_reducible assumption) | ((with_reducible apply Blk.new_at); focus (first | (simp; done) | (simp; omega))) | with_reducible apply Blk.alloc | with_reducible apply Blk.drew | with_reducible apply Blk.drewN | with_reducible apply Blk.set | ((with_reducible apply Blk.far); case hp => (first | (simp; done) | (dsimp only; omega))) | ((with_reducible apply Blk.ext); case he => with_reducible assumption)))
    rw [hW5]
    clear hW5 a4 a5 l1 l2 T0 T1 T2 T3
    obtain ⟨l1, l2⟩ := Lnks.cells HCB.out hE5 k hkm ⟨(p : Int), true⟩ HXK.out
    dsimp only at l1 l2
    have T0 := hT5.cell 0
    have T1 := hT5.cell 1
    have T2 := hT5.cell 2
    have T3 := hT5.cell 3
    simp at T0 T1 T2 T3
    obtain ⟨o1, o2, o3, o4⟩ := hO5.c2
    obtain ⟨x1, x2, x3, x4⟩ := hB5.c2
    obtain ⟨y1, y2, y3, y4⟩ := hU5.c2
    obtain ⟨z1, z2, z3, z4⟩ := hD5.c2
    have hul := hU5.lt
    have hol := hO5.lt
    go_upto_region 12 with fail
    obtain ⟨W6, hW6⟩ : ∃ W6, ((W5.setCell ⟨w3.heap.size + 1, 0, none⟩ (.int .i64 L)).setCell ⟨w3.heap.size + 1, 1, none⟩ (.int .i64 M)) = W6 := ⟨_, rfl⟩
    have hE6 : Ext w W6 := by rw [← hW6]; (repeat (first | (with_reducible assumption) | with_reducible exact Ext.refl _ | with_reducible apply Ext.alloc | with_reducible apply Ext.drew | with_reducible apply Ext.drewN | ((with_reducible apply Ext.set); case hp => (first | (simp; done) | (dsimp only; omega) | omega)) | ((with_reducible apply Ext.trans); case k => with_reducible assumption)))
    have hO6 : Blk W6 (w.heap.size + 1) #[.int .i64 0, .int .i64 0] 23 := by rw [← hW6]; (repeat (first | (with_reducible assumption) | ((with_reducible apply Blk.new_at); focus (first | (simp; done) | (simp; omega))) | with_reducible apply Blk.alloc | with_reducible apply Blk.drew | with_reducible apply Blk.drewN | with_reducible apply Blk.set | ((with_reducible apply Blk.far); case hp => (first | (simp; done) | (dsimp only; omega))) | ((with_reducible apply Blk.ext); case he => with_reducible assumption)))
    have hU6 : Blk W6 (w3.heap.size + 1) #[.int .i64 L, .int .i64 M] 23 := by rw [← hW6]; (apply Blk.is; (case h => (repeat (first | (with_reducible assumption) | ((with_reducible apply Blk.new_at); focus (first | (simp; done) | (simp; omega))) | with_reducible apply Blk.alloc | with_reducible apply Blk.drew | with_reducible apply Blk.drewN | with_reducible apply Blk.set | ((with_reducible apply Blk.far); case hp => (first | (simp; done) | (dsimp only; omega))) | ((with_reducible apply Blk.ext); case he => with_reducible assumption)))); all_goals rfl)
    rw [hW6]
    clear hW6 o1 o2 o3 o4 y1 y2 y3 y4
    obtain ⟨o1, o2, o3, o4⟩ := hO6.c2
    obtain ⟨y1, y2, y3, y4⟩ := hU6.c2
    have hul6 := hU6.lt
    have hol6 := hO6.lt
    go_wp2_with fail
    refine end_ct rfl rfl _ _ _ _ _ rfl rfl (by (repeat (first | (with_reducible assumption) | ((with_reducible apply Blk.new_at); focus (first | (simp; done) | (simp; omega))) | with_reducible apply Blk.alloc | with_reducible apply Blk.drew | with_reducible apply Blk.drewN | with_reducible apply Blk.set | ((with_reducible apply Blk.far); case hp => (first | (simp; done) | (dsimp only; omega))) | ((with_reducible apply Blk.ext); case he => with_reducible assumption)))) Try.underlying23 rfl (by exact szL) ?_
    refine HFIN.out _ _ _ w _ ?_ (by (repeat (first | (with_reducible assumption) | with_reducible exact Ext.refl _ | with_reducible apply Ext.alloc | with_reducible apply Ext.drew | with_reducible apply Ext.drewN | ((with_reducible apply Ext.set); case hp => (first | (simp; done) | (dsimp only; omega) | omega)) | ((with_reducible apply Ext.trans); case k => with_reducible assumption))))
    unfold clampLo clampHi
    first
      | exact .inl ⟨by split <;> omega, by split <;> omega, by omega, rfl⟩
      | exact .inr ⟨by split <;> split <;> omega, rfl, rfl, rfl⟩
end Go.Proofs.Ytdcedfciaaooiaa
