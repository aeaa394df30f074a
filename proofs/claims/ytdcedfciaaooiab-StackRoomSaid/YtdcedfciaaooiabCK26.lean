/- The closure of the law StackRoom: the walk. -/
import Derived.Test.YtdcedfciaaooiabCL25
import Derived.Test.YtdcedfciaaooiabPA26
import Derived.Test.YtdcedfciaaooiabP26
import Derived.Test.YtdcedfciaaooiabK25
import Derived.Test.YtdcedfciaaooiabH26
import Derived.Test.YtdcedfciaaooiabN25
set_option linter.unusedVariables false
namespace Go.Proofs.Ytdcedfciaaooiab
open Go.RowKit

theorem keepW {W : World} {g1 g2 g3 : Nat} {ps qs : Array Value} {a b c0 c1 : Value} {t t2 : TypeId} (h1 : Blk W g1 ps t) (h2 : Blk W g2 qs t) (h3 : Blk W g3 #[c0, c1] t2) (ea : ps[1]? = some a) (eb : qs[0]? = some b) : (W.cell? ⟨g1, 1, none⟩ = some a ∧ W.cell? ⟨g2, 0, none⟩ = some b) ∧ (W.cell? ⟨g3, 0, none⟩ = some c0 ∧ W.cell? ⟨g3, 1, none⟩ = some c1) := ⟨⟨(h1.cell 1).trans ea, (h2.cell 0).trans eb⟩, h3.cell 0, h3.cell 1⟩
theorem keepK {W : World} {g : Nat} {a : Value} (h : Blk W g #[a] 3) : W.cell? ⟨g, 0, none⟩ = some a := h.cell 0
theorem withL_names (xs : List Dim) (p : Nat) (l : Lim) (i : Nat) : ((withL xs p l).getD i zeroD).frm = (xs.getD i zeroD).frm ∧ ((withL xs p l).getD i zeroD).to = (xs.getD i zeroD).to ∧ ((withL xs p l).getD i zeroD).axis = (xs.getD i zeroD).axis := by
  by_cases e : p = i
  · subst e
    by_cases hp : p < xs.length
    · rw [withL_at hp]; exact ⟨rfl, rfl, rfl⟩
    · rw [withL, List.set_eq_of_length_le (by omega)]; exact ⟨rfl, rfl, rfl⟩
  · rw [withL_ne e]; exact ⟨rfl, rfl, rfl⟩
theorem begin_with (xs : List Dim) (p : Nat) (l : Lim) (x : Lk) : beginS (withL xs p l) x = beginS xs x := by
  obtain ⟨h1, h2, -⟩ := withL_names xs p l x.dim.toNat
  unfold beginS
  rw [h1, h2]
theorem stop_with (xs : List Dim) (p : Nat) (l : Lim) (x : Lk) : stopS (withL xs p l) x = stopS xs x := by
  obtain ⟨h1, h2, -⟩ := withL_names xs p l x.dim.toNat
  unfold stopS
  rw [h1, h2]
theorem axis_with (xs : List Dim) (p : Nat) (l : Lim) (x : Lk) : axisK (withL xs p l) x = axisK xs x := (withL_names xs p l x.dim.toNat).2.2
theorem CH.with_ {xs : List Dim} {cs : List Lk} (h : CH xs cs) (p : Nat) (l : Lim) : CH (withL xs p l) cs := by
  refine ⟨fun j hj => ?_, fun i j hi hj => ?_, fun j hj => ?_, fun i j hi hj => h.once i j hi hj, fun i j h0 hi hj => ?_, fun j hj => ?_⟩
  · rw [withL_len]; exact h.rng j hj
  · rw [axis_with, axis_with]; exact h.axis i j hi hj
  · rw [begin_with, stop_with]; exact h.next j hj
  · rw [begin_with, stop_with]; exact h.inner i j h0 hi hj
  · rw [begin_with, stop_with]; exact h.shut j hj
theorem chk_ok {a b : Int} (h : -100000 ≤ a ∧ a ≤ b ∧ b ≤ 100000) : chk a b = 0 := by
  unfold chk inR
  rw [if_pos (by simp; omega), if_pos h.2.1]
theorem valid_with {xs : List Dim} (hg : givenE xs = 0) (p : Nat) (l : Lim) (hl : -100000 ≤ l.lo ∧ l.lo ≤ l.hi ∧ l.hi ≤ 100000) : givenE (withL xs p l) = 0 := by
  have hn : ¬ 256 < xs.length := by
    intro h1
    rw [givenE, if_pos h1] at hg
    omega
  rw [givenE_few rfl hn] at hg
  rw [givenE_few rfl (by rw [withL_len]; exact hn)]
  refine allE_none rfl (fun j hj => ?_)
  rw [withL_len] at hj
  have hv : validE (xs.getD j zeroD) = 0 := by
    refine firstE_all _ hg _ (List.mem_map.2 ⟨xs.getD j zeroD, ?_, rfl⟩)
    rw [List.getD_eq_getElem?_getD, List.getElem?_eq_getElem hj, Option.getD_some]
    exact List.getElem_mem _
  by_cases e : p = j
  · subst e
    rw [withL_at hj]
    obtain ⟨h1, h2, h3, -⟩ := validE_zero hv
    have h4 : midE { xs.getD p zeroD with lo := l.lo, hi := l.hi } = 0 := h3
    unfold validE
    simp only [firstE, h1, h2, h4, chk_ok hl, if_true]
  · rw [withL_ne e]; exact hv
theorem task_with {xs : List Dim} {cs : List Lk} {lo hi : Int} (h : taskE xs cs lo hi = 0) (p : Nat) (l : Lim) (hl : -100000 ≤ l.lo ∧ l.lo ≤ l.hi ∧ l.hi ≤ 100000) : taskE (withL xs p l) cs lo hi = 0 := by
  obtain ⟨hg, hc, h0, h1⟩ := check_parts (taskE_zero h).1
  have := check_mk (valid_with hg p l hl) (hc.with_ p l) h0 h1
  unfold taskE
  rw [if_neg (by simpa using this)]
  exact (taskE_zero h).2
set_option maxRecDepth 20000 in
set_option maxHeartbeats 4000000 in
theorem keeps1_low (A B : Option Addr) (n m c c2 : Nat) (xs : List Dim) (cs : List Lk) (lo hi : Int) (l : Lim) (k gt gk : Nat) (w : World) (hx : Dims w A n xs) (hk : Lnks w B m cs) (bT0 : Blk w gt #[.slice A n c, .slice B m c2, .int .i64 lo, .int .i64 hi] 27) (bK0 : Blk w gk #[.int .i64 (k : Int)] 3) (h : taskE xs cs lo hi = 0) (hkm : k < m) (hl : -100000 ≤ l.lo ∧ l.lo ≤ l.hi ∧ l.hi ≤ 100000) (hcond : endS 1 (withL xs (cs.getD k zeroK).dim.toNat l) cs < lo ∨ hi < endS 1 (withL xs (cs.getD k zeroK).dim.toNat l) cs) :
    Calls Try.prog 33 #[.agg #[.int .i64 l.lo, .int .i64 l.hi], .pointer (some ⟨gt, 0, none⟩), .pointer (some ⟨gk, 0, none⟩)] w (Ret (.tuple #[.bool false, .bool true]) w) := by
  have hrt := rt_of hx.len hk.len (taskE_zero h).1
  have hn0 : 0 < n := by have := hrt.mem 0 hrt.m0; omega
  have hxl := hx.len
  have hm256 := hrt.m256
  have hn256 := hrt.n256
  have hmem := hrt.mem k hkm
  have hfk := hrt.fine k hkm
  have HTE : Hid (taskE (withL xs (cs.getD k zeroK).dim.toNat l) cs lo hi = 0) := Lib.hid (task_with h _ l hl)
  have hrt2 := rt_with hrt (cs.getD k zeroK).dim.toNat l hl
  have HFT : Hid (∀ j, j < n → ((withL xs (cs.getD k zeroK).dim.toNat l).getD j zeroD).fits) := Lib.hid (fun j hj => by
    by_cases e : (cs.getD k zeroK).dim.toNat = j
    · subst e
      rw [withL_at (by rw [hxl]; exact hj)]
      exact hx.fit _ hj
    · rw [withL_ne e]; exact hx.fit _ hj)
  have HP0 := Lib.hid (ext_part hrt2 false)
  have HPE := Lib.hid (part_ext hrt2 false)
  have HT0 := Lib.hid (total_end hrt2 false)
  have HSM : Hid (∀ vs, PartOf n (withL xs (cs.getD k zeroK).dim.toNat l) vs → ∀ i, i < n → -100000 ≤ vs.getD i 0 ∧ vs.getD i 0 ≤ 100000) := Lib.hid (fun vs hp => hp.small hrt2)
  have HMEM := Lib.hid (fun j (hj : j < m) => (by have h1 := (hrt.fine j hj).1; have h2 := hrt.mem j hj; omega : 0 ≤ (cs.getD j zeroK).dim ∧ (cs.getD j zeroK).dim < (n : Int)))
  have HCE := Lib.hid (taskE_zero HTE.out).1
  obtain ⟨bA, oA, rfl, hcA⟩ := hx.at_ hn0
  obtain ⟨bB, oB, rfl, hcB⟩ := hk.at_ hrt.m0
  have HX := Lib.hid hx
  have HK := Lib.hid hk
  have HCA := Lib.hid hcA
  have HCB := Lib.hid hcB
  have HC := Lib.hid hcond
  obtain ⟨p, hpd⟩ := Int.eq_ofNat_of_zero_le hfk.1
  have hp : p < n := by omega
  obtain ⟨y, hy⟩ : ∃ y, cs.getD k zeroK = y := ⟨_, rfl⟩
  have hp2 : (cs.getD k zeroK).dim.toNat = p := by omega
  rw [hp2] at HTE HFT HC HP0 HPE HT0 HSM HCE
  rw [hy] at hpd
  have HY := Lib.hid hy
  have HPD := Lib.hid hpd
  obtain ⟨d, hd⟩ : ∃ d, xs.getD p zeroD = d := ⟨_, rfl⟩
  have HD := Lib.hid hd
  have hpn : (p : Int) < (n : Int) := by omega
  have hkn : (k : Int) < (m : Int) := by omega
  have HB0 := Lib.hid bT0
  have HK0 := Lib.hid bK0
  have hgtl := bT0.lt
  have hgkl := bK0.lt
  clear hx hk hcA hcB hy hpd hd hfk hmem hrt hrt2 h hcond hp2
  have P : Blk w (gt) #[.slice (some ⟨bA, oA, none⟩) n c, .slice (some ⟨bB, oB, none⟩) m c2, .int .i64 lo, .int .i64 hi] 27 := by (repeat (first | (with_reducible assumption) | ((with_reducible apply Blk.new_at); focus (first | (simp; done) | (simp; omega))) | with_reducible apply Blk.alloc | with_reducible apply Blk.drew | with_reducible apply Blk.drewN | with_reducible apply Blk.set | ((with_reducible apply Blk.far); case hp => (first | (simp; done) | (dsimp only; omega))) | ((with_reducible apply Blk.ext); case he => with_reducible assumption)))
  have P0 := P.cell 0
  have P1 := P.cell 1
  have P2 := P.cell 2
  have P3 := P.cell 3
  simp at P0 P1 P2 P3
  have Pl := P.lt
  go_enter Try.func33, Try.ntmps33
  go_wp2_with fail
  refine (clone_any (some ⟨bA, oA, none⟩) n c xs _ (HX.out.ext (by (repeat (first | (with_reducible assumption) | with_reducible exact Ext.refl _ | with_reducible apply Ext.alloc | with_reducible apply Ext.drew | with_reducible apply Ext.drewN | ((with_reducible apply Ext.set); case hp => (first | (simp; done) | (dsimp only; omega) | omega)) | ((with_reducible apply Ext.trans); case k => with_reducible assumption))))) hn0 (by omega)).mono ?_
  rintro e w3 ⟨g, cap, cur, rfl, DR3, h3⟩
  have hs3 := Ext.size h3
  simp only [World.size_alloc] at hs3
  simp only [World.size_alloc] at DR3
  have hRg := DR3.ge
  have hRl := DR3.lt
  have Q : Blk w3 (gt) #[.slice (some ⟨bA, oA, none⟩) n c, .slice (some ⟨bB, oB, none⟩) m c2, .int .i64 lo, .int .i64 hi] 27 := by (repeat (first | (with_reducible assumption) | ((with_reducible apply Blk.new_at); focus (first | (simp; done) | (simp; omega))) | with_reducible apply Blk.alloc | with_reducible apply Blk.drew | with_reducible apply Blk.drewN | with_reducible apply Blk.set | ((with_reducible apply Blk.far); case hp => (first | (simp; done) | (dsimp only; omega))) | ((with_reducible apply Blk.ext); case he => with_reducible assumption)))
  have Q0 := Q.cell 0
  have Q1 := Q.cell 1
  have Q2 := Q.cell 2
  have Q3 := Q.cell 3
  simp at Q0 Q1 Q2 Q3
  have Ql := Q.lt
  have R : Blk w3 (w.heap.size + 1) #[.slice (some ⟨bA, oA, none⟩) n c, .slice (some ⟨bB, oB, none⟩) m c2, .int .i64 lo, .int .i64 hi] 27 := by (repeat (first | (with_reducible assumption) | ((with_reducible apply Blk.new_at); focus (first | (simp; done) | (simp; omega))) | with_reducible apply Blk.alloc | with_reducible apply Blk.drew | with_reducible apply Blk.drewN | with_reducible apply Blk.set | ((with_reducible apply Blk.far); case hp => (first | (simp; done) | (dsimp only; omega))) | ((with_reducible apply Blk.ext); case he => with_reducible assumption)))
  have R0 := R.cell 0
  have R1 := R.cell 1
  have R2 := R.cell 2
  have R3 := R.cell 3
  simp at R0 R1 R2 R3
  have Rl := R.lt
  have RF := R.frozen 0
  have hLb : Blk w3 w.heap.size #[.int .i64 l.lo, .int .i64 l.hi] 25 := by (repeat (first | (with_reducible assumption) | ((with_reducible apply Blk.new_at); focus (first | (simp; done) | (simp; omega))) | with_reducible apply Blk.alloc | with_reducible apply Blk.drew | with_reducible apply Blk.drewN | with_reducible apply Blk.set | ((with_reducible apply Blk.far); case hp => (first | (simp; done) | (dsimp only; omega))) | ((with_reducible apply Blk.ext); case he => with_reducible assumption)))
  obtain ⟨L1, L2, L3, L4⟩ := hLb.c2
  have hKb : Blk w3 gk #[.int .i64 (k : Int)] 3 := HK0.out.ext (by (repeat (first | (with_reducible assumption) | with_reducible exact Ext.refl _ | with_reducible apply Ext.alloc | with_reducible apply Ext.drew | with_reducible apply Ext.drewN | ((with_reducible apply Ext.set); case hp => (first | (simp; done) | (dsimp only; omega) | omega)) | ((with_reducible apply Ext.trans); case k => with_reducible assumption))))
  have K1 := hKb.cell 0
  simp at K1
  have hE3 : Ext w w3 := by (repeat (first | (with_reducible assumption) | with_reducible exact Ext.refl _ | with_reducible apply Ext.alloc | with_reducible apply Ext.drew | with_reducible apply Ext.drewN | ((with_reducible apply Ext.set); case hp => (first | (simp; done) | (dsimp only; omega) | omega)) | ((with_reducible apply Ext.trans); case k => with_reducible assumption)))
  obtain ⟨k1, -⟩ := Lnks.cells HCB.out hE3 k hkm y HY.out
  rw [HPD.out] at k1
  have hbl2 : bB < w3.heap.size := World.block_lt_of_cell? w3 _ k1
  obtain ⟨⟨r1, r2⟩, r3, r4⟩   := DR3.cells hp d HD.out
  have HR3 := Lib.hid DR3
  clear DR3 P P0 P1 P2 P3
  go_upto_region 3 with fail
  obtain ⟨W4, hW4⟩ : ∃ W4, w3.setCell ⟨w.heap.size + 1, 0, none⟩ (.slice (some ⟨g, 0, none⟩) n cap) = W4 := ⟨_, rfl⟩
  rw [hW4]
  have bX4 : Blk W4 (w.heap.size + 1) #[.slice (some ⟨g, 0, none⟩) n cap, .slice (some ⟨bB, oB, none⟩) m c2, .int .i64 lo, .int .i64 hi] 27 := by rw [← hW4]; (apply Blk.is; (case h => (repeat (first | (with_reducible assumption) | ((with_reducible apply Blk.new_at); focus (first | (simp; done) | (simp; omega))) | with_reducible apply Blk.alloc | with_reducible apply Blk.drew | with_reducible apply Blk.drewN | with_reducible apply Blk.set | ((with_reducible apply Blk.far); case hp => (first | (simp; done) | (dsimp only; omega))) | ((with_reducible apply Blk.ext); case he => with_reducible assumption)))); all_goals rfl)
  have bT4 : Blk W4 gt #[.slice (some ⟨bA, oA, none⟩) n c, .slice (some ⟨bB, oB, none⟩) m c2, .int .i64 lo, .int .i64 hi] 27 := by rw [← hW4]; (repeat (first | (with_reducible assumption) | ((with_reducible apply Blk.new_at); focus (first | (simp; done) | (simp; omega))) | with_reducible apply Blk.alloc | with_reducible apply Blk.drew | with_reducible apply Blk.drewN | with_reducible apply Blk.set | ((with_reducible apply Blk.far); case hp => (first | (simp; done) | (dsimp only; omega))) | ((with_reducible apply Blk.ext); case he => with_reducible assumption)))
  have bL4 : Blk W4 w.heap.size #[.int .i64 l.lo, .int .i64 l.hi] 25 := by rw [← hW4]; (repeat (first | (with_reducible assumption) | ((with_reducible apply Blk.new_at); focus (first | (simp; done) | (simp; omega))) | with_reducible apply Blk.alloc | with_reducible apply Blk.drew | with_reducible apply Blk.drewN | with_reducible apply Blk.set | ((with_reducible apply Blk.far); case hp => (first | (simp; done) | (dsimp only; omega))) | ((with_reducible apply Blk.ext); case he => with_reducible assumption)))
  have bK4 : Blk W4 gk #[.int .i64 (k : Int)] 3 := by rw [← hW4]; (repeat (first | (with_reducible assumption) | ((with_reducible apply Blk.new_at); focus (first | (simp; done) | (simp; omega))) | with_reducible apply Blk.alloc | with_reducible apply Blk.drew | with_reducible apply Blk.drewN | with_reducible apply Blk.set | ((with_reducible apply Blk.far); case hp => (first | (simp; done) | (dsimp only; omega))) | ((with_reducible apply Blk.ext); case he => with_reducible assumption)))
  have hE4 : Ext w W4 := by rw [← hW4]; (repeat (first | (with_reducible assumption) | with_reducible exact Ext.refl _ | with_reducible apply Ext.alloc | with_reducible apply Ext.drew | with_reducible apply Ext.drewN | ((with_reducible apply Ext.set); case hp => (first | (simp; done) | (dsimp only; omega) | omega)) | ((with_reducible apply Ext.trans); case k => with_reducible assumption)))
  have R4 : DRow W4 (w.heap.size + 1 + 1) g n cur xs := by rw [← hW4]; refine DRow.far HR3.out ?_ _; show g ≠ w.heap.size + 1; omega
  clear hW4 RF Q Q0 Q1 Q2 Q3 Ql R R0 R1 R2 R3 Rl hLb L1 L2 L3 L4 hKb K1 r1 r2 r3 r4 k1
  obtain ⟨⟨r1, r2⟩, r3, r4⟩ := R4.cells hp d HD.out
  have HR4 := Lib.hid R4
  have hgl := R4.lt
  clear R4
  have e1 := bX4.lt
  have e2 := bT4.lt
  have e3 := bL4.lt
  have e4 := bK4.lt
  have k1 := (Lnks.cells HCB.out hE4 k hkm y HY.out).1
  rw [HPD.out] at k1
  have hbl3 : bB < W4.heap.size := World.block_lt_of_cell? W4 _ k1
  go_region_held3 (fun W => ((W.cell? ⟨gt, 1, none⟩ = some (.slice (some ⟨bB, oB, none⟩) m c2) ∧ W.cell? ⟨w.heap.size + 1, 0, none⟩ = some (.slice (some ⟨g, 0, none⟩) n cap)) ∧ (W.cell? ⟨w.heap.size, 0, none⟩ = some (.int .i64 l.lo) ∧ W.cell? ⟨w.heap.size, 1, none⟩ = some (.int .i64 l.hi))) ∧ W.cell? ⟨gk, 0, none⟩ = some (.int .i64 (k : Int)) ∧ W.cell? ⟨bB, oB + k * 2, none⟩ = some (.int .i64 (p : Int)))
    (first | (refine ⟨keepW (t := 27) (t2 := 25) (ps := #[.slice (some ⟨bA, oA, none⟩) n c, .slice (some ⟨bB, oB, none⟩) m c2, .int .i64 lo, .int .i64 hi]) (qs := #[.slice (some ⟨g, 0, none⟩) n cap, .slice (some ⟨bB, oB, none⟩) m c2, .int .i64 lo, .int .i64 hi]) ?_ ?_ ?_ (by rfl) (by rfl), keepK ?_, ?_⟩; (focus ((repeat (first | (with_reducible assumption) | ((with_reducible apply Blk.new_at); focus (first | (simp; done) | (simp; omega))) | with_reducible apply Blk.alloc | with_reducible apply Blk.drew | with_reducible apply Blk.drewN | with_reducible apply Blk.set | ((with_reducible apply Blk.far); case hp => (first | (simp; done) | (dsimp only; omega))) | ((with_reducible apply Blk.ext); case he => with_reducible assumption))); done)); (focus ((repeat (first | (with_reducible assumption) | ((with_reducible apply Blk.new_at); focus (first | (simp; done) | (simp; omega))) | with_reducible apply Blk.alloc | with_reducible apply Blk.drew | with_reducible apply Blk.drewN | with_reducible apply Blk.set | ((with_reducible apply Blk.far); case hp => (first | (simp; done) | (dsimp only; omega))) | ((with_reducible apply Blk.ext); case he => with_reducible assumption))); done)); (focus ((repeat (first | (with_reducible assumption) | ((with_reducible apply Blk.new_at); focus (first | (simp; done) | (simp; omega))) | with_reducible apply Blk.alloc | with_reducible apply Blk.drew | with_reducible apply Blk.drewN | with_reducible apply Blk.set | ((with_reducible apply Blk.far); case hp => (first | (simp; done) | (dsimp only; omega))) | ((with_reducible apply Blk.ext); case he => with_reducible assumption))); done)); (focus ((repeat (first | (with_reducible assumption) | ((with_reducible apply Blk.new_at); focus (first | (simp; done) | (simp; omega))) | with_reducible apply Blk.alloc | with_reducible apply Blk.drew | with_reducible apply Blk.drewN | with_reducible apply Blk.set | ((with_reducible apply Blk.far); case hp => (first | (simp; done) | (dsimp only; omega))) | ((with_reducible apply Blk.ext); case he => with_reducible assumption))); done)); (focus (exact HPD.out ▸ (Lnks.cells HCB.out (by (repeat (first | (with_reducible assumption) | with_reducible exact Ext.refl _ | with_reducible apply Ext.alloc | with_reducible apply Ext.drew | with_reducible apply Ext.drewN | ((with_reducible apply Ext.set); case hp => (first | (simp; done) | (dsimp only; omega) | omega)) | ((with_reducible apply Ext.trans); case k => with_reducible assumption)))) k hkm y HY.out).1)))) (fail)
  obtain ⟨W5, hW5⟩ : ∃ W5, ((W4.setCell { block := g, off := p * 5 + 3 } (.int .i64 l.lo)).setCell { block := g, off := p * 5 + 3 + 1 } (.int .i64 l.hi)).drew = W5 := ⟨_, rfl⟩
  have d1 := HR4.out.putL hp l
  obtain ⟨cur5, d2⟩ : ∃ c5, DRow W5 (w.heap.size + 1 + 1) g n c5 (withL xs p l) := ⟨_, by rw [← hW5]; exact d1⟩
  have hD5 := Lib.hid (d2.dims (by omega) HFT.out)
  have bX5 : Blk W5 (w.heap.size + 1) #[.slice (some ⟨g, 0, none⟩) n cap, .slice (some ⟨bB, oB, none⟩) m c2, .int .i64 lo, .int .i64 hi] 27 := by rw [← hW5]; (repeat (first | (with_reducible assumption) | ((with_reducible apply Blk.new_at); focus (first | (simp; done) | (simp; omega))) | with_reducible apply Blk.alloc | with_reducible apply Blk.drew | with_reducible apply Blk.drewN | with_reducible apply Blk.set | ((with_reducible apply Blk.far); case hp => (first | (simp; done) | (dsimp only; omega))) | ((with_reducible apply Blk.ext); case he => with_reducible assumption)))
  have bT5 : Blk W5 gt #[.slice (some ⟨bA, oA, none⟩) n c, .slice (some ⟨bB, oB, none⟩) m c2, .int .i64 lo, .int .i64 hi] 27 := by rw [← hW5]; (repeat (first | (with_reducible assumption) | ((with_reducible apply Blk.new_at); focus (first | (simp; done) | (simp; omega))) | with_reducible apply Blk.alloc | with_reducible apply Blk.drew | with_reducible apply Blk.drewN | with_reducible apply Blk.set | ((with_reducible apply Blk.far); case hp => (first | (simp; done) | (dsimp only; omega))) | ((with_reducible apply Blk.ext); case he => with_reducible assumption)))
  have hE5 : Ext w W5 := by rw [← hW5]; (repeat (first | (with_reducible assumption) | with_reducible exact Ext.refl _ | with_reducible apply Ext.alloc | with_reducible apply Ext.drew | with_reducible apply Ext.drewN | ((with_reducible apply Ext.set); case hp => (first | (simp; done) | (dsimp only; omega) | omega)) | ((with_reducible apply Ext.trans); case k => with_reducible assumption)))
  rw [hW5]
  clear hW5 d1 d2 bX4 bT4 bL4 bK4 e1 e2 e3 e4 r1 r2 r3 r4 hE4
  have Z : Blk W5 (w.heap.size + 1) #[.slice (some ⟨g, 0, none⟩) n cap, .slice (some ⟨bB, oB, none⟩) m c2, .int .i64 lo, .int .i64 hi] 27 := by (repeat (first | (with_reducible assumption) | ((with_reducible apply Blk.new_at); focus (first | (simp; done) | (simp; omega))) | with_reducible apply Blk.alloc | with_reducible apply Blk.drew | with_reducible apply Blk.drewN | with_reducible apply Blk.set | ((with_reducible apply Blk.far); case hp => (first | (simp; done) | (dsimp only; omega))) | ((with_reducible apply Blk.ext); case he => with_reducible assumption)))
  have Z0 := Z.cell 0
  have Z1 := Z.cell 1
  have Z2 := Z.cell 2
  have Z3 := Z.cell 3
  simp at Z0 Z1 Z2 Z3
  have Zl := Z.lt
  go_wp2_with fail
  refine (skeeps_low (some ⟨g, 0, none⟩) (some ⟨bB, oB, none⟩) n m cap c2 (withL xs p l) cs lo hi _ (hD5.out.ext (by (repeat (first | (with_reducible assumption) | with_reducible exact Ext.refl _ | with_reducible apply Ext.alloc | with_reducible apply Ext.drew | with_reducible apply Ext.drewN | ((with_reducible apply Ext.set); case hp => (first | (simp; done) | (dsimp only; omega) | omega)) | ((with_reducible apply Ext.trans); case k => with_reducible assumption))))) (HK.out.ext (by (repeat (first | (with_reducible assumption) | with_reducible exact Ext.refl _ | with_reducible apply Ext.alloc | with_reducible apply Ext.drew | with_reducible apply Ext.drewN | ((with_reducible apply Ext.set); case hp => (first | (simp; done) | (dsimp only; omega) | omega)) | ((with_reducible apply Ext.trans); case k => with_reducible assumption))))) HTE.out HC.out).mono ?_
  rintro e w6 ⟨g6, cap6, cur6, rfl, I6, h6⟩
  have J6 := I6.ints (by omega)
  rw [show atE false (withL xs p l) cs = extL false (withL xs p l) cs from HPE.out] at J6
  have HJ6 := Lib.hid J6
  clear I6 J6
  have Y : Blk w6 (w.heap.size + 1) #[.slice (some ⟨g, 0, none⟩) n cap, .slice (some ⟨bB, oB, none⟩) m c2, .int .i64 lo, .int .i64 hi] 27 := by (repeat (first | (with_reducible assumption) | ((with_reducible apply Blk.new_at); focus (first | (simp; done) | (simp; omega))) | with_reducible apply Blk.alloc | with_reducible apply Blk.drew | with_reducible apply Blk.drewN | with_reducible apply Blk.set | ((with_reducible apply Blk.far); case hp => (first | (simp; done) | (dsimp only; omega))) | ((with_reducible apply Blk.ext); case he => with_reducible assumption)))
  have Y0 := Y.cell 0
  have Y1 := Y.cell 1
  have Y2 := Y.cell 2
  have Y3 := Y.cell 3
  simp at Y0 Y1 Y2 Y3
  have Yl := Y.lt
  have V : Blk w6 (gt) #[.slice (some ⟨bA, oA, none⟩) n c, .slice (some ⟨bB, oB, none⟩) m c2, .int .i64 lo, .int .i64 hi] 27 := by (repeat (first | (with_reducible assumption) | ((with_reducible apply Blk.new_at); focus (first | (simp; done) | (simp; omega))) | with_reducible apply Blk.alloc | with_reducible apply Blk.drew | with_reducible apply Blk.drewN | with_reducible apply Blk.set | ((with_reducible apply Blk.far); case hp => (first | (simp; done) | (dsimp only; omega))) | ((with_reducible apply Blk.ext); case he => with_reducible assumption)))
  have V0 := V.cell 0
  have V1 := V.cell 1
  have V2 := V.cell 2
  have V3 := V.cell 3
  simp at V0 V1 V2 V3
  have Vl := V.lt
  go_wp2_with fail; refine (within_ok (some ⟨g, 0, none⟩) (some ⟨bB, oB, none⟩) _ n m cap c2 cap6 (withL xs p l) lo hi _ _ (hD5.out.ext (by (repeat (first | (with_reducible assumption) | with_reducible exact Ext.refl _ | with_reducible apply Ext.alloc | with_reducible apply Ext.drew | with_reducible apply Ext.drewN | ((with_reducible apply Ext.set); case hp => (first | (simp; done) | (dsimp only; omega) | omega)) | ((with_reducible apply Ext.trans); case k => with_reducible assumption))))) (HJ6.out.ext (by (repeat (first | (with_reducible assumption) | with_reducible exact Ext.refl _ | with_reducible apply Ext.alloc | with_reducible apply Ext.drew | with_reducible apply Ext.drewN | ((with_reducible apply Ext.set); case hp => (first | (simp; done) | (dsimp only; omega) | omega)) | ((with_reducible apply Ext.trans); case k => with_reducible assumption))))) HP0.out).mono ?_; rintro e w7 ⟨rfl, h7⟩
  have U : Blk w7 (w.heap.size + 1) #[.slice (some ⟨g, 0, none⟩) n cap, .slice (some ⟨bB, oB, none⟩) m c2, .int .i64 lo, .int .i64 hi] 27 := by (repeat (first | (with_reducible assumption) | ((with_reducible apply Blk.new_at); focus (first | (simp; done) | (simp; omega))) | with_reducible apply Blk.alloc | with_reducible apply Blk.drew | with_reducible apply Blk.drewN | with_reducible apply Blk.set | ((with_reducible apply Blk.far); case hp => (first | (simp; done) | (dsimp only; omega))) | ((with_reducible apply Blk.ext); case he => with_reducible assumption)))
  have U0 := U.cell 0
  have U1 := U.cell 1
  have U2 := U.cell 2
  have U3 := U.cell 3
  simp at U0 U1 U2 U3
  have Ul := U.lt
  have S : Blk w7 (gt) #[.slice (some ⟨bA, oA, none⟩) n c, .slice (some ⟨bB, oB, none⟩) m c2, .int .i64 lo, .int .i64 hi] 27 := by (repeat (first | (with_reducible assumption) | ((with_reducible apply Blk.new_at); focus (first | (simp; done) | (simp; omega))) | with_reducible apply Blk.alloc | with_reducible apply Blk.drew | with_reducible apply Blk.drewN | with_reducible apply Blk.set | ((with_reducible apply Blk.far); case hp => (first | (simp; done) | (dsimp only; omega))) | ((with_reducible apply Blk.ext); case he => with_reducible assumption)))
  have S0 := S.cell 0
  have S1 := S.cell 1
  have S2 := S.cell 2
  have S3 := S.cell 3
  simp at S0 S1 S2 S3
  have Sl := S.lt
  go_wp2_with fail; refine (lsum_ok (some ⟨g, 0, none⟩) (some ⟨bB, oB, none⟩) _ n m cap c2 cap6 (withL xs p l) cs _ _ (hD5.out.ext (by (repeat (first | (with_reducible assumption) | with_reducible exact Ext.refl _ | with_reducible apply Ext.alloc | with_reducible apply Ext.drew | with_reducible apply Ext.drewN | ((with_reducible apply Ext.set); case hp => (first | (simp; done) | (dsimp only; omega) | omega)) | ((with_reducible apply Ext.trans); case k => with_reducible assumption))))) (HK.out.ext (by (repeat (first | (with_reducible assumption) | with_reducible exact Ext.refl _ | with_reducible apply Ext.alloc | with_reducible apply Ext.drew | with_reducible apply Ext.drewN | ((with_reducible apply Ext.set); case hp => (first | (simp; done) | (dsimp only; omega) | omega)) | ((with_reducible apply Ext.trans); case k => with_reducible assumption))))) (HJ6.out.ext (by (repeat (first | (with_reducible assumption) | with_reducible exact Ext.refl _ | with_reducible apply Ext.alloc | with_reducible apply Ext.drew | with_reducible apply Ext.drewN | ((with_reducible apply Ext.set); case hp => (first | (simp; done) | (dsimp only; omega) | omega)) | ((with_reducible apply Ext.trans); case k => with_reducible assumption))))) HCE.out hm256 HMEM.out (HSM.out _ HP0.out)).mono ?_; rintro e w8 ⟨rfl, h8⟩
  rw [HT0.out]
  have hC := HC.out
  obtain ⟨z, hz⟩ : ∃ z, endS (signT false) (withL xs p l) cs = z := ⟨_, rfl⟩
  rw [hz]
  rw [show endS 1 (withL xs p l) cs = z from hz] at hC
  have hno : (decide (lo ≤ z) = false) ∨ (decide (lo ≤ z) = true ∧ decide (z ≤ hi) = false) := by
    by_cases hq : lo ≤ z
    · exact .inr ⟨by simpa using hq, by simp; omega⟩
    · exact .inl (by simpa using hq)
  clear hC hz
  have Q : Blk w8 (gt) #[.slice (some ⟨bA, oA, none⟩) n c, .slice (some ⟨bB, oB, none⟩) m c2, .int .i64 lo, .int .i64 hi] 27 := by (repeat (first | (with_reducible assumption) | ((with_reducible apply Blk.new_at); focus (first | (simp; done) | (simp; omega))) | with_reducible apply Blk.alloc | with_reducible apply Blk.drew | with_reducible apply Blk.drewN | with_reducible apply Blk.set | ((with_reducible apply Blk.far); case hp => (first | (simp; done) | (dsimp only; omega))) | ((with_reducible apply Blk.ext); case he => with_reducible assumption)))
  have Q0 := Q.cell 0
  have Q1 := Q.cell 1
  have Q2 := Q.cell 2
  have Q3 := Q.cell 3
  simp at Q0 Q1 Q2 Q3
  have Ql := Q.lt
  rcases hno with hq1 | ⟨hq1, hq2⟩
  all_goals
    go_wp2_with fail
    go_ret2
    exact Ret.mk' rfl (by (repeat (first | (with_reducible assumption) | with_reducible exact Ext.refl _ | with_reducible apply Ext.alloc | with_reducible apply Ext.drew | with_reducible apply Ext.drewN | ((with_reducible apply Ext.set); case hp => (first | (simp; done) | (dsimp only; omega) | omega)) | ((with_reducible apply Ext.trans); case k => with_reducible assumption))))
set_option maxRecDepth 20000 in
set_option maxHeartbeats 4000000 in
theorem keeps1_high (A B : Option Addr) (n m c c2 : Nat) (xs : List Dim) (cs : List Lk) (lo hi : Int) (l : Lim) (k gt gk : Nat) (w : World) (hx : Dims w A n xs) (hk : Lnks w B m cs) (bT0 : Blk w gt #[.slice A n c, .slice B m c2, .int .i64 lo, .int .i64 hi] 27) (bK0 : Blk w gk #[.int .i64 (k : Int)] 3) (h : taskE xs cs lo hi = 0) (hkm : k < m) (hl : -100000 ≤ l.lo ∧ l.lo ≤ l.hi ∧ l.hi ≤ 100000) (hcond : (lo ≤ endS 1 (withL xs (cs.getD k zeroK).dim.toNat l) cs ∧ endS 1 (withL xs (cs.getD k zeroK).dim.toNat l) cs ≤ hi) ∧ (endS (-1) (withL xs (cs.getD k zeroK).dim.toNat l) cs < lo ∨ hi < endS (-1) (withL xs (cs.getD k zeroK).dim.toNat l) cs)) :
    Calls Try.prog 33 #[.agg #[.int .i64 l.lo, .int .i64 l.hi], .pointer (some ⟨gt, 0, none⟩), .pointer (some ⟨gk, 0, none⟩)] w (Ret (.tuple #[.bool false, .bool true]) w) := by
  have hrt := rt_of hx.len hk.len (taskE_zero h).1
  have hn0 : 0 < n := by have := hrt.mem 0 hrt.m0; omega
  have hxl := hx.len
  have hm256 := hrt.m256
  have hn256 := hrt.n256
  have hmem := hrt.mem k hkm
  have hfk := hrt.fine k hkm
  have HTE : Hid (taskE (withL xs (cs.getD k zeroK).dim.toNat l) cs lo hi = 0) := Lib.hid (task_with h _ l hl)
  have hrt2 := rt_with hrt (cs.getD k zeroK).dim.toNat l hl
  have HFT : Hid (∀ j, j < n → ((withL xs (cs.getD k zeroK).dim.toNat l).getD j zeroD).fits) := Lib.hid (fun j hj => by
    by_cases e : (cs.getD k zeroK).dim.toNat = j
    · subst e
      rw [withL_at (by rw [hxl]; exact hj)]
      exact hx.fit _ hj
    · rw [withL_ne e]; exact hx.fit _ hj)
  have HP0 := Lib.hid (ext_part hrt2 true)
  have HPE := Lib.hid (part_ext hrt2 true)
  have HT0 := Lib.hid (total_end hrt2 true)
  have HSM : Hid (∀ vs, PartOf n (withL xs (cs.getD k zeroK).dim.toNat l) vs → ∀ i, i < n → -100000 ≤ vs.getD i 0 ∧ vs.getD i 0 ≤ 100000) := Lib.hid (fun vs hp => hp.small hrt2)
  have HMEM := Lib.hid (fun j (hj : j < m) => (by have h1 := (hrt.fine j hj).1; have h2 := hrt.mem j hj; omega : 0 ≤ (cs.getD j zeroK).dim ∧ (cs.getD j zeroK).dim < (n : Int)))
  have HCE := Lib.hid (taskE_zero HTE.out).1
  obtain ⟨bA, oA, rfl, hcA⟩ := hx.at_ hn0
  obtain ⟨bB, oB, rfl, hcB⟩ := hk.at_ hrt.m0
  have HX := Lib.hid hx
  have HK := Lib.hid hk
  have HCA := Lib.hid hcA
  have HCB := Lib.hid hcB
  have HC := Lib.hid hcond
  obtain ⟨p, hpd⟩ := Int.eq_ofNat_of_zero_le hfk.1
  have hp : p < n := by omega
  obtain ⟨y, hy⟩ : ∃ y, cs.getD k zeroK = y := ⟨_, rfl⟩
  have hp2 : (cs.getD k zeroK).dim.toNat = p := by omega
  rw [hp2] at HTE HFT HC HP0 HPE HT0 HSM HCE
  rw [hy] at hpd
  have HY := Lib.hid hy
  have HPD := Lib.hid hpd
  obtain ⟨d, hd⟩ : ∃ d, xs.getD p zeroD = d := ⟨_, rfl⟩
  have HD := Lib.hid hd
  have hpn : (p : Int) < (n : Int) := by omega
  have hkn : (k : Int) < (m : Int) := by omega
  have HB0 := Lib.hid bT0
  have HK0 := Lib.hid bK0
  have hgtl := bT0.lt
  have hgkl := bK0.lt
  clear hx hk hcA hcB hy hpd hd hfk hmem hrt hrt2 h hcond hp2
  have P : Blk w (gt) #[.slice (some ⟨bA, oA, none⟩) n c, .slice (some ⟨bB, oB, none⟩) m c2, .int .i64 lo, .int .i64 hi] 27 := by (repeat (first | (with_reducible assumption) | ((with_reducible apply Blk.new_at); focus (first | (simp; done) | (simp; omega))) | with_reducible apply Blk.alloc | with_reducible apply Blk.drew | with_reducible apply Blk.drewN | with_reducible apply Blk.set | ((with_reducible apply Blk.far); case hp => (first | (simp; done) | (dsimp only; omega))) | ((with_reducible apply Blk.ext); case he => with_reducible assumption)))
  have P0 := P.cell 0
  have P1 := P.cell 1
  have P2 := P.cell 2
  have P3 := P.cell 3
  simp at P0 P1 P2 P3
  have Pl := P.lt
  go_enter Try.func33, Try.ntmps33
  go_wp2_with fail
  refine (clone_any (some ⟨bA, oA, none⟩) n c xs _ (HX.out.ext (by (repeat (first | (with_reducible assumption) | with_reducible exact Ext.refl _ | with_reducible apply Ext.alloc | with_reducible apply Ext.drew | with_reducible apply Ext.drewN | ((with_reducible apply Ext.set); case hp => (first | (simp; done) | (dsimp only; omega) | omega)) | ((with_reducible apply Ext.trans); case k => with_reducible assumption))))) hn0 (by omega)).mono ?_
  rintro e w3 ⟨g, cap, cur, rfl, DR3, h3⟩
  have hs3 := Ext.size h3
  simp only [World.size_alloc] at hs3
  simp only [World.size_alloc] at DR3
  have hRg := DR3.ge
  have hRl := DR3.lt
  have Q : Blk w3 (gt) #[.slice (some ⟨bA, oA, none⟩) n c, .slice (some ⟨bB, oB, none⟩) m c2, .int .i64 lo, .int .i64 hi] 27 := by (repeat (first | (with_reducible assumption) | ((with_reducible apply Blk.new_at); focus (first | (simp; done) | (simp; omega))) | with_reducible apply Blk.alloc | with_reducible apply Blk.drew | with_reducible apply Blk.drewN | with_reducible apply Blk.set | ((with_reducible apply Blk.far); case hp => (first | (simp; done) | (dsimp only; omega))) | ((with_reducible apply Blk.ext); case he => with_reducible assumption)))
  have Q0 := Q.cell 0
  have Q1 := Q.cell 1
  have Q2 := Q.cell 2
  have Q3 := Q.cell 3
  simp at Q0 Q1 Q2 Q3
  have Ql := Q.lt
  have R : Blk w3 (w.heap.size + 1) #[.slice (some ⟨bA, oA, none⟩) n c, .slice (some ⟨bB, oB, none⟩) m c2, .int .i64 lo, .int .i64 hi] 27 := by (repeat (first | (with_reducible assumption) | ((with_reducible apply Blk.new_at); focus (first | (simp; done) | (simp; omega))) | with_reducible apply Blk.alloc | with_reducible apply Blk.drew | with_reducible apply Blk.drewN | with_reducible apply Blk.set | ((with_reducible apply Blk.far); case hp => (first | (simp; done) | (dsimp only; omega))) | ((with_reducible apply Blk.ext); case he => with_reducible assumption)))
  have R0 := R.cell 0
  have R1 := R.cell 1
  have R2 := R.cell 2
  have R3 := R.cell 3
  simp at R0 R1 R2 R3
  have Rl := R.lt
  have RF := R.frozen 0
  have hLb : Blk w3 w.heap.size #[.int .i64 l.lo, .int .i64 l.hi] 25 := by (repeat (first | (with_reducible assumption) | ((with_reducible apply Blk.new_at); focus (first | (simp; done) | (simp; omega))) | with_reducible apply Blk.alloc | with_reducible apply Blk.drew | with_reducible apply Blk.drewN | with_reducible apply Blk.set | ((with_reducible apply Blk.far); case hp => (first | (simp; done) | (dsimp only; omega))) | ((with_reducible apply Blk.ext); case he => with_reducible assumption)))
  obtain ⟨L1, L2, L3, L4⟩ := hLb.c2
  have hKb : Blk w3 gk #[.int .i64 (k : Int)] 3 := HK0.out.ext (by (repeat (first | (with_reducible assumption) | with_reducible exact Ext.refl _ | with_reducible apply Ext.alloc | with_reducible apply Ext.drew | with_reducible apply Ext.drewN | ((with_reducible apply Ext.set); case hp => (first | (simp; done) | (dsimp only; omega) | omega)) | ((with_reducible apply Ext.trans); case k => with_reducible assumption))))
  have K1 := hKb.cell 0
  simp at K1
  have hE3 : Ext w w3 := by (repeat (first | (with_reducible assumption) | with_reducible exact Ext.refl _ | with_reducible apply Ext.alloc | with_reducible apply Ext.drew | with_reducible apply Ext.drewN | ((with_reducible apply Ext.set); case hp => (first | (simp; done) | (dsimp only; omega) | omega)) | ((with_reducible apply Ext.trans); case k => with_reducible assumption)))
  obtain ⟨k1, -⟩ := Lnks.cells HCB.out hE3 k hkm y HY.out
  rw [HPD.out] at k1
  have hbl2 : bB < w3.heap.size := World.block_lt_of_cell? w3 _ k1
  obtain ⟨⟨r1, r2⟩, r3, r4⟩   := DR3.cells hp d HD.out
  have HR3 := Lib.hid DR3
  clear DR3 P P0 P1 P2 P3
  go_upto_region 3 with fail
  obtain ⟨W4, hW4⟩ : ∃ W4, w3.setCell ⟨w.heap.size + 1, 0, none⟩ (.slice (some ⟨g, 0, none⟩) n cap) = W4 := ⟨_, rfl⟩
  rw [hW4]
  have bX4 : Blk W4 (w.heap.size + 1) #[.slice (some ⟨g, 0, none⟩) n cap, .slice (some ⟨bB, oB, none⟩) m c2, .int .i64 lo, .int .i64 hi] 27 := by rw [← hW4]; (apply Blk.is; (case h => (repeat (first | (with_reducible assumption) | ((with_reducible apply Blk.new_at); focus (first | (simp; done) | (simp; omega))) | with_reducible apply Blk.alloc | with_reducible apply Blk.drew | with_reducible apply Blk.drewN | with_reducible apply Blk.set | ((with_reducible apply Blk.far); case hp => (first | (simp; done) | (dsimp only; omega))) | ((with_reducible apply Blk.ext); case he => with_reducible assumption)))); all_goals rfl)
  have bT4 : Blk W4 gt #[.slice (some ⟨bA, oA, none⟩) n c, .slice (some ⟨bB, oB, none⟩) m c2, .int .i64 lo, .int .i64 hi] 27 := by rw [← hW4]; (repeat (first | (with_reducible assumption) | ((with_reducible apply Blk.new_at); focus (first | (simp; done) | (simp; omega))) | with_reducible apply Blk.alloc | with_reducible apply Blk.drew | with_reducible apply Blk.drewN | with_reducible apply Blk.set | ((with_reducible apply Blk.far); case hp => (first | (simp; done) | (dsimp only; omega))) | ((with_reducible apply Blk.ext); case he => with_reducible assumption)))
  have bL4 : Blk W4 w.heap.size #[.int .i64 l.lo, .int .i64 l.hi] 25 := by rw [← hW4]; (repeat (first | (with_reducible assumption) | ((with_reducible apply Blk.new_at); focus (first | (simp; done) | (simp; omega))) | with_reducible apply Blk.alloc | with_reducible apply Blk.drew | with_reducible apply Blk.drewN | with_reducible apply Blk.set | ((with_reducible apply Blk.far); case hp => (first | (simp; done) | (dsimp only; omega))) | ((with_reducible apply Blk.ext); case he => with_reducible assumption)))
  have bK4 : Blk W4 gk #[.int .i64 (k : Int)] 3 := by rw [← hW4]; (repeat (first | (with_reducible assumption) | ((with_reducible apply Blk.new_at); focus (first | (simp; done) | (simp; omega))) | with_reducible apply Blk.alloc | with_reducible apply Blk.drew | with_reducible apply Blk.drewN | with_reducible apply Blk.set | ((with_reducible apply Blk.far); case hp => (first | (simp; done) | (dsimp only; omega))) | ((with_reducible apply Blk.ext); case he => with_reducible assumption)))
  have hE4 : Ext w W4 := by rw [← hW4]; (repeat (first | (with_reducible assumption) | with_reducible exact Ext.refl _ | with_reducible apply Ext.alloc | with_reducible apply Ext.drew | with_reducible apply Ext.drewN | ((with_reducible apply Ext.set); case hp => (first | (simp; done) | (dsimp only; omega) | omega)) | ((with_reducible apply Ext.trans); case k => with_reducible assumption)))
  have R4 : DRow W4 (w.heap.size + 1 + 1) g n cur xs := by rw [← hW4]; refine DRow.far HR3.out ?_ _; show g ≠ w.heap.size + 1; omega
  clear hW4 RF Q Q0 Q1 Q2 Q3 Ql R R0 R1 R2 R3 Rl hLb L1 L2 L3 L4 hKb K1 r1 r2 r3 r4 k1
  obtain ⟨⟨r1, r2⟩, r3, r4⟩ := R4.cells hp d HD.out
  have HR4 := Lib.hid R4
  have hgl := R4.lt
  clear R4
  have e1 := bX4.lt
  have e2 := bT4.lt
  have e3 := bL4.lt
  have e4 := bK4.lt
  have k1 := (Lnks.cells HCB.out hE4 k hkm y HY.out).1
  rw [HPD.out] at k1
  have hbl3 : bB < W4.heap.size := World.block_lt_of_cell? W4 _ k1
  go_region_held3 (fun W => ((W.cell? ⟨gt, 1, none⟩ = some (.slice (some ⟨bB, oB, none⟩) m c2) ∧ W.cell? ⟨w.heap.size + 1, 0, none⟩ = some (.slice (some ⟨g, 0, none⟩) n cap)) ∧ (W.cell? ⟨w.heap.size, 0, none⟩ = some (.int .i64 l.lo) ∧ W.cell? ⟨w.heap.size, 1, none⟩ = some (.int .i64 l.hi))) ∧ W.cell? ⟨gk, 0, none⟩ = some (.int .i64 (k : Int)) ∧ W.cell? ⟨bB, oB + k * 2, none⟩ = some (.int .i64 (p : Int)))
    (first | (refine ⟨keepW (t := 27) (t2 := 25) (ps := #[.slice (some ⟨bA, oA, none⟩) n c, .slice (some ⟨bB, oB, none⟩) m c2, .int .i64 lo, .int .i64 hi]) (qs := #[.slice (some ⟨g, 0, none⟩) n cap, .slice (some ⟨bB, oB, none⟩) m c2, .int .i64 lo, .int .i64 hi]) ?_ ?_ ?_ (by rfl) (by rfl), keepK ?_, ?_⟩; (focus ((repeat (first | (with_reducible assumption) | ((with_reducible apply Blk.new_at); focus (first | (simp; done) | (simp; omega))) | with_reducible apply Blk.alloc | with_reducible apply Blk.drew | with_reducible apply Blk.drewN | with_reducible apply Blk.set | ((with_reducible apply Blk.far); case hp => (first | (simp; done) | (dsimp only; omega))) | ((with_reducible apply Blk.ext); case he => with_reducible assumption))); done)); (focus ((repeat (first | (with_reducible assumption) | ((with_reducible apply Blk.new_at); focus (first | (simp; done) | (simp; omega))) | with_reducible apply Blk.alloc | with_reducible apply Blk.drew | with_reducible apply Blk.drewN | with_reducible apply Blk.set | ((with_reducible apply Blk.far); case hp => (first | (simp; done) | (dsimp only; omega))) | ((with_reducible apply Blk.ext); case he => with_reducible assumption))); done)); (focus ((repeat (first | (with_reducible assumption) | ((with_reducible apply Blk.new_at); focus (first | (simp; done) | (simp; omega))) | with_reducible apply Blk.alloc | with_reducible apply Blk.drew | with_reducible apply Blk.drewN | with_reducible apply Blk.set | ((with_reducible apply Blk.far); case hp => (first | (simp; done) | (dsimp only; omega))) | ((with_reducible apply Blk.ext); case he => with_reducible assumption))); done)); (focus ((repeat (first | (with_reducible assumption) | ((with_reducible apply Blk.new_at); focus (first | (simp; done) | (simp; omega))) | with_reducible apply Blk.alloc | with_reducible apply Blk.drew | with_reducible apply Blk.drewN | with_reducible apply Blk.set | ((with_reducible apply Blk.far); case hp => (first | (simp; done) | (dsimp only; omega))) | ((with_reducible apply Blk.ext); case he => with_reducible assumption))); done)); (focus (exact HPD.out ▸ (Lnks.cells HCB.out (by (repeat (first | (with_reducible assumption) | with_reducible exact Ext.refl _ | with_reducible apply Ext.alloc | with_reducible apply Ext.drew | with_reducible apply Ext.drewN | ((with_reducible apply Ext.set); case hp => (first | (simp; done) | (dsimp only; omega) | omega)) | ((with_reducible apply Ext.trans); case k => with_reducible assumption)))) k hkm y HY.out).1)))) (fail)
  obtain ⟨W5, hW5⟩ : ∃ W5, ((W4.setCell { block := g, off := p * 5 + 3 } (.int .i64 l.lo)).setCell { block := g, off := p * 5 + 3 + 1 } (.int .i64 l.hi)).drew = W5 := ⟨_, rfl⟩
  have d1 := HR4.out.putL hp l
  obtain ⟨cur5, d2⟩ : ∃ c5, DRow W5 (w.heap.size + 1 + 1) g n c5 (withL xs p l) := ⟨_, by rw [← hW5]; exact d1⟩
  have hD5 := Lib.hid (d2.dims (by omega) HFT.out)
  have bX5 : Blk W5 (w.heap.size + 1) #[.slice (some ⟨g, 0, none⟩) n cap, .slice (some ⟨bB, oB, none⟩) m c2, .int .i64 lo, .int .i64 hi] 27 := by rw [← hW5]; (repeat (first | (with_reducible assumption) | ((with_reducible apply Blk.new_at); focus (first | (simp; done) | (simp; omega))) | with_reducible apply Blk.alloc | with_reducible apply Blk.drew | with_reducible apply Blk.drewN | with_reducible apply Blk.set | ((with_reducible apply Blk.far); case hp => (first | (simp; done) | (dsimp only; omega))) | ((with_reducible apply Blk.ext); case he => with_reducible assumption)))
  have bT5 : Blk W5 gt #[.slice (some ⟨bA, oA, none⟩) n c, .slice (some ⟨bB, oB, none⟩) m c2, .int .i64 lo, .int .i64 hi] 27 := by rw [← hW5]; (repeat (first | (with_reducible assumption) | ((with_reducible apply Blk.new_at); focus (first | (simp; done) | (simp; omega))) | with_reducible apply Blk.alloc | with_reducible apply Blk.drew | with_reducible apply Blk.drewN | with_reducible apply Blk.set | ((with_reducible apply Blk.far); case hp => (first | (simp; done) | (dsimp only; omega))) | ((with_reducible apply Blk.ext); case he => with_reducible assumption)))
  have hE5 : Ext w W5 := by rw [← hW5]; (repeat (first | (with_reducible assumption) | with_reducible exact Ext.refl _ | with_reducible apply Ext.alloc | with_reducible apply Ext.drew | with_reducible apply Ext.drewN | ((with_reducible apply Ext.set); case hp => (first | (simp; done) | (dsimp only; omega) | omega)) | ((with_reducible apply Ext.trans); case k => with_reducible assumption)))
  rw [hW5]
  clear hW5 d1 d2 bX4 bT4 bL4 bK4 e1 e2 e3 e4 r1 r2 r3 r4 hE4
  have Z : Blk W5 (w.heap.size + 1) #[.slice (some ⟨g, 0, none⟩) n cap, .slice (some ⟨bB, oB, none⟩) m c2, .int .i64 lo, .int .i64 hi] 27 := by (repeat (first | (with_reducible assumption) | ((with_reducible apply Blk.new_at); focus (first | (simp; done) | (simp; omega))) | with_reducible apply Blk.alloc | with_reducible apply Blk.drew | with_reducible apply Blk.drewN | with_reducible apply Blk.set | ((with_reducible apply Blk.far); case hp => (first | (simp; done) | (dsimp only; omega))) | ((with_reducible apply Blk.ext); case he => with_reducible assumption)))
  have Z0 := Z.cell 0
  have Z1 := Z.cell 1
  have Z2 := Z.cell 2
  have Z3 := Z.cell 3
  simp at Z0 Z1 Z2 Z3
  have Zl := Z.lt
  go_wp2_with fail
  refine (skeeps_high (some ⟨g, 0, none⟩) (some ⟨bB, oB, none⟩) n m cap c2 (withL xs p l) cs lo hi _ (hD5.out.ext (by (repeat (first | (with_reducible assumption) | with_reducible exact Ext.refl _ | with_reducible apply Ext.alloc | with_reducible apply Ext.drew | with_reducible apply Ext.drewN | ((with_reducible apply Ext.set); case hp => (first | (simp; done) | (dsimp only; omega) | omega)) | ((with_reducible apply Ext.trans); case k => with_reducible assumption))))) (HK.out.ext (by (repeat (first | (with_reducible assumption) | with_reducible exact Ext.refl _ | with_reducible apply Ext.alloc | with_reducible apply Ext.drew | with_reducible apply Ext.drewN | ((with_reducible apply Ext.set); case hp => (first | (simp; done) | (dsimp only; omega) | omega)) | ((with_reducible apply Ext.trans); case k => with_reducible assumption))))) HTE.out HC.out.1 HC.out.2).mono ?_
  rintro e w6 ⟨g6, cap6, cur6, rfl, I6, h6⟩
  have J6 := I6.ints (by omega)
  rw [show atE true (withL xs p l) cs = extL true (withL xs p l) cs from HPE.out] at J6
  have HJ6 := Lib.hid J6
  clear I6 J6
  have Y : Blk w6 (w.heap.size + 1) #[.slice (some ⟨g, 0, none⟩) n cap, .slice (some ⟨bB, oB, none⟩) m c2, .int .i64 lo, .int .i64 hi] 27 := by (repeat (first | (with_reducible assumption) | ((with_reducible apply Blk.new_at); focus (first | (simp; done) | (simp; omega))) | with_reducible apply Blk.alloc | with_reducible apply Blk.drew | with_reducible apply Blk.drewN | with_reducible apply Blk.set | ((with_reducible apply Blk.far); case hp => (first | (simp; done) | (dsimp only; omega))) | ((with_reducible apply Blk.ext); case he => with_reducible assumption)))
  have Y0 := Y.cell 0
  have Y1 := Y.cell 1
  have Y2 := Y.cell 2
  have Y3 := Y.cell 3
  simp at Y0 Y1 Y2 Y3
  have Yl := Y.lt
  have V : Blk w6 (gt) #[.slice (some ⟨bA, oA, none⟩) n c, .slice (some ⟨bB, oB, none⟩) m c2, .int .i64 lo, .int .i64 hi] 27 := by (repeat (first | (with_reducible assumption) | ((with_reducible apply Blk.new_at); focus (first | (simp; done) | (simp; omega))) | with_reducible apply Blk.alloc | with_reducible apply Blk.drew | with_reducible apply Blk.drewN | with_reducible apply Blk.set | ((with_reducible apply Blk.far); case hp => (first | (simp; done) | (dsimp only; omega))) | ((with_reducible apply Blk.ext); case he => with_reducible assumption)))
  have V0 := V.cell 0
  have V1 := V.cell 1
  have V2 := V.cell 2
  have V3 := V.cell 3
  simp at V0 V1 V2 V3
  have Vl := V.lt
  go_wp2_with fail; refine (within_ok (some ⟨g, 0, none⟩) (some ⟨bB, oB, none⟩) _ n m cap c2 cap6 (withL xs p l) lo hi _ _ (hD5.out.ext (by (repeat (first | (with_reducible assumption) | with_reducible exact Ext.refl _ | with_reducible apply Ext.alloc | with_reducible apply Ext.drew | with_reducible apply Ext.drewN | ((with_reducible apply Ext.set); case hp => (first | (simp; done) | (dsimp only; omega) | omega)) | ((with_reducible apply Ext.trans); case k => with_reducible assumption))))) (HJ6.out.ext (by (repeat (first | (with_reducible assumption) | with_reducible exact Ext.refl _ | with_reducible apply Ext.alloc | with_reducible apply Ext.drew | with_reducible apply Ext.drewN | ((with_reducible apply Ext.set); case hp => (first | (simp; done) | (dsimp only; omega) | omega)) | ((with_reducible apply Ext.trans); case k => with_reducible assumption))))) HP0.out).mono ?_; rintro e w7 ⟨rfl, h7⟩
  have U : Blk w7 (w.heap.size + 1) #[.slice (some ⟨g, 0, none⟩) n cap, .slice (some ⟨bB, oB, none⟩) m c2, .int .i64 lo, .int .i64 hi] 27 := by (repeat (first | (with_reducible assumption) | ((with_reducible apply Blk.new_at); focus (first | (simp; done) | (simp; omega))) | with_reducible apply Blk.alloc | with_reducible apply Blk.drew | with_reducible apply Blk.drewN | with_reducible apply Blk.set | ((with_reducible apply Blk.far); case hp => (first | (simp; done) | (dsimp only; omega))) | ((with_reducible apply Blk.ext); case he => with_reducible assumption)))
  have U0 := U.cell 0
  have U1 := U.cell 1
  have U2 := U.cell 2
  have U3 := U.cell 3
  simp at U0 U1 U2 U3
  have Ul := U.lt
  have S : Blk w7 (gt) #[.slice (some ⟨bA, oA, none⟩) n c, .slice (some ⟨bB, oB, none⟩) m c2, .int .i64 lo, .int .i64 hi] 27 := by (repeat (first | (with_reducible assumption) | ((with_reducible apply Blk.new_at); focus (first | (simp; done) | (simp; omega))) | with_reducible apply Blk.alloc | with_reducible apply Blk.drew | with_reducible apply Blk.drewN | with_reducible apply Blk.set | ((with_reducible apply Blk.far); case hp => (first | (simp; done) | (dsimp only; omega))) | ((with_reducible apply Blk.ext); case he => with_reducible assumption)))
  have S0 := S.cell 0
  have S1 := S.cell 1
  have S2 := S.cell 2
  have S3 := S.cell 3
  simp at S0 S1 S2 S3
  have Sl := S.lt
  go_wp2_with fail; refine (lsum_ok (some ⟨g, 0, none⟩) (some ⟨bB, oB, none⟩) _ n m cap c2 cap6 (withL xs p l) cs _ _ (hD5.out.ext (by (repeat (first | (with_reducible assumption) | with_reducible exact Ext.refl _ | with_reducible apply Ext.alloc | with_reducible apply Ext.drew | with_reducible apply Ext.drewN | ((with_reducible apply Ext.set); case hp => (first | (simp; done) | (dsimp only; omega) | omega)) | ((with_reducible apply Ext.trans); case k => with_reducible assumption))))) (HK.out.ext (by (repeat (first | (with_reducible assumption) | with_reducible exact Ext.refl _ | with_reducible apply Ext.alloc | with_reducible apply Ext.drew | with_reducible apply Ext.drewN | ((with_reducible apply Ext.set); case hp => (first | (simp; done) | (dsimp only; omega) | omega)) | ((with_reducible apply Ext.trans); case k => with_reducible assumption))))) (HJ6.out.ext (by (repeat (first | (with_reducible assumption) | with_reducible exact Ext.refl _ | with_reducible apply Ext.alloc | with_reducible apply Ext.drew | with_reducible apply Ext.drewN | ((with_reducible apply Ext.set); case hp => (first | (simp; done) | (dsimp only; omega) | omega)) | ((with_reducible apply Ext.trans); case k => with_reducible assumption))))) HCE.out hm256 HMEM.out (HSM.out _ HP0.out)).mono ?_; rintro e w8 ⟨rfl, h8⟩
  rw [HT0.out]
  have hC := HC.out
  obtain ⟨z, hz⟩ : ∃ z, endS (signT true) (withL xs p l) cs = z := ⟨_, rfl⟩
  rw [hz]
  rw [show endS (-1) (withL xs p l) cs = z from hz] at hC
  have hno : (decide (lo ≤ z) = false) ∨ (decide (lo ≤ z) = true ∧ decide (z ≤ hi) = false) := by
    by_cases hq : lo ≤ z
    · exact .inr ⟨by simpa using hq, by simp; omega⟩
    · exact .inl (by simpa using hq)
  clear hC hz
  have Q : Blk w8 (gt) #[.slice (some ⟨bA, oA, none⟩) n c, .slice (some ⟨bB, oB, none⟩) m c2, .int .i64 lo, .int .i64 hi] 27 := by (repeat (first | (with_reducible assumption) | ((with_reducible apply Blk.new_at); focus (first | (simp; done) | (simp; omega))) | with_reducible apply Blk.alloc | with_reducible apply Blk.drew | with_reducible apply Blk.drewN | with_reducible apply Blk.set | ((with_reducible apply Blk.far); case hp => (first | (simp; done) | (dsimp only; omega))) | ((with_reducible apply Blk.ext); case he => with_reducible assumption)))
  have Q0 := Q.cell 0
  have Q1 := Q.cell 1
  have Q2 := Q.cell 2
  have Q3 := Q.cell 3
  simp at Q0 Q1 Q2 Q3
  have Ql := Q.lt
  rcases hno with hq1 | ⟨hq1, hq2⟩
  all_goals
    go_wp2_with fail
    go_ret2
    exact Ret.mk' rfl (by (repeat (first | (with_reducible assumption) | with_reducible exact Ext.refl _ | with_reducible apply Ext.alloc | with_reducible apply Ext.drew | with_reducible apply Ext.drewN | ((with_reducible apply Ext.set); case hp => (first | (simp; done) | (dsimp only; omega) | omega)) | ((with_reducible apply Ext.trans); case k => with_reducible assumption))))
set_option maxRecDepth 20000 in
set_option maxHeartbeats 4000000 in
theorem keeps1_yes (A B : Option Addr) (n m c c2 : Nat) (xs : List Dim) (cs : List Lk) (lo hi : Int) (l : Lim) (k gt gk : Nat) (w : World) (hx : Dims w A n xs) (hk : Lnks w B m cs) (bT0 : Blk w gt #[.slice A n c, .slice B m c2, .int .i64 lo, .int .i64 hi] 27) (bK0 : Blk w gk #[.int .i64 (k : Int)] 3) (h : taskE xs cs lo hi = 0) (hkm : k < m) (hl : -100000 ≤ l.lo ∧ l.lo ≤ l.hi ∧ l.hi ≤ 100000) (hcond : (lo ≤ endS 1 (withL xs (cs.getD k zeroK).dim.toNat l) cs ∧ endS 1 (withL xs (cs.getD k zeroK).dim.toNat l) cs ≤ hi) ∧ (lo ≤ endS (-1) (withL xs (cs.getD k zeroK).dim.toNat l) cs ∧ endS (-1) (withL xs (cs.getD k zeroK).dim.toNat l) cs ≤ hi)) :
    Calls Try.prog 33 #[.agg #[.int .i64 l.lo, .int .i64 l.hi], .pointer (some ⟨gt, 0, none⟩), .pointer (some ⟨gk, 0, none⟩)] w (Ret (.tuple #[.bool true, .bool true]) w) := by
  have hrt := rt_of hx.len hk.len (taskE_zero h).1
  have hn0 : 0 < n := by have := hrt.mem 0 hrt.m0; omega
  have hxl := hx.len
  have hm256 := hrt.m256
  have hn256 := hrt.n256
  have hmem := hrt.mem k hkm
  have hfk := hrt.fine k hkm
  have HTE : Hid (taskE (withL xs (cs.getD k zeroK).dim.toNat l) cs lo hi = 0) := Lib.hid (task_with h _ l hl)
  have hrt2 := rt_with hrt (cs.getD k zeroK).dim.toNat l hl
  have HFT : Hid (∀ j, j < n → ((withL xs (cs.getD k zeroK).dim.toNat l).getD j zeroD).fits) := Lib.hid (fun j hj => by
    by_cases e : (cs.getD k zeroK).dim.toNat = j
    · subst e
      rw [withL_at (by rw [hxl]; exact hj)]
      exact hx.fit _ hj
    · rw [withL_ne e]; exact hx.fit _ hj)
  obtain ⟨bA, oA, rfl, hcA⟩ := hx.at_ hn0
  obtain ⟨bB, oB, rfl, hcB⟩ := hk.at_ hrt.m0
  have HX := Lib.hid hx
  have HK := Lib.hid hk
  have HCA := Lib.hid hcA
  have HCB := Lib.hid hcB
  have HC := Lib.hid hcond
  obtain ⟨p, hpd⟩ := Int.eq_ofNat_of_zero_le hfk.1
  have hp : p < n := by omega
  obtain ⟨y, hy⟩ : ∃ y, cs.getD k zeroK = y := ⟨_, rfl⟩
  have hp2 : (cs.getD k zeroK).dim.toNat = p := by omega
  rw [hp2] at HTE HFT HC 
  rw [hy] at hpd
  have HY := Lib.hid hy
  have HPD := Lib.hid hpd
  obtain ⟨d, hd⟩ : ∃ d, xs.getD p zeroD = d := ⟨_, rfl⟩
  have HD := Lib.hid hd
  have hpn : (p : Int) < (n : Int) := by omega
  have hkn : (k : Int) < (m : Int) := by omega
  have HB0 := Lib.hid bT0
  have HK0 := Lib.hid bK0
  have hgtl := bT0.lt
  have hgkl := bK0.lt
  clear hx hk hcA hcB hy hpd hd hfk hmem hrt hrt2 h hcond hp2
  have P : Blk w (gt) #[.slice (some ⟨bA, oA, none⟩) n c, .slice (some ⟨bB, oB, none⟩) m c2, .int .i64 lo, .int .i64 hi] 27 := by (repeat (first | (with_reducible assumption) | ((with_reducible apply Blk.new_at); focus (first | (simp; done) | (simp; omega))) | with_reducible apply Blk.alloc | with_reducible apply Blk.drew | with_reducible apply Blk.drewN | with_reducible apply Blk.set | ((with_reducible apply Blk.far); case hp => (first | (simp; done) | (dsimp only; omega))) | ((with_reducible apply Blk.ext); case he => with_reducible assumption)))
  have P0 := P.cell 0
  have P1 := P.cell 1
  have P2 := P.cell 2
  have P3 := P.cell 3
  simp at P0 P1 P2 P3
  have Pl := P.lt
  go_enter Try.func33, Try.ntmps33
  go_wp2_with fail
  refine (clone_any (some ⟨bA, oA, none⟩) n c xs _ (HX.out.ext (by (repeat (first | (with_reducible assumption) | with_reducible exact Ext.refl _ | with_reducible apply Ext.alloc | with_reducible apply Ext.drew | with_reducible apply Ext.drewN | ((with_reducible apply Ext.set); case hp => (first | (simp; done) | (dsimp only; omega) | omega)) | ((with_reducible apply Ext.trans); case k => with_reducible assumption))))) hn0 (by omega)).mono ?_
  rintro e w3 ⟨g, cap, cur, rfl, DR3, h3⟩
  have hs3 := Ext.size h3
  simp only [World.size_alloc] at hs3
  simp only [World.size_alloc] at DR3
  have hRg := DR3.ge
  have hRl := DR3.lt
  have Q : Blk w3 (gt) #[.slice (some ⟨bA, oA, none⟩) n c, .slice (some ⟨bB, oB, none⟩) m c2, .int .i64 lo, .int .i64 hi] 27 := by (repeat (first | (with_reducible assumption) | ((with_reducible apply Blk.new_at); focus (first | (simp; done) | (simp; omega))) | with_reducible apply Blk.alloc | with_reducible apply Blk.drew | with_reducible apply Blk.drewN | with_reducible apply Blk.set | ((with_reducible apply Blk.far); case hp => (first | (simp; done) | (dsimp only; omega))) | ((with_reducible apply Blk.ext); case he => with_reducible assumption)))
  have Q0 := Q.cell 0
  have Q1 := Q.cell 1
  have Q2 := Q.cell 2
  have Q3 := Q.cell 3
  simp at Q0 Q1 Q2 Q3
  have Ql := Q.lt
  have R : Blk w3 (w.heap.size + 1) #[.slice (some ⟨bA, oA, none⟩) n c, .slice (some ⟨bB, oB, none⟩) m c2, .int .i64 lo, .int .i64 hi] 27 := by (repeat (first | (with_reducible assumption) | ((with_reducible apply Blk.new_at); focus (first | (simp; done) | (simp; omega))) | with_reducible apply Blk.alloc | with_reducible apply Blk.drew | with_reducible apply Blk.drewN | with_reducible apply Blk.set | ((with_reducible apply Blk.far); case hp => (first | (simp; done) | (dsimp only; omega))) | ((with_reducible apply Blk.ext); case he => with_reducible assumption)))
  have R0 := R.cell 0
  have R1 := R.cell 1
  have R2 := R.cell 2
  have R3 := R.cell 3
  simp at R0 R1 R2 R3
  have Rl := R.lt
  have RF := R.frozen 0
  have hLb : Blk w3 w.heap.size #[.int .i64 l.lo, .int .i64 l.hi] 25 := by (repeat (first | (with_reducible assumption) | ((with_reducible apply Blk.new_at); focus (first | (simp; done) | (simp; omega))) | with_reducible apply Blk.alloc | with_reducible apply Blk.drew | with_reducible apply Blk.drewN | with_reducible apply Blk.set | ((with_reducible apply Blk.far); case hp => (first | (simp; done) | (dsimp only; omega))) | ((with_reducible apply Blk.ext); case he => with_reducible assumption)))
  obtain ⟨L1, L2, L3, L4⟩ := hLb.c2
  have hKb : Blk w3 gk #[.int .i64 (k : Int)] 3 := HK0.out.ext (by (repeat (first | (with_reducible assumption) | with_reducible exact Ext.refl _ | with_reducible apply Ext.alloc | with_reducible apply Ext.drew | with_reducible apply Ext.drewN | ((with_reducible apply Ext.set); case hp => (first | (simp; done) | (dsimp only; omega) | omega)) | ((with_reducible apply Ext.trans); case k => with_reducible assumption))))
  have K1 := hKb.cell 0
  simp at K1
  have hE3 : Ext w w3 := by (repeat (first | (with_reducible assumption) | with_reducible exact Ext.refl _ | with_reducible apply Ext.alloc | with_reducible apply Ext.drew | with_reducible apply Ext.drewN | ((with_reducible apply Ext.set); case hp => (first | (simp; done) | (dsimp only; omega) | omega)) | ((with_reducible apply Ext.trans); case k => with_reducible assumption)))
  obtain ⟨k1, -⟩ := Lnks.cells HCB.out hE3 k hkm y HY.out
  rw [HPD.out] at k1
  have hbl2 : bB < w3.heap.size := World.block_lt_of_cell? w3 _ k1
  obtain ⟨⟨r1, r2⟩, r3, r4⟩   := DR3.cells hp d HD.out
  have HR3 := Lib.hid DR3
  clear DR3 P P0 P1 P2 P3
  go_upto_region 3 with fail
  obtain ⟨W4, hW4⟩ : ∃ W4, w3.setCell ⟨w.heap.size + 1, 0, none⟩ (.slice (some ⟨g, 0, none⟩) n cap) = W4 := ⟨_, rfl⟩
  rw [hW4]
  have bX4 : Blk W4 (w.heap.size + 1) #[.slice (some ⟨g, 0, none⟩) n cap, .slice (some ⟨bB, oB, none⟩) m c2, .int .i64 lo, .int .i64 hi] 27 := by rw [← hW4]; (apply Blk.is; (case h => (repeat (first | (with_reducible assumption) | ((with_reducible apply Blk.new_at); focus (first | (simp; done) | (simp; omega))) | with_reducible apply Blk.alloc | with_reducible apply Blk.drew | with_reducible apply Blk.drewN | with_reducible apply Blk.set | ((with_reducible apply Blk.far); case hp => (first | (simp; done) | (dsimp only; omega))) | ((with_reducible apply Blk.ext); case he => with_reducible assumption)))); all_goals rfl)
  have bT4 : Blk W4 gt #[.slice (some ⟨bA, oA, none⟩) n c, .slice (some ⟨bB, oB, none⟩) m c2, .int .i64 lo, .int .i64 hi] 27 := by rw [← hW4]; (repeat (first | (with_reducible assumption) | ((with_reducible apply Blk.new_at); focus (first | (simp; done) | (simp; omega))) | with_reducible apply Blk.alloc | with_reducible apply Blk.drew | with_reducible apply Blk.drewN | with_reducible apply Blk.set | ((with_reducible apply Blk.far); case hp => (first | (simp; done) | (dsimp only; omega))) | ((with_reducible apply Blk.ext); case he => with_reducible assumption)))
  have bL4 : Blk W4 w.heap.size #[.int .i64 l.lo, .int .i64 l.hi] 25 := by rw [← hW4]; (repeat (first | (with_reducible assumption) | ((with_reducible apply Blk.new_at); focus (first | (simp; done) | (simp; omega))) | with_reducible apply Blk.alloc | with_reducible apply Blk.drew | with_reducible apply Blk.drewN | with_reducible apply Blk.set | ((with_reducible apply Blk.far); case hp => (first | (simp; done) | (dsimp only; omega))) | ((with_reducible apply Blk.ext); case he => with_reducible assumption)))
  have bK4 : Blk W4 gk #[.int .i64 (k : Int)] 3 := by rw [← hW4]; (repeat (first | (with_reducible assumption) | ((with_reducible apply Blk.new_at); focus (first | (simp; done) | (simp; omega))) | with_reducible apply Blk.alloc | with_reducible apply Blk.drew | with_reducible apply Blk.drewN | with_reducible apply Blk.set | ((with_reducible apply Blk.far); case hp => (first | (simp; done) | (dsimp only; omega))) | ((with_reducible apply Blk.ext); case he => with_reducible assumption)))
  have hE4 : Ext w W4 := by rw [← hW4]; (repeat (first | (with_reducible assumption) | with_reducible exact Ext.refl _ | with_reducible apply Ext.alloc | with_reducible apply Ext.drew | with_reducible apply Ext.drewN | ((with_reducible apply Ext.set); case hp => (first | (simp; done) | (dsimp only; omega) | omega)) | ((with_reducible apply Ext.trans); case k => with_reducible assumption)))
  have R4 : DRow W4 (w.heap.size + 1 + 1) g n cur xs := by rw [← hW4]; refine DRow.far HR3.out ?_ _; show g ≠ w.heap.size + 1; omega
  clear hW4 RF Q Q0 Q1 Q2 Q3 Ql R R0 R1 R2 R3 Rl hLb L1 L2 L3 L4 hKb K1 r1 r2 r3 r4 k1
  obtain ⟨⟨r1, r2⟩, r3, r4⟩ := R4.cells hp d HD.out
  have HR4 := Lib.hid R4
  have hgl := R4.lt
  clear R4
  have e1 := bX4.lt
  have e2 := bT4.lt
  have e3 := bL4.lt
  have e4 := bK4.lt
  have k1 := (Lnks.cells HCB.out hE4 k hkm y HY.out).1
  rw [HPD.out] at k1
  have hbl3 : bB < W4.heap.size := World.block_lt_of_cell? W4 _ k1
  go_region_held3 (fun W => ((W.cell? ⟨gt, 1, none⟩ = some (.slice (some ⟨bB, oB, none⟩) m c2) ∧ W.cell? ⟨w.heap.size + 1, 0, none⟩ = some (.slice (some ⟨g, 0, none⟩) n cap)) ∧ (W.cell? ⟨w.heap.size, 0, none⟩ = some (.int .i64 l.lo) ∧ W.cell? ⟨w.heap.size, 1, none⟩ = some (.int .i64 l.hi))) ∧ W.cell? ⟨gk, 0, none⟩ = some (.int .i64 (k : Int)) ∧ W.cell? ⟨bB, oB + k * 2, none⟩ = some (.int .i64 (p : Int)))
    (first | (refine ⟨keepW (t := 27) (t2 := 25) (ps := #[.slice (some ⟨bA, oA, none⟩) n c, .slice (some ⟨bB, oB, none⟩) m c2, .int .i64 lo, .int .i64 hi]) (qs := #[.slice (some ⟨g, 0, none⟩) n cap, .slice (some ⟨bB, oB, none⟩) m c2, .int .i64 lo, .int .i64 hi]) ?_ ?_ ?_ (by rfl) (by rfl), keepK ?_, ?_⟩; (focus ((repeat (first | (with_reducible assumption) | ((with_reducible apply Blk.new_at); focus (first | (simp; done) | (simp; omega))) | with_reducible apply Blk.alloc | with_reducible apply Blk.drew | with_reducible apply Blk.drewN | with_reducible apply Blk.set | ((with_reducible apply Blk.far); case hp => (first | (simp; done) | (dsimp only; omega))) | ((with_reducible apply Blk.ext); case he => with_reducible assumption))); done)); (focus ((repeat (first | (with_reducible assumption) | ((with_reducible apply Blk.new_at); focus (first | (simp; done) | (simp; omega))) | with_reducible apply Blk.alloc | with_reducible apply Blk.drew | with_reducible apply Blk.drewN | with_reducible apply Blk.set | ((with_reducible apply Blk.far); case hp => (first | (simp; done) | (dsimp only; omega))) | ((with_reducible apply Blk.ext); case he => with_reducible assumption))); done)); (focus ((repeat (first | (with_reducible assumption) | ((with_reducible apply Blk.new_at); focus (first | (simp; done) | (simp; omega))) | with_reducible apply Blk.alloc | with_reducible apply Blk.drew | with_reducible apply Blk.drewN | with_reducible apply Blk.set | ((with_reducible apply Blk.far); case hp => (first | (simp; done) | (dsimp only; omega))) | ((with_reducible apply Blk.ext); case he => with_reducible assumption))); done)); (focus ((repeat (first | (with_reducible assumption) | ((with_reducible apply Blk.new_at); focus (first | (simp; done) | (simp; omega))) | with_reducible apply Blk.alloc | with_reducible apply Blk.drew | with_reducible apply Blk.drewN | with_reducible apply Blk.set | ((with_reducible apply Blk.far); case hp => (first | (simp; done) | (dsimp only; omega))) | ((with_reducible apply Blk.ext); case he => with_reducible assumption))); done)); (focus (exact HPD.out ▸ (Lnks.cells HCB.out (by (repeat (first | (with_reducible assumption) | with_reducible exact Ext.refl _ | with_reducible apply Ext.alloc | with_reducible apply Ext.drew | with_reducible apply Ext.drewN | ((with_reducible apply Ext.set); case hp => (first | (simp; done) | (dsimp only; omega) | omega)) | ((with_reducible apply Ext.trans); case k => with_reducible assumption)))) k hkm y HY.out).1)))) (fail)
  obtain ⟨W5, hW5⟩ : ∃ W5, ((W4.setCell { block := g, off := p * 5 + 3 } (.int .i64 l.lo)).setCell { block := g, off := p * 5 + 3 + 1 } (.int .i64 l.hi)).drew = W5 := ⟨_, rfl⟩
  have d1 := HR4.out.putL hp l
  obtain ⟨cur5, d2⟩ : ∃ c5, DRow W5 (w.heap.size + 1 + 1) g n c5 (withL xs p l) := ⟨_, by rw [← hW5]; exact d1⟩
  have hD5 := Lib.hid (d2.dims (by omega) HFT.out)
  have bX5 : Blk W5 (w.heap.size + 1) #[.slice (some ⟨g, 0, none⟩) n cap, .slice (some ⟨bB, oB, none⟩) m c2, .int .i64 lo, .int .i64 hi] 27 := by rw [← hW5]; (repeat (first | (with_reducible assumption) | ((with_reducible apply Blk.new_at); focus (first | (simp; done) | (simp; omega))) | with_reducible apply Blk.alloc | with_reducible apply Blk.drew | with_reducible apply Blk.drewN | with_reducible apply Blk.set | ((with_reducible apply Blk.far); case hp => (first | (simp; done) | (dsimp only; omega))) | ((with_reducible apply Blk.ext); case he => with_reducible assumption)))
  have bT5 : Blk W5 gt #[.slice (some ⟨bA, oA, none⟩) n c, .slice (some ⟨bB, oB, none⟩) m c2, .int .i64 lo, .int .i64 hi] 27 := by rw [← hW5]; (repeat (first | (with_reducible assumption) | ((with_reducible apply Blk.new_at); focus (first | (simp; done) | (simp; omega))) | with_reducible apply Blk.alloc | with_reducible apply Blk.drew | with_reducible apply Blk.drewN | with_reducible apply Blk.set | ((with_reducible apply Blk.far); case hp => (first | (simp; done) | (dsimp only; omega))) | ((with_reducible apply Blk.ext); case he => with_reducible assumption)))
  have hE5 : Ext w W5 := by rw [← hW5]; (repeat (first | (with_reducible assumption) | with_reducible exact Ext.refl _ | with_reducible apply Ext.alloc | with_reducible apply Ext.drew | with_reducible apply Ext.drewN | ((with_reducible apply Ext.set); case hp => (first | (simp; done) | (dsimp only; omega) | omega)) | ((with_reducible apply Ext.trans); case k => with_reducible assumption)))
  rw [hW5]
  clear hW5 d1 d2 bX4 bT4 bL4 bK4 e1 e2 e3 e4 r1 r2 r3 r4 hE4
  have Z : Blk W5 (w.heap.size + 1) #[.slice (some ⟨g, 0, none⟩) n cap, .slice (some ⟨bB, oB, none⟩) m c2, .int .i64 lo, .int .i64 hi] 27 := by (repeat (first | (with_reducible assumption) | ((with_reducible apply Blk.new_at); focus (first | (simp; done) | (simp; omega))) | with_reducible apply Blk.alloc | with_reducible apply Blk.drew | with_reducible apply Blk.drewN | with_reducible apply Blk.set | ((with_reducible apply Blk.far); case hp => (first | (simp; done) | (dsimp only; omega))) | ((with_reducible apply Blk.ext); case he => with_reducible assumption)))
  have Z0 := Z.cell 0
  have Z1 := Z.cell 1
  have Z2 := Z.cell 2
  have Z3 := Z.cell 3
  simp at Z0 Z1 Z2 Z3
  have Zl := Z.lt
  go_wp2_with fail
  refine (skeeps_yes (some ⟨g, 0, none⟩) (some ⟨bB, oB, none⟩) n m cap c2 (withL xs p l) cs lo hi _ (hD5.out.ext (by (repeat (first | (with_reducible assumption) | with_reducible exact Ext.refl _ | with_reducible apply Ext.alloc | with_reducible apply Ext.drew | with_reducible apply Ext.drewN | ((with_reducible apply Ext.set); case hp => (first | (simp; done) | (dsimp only; omega) | omega)) | ((with_reducible apply Ext.trans); case k => with_reducible assumption))))) (HK.out.ext (by (repeat (first | (with_reducible assumption) | with_reducible exact Ext.refl _ | with_reducible apply Ext.alloc | with_reducible apply Ext.drew | with_reducible apply Ext.drewN | ((with_reducible apply Ext.set); case hp => (first | (simp; done) | (dsimp only; omega) | omega)) | ((with_reducible apply Ext.trans); case k => with_reducible assumption))))) HTE.out HC.out.1 HC.out.2).mono ?_
  rintro e w6 ⟨rfl, h6⟩
  go_wp2_with fail
  go_ret2
  exact Ret.mk' rfl (by (repeat (first | (with_reducible assumption) | with_reducible exact Ext.refl _ | with_reducible apply Ext.alloc | with_reducible apply Ext.drew | with_reducible apply Ext.drewN | ((with_reducible apply Ext.set); case hp => (first | (simp; done) | (dsimp only; omega) | omega)) | ((with_reducible apply Ext.trans); case k => with_reducible assumption))))
end Go.Proofs.Ytdcedfciaaooiab
