/- goes and chain of the reference: the walks. -/
import Derived.Test.YtdcedfciaaooiaaN24
set_option linter.unusedVariables false
namespace Go.Proofs.Ytdcedfciaaooiaa
open Go.RowKit

theorem shape_none {xs : List Dim} {x : Lk} : shapeB xs [] x = false := rfl
theorem shape_some {xs : List Dim} {cs : List Lk} {m p p0 : Nat} {bk b0 : Bool} {d d0 : Dim} {bs ls : ByteArray} (hlen : cs.length = m) (hm : 0 < m) (hd : xs.getD p zeroD = d) (hd0 : xs.getD p0 zeroD = d0) (h0 : cs.getD 0 zeroK = ⟨(p0 : Int), b0⟩)
    (hb : beginS xs ⟨(p : Int), bk⟩ = bs) (hl : stopS xs (cs.getD (m - 1) zeroK) = ls) : shapeB xs cs ⟨(p : Int), bk⟩ = ((d.axis != d0.axis) || !(bs.toList == ls.toList)) := by
  have := shape_eq (xs := xs) (cs := cs) (k := m) (p := p) (bk := bk) (by rw [List.length_take, hlen]; omega) hm hd hd0 h0 hb hl.symm
  rwa [← hlen, List.take_length] at this
theorem shut_some {xs : List Dim} {cs : List Lk} {m p0 : Nat} {b0 : Bool} {fs ls : ByteArray} (hlen : cs.length = m) (hm : 0 < m) (h0 : cs.getD 0 zeroK = ⟨(p0 : Int), b0⟩) (hf : beginS xs ⟨(p0 : Int), b0⟩ = fs) (hl : stopS xs (cs.getD (m - 1) zeroK) = ls) :
    shutB xs cs = (fs.toList == ls.toList) := by
  have := shut_eq (xs := xs) (cs := cs) (k := m) (by rw [List.length_take, hlen]; omega) hm h0 hf.symm hl.symm
  rw [← hlen, List.take_length] at this
  rw [this, Bool.eq_iff_iff]
  simp only [beq_iff_eq]
  exact ⟨Eq.symm, Eq.symm⟩

theorem used_hit {cs : List Lk} {m k : Nat} {p : Int} {bk : Bool} (hm : cs.length = m) (hk : k < m) (h : ((cs.getD k zeroK).dim == p) = true) : usedB cs ⟨p, bk⟩ = true := by
  unfold usedB
  rw [List.any_eq_true]
  rw [List.getD_eq_getElem?_getD, List.getElem?_eq_getElem (by omega)] at h
  exact ⟨_, List.getElem_mem _, h⟩
theorem begun_hit {xs : List Dim} {cs : List Lk} {m k : Nat} {x : Lk} {ss : ByteArray} (hm : cs.length = m) (hk0 : 0 < k) (hk : k < m) (hs : stopS xs x = ss) (h : sameS (beginS xs (cs.getD k zeroK)) ss = true) : begunB xs cs x = true := by
  unfold begunB
  rw [List.any_eq_true, hs]
  have e : cs.getD k zeroK = (cs.drop 1)[k - 1]'(by rw [List.length_drop]; omega) := by
    rw [List.getElem_drop, List.getD_eq_getElem?_getD, List.getElem?_eq_getElem (by omega)]
    simp only [Option.getD_some]
    congr 1
    omega
  exact ⟨cs.getD k zeroK, by rw [e]; exact List.getElem_mem _, h⟩
theorem none_hit {xs : List Dim} {cs : List Lk} {m : Nat} {p : Int} {bk : Bool} {ss : ByteArray} (hm : cs.length = m) (hs : stopS xs ⟨p, bk⟩ = ss)
    (h : ∀ j, j < m → ((cs.getD j zeroK).dim == p) = false ∧ (0 < j → sameS (beginS xs (cs.getD j zeroK)) ss = false)) : usedB cs ⟨p, bk⟩ = false ∧ begunB xs cs ⟨p, bk⟩ = false := by
  constructor
  · unfold usedB
    rw [List.any_eq_false]
    intro y hy
    obtain ⟨j, hj, rfl⟩ := List.getElem_of_mem hy
    have := (h j (by omega)).1
    rw [List.getD_eq_getElem?_getD, List.getElem?_eq_getElem hj] at this
    simpa using this
  · unfold begunB
    rw [List.any_eq_false, hs]
    intro y hy
    obtain ⟨j, hj, rfl⟩ := List.getElem_of_mem hy
    rw [List.length_drop] at hj
    have := (h (1 + j) (by omega)).2 (by omega)
    rw [List.getD_eq_getElem?_getD, List.getElem?_eq_getElem (by omega)] at this
    rw [List.getElem_drop]
    simpa using this

set_option maxRecDepth 20000 in
set_option maxHeartbeats 8000000 in
theorem goes_any (A B : Option Addr) (n m c c2 : Nat) (xs : List Dim) (cs : List Lk) (i : Int) (bk : Bool) (w : World) (hx : Dims w A n xs) (hk : Lnks w B m cs) (hin : ∀ j, j < m → 0 ≤ (cs.getD j zeroK).dim ∧ (cs.getD j zeroK).dim < n) :
    Calls Try.prog 129 #[.slice A n c, .slice B m c2, .agg #[.int .i64 i, .bool bk]] w (Ret (.int .i64 (goesE xs cs ⟨i, bk⟩)) w) := by
  have HX := Lib.hid hx
  have HK := Lib.hid hk
  have HIN := Lib.hid hin
  have hmx := hx.max
  have hmk := hk.max
  clear hx hk hin
  by_cases hr1 : i < 0
  · have hr := Lib.hid (goesE_2 (xs := xs) (cs := cs) (x := ⟨i, bk⟩) (by simp [rangeB, hr1]))
    go_enter Try.func129, Try.ntmps129
    go_wp2_with fail
    go_ret
    exact Ret.int hr.out.symm (by (repeat (first | (with_reducible assumption) | with_reducible exact Ext.refl _ | with_reducible apply Ext.alloc | with_reducible apply Ext.drew | with_reducible apply Ext.drewN | ((with_reducible apply Ext.set); case hp => (first | (simp; done) | (dsimp only; omega) | omega)) | ((with_reducible apply Ext.trans); case k => with_reducible assumption))))
  by_cases hr2 : (n : Int) ≤ i
  · have hr := Lib.hid (goesE_2 (xs := xs) (cs := cs) (x := ⟨i, bk⟩) (by rw [rangeB, HX.out.len]; simp [hr2]))
    go_enter Try.func129, Try.ntmps129
    go_wp2_with fail
    go_ret
    exact Ret.int hr.out.symm (by (repeat (first | (with_reducible assumption) | with_reducible exact Ext.refl _ | with_reducible apply Ext.alloc | with_reducible apply Ext.drew | with_reducible apply Ext.drewN | ((with_reducible apply Ext.set); case hp => (first | (simp; done) | (dsimp only; omega) | omega)) | ((with_reducible apply Ext.trans); case k => with_reducible assumption))))
  obtain ⟨p, rfl⟩ := Int.eq_ofNat_of_zero_le (show 0 ≤ i by omega)
  have hp : p < n := by omega
  clear hr1 hr2
  have hrg := Lib.hid (range_in (xs := xs) (x := ⟨(p : Int), bk⟩) (by show (0 : Int) ≤ p; omega) (by rw [HX.out.len]; exact Int.ofNat_lt.2 hp))
  obtain ⟨bA, oA, hA, hcA⟩ := HX.out.at_ (by omega)
  obtain ⟨d, hd⟩ : ∃ d, xs.getD p zeroD = d := ⟨_, rfl⟩
  have HD := Lib.hid hd
  have HCA := Lib.hid hcA
  clear hd hcA
  subst hA
  obtain ⟨bs, hbs⟩ : ∃ s, beginS xs ⟨(p : Int), bk⟩ = s := ⟨_, rfl⟩
  obtain ⟨ss, hss⟩ : ∃ s, stopS xs ⟨(p : Int), bk⟩ = s := ⟨_, rfl⟩
  have HB1 : Hid (∀ w, Dims w (some ⟨bA, oA, none⟩) n xs → Calls Try.prog 132 #[.slice (some ⟨bA, oA, none⟩) n c, .agg #[.int .i64 p, .bool bk]] w (Ret (.string bs) w)) := Lib.hid (fun w h => by have := begin_any _ n c xs p bk w h (by omega) (by omega); rwa [hbs] at this)
  have HS1 : Hid (∀ w, Dims w (some ⟨bA, oA, none⟩) n xs → Calls Try.prog 133 #[.slice (some ⟨bA, oA, none⟩) n c, .agg #[.int .i64 p, .bool bk]] w (Ret (.string ss) w)) := Lib.hid (fun w h => by have := stop_any _ n c xs p bk w h (by omega) (by omega); rwa [hss] at this)
  have HBS := Lib.hid hbs
  have HSS := Lib.hid hss
  clear hbs hss
  by_cases hm : m = 0
  · subst hm
    have hcs : cs = [] := List.length_eq_zero_iff.1 HK.out.len
    subst hcs
    have hr := Lib.hid (goesE_0 (cs := []) hrg.out rfl rfl)
    go_enter Try.func129, Try.ntmps129
    go_wp2_with fail
    go_quiet (fail)
    go_wp2_with fail
    go_loopw [8] (fun j wr => j = .int .i64 0 ∧ Ext w wr) (fun _ _ => 0)
    case atStart => exact ⟨rfl, by (repeat (first | (with_reducible assumption) | with_reducible exact Ext.refl _ | with_reducible apply Ext.alloc | with_reducible apply Ext.drew | with_reducible apply Ext.drewN | ((with_reducible apply Ext.set); case hp => (first | (simp; done) | (dsimp only; omega) | omega)) | ((with_reducible apply Ext.trans); case k => with_reducible assumption)))⟩
    case round =>
      obtain ⟨rfl, he⟩ := hrel
      go_wp2_with fail
      go_quiet (fail)
      go_wp2_with fail
      go_ret
      exact Ret.int hr.out.symm (by (repeat (first | (with_reducible assumption) | with_reducible exact Ext.refl _ | with_reducible apply Ext.alloc | with_reducible apply Ext.drew | with_reducible apply Ext.drewN | ((with_reducible apply Ext.set); case hp => (first | (simp; done) | (dsimp only; omega) | omega)) | ((with_reducible apply Ext.trans); case k => with_reducible assumption))))
  · obtain ⟨bB, oB, hB, hcB⟩ := HK.out.at_ (by omega)
    have HCB := Lib.hid hcB
    clear hcB
    subst hB
    obtain ⟨⟨i0, b0⟩, hx0⟩ : ∃ x, cs.getD 0 zeroK = x := ⟨_, rfl⟩
    have hr0 := HIN.out 0 (by omega)
    rw [hx0] at hr0
    dsimp only at hr0
    obtain ⟨p0, rfl⟩ := Int.eq_ofNat_of_zero_le hr0.1
    have hp0 : p0 < n := by omega
    clear hr0
    obtain ⟨d0, hd0⟩ : ∃ d0, xs.getD p0 zeroD = d0 := ⟨_, rfl⟩
    obtain ⟨⟨il, bl⟩, hxl⟩ : ∃ x, cs.getD (m - 1) zeroK = x := ⟨_, rfl⟩
    have hrl := HIN.out (m - 1) (by omega)
    rw [hxl] at hrl
    dsimp only at hrl
    obtain ⟨pl, rfl⟩ := Int.eq_ofNat_of_zero_le hrl.1
    have hpl : pl < n := by omega
    clear hrl
    obtain ⟨ls, hls⟩ : ∃ s, stopS xs ⟨(pl : Int), bl⟩ = s := ⟨_, rfl⟩
    obtain ⟨fs, hfs⟩ : ∃ s, beginS xs ⟨(p0 : Int), b0⟩ = s := ⟨_, rfl⟩
    have HL : Hid (∀ w, Dims w (some ⟨bA, oA, none⟩) n xs → Calls Try.prog 133 #[.slice (some ⟨bA, oA, none⟩) n c, .agg #[.int .i64 pl, .bool bl]] w (Ret (.string ls) w)) := Lib.hid (fun w h => by have := stop_any _ n c xs pl bl w h (by omega) (by omega); rwa [hls] at this)
    have HF : Hid (∀ w, Dims w (some ⟨bA, oA, none⟩) n xs → Calls Try.prog 132 #[.slice (some ⟨bA, oA, none⟩) n c, .agg #[.int .i64 p0, .bool b0]] w (Ret (.string fs) w)) := Lib.hid (fun w h => by have := begin_any _ n c xs p0 b0 w h (by omega) (by omega); rwa [hfs] at this)
    have hshape := Lib.hid (shape_some (bk := bk) (ls := ls) HK.out.len (by omega) HD.out hd0 hx0 HBS.out (by rw [hxl, hls]))
    have hshut := Lib.hid (shut_some (xs := xs) (ls := ls) HK.out.len (by omega) hx0 hfs (by rw [hxl, hls]))
    have HX0 := Lib.hid hx0
    have HXL := Lib.hid hxl
    have HD0 := Lib.hid hd0
    clear hx0 hxl hd0 hls hfs
    obtain ⟨m0, hm0⟩ : ∃ m0, m - 1 = m0 := ⟨_, rfl⟩
    rw [hm0] at HXL
    have hmi : ((m : Int) - 1) = (m0 : Int) := by omega
    have hw1 : IntKind.i64.wrap ((m : Int) - 1) = (m0 : Int) := by
      rw [hmi]
      simp (disch := omega) only [IntWalk.i64_in]
    have hw2 : wrap64 ((m : Int) - 1) = (m0 : Int) := by
      rw [hmi]
      simp (disch := omega) only [IntWalk.wrap64_in]
    have hm1 : (m0 : Int) < (m : Int) := by omega
    have hm2 : m0 < m := by omega
    have hm3 : 0 < m := by omega
    clear hm0 hmi
    go_enter Try.func129, Try.ntmps129
    go_upto_region 4 with fail
    go_cut [52] (fun s52 wc => s52 = .bool ((d.axis != d0.axis) || !(bs.toList == ls.toList)) ∧ Blk wc w.heap.size #[.int .i64 (p : Int), .bool bk] 145 ∧ Ext w wc)
    case first =>
      have hcell : ∀ W, Ext w W → (W.cell? ⟨bA, oA + p * 5 + 2, none⟩ = some (.int .i64 d.axis) ∧ W.cell? ⟨bA, oA + p0 * 5 + 2, none⟩ = some (.int .i64 d0.axis)) ∧ (W.cell? ⟨bB, oB, none⟩ = some (.int .i64 p0) ∧ W.cell? ⟨bB, oB + 1, none⟩ = some (.bool b0)) ∧ (W.cell? ⟨bB, oB + m0 * 2, none⟩ = some (.int .i64 pl) ∧ W.cell? ⟨bB, oB + m0 * 2 + 1, none⟩ = some (.bool bl)) := fun W hW => by
        have q0 := Lnks.cells HCB.out hW 0 (by omega) _ HX0.out
        simp only [Nat.zero_mul, Nat.add_zero] at q0
        exact ⟨⟨(Dims.cells HCA.out hW p hp d HD.out).2.2.1, (Dims.cells HCA.out hW p0 hp0 d0 HD0.out).2.2.1⟩, q0, Lnks.cells HCB.out hW m0 (by omega) _ HXL.out⟩
      have HCELL := Lib.hid hcell
      clear hcell
      cases e1 : (d.axis != d0.axis)
      · cases e2 : (bs.toList == ls.toList)
        all_goals
          go_region_held3 (fun W => (W.cell? ⟨w.heap.size, 0, none⟩ = some (.int .i64 p) ∧ W.cell? ⟨w.heap.size, 1, none⟩ = some (.bool bk)) ∧ (W.cell? ⟨bA, oA + p * 5 + 2, none⟩ = some (.int .i64 d.axis) ∧ W.cell? ⟨bA, oA + p0 * 5 + 2, none⟩ = some (.int .i64 d0.axis)) ∧ (W.cell? ⟨bB, oB, none⟩ = some (.int .i64 p0) ∧ W.cell? ⟨bB, oB + 1, none⟩ = some (.bool b0)) ∧ (W.cell? ⟨bB, oB + m0 * 2, none⟩ = some (.int .i64 pl) ∧ W.cell? ⟨bB, oB + m0 * 2 + 1, none⟩ = some (.bool bl)))
            (exact ⟨Blk.r2 (t := 145) (by (repeat (first | (with_reducible assumption) | ((with_reducible apply Blk.new_at); focus (first | (simp; done) | (simp; omega))) | with_reducible apply Blk.alloc | with_reducible apply Blk.drew | with_reducible apply Blk.drewN | with_reducible apply Blk.set | ((with_reducible apply Blk.far); case hp => (first | (simp; done) | (dsimp only; omega))) | ((with_reducible apply Blk.ext); case he => with_reducible assumption)))), HCELL.out _ (by (repeat (first | (with_reducible assumption) | with_reducible exact Ext.refl _ | with_reducible apply Ext.alloc | with_reducible apply Ext.drew | with_reducible apply Ext.drewN | ((with_reducible apply Ext.set); case hp => (first | (simp; done) | (dsimp only; omega) | omega)) | ((with_reducible apply Ext.trans); case k => with_reducible assumption))))⟩)
            (first
              | (go_at_call 132; refine (HB1.out _ (HX.out.ext (by (repeat (first | (with_reducible assumption) | with_reducible exact Ext.refl _ | with_reducible apply Ext.alloc | with_reducible apply Ext.drew | with_reducible apply Ext.drewN | ((with_reducible apply Ext.set); case hp => (first | (simp; done) | (dsimp only; omega) | omega)) | ((with_reducible apply Ext.trans); case k => with_reducible assumption)))))).mono ?_; rintro e w3 ⟨rfl, h3⟩)
              | (go_at_call 133; refine (HL.out _ (HX.out.ext (by (repeat (first | (with_reducible assumption) | with_reducible exact Ext.refl _ | with_reducible apply Ext.alloc | with_reducible apply Ext.drew | with_reducible apply Ext.drewN | ((with_reducible apply Ext.set); case hp => (first | (simp; done) | (dsimp only; omega) | omega)) | ((with_reducible apply Ext.trans); case k => with_reducible assumption)))))).mono ?_; rintro e w4 ⟨rfl, h4⟩))
          all_goals
            go_wp2_with fail
            go_meet
            exact ⟨by rw [e1, e2]; rfl, by (repeat (first | (with_reducible assumption) | ((with_reducible apply Blk.new_at); focus (first | (simp; done) | (simp; omega))) | with_reducible apply Blk.alloc | with_reducible apply Blk.drew | with_reducible apply Blk.drewN | with_reducible apply Blk.set | ((with_reducible apply Blk.far); case hp => (first | (simp; done) | (dsimp only; omega))) | ((with_reducible apply Blk.ext); case he => with_reducible assumption))), by (repeat (first | (with_reducible assumption) | with_reducible exact Ext.refl _ | with_reducible apply Ext.alloc | with_reducible apply Ext.drew | with_reducible apply Ext.drewN | ((with_reducible apply Ext.set); case hp => (first | (simp; done) | (dsimp only; omega) | omega)) | ((with_reducible apply Ext.trans); case k => with_reducible assumption)))⟩
      · obtain ⟨⟨a3, a03⟩, ⟨q1, q2⟩, q3, q4⟩ := HCELL.out w (Ext.refl _)
        have hg1 : decide (0 < m) = true := by simp; omega
        have hg2 : decide ((0 : Int) < (m : Int)) = true := by simp; omega
        have hblA : bA < w.heap.size := World.block_lt_of_cell? w _ a3
        have hblB : bB < w.heap.size := World.block_lt_of_cell? w _ q1
        go_quiet (fail)
        go_wp2_with fail
        go_meet
        exact ⟨by rw [e1]; rfl, by (repeat (first | (with_reducible assumption) | ((with_reducible apply Blk.new_at); focus (first | (simp; done) | (simp; omega))) | with_reducible apply Blk.alloc | with_reducible apply Blk.drew | with_reducible apply Blk.drewN | with_reducible apply Blk.set | ((with_reducible apply Blk.far); case hp => (first | (simp; done) | (dsimp only; omega))) | ((with_reducible apply Blk.ext); case he => with_reducible assumption))), by (repeat (first | (with_reducible assumption) | with_reducible exact Ext.refl _ | with_reducible apply Ext.alloc | with_reducible apply Ext.drew | with_reducible apply Ext.drewN | ((with_reducible apply Ext.set); case hp => (first | (simp; done) | (dsimp only; omega) | omega)) | ((with_reducible apply Ext.trans); case k => with_reducible assumption)))⟩
    case rest =>
      obtain ⟨rfl, hX, he⟩ := hcut
      obtain ⟨sb, hsb⟩ : ∃ s, ((d.axis != d0.axis) || !(bs.toList == ls.toList)) = s := ⟨_, rfl⟩
      rw [hsb] at hshape ⊢
      clear hsb
      cases sb
      case true =>
        have hr := Lib.hid (goesE_8 hrg.out hshape.out)
        go_wp2_with fail
        go_ret
        exact Ret.int hr.out.symm (by (repeat (first | (with_reducible assumption) | with_reducible exact Ext.refl _ | with_reducible apply Ext.alloc | with_reducible apply Ext.drew | with_reducible apply Ext.drewN | ((with_reducible apply Ext.set); case hp => (first | (simp; done) | (dsimp only; omega) | omega)) | ((with_reducible apply Ext.trans); case k => with_reducible assumption))))
      case false =>
        go_wp2_with fail
        go_loopw [8] (fun j wr => ∃ k : Nat, k ≤ m ∧ j = .int .i64 k ∧ Blk wr w.heap.size #[.int .i64 (p : Int), .bool bk] 145 ∧ Ext w wr ∧ Hid (∀ j, j < k → ((cs.getD j zeroK).dim == (p : Int)) = false ∧ (0 < j → sameS (beginS xs (cs.getD j zeroK)) ss = false))) (fun j _ => m - (intOf j).toNat)
        case atStart => exact ⟨0, Nat.zero_le _, rfl, hX, he, fun j hj => by omega⟩
        case round =>
          obtain ⟨k, hkm, rfl, hX, he, hno⟩ := hrel
          by_cases hlt : k < m
          · obtain ⟨⟨iy, bY⟩, hy⟩ : ∃ x, cs.getD k zeroK = x := ⟨_, rfl⟩
            have hry := HIN.out k hlt
            rw [hy] at hry
            dsimp only at hry
            obtain ⟨py, rfl⟩ := Int.eq_ofNat_of_zero_le hry.1
            have hpy : py < n := by omega
            clear hry
            obtain ⟨ys, hys⟩ : ∃ s, beginS xs ⟨(py : Int), bY⟩ = s := ⟨_, rfl⟩
            have HYB : Hid (∀ w, Dims w (some ⟨bA, oA, none⟩) n xs → Calls Try.prog 132 #[.slice (some ⟨bA, oA, none⟩) n c, .agg #[.int .i64 py, .bool bY]] w (Ret (.string ys) w)) := Lib.hid (fun w h => by have := begin_any _ n c xs py bY w h (by omega) (by omega); rwa [hys] at this)
            have HY := Lib.hid hy
            have HYS := Lib.hid hys
            obtain ⟨c1, c2'⟩ := Lnks.cells HCB.out he k hlt _ hy
            clear hy hys
            obtain ⟨x1, x2, x3, x4⟩ := hX.c2
            have hXl := hX.lt
            have hkk : (k : Int) < (m : Int) := by omega
            cases e1 : ((py : Int) == (p : Int))
            case true =>
              have hr := Lib.hid (goesE_7 hrg.out hshape.out (show (usedB cs ⟨(p : Int), bk⟩ || shutB xs cs || begunB xs cs ⟨(p : Int), bk⟩) = true from by rw [used_hit HK.out.len hlt (by rw [HY.out]; exact e1)]; rfl))
              go_wp2_with fail
              go_quiet (fail)
              go_wp2_with fail
              go_ret
              exact Ret.int hr.out.symm (by (repeat (first | (with_reducible assumption) | with_reducible exact Ext.refl _ | with_reducible apply Ext.alloc | with_reducible apply Ext.drew | with_reducible apply Ext.drewN | ((with_reducible apply Ext.set); case hp => (first | (simp; done) | (dsimp only; omega) | omega)) | ((with_reducible apply Ext.trans); case k => with_reducible assumption))))
            case false =>
              by_cases hk0 : k = 0
              · subst hk0
                simp only [Nat.zero_mul, Nat.add_zero] at c1 c2'
                go_wp2_with fail
                go_quiet (fail)
                go_wp2_with fail
                refine ⟨⟨1, by omega, rfl, by (repeat (first | (with_reducible assumption) | ((with_reducible apply Blk.new_at); focus (first | (simp; done) | (simp; omega))) | with_reducible apply Blk.alloc | with_reducible apply Blk.drew | with_reducible apply Blk.drewN | with_reducible apply Blk.set | ((with_reducible apply Blk.far); case hp => (first | (simp; done) | (dsimp only; omega))) | ((with_reducible apply Blk.ext); case he => with_reducible assumption))), by (repeat (first | (with_reducible assumption) | with_reducible exact Ext.refl _ | with_reducible apply Ext.alloc | with_reducible apply Ext.drew | with_reducible apply Ext.drewN | ((with_reducible apply Ext.set); case hp => (first | (simp; done) | (dsimp only; omega) | omega)) | ((with_reducible apply Ext.trans); case k => with_reducible assumption))), fun j hj => ?_⟩, by simp [intOf]; omega⟩
                obtain rfl : j = 0 := by omega
                rw [HY.out]
                exact ⟨e1, fun h => by omega⟩
              · have hg1 : decide (0 < k) = true := by simp; omega
                have hg2 : decide ((0 : Int) < (k : Int)) = true := by simp; omega
                cases e2 : (ys.toList == ss.toList)
                · go_upto_region 9 with fail
                  go_region_held3 (fun W => (W.cell? ⟨w.heap.size, 0, none⟩ = some (.int .i64 p) ∧ W.cell? ⟨w.heap.size, 1, none⟩ = some (.bool bk)) ∧ (W.cell? ⟨bB, oB + k * 2, none⟩ = some (.int .i64 py) ∧ W.cell? ⟨bB, oB + k * 2 + 1, none⟩ = some (.bool bY)))
                    (exact ⟨Blk.r2 (t := 145) (by (repeat (first | (with_reducible assumption) | ((with_reducible apply Blk.new_at); focus (first | (simp; done) | (simp; omega))) | with_reducible apply Blk.alloc | with_reducible apply Blk.drew | with_reducible apply Blk.drewN | with_reducible apply Blk.set | ((with_reducible apply Blk.far); case hp => (first | (simp; done) | (dsimp only; omega))) | ((with_reducible apply Blk.ext); case he => with_reducible assumption)))), Lnks.cells HCB.out (by (repeat (first | (with_reducible assumption) | with_reducible exact Ext.refl _ | with_reducible apply Ext.alloc | with_reducible apply Ext.drew | with_reducible apply Ext.drewN | ((with_reducible apply Ext.set); case hp => (first | (simp; done) | (dsimp only; omega) | omega)) | ((with_reducible apply Ext.trans); case k => with_reducible assumption)))) k hlt _ HY.out⟩)
                    (first
                      | (go_at_call 132; refine (HYB.out _ (HX.out.ext (by (repeat (first | (with_reducible assumption) | with_reducible exact Ext.refl _ | with_reducible apply Ext.alloc | with_reducible apply Ext.drew | with_reducible apply Ext.drewN | ((with_reducible apply Ext.set); case hp => (first | (simp; done) | (dsimp only; omega) | omega)) | ((with_reducible apply Ext.trans); case k => with_reducible assumption)))))).mono ?_; rintro e w3 ⟨rfl, h3⟩)
                      | (go_at_call 133; refine (HS1.out _ (HX.out.ext (by (repeat (first | (with_reducible assumption) | with_reducible exact Ext.refl _ | with_reducible apply Ext.alloc | with_reducible apply Ext.drew | with_reducible apply Ext.drewN | ((with_reducible apply Ext.set); case hp => (first | (simp; done) | (dsimp only; omega) | omega)) | ((with_reducible apply Ext.trans); case k => with_reducible assumption)))))).mono ?_; rintro e w4 ⟨rfl, h4⟩))
                  all_goals
                    go_wp2_with fail
                    refine ⟨⟨k + 1, by omega, by go_num, by (repeat (first | (with_reducible assumption) | ((with_reducible apply Blk.new_at); focus (first | (simp; done) | (simp; omega))) | with_reducible apply Blk.alloc | with_reducible apply Blk.drew | with_reducible apply Blk.drewN | with_reducible apply Blk.set | ((with_reducible apply Blk.far); case hp => (first | (simp; done) | (dsimp only; omega))) | ((with_reducible apply Blk.ext); case he => with_reducible assumption))), by (repeat (first | (with_reducible assumption) | with_reducible exact Ext.refl _ | with_reducible apply Ext.alloc | with_reducible apply Ext.drew | with_reducible apply Ext.drewN | ((with_reducible apply Ext.set); case hp => (first | (simp; done) | (dsimp only; omega) | omega)) | ((with_reducible apply Ext.trans); case k => with_reducible assumption))), fun j hj => ?_⟩, by simp [intOf]; omega⟩
                    by_cases h : j < k
                    · exact hno.out j h
                    · obtain rfl : j = k := by omega
                      rw [HY.out, HYS.out]
                      exact ⟨e1, fun _ => e2⟩
                · have hr := Lib.hid (goesE_7 hrg.out hshape.out (show (usedB cs ⟨(p : Int), bk⟩ || shutB xs cs || begunB xs cs ⟨(p : Int), bk⟩) = true from by rw [begun_hit HK.out.len (by omega) hlt HSS.out (by rw [HY.out, HYS.out]; exact e2)]; simp))
                  go_upto_region 9 with fail
                  go_region_held3 (fun W => (W.cell? ⟨w.heap.size, 0, none⟩ = some (.int .i64 p) ∧ W.cell? ⟨w.heap.size, 1, none⟩ = some (.bool bk)) ∧ (W.cell? ⟨bB, oB + k * 2, none⟩ = some (.int .i64 py) ∧ W.cell? ⟨bB, oB + k * 2 + 1, none⟩ = some (.bool bY)))
                    (exact ⟨Blk.r2 (t := 145) (by (repeat (first | (with_reducible assumption) | ((with_reducible apply Blk.new_at); focus (first | (simp; done) | (simp; omega))) | with_reducible apply Blk.alloc | with_reducible apply Blk.drew | with_reducible apply Blk.drewN | with_reducible apply Blk.set | ((with_reducible apply Blk.far); case hp => (first | (simp; done) | (dsimp only; omega))) | ((with_reducible apply Blk.ext); case he => with_reducible assumption)))), Lnks.cells HCB.out (by (repeat (first | (with_reducible assumption) | with_reducible exact Ext.refl _ | with_reducible apply Ext.alloc | with_reducible apply Ext.drew | with_reducible apply Ext.drewN | ((with_reducible apply Ext.set); case hp => (first | (simp; done) | (dsimp only; omega) | omega)) | ((with_reducible apply Ext.trans); case k => with_reducible assumption)))) k hlt _ HY.out⟩)
                    (first
                      | (go_at_call 132; refine (HYB.out _ (HX.out.ext (by (repeat (first | (with_reducible assumption) | with_reducible exact Ext.refl _ | with_reducible apply Ext.alloc | with_reducible apply Ext.drew | with_reducible apply Ext.drewN | ((with_reducible apply Ext.set); case hp => (first | (simp; done) | (dsimp only; omega) | omega)) | ((with_reducible apply Ext.trans); case k => with_reducible assumption)))))).mono ?_; rintro e w3 ⟨rfl, h3⟩)
                      | (go_at_call 133; refine (HS1.out _ (HX.out.ext (by (repeat (first | (with_reducible assumption) | with_reducible exact Ext.refl _ | with_reducible apply Ext.alloc | with_reducible apply Ext.drew | with_reducible apply Ext.drewN | ((with_reducible apply Ext.set); case hp => (first | (simp; done) | (dsimp only; omega) | omega)) | ((with_reducible apply Ext.trans); case k => with_reducible assumption)))))).mono ?_; rintro e w4 ⟨rfl, h4⟩))
                  all_goals
                    go_wp2_with fail
                    go_ret
                    exact Ret.int hr.out.symm (by (repeat (first | (with_reducible assumption) | with_reducible exact Ext.refl _ | with_reducible apply Ext.alloc | with_reducible apply Ext.drew | with_reducible apply Ext.drewN | ((with_reducible apply Ext.set); case hp => (first | (simp; done) | (dsimp only; omega) | omega)) | ((with_reducible apply Ext.trans); case k => with_reducible assumption))))
          · obtain ⟨n1, n2⟩ := none_hit HK.out.len HSS.out (fun j hj => hno.out j (by omega))
            have hcellF : ∀ W, Ext w W → (W.cell? ⟨bB, oB, none⟩ = some (.int .i64 p0) ∧ W.cell? ⟨bB, oB + 1, none⟩ = some (.bool b0)) ∧ (W.cell? ⟨bB, oB + m0 * 2, none⟩ = some (.int .i64 pl) ∧ W.cell? ⟨bB, oB + m0 * 2 + 1, none⟩ = some (.bool bl)) := fun W hW => by
              have q0 := Lnks.cells HCB.out hW 0 (by omega) _ HX0.out
              simp only [Nat.zero_mul, Nat.add_zero] at q0
              exact ⟨q0, Lnks.cells HCB.out hW m0 (by omega) _ HXL.out⟩
            have HCF := Lib.hid hcellF
            clear hcellF
            cases e3 : (fs.toList == ls.toList)
            · have hr := Lib.hid (goesE_0 hrg.out hshape.out (show (usedB cs ⟨(p : Int), bk⟩ || shutB xs cs || begunB xs cs ⟨(p : Int), bk⟩) = false from by rw [n1, n2, hshut.out, e3]; rfl))
              clear n1 n2
              go_upto_region 11 with fail
              go_region_held3 (fun W => (W.cell? ⟨bB, oB, none⟩ = some (.int .i64 p0) ∧ W.cell? ⟨bB, oB + 1, none⟩ = some (.bool b0)) ∧ (W.cell? ⟨bB, oB + m0 * 2, none⟩ = some (.int .i64 pl) ∧ W.cell? ⟨bB, oB + m0 * 2 + 1, none⟩ = some (.bool bl)))
                (exact HCF.out _ (by (repeat (first | (with_reducible assumption) | with_reducible exact Ext.refl _ | with_reducible apply Ext.alloc | with_reducible apply Ext.drew | with_reducible apply Ext.drewN | ((with_reducible apply Ext.set); case hp => (first | (simp; done) | (dsimp only; omega) | omega)) | ((with_reducible apply Ext.trans); case k => with_reducible assumption)))))
                (first
                  | (go_at_call 132; refine (HF.out _ (HX.out.ext (by (repeat (first | (with_reducible assumption) | with_reducible exact Ext.refl _ | with_reducible apply Ext.alloc | with_reducible apply Ext.drew | with_reducible apply Ext.drewN | ((with_reducible apply Ext.set); case hp => (first | (simp; done) | (dsimp only; omega) | omega)) | ((with_reducible apply Ext.trans); case k => with_reducible assumption)))))).mono ?_; rintro e w3 ⟨rfl, h3⟩)
                  | (go_at_call 133; refine (HL.out _ (HX.out.ext (by (repeat (first | (with_reducible assumption) | with_reducible exact Ext.refl _ | with_reducible apply Ext.alloc | with_reducible apply Ext.drew | with_reducible apply Ext.drewN | ((with_reducible apply Ext.set); case hp => (first | (simp; done) | (dsimp only; omega) | omega)) | ((with_reducible apply Ext.trans); case k => with_reducible assumption)))))).mono ?_; rintro e w4 ⟨rfl, h4⟩))
              all_goals
                go_wp2_with fail
                go_ret
                exact Ret.int hr.out.symm (by (repeat (first | (with_reducible assumption) | with_reducible exact Ext.refl _ | with_reducible apply Ext.alloc | with_reducible apply Ext.drew | with_reducible apply Ext.drewN | ((with_reducible apply Ext.set); case hp => (first | (simp; done) | (dsimp only; omega) | omega)) | ((with_reducible apply Ext.trans); case k => with_reducible assumption))))
            · have hr := Lib.hid (goesE_7 hrg.out hshape.out (show (usedB cs ⟨(p : Int), bk⟩ || shutB xs cs || begunB xs cs ⟨(p : Int), bk⟩) = true from by rw [hshut.out, e3]; simp))
              clear n1 n2
              go_upto_region 11 with fail
              go_region_held3 (fun W => (W.cell? ⟨bB, oB, none⟩ = some (.int .i64 p0) ∧ W.cell? ⟨bB, oB + 1, none⟩ = some (.bool b0)) ∧ (W.cell? ⟨bB, oB + m0 * 2, none⟩ = some (.int .i64 pl) ∧ W.cell? ⟨bB, oB + m0 * 2 + 1, none⟩ = some (.bool bl)))
                (exact HCF.out _ (by (repeat (first | (with_reducible assumption) | with_reducible exact Ext.refl _ | with_reducible apply Ext.alloc | with_reducible apply Ext.drew | with_reducible apply Ext.drewN | ((with_reducible apply Ext.set); case hp => (first | (simp; done) | (dsimp only; omega) | omega)) | ((with_reducible apply Ext.trans); case k => with_reducible assumption)))))
                (first
                  | (go_at_call 132; refine (HF.out _ (HX.out.ext (by (repeat (first | (with_reducible assumption) | with_reducible exact Ext.refl _ | with_reducible apply Ext.alloc | with_reducible apply Ext.drew | with_reducible apply Ext.drewN | ((with_reducible apply Ext.set); case hp => (first | (simp; done) | (dsimp only; omega) | omega)) | ((with_reducible apply Ext.trans); case k => with_reducible assumption)))))).mono ?_; rintro e w3 ⟨rfl, h3⟩)
                  | (go_at_call 133; refine (HL.out _ (HX.out.ext (by (repeat (first | (with_reducible assumption) | with_reducible exact Ext.refl _ | with_reducible apply Ext.alloc | with_reducible apply Ext.drew | with_reducible apply Ext.drewN | ((with_reducible apply Ext.set); case hp => (first | (simp; done) | (dsimp only; omega) | omega)) | ((with_reducible apply Ext.trans); case k => with_reducible assumption)))))).mono ?_; rintro e w4 ⟨rfl, h4⟩))
              all_goals
                go_wp2_with fail
                go_ret
                exact Ret.int hr.out.symm (by (repeat (first | (with_reducible assumption) | with_reducible exact Ext.refl _ | with_reducible apply Ext.alloc | with_reducible apply Ext.drew | with_reducible apply Ext.drewN | ((with_reducible apply Ext.set); case hp => (first | (simp; done) | (dsimp only; omega) | omega)) | ((with_reducible apply Ext.trans); case k => with_reducible assumption))))
end Go.Proofs.Ytdcedfciaaooiaa
