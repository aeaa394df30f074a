/- The law StackAttains returns true at every input: the walk. -/
import Derived.Test.YtdcedfciaaooiabA26
import Derived.Test.YtdcedfciaaooiabO25
import Derived.Test.YtdcedfciaaooiabG26
import Derived.Test.YtdcedfciaaooiabH26
import Derived.Test.YtdcedfciaaooiabN25
import Derived.Test.YtdcedfciaaooiabP26
import Derived.Deep.AppendLies
set_option linter.unusedVariables false
namespace Go.Proofs.Ytdcedfciaaooiab
open Go.RowKit

def someL (xs : List Dim) (bs : List Int) (q : Nat) : List Int := (List.range q).map fun i => (xs.getD i zeroD).lo + bs.getD i 0 % ((xs.getD i zeroD).hi - (xs.getD i zeroD).lo + 1)
theorem someL_snoc (xs : List Dim) (bs : List Int) (q : Nat) : someL xs bs (q + 1) = someL xs bs q ++ [(xs.getD q zeroD).lo + bs.getD q 0 % ((xs.getD q zeroD).hi - (xs.getD q zeroD).lo + 1)] := by
  simp [someL, List.range_succ]
theorem someL_part {n m : Nat} {xs : List Dim} {cs : List Lk} (h : RT n m xs cs) (bs : List Int) : PartOf n xs (someL xs bs n) := by
  intro i hi
  have he : (someL xs bs n).getD i 0 = (xs.getD i zeroD).lo + bs.getD i 0 % ((xs.getD i zeroD).hi - (xs.getD i zeroD).lo + 1) := by
    unfold someL
    rw [List.getD_eq_getElem?_getD, List.getElem?_map, List.getElem?_range hi]
    rfl
  have hl := h.lims i hi
  rw [he]
  generalize (xs.getD i zeroD).lo = a at hl ⊢
  generalize (xs.getD i zeroD).hi = b at hl ⊢
  have h1 := Int.emod_nonneg (bs.getD i 0) (b := b - a + 1) (by omega)
  have h2 := Int.emod_lt_of_pos (bs.getD i 0) (b := b - a + 1) (by omega)
  omega
theorem six_range {b0 b1 b2 b3 b4 b5 : Int} (h0 : 0 ≤ b0 ∧ b0 ≤ 65535) (h1 : 0 ≤ b1 ∧ b1 ≤ 65535) (h2 : 0 ≤ b2 ∧ b2 ≤ 65535) (h3 : 0 ≤ b3 ∧ b3 ≤ 65535) (h4 : 0 ≤ b4 ∧ b4 ≤ 65535) (h5 : 0 ≤ b5 ∧ b5 ≤ 65535) (q : Nat) (hq : q < 6) : 0 ≤ [b0, b1, b2, b3, b4, b5].getD q 0 ∧ [b0, b1, b2, b3, b4, b5].getD q 0 ≤ 65535 := by
  match q, hq with
  | 0, _ => exact h0
  | 1, _ => exact h1
  | 2, _ => exact h2
  | 3, _ => exact h3
  | 4, _ => exact h4
  | 5, _ => exact h5
theorem six_cell {b0 b1 b2 b3 b4 b5 : Int} {W : World} {g : Nat} {t : TypeId} (h : Blk W g #[.int .u16 b0, .int .u16 b1, .int .u16 b2, .int .u16 b3, .int .u16 b4, .int .u16 b5] t) (q : Nat) (hq : q < 6) : W.cell? ⟨g, q, none⟩ = some (.int .u16 ([b0, b1, b2, b3, b4, b5].getD q 0)) := by
  have := h.cell q
  match q, hq with
  | 0, _ => exact this
  | 1, _ => exact this
  | 2, _ => exact this
  | 3, _ => exact this
  | 4, _ => exact this
  | 5, _ => exact this
theorem keep34 {W : World} {g : Nat} {d : Dim} {t : TypeId} (h : Blk W g #[.string d.frm, .string d.to, .int .i64 d.axis, .int .i64 d.lo, .int .i64 d.hi] t) : W.cell? ⟨g, 3, none⟩ = some (.int .i64 d.lo) ∧ W.cell? ⟨g, 4, none⟩ = some (.int .i64 d.hi) := ⟨h.cell 3, h.cell 4⟩
theorem ownBlock_lt {W : World} {base size n : Nat} {e : TypeId} {v : Value} {xs : List Value} (h : W.ownsRow base e size v n xs) : ∀ k, v.ownBlock = some k → k < W.heap.size := by
  intro k hk
  rcases h.2 with ⟨rfl, _⟩ | ⟨g, cap, cur, rfl, hb, hg, _⟩
  · cases hk
  · cases hk
    exact (show Blk W _ cur e from hg).lt
set_option maxRecDepth 20000 in
set_option maxHeartbeats 4000000 in
theorem law_stackAttains (A B : Option Addr) (n m c c2 : Nat) (xs : List Dim) (cs : List Lk) (lo hi : Int) (sum b0 b1 b2 b3 b4 b5 : Int) (w : World) (hx : Dims w A n xs) (hk : Lnks w B m cs) (hm4 : m < 8796093022208) (hsm : 0 ≤ sum ∧ sum ≤ 65535) (hb0 : 0 ≤ b0 ∧ b0 ≤ 65535) (hb1 : 0 ≤ b1 ∧ b1 ≤ 65535) (hb2 : 0 ≤ b2 ∧ b2 ≤ 65535) (hb3 : 0 ≤ b3 ∧ b3 ≤ 65535) (hb4 : 0 ≤ b4 ∧ b4 ≤ 65535) (hb5 : 0 ≤ b5 ∧ b5 ≤ 65535) : Calls Try.prog 7 #[.agg #[.slice A n c, .slice B m c2, .int .i64 lo, .int .i64 hi], .int .u16 sum, .agg #[.int .u16 b0, .int .u16 b1, .int .u16 b2, .int .u16 b3, .int .u16 b4, .int .u16 b5]] w (Ret (.bool true) w) := by
  have HX := Lib.hid hx
  have HK := Lib.hid hk
  have hxl := hx.len
  have hkl := hk.len
  clear hx hk
  go_enter Try.func7, Try.ntmps7
  go_wp2_with fail
  refine (right25_any A B n m c c2 xs cs lo hi _ (HX.out.ext (by (repeat (first | (with_reducible assumption) | with_reducible exact Ext.refl _ | with_reducible apply Ext.alloc | with_reducible apply Ext.drew | with_reducible apply Ext.drewN | ((with_reducible apply Ext.set); case hp => (first | (simp; done) | (dsimp only; omega) | omega)) | ((with_reducible apply Ext.trans); case k => with_reducible assumption))))) (HK.out.ext (by (repeat (first | (with_reducible assumption) | with_reducible exact Ext.refl _ | with_reducible apply Ext.alloc | with_reducible apply Ext.drew | with_reducible apply Ext.drewN | ((with_reducible apply Ext.set); case hp => (first | (simp; done) | (dsimp only; omega) | omega)) | ((with_reducible apply Ext.trans); case k => with_reducible assumption))))) hm4).mono ?_
  rintro e w1 ⟨rt, rfl, hrt0, hw1⟩
  cases rt
  case false =>
    go_wp2_with fail; refine (awake25_any _).mono ?_; rintro e w2 ⟨rfl, hw2⟩
    go_wp2_with fail
    go_ret
    exact Ret.bool (by first | rfl | simp) (by (repeat (first | (with_reducible assumption) | with_reducible exact Ext.refl _ | with_reducible apply Ext.alloc | with_reducible apply Ext.drew | with_reducible apply Ext.drewN | ((with_reducible apply Ext.set); case hp => (first | (simp; done) | (dsimp only; omega) | omega)) | ((with_reducible apply Ext.trans); case k => with_reducible assumption))))
  case true =>
    obtain ⟨h6, h⟩ := hrt0 rfl
    have hrt := rt_of HX.out.len HK.out.len (taskE_zero h).1
    have hpe := part_ext hrt
    have HPE := Lib.hid hpe
    have HP0 := Lib.hid (ext_part hrt false)
    have HP1 := Lib.hid (ext_part hrt true)
    have HT0 := Lib.hid (total_end hrt false)
    have HT1 := Lib.hid (total_end hrt true)
    have HSP := Lib.hid (fun s hs => sum_part hrt s hs)
    have HIN := Lib.hid (fun vs (hp : PartOf n xs vs) => total_in hrt hp)
    have HSM := Lib.hid (fun vs (hp : PartOf n xs vs) => hp.small hrt)
    have HMEM := Lib.hid (fun j (hj : j < m) => (by have h1 := (hrt.fine j hj).1; have h2 := hrt.mem j hj; omega : 0 ≤ (cs.getD j zeroK).dim ∧ (cs.getD j zeroK).dim < (n : Int)))
    have HLIM := Lib.hid hrt.lims
    have HSO := Lib.hid (fun bs => someL_part hrt bs)
    have hle := ends_le hrt
    have hr1 := hrt.range 1
    have hr2 := hrt.range (-1)
    have hm256 := hrt.m256
    have hm0 := hrt.m0
    have hn0 : 0 < n := by have := hrt.mem 0 hrt.m0; omega
    have HH := Lib.hid h
    have hce := (taskE_zero h).1
    have HCE := Lib.hid hce
    clear hpe hrt h hrt0 hce
    obtain ⟨L, hL⟩ : ∃ L, endS 1 xs cs = L := ⟨_, rfl⟩
    obtain ⟨H, hH⟩ : ∃ H, endS (-1) xs cs = H := ⟨_, rfl⟩
    have HLS := Lib.hid hL
    have HHS := Lib.hid hH
    rw [hL] at hle hr1
    rw [hH] at hle hr2
    have HSL := Lib.hid (fun w (h1 : Dims w A n xs) (h2 : Lnks w B m cs) => (by have := slimits_ok A B n m c c2 xs cs lo hi w h1 h2 HH.out; rwa [hL, hH] at this : Calls Try.prog 18 #[.agg #[.slice A n c, .slice B m c2, .int .i64 lo, .int .i64 hi]] w (Ret (.tuple #[.agg #[.int .i64 L, .int .i64 H], .int .i64 0]) w)))
    clear hL hH
    have P : Blk w1 w.heap.size #[.slice A n c, .slice B m c2, .int .i64 lo, .int .i64 hi] 27 := by (repeat (first | (with_reducible assumption) | ((with_reducible apply Blk.new_at); focus (first | (simp; done) | (simp; omega))) | with_reducible apply Blk.alloc | with_reducible apply Blk.drew | with_reducible apply Blk.drewN | with_reducible apply Blk.set | ((with_reducible apply Blk.far); case hp => (first | (simp; done) | (dsimp only; omega))) | ((with_reducible apply Blk.ext); case he => with_reducible assumption)))
    have P0 := P.cell 0
    have P1 := P.cell 1
    have P2 := P.cell 2
    have P3 := P.cell 3
    simp at P0 P1 P2 P3
    have Pl := P.lt
    go_wp2_with fail; refine (HSL.out _ (HX.out.ext (by (repeat (first | (with_reducible assumption) | with_reducible exact Ext.refl _ | with_reducible apply Ext.alloc | with_reducible apply Ext.drew | with_reducible apply Ext.drewN | ((with_reducible apply Ext.set); case hp => (first | (simp; done) | (dsimp only; omega) | omega)) | ((with_reducible apply Ext.trans); case k => with_reducible assumption))))) (HK.out.ext (by (repeat (first | (with_reducible assumption) | with_reducible exact Ext.refl _ | with_reducible apply Ext.alloc | with_reducible apply Ext.drew | with_reducible apply Ext.drewN | ((with_reducible apply Ext.set); case hp => (first | (simp; done) | (dsimp only; omega) | omega)) | ((with_reducible apply Ext.trans); case k => with_reducible assumption)))))).mono ?_; rintro e w2 ⟨rfl, hw2⟩
    have Q : Blk w2 w.heap.size #[.slice A n c, .slice B m c2, .int .i64 lo, .int .i64 hi] 27 := by (repeat (first | (with_reducible assumption) | ((with_reducible apply Blk.new_at); focus (first | (simp; done) | (simp; omega))) | with_reducible apply Blk.alloc | with_reducible apply Blk.drew | with_reducible apply Blk.drewN | with_reducible apply Blk.set | ((with_reducible apply Blk.far); case hp => (first | (simp; done) | (dsimp only; omega))) | ((with_reducible apply Blk.ext); case he => with_reducible assumption)))
    have Q0 := Q.cell 0
    have Q1 := Q.cell 1
    have Q2 := Q.cell 2
    have Q3 := Q.cell 3
    simp at Q0 Q1 Q2 Q3
    have Ql := Q.lt
    go_wp2_with fail
    refine (sattain_false A B n m c c2 xs cs lo hi _ (HX.out.ext (by (repeat (first | (with_reducible assumption) | with_reducible exact Ext.refl _ | with_reducible apply Ext.alloc | with_reducible apply Ext.drew | with_reducible apply Ext.drewN | ((with_reducible apply Ext.set); case hp => (first | (simp; done) | (dsimp only; omega) | omega)) | ((with_reducible apply Ext.trans); case k => with_reducible assumption))))) (HK.out.ext (by (repeat (first | (with_reducible assumption) | with_reducible exact Ext.refl _ | with_reducible apply Ext.alloc | with_reducible apply Ext.drew | with_reducible apply Ext.drewN | ((with_reducible apply Ext.set); case hp => (first | (simp; done) | (dsimp only; omega) | omega)) | ((with_reducible apply Ext.trans); case k => with_reducible assumption))))) HH.out).mono ?_
    rintro e w3 ⟨g3, cap3, cur3, rfl, I3, hw3⟩
    have R : Blk w3 w.heap.size #[.slice A n c, .slice B m c2, .int .i64 lo, .int .i64 hi] 27 := by (repeat (first | (with_reducible assumption) | ((with_reducible apply Blk.new_at); focus (first | (simp; done) | (simp; omega))) | with_reducible apply Blk.alloc | with_reducible apply Blk.drew | with_reducible apply Blk.drewN | with_reducible apply Blk.set | ((with_reducible apply Blk.far); case hp => (first | (simp; done) | (dsimp only; omega))) | ((with_reducible apply Blk.ext); case he => with_reducible assumption)))
    have R0 := R.cell 0
    have R1 := R.cell 1
    have R2 := R.cell 2
    have R3 := R.cell 3
    simp at R0 R1 R2 R3
    have Rl := R.lt
    go_wp2_with fail
    refine (sattain_true A B n m c c2 xs cs lo hi _ (HX.out.ext (by (repeat (first | (with_reducible assumption) | with_reducible exact Ext.refl _ | with_reducible apply Ext.alloc | with_reducible apply Ext.drew | with_reducible apply Ext.drewN | ((with_reducible apply Ext.set); case hp => (first | (simp; done) | (dsimp only; omega) | omega)) | ((with_reducible apply Ext.trans); case k => with_reducible assumption))))) (HK.out.ext (by (repeat (first | (with_reducible assumption) | with_reducible exact Ext.refl _ | with_reducible apply Ext.alloc | with_reducible apply Ext.drew | with_reducible apply Ext.drewN | ((with_reducible apply Ext.set); case hp => (first | (simp; done) | (dsimp only; omega) | omega)) | ((with_reducible apply Ext.trans); case k => with_reducible assumption))))) HH.out).mono ?_
    rintro e w4 ⟨g4, cap4, cur4, rfl, I4, hw4⟩
    have S : Blk w4 w.heap.size #[.slice A n c, .slice B m c2, .int .i64 lo, .int .i64 hi] 27 := by (repeat (first | (with_reducible assumption) | ((with_reducible apply Blk.new_at); focus (first | (simp; done) | (simp; omega))) | with_reducible apply Blk.alloc | with_reducible apply Blk.drew | with_reducible apply Blk.drewN | with_reducible apply Blk.set | ((with_reducible apply Blk.far); case hp => (first | (simp; done) | (dsimp only; omega))) | ((with_reducible apply Blk.ext); case he => with_reducible assumption)))
    have S0 := S.cell 0
    have S1 := S.cell 1
    have S2 := S.cell 2
    have S3 := S.cell 3
    simp at S0 S1 S2 S3
    have Sl := S.lt
    have J3 := (I3.ints (by omega)).ext hw4
    have J4 := I4.ints (by omega)
    rw [show atE false xs cs = extL false xs cs from HPE.out false] at J3
    rw [show atE true xs cs = extL true xs cs from HPE.out true] at J4
    have HJ3 := Lib.hid J3
    have HJ4 := Lib.hid J4
    clear I3 I4 J3 J4
    have U : Blk w4 (w2.heap.size) #[.int .i64 L, .int .i64 H] 25 := (by (repeat (first | (with_reducible assumption) | ((with_reducible apply Blk.new_at); focus (first | (simp; done) | (simp; omega))) | with_reducible apply Blk.alloc | with_reducible apply Blk.drew | with_reducible apply Blk.drewN | with_reducible apply Blk.set | ((with_reducible apply Blk.far); case hp => (first | (simp; done) | (dsimp only; omega))) | ((with_reducible apply Blk.ext); case he => with_reducible assumption)))); obtain ⟨U1, U2, U3, U4⟩ := U.c2; have U5 := U.lt
    have hHL : decide (H < L) = false := by simp; omega
    go_wp2_with fail; refine (within_ok A B _ n m c c2 cap3 xs lo hi _ _ (HX.out.ext (by (repeat (first | (with_reducible assumption) | with_reducible exact Ext.refl _ | with_reducible apply Ext.alloc | with_reducible apply Ext.drew | with_reducible apply Ext.drewN | ((with_reducible apply Ext.set); case hp => (first | (simp; done) | (dsimp only; omega) | omega)) | ((with_reducible apply Ext.trans); case k => with_reducible assumption))))) (HJ3.out.ext (by (repeat (first | (with_reducible assumption) | with_reducible exact Ext.refl _ | with_reducible apply Ext.alloc | with_reducible apply Ext.drew | with_reducible apply Ext.drewN | ((with_reducible apply Ext.set); case hp => (first | (simp; done) | (dsimp only; omega) | omega)) | ((with_reducible apply Ext.trans); case k => with_reducible assumption))))) HP0.out).mono ?_; rintro e w5 ⟨rfl, hw5⟩
    have T : Blk w5 w.heap.size #[.slice A n c, .slice B m c2, .int .i64 lo, .int .i64 hi] 27 := by (repeat (first | (with_reducible assumption) | ((with_reducible apply Blk.new_at); focus (first | (simp; done) | (simp; omega))) | with_reducible apply Blk.alloc | with_reducible apply Blk.drew | with_reducible apply Blk.drewN | with_reducible apply Blk.set | ((with_reducible apply Blk.far); case hp => (first | (simp; done) | (dsimp only; omega))) | ((with_reducible apply Blk.ext); case he => with_reducible assumption)))
    have T0 := T.cell 0
    have T1 := T.cell 1
    have T2 := T.cell 2
    have T3 := T.cell 3
    simp at T0 T1 T2 T3
    have Tl := T.lt
    go_wp2_with fail; refine (within_ok A B _ n m c c2 cap4 xs lo hi _ _ (HX.out.ext (by (repeat (first | (with_reducible assumption) | with_reducible exact Ext.refl _ | with_reducible apply Ext.alloc | with_reducible apply Ext.drew | with_reducible apply Ext.drewN | ((with_reducible apply Ext.set); case hp => (first | (simp; done) | (dsimp only; omega) | omega)) | ((with_reducible apply Ext.trans); case k => with_reducible assumption))))) (HJ4.out.ext (by (repeat (first | (with_reducible assumption) | with_reducible exact Ext.refl _ | with_reducible apply Ext.alloc | with_reducible apply Ext.drew | with_reducible apply Ext.drewN | ((with_reducible apply Ext.set); case hp => (first | (simp; done) | (dsimp only; omega) | omega)) | ((with_reducible apply Ext.trans); case k => with_reducible assumption))))) HP1.out).mono ?_; rintro e w6 ⟨rfl, hw6⟩
    have V : Blk w6 w.heap.size #[.slice A n c, .slice B m c2, .int .i64 lo, .int .i64 hi] 27 := by (repeat (first | (with_reducible assumption) | ((with_reducible apply Blk.new_at); focus (first | (simp; done) | (simp; omega))) | with_reducible apply Blk.alloc | with_reducible apply Blk.drew | with_reducible apply Blk.drewN | with_reducible apply Blk.set | ((with_reducible apply Blk.far); case hp => (first | (simp; done) | (dsimp only; omega))) | ((with_reducible apply Blk.ext); case he => with_reducible assumption)))
    have V0 := V.cell 0
    have V1 := V.cell 1
    have V2 := V.cell 2
    have V3 := V.cell 3
    simp at V0 V1 V2 V3
    have Vl := V.lt
    go_wp2_with fail; refine (lsum_ok A B _ n m c c2 cap3 xs cs _ _ (HX.out.ext (by (repeat (first | (with_reducible assumption) | with_reducible exact Ext.refl _ | with_reducible apply Ext.alloc | with_reducible apply Ext.drew | with_reducible apply Ext.drewN | ((with_reducible apply Ext.set); case hp => (first | (simp; done) | (dsimp only; omega) | omega)) | ((with_reducible apply Ext.trans); case k => with_reducible assumption))))) (HK.out.ext (by (repeat (first | (with_reducible assumption) | with_reducible exact Ext.refl _ | with_reducible apply Ext.alloc | with_reducible apply Ext.drew | with_reducible apply Ext.drewN | ((with_reducible apply Ext.set); case hp => (first | (simp; done) | (dsimp only; omega) | omega)) | ((with_reducible apply Ext.trans); case k => with_reducible assumption))))) (HJ3.out.ext (by (repeat (first | (with_reducible assumption) | with_reducible exact Ext.refl _ | with_reducible apply Ext.alloc | with_reducible apply Ext.drew | with_reducible apply Ext.drewN | ((with_reducible apply Ext.set); case hp => (first | (simp; done) | (dsimp only; omega) | omega)) | ((with_reducible apply Ext.trans); case k => with_reducible assumption))))) HCE.out hm256 HMEM.out (HSM.out _ HP0.out)).mono ?_; rintro e w7 ⟨rfl, hw7⟩
    rw [HT0.out, show signT false = 1 from rfl, HLS.out]
    have X : Blk w7 w.heap.size #[.slice A n c, .slice B m c2, .int .i64 lo, .int .i64 hi] 27 := by (repeat (first | (with_reducible assumption) | ((with_reducible apply Blk.new_at); focus (first | (simp; done) | (simp; omega))) | with_reducible apply Blk.alloc | with_reducible apply Blk.drew | with_reducible apply Blk.drewN | with_reducible apply Blk.set | ((with_reducible apply Blk.far); case hp => (first | (simp; done) | (dsimp only; omega))) | ((with_reducible apply Blk.ext); case he => with_reducible assumption)))
    have X0 := X.cell 0
    have X1 := X.cell 1
    have X2 := X.cell 2
    have X3 := X.cell 3
    simp at X0 X1 X2 X3
    have Xl := X.lt
    go_wp2_with fail; refine (lsum_ok A B _ n m c c2 cap4 xs cs _ _ (HX.out.ext (by (repeat (first | (with_reducible assumption) | with_reducible exact Ext.refl _ | with_reducible apply Ext.alloc | with_reducible apply Ext.drew | with_reducible apply Ext.drewN | ((with_reducible apply Ext.set); case hp => (first | (simp; done) | (dsimp only; omega) | omega)) | ((with_reducible apply Ext.trans); case k => with_reducible assumption))))) (HK.out.ext (by (repeat (first | (with_reducible assumption) | with_reducible exact Ext.refl _ | with_reducible apply Ext.alloc | with_reducible apply Ext.drew | with_reducible apply Ext.drewN | ((with_reducible apply Ext.set); case hp => (first | (simp; done) | (dsimp only; omega) | omega)) | ((with_reducible apply Ext.trans); case k => with_reducible assumption))))) (HJ4.out.ext (by (repeat (first | (with_reducible assumption) | with_reducible exact Ext.refl _ | with_reducible apply Ext.alloc | with_reducible apply Ext.drew | with_reducible apply Ext.drewN | ((with_reducible apply Ext.set); case hp => (first | (simp; done) | (dsimp only; omega) | omega)) | ((with_reducible apply Ext.trans); case k => with_reducible assumption))))) HCE.out hm256 HMEM.out (HSM.out _ HP1.out)).mono ?_; rintro e w8 ⟨rfl, hw8⟩
    rw [HT1.out, show signT true = -1 from rfl, HHS.out]
    have Y : Blk w8 w.heap.size #[.slice A n c, .slice B m c2, .int .i64 lo, .int .i64 hi] 27 := by (repeat (first | (with_reducible assumption) | ((with_reducible apply Blk.new_at); focus (first | (simp; done) | (simp; omega))) | with_reducible apply Blk.alloc | with_reducible apply Blk.drew | with_reducible apply Blk.drewN | with_reducible apply Blk.set | ((with_reducible apply Blk.far); case hp => (first | (simp; done) | (dsimp only; omega))) | ((with_reducible apply Blk.ext); case he => with_reducible assumption)))
    have Y0 := Y.cell 0
    have Y1 := Y.cell 1
    have Y2 := Y.cell 2
    have Y3 := Y.cell 3
    simp at Y0 Y1 Y2 Y3
    have Yl := Y.lt
    clear P P0 P1 P2 P3 Q Q0 Q1 Q2 Q3 R R0 R1 R2 R3 S S0 S1 S2 S3 T T0 T1 T2 T3 V V0 V1 V2 V3 X X0 X1 X2 X3 U U1 U2 U3 U4
    have hw48 : Ext w4 w8 := by (repeat (first | (with_reducible assumption) | with_reducible exact Ext.refl _ | with_reducible apply Ext.alloc | with_reducible apply Ext.drew | with_reducible apply Ext.drewN | ((with_reducible apply Ext.set); case hp => (first | (simp; done) | (dsimp only; omega) | omega)) | ((with_reducible apply Ext.trans); case k => with_reducible assumption)))
    clear hw5 hw6 hw7 hw8
    have U : Blk w8 (w2.heap.size) #[.int .i64 L, .int .i64 H] 25 := (by (repeat (first | (with_reducible assumption) | ((with_reducible apply Blk.new_at); focus (first | (simp; done) | (simp; omega))) | with_reducible apply Blk.alloc | with_reducible apply Blk.drew | with_reducible apply Blk.drewN | with_reducible apply Blk.set | ((with_reducible apply Blk.far); case hp => (first | (simp; done) | (dsimp only; omega))) | ((with_reducible apply Blk.ext); case he => with_reducible assumption)))); obtain ⟨U1, U2, U3, U4⟩ := U.c2; have U5 := U.lt
    obtain ⟨R, hR⟩ : ∃ R, sum % (H - L + 1) = R := ⟨_, rfl⟩
    have hRb : 0 ≤ R ∧ R < H - L + 1 := by rw [← hR]; exact ⟨Int.emod_nonneg _ (by omega), Int.emod_lt_of_pos _ (by omega)⟩
    go_wp2_with fail
    go_quiet (fail)
    go_wp2_with fail
    clear hR
    obtain ⟨M, hM⟩ : ∃ M, L + R = M := ⟨_, rfl⟩
    have hMb : L ≤ M ∧ M ≤ H := by omega
    rw [hM]
    have HMS := Lib.hid (show endS 1 xs cs ≤ M ∧ M ≤ endS (-1) xs cs by rw [HLS.out, HHS.out]; exact hMb)
    obtain ⟨W8, hW8⟩ : ∃ W, w8.drewN nq = W := ⟨_, rfl⟩
    have e8 : Ext w8 W8 := by rw [← hW8]; (repeat (first | (with_reducible assumption) | with_reducible exact Ext.refl _ | with_reducible apply Ext.alloc | with_reducible apply Ext.drew | with_reducible apply Ext.drewN | ((with_reducible apply Ext.set); case hp => (first | (simp; done) | (dsimp only; omega) | omega)) | ((with_reducible apply Ext.trans); case k => with_reducible assumption)))
    rw [hW8]
    clear hM hRb Y Y0 Y1 Y2 Y3 U U1 U2 U3 U4 hW8
    have hw8 : Ext w4 W8 := by (repeat (first | (with_reducible assumption) | with_reducible exact Ext.refl _ | with_reducible apply Ext.alloc | with_reducible apply Ext.drew | with_reducible apply Ext.drewN | ((with_reducible apply Ext.set); case hp => (first | (simp; done) | (dsimp only; omega) | omega)) | ((with_reducible apply Ext.trans); case k => with_reducible assumption)))
    clear hw48 e8
    refine (spart_ok M A B n m c c2 xs cs lo hi _ (HX.out.ext (by (repeat (first | (with_reducible assumption) | with_reducible exact Ext.refl _ | with_reducible apply Ext.alloc | with_reducible apply Ext.drew | with_reducible apply Ext.drewN | ((with_reducible apply Ext.set); case hp => (first | (simp; done) | (dsimp only; omega) | omega)) | ((with_reducible apply Ext.trans); case k => with_reducible assumption))))) (HK.out.ext (by (repeat (first | (with_reducible assumption) | with_reducible exact Ext.refl _ | with_reducible apply Ext.alloc | with_reducible apply Ext.drew | with_reducible apply Ext.drewN | ((with_reducible apply Ext.set); case hp => (first | (simp; done) | (dsimp only; omega) | omega)) | ((with_reducible apply Ext.trans); case k => with_reducible assumption))))) HH.out HMS.out).mono ?_
    rintro e w9 ⟨g9, cap9, cur9, rfl, I9, hw9⟩
    have J9 := I9.ints (by omega)
    have HJ9 := Lib.hid J9
    clear I9 J9
    have U : Blk w9 (w2.heap.size) #[.int .i64 L, .int .i64 H] 25 := (by (repeat (first | (with_reducible assumption) | ((with_reducible apply Blk.new_at); focus (first | (simp; done) | (simp; omega))) | with_reducible apply Blk.alloc | with_reducible apply Blk.drew | with_reducible apply Blk.drewN | with_reducible apply Blk.set | ((with_reducible apply Blk.far); case hp => (first | (simp; done) | (dsimp only; omega))) | ((with_reducible apply Blk.ext); case he => with_reducible assumption)))); obtain ⟨U1, U2, U3, U4⟩ := U.c2; have U5 := U.lt
    have hLL : (L != L) = false := by simp
    have hLHH : (H != H) = false := by simp
    have T : Blk w9 w.heap.size #[.slice A n c, .slice B m c2, .int .i64 lo, .int .i64 hi] 27 := by (repeat (first | (with_reducible assumption) | ((with_reducible apply Blk.new_at); focus (first | (simp; done) | (simp; omega))) | with_reducible apply Blk.alloc | with_reducible apply Blk.drew | with_reducible apply Blk.drewN | with_reducible apply Blk.set | ((with_reducible apply Blk.far); case hp => (first | (simp; done) | (dsimp only; omega))) | ((with_reducible apply Blk.ext); case he => with_reducible assumption)))
    have T0 := T.cell 0
    have T1 := T.cell 1
    have T2 := T.cell 2
    have T3 := T.cell 3
    simp at T0 T1 T2 T3
    have Tl := T.lt
    go_wp2_with fail; refine (within_ok A B _ n m c c2 cap9 xs lo hi _ _ (HX.out.ext (by (repeat (first | (with_reducible assumption) | with_reducible exact Ext.refl _ | with_reducible apply Ext.alloc | with_reducible apply Ext.drew | with_reducible apply Ext.drewN | ((with_reducible apply Ext.set); case hp => (first | (simp; done) | (dsimp only; omega) | omega)) | ((with_reducible apply Ext.trans); case k => with_reducible assumption))))) (HJ9.out.ext (by (repeat (first | (with_reducible assumption) | with_reducible exact Ext.refl _ | with_reducible apply Ext.alloc | with_reducible apply Ext.drew | with_reducible apply Ext.drewN | ((with_reducible apply Ext.set); case hp => (first | (simp; done) | (dsimp only; omega) | omega)) | ((with_reducible apply Ext.trans); case k => with_reducible assumption))))) (HSP.out _ HMS.out).1).mono ?_; rintro e w10 ⟨rfl, hw10⟩
    have V : Blk w10 w.heap.size #[.slice A n c, .slice B m c2, .int .i64 lo, .int .i64 hi] 27 := by (repeat (first | (with_reducible assumption) | ((with_reducible apply Blk.new_at); focus (first | (simp; done) | (simp; omega))) | with_reducible apply Blk.alloc | with_reducible apply Blk.drew | with_reducible apply Blk.drewN | with_reducible apply Blk.set | ((with_reducible apply Blk.far); case hp => (first | (simp; done) | (dsimp only; omega))) | ((with_reducible apply Blk.ext); case he => with_reducible assumption)))
    have V0 := V.cell 0
    have V1 := V.cell 1
    have V2 := V.cell 2
    have V3 := V.cell 3
    simp at V0 V1 V2 V3
    have Vl := V.lt
    go_wp2_with fail; refine (lsum_ok A B _ n m c c2 cap9 xs cs _ _ (HX.out.ext (by (repeat (first | (with_reducible assumption) | with_reducible exact Ext.refl _ | with_reducible apply Ext.alloc | with_reducible apply Ext.drew | with_reducible apply Ext.drewN | ((with_reducible apply Ext.set); case hp => (first | (simp; done) | (dsimp only; omega) | omega)) | ((with_reducible apply Ext.trans); case k => with_reducible assumption))))) (HK.out.ext (by (repeat (first | (with_reducible assumption) | with_reducible exact Ext.refl _ | with_reducible apply Ext.alloc | with_reducible apply Ext.drew | with_reducible apply Ext.drewN | ((with_reducible apply Ext.set); case hp => (first | (simp; done) | (dsimp only; omega) | omega)) | ((with_reducible apply Ext.trans); case k => with_reducible assumption))))) (HJ9.out.ext (by (repeat (first | (with_reducible assumption) | with_reducible exact Ext.refl _ | with_reducible apply Ext.alloc | with_reducible apply Ext.drew | with_reducible apply Ext.drewN | ((with_reducible apply Ext.set); case hp => (first | (simp; done) | (dsimp only; omega) | omega)) | ((with_reducible apply Ext.trans); case k => with_reducible assumption))))) HCE.out hm256 HMEM.out (HSM.out _ (HSP.out _ HMS.out).1)).mono ?_; rintro e w11 ⟨rfl, hw11⟩
    rw [(HSP.out _ HMS.out).2]
    clear T T0 T1 T2 T3 V V0 V1 V2 V3 U U1 U2 U3 U4
    have Y : Blk w11 w.heap.size #[.slice A n c, .slice B m c2, .int .i64 lo, .int .i64 hi] 27 := by (repeat (first | (with_reducible assumption) | ((with_reducible apply Blk.new_at); focus (first | (simp; done) | (simp; omega))) | with_reducible apply Blk.alloc | with_reducible apply Blk.drew | with_reducible apply Blk.drewN | with_reducible apply Blk.set | ((with_reducible apply Blk.far); case hp => (first | (simp; done) | (dsimp only; omega))) | ((with_reducible apply Blk.ext); case he => with_reducible assumption)))
    have Y0 := Y.cell 0
    have Y1 := Y.cell 1
    have Y2 := Y.cell 2
    have Y3 := Y.cell 3
    simp at Y0 Y1 Y2 Y3
    have Yl := Y.lt
    have HBY : Hid (Blk w11 (w.heap.size + 1) #[.int .u16 b0, .int .u16 b1, .int .u16 b2, .int .u16 b3, .int .u16 b4, .int .u16 b5] 74) := Lib.hid (by (repeat (first | (with_reducible assumption) | ((with_reducible apply Blk.new_at); focus (first | (simp; done) | (simp; omega))) | with_reducible apply Blk.alloc | with_reducible apply Blk.drew | with_reducible apply Blk.drewN | with_reducible apply Blk.set | ((with_reducible apply Blk.far); case hp => (first | (simp; done) | (dsimp only; omega))) | ((with_reducible apply Blk.ext); case he => with_reducible assumption))))
    obtain ⟨bs, hbs⟩ : ∃ l, [b0, b1, b2, b3, b4, b5] = l := ⟨_, rfl⟩
    have HBR : Hid (∀ q, q < 6 → 0 ≤ bs.getD q 0 ∧ bs.getD q 0 ≤ 65535) := Lib.hid (fun q hq => by rw [← hbs]; exact six_range hb0 hb1 hb2 hb3 hb4 hb5 q hq)
    have HBC : Hid (∀ q, q < 6 → ∀ W, Blk W (w.heap.size + 1) #[.int .u16 b0, .int .u16 b1, .int .u16 b2, .int .u16 b3, .int .u16 b4, .int .u16 b5] 74 → W.cell? ⟨w.heap.size + 1, q, none⟩ = some (.int .u16 (bs.getD q 0))) := Lib.hid (fun q hq W hW => by rw [← hbs]; exact six_cell hW q hq)
    obtain ⟨i0, hi0, hz0, hz1, hz2⟩ := info_parts infoInt
    have hi' := Lib.hid hi0
    have hz0' := Lib.hid hz0
    have hz1' := Lib.hid hz1
    have hz2' := Lib.hid hz2
    have hw1s : w.heap.size + 1 < w11.heap.size := by have := HBY.out.lt; omega
    clear hi0 hz0 hz1 hz2 hbs
    have hwA : Ext w w11 := by (repeat (first | (with_reducible assumption) | with_reducible exact Ext.refl _ | with_reducible apply Ext.alloc | with_reducible apply Ext.drew | with_reducible apply Ext.drewN | ((with_reducible apply Ext.set); case hp => (first | (simp; done) | (dsimp only; omega) | omega)) | ((with_reducible apply Ext.trans); case k => with_reducible assumption)))
    go_wp2_with fail
    go_loopw [18, 144] (fun v i wr => ∃ q : Nat, q ≤ n ∧ i = .int .i64 q ∧ Ext w11 wr ∧ wr.ownsRow w11.heap.size 3 1 v q (flatI (someL xs bs q))) (fun _ i _ => n - (intOf i).toNat)
    case atStart => exact ⟨0, Nat.zero_le _, rfl, Ext.refl _, World.ownsRow_nil _ _ _ _⟩
    case round =>
      obtain ⟨q, hq, rfl, hE, hrow⟩ := hrel
      by_cases hlt : q < n
      · obtain ⟨bA, oA, rfl, hcA⟩ := HX.out.at_ (by omega)
        obtain ⟨d, hd⟩ : ∃ d, xs.getD q zeroD = d := ⟨_, rfl⟩
        obtain ⟨a1, a2, a3, a4, a5⟩ := Dims.cells hcA (hwA.trans hE) q hlt d hd
        have hbl : bA < wr.heap.size := World.block_lt_of_cell? wr _ a4
        have hlim := HLIM.out q hlt
        rw [hd] at hlim
        have hbr := HBR.out q (by omega)
        obtain ⟨b, hb⟩ : ∃ b, bs.getD q 0 = b := ⟨_, rfl⟩
        rw [hb] at hbr
        have HBQ : Hid (∀ W, Blk W (w.heap.size + 1) #[.int .u16 b0, .int .u16 b1, .int .u16 b2, .int .u16 b3, .int .u16 b4, .int .u16 b5] 74 → W.cell? ⟨w.heap.size + 1, q, none⟩ = some (.int .u16 b)) := Lib.hid (fun W hW => by rw [← hb]; exact HBC.out q (by omega) W hW)
        obtain ⟨R, hR⟩ : ∃ R, b % (d.hi - d.lo + 1) = R := ⟨_, rfl⟩
        have hRb : 0 ≤ R ∧ R < d.hi - d.lo + 1 := by rw [← hR]; exact ⟨Int.emod_nonneg _ (by omega), Int.emod_lt_of_pos _ (by omega)⟩
        have HSN := Lib.hid (show someL xs bs (q + 1) = someL xs bs q ++ [d.lo + R] by rw [someL_snoc, hd, hb, hR])
        have hq6 : (q : Int) % 6 = (q : Int) := by omega
        have hq6l : q < 6 := by omega
        have hq6n : q % 6 = q := by omega
        have hq6t : Int.tmod (q : Int) 6 = (q : Int) := by rw [Int.tmod_eq_emod_of_nonneg (by omega)]; omega
        have hq60 : (0 : Int) ≤ (q : Int) := by omega
        have hq61 : (q : Int) < 6 := by omega
        have hqn : (q : Int) < (n : Int) := by omega
        have hby : Blk wr (w.heap.size + 1) #[.int .u16 b0, .int .u16 b1, .int .u16 b2, .int .u16 b3, .int .u16 b4, .int .u16 b5] 74 := HBY.out.ext hE
        have hbyc := HBQ.out wr hby
        have HROW := Lib.hid hrow
        have hsz := hE.size
        have hne1 : some wr.heap.size ≠ u18.ownBlock := fun e => by have := ownBlock_lt hrow _ e.symm; omega
        have hne2 : some (w.heap.size + 1) ≠ u18.ownBlock := fun e => by have := ownBlock_ge hrow e.symm; omega
        have HGE := Lib.hid (fun k (e : u18.ownBlock = some k) => ownBlock_ge hrow e)
        obtain ⟨hl1, hl2, hl3⟩ := hlim
        obtain ⟨hbr1, hbr2⟩ := hbr
        have hW1 : IntKind.i64.wrap (d.hi - d.lo) = d.hi - d.lo := i64_in' (by omega)
        have hW2 : IntKind.i64.wrap (d.hi - d.lo + 1) = d.hi - d.lo + 1 := i64_in' (by omega)
        have hW3 : IntKind.i64.wrap (d.lo + R) = d.lo + R := i64_in' (by omega)
        have hWb : IntKind.i64.wrap b = b := i64_in' (by omega)
        have hRt : Int.tmod b (d.hi - d.lo + 1) = R := by rw [Int.tmod_eq_emod_of_nonneg (by omega)]; exact hR
        have hDne : ¬ (d.hi - d.lo + 1 = 0) := by omega
        clear hrow hb hd hcA
        go_wp2_with fail
        go_region_held3 (fun W => (W.cell? ⟨wr.heap.size, 3, none⟩ = some (.int .i64 d.lo) ∧ W.cell? ⟨wr.heap.size, 4, none⟩ = some (.int .i64 d.hi)) ∧ W.cell? ⟨w.heap.size + 1, q, none⟩ = some (.int .u16 b))
          (first
            | (refine ⟨keep34 (t := 62) ?_, HBQ.out _ ?_⟩; (focus ((repeat (first | (with_reducible assumption) | ((with_reducible apply Blk.new_at); focus (first | (simp; done) | (simp; omega))) | with_reducible apply Blk.alloc | with_reducible apply Blk.drew | with_reducible apply Blk.drewN | with_reducible apply Blk.set | ((with_reducible apply Blk.far); case hp => (first | (simp; done) | (dsimp only; omega))) | ((with_reducible apply Blk.ext); case he => with_reducible assumption))); done)); (focus ((repeat (first | (with_reducible assumption) | ((with_reducible apply Blk.new_at); focus (first | (simp; done) | (simp; omega))) | with_reducible apply Blk.alloc | with_reducible apply Blk.drew | with_reducible apply Blk.drewN | with_reducible apply Blk.set | ((with_reducible apply Blk.far); case hp => (first | (simp; done) | (dsimp only; omega))) | ((with_reducible apply Blk.ext); case he => with_reducible assumption))); done)))
            | (refine ⟨keep34 (t := 62) (Blk.grown ?_ hgrow hne1), HBQ.out _ (Blk.grown ?_ hgrow hne2)⟩; (focus ((repeat (first | (with_reducible assumption) | ((with_reducible apply Blk.new_at); focus (first | (simp; done) | (simp; omega))) | with_reducible apply Blk.alloc | with_reducible apply Blk.drew | with_reducible apply Blk.drewN | with_reducible apply Blk.set | ((with_reducible apply Blk.far); case hp => (first | (simp; done) | (dsimp only; omega))) | ((with_reducible apply Blk.ext); case he => with_reducible assumption))); done)); (focus ((repeat (first | (with_reducible assumption) | ((with_reducible apply Blk.new_at); focus (first | (simp; done) | (simp; omega))) | with_reducible apply Blk.alloc | with_reducible apply Blk.drew | with_reducible apply Blk.drewN | with_reducible apply Blk.set | ((with_reducible apply Blk.far); case hp => (first | (simp; done) | (dsimp only; omega))) | ((with_reducible apply Blk.ext); case he => with_reducible assumption))); done))))
          ((refine step_append_lies _ (by rfl) _ _ 39 (by rfl) w11.heap.size 3 i0 _ 1 8 Try.underlying39 hi'.out hz0'.out hz1'.out hz2'.out rfl (by omega) _ q (flatI (someL xs bs q)) (by rfl) (((HROW.out.alloc _).alloc _).drew) ⟨wr.heap.size + 1, 0, none⟩ 1 1 [.int .i64 (d.lo + R)] (by rfl) (by rfl) (World.news_of_block (cs := #[.int .i64 (d.lo + R)]) (t := 3) (fr := (0, 0)) (by show Blk _ (wr.heap.size + 1) _ _; (repeat (first | (with_reducible assumption) | ((with_reducible apply Blk.new_at); focus (first | (simp; done) | (simp; omega))) | with_reducible apply Blk.alloc | with_reducible apply Blk.drew | with_reducible apply Blk.drewN | with_reducible apply Blk.set | ((with_reducible apply Blk.far); case hp => (first | (simp; done) | (dsimp only; omega))) | ((with_reducible apply Blk.ext); case he => with_reducible assumption))))) (by simp [Value.oneCell']) (by omega) (by have : maxLen = 9223372036854775807 := rfl; omega) (by omega) (by simp; omega) (wr.heap.size + 2) (by simp) ?_; intro gg cap w12 hown12 hgrow hat hlt12))
        go_wp2_with fail
        go_roundw
        case rel => exact ⟨q + 1, by omega, by go_num, Ext.grown ((hE.alloc _).alloc _).drew hgrow (fun k e => HGE.out k e), by rw [HSN.out, flatI_snoc]; exact hown12⟩
        case measure => simp [intOf]; omega
      · obtain rfl : n = q := by omega
        obtain ⟨g13, cap13, cur13, rfl, I13⟩ := ownsI hrow hn0
        have J13 := I13.ints (by omega)
        have HJ13 := Lib.hid J13
        have hT := HIN.out _ (HSO.out bs)
        rw [HLS.out, HHS.out] at hT
        have HTT := Lib.hid hT
        clear hrow I13 J13 hT
        clear Y Y0 Y1 Y2 Y3 U5 Tl Vl Yl hwA
        have hwC : Ext w4 wr := by (repeat (first | (with_reducible assumption) | with_reducible exact Ext.refl _ | with_reducible apply Ext.alloc | with_reducible apply Ext.drew | with_reducible apply Ext.drewN | ((with_reducible apply Ext.set); case hp => (first | (simp; done) | (dsimp only; omega) | omega)) | ((with_reducible apply Ext.trans); case k => with_reducible assumption)))
        clear hw8 hw9 hw10 hw11
        have P : Blk wr w.heap.size #[.slice A n c, .slice B m c2, .int .i64 lo, .int .i64 hi] 27 := by (repeat (first | (with_reducible assumption) | ((with_reducible apply Blk.new_at); focus (first | (simp; done) | (simp; omega))) | with_reducible apply Blk.alloc | with_reducible apply Blk.drew | with_reducible apply Blk.drewN | with_reducible apply Blk.set | ((with_reducible apply Blk.far); case hp => (first | (simp; done) | (dsimp only; omega))) | ((with_reducible apply Blk.ext); case he => with_reducible assumption)))
        have P0 := P.cell 0
        have P1 := P.cell 1
        have P2 := P.cell 2
        have P3 := P.cell 3
        simp at P0 P1 P2 P3
        have Pl := P.lt
        go_wp2_with fail; refine (lsum_ok A B _ n m c c2 cap13 xs cs _ _ (HX.out.ext (by (repeat (first | (with_reducible assumption) | with_reducible exact Ext.refl _ | with_reducible apply Ext.alloc | with_reducible apply Ext.drew | with_reducible apply Ext.drewN | ((with_reducible apply Ext.set); case hp => (first | (simp; done) | (dsimp only; omega) | omega)) | ((with_reducible apply Ext.trans); case k => with_reducible assumption))))) (HK.out.ext (by (repeat (first | (with_reducible assumption) | with_reducible exact Ext.refl _ | with_reducible apply Ext.alloc | with_reducible apply Ext.drew | with_reducible apply Ext.drewN | ((with_reducible apply Ext.set); case hp => (first | (simp; done) | (dsimp only; omega) | omega)) | ((with_reducible apply Ext.trans); case k => with_reducible assumption))))) (HJ13.out.ext (by (repeat (first | (with_reducible assumption) | with_reducible exact Ext.refl _ | with_reducible apply Ext.alloc | with_reducible apply Ext.drew | with_reducible apply Ext.drewN | ((with_reducible apply Ext.set); case hp => (first | (simp; done) | (dsimp only; omega) | omega)) | ((with_reducible apply Ext.trans); case k => with_reducible assumption))))) HCE.out hm256 HMEM.out (HSM.out _ (HSO.out bs))).mono ?_; rintro e w14 ⟨rfl, hw14⟩
        obtain ⟨k, hk⟩ : ∃ k, totalL cs (someL xs bs n) = k := ⟨_, rfl⟩
        rw [hk]
        have hT := HTT.out
        rw [hk] at hT
        obtain ⟨hT1, hT2⟩ := hT
        have hT3 : decide (L ≤ k) = true := by simp; omega
        have hT4 : decide (k ≤ H) = true := by simp; omega
        clear hk HTT P P0 P1 P2 P3
        have U : Blk w14 (w2.heap.size) #[.int .i64 L, .int .i64 H] 25 := (by (repeat (first | (with_reducible assumption) | ((with_reducible apply Blk.new_at); focus (first | (simp; done) | (simp; omega))) | with_reducible apply Blk.alloc | with_reducible apply Blk.drew | with_reducible apply Blk.drewN | with_reducible apply Blk.set | ((with_reducible apply Blk.far); case hp => (first | (simp; done) | (dsimp only; omega))) | ((with_reducible apply Blk.ext); case he => with_reducible assumption)))); obtain ⟨U1, U2, U3, U4⟩ := U.c2; have U5 := U.lt
        go_wp2_with (first | (go_at_call 17; refine (awake25_any _).mono ?_; rintro e w15 ⟨rfl, hw15⟩))
        go_ret
        exact Ret.bool (by first | rfl | simp) (by (repeat (first | (with_reducible assumption) | with_reducible exact Ext.refl _ | with_reducible apply Ext.alloc | with_reducible apply Ext.drew | with_reducible apply Ext.drewN | ((with_reducible apply Ext.set); case hp => (first | (simp; done) | (dsimp only; omega) | omega)) | ((with_reducible apply Ext.trans); case k => with_reducible assumption))))
end Go.Proofs.Ytdcedfciaaooiab
