/- The law StackRooms returns true at every input: the walk. -/
import Derived.Test.YtdcedfciaaooiaaA26
import Derived.Test.YtdcedfciaaooiaaO25
import Derived.Test.YtdcedfciaaooiaaF25
import Derived.Test.YtdcedfciaaooiaaSR25
import Derived.Test.YtdcedfciaaooiaaRM25
set_option linter.unusedVariables false
namespace Go.Proofs.Ytdcedfciaaooiaa
open Go.RowKit

set_option maxRecDepth 20000 in
set_option maxHeartbeats 4000000 in
theorem law_stackRooms (A B : Option Addr) (n m c c2 : Nat) (xs : List Dim) (cs : List Lk) (lo hi : Int) (link : Int) (w : World) (hx : Dims w A n xs) (hk : Lnks w B m cs) (hm4 : m < 8796093022208) : Calls Try.prog 13 #[.agg #[.slice A n c, .slice B m c2, .int .i64 lo, .int .i64 hi], .int .i64 link] w (Ret (.bool true) w) := by
  have HX := Lib.hid hx
  have HK := Lib.hid hk
  have hxl := hx.len
  have hkl := hk.len
  clear hx hk
  by_cases h : taskE xs cs lo hi = 0
  · have hrt := rt_of hxl hkl (taskE_zero h).1
    have hn256 := hrt.n256
    clear hrt
    by_cases hs : link < 0 ∨ (m : Int) ≤ link
    · go_enter Try.func13, Try.ntmps13
      go_wp2_with fail
      refine (own25_any A B n m c c2 cs lo hi _ (HK.out.ext (by (repeat (first | (with_reducible assumption) | with_reducible exact Ext.refl _ | with_reducible apply Ext.alloc | with_reducible apply Ext.drew | with_reducible apply Ext.drewN | ((with_reducible apply Ext.set); case hp => (first | (simp; done) | (dsimp only; omega) | omega)) | ((with_reducible apply Ext.trans); case k => with_reducible assumption))))) hm4).mono ?_
      rintro e w1 ⟨B1, c1, rfl, K1, M1, hw1⟩
      go_wp2_with fail
      refine (few25_any A B1 n m c c1 xs lo hi _ (HX.out.ext (by (repeat (first | (with_reducible assumption) | with_reducible exact Ext.refl _ | with_reducible apply Ext.alloc | with_reducible apply Ext.drew | with_reducible apply Ext.drewN | ((with_reducible apply Ext.set); case hp => (first | (simp; done) | (dsimp only; omega) | omega)) | ((with_reducible apply Ext.trans); case k => with_reducible assumption))))) (by omega)).mono ?_
      rintro e w2 ⟨few, rfl, hw2⟩
      cases few
      case false =>
        go_wp2_with fail; refine (awake25_any _).mono ?_; rintro e w3 ⟨rfl, hw3⟩
        go_wp2_with fail
        go_ret
        exact Ret.bool (by first | rfl | simp) (by (repeat (first | (with_reducible assumption) | with_reducible exact Ext.refl _ | with_reducible apply Ext.alloc | with_reducible apply Ext.drew | with_reducible apply Ext.drewN | ((with_reducible apply Ext.set); case hp => (first | (simp; done) | (dsimp only; omega) | omega)) | ((with_reducible apply Ext.trans); case k => with_reducible assumption))))
      case true =>
        have P : Blk w2 w.heap.size #[.slice A n c, .slice B m c2, .int .i64 lo, .int .i64 hi] 85 := by (repeat (first | (with_reducible assumption) | ((with_reducible apply Blk.new_at); focus (first | (simp; done) | (simp; omega))) | with_reducible apply Blk.alloc | with_reducible apply Blk.drew | with_reducible apply Blk.drewN | with_reducible apply Blk.set | ((with_reducible apply Blk.far); case hp => (first | (simp; done) | (dsimp only; omega))) | ((with_reducible apply Blk.ext); case he => with_reducible assumption)))
        have P0 := P.cell 0
        have P1 := P.cell 1
        have P2 := P.cell 2
        have P3 := P.cell 3
        simp at P0 P1 P2 P3
        have Pl := P.lt
        go_wp2_with fail; refine (sroom_out link A B n m c c2 xs cs lo hi _ (HX.out.ext (by (repeat (first | (with_reducible assumption) | with_reducible exact Ext.refl _ | with_reducible apply Ext.alloc | with_reducible apply Ext.drew | with_reducible apply Ext.drewN | ((with_reducible apply Ext.set); case hp => (first | (simp; done) | (dsimp only; omega) | omega)) | ((with_reducible apply Ext.trans); case k => with_reducible assumption))))) (HK.out.ext (by (repeat (first | (with_reducible assumption) | with_reducible exact Ext.refl _ | with_reducible apply Ext.alloc | with_reducible apply Ext.drew | with_reducible apply Ext.drewN | ((with_reducible apply Ext.set); case hp => (first | (simp; done) | (dsimp only; omega) | omega)) | ((with_reducible apply Ext.trans); case k => with_reducible assumption))))) h hs).mono ?_; rintro e w3 ⟨rfl, hw3⟩
        have Q : Blk w3 w.heap.size #[.slice A n c, .slice B m c2, .int .i64 lo, .int .i64 hi] 85 := by (repeat (first | (with_reducible assumption) | ((with_reducible apply Blk.new_at); focus (first | (simp; done) | (simp; omega))) | with_reducible apply Blk.alloc | with_reducible apply Blk.drew | with_reducible apply Blk.drewN | with_reducible apply Blk.set | ((with_reducible apply Blk.far); case hp => (first | (simp; done) | (dsimp only; omega))) | ((with_reducible apply Blk.ext); case he => with_reducible assumption)))
        have Q0 := Q.cell 0
        have Q1 := Q.cell 1
        have Q2 := Q.cell 2
        have Q3 := Q.cell 3
        simp at Q0 Q1 Q2 Q3
        have Ql := Q.lt
        go_wp2_with fail
        refine (own25_any A B n m c c2 cs lo hi _ (HK.out.ext (by (repeat (first | (with_reducible assumption) | with_reducible exact Ext.refl _ | with_reducible apply Ext.alloc | with_reducible apply Ext.drew | with_reducible apply Ext.drewN | ((with_reducible apply Ext.set); case hp => (first | (simp; done) | (dsimp only; omega) | omega)) | ((with_reducible apply Ext.trans); case k => with_reducible assumption))))) hm4).mono ?_
        rintro e w4 ⟨B4, c4, rfl, K4, M4, hw4⟩
        go_wp2_with fail; refine (rroom_out link A B4 n m c c4 xs cs lo hi _ (HX.out.ext (by (repeat (first | (with_reducible assumption) | with_reducible exact Ext.refl _ | with_reducible apply Ext.alloc | with_reducible apply Ext.drew | with_reducible apply Ext.drewN | ((with_reducible apply Ext.set); case hp => (first | (simp; done) | (dsimp only; omega) | omega)) | ((with_reducible apply Ext.trans); case k => with_reducible assumption))))) K4 M4 h hs).mono ?_; rintro e w5 ⟨rfl, hw5⟩
        have U : Blk w5 (w3.heap.size) #[.int .i64 0, .int .i64 0] 23 := (by (repeat (first | (with_reducible assumption) | ((with_reducible apply Blk.new_at); focus (first | (simp; done) | (simp; omega))) | with_reducible apply Blk.alloc | with_reducible apply Blk.drew | with_reducible apply Blk.drewN | with_reducible apply Blk.set | ((with_reducible apply Blk.far); case hp => (first | (simp; done) | (dsimp only; omega))) | ((with_reducible apply Blk.ext); case he => with_reducible assumption)))); obtain ⟨U1, U2, U3, U4⟩ := U.c2; have U5 := U.lt
        go_wp2_with (first | (go_at_call 51; refine (awake25_any _).mono ?_; rintro e w7 ⟨rfl, hw7⟩))
        go_ret
        exact Ret.bool (by first | rfl | simp) (by (repeat (first | (with_reducible assumption) | with_reducible exact Ext.refl _ | with_reducible apply Ext.alloc | with_reducible apply Ext.drew | with_reducible apply Ext.drewN | ((with_reducible apply Ext.set); case hp => (first | (simp; done) | (dsimp only; omega) | omega)) | ((with_reducible apply Ext.trans); case k => with_reducible assumption))))
    · obtain ⟨k, rfl⟩ := Int.eq_ofNat_of_zero_le (show 0 ≤ link by omega)
      have hkm : k < m := by omega
      clear hs
      cases hb : (cs.getD k zeroK).back
      · have HS := Lib.hid (fun w (h1 : Dims w A n xs) (h2 : Lnks w B m cs) => sroom_false A B n m c c2 xs cs lo hi w h1 h2 h k hkm hb)
        have HR := Lib.hid (fun B2 c3 w (h1 : Dims w A n xs) (h2 : Lnks w B2 m cs) (h3 : m ≤ c3) => rroom_false k A B2 n m c c3 xs cs lo hi w h1 h2 h3 h hkm hb)
        clear hb
        generalize roomP _ _ = R at HS HR
        obtain ⟨r1, r2, r3⟩ := R
        go_enter Try.func13, Try.ntmps13
        go_wp2_with fail
        refine (own25_any A B n m c c2 cs lo hi _ (HK.out.ext (by (repeat (first | (with_reducible assumption) | with_reducible exact Ext.refl _ | with_reducible apply Ext.alloc | with_reducible apply Ext.drew | with_reducible apply Ext.drewN | ((with_reducible apply Ext.set); case hp => (first | (simp; done) | (dsimp only; omega) | omega)) | ((with_reducible apply Ext.trans); case k => with_reducible assumption))))) hm4).mono ?_
        rintro e w1 ⟨B1, c1, rfl, K1, M1, hw1⟩
        go_wp2_with fail
        refine (few25_any A B1 n m c c1 xs lo hi _ (HX.out.ext (by (repeat (first | (with_reducible assumption) | with_reducible exact Ext.refl _ | with_reducible apply Ext.alloc | with_reducible apply Ext.drew | with_reducible apply Ext.drewN | ((with_reducible apply Ext.set); case hp => (first | (simp; done) | (dsimp only; omega) | omega)) | ((with_reducible apply Ext.trans); case k => with_reducible assumption))))) (by omega)).mono ?_
        rintro e w2 ⟨few, rfl, hw2⟩
        cases few
        case false =>
          go_wp2_with fail; refine (awake25_any _).mono ?_; rintro e w3 ⟨rfl, hw3⟩
          go_wp2_with fail
          go_ret
          exact Ret.bool (by first | rfl | simp) (by (repeat (first | (with_reducible assumption) | with_reducible exact Ext.refl _ | with_reducible apply Ext.alloc | with_reducible apply Ext.drew | with_reducible apply Ext.drewN | ((with_reducible apply Ext.set); case hp => (first | (simp; done) | (dsimp only; omega) | omega)) | ((with_reducible apply Ext.trans); case k => with_reducible assumption))))
        case true =>
          have P : Blk w2 w.heap.size #[.slice A n c, .slice B m c2, .int .i64 lo, .int .i64 hi] 85 := by (repeat (first | (with_reducible assumption) | ((with_reducible apply Blk.new_at); focus (first | (simp; done) | (simp; omega))) | with_reducible apply Blk.alloc | with_reducible apply Blk.drew | with_reducible apply Blk.drewN | with_reducible apply Blk.set | ((with_reducible apply Blk.far); case hp => (first | (simp; done) | (dsimp only; omega))) | ((with_reducible apply Blk.ext); case he => with_reducible assumption)))
          have P0 := P.cell 0
          have P1 := P.cell 1
          have P2 := P.cell 2
          have P3 := P.cell 3
          simp at P0 P1 P2 P3
          have Pl := P.lt
          go_wp2_with fail; refine (HS.out _ (HX.out.ext (by (repeat (first | (with_reducible assumption) | with_reducible exact Ext.refl _ | with_reducible apply Ext.alloc | with_reducible apply Ext.drew | with_reducible apply Ext.drewN | ((with_reducible apply Ext.set); case hp => (first | (simp; done) | (dsimp only; omega) | omega)) | ((with_reducible apply Ext.trans); case k => with_reducible assumption))))) (HK.out.ext (by (repeat (first | (with_reducible assumption) | with_reducible exact Ext.refl _ | with_reducible apply Ext.alloc | with_reducible apply Ext.drew | with_reducible apply Ext.drewN | ((with_reducible apply Ext.set); case hp => (first | (simp; done) | (dsimp only; omega) | omega)) | ((with_reducible apply Ext.trans); case k => with_reducible assumption)))))).mono ?_; rintro e w3 ⟨rfl, hw3⟩
          have Q : Blk w3 w.heap.size #[.slice A n c, .slice B m c2, .int .i64 lo, .int .i64 hi] 85 := by (repeat (first | (with_reducible assumption) | ((with_reducible apply Blk.new_at); focus (first | (simp; done) | (simp; omega))) | with_reducible apply Blk.alloc | with_reducible apply Blk.drew | with_reducible apply Blk.drewN | with_reducible apply Blk.set | ((with_reducible apply Blk.far); case hp => (first | (simp; done) | (dsimp only; omega))) | ((with_reducible apply Blk.ext); case he => with_reducible assumption)))
          have Q0 := Q.cell 0
          have Q1 := Q.cell 1
          have Q2 := Q.cell 2
          have Q3 := Q.cell 3
          simp at Q0 Q1 Q2 Q3
          have Ql := Q.lt
          go_wp2_with fail
          refine (own25_any A B n m c c2 cs lo hi _ (HK.out.ext (by (repeat (first | (with_reducible assumption) | with_reducible exact Ext.refl _ | with_reducible apply Ext.alloc | with_reducible apply Ext.drew | with_reducible apply Ext.drewN | ((with_reducible apply Ext.set); case hp => (first | (simp; done) | (dsimp only; omega) | omega)) | ((with_reducible apply Ext.trans); case k => with_reducible assumption))))) hm4).mono ?_
          rintro e w4 ⟨B4, c4, rfl, K4, M4, hw4⟩
          go_wp2_with fail; refine (HR.out B4 c4 _ (HX.out.ext (by (repeat (first | (with_reducible assumption) | with_reducible exact Ext.refl _ | with_reducible apply Ext.alloc | with_reducible apply Ext.drew | with_reducible apply Ext.drewN | ((with_reducible apply Ext.set); case hp => (first | (simp; done) | (dsimp only; omega) | omega)) | ((with_reducible apply Ext.trans); case k => with_reducible assumption))))) K4 M4).mono ?_; rintro e w5 ⟨rfl, hw5⟩
          have U : Blk w5 (w3.heap.size) #[.int .i64 r1, .int .i64 r2] 23 := (by (repeat (first | (with_reducible assumption) | ((with_reducible apply Blk.new_at); focus (first | (simp; done) | (simp; omega))) | with_reducible apply Blk.alloc | with_reducible apply Blk.drew | with_reducible apply Blk.drewN | with_reducible apply Blk.set | ((with_reducible apply Blk.far); case hp => (first | (simp; done) | (dsimp only; omega))) | ((with_reducible apply Blk.ext); case he => with_reducible assumption)))); obtain ⟨U1, U2, U3, U4⟩ := U.c2; have U5 := U.lt
          go_wp2_with (first | (go_at_call 51; refine (awake25_any _).mono ?_; rintro e w7 ⟨rfl, hw7⟩))
          go_ret
          exact Ret.bool (by first | rfl | simp) (by (repeat (first | (with_reducible assumption) | with_reducible exact Ext.refl _ | with_reducible apply Ext.alloc | with_reducible apply Ext.drew | with_reducible apply Ext.drewN | ((with_reducible apply Ext.set); case hp => (first | (simp; done) | (dsimp only; omega) | omega)) | ((with_reducible apply Ext.trans); case k => with_reducible assumption))))
      · have HS := Lib.hid (fun w (h1 : Dims w A n xs) (h2 : Lnks w B m cs) => sroom_true A B n m c c2 xs cs lo hi w h1 h2 h k hkm hb)
        have HR := Lib.hid (fun B2 c3 w (h1 : Dims w A n xs) (h2 : Lnks w B2 m cs) (h3 : m ≤ c3) => rroom_true k A B2 n m c c3 xs cs lo hi w h1 h2 h3 h hkm hb)
        clear hb
        generalize roomP _ _ = R at HS HR
        obtain ⟨r1, r2, r3⟩ := R
        go_enter Try.func13, Try.ntmps13
        go_wp2_with fail
        refine (own25_any A B n m c c2 cs lo hi _ (HK.out.ext (by (repeat (first | (with_reducible assumption) | with_reducible exact Ext.refl _ | with_reducible apply Ext.alloc | with_reducible apply Ext.drew | with_reducible apply Ext.drewN | ((with_reducible apply Ext.set); case hp => (first | (simp; done) | (dsimp only; omega) | omega)) | ((with_reducible apply Ext.trans); case k => with_reducible assumption))))) hm4).mono ?_
        rintro e w1 ⟨B1, c1, rfl, K1, M1, hw1⟩
        go_wp2_with fail
        refine (few25_any A B1 n m c c1 xs lo hi _ (HX.out.ext (by (repeat (first | (with_reducible assumption) | with_reducible exact Ext.refl _ | with_reducible apply Ext.alloc | with_reducible apply Ext.drew | with_reducible apply Ext.drewN | ((with_reducible apply Ext.set); case hp => (first | (simp; done) | (dsimp only; omega) | omega)) | ((with_reducible apply Ext.trans); case k => with_reducible assumption))))) (by omega)).mono ?_
        rintro e w2 ⟨few, rfl, hw2⟩
        cases few
        case false =>
          go_wp2_with fail; refine (awake25_any _).mono ?_; rintro e w3 ⟨rfl, hw3⟩
          go_wp2_with fail
          go_ret
          exact Ret.bool (by first | rfl | simp) (by (repeat (first | (with_reducible assumption) | with_reducible exact Ext.refl _ | with_reducible apply Ext.alloc | with_reducible apply Ext.drew | with_reducible apply Ext.drewN | ((with_reducible apply Ext.set); case hp => (first | (simp; done) | (dsimp only; omega) | omega)) | ((with_reducible apply Ext.trans); case k => with_reducible assumption))))
        case true =>
          have P : Blk w2 w.heap.size #[.slice A n c, .slice B m c2, .int .i64 lo, .int .i64 hi] 85 := by (repeat (first | (with_reducible assumption) | ((with_reducible apply Blk.new_at); focus (first | (simp; done) | (simp; omega))) | with_reducible apply Blk.alloc | with_reducible apply Blk.drew | with_reducible apply Blk.drewN | with_reducible apply Blk.set | ((with_reducible apply Blk.far); case hp => (first | (simp; done) | (dsimp only; omega))) | ((with_reducible apply Blk.ext); case he => with_reducible assumption)))
          have P0 := P.cell 0
          have P1 := P.cell 1
          have P2 := P.cell 2
          have P3 := P.cell 3
          simp at P0 P1 P2 P3
          have Pl := P.lt
          go_wp2_with fail; refine (HS.out _ (HX.out.ext (by (repeat (first | (with_reducible assumption) | with_reducible exact Ext.refl _ | with_reducible apply Ext.alloc | with_reducible apply Ext.drew | with_reducible apply Ext.drewN | ((with_reducible apply Ext.set); case hp => (first | (simp; done) | (dsimp only; omega) | omega)) | ((with_reducible apply Ext.trans); case k => with_reducible assumption))))) (HK.out.ext (by (repeat (first | (with_reducible assumption) | with_reducible exact Ext.refl _ | with_reducible apply Ext.alloc | with_reducible apply Ext.drew | with_reducible apply Ext.drewN | ((with_reducible apply Ext.set); case hp => (first | (simp; done) | (dsimp only; omega) | omega)) | ((with_reducible apply Ext.trans); case k => with_reducible assumption)))))).mono ?_; rintro e w3 ⟨rfl, hw3⟩
          have Q : Blk w3 w.heap.size #[.slice A n c, .slice B m c2, .int .i64 lo, .int .i64 hi] 85 := by (repeat (first | (with_reducible assumption) | ((with_reducible apply Blk.new_at); focus (first | (simp; done) | (simp; omega))) | with_reducible apply Blk.alloc | with_reducible apply Blk.drew | with_reducible apply Blk.drewN | with_reducible apply Blk.set | ((with_reducible apply Blk.far); case hp => (first | (simp; done) | (dsimp only; omega))) | ((with_reducible apply Blk.ext); case he => with_reducible assumption)))
          have Q0 := Q.cell 0
          have Q1 := Q.cell 1
          have Q2 := Q.cell 2
          have Q3 := Q.cell 3
          simp at Q0 Q1 Q2 Q3
          have Ql := Q.lt
          go_wp2_with fail
          refine (own25_any A B n m c c2 cs lo hi _ (HK.out.ext (by (repeat (first | (with_reducible assumption) | with_reducible exact Ext.refl _ | with_reducible apply Ext.alloc | with_reducible apply Ext.drew | with_reducible apply Ext.drewN | ((with_reducible apply Ext.set); case hp => (first | (simp; done) | (dsimp only; omega) | omega)) | ((with_reducible apply Ext.trans); case k => with_reducible assumption))))) hm4).mono ?_
          rintro e w4 ⟨B4, c4, rfl, K4, M4, hw4⟩
          go_wp2_with fail; refine (HR.out B4 c4 _ (HX.out.ext (by (repeat (first | (with_reducible assumption) | with_reducible exact Ext.refl _ | with_reducible apply Ext.alloc | with_reducible apply Ext.drew | with_reducible apply Ext.drewN | ((with_reducible apply Ext.set); case hp => (first | (simp; done) | (dsimp only; omega) | omega)) | ((with_reducible apply Ext.trans); case k => with_reducible assumption))))) K4 M4).mono ?_; rintro e w5 ⟨rfl, hw5⟩
          have U : Blk w5 (w3.heap.size) #[.int .i64 r1, .int .i64 r2] 23 := (by (repeat (first | (with_reducible assumption) | ((with_reducible apply Blk.new_at); focus (first | (simp; done) | (simp; omega))) | with_reducible apply Blk.alloc | with_reducible apply Blk.drew | with_reducible apply Blk.drewN | with_reducible apply Blk.set | ((with_reducible apply Blk.far); case hp => (first | (simp; done) | (dsimp only; omega))) | ((with_reducible apply Blk.ext); case he => with_reducible assumption)))); obtain ⟨U1, U2, U3, U4⟩ := U.c2; have U5 := U.lt
          go_wp2_with (first | (go_at_call 51; refine (awake25_any _).mono ?_; rintro e w7 ⟨rfl, hw7⟩))
          go_ret
          exact Ret.bool (by first | rfl | simp) (by (repeat (first | (with_reducible assumption) | with_reducible exact Ext.refl _ | with_reducible apply Ext.alloc | with_reducible apply Ext.drew | with_reducible apply Ext.drewN | ((with_reducible apply Ext.set); case hp => (first | (simp; done) | (dsimp only; omega) | omega)) | ((with_reducible apply Ext.trans); case k => with_reducible assumption))))
  · obtain ⟨E, hE0⟩ : ∃ E, taskE xs cs lo hi = E := ⟨_, rfl⟩
    have hE : (E != 0) = true := by rw [← hE0]; simpa using h
    clear h
    have h := hE0
    clear hE0
    go_enter Try.func13, Try.ntmps13
    go_wp2_with fail
    refine (own25_any A B n m c c2 cs lo hi _ (HK.out.ext (by (repeat (first | (with_reducible assumption) | with_reducible exact Ext.refl _ | with_reducible apply Ext.alloc | with_reducible apply Ext.drew | with_reducible apply Ext.drewN | ((with_reducible apply Ext.set); case hp => (first | (simp; done) | (dsimp only; omega) | omega)) | ((with_reducible apply Ext.trans); case k => with_reducible assumption))))) hm4).mono ?_
    rintro e w1 ⟨B1, c1, rfl, K1, M1, hw1⟩
    go_wp2_with fail
    refine (few25_any A B1 n m c c1 xs lo hi _ (HX.out.ext (by (repeat (first | (with_reducible assumption) | with_reducible exact Ext.refl _ | with_reducible apply Ext.alloc | with_reducible apply Ext.drew | with_reducible apply Ext.drewN | ((with_reducible apply Ext.set); case hp => (first | (simp; done) | (dsimp only; omega) | omega)) | ((with_reducible apply Ext.trans); case k => with_reducible assumption))))) (by omega)).mono ?_
    rintro e w2 ⟨few, rfl, hw2⟩
    cases few
    case false =>
      go_wp2_with fail; refine (awake25_any _).mono ?_; rintro e w3 ⟨rfl, hw3⟩
      go_wp2_with fail
      go_ret
      exact Ret.bool (by first | rfl | simp) (by (repeat (first | (with_reducible assumption) | with_reducible exact Ext.refl _ | with_reducible apply Ext.alloc | with_reducible apply Ext.drew | with_reducible apply Ext.drewN | ((with_reducible apply Ext.set); case hp => (first | (simp; done) | (dsimp only; omega) | omega)) | ((with_reducible apply Ext.trans); case k => with_reducible assumption))))
    case true =>
      have P : Blk w2 w.heap.size #[.slice A n c, .slice B m c2, .int .i64 lo, .int .i64 hi] 85 := by (repeat (first | (with_reducible assumption) | ((with_reducible apply Blk.new_at); focus (first | (simp; done) | (simp; omega))) | with_reducible apply Blk.alloc | with_reducible apply Blk.drew | with_reducible apply Blk.drewN | with_reducible apply Blk.set | ((with_reducible apply Blk.far); case hp => (first | (simp; done) | (dsimp only; omega))) | ((with_reducible apply Blk.ext); case he => with_reducible assumption)))
      have P0 := P.cell 0
      have P1 := P.cell 1
      have P2 := P.cell 2
      have P3 := P.cell 3
      simp at P0 P1 P2 P3
      have Pl := P.lt
      go_wp2_with fail; refine (sroom_bad link A B n m c c2 xs cs lo hi _ (HX.out.ext (by (repeat (first | (with_reducible assumption) | with_reducible exact Ext.refl _ | with_reducible apply Ext.alloc | with_reducible apply Ext.drew | with_reducible apply Ext.drewN | ((with_reducible apply Ext.set); case hp => (first | (simp; done) | (dsimp only; omega) | omega)) | ((with_reducible apply Ext.trans); case k => with_reducible assumption))))) (HK.out.ext (by (repeat (first | (with_reducible assumption) | with_reducible exact Ext.refl _ | with_reducible apply Ext.alloc | with_reducible apply Ext.drew | with_reducible apply Ext.drewN | ((with_reducible apply Ext.set); case hp => (first | (simp; done) | (dsimp only; omega) | omega)) | ((with_reducible apply Ext.trans); case k => with_reducible assumption))))) E h hE).mono ?_; rintro e w3 ⟨rfl, hw3⟩
      have Q : Blk w3 w.heap.size #[.slice A n c, .slice B m c2, .int .i64 lo, .int .i64 hi] 85 := by (repeat (first | (with_reducible assumption) | ((with_reducible apply Blk.new_at); focus (first | (simp; done) | (simp; omega))) | with_reducible apply Blk.alloc | with_reducible apply Blk.drew | with_reducible apply Blk.drewN | with_reducible apply Blk.set | ((with_reducible apply Blk.far); case hp => (first | (simp; done) | (dsimp only; omega))) | ((with_reducible apply Blk.ext); case he => with_reducible assumption)))
      have Q0 := Q.cell 0
      have Q1 := Q.cell 1
      have Q2 := Q.cell 2
      have Q3 := Q.cell 3
      simp at Q0 Q1 Q2 Q3
      have Ql := Q.lt
      go_wp2_with fail
      refine (own25_any A B n m c c2 cs lo hi _ (HK.out.ext (by (repeat (first | (with_reducible assumption) | with_reducible exact Ext.refl _ | with_reducible apply Ext.alloc | with_reducible apply Ext.drew | with_reducible apply Ext.drewN | ((with_reducible apply Ext.set); case hp => (first | (simp; done) | (dsimp only; omega) | omega)) | ((with_reducible apply Ext.trans); case k => with_reducible assumption))))) hm4).mono ?_
      rintro e w4 ⟨B4, c4, rfl, K4, M4, hw4⟩
      go_wp2_with fail; refine (rroom_bad link A B4 n m c c4 xs cs lo hi _ (HX.out.ext (by (repeat (first | (with_reducible assumption) | with_reducible exact Ext.refl _ | with_reducible apply Ext.alloc | with_reducible apply Ext.drew | with_reducible apply Ext.drewN | ((with_reducible apply Ext.set); case hp => (first | (simp; done) | (dsimp only; omega) | omega)) | ((with_reducible apply Ext.trans); case k => with_reducible assumption))))) K4 M4 E h hE).mono ?_; rintro e w5 ⟨rfl, hw5⟩
      have U : Blk w5 (w3.heap.size) #[.int .i64 0, .int .i64 0] 23 := (by (repeat (first | (with_reducible assumption) | ((with_reducible apply Blk.new_at); focus (first | (simp; done) | (simp; omega))) | with_reducible apply Blk.alloc | with_reducible apply Blk.drew | with_reducible apply Blk.drewN | with_reducible apply Blk.set | ((with_reducible apply Blk.far); case hp => (first | (simp; done) | (dsimp only; omega))) | ((with_reducible apply Blk.ext); case he => with_reducible assumption)))); obtain ⟨U1, U2, U3, U4⟩ := U.c2; have U5 := U.lt
      go_wp2_with (first | (go_at_call 51; refine (awake25_any _).mono ?_; rintro e w7 ⟨rfl, hw7⟩))
      go_ret
      exact Ret.bool (by first | rfl | simp) (by (repeat (first | (with_reducible assumption) | with_reducible exact Ext.refl _ | with_reducible apply Ext.alloc | with_reducible apply Ext.drew | with_reducible apply Ext.drewN | ((with_reducible apply Ext.set); case hp => (first | (simp; done) | (dsimp only; omega) | omega)) | ((with_reducible apply Ext.trans); case k => with_reducible assumption))))
end Go.Proofs.Ytdcedfciaaooiaa
