/- Equal lists of ints; few tasks; the task of the examples: the walks. -/
import Derived.Test.YtdcedfciaaooiaaI25
set_option linter.unusedVariables false
namespace Go.Proofs.Ytdcedfciaaooiaa
open Go.RowKit

/-- It returns true or false. -/
def RetB (w : World) (e : Ending) (w' : World) : Prop := ∃ b : Bool, e = .returned (.bool b) ∧ Ext w w'
theorem RetB.mk' {w w' : World} {b : Bool} (h : Ext w w') : RetB w (.returned (.bool b)) w' := ⟨b, rfl, h⟩
set_option maxRecDepth 20000 in
set_option maxHeartbeats 4000000 in
theorem eqI_true (A B : Option Addr) (n c c2 : Nat) (vs : List Int) (w : World) (h1 : Ints w A n vs) (h2 : Ints w B n vs) :
    Calls Try.prog 54 #[.slice A n c, .slice B n c2] w (Ret (.bool true) w) := by
  have H1 := Lib.hid h1
  have H2 := Lib.hid h2
  have hm := h1.max
  clear h1 h2
  go_enter Try.func54, Try.ntmps54
  go_wp2_with fail
  go_loopw [13] (fun i wr => ∃ q : Nat, q ≤ n ∧ i = .int .i64 q ∧ Ext w wr) (fun i _ => n - (intOf i).toNat)
  case atStart => exact ⟨0, Nat.zero_le _, rfl, Ext.refl _⟩
  case round =>
    obtain ⟨q, hq, rfl, hE⟩ := hrel
    by_cases hlt : q < n
    · obtain ⟨b1, o1, rfl, hc1⟩ := H1.out.at_ (by omega)
      obtain ⟨b2, o2, rfl, hc2⟩ := H2.out.at_ (by omega)
      have x1 := hE.cell (hc1 q hlt)
      have x2 := hE.cell (hc2 q hlt)
      obtain ⟨v, hv⟩ : ∃ v, vs.getD q 0 = v := ⟨_, rfl⟩
      rw [hv] at x1 x2
      clear hc1 hc2 hv
      go_wp2_with fail
      go_quiet (fail)
      go_wp2_with fail
      go_roundw
      case rel => exact ⟨q + 1, by omega, by go_num, by (repeat (first | (with_reducible assumption) | with_reducible exact Ext.refl _ | with_reducible apply Ext.alloc | with_reducible apply Ext.drew | with_reducible apply Ext.drewN | ((with_reducible apply Ext.set); case hp => (first | (simp; done) | (dsimp only; omega) | omega)) | ((with_reducible apply Ext.trans); case k => with_reducible assumption)))⟩
      case measure => simp [intOf]; omega
    · obtain rfl : n = q := by omega
      go_wp2_with fail
      go_ret
      exact Ret.bool rfl hE

set_option maxRecDepth 100000 in
set_option maxHeartbeats 4000000 in
theorem few24_any (A : Option Addr) (n c : Nat) (xs : List Dim) (w : World) (hx : Dims w A n xs) : Calls Try.prog 89 #[.slice A n c] w (RetB w) := by
  have HX := Lib.hid hx
  have hm := hx.max
  have HF := Lib.hid hx.fit
  have HG := Lib.hid (fun w (h : Dims w A n xs) => rgiven_any A n c xs w h)
  clear hx
  go_enter Try.func89, Try.ntmps89
  go_wp2_with fail
  go_loopw [3] (fun i wr => ∃ q : Nat, q ≤ n ∧ q ≤ 20 ∧ i = .int .i64 q ∧ Ext w wr) (fun i _ => n - (intOf i).toNat)
  case atStart => exact ⟨0, Nat.zero_le _, by omega, rfl, Ext.refl _⟩
  case round =>
    obtain ⟨q, hq, hq20, rfl, hE⟩ := hrel
    by_cases hlt : q < n ∧ q < 20
    · obtain ⟨bA, oA, rfl, hcA⟩ := HX.out.at_ (by omega)
      obtain ⟨d, hd⟩ : ∃ d, xs.getD q zeroD = d := ⟨_, rfl⟩
      obtain ⟨a1, a2, -, -, -⟩ := Dims.cells hcA hE q hlt.1 d hd
      have hfit := HF.out q hlt.1
      rw [hd] at hfit
      obtain ⟨z1, z2⟩ := hfit
      obtain ⟨h20, hn2⟩ : q < 20 ∧ q < n := ⟨hlt.2, hlt.1⟩
      clear hcA hd hlt
      have hx3 : 100 < d.frm.size ∨ (d.frm.size ≤ 100 ∧ 100 < d.to.size) ∨ (d.frm.size ≤ 100 ∧ d.to.size ≤ 100) := by omega
      rcases hx3 with h | h | h
      · go_wp2_with fail
        go_ret
        exact RetB.mk' hE
      · go_wp2_with fail
        go_ret
        exact RetB.mk' hE
      · go_wp2_with fail
        go_roundw
        case rel => exact ⟨q + 1, by omega, by omega, by go_num, hE⟩
        case measure => simp [intOf]; omega
    · have hx4 : (n ≤ 6 ∧ q = n) ∨ (6 < n ∧ n ≤ 20 ∧ q = n) ∨ (20 < n ∧ n ≤ 256 ∧ q = 20) ∨ (256 < n ∧ n ≤ 512 ∧ q = 20) ∨ (512 < n ∧ q = 20) := by omega
      rcases hx4 with ⟨h, rfl⟩ | ⟨h, h', rfl⟩ | ⟨h, h', rfl⟩ | ⟨h, h', rfl⟩ | ⟨h, rfl⟩
      all_goals
        go_wp2_with (first | (go_at_call 111; refine (HG.out _ (HX.out.ext hE)).mono ?_; rintro e w2 ⟨rfl, h2⟩))
        go_ret
        first | exact RetB.mk' hE | exact RetB.mk' (by (repeat (first | (with_reducible assumption) | with_reducible exact Ext.refl _ | with_reducible apply Ext.alloc | with_reducible apply Ext.drew | with_reducible apply Ext.drewN | ((with_reducible apply Ext.set); case hp => (first | (simp; done) | (dsimp only; omega) | omega)) | ((with_reducible apply Ext.trans); case k => with_reducible assumption))))

theorem few25_any (A B : Option Addr) (n m c c2 : Nat) (xs : List Dim) (lo hi : Int) (w : World) (hx : Dims w A n xs) (hm : m ≤ 35184372088832) : Calls Try.prog 49 #[.agg #[.slice A n c, .slice B m c2, .int .i64 lo, .int .i64 hi]] w (RetB w) := by
  have HX := Lib.hid hx
  clear hx
  go_enter Try.func49, Try.ntmps49
  go_wp2_with fail
  refine (few24_any A n c xs _ (HX.out.ext (by (repeat (first | (with_reducible assumption) | with_reducible exact Ext.refl _ | with_reducible apply Ext.alloc | with_reducible apply Ext.drew | with_reducible apply Ext.drewN | ((with_reducible apply Ext.set); case hp => (first | (simp; done) | (dsimp only; omega) | omega)) | ((with_reducible apply Ext.trans); case k => with_reducible assumption)))))).mono ?_
  rintro e w2 ⟨b, rfl, h2⟩
  have hT : Blk w2 w.heap.size #[.slice A n c, .slice B m c2, .int .i64 lo, .int .i64 hi] 89 := by (repeat (first | (with_reducible assumption) | ((with_reducible apply Blk.new_at); focus (first | (simp; done) | (simp; omega))) | with_reducible apply Blk.alloc | with_reducible apply Blk.drew | with_reducible apply Blk.drewN | with_reducible apply Blk.set | ((with_reducible apply Blk.far); case hp => (first | (simp; done) | (dsimp only; omega))) | ((with_reducible apply Blk.ext); case he => with_reducible assumption)))
  have t1 := hT.cell 1
  simp at t1
  cases b
  · go_wp2_with fail
    go_ret
    exact RetB.mk' (by (repeat (first | (with_reducible assumption) | with_reducible exact Ext.refl _ | with_reducible apply Ext.alloc | with_reducible apply Ext.drew | with_reducible apply Ext.drewN | ((with_reducible apply Ext.set); case hp => (first | (simp; done) | (dsimp only; omega) | omega)) | ((with_reducible apply Ext.trans); case k => with_reducible assumption))))
  · go_wp2_with fail
    go_ret
    exact RetB.mk' (by (repeat (first | (with_reducible assumption) | with_reducible exact Ext.refl _ | with_reducible apply Ext.alloc | with_reducible apply Ext.drew | with_reducible apply Ext.drewN | ((with_reducible apply Ext.set); case hp => (first | (simp; done) | (dsimp only; omega) | omega)) | ((with_reducible apply Ext.trans); case k => with_reducible assumption))))

def three : List Dim := [⟨⟨#[65]⟩, ⟨#[66]⟩, 0, 10, 12⟩, ⟨⟨#[67]⟩, ⟨#[66]⟩, 0, 3, 4⟩, ⟨⟨#[67]⟩, ⟨#[68]⟩, 0, 5, 9⟩]
def threeK : List Lk := [⟨0, false⟩, ⟨1, true⟩, ⟨2, false⟩]
set_option maxRecDepth 20000 in
theorem three_any (w : World) : Calls Try.prog 90 #[] w (fun e w' => ∃ A B, e = .returned (.agg #[.slice A 3 3, .slice B 3 3, .int .i64 10, .int .i64 16]) ∧ Dims w' A 3 three ∧ Lnks w' B 3 threeK ∧ Ext w w') := by
  go_enter Try.func90, Try.ntmps90
  go_wp2_with fail
  obtain ⟨W, hW⟩ : ∃ W, (((w.alloc (.cells #[.slice (some ⟨w.heap.size + 1, 0, none⟩) 3 3, .slice (some ⟨w.heap.size + 1 + 1, 0, none⟩) 3 3, .int .i64 10, .int .i64 16] 85)).alloc (.cells #[.string ⟨#[65]⟩, .string ⟨#[66]⟩, .int .i64 0, .int .i64 10, .int .i64 12, .string ⟨#[67]⟩, .string ⟨#[66]⟩, .int .i64 0, .int .i64 3, .int .i64 4, .string ⟨#[67]⟩, .string ⟨#[68]⟩, .int .i64 0, .int .i64 5, .int .i64 9] 40)).alloc (.cells #[.int .i64 0, .bool false, .int .i64 1, .bool true, .int .i64 2, .bool false] 144)) = W := ⟨_, rfl⟩
  have hT : Blk W w.heap.size #[.slice (some ⟨w.heap.size + 1, 0, none⟩) 3 3, .slice (some ⟨w.heap.size + 1 + 1, 0, none⟩) 3 3, .int .i64 10, .int .i64 16] 85 := by rw [← hW]; (repeat (first | (with_reducible assumption) | ((with_reducible apply Blk.new_at); focus (first | (simp; done) | (simp; omega))) | with_reducible apply Blk.alloc | with_reducible apply Blk.drew | with_reducible apply Blk.drewN | with_reducible apply Blk.set | ((with_reducible apply Blk.far); case hp => (first | (simp; done) | (dsimp only; omega))) | ((with_reducible apply Blk.ext); case he => with_reducible assumption)))
  have hD : Blk W (w.heap.size + 1) #[.string ⟨#[65]⟩, .string ⟨#[66]⟩, .int .i64 0, .int .i64 10, .int .i64 12, .string ⟨#[67]⟩, .string ⟨#[66]⟩, .int .i64 0, .int .i64 3, .int .i64 4, .string ⟨#[67]⟩, .string ⟨#[68]⟩, .int .i64 0, .int .i64 5, .int .i64 9] 40 := by rw [← hW]; (repeat (first | (with_reducible assumption) | ((with_reducible apply Blk.new_at); focus (first | (simp; done) | (simp; omega))) | with_reducible apply Blk.alloc | with_reducible apply Blk.drew | with_reducible apply Blk.drewN | with_reducible apply Blk.set | ((with_reducible apply Blk.far); case hp => (first | (simp; done) | (dsimp only; omega))) | ((with_reducible apply Blk.ext); case he => with_reducible assumption)))
  have hL : Blk W (w.heap.size + 1 + 1) #[.int .i64 0, .bool false, .int .i64 1, .bool true, .int .i64 2, .bool false] 144 := by rw [← hW]; (repeat (first | (with_reducible assumption) | ((with_reducible apply Blk.new_at); focus (first | (simp; done) | (simp; omega))) | with_reducible apply Blk.alloc | with_reducible apply Blk.drew | with_reducible apply Blk.drewN | with_reducible apply Blk.set | ((with_reducible apply Blk.far); case hp => (first | (simp; done) | (dsimp only; omega))) | ((with_reducible apply Blk.ext); case he => with_reducible assumption)))
  have hE : Ext w W := by rw [← hW]; (repeat (first | (with_reducible assumption) | with_reducible exact Ext.refl _ | with_reducible apply Ext.alloc | with_reducible apply Ext.drew | with_reducible apply Ext.drewN | ((with_reducible apply Ext.set); case hp => (first | (simp; done) | (dsimp only; omega) | omega)) | ((with_reducible apply Ext.trans); case k => with_reducible assumption)))
  rw [hW]
  refine end_c rfl rfl _ _ _ _ rfl hT Try.underlying85 rfl (by kernel_rfl) ?_
  refine ⟨_, _, rfl, ⟨rfl, by omega, fun k hk => ?_, .inr ⟨_, 0, rfl, fun k hk => ?_⟩⟩, ⟨rfl, by omega, .inr ⟨_, 0, rfl, fun k hk => ?_⟩⟩, hE⟩
  · have h3 : k = 0 ∨ k = 1 ∨ k = 2 := by omega
    rcases h3 with rfl | rfl | rfl <;> exact ⟨by decide, by decide⟩
  · have h3 : k = 0 ∨ k = 1 ∨ k = 2 := by omega
    rcases h3 with rfl | rfl | rfl
    · exact ⟨hD.cell 0, hD.cell 1, hD.cell 2, hD.cell 3, hD.cell 4⟩
    · exact ⟨hD.cell 5, hD.cell 6, hD.cell 7, hD.cell 8, hD.cell 9⟩
    · exact ⟨hD.cell 10, hD.cell 11, hD.cell 12, hD.cell 13, hD.cell 14⟩
  · have h3 : k = 0 ∨ k = 1 ∨ k = 2 := by omega
    rcases h3 with rfl | rfl | rfl
    · exact ⟨hL.cell 0, hL.cell 1⟩
    · exact ⟨hL.cell 2, hL.cell 3⟩
    · exact ⟨hL.cell 4, hL.cell 5⟩
end Go.Proofs.Ytdcedfciaaooiaa
