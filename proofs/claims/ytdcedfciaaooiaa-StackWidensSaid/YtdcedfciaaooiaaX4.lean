/- Valid of package dimension does what P17 says, for names of at most 2^63 - 1 bytes. -/
import Derived.Test.YtdcedfciaaooiaaX3
set_option linter.unusedVariables false
namespace Go.Proofs.Ytdcedfciaaooiaa
open Go.RowKit

theorem mkname_any (s : ByteArray) (w : World) : Calls Try.prog 74 #[.string s] w fun e w' => e = .returned (.func (.func 100) #[] #[.pointer (some ⟨w.heap.size, 0, none⟩)]) ∧ w.alloc (.cells #[.string s] 9) = w' := by
  go_enter Try.func74, Try.ntmps74
  go_wp2
  go_ret
  exact ⟨rfl, rfl⟩
theorem name1_any (s : ByteArray) (g : Nat) (w : World) (hs : s.size ≤ 9223372036854775807) (h : Blk w g #[.string s] 9) : Calls Try.prog 100 #[.pointer (some ⟨g, 0, none⟩)] w (Ret (.int .i64 (nameE s)) w) := by
  obtain ⟨b1, b2⟩ := h.c1
  go_enter Try.func100, Try.ntmps100
  go_wp2_with fail; refine (name_any _ _ hs).mono ?_; rintro e w' ⟨rfl, hb⟩
  go_wp2
  go_ret
  exact ⟨rfl, hb⟩
theorem name_thunk (s : ByteArray) (g : Nat) (w : World) (hs : s.size ≤ 9223372036854775807) (h : Blk w g #[.string s] 9) : Thunk (.func (.func 100) #[] #[.pointer (some ⟨g, 0, none⟩)]) (nameE s) w :=
  ⟨_, _, rfl, fun w1 => by kernel_rfl, fun w1 h1 => name1_any s g w1 hs (h.ext h1)⟩
theorem mid_any (d : Dim) (g : Nat) (w : World) (h : Blk w g #[.string d.frm, .string d.to, .int .i64 d.axis, .int .i64 d.lo, .int .i64 d.hi] 40) : Calls Try.prog 75 #[.pointer (some ⟨g, 0, none⟩)] w (Ret (.int .i64 (midE d)) w) := by
  obtain ⟨⟨b1, b2, b3, b4, b5⟩, _⟩ := h.c5
  clear h
  cases hs : (d.frm.toList == d.to.toList)
  · by_cases h1 : d.axis < 0
    · have hr : Hid (midE d = 1) := by simp [Hid, midE, sameS, hs, h1]
      go_enter Try.func75, Try.ntmps75
      go_wp2
      go_ret
      exact Ret.int hr.out.symm (Ext.refl _)
    · by_cases h2 : 3 ≤ d.axis
      · have hr : Hid (midE d = 1) := by simp [Hid, midE, sameS, hs, h2]
        go_enter Try.func75, Try.ntmps75
        go_wp2
        go_ret
        exact Ret.int hr.out.symm (Ext.refl _)
      · have hr : Hid (midE d = 0) := by simp [Hid, midE, sameS, hs, h1, h2]
        go_enter Try.func75, Try.ntmps75
        go_wp2
        go_ret
        exact Ret.int hr.out.symm (Ext.refl _)
  · have hr : Hid (midE d = 7) := by simp [Hid, midE, sameS, hs]
    go_enter Try.func75, Try.ntmps75
    go_wp2
    go_ret
    exact Ret.int hr.out.symm (Ext.refl _)
theorem mid_thunk (d : Dim) (g : Nat) (w : World) (h : Blk w g #[.string d.frm, .string d.to, .int .i64 d.axis, .int .i64 d.lo, .int .i64 d.hi] 40) : Thunk (.func (.func 75) #[] #[.pointer (some ⟨g, 0, none⟩)]) (midE d) w :=
  ⟨_, _, rfl, fun w1 => by kernel_rfl, fun w1 h1 => mid_any d g w1 (h.ext h1)⟩

def Dim.fits (d : Dim) : Prop := d.frm.size ≤ 9223372036854775807 ∧ d.to.size ≤ 9223372036854775807

theorem valid_any (d : Dim) (w : World) (hd : d.fits) : Calls Try.prog 31 #[.agg #[.string d.frm, .string d.to, .int .i64 d.axis, .int .i64 d.lo, .int .i64 d.hi]] w (Ret (.int .i64 (validE d)) w) := by
  go_enter Try.func31, Try.ntmps31
  go_wp2_with fail
  go_region_held3 (fun W => W.cell? ⟨w.heap.size, 0, none⟩ = some (.string d.frm) ∧ W.cell? ⟨w.heap.size, 1, none⟩ = some (.string d.to) ∧ W.cell? ⟨w.heap.size, 2, none⟩ = some (.int .i64 d.axis) ∧ W.cell? ⟨w.heap.size, 3, none⟩ = some (.int .i64 d.lo) ∧ W.cell? ⟨w.heap.size, 4, none⟩ = some (.int .i64 d.hi))
    (exact Blk.r5 (t := 40) (by (repeat (first | (with_reducible assumption) | ((with_reducible apply Blk.new_at); focus (first | (simp; done) | (simp; omega))) | with_reducible apply Blk.alloc | with_reducible apply Blk.drew | with_reducible apply Blk.drewN | with_reducible apply Blk.set | ((with_reducible apply Blk.far); case hp => (first | (simp; done) | (dsimp only; omega))) | ((with_reducible apply Blk.ext); case he => with_reducible assumption)))))
    (first
      | (go_at_call 71; refine (limits_any _ _ _).mono ?_; rintro e w' ⟨rfl, rfl⟩)
      | (go_at_call 74; refine (mkname_any _ _).mono ?_; rintro e w' ⟨rfl, rfl⟩)
      | (go_at_call 70; refine (first_any _ _ 4 _ _ [nameE d.frm, nameE d.to, midE d, chk d.lo d.hi] (validE d) rfl (Blk.drew (Blk.new_at _ _ _ _ ?_)) ?_ rfl ?_).mono ?_; (focus (simp; done)); (focus decide); (focus (refine thunks4 (name_thunk _ _ _ hd.1 ?_) (name_thunk _ _ _ hd.2 ?_) (mid_thunk _ _ _ ?_) (limits_thunk _ _ _ _ ?_) <;> ((repeat (first | (with_reducible assumption) | ((with_reducible apply Blk.new_at); focus (first | (simp; done) | (simp; omega))) | with_reducible apply Blk.alloc | with_reducible apply Blk.drew | with_reducible apply Blk.drewN | with_reducible apply Blk.set | ((with_reducible apply Blk.far); case hp => (first | (simp; done) | (dsimp only; omega))) | ((with_reducible apply Blk.ext); case he => with_reducible assumption)))))); rintro e w' ⟨rfl, hb⟩))
  all_goals
    go_wp2_with fail
    go_ret
    exact Ret.int rfl (by (repeat (first | (with_reducible assumption) | with_reducible exact Ext.refl _ | with_reducible apply Ext.alloc | with_reducible apply Ext.drew | with_reducible apply Ext.drewN | ((with_reducible apply Ext.set); case hp => (first | (simp; done) | (dsimp only; omega) | omega)) | ((with_reducible apply Ext.trans); case k => with_reducible assumption))))
end Go.Proofs.Ytdcedfciaaooiaa
