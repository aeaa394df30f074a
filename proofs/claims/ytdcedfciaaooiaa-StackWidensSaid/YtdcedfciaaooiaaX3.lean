/- Name of package dimension does what P17 says, for every string of at most 2^63 - 1 bytes. -/
import Derived.Test.YtdcedfciaaooiaaX2
set_option linter.unusedVariables false
namespace Go.Proofs.Ytdcedfciaaooiaa
open Go.RowKit

theorem toList_length (s : ByteArray) : s.toList.length = s.size := by
  rw [ByteArray.toList_eq]; rfl
theorem empty_list {s : ByteArray} (h : s.size = 0) : s.toList.isEmpty = true := by
  rw [List.isEmpty_iff_length_eq_zero, toList_length, h]
theorem full_list {s : ByteArray} (h : 0 < s.size) : s.toList.isEmpty = false := by
  rw [Bool.eq_false_iff]
  intro h'
  rw [List.isEmpty_iff_length_eq_zero, toList_length] at h'
  omega
theorem bytes_run (w : World) (s : ByteArray) : ∃ w1 c, (convert 9 113 (.string s)).run Try.prog w = .ok (.slice (some ⟨w.heap.size, 0, none⟩) s.size c) w1 ∧ Ext w w1 ∧ ∀ k, k < s.size → w1.cell? ⟨w.heap.size, k, none⟩ = some (.int .u8 (bt s k)) := by
  refine ⟨_, _, run_bytes_of_string w 9 113 5 s Try.underlying9 Try.underlying113 Try.underlying5, (Ext.refl w).drew.alloc _, fun k hk => ?_⟩
  have h : (w.drew.alloc (.cells (bytesRow s (grownCap w s.size 0 5)) 5 ((bytesRow s (grownCap w s.size 0 5)).size, (bytesRow s (grownCap w s.size 0 5)).size + 1))).heap[w.heap.size]? = some (.cells (bytesRow s (grownCap w s.size 0 5)) 5 ((bytesRow s (grownCap w s.size 0 5)).size, (bytesRow s (grownCap w s.size 0 5)).size + 1)) := heap_alloc_new w.drew _
  simp only [World.cell?, h]
  rw [bytesRow_at s _ k hk]
  simp [bt, hk]
  rfl

set_option maxRecDepth 100000 in
theorem name_any (s : ByteArray) (w : World) (hs : s.size ≤ 9223372036854775807) : Calls Try.prog 18 #[.string s] w (Ret (.int .i64 (nameE s)) w) := by
  by_cases h1 : 24 < s.size
  · have hr := Lib.hid (nameE_long h1)
    go_enter Try.func18, Try.ntmps18
    go_wp2_with fail
    go_ret
    exact Ret.int hr.out.symm (by (repeat (first | (with_reducible assumption) | with_reducible exact Ext.refl _ | with_reducible apply Ext.alloc | with_reducible apply Ext.drew | with_reducible apply Ext.drewN | ((with_reducible apply Ext.set); case hp => (first | (simp; done) | (dsimp only; omega) | omega)) | ((with_reducible apply Ext.trans); case k => with_reducible assumption))))
  by_cases h2 : s.size = 0
  · have hr := Lib.hid (nameE_empty h2)
    have he : s.toList.isEmpty = true := empty_list h2
    have hz := Lib.hid h2
    clear h2
    go_enter Try.func18, Try.ntmps18
    go_wp2_with fail
    go_ret
    exact Ret.int hr.out.symm (by (repeat (first | (with_reducible assumption) | with_reducible exact Ext.refl _ | with_reducible apply Ext.alloc | with_reducible apply Ext.drew | with_reducible apply Ext.drewN | ((with_reducible apply Ext.set); case hp => (first | (simp; done) | (dsimp only; omega) | omega)) | ((with_reducible apply Ext.trans); case k => with_reducible assumption))))
  have h0 : 0 < s.size := by omega
  have he : s.toList.isEmpty = false := full_list h0
  have hbt : bt s 0 = ((s[0]'h0).toNat : Int) := by simp [bt, h0]
  clear h2
  cases hl : letterB (bt s 0)
  · have hr := Lib.hid (nameE_first h1 hl)
    rw [hbt] at hl
    clear hbt
    go_enter Try.func18, Try.ntmps18
    go_wp2_with (go_at_call 67; refine (letter_any _ _).mono ?_; rintro e w' ⟨rfl, rfl⟩)
    go_ret
    exact Ret.int hr.out.symm (by (repeat (first | (with_reducible assumption) | with_reducible exact Ext.refl _ | with_reducible apply Ext.alloc | with_reducible apply Ext.drew | with_reducible apply Ext.drewN | ((with_reducible apply Ext.set); case hp => (first | (simp; done) | (dsimp only; omega) | omega)) | ((with_reducible apply Ext.trans); case k => with_reducible assumption))))
  · have hl' := Lib.hid hl
    rw [hbt] at hl
    clear hbt
    obtain ⟨w1, c, kb, he1, hc⟩ := bytes_run w s
    have HC := Lib.hid hc; clear hc
    go_enter Try.func18, Try.ntmps18
    go_wp2_with (go_at_call 67; refine (letter_any _ _).mono ?_; rintro e w' ⟨rfl, rfl⟩)
    go_loopw [4, 19] (fun x i wr => ∃ k : Nat, k ≤ s.size ∧ i = .int .i64 k ∧ wr = w1 ∧ Hid (∀ j, j < k → okB (bt s j) = true)) (fun _ i _ => s.size - (intOf i).toNat)
    case atStart => exact ⟨0, Nat.zero_le _, rfl, rfl, fun j hj => by omega⟩
    case round =>
      obtain ⟨k, hk, rfl, rfl, ha⟩ := hrel
      by_cases hlt : k < s.size
      · have hcell := HC.out k hlt
        obtain ⟨b, hb⟩ : ∃ b, bt s k = b := ⟨_, rfl⟩
        rw [hb] at hcell
        have HB := Lib.hid hb
        clear hb hl he
        cases h3 : letterB b
        · cases h4 : digitB b
          · have hr := Lib.hid (nameE_bad h1 k hlt (by rw [HB.out]; simp [okB, h3, h4]))
            go_wp2_with (first | (go_at_call 67; refine (letter_any _ _).mono ?_; rintro e w' ⟨rfl, rfl⟩) | (go_at_call 68; refine (digit_any _ _).mono ?_; rintro e w' ⟨rfl, rfl⟩))
            go_ret
            exact Ret.int hr.out.symm he1
          · have hok : Hid (okB (bt s k) = true) := by rw [HB.out]; simp [okB, h4, Hid]
            go_wp2_with (first | (go_at_call 67; refine (letter_any _ _).mono ?_; rintro e w' ⟨rfl, rfl⟩) | (go_at_call 68; refine (digit_any _ _).mono ?_; rintro e w' ⟨rfl, rfl⟩))
            go_roundw
            case rel => exact ⟨k + 1, by omega, by go_num, by first | trivial | rfl, fun j hj => by
              by_cases h : j < k
              · exact ha.out j h
              · obtain rfl : j = k := by omega
                exact hok.out⟩
            case measure => simp [intOf]; omega
        · have hok : Hid (okB (bt s k) = true) := by rw [HB.out]; simp [okB, h3, Hid]
          go_wp2_with (first | (go_at_call 67; refine (letter_any _ _).mono ?_; rintro e w' ⟨rfl, rfl⟩) | (go_at_call 68; refine (digit_any _ _).mono ?_; rintro e w' ⟨rfl, rfl⟩))
          go_roundw
          case rel => exact ⟨k + 1, by omega, by go_num, by first | trivial | rfl, fun j hj => by
            by_cases h : j < k
            · exact ha.out j h
            · obtain rfl : j = k := by omega
              exact hok.out⟩
          case measure => simp [intOf]; omega
      · have hr := Lib.hid (nameE_good h1 h0 hl'.out (fun j hj => ha.out j (by omega)))
        go_wp2_with fail
        go_ret
        exact Ret.int hr.out.symm he1
end Go.Proofs.Ytdcedfciaaooiaa
