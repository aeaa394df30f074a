/- The small functions of package dimension do what P17 says. -/
import Derived.Test.YtdcedfciaaooiabProg
import Derived.Test.YtdcedfciaaooiabX0
import Derived.Test.YtdcedfciaaooiabP17
import Derived.Laws.IdiomStrings
set_option linter.unusedVariables false
namespace Go.Proofs.Ytdcedfciaaooiab
open Go.RowKit

theorem ranged_any (n : Int) (w : World) : Calls Try.prog 99 #[.int .i64 n] w fun e w' => e = .returned (.bool (inR n)) ∧ w = w' := by
  by_cases h1 : -100000 ≤ n
  · by_cases h2 : n ≤ 100000
    all_goals
      go_enter Try.func99, Try.ntmps99
      go_wp2
      go_ret
      simp [inR] <;> omega
  · go_enter Try.func99, Try.ntmps99
    go_wp2
    go_ret
    simp [inR] <;> omega

theorem check_any (a b : Int) (w : World) : Calls Try.prog 68 #[.agg #[.int .i64 a, .int .i64 b]] w (Ret (.int .i64 (chk a b)) w) := by
  have fin : ∀ r, chk a b = r → Ret (.int .i64 (chk a b)) w (.returned (.int .i64 r)) (w.alloc (.cells #[.int .i64 a, .int .i64 b] 25)) :=
    fun r hr => Ret.mk' (by rw [hr]) ((Ext.refl _).alloc _)
  cases ha : inR a
  · have := fin 2 (by simp [chk, ha])
    go_enter Try.func68, Try.ntmps68
    go_wp2_with (first | (go_at_call 99; refine (ranged_any _ _).mono ?_; rintro e w' ⟨rfl, rfl⟩))
    go_ret
    exact this
  · cases hb : inR b
    · have := fin 2 (by simp [chk, hb])
      go_enter Try.func68, Try.ntmps68
      go_wp2_with (first | (go_at_call 99; refine (ranged_any _ _).mono ?_; rintro e w' ⟨rfl, rfl⟩))
      go_ret
      exact this
    · by_cases hl : a ≤ b
      · have := fin 0 (by simp [chk, ha, hb, hl])
        go_enter Try.func68, Try.ntmps68
        go_wp2_with (first | (go_at_call 99; refine (ranged_any _ _).mono ?_; rintro e w' ⟨rfl, rfl⟩))
        go_ret
        exact this
      · have := fin 9 (by simp [chk, ha, hb, hl])
        go_enter Try.func68, Try.ntmps68
        go_wp2_with (first | (go_at_call 99; refine (ranged_any _ _).mono ?_; rintro e w' ⟨rfl, rfl⟩))
        go_ret
        exact this

theorem letter_any (c : Int) (w : World) : Calls Try.prog 108 #[.int .u8 c] w fun e w' => e = .returned (.bool (letterB c)) ∧ w = w' := by
  have hx : (65 ≤ c ∧ c ≤ 90) ∨ (97 ≤ c ∧ c ≤ 122) ∨ c < 65 ∨ (90 < c ∧ c < 97) ∨ 122 < c := by omega
  rcases hx with h | h | h | h | h
  all_goals
    go_enter Try.func108, Try.ntmps108
    go_wp2
    go_ret
    exact ⟨retb (by rw [Bool.eq_iff_iff]; simp [letterB] <;> omega), rfl⟩

theorem digit_any (c : Int) (w : World) : Calls Try.prog 109 #[.int .u8 c] w fun e w' => e = .returned (.bool (digitB c)) ∧ w = w' := by
  have hx : (48 ≤ c ∧ c ≤ 57) ∨ c < 48 ∨ 57 < c := by omega
  rcases hx with h | h | h
  all_goals
    go_enter Try.func109, Try.ntmps109
    go_wp2
    go_ret
    exact ⟨retb (by rw [Bool.eq_iff_iff]; simp [digitB] <;> omega), rfl⟩

/-- A function value that returns r, whatever has been made since. -/
def Thunk (v : Value) (r : Int) (w : World) : Prop := ∃ k cap, v = .func (.func k) #[] cap ∧ (∀ w1, (callFunc k cap).run Try.prog w1 = .ok (.enter k cap) w1) ∧ ∀ w1, Ext w w1 → Calls Try.prog k cap w1 (Ret (.int .i64 r) w1)
theorem Thunk.ext {v : Value} {r : Int} {w w' : World} (h : Thunk v r w) (he : Ext w w') : Thunk v r w' := by
  obtain ⟨k, cap, hv, hf, hc⟩ := h
  exact ⟨k, cap, hv, hf, fun w1 h1 => hc w1 (he.trans h1)⟩

theorem limits_any (a b : Int) (w : World) : Calls Try.prog 114 #[.agg #[.int .i64 a, .int .i64 b]] w fun e w' => e = .returned (.func (.func 116) #[] #[.pointer (some ⟨w.heap.size, 0, none⟩)]) ∧ w.alloc (.cells #[.int .i64 a, .int .i64 b] 25) = w' := by
  go_enter Try.func114, Try.ntmps114
  go_wp2
  go_ret
  exact ⟨rfl, rfl⟩
theorem limits1_any (a b : Int) (g : Nat) (w : World) (h : Blk w g #[.int .i64 a, .int .i64 b] 25) : Calls Try.prog 116 #[.pointer (some ⟨g, 0, none⟩)] w (Ret (.int .i64 (chk a b)) w) := by
  obtain ⟨b1, b2, b3, b4⟩ := h.c2
  go_enter Try.func116, Try.ntmps116
  go_wp2_with fail
  refine (check_any _ _ _).mono ?_
  rintro e w' ⟨rfl, hb⟩
  go_wp2
  go_ret
  exact ⟨rfl, hb⟩
theorem limits_thunk (a b : Int) (g : Nat) (w : World) (h : Blk w g #[.int .i64 a, .int .i64 b] 25) : Thunk (.func (.func 116) #[] #[.pointer (some ⟨g, 0, none⟩)]) (chk a b) w :=
  ⟨_, _, rfl, fun w1 => by kernel_rfl, fun w1 h1 => limits1_any a b g w1 (h.ext h1)⟩

theorem thunks2 {v0 v1 : Value} {r0 r1 : Int} {w : World} (h0 : Thunk v0 r0 w) (h1 : Thunk v1 r1 w) : ∀ i, i < 2 → ∃ v, (#[v0, v1] : Array Value)[i]? = some v ∧ Thunk v ([r0, r1].getD i 0) w
  | 0, _ => ⟨_, rfl, h0⟩
  | 1, _ => ⟨_, rfl, h1⟩
theorem thunks4 {v0 v1 v2 v3 : Value} {r0 r1 r2 r3 : Int} {w : World} (h0 : Thunk v0 r0 w) (h1 : Thunk v1 r1 w) (h2 : Thunk v2 r2 w) (h3 : Thunk v3 r3 w) : ∀ i, i < 4 → ∃ v, (#[v0, v1, v2, v3] : Array Value)[i]? = some v ∧ Thunk v ([r0, r1, r2, r3].getD i 0) w
  | 0, _ => ⟨_, rfl, h0⟩
  | 1, _ => ⟨_, rfl, h1⟩
  | 2, _ => ⟨_, rfl, h2⟩
  | 3, _ => ⟨_, rfl, h3⟩
set_option maxRecDepth 20000 in
theorem first_any (w : World) (g n : Nat) (T : TypeId) (vs : Array Value) (rs : List Int) (R : Int) (hR : Hid (firstE rs = R)) (hB : Blk w g vs T) (hn : n ≤ 100) (hr : Hid (rs.length = n))
    (hT : ∀ i, i < n → ∃ v, vs[i]? = some v ∧ Thunk v (rs.getD i 0) w) : Calls Try.prog 111 #[.slice (some ⟨g, 0, none⟩) n n] w (Ret (.int .i64 R) w) := by
  have HT := Lib.hid hT; clear hT
  go_enter Try.func111, Try.ntmps111
  go_wp2_with fail
  go_loopw [4, 5, 8] (fun x y i wr => ∃ k : Nat, k ≤ n ∧ i = .int .i64 k ∧ Ext w wr ∧ Hid (∀ j, j < k → rs.getD j 0 = 0)) (fun _ _ i _ => n - (intOf i).toNat)
  case atStart => exact ⟨0, Nat.zero_le _, rfl, Ext.refl _, fun j hj => by omega⟩
  case round =>
    obtain ⟨k, hk, rfl, he, hz⟩ := hrel
    by_cases hlt : k < n
    · obtain ⟨v, hv, f, cap, hf, hcf, hc⟩ := HT.out k hlt
      have hcell : wr.cell? ⟨g, k, none⟩ = some (.func (.func f) #[] cap) := by
        rw [(hB.ext he).cell k, ← hf]
        exact hv
      have HC := Lib.hid (hc wr he); clear hc
      generalize hR' : rs.getD k 0 = r at HC
      have HR := Lib.hid hR'; clear hR' hf
      cases hr0 : r != 0
      · go_wp2_with fail
        refine HC.out.mono ?_
        rintro e w' ⟨rfl, hb⟩
        go_wp2_with fail
        go_roundw
        case rel => exact ⟨k + 1, by omega, by go_num, he.trans hb, fun j hj => by
          by_cases h : j < k
          · exact hz.out j h
          · obtain rfl : j = k := by omega
            rw [HR.out]; simpa using hr0⟩
        case measure => simp [intOf]; omega
      · have hfin : Hid (r = R) := (hR.out.symm.trans ((firstE_hit rs k hz.out (by rw [HR.out]; simpa using hr0)).trans HR.out)).symm
        go_wp2_with fail
        refine HC.out.mono ?_
        rintro e w' ⟨rfl, hb⟩
        go_wp2_with fail
        go_ret
        exact Ret.int hfin.out (he.trans hb)
    · have hfin : Hid (R = 0) := hR.out.symm.trans <| firstE_none rs n hr.out (fun j hj => hz.out j (by omega))
      go_wp2_with fail
      go_ret
      exact Ret.int hfin.out.symm he

theorem szL : (Try.prog.info? 25).map (·.size) = some 2 := by kernel_rfl
theorem mkLE {l : Lim} {e : Int} {w : World} : ∀ x y r w', l.lo = x → l.hi = y → e = r → Ext w w' → Ret (.tuple #[.agg #[.int .i64 l.lo, .int .i64 l.hi], .int .i64 e]) w (.returned (.tuple #[.agg #[.int .i64 x, .int .i64 y], .int .i64 r])) w' := by
  rintro _ _ _ w' rfl rfl rfl h; exact ⟨rfl, h⟩

end Go.Proofs.Ytdcedfciaaooiab
