/- The small functions of package dimension do what P17 says. -/
import Derived.Test.YtdcedfciaaooiaaProg
import Derived.Test.YtdcedfciaaooiaaX0
import Derived.Test.YtdcedfciaaooiaaP17
import Derived.Laws.IdiomStrings
set_option linter.unusedVariables false
namespace Go.Proofs.Ytdcedfciaaooiaa
open Go.RowKit

theorem ranged_any (n : Int) (w : World) : Calls Try.prog 63 #[.int .i64 n] w fun e w' => e = .returned (.bool (inR n)) ∧ w = w' := by
  by_cases h1 : -100000 ≤ n
  · by_cases h2 : n ≤ 100000
    all_goals
      go_enter Try.func63, Try.ntmps63
      go_wp2
      go_ret
      simp [inR] <;> omega
  · go_enter Try.func63, Try.ntmps63
    go_wp2
    go_ret
    simp [inR] <;> omega

theorem check_any (a b : Int) (w : World) : Calls Try.prog 20 #[.agg #[.int .i64 a, .int .i64 b]] w (Ret (.int .i64 (chk a b)) w) := by
  have fin : ∀ r, chk a b = r → Ret (.int .i64 (chk a b)) w (.returned (.int .i64 r)) (w.alloc (.cells #[.int .i64 a, .int .i64 b] 23)) :=
    fun r hr => Ret.mk' (by rw [hr]) ((Ext.refl _).alloc _)
  cases ha : inR a
  · have := fin 2 (by simp [chk, ha])
    go_enter Try.func20, Try.ntmps20
    go_wp2_with (first | (go_at_call 63; refine (ranged_any _ _).mono ?_; rintro e w' ⟨rfl, rfl⟩))
    go_ret
    exact this
  · cases hb : inR b
    · have := fin 2 (by simp [chk, hb])
      go_enter Try.func20, Try.ntmps20
      go_wp2_with (first | (go_at_call 63; refine (ranged_any _ _).mono ?_; rintro e w' ⟨rfl, rfl⟩))
      go_ret
      exact this
    · by_cases hl : a ≤ b
      · have := fin 0 (by simp [chk, ha, hb, hl])
        go_enter Try.func20, Try.ntmps20
        go_wp2_with (first | (go_at_call 63; refine (ranged_any _ _).mono ?_; rintro e w' ⟨rfl, rfl⟩))
        go_ret
        exact this
      · have := fin 9 (by simp [chk, ha, hb, hl])
        go_enter Try.func20, Try.ntmps20
        go_wp2_with (first | (go_at_call 63; refine (ranged_any _ _).mono ?_; rintro e w' ⟨rfl, rfl⟩))
        go_ret
        exact this

theorem letter_any (c : Int) (w : World) : Calls Try.prog 67 #[.int .u8 c] w fun e w' => e = .returned (.bool (letterB c)) ∧ w = w' := by
  have hx : (65 ≤ c ∧ c ≤ 90) ∨ (97 ≤ c ∧ c ≤ 122) ∨ c < 65 ∨ (90 < c ∧ c < 97) ∨ 122 < c := by omega
  rcases hx with h | h | h | h | h
  all_goals
    go_enter Try.func67, Try.ntmps67
    go_wp2
    go_ret
    exact ⟨retb (by rw [Bool.eq_iff_iff]; simp [letterB] <;> omega), rfl⟩

theorem digit_any (c : Int) (w : World) : Calls Try.prog 68 #[.int .u8 c] w fun e w' => e = .returned (.bool (digitB c)) ∧ w = w' := by
  have hx : (48 ≤ c ∧ c ≤ 57) ∨ c < 48 ∨ 57 < c := by omega
  rcases hx with h | h | h
  all_goals
    go_enter Try.func68, Try.ntmps68
    go_wp2
    go_ret
    exact ⟨retb (by rw [Bool.eq_iff_iff]; simp [digitB] <;> omega), rfl⟩

theorem made_any (a b : Int) (w : World) : Calls Try.prog 64 #[.int .i64 a, .int .i64 b] w (Ret (.tuple #[.agg #[.int .i64 (madeL a b).lo, .int .i64 (madeL a b).hi], .int .i64 (chk a b)]) w) := by
  have mk : ∀ x y r, (madeL a b).lo = x → (madeL a b).hi = y → chk a b = r → ∀ w', Ext w w' → Ret (.tuple #[.agg #[.int .i64 (madeL a b).lo, .int .i64 (madeL a b).hi], .int .i64 (chk a b)]) w (.returned (.tuple #[.agg #[.int .i64 x, .int .i64 y], .int .i64 r])) w' := by
    rintro _ _ _ rfl rfl rfl w' h; exact ⟨rfl, h⟩
  cases h : chk a b != 0
  · have hr : chk a b = 0 := by simpa using h
    have fin := mk a b 0 (by simp [madeL, hr]) (by simp [madeL, hr]) hr; clear hr mk
    go_enter Try.func64, Try.ntmps64
    go_wp2_with fail
    refine (check_any _ _ _).mono ?_
    rintro e w' ⟨rfl, hb⟩
    have hA : Blk w' (w.heap.size + 1) _ _ := (Blk.new_at _ _ _ _ (by simp)).ext hb
    have hB : Blk w' w.heap.size _ _ := ((Blk.new w _ _).alloc _).ext hb
    obtain ⟨a1, a2, a3, a4⟩ := hA.c2
    obtain ⟨b1, b2, b3, b4⟩ := hB.c2
    go_wp2
    refine end_ct rfl rfl _ _ _ _ _ rfl rfl ((hB.set _ _).set _ _) Try.underlying23 rfl (by kernel_rfl) (fin _ ?_)
    exact ((((Ext.refl w).alloc _).alloc _).trans hb).set (Nat.le_refl _) _ |>.set (Nat.le_refl _) _
  · have hr : ¬ chk a b = 0 := by simpa using h
    have fin := mk 0 0 (chk a b) (by simp [madeL, hr]) (by simp [madeL, hr]) rfl; clear hr mk
    go_enter Try.func64, Try.ntmps64
    go_wp2_with fail
    refine (check_any _ _ _).mono ?_
    rintro e w' ⟨rfl, hb⟩
    have hA : Blk w' (w.heap.size + 1) _ _ := (Blk.new_at _ _ _ _ (by simp)).ext hb
    have hB : Blk w' w.heap.size _ _ := ((Blk.new w _ _).alloc _).ext hb
    obtain ⟨a1, a2, a3, a4⟩ := hA.c2
    obtain ⟨b1, b2, b3, b4⟩ := hB.c2
    go_wp2
    refine end_ct rfl rfl _ _ _ _ _ rfl rfl ((hB.set _ _).set _ _) Try.underlying23 rfl (by kernel_rfl) (fin _ ?_)
    exact ((((Ext.refl w).alloc _).alloc _).trans hb).set (Nat.le_refl _) _ |>.set (Nat.le_refl _) _
theorem of_any (n a b : Int) (w : World) : Calls Try.prog 16 #[.int .i64 n, .int .i64 a, .int .i64 b] w (Ret (.tuple #[.agg #[.int .i64 (ofL n a b).lo, .int .i64 (ofL n a b).hi], .int .i64 (ofE n a b)]) w) := by
  have mk : ∀ x y r, (ofL n a b).lo = x → (ofL n a b).hi = y → ofE n a b = r → ∀ w', Ext w w' → Ret (.tuple #[.agg #[.int .i64 (ofL n a b).lo, .int .i64 (ofL n a b).hi], .int .i64 (ofE n a b)]) w (.returned (.tuple #[.agg #[.int .i64 x, .int .i64 y], .int .i64 r])) w' := by
    rintro _ _ _ rfl rfl rfl w' h; exact ⟨rfl, h⟩
  cases h : inR n && inR a && inR b
  · have fin := mk 0 0 2 (by simp [ofL, h]) (by simp [ofL, h]) (by simp [ofE, h]); clear mk
    have hx : inR n = false ∨ (inR n = true ∧ inR a = false) ∨ (inR n = true ∧ inR a = true ∧ inR b = false) := by
      revert h; cases inR n <;> cases inR a <;> cases inR b <;> simp
    rcases hx with hx | ⟨hx, hy⟩ | ⟨hx, hy, hz⟩
    all_goals
      clear h
      go_enter Try.func16, Try.ntmps16
      go_wp2_with (first | (go_at_call 63; refine (ranged_any _ _).mono ?_; rintro e w' ⟨rfl, rfl⟩))
      refine end_ct rfl rfl _ _ _ _ _ rfl rfl (Blk.new _ _ _) Try.underlying23 rfl (by kernel_rfl) (fin _ ?_)
      exact (Ext.refl w).alloc _
  · simp only [Bool.and_eq_true] at h
    obtain ⟨⟨h1, h2⟩, h3⟩ := h
    have g1 := inR_t h1
    have g2 := inR_t h2
    have g3 := inR_t h3
    have fin := mk (madeL (n + a) (n + b)).lo (madeL (n + a) (n + b)).hi (chk (n + a) (n + b)) (by simp [ofL, h1, h2, h3]) (by simp [ofL, h1, h2, h3]) (by simp [ofE, h1, h2, h3]); clear mk
    go_enter Try.func16, Try.ntmps16
    go_wp2_with (first | (go_at_call 63; refine (ranged_any _ _).mono ?_; rintro e w' ⟨rfl, rfl⟩))
    refine (made_any _ _ _).mono ?_
    rintro e w' ⟨rfl, hb⟩
    have hB : Blk w' w.heap.size _ _ := (Blk.new w _ _).ext hb
    obtain ⟨b1, b2, b3, b4⟩ := hB.c2
    go_wp2
    refine end_ct rfl rfl _ _ _ _ _ rfl rfl ((hB.set _ _).set _ _) Try.underlying23 rfl (by kernel_rfl) (fin _ ?_)
    exact (((Ext.refl w).alloc _).trans hb).set (Nat.le_refl _) _ |>.set (Nat.le_refl _) _

/-- A function value that returns r, whatever has been made since. -/
def Thunk (v : Value) (r : Int) (w : World) : Prop := ∃ k cap, v = .func (.func k) #[] cap ∧ (∀ w1, (callFunc k cap).run Try.prog w1 = .ok (.enter k cap) w1) ∧ ∀ w1, Ext w w1 → Calls Try.prog k cap w1 (Ret (.int .i64 r) w1)
theorem Thunk.ext {v : Value} {r : Int} {w w' : World} (h : Thunk v r w) (he : Ext w w') : Thunk v r w' := by
  obtain ⟨k, cap, hv, hf, hc⟩ := h
  exact ⟨k, cap, hv, hf, fun w1 h1 => hc w1 (he.trans h1)⟩

theorem limits_any (a b : Int) (w : World) : Calls Try.prog 71 #[.agg #[.int .i64 a, .int .i64 b]] w fun e w' => e = .returned (.func (.func 99) #[] #[.pointer (some ⟨w.heap.size, 0, none⟩)]) ∧ w.alloc (.cells #[.int .i64 a, .int .i64 b] 23) = w' := by
  go_enter Try.func71, Try.ntmps71
  go_wp2
  go_ret
  exact ⟨rfl, rfl⟩
theorem limits1_any (a b : Int) (g : Nat) (w : World) (h : Blk w g #[.int .i64 a, .int .i64 b] 23) : Calls Try.prog 99 #[.pointer (some ⟨g, 0, none⟩)] w (Ret (.int .i64 (chk a b)) w) := by
  obtain ⟨b1, b2, b3, b4⟩ := h.c2
  go_enter Try.func99, Try.ntmps99
  go_wp2_with fail
  refine (check_any _ _ _).mono ?_
  rintro e w' ⟨rfl, hb⟩
  go_wp2
  go_ret
  exact ⟨rfl, hb⟩
theorem limits_thunk (a b : Int) (g : Nat) (w : World) (h : Blk w g #[.int .i64 a, .int .i64 b] 23) : Thunk (.func (.func 99) #[] #[.pointer (some ⟨g, 0, none⟩)]) (chk a b) w :=
  ⟨_, _, rfl, fun w1 => by kernel_rfl, fun w1 h1 => limits1_any a b g w1 (h.ext h1)⟩

theorem thunks2 {v0 v1 : Value} {r0 r1 : Int} {w : World} (h0 : Thunk v0 r0 w) (h1 : Thunk v1 r1 w) : ∀ i, i < 2 → ∃ v, (#[v0, v1] : Array Value)[i]? = some v ∧ Thunk v ([r0, r1].getD i 0) w
  | 0, _ => ⟨_, rfl, h0⟩
  | 1, _ => ⟨_, rfl, h1⟩
theorem thunks4 {v0 v1 v2 v3 : Value} {r0 r1 r2 r3 : Int} {w : World} (h0 : Thunk v0 r0 w) (h1 : Thunk v1 r1 w) (h2 : Thunk v2 r2 w) (h3 : Thunk v3 r3 w) : ∀ i, i < 4 → ∃ v, (#[v0, v1, v2, v3] : Array Value)[i]? = some v ∧ Thunk v ([r0, r1, r2, r3].getD i 0) w
  | 0, _ => ⟨_, rfl, h0⟩
  | 1, _ => ⟨_, rfl, h1⟩
  | 2, _ => ⟨_, rfl, h2⟩
  | 3, _ => ⟨_, rfl, h3⟩
set_option maxRecDepth 20000 in
theorem first_any (w : World) (g n : Nat) (T : TypeId) (vs : Array Value) (rs : List Int) (R : Int) (hR : Hid (firstE rs = R)) (hB : Blk w g vs T) (hn : n ≤ 100) (hr : Hid (rs.length = n))
    (hT : ∀ i, i < n → ∃ v, vs[i]? = some v ∧ Thunk v (rs.getD i 0) w) : Calls Try.prog 70 #[.slice (some ⟨g, 0, none⟩) n n] w (Ret (.int .i64 R) w) := by
  have HT := Lib.hid hT; clear hT
  go_enter Try.func70, Try.ntmps70
  go_wp2_with fail
  go_loopw [4, 5, 8] (fun x y i wr => ∃ k : Nat, k ≤ n ∧ i = .int .i64 k ∧ Ext w wr ∧ Hid (∀ j, j < k → rs.getD j 0 = 0)) (fun _ _ i _ => n - (intOf i).toNat)
  case atStart => exact ⟨0, Nat.zero_le _, rfl, Ext.refl _, fun j hj => by omega⟩
  case round =>
    obtain ⟨k, hk, rfl, he, hz⟩ := hrel
    by_cases hlt : k < n
    · obtain ⟨v, hv, f, cap, hf, hcf, hc⟩ := HT.out k hlt
      have hcell : wr.cell? ⟨g, k, none⟩ = some (.func (.func f) #[] cap) := by
        rw [(hB.ext he).cell k, ← hf]
        exact hv
      have HC := Lib.hid (hc wr he); clear hc
      generalize hR' : rs.getD k 0 = r at HC
      have HR := Lib.hid hR'; clear hR' hf
      cases hr0 : r != 0
      · go_wp2_with fail
        refine HC.out.mono ?_
        rintro e w' ⟨rfl, hb⟩
        go_wp2_with fail
        go_roundw
        case rel => exact ⟨k + 1, by omega, by go_num, he.trans hb, fun j hj => by
          by_cases h : j < k
          · exact hz.out j h
          · obtain rfl : j = k := by omega
            rw [HR.out]; simpa using hr0⟩
        case measure => simp [intOf]; omega
      · have hfin : Hid (r = R) := (hR.out.symm.trans ((firstE_hit rs k hz.out (by rw [HR.out]; simpa using hr0)).trans HR.out)).symm
        go_wp2_with fail
        refine HC.out.mono ?_
        rintro e w' ⟨rfl, hb⟩
        go_wp2_with fail
        go_ret
        exact Ret.int hfin.out (he.trans hb)
    · have hfin : Hid (R = 0) := hR.out.symm.trans <| firstE_none rs n hr.out (fun j hj => hz.out j (by omega))
      go_wp2_with fail
      go_ret
      exact Ret.int hfin.out.symm he

theorem inside_any (a b c d : Int) (w : World) : Calls Try.prog 34 #[.agg #[.int .i64 a, .int .i64 b], .agg #[.int .i64 c, .int .i64 d]] w (Ret (.tuple #[.bool (insideB a b c d), .int .i64 (bothE a b c d)]) w) := by
  have mk : ∀ x r w', insideB a b c d = x → bothE a b c d = r → Ext w w' → Ret (.tuple #[.bool (insideB a b c d), .int .i64 (bothE a b c d)]) w (.returned (.tuple #[.bool x, .int .i64 r])) w' := by
    rintro _ _ w' rfl rfl h; exact ⟨rfl, h⟩
  cases h : bothE a b c d != 0
  · have hy := Lib.hid (insideB_yes h)
    by_cases hg : c ≤ a
    all_goals
      go_enter Try.func34, Try.ntmps34
      go_wp2_with fail
      go_region_held3 (fun W => (W.cell? ⟨w.heap.size, 0, none⟩ = some (.int .i64 a) ∧ W.cell? ⟨w.heap.size, 1, none⟩ = some (.int .i64 b)) ∧ W.cell? ⟨w.heap.size + 1, 0, none⟩ = some (.int .i64 c) ∧ W.cell? ⟨w.heap.size + 1, 1, none⟩ = some (.int .i64 d)) (exact ⟨Blk.r2 (t := 23) (by (repeat (first | (with_reducible assumption) | ((with_reducible apply Blk.new_at); focus (first | (simp; done) | (simp; omega))) | with_reducible apply Blk.alloc | with_reducible apply Blk.drew | with_reducible apply Blk.drewN | with_reducible apply Blk.set | ((with_reducible apply Blk.far); case hp => (first | (simp; done) | (dsimp only; omega))) | ((with_reducible apply Blk.ext); case he => with_reducible assumption)))), Blk.r2 (t := 23) (by (repeat (first | (with_reducible assumption) | ((with_reducible apply Blk.new_at); focus (first | (simp; done) | (simp; omega))) | with_reducible apply Blk.alloc | with_reducible apply Blk.drew | with_reducible apply Blk.drewN | with_reducible apply Blk.set | ((with_reducible apply Blk.far); case hp => (first | (simp; done) | (dsimp only; omega))) | ((with_reducible apply Blk.ext); case he => with_reducible assumption))))⟩) (first | (go_at_call 71; refine (limits_any _ _ _).mono ?_; rintro e w' ⟨rfl, rfl⟩) | (go_at_call 70; refine (first_any _ _ 2 _ _ [chk a b, chk c d] (bothE a b c d) rfl (Blk.drew (Blk.new_at _ _ _ _ ?_)) ?_ rfl ?_).mono ?_; (focus (simp; done)); (focus decide); (focus (refine thunks2 (limits_thunk a b _ _ ?_) (limits_thunk c d _ _ ?_) <;> ((repeat (first | (with_reducible assumption) | ((with_reducible apply Blk.new_at); focus (first | (simp; done) | (simp; omega))) | with_reducible apply Blk.alloc | with_reducible apply Blk.drew | with_reducible apply Blk.drewN | with_reducible apply Blk.set | ((with_reducible apply Blk.far); case hp => (first | (simp; done) | (dsimp only; omega))) | ((with_reducible apply Blk.ext); case he => with_reducible assumption)))))); rintro e w' ⟨rfl, hb⟩))
      go_wp2_with fail
      go_ret2
      exact mk _ _ _ (by rw [hy.out, Bool.eq_iff_iff]; simp <;> omega) (by simpa using h) (by (repeat (first | (with_reducible assumption) | with_reducible exact Ext.refl _ | with_reducible apply Ext.alloc | with_reducible apply Ext.drew | with_reducible apply Ext.drewN | ((with_reducible apply Ext.set); case hp => (first | (simp; done) | (dsimp only; omega) | omega)) | ((with_reducible apply Ext.trans); case k => with_reducible assumption))))
  · have hy := Lib.hid (insideB_no h)
    go_enter Try.func34, Try.ntmps34
    go_wp2_with fail
    go_region_held3 (fun W => (W.cell? ⟨w.heap.size, 0, none⟩ = some (.int .i64 a) ∧ W.cell? ⟨w.heap.size, 1, none⟩ = some (.int .i64 b)) ∧ W.cell? ⟨w.heap.size + 1, 0, none⟩ = some (.int .i64 c) ∧ W.cell? ⟨w.heap.size + 1, 1, none⟩ = some (.int .i64 d)) (exact ⟨Blk.r2 (t := 23) (by (repeat (first | (with_reducible assumption) | ((with_reducible apply Blk.new_at); focus (first | (simp; done) | (simp; omega))) | with_reducible apply Blk.alloc | with_reducible apply Blk.drew | with_reducible apply Blk.drewN | with_reducible apply Blk.set | ((with_reducible apply Blk.far); case hp => (first | (simp; done) | (dsimp only; omega))) | ((with_reducible apply Blk.ext); case he => with_reducible assumption)))), Blk.r2 (t := 23) (by (repeat (first | (with_reducible assumption) | ((with_reducible apply Blk.new_at); focus (first | (simp; done) | (simp; omega))) | with_reducible apply Blk.alloc | with_reducible apply Blk.drew | with_reducible apply Blk.drewN | with_reducible apply Blk.set | ((with_reducible apply Blk.far); case hp => (first | (simp; done) | (dsimp only; omega))) | ((with_reducible apply Blk.ext); case he => with_reducible assumption))))⟩) (first | (go_at_call 71; refine (limits_any _ _ _).mono ?_; rintro e w' ⟨rfl, rfl⟩) | (go_at_call 70; refine (first_any _ _ 2 _ _ [chk a b, chk c d] (bothE a b c d) rfl (Blk.drew (Blk.new_at _ _ _ _ ?_)) ?_ rfl ?_).mono ?_; (focus (simp; done)); (focus decide); (focus (refine thunks2 (limits_thunk a b _ _ ?_) (limits_thunk c d _ _ ?_) <;> ((repeat (first | (with_reducible assumption) | ((with_reducible apply Blk.new_at); focus (first | (simp; done) | (simp; omega))) | with_reducible apply Blk.alloc | with_reducible apply Blk.drew | with_reducible apply Blk.drewN | with_reducible apply Blk.set | ((with_reducible apply Blk.far); case hp => (first | (simp; done) | (dsimp only; omega))) | ((with_reducible apply Blk.ext); case he => with_reducible assumption)))))); rintro e w' ⟨rfl, hb⟩))
    go_wp2_with fail
    go_ret2
    exact mk _ _ _ (by rw [hy.out]) rfl (by (repeat (first | (with_reducible assumption) | with_reducible exact Ext.refl _ | with_reducible apply Ext.alloc | with_reducible apply Ext.drew | with_reducible apply Ext.drewN | ((with_reducible apply Ext.set); case hp => (first | (simp; done) | (dsimp only; omega) | omega)) | ((with_reducible apply Ext.trans); case k => with_reducible assumption))))
theorem szL : (Try.prog.info? 23).map (·.size) = some 2 := by kernel_rfl
theorem mkLE {l : Lim} {e : Int} {w : World} : ∀ x y r w', l.lo = x → l.hi = y → e = r → Ext w w' → Ret (.tuple #[.agg #[.int .i64 l.lo, .int .i64 l.hi], .int .i64 e]) w (.returned (.tuple #[.agg #[.int .i64 x, .int .i64 y], .int .i64 r])) w' := by
  rintro _ _ _ w' rfl rfl rfl h; exact ⟨rfl, h⟩

set_option maxHeartbeats 4000000 in
theorem meet_any (a b c d : Int) (w : World) : Calls Try.prog 22 #[.agg #[.int .i64 a, .int .i64 b], .agg #[.int .i64 c, .int .i64 d]] w (Ret (.tuple #[.agg #[.int .i64 (meetL a b c d).lo, .int .i64 (meetL a b c d).hi], .int .i64 (meetE a b c d)]) w) := by
  cases h : bothE a b c d != 0
  · have hz := Lib.hid (show bothE a b c d = 0 by simpa using h)
    have hx : (a < c ∧ d < b ∧ (c ≤ d ∨ d < c)) ∨ (a < c ∧ ¬ d < b ∧ (c ≤ b ∨ b < c)) ∨ (¬ a < c ∧ d < b ∧ (a ≤ d ∨ d < a)) ∨ (¬ a < c ∧ ¬ d < b ∧ (a ≤ b ∨ b < a)) := by omega
    rcases hx with ⟨h1, h2, h3 | h3⟩ | ⟨h1, h2, h3 | h3⟩ | ⟨h1, h2, h3 | h3⟩ | ⟨h1, h2, h3 | h3⟩
    all_goals
      go_enter Try.func22, Try.ntmps22
      go_wp2_with fail
      go_region_held3 (fun W => (W.cell? ⟨w.heap.size, 0, none⟩ = some (.int .i64 a) ∧ W.cell? ⟨w.heap.size, 1, none⟩ = some (.int .i64 b)) ∧ W.cell? ⟨w.heap.size + 1, 0, none⟩ = some (.int .i64 c) ∧ W.cell? ⟨w.heap.size + 1, 1, none⟩ = some (.int .i64 d)) (exact ⟨Blk.r2 (t := 23) (by (repeat (first | (with_reducible assumption) | ((with_reducible apply Blk.new_at); focus (first | (simp; done) | (simp; omega))) | with_reducible apply Blk.alloc | with_reducible apply Blk.drew | with_reducible apply Blk.drewN | with_reducible apply Blk.set | ((with_reducible apply Blk.far); case hp => (first | (simp; done) | (dsimp only; omega))) | ((with_reducible apply Blk.ext); case he => with_reducible assumption)))), Blk.r2 (t := 23) (by (repeat (first | (with_reducible assumption) | ((with_reducible apply Blk.new_at); focus (first | (simp; done) | (simp; omega))) | with_reducible apply Blk.alloc | with_reducible apply Blk.drew | with_reducible apply Blk.drewN | with_reducible apply Blk.set | ((with_reducible apply Blk.far); case hp => (first | (simp; done) | (dsimp only; omega))) | ((with_reducible apply Blk.ext); case he => with_reducible assumption))))⟩) (first | (go_at_call 71; refine (limits_any _ _ _).mono ?_; rintro e w' ⟨rfl, rfl⟩) | (go_at_call 70; refine (first_any _ _ 2 _ _ [chk a b, chk c d] (bothE a b c d) rfl (Blk.drew (Blk.new_at _ _ _ _ ?_)) ?_ rfl ?_).mono ?_; (focus (simp; done)); (focus decide); (focus (refine thunks2 (limits_thunk a b _ _ ?_) (limits_thunk c d _ _ ?_) <;> ((repeat (first | (with_reducible assumption) | ((with_reducible apply Blk.new_at); focus (first | (simp; done) | (simp; omega))) | with_reducible apply Blk.alloc | with_reducible apply Blk.drew | with_reducible apply Blk.drewN | with_reducible apply Blk.set | ((with_reducible apply Blk.far); case hp => (first | (simp; done) | (dsimp only; omega))) | ((with_reducible apply Blk.ext); case he => with_reducible assumption)))))); rintro e w' ⟨rfl, hb⟩))
      have hB : Blk w' (w.heap.size + 1 + 1) #[.int .i64 0, .int .i64 0] 23 := by (repeat (first | (with_reducible assumption) | ((with_reducible apply Blk.new_at); focus (first | (simp; done) | (simp; omega))) | with_reducible apply Blk.alloc | with_reducible apply Blk.drew | with_reducible apply Blk.drewN | with_reducible apply Blk.set | ((with_reducible apply Blk.far); case hp => (first | (simp; done) | (dsimp only; omega))) | ((with_reducible apply Blk.ext); case he => with_reducible assumption)))
      obtain ⟨c1, c2, c3, c4⟩ := hB.c2
      have hlt := hB.lt
      go_wp2_with fail
      refine end_ct rfl rfl _ _ _ _ _ rfl rfl (by (repeat (first | (with_reducible assumption) | ((with_reducible apply Blk.new_at); focus (first | (simp; done) | (simp; omega))) | with_reducible apply Blk.alloc | with_reducible apply Blk.drew | with_reducible apply Blk.drewN | with_reducible apply Blk.set | ((with_reducible apply Blk.far); case hp => (first | (simp; done) | (dsimp only; omega))) | ((with_reducible apply Blk.ext); case he => with_reducible assumption)))) Try.underlying23 rfl (by exact szL) ?_
      refine mkLE _ _ _ _ ?_ ?_ ?_ ?_
      · have hz := hz.out; unfold meetL; split <;> first | rfl | (simp only []; omega)
      · have hz := hz.out; unfold meetL; split <;> first | rfl | (simp only []; omega)
      · have hz := hz.out; unfold meetE; rw [if_pos hz]; split <;> first | rfl | omega
      · (repeat (first | (with_reducible assumption) | with_reducible exact Ext.refl _ | with_reducible apply Ext.alloc | with_reducible apply Ext.drew | with_reducible apply Ext.drewN | ((with_reducible apply Ext.set); case hp => (first | (simp; done) | (dsimp only; omega) | omega)) | ((with_reducible apply Ext.trans); case k => with_reducible assumption)))
  · have hz := Lib.hid (show ¬ bothE a b c d = 0 by simpa using h)
    go_enter Try.func22, Try.ntmps22
    go_wp2_with fail
    go_region_held3 (fun W => (W.cell? ⟨w.heap.size, 0, none⟩ = some (.int .i64 a) ∧ W.cell? ⟨w.heap.size, 1, none⟩ = some (.int .i64 b)) ∧ W.cell? ⟨w.heap.size + 1, 0, none⟩ = some (.int .i64 c) ∧ W.cell? ⟨w.heap.size + 1, 1, none⟩ = some (.int .i64 d)) (exact ⟨Blk.r2 (t := 23) (by (repeat (first | (with_reducible assumption) | ((with_reducible apply Blk.new_at); focus (first | (simp; done) | (simp; omega))) | with_reducible apply Blk.alloc | with_reducible apply Blk.drew | with_reducible apply Blk.drewN | with_reducible apply Blk.set | ((with_reducible apply Blk.far); case hp => (first | (simp; done) | (dsimp only; omega))) | ((with_reducible apply Blk.ext); case he => with_reducible assumption)))), Blk.r2 (t := 23) (by (repeat (first | (with_reducible assumption) | ((with_reducible apply Blk.new_at); focus (first | (simp; done) | (simp; omega))) | with_reducible apply Blk.alloc | with_reducible apply Blk.drew | with_reducible apply Blk.drewN | with_reducible apply Blk.set | ((with_reducible apply Blk.far); case hp => (first | (simp; done) | (dsimp only; omega))) | ((with_reducible apply Blk.ext); case he => with_reducible assumption))))⟩) (first | (go_at_call 71; refine (limits_any _ _ _).mono ?_; rintro e w' ⟨rfl, rfl⟩) | (go_at_call 70; refine (first_any _ _ 2 _ _ [chk a b, chk c d] (bothE a b c d) rfl (Blk.drew (Blk.new_at _ _ _ _ ?_)) ?_ rfl ?_).mono ?_; (focus (simp; done)); (focus decide); (focus (refine thunks2 (limits_thunk a b _ _ ?_) (limits_thunk c d _ _ ?_) <;> ((repeat (first | (with_reducible assumption) | ((with_reducible apply Blk.new_at); focus (first | (simp; done) | (simp; omega))) | with_reducible apply Blk.alloc | with_reducible apply Blk.drew | with_reducible apply Blk.drewN | with_reducible apply Blk.set | ((with_reducible apply Blk.far); case hp => (first | (simp; done) | (dsimp only; omega))) | ((with_reducible apply Blk.ext); case he => with_reducible assumption)))))); rintro e w' ⟨rfl, hb⟩))
    have hB : Blk w' (w.heap.size + 1 + 1) #[.int .i64 0, .int .i64 0] 23 := by (repeat (first | (with_reducible assumption) | ((with_reducible apply Blk.new_at); focus (first | (simp; done) | (simp; omega))) | with_reducible apply Blk.alloc | with_reducible apply Blk.drew | with_reducible apply Blk.drewN | with_reducible apply Blk.set | ((with_reducible apply Blk.far); case hp => (first | (simp; done) | (dsimp only; omega))) | ((with_reducible apply Blk.ext); case he => with_reducible assumption)))
    obtain ⟨c1, c2, c3, c4⟩ := hB.c2
    go_wp2_with fail
    refine end_ct rfl rfl _ _ _ _ _ rfl rfl (by (repeat (first | (with_reducible assumption) | ((with_reducible apply Blk.new_at); focus (first | (simp; done) | (simp; omega))) | with_reducible apply Blk.alloc | with_reducible apply Blk.drew | with_reducible apply Blk.drewN | with_reducible apply Blk.set | ((with_reducible apply Blk.far); case hp => (first | (simp; done) | (dsimp only; omega))) | ((with_reducible apply Blk.ext); case he => with_reducible assumption)))) Try.underlying23 rfl (by exact szL) ?_
    refine mkLE _ _ _ _ ?_ ?_ ?_ ?_
    · simp [meetL, hz.out]
    · simp [meetL, hz.out]
    · simp [meetE, hz.out]
    · (repeat (first | (with_reducible assumption) | with_reducible exact Ext.refl _ | with_reducible apply Ext.alloc | with_reducible apply Ext.drew | with_reducible apply Ext.drewN | ((with_reducible apply Ext.set); case hp => (first | (simp; done) | (dsimp only; omega) | omega)) | ((with_reducible apply Ext.trans); case k => with_reducible assumption)))
end Go.Proofs.Ytdcedfciaaooiaa
