/- The reference's extreme parts: the walk. -/
import Derived.Test.YtdcedfciaaooiaaQ25
import Derived.OwnWalk
set_option linter.unusedVariables false
namespace Go.Proofs.Ytdcedfciaaooiaa
open Go.RowKit

theorem ownBlock_ge {W : World} {base : Nat} {e : TypeId} {size : Nat} {v : Value} {k g : Nat} {xs : List Value} (h : W.ownsRow base e size v k xs) (hg : v.ownBlock = some g) : base ≤ g := by
  rcases h.2 with ⟨rfl, _⟩ | ⟨g', cap, cur, rfl, hb, _⟩
  · simp [Value.ownBlock] at hg
  · obtain rfl : g' = g := by simpa [Value.ownBlock] using hg
    exact hb
theorem extL_len (gr : Bool) (xs : List Dim) (cs : List Lk) : (extL gr xs cs).length = xs.length := by simp [extL]
theorem extL_take {gr : Bool} {xs : List Dim} {cs : List Lk} {n j : Nat} (hn : xs.length = n) (hj : j < n) : (extL gr xs cs).take (j + 1) = (extL gr xs cs).take j ++ [extV gr xs cs j] := by
  rw [List.take_add_one, List.getElem?_eq_getElem (by rw [extL_len]; omega)]
  simp [extL]

set_option maxRecDepth 100000 in
set_option maxHeartbeats 4000000 in
theorem rext_any (gr : Bool) (A B : Option Addr) (n m c c2 : Nat) (xs : List Dim) (cs : List Lk) (lo hi : Int) (w : World) (hx : Dims w A n xs) (hk : Lnks w B m cs) (hrt : RT n m xs cs) :
    Calls Try.prog 97 #[.agg #[.slice A n c, .slice B m c2, .int .i64 lo, .int .i64 hi], .bool gr] w
      (fun e w' => ∃ g cap cur, e = .returned (.slice (some ⟨g, 0, none⟩) n cap) ∧ IRow w' w.heap.size g n cur (extL gr xs cs) ∧ Ext w w') := by
  have HRT := Lib.hid hrt
  have HX := Lib.hid hx
  have HK := Lib.hid hk
  have hxl := hrt.xl
  have hcl := hrt.cl
  have hn256 := hrt.n256
  have hm256 := hrt.m256
  have hm0 := hrt.m0
  have hn0 : 0 < n := by have := hrt.mem 0 hrt.m0; omega
  obtain ⟨bA, oA, rfl, hcA⟩ := hx.at_ hn0
  obtain ⟨bB, oB, rfl, hcB⟩ := hk.at_ hm0
  have hbA : bA < w.heap.size := HX.out.below (by omega) bA oA rfl
  have hbB : bB < w.heap.size := HK.out.below (by omega) bB oB rfl
  have HCA := Lib.hid hcA
  have HCB := Lib.hid hcB
  obtain ⟨i0, hi0, hz0, hz1, hz2⟩ := info_parts infoInt
  have hi' := Lib.hid hi0
  have hz0' := Lib.hid hz0
  have hz1' := Lib.hid hz1
  have hz2' := Lib.hid hz2
  clear hx hk hcA hcB hi0 hz0 hz1 hz2 hrt
  go_enter Try.func97, Try.ntmps97
  go_wp2_with fail
  go_loopw [5, 6] (fun v i wr => ∃ j : Nat, j ≤ n ∧ i = .int .i64 j ∧ Ext w wr ∧ Blk wr w.heap.size #[.slice (some ⟨bA, oA, none⟩) n c, .slice (some ⟨bB, oB, none⟩) m c2, .int .i64 lo, .int .i64 hi] 89 ∧ wr.ownsRow (w.heap.size + 1) 3 1 v j (flatI ((extL gr xs cs).take j))) (fun _ i _ => n - (intOf i).toNat)
  case atStart => exact ⟨0, Nat.zero_le _, rfl, by (repeat (first | (with_reducible assumption) | with_reducible exact Ext.refl _ | with_reducible apply Ext.alloc | with_reducible apply Ext.drew | with_reducible apply Ext.drewN | ((with_reducible apply Ext.set); case hp => (first | (simp; done) | (dsimp only; omega) | omega)) | ((with_reducible apply Ext.trans); case k => with_reducible assumption))), by (repeat (first | (with_reducible assumption) | ((with_reducible apply Blk.new_at); focus (first | (simp; done) | (simp; omega))) | with_reducible apply Blk.alloc | with_reducible apply Blk.drew | with_reducible apply Blk.drewN | with_reducible apply Blk.set | ((with_reducible apply Blk.far); case hp => (first | (simp; done) | (dsimp only; omega))) | ((with_reducible apply Blk.ext); case he => with_reducible assumption))), World.ownsRow_nil _ _ _ _⟩
  case round =>
    obtain ⟨j, hj, rfl, hE, hT, hrow⟩ := hrel
    have hTl := hT.lt
    have T0 := hT.cell 0
    have T1 := hT.cell 1
    simp at T0 T1
    by_cases hlt : j < n
    · obtain ⟨d, hd⟩ : ∃ d, xs.getD j zeroD = d := ⟨_, rfl⟩
      obtain ⟨-, -, -, a4, a5⟩ := Dims.cells HCA.out hE j hlt d hd
      have hbl : bA < wr.heap.size := by have := hE.size; omega
      have hsn := extL_take (gr := gr) (cs := cs) hxl hlt
      have HSN := Lib.hid hsn
      have HD := Lib.hid hd
      have HROW := Lib.hid hrow
      clear hsn hd hrow
      go_wp2_with fail
      go_loopw [7, 8] (fun v i2 wr2 => wr2 = wr ∧ ∃ q : Nat, q ≤ m ∧ i2 = .int .i64 q ∧ ∃ u, v = .int .i64 u ∧ Hid (u = extV gr xs (cs.take q) j)) (fun _ i2 _ => m - (intOf i2).toNat)
      case atStart => exact ⟨rfl, 0, Nat.zero_le _, rfl, d.lo, rfl, Lib.hid (by rw [show extV gr xs (cs.take 0) j = (xs.getD j zeroD).lo from by simp [extV], HD.out])⟩
      case round =>
        obtain ⟨rfl, q, hq, rfl, u, rfl, hu⟩ := hrel
        by_cases hlt2 : q < m
        · obtain ⟨⟨y, bk⟩, hy⟩ : ∃ y, cs.getD q zeroK = y := ⟨_, rfl⟩
          obtain ⟨l1, l2⟩ := Lnks.cells HCB.out hE q hlt2 _ hy
          dsimp only at l1 l2
          have hck : cs.take (q + 1) = cs.take q ++ [⟨y, bk⟩] := by rw [take_succK (by omega), hy]
          have huq : ∀ z ∈ cs.take q, z.dim ≠ y := fun z hz => by
            obtain ⟨i, hi, rfl⟩ := List.mem_iff_getElem.1 hz
            rw [List.length_take] at hi
            have hu := HRT.out.uniq i q (by omega) hlt2
            rw [hy] at hu
            rw [List.getElem_take]
            rw [List.getD_eq_getElem?_getD, List.getElem?_eq_getElem (by omega)] at hu
            exact hu
          have HCK := Lib.hid hck
          have HUQ := Lib.hid huq
          clear hck huq hy
          by_cases hyj : y = (j : Int)
          · have hs1 : extV gr xs (cs.take (q + 1)) j = if bk != gr then d.hi else d.lo := by
              rw [HCK.out, extV_snoc_eq hyj (fun z hz => by rw [← hyj]; exact HUQ.out z hz), HD.out]
            have hs0 : extV gr xs (cs.take q) j = d.lo := by
              unfold extV
              rw [if_neg, HD.out]
              rw [List.any_eq_true]
              rintro ⟨z, hz, hb⟩
              simp only [Bool.and_eq_true, beq_iff_eq] at hb
              exact HUQ.out z hz (hb.1.trans hyj.symm)
            have hu0 : u = d.lo := hu.out.trans hs0
            subst hu0
            subst hyj
            have HS1 := Lib.hid hs1
            clear hs1 hs0 hu
            cases bk <;> cases gr
            all_goals
              go_wp2_with fail
              go_roundw
              case rel => exact ⟨trivial, q + 1, by omega, by go_num, _, rfl, Lib.hid (by rw [HS1.out]; rfl)⟩
              case measure => simp [intOf]; omega
          · have hs1 : extV gr xs (cs.take (q + 1)) j = extV gr xs (cs.take q) j := by rw [HCK.out, extV_snoc_ne hyj]
            have HS1 := Lib.hid hs1
            have hyb : (y == (j : Int)) = false := by simpa using hyj
            clear hs1
            go_wp2_with fail
            go_roundw
            case rel => exact ⟨trivial, q + 1, by omega, by go_num, _, rfl, Lib.hid (by rw [HS1.out]; exact hu.out)⟩
            case measure => simp [intOf]; omega
        · obtain rfl : m = q := by omega
          have hu2 : u = extV gr xs cs j := by have := hu.out; rwa [show cs.take m = cs from by rw [← hcl, List.take_length]] at this
          have HU := Lib.hid hu2
          clear hu hu2
          have hrow6 := HROW.out
          go_wp2_with (at_builtin; refine wpList_append_own _ rfl _ _ 91 rfl (w.heap.size + 1) 3 i0 _ 1 8 Try.underlying91 hi'.out hz0'.out hz1'.out hz2'.out rfl (by decide) _ _ _ rfl (hrow6.alloc _) ⟨wr.heap.size, 0, none⟩ 1 1 [.int .i64 u] rfl rfl (cells_one wr (.int .i64 u) 3) (by simp [Value.oneCell']) (by have : maxLen = 9223372036854775807 := rfl; omega) (by omega) (by simp; omega) ?_; intro v' w6 hown' hgrow _)
          have hgrow2 : (wr.alloc (.cells #[.int .i64 u] 3)).grownBy w6 u5.ownBlock := hgrow
          go_roundw
          case rel =>
            refine ⟨j + 1, by omega, by simp, (hE.alloc _).grown hgrow2 (fun k e => by have := ownBlock_ge hrow6 e; omega), Blk.grown (hT.alloc _) hgrow2 (Blk.under_row (hT.alloc (.cells #[.int .i64 u] 3)) (by omega) (hrow6.alloc _)), ?_⟩
            rw [HSN.out, flatI_snoc, ← HU.out]
            exact hown'
          case measure => simp [intOf]; omega
    · obtain rfl : n = j := by omega
      have hr2 : wr.ownsRow (w.heap.size + 1) 3 1 u5 n (flatI (extL gr xs cs)) := by rw [show (extL gr xs cs).take n = extL gr xs cs from by rw [← hxl, ← extL_len gr xs cs, List.take_length]] at hrow; exact hrow
      obtain ⟨g, cap, cur, rfl, hR⟩ := ownsI hr2 (by omega)
      clear hrow hr2
      go_wp2_with fail
      go_ret
      exact ⟨g, cap, cur, rfl, ⟨by have := hR.1; omega, hR.2⟩, hE⟩
end Go.Proofs.Ytdcedfciaaooiaa
