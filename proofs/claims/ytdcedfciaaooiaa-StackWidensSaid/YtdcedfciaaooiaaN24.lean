/- loop.chain: the walk. -/
import Derived.Test.YtdcedfciaaooiaaC24
import Derived.StringKeys
set_option linter.unusedVariables false
namespace Go.Proofs.Ytdcedfciaaooiaa
open Go.RowKit

theorem intKeyed : Go.Maps.Keyed Try.prog 3 := Go.Maps.int_keyed Try.underlying3
theorem strKeyed : Go.Maps.Keyed Try.prog 9 := Go.Maps.string_keyed Try.underlying9
theorem zero_bool (w : World) : (zeroValue 4).run Try.prog w = .ok (.bool false) w := by rw [Try.zeroValue4]
theorem beginS_size {xs : List Dim} {n : Nat} (hf : ∀ k, k < n → (xs.getD k zeroD).fits) {x : Lk} (h0 : 0 ≤ x.dim) (h1 : x.dim < n) : (beginS xs x).size ≤ maxLen := by
  have := hf x.dim.toNat (by omega)
  have e : maxLen = 9223372036854775807 := rfl
  rw [e]
  unfold beginS
  split
  · exact this.2
  · exact this.1
theorem stopS_size {xs : List Dim} {n : Nat} (hf : ∀ k, k < n → (xs.getD k zeroD).fits) {x : Lk} (h0 : 0 ≤ x.dim) (h1 : x.dim < n) : (stopS xs x).size ≤ maxLen := by
  have := hf x.dim.toNat (by omega)
  have e : maxLen = 9223372036854775807 := rfl
  rw [e]
  unfold stopS
  split
  · exact this.1
  · exact this.2

/-- The map of the dimensions that a chain has used. -/
def UsedM (w : World) (U k : Nat) (cs : List Lk) : Prop := ∃ f, RMap Try.prog w 3 U k f ∧ ∀ y : Lk, f (.int .i64 y.dim) = if usedB cs y then some (.bool true) else none
/-- The map of the features where links begin, but the first one. -/
def BegunM (w : World) (G k : Nat) (xs : List Dim) (ys : List Lk) : Prop := ∃ f, RMap Try.prog w 9 G k f ∧ ∀ s : ByteArray, f (.string s.data.toList) = if ys.any (fun y => sameS (beginS xs y) s) then some (.bool true) else none

theorem UsedM.look {w : World} {U k : Nat} {cs : List Lk} (h : UsedM w U k cs) (x : Lk) (hw : (Lit.int .i64 x.dim).wf = true) :
    (Instr.lookup 191 (.map (some U)) (.int .i64 x.dim) false).run Try.prog w = .ok (.bool (usedB cs x)) w := by
  obtain ⟨f, hm, hf⟩ := h
  have := hm.look intKeyed Try.underlying191 (zero_bool w) (Go.Maps.keyOf_int_mk Try.underlying3 hw) false
  rw [this, hf x]
  cases usedB cs x <;> rfl
theorem BegunM.look {w : World} {G k : Nat} {xs : List Dim} {ys : List Lk} (h : BegunM w G k xs ys) (s : ByteArray) (hs : s.size ≤ maxLen) :
    (Instr.lookup 192 (.map (some G)) (.string s) false).run Try.prog w = .ok (.bool (ys.any (fun y => sameS (beginS xs y) s))) w := by
  obtain ⟨f, hm, hf⟩ := h
  have := hm.look strKeyed Try.underlying192 (zero_bool w) (Go.WideMaps.keyOf_string_mk Try.underlying9 hs) false
  rw [this, hf s]
  cases ys.any (fun y => sameS (beginS xs y) s) <;> rfl
theorem UsedM.update {w : World} {U k : Nat} {cs : List Lk} (h : UsedM w U k cs) (hk : k < maxLen) (x : Lk) (hw : (Lit.int .i64 x.dim).wf = true) :
    ∃ w', (Instr.mapUpdate 191 (.map (some U)) (.int .i64 x.dim) (.bool true)).run Try.prog w = .ok () w' ∧ UsedM w' U (k + 1) (cs ++ [x]) ∧ w.grownBy w' (some U) := by
  obtain ⟨f, hm, hf⟩ := h
  obtain ⟨w', hr, hm', hg⟩ := hm.update intKeyed Try.underlying191 hk (Go.Maps.keyOf_int_mk Try.underlying3 hw) (.bool true)
  refine ⟨w', hr, ⟨_, hm', fun y => ?_⟩, hg⟩
  unfold upd
  have e : usedB (cs ++ [x]) y = (usedB cs y || (x.dim == y.dim)) := by simp [usedB]
  rw [e]
  by_cases hy : y.dim = x.dim
  · rw [if_pos (by rw [hy]), if_pos (by simp [hy])]
  · rw [if_neg (by simpa using hy), hf y]
    have : (x.dim == y.dim) = false := by simpa using fun e => hy e.symm
    rw [this, Bool.or_false]
theorem BegunM.update {w : World} {G k : Nat} {xs : List Dim} {ys : List Lk} (h : BegunM w G k xs ys) (hk : k < maxLen) (x : Lk) (hs : (beginS xs x).size ≤ maxLen) :
    ∃ w', (Instr.mapUpdate 192 (.map (some G)) (.string (beginS xs x)) (.bool true)).run Try.prog w = .ok () w' ∧ BegunM w' G (k + 1) xs (ys ++ [x]) ∧ w.grownBy w' (some G) := by
  obtain ⟨f, hm, hf⟩ := h
  obtain ⟨w', hr, hm', hg⟩ := hm.update strKeyed Try.underlying192 hk (Go.WideMaps.keyOf_string_mk Try.underlying9 hs) (.bool true)
  refine ⟨w', hr, ⟨_, hm', fun s => ?_⟩, hg⟩
  unfold upd
  have e : (ys ++ [x]).any (fun y => sameS (beginS xs y) s) = (ys.any (fun y => sameS (beginS xs y) s) || sameS (beginS xs x) s) := by simp
  rw [e]
  by_cases hy : s.data.toList = (beginS xs x).data.toList
  · have : sameS (beginS xs x) s = true := by rw [sameS_eq]; simp [hy]
    rw [if_pos (by rw [hy]), this, Bool.or_true, if_pos rfl]
  · have : sameS (beginS xs x) s = false := by rw [sameS_eq, beq_eq_false_iff_ne]; exact fun e => hy e.symm
    rw [if_neg (by simpa using hy), hf s, this, Bool.or_false]
section
variable {w w' : World} {U G k : Nat} {cs ys : List Lk} {xs : List Dim}
theorem BegunM.mono (h : BegunM w G k xs ys) {k' : Nat} (hk : k ≤ k') : BegunM w G k' xs ys := by obtain ⟨f, hm, hf⟩ := h; exact ⟨f, hm.mono hk, hf⟩
theorem UsedM.lt (h : UsedM w U k cs) : U < w.heap.size := by obtain ⟨f, hm, _⟩ := h; exact hm.lt
theorem BegunM.lt (h : BegunM w G k xs ys) : G < w.heap.size := by obtain ⟨f, hm, _⟩ := h; exact hm.lt
theorem UsedM.ext (h : UsedM w U k cs) (he : Ext w w') : UsedM w' U k cs := by obtain ⟨f, hm, hf⟩ := h; exact ⟨f, hm.ext he, hf⟩
theorem BegunM.ext (h : BegunM w G k xs ys) (he : Ext w w') : BegunM w' G k xs ys := by obtain ⟨f, hm, hf⟩ := h; exact ⟨f, hm.ext he, hf⟩
theorem UsedM.grown {row : Option Nat} (h : UsedM w U k cs) (hg : w.grownBy w' row) (hne : some U ≠ row) : UsedM w' U k cs := by obtain ⟨f, hm, hf⟩ := h; exact ⟨f, hm.grown hg hne, hf⟩
theorem BegunM.grown {row : Option Nat} (h : BegunM w G k xs ys) (hg : w.grownBy w' row) (hne : some G ≠ row) : BegunM w' G k xs ys := by obtain ⟨f, hm, hf⟩ := h; exact ⟨f, hm.grown hg hne, hf⟩
end

theorem shape_eq {xs : List Dim} {cs : List Lk} {k p p0 : Nat} {bk b0 : Bool} {d d0 : Dim} {bs ls : ByteArray} (hlen : (cs.take k).length = k) (hk : 0 < k) (hd : xs.getD p zeroD = d) (hd0 : xs.getD p0 zeroD = d0) (h0 : cs.getD 0 zeroK = ⟨(p0 : Int), b0⟩)
    (hb : beginS xs ⟨(p : Int), bk⟩ = bs) (hl : ls = stopS xs (cs.getD (k - 1) zeroK)) : shapeB xs (cs.take k) ⟨(p : Int), bk⟩ = ((d.axis != d0.axis) || !(bs.toList == ls.toList)) := by
  have e0 : firstK (cs.take k) = ⟨(p0 : Int), b0⟩ := by rw [firstK, List.getD_eq_getElem?_getD, List.getElem?_take_of_lt hk, ← List.getD_eq_getElem?_getD, h0]
  have e1 : lastK (cs.take k) = cs.getD (k - 1) zeroK := by rw [lastK, hlen, List.getD_eq_getElem?_getD, List.getElem?_take_of_lt (by omega), ← List.getD_eq_getElem?_getD]
  rw [shapeB, hlen, e0, e1, hb, ← hl, decide_eq_true hk]
  simp only [axisK, Int.toNat_natCast, hd, hd0, Bool.true_and]
  rfl
theorem shut_eq {xs : List Dim} {cs : List Lk} {k p0 : Nat} {b0 : Bool} {fs ls : ByteArray} (hlen : (cs.take k).length = k) (hk : 0 < k) (h0 : cs.getD 0 zeroK = ⟨(p0 : Int), b0⟩) (hf : fs = beginS xs ⟨(p0 : Int), b0⟩) (hl : ls = stopS xs (cs.getD (k - 1) zeroK)) :
    shutB xs (cs.take k) = (ls.toList == fs.toList) := by
  have e0 : firstK (cs.take k) = ⟨(p0 : Int), b0⟩ := by rw [firstK, List.getD_eq_getElem?_getD, List.getElem?_take_of_lt hk, ← List.getD_eq_getElem?_getD, h0]
  have e1 : lastK (cs.take k) = cs.getD (k - 1) zeroK := by rw [lastK, hlen, List.getD_eq_getElem?_getD, List.getElem?_take_of_lt (by omega), ← List.getD_eq_getElem?_getD]
  rw [shutB, hlen, e0, e1, ← hf, ← hl, decide_eq_true hk, Bool.true_and]
  unfold sameS
  rw [Bool.eq_iff_iff]
  simp only [beq_iff_eq]
  exact ⟨Eq.symm, Eq.symm⟩

/-- What the walk of the loop in chain keeps. -/
structure ChainR (xs : List Dim) (cs : List Lk) (n m : Nat) (w : World) (k : Nat) (s7 s8 i : Value) (wr : World) : Prop where
  le : k ≤ m
  idx : i = .int .i64 k
  first : ∃ fs, s7 = .string fs ∧ Hid (0 < k → fs = beginS xs (cs.getD 0 zeroK))
  last : ∃ ls, s8 = .string ls ∧ Hid (0 < k → ls = stopS xs (cs.getD (k - 1) zeroK))
  ext : Ext w wr
  used : UsedM wr w.heap.size k (cs.take k)
  begun : BegunM wr (w.heap.size + 1) k xs ((cs.take k).drop 1)
  ok : Hid (∀ j, j < k → goesE xs (cs.take j) (cs.getD j zeroK) = 0)

set_option maxRecDepth 20000 in
set_option maxHeartbeats 8000000 in
theorem chain_any (A B : Option Addr) (n m c c2 : Nat) (xs : List Dim) (cs : List Lk) (w : World) (hx : Dims w A n xs) (hk : Lnks w B m cs) : Calls Try.prog 128 #[.slice A n c, .slice B m c2] w (Ret (.int .i64 (chainE xs cs)) w) := by
  have HX := Lib.hid hx
  have HK := Lib.hid hk
  have hmx := hx.max
  have hmk := hk.max
  clear hx hk
  by_cases h0 : m = 0
  · subst h0
    have e0 := Lib.hid (chainE_empty (xs := xs) HK.out.len)
    go_enter Try.func128, Try.ntmps128
    go_wp2_with fail
    go_ret
    exact Ret.int e0.out.symm (by (repeat (first | (with_reducible assumption) | with_reducible exact Ext.refl _ | with_reducible apply Ext.alloc | with_reducible apply Ext.drew | with_reducible apply Ext.drewN | ((with_reducible apply Ext.set); case hp => (first | (simp; done) | (dsimp only; omega) | omega)) | ((with_reducible apply Ext.trans); case k => with_reducible assumption))))
  by_cases h1 : 256 < m
  · have e0 := Lib.hid (chainE_many (xs := xs) (cs := cs) (by rw [HK.out.len]; exact h1))
    go_enter Try.func128, Try.ntmps128
    go_wp2_with fail
    go_ret
    exact Ret.int e0.out.symm (by (repeat (first | (with_reducible assumption) | with_reducible exact Ext.refl _ | with_reducible apply Ext.alloc | with_reducible apply Ext.drew | with_reducible apply Ext.drewN | ((with_reducible apply Ext.set); case hp => (first | (simp; done) | (dsimp only; omega) | omega)) | ((with_reducible apply Ext.trans); case k => with_reducible assumption))))
  have hm0 : (((m : Nat) : Int) == 0) = false := by simp; omega
  have hmm := @run_makeMap Try.prog
  have u0 : UsedM ((w.alloc (.map #[] 0)).alloc (.map #[] 0)) w.heap.size 0 (cs.take 0) := ⟨_, (RMap.made Try.prog w 3).alloc _, fun y => rfl⟩
  have g0 : BegunM ((w.alloc (.map #[] 0)).alloc (.map #[] 0)) (w.heap.size + 1) 0 xs ((cs.take 0).drop 1) := by
    have := RMap.made Try.prog (w.alloc (.map #[] 0)) 9
    rw [World.size_alloc] at this
    exact ⟨_, this, fun s => by simp⟩
  go_enter Try.func128, Try.ntmps128
  go_wp2_with fail
  go_loopw [7, 8, 25] (fun s7 s8 i wr => ∃ k, ChainR xs cs n m w k s7 s8 i wr) (fun _ _ i _ => m - (intOf i).toNat)
  case atStart => exact ⟨0, ⟨Nat.zero_le _, rfl, ⟨_, rfl, fun h => by omega⟩, ⟨_, rfl, fun h => by omega⟩, by (repeat (first | (with_reducible assumption) | with_reducible exact Ext.refl _ | with_reducible apply Ext.alloc | with_reducible apply Ext.drew | with_reducible apply Ext.drewN | ((with_reducible apply Ext.set); case hp => (first | (simp; done) | (dsimp only; omega) | omega)) | ((with_reducible apply Ext.trans); case k => with_reducible assumption))), u0, g0, fun j hj => by omega⟩⟩
  case round =>
    obtain ⟨k, R⟩ := hrel
    obtain ⟨hkm, rfl, ⟨fs, rfl, hfs⟩, ⟨ls, rfl, hls⟩, he, hu, hg, hz⟩ := R
    clear u0 g0 hmm
    by_cases hlt : k < m
    · obtain ⟨bB, oB, hB, hcB⟩ := HK.out.at_ (by omega)
      obtain ⟨⟨i, bk⟩, hx⟩ : ∃ x, cs.getD k zeroK = x := ⟨_, rfl⟩
      obtain ⟨l1, l2⟩ := Lnks.cells hcB he k hlt _ hx
      dsimp only at l1 l2
      have HXK := Lib.hid hx
      have HCB := Lib.hid hcB
      clear hx hcB
      subst hB
      by_cases hr1 : i < 0
      · have hr := goesE_2 (xs := xs) (cs := cs.take k) (x := ⟨i, bk⟩) (by simp [rangeB, hr1])
        have hres := Lib.hid (chainE_hit (xs := xs) HK.out.len (by omega) k hlt hz.out (by rw [HXK.out, hr]; decide))
        rw [HXK.out, hr] at hres
        clear hr
        go_wp2_with fail
        go_ret
        exact Ret.int hres.out.symm (by (repeat (first | (with_reducible assumption) | with_reducible exact Ext.refl _ | with_reducible apply Ext.alloc | with_reducible apply Ext.drew | with_reducible apply Ext.drewN | ((with_reducible apply Ext.set); case hp => (first | (simp; done) | (dsimp only; omega) | omega)) | ((with_reducible apply Ext.trans); case k => with_reducible assumption))))
      by_cases hr2 : (n : Int) ≤ i
      · have hr := goesE_2 (xs := xs) (cs := cs.take k) (x := ⟨i, bk⟩) (by rw [rangeB, HX.out.len]; simp [hr2])
        have hres := Lib.hid (chainE_hit (xs := xs) HK.out.len (by omega) k hlt hz.out (by rw [HXK.out, hr]; decide))
        rw [HXK.out, hr] at hres
        clear hr
        go_wp2_with fail
        go_ret
        exact Ret.int hres.out.symm (by (repeat (first | (with_reducible assumption) | with_reducible exact Ext.refl _ | with_reducible apply Ext.alloc | with_reducible apply Ext.drew | with_reducible apply Ext.drewN | ((with_reducible apply Ext.set); case hp => (first | (simp; done) | (dsimp only; omega) | omega)) | ((with_reducible apply Ext.trans); case k => with_reducible assumption))))
      obtain ⟨p, rfl⟩ := Int.eq_ofNat_of_zero_le (show 0 ≤ i by omega)
      have hp : p < n := by omega
      clear hr1 hr2
      have hrg := Lib.hid (range_in (xs := xs) (x := ⟨(p : Int), bk⟩) (by show (0 : Int) ≤ p; omega) (by rw [HX.out.len]; exact Int.ofNat_lt.2 hp))
      obtain ⟨bA, oA, hA, hcA⟩ := HX.out.at_ (by omega)
      obtain ⟨d, hd⟩ : ∃ d, xs.getD p zeroD = d := ⟨_, rfl⟩
      have HD := Lib.hid hd
      have HCA := Lib.hid hcA
      clear hd hcA
      subst hA
      obtain ⟨bs, hbs⟩ : ∃ s, beginS xs ⟨(p : Int), bk⟩ = s := ⟨_, rfl⟩
      obtain ⟨ss, hss⟩ : ∃ s, stopS xs ⟨(p : Int), bk⟩ = s := ⟨_, rfl⟩
      have hends := fun w h => ends_any (some ⟨bA, oA, none⟩) n c xs p bk w h (by omega) (by omega)
      rw [hbs, hss] at hends
      have HE := Lib.hid hends
      have HBS := Lib.hid hbs
      have HSS := Lib.hid hss
      clear hends hbs hss
      have hult := hu.lt
      have hglt := hg.lt
      by_cases hk0 : k = 0
      · subst hk0
        simp only [Nat.zero_mul, Nat.add_zero] at l1 l2 ⊢
        go_wp2_with fail
        refine (HE.out _ (HX.out.ext (by (repeat (first | (with_reducible assumption) | with_reducible exact Ext.refl _ | with_reducible apply Ext.alloc | with_reducible apply Ext.drew | with_reducible apply Ext.drewN | ((with_reducible apply Ext.set); case hp => (first | (simp; done) | (dsimp only; omega) | omega)) | ((with_reducible apply Ext.trans); case k => with_reducible assumption)))))).mono ?_
        rintro e w2 ⟨rfl, h2⟩
        have hX : Blk w2 wr.heap.size #[.int .i64 (p : Int), .bool bk] 144 := by (repeat (first | (with_reducible assumption) | ((with_reducible apply Blk.new_at); focus (first | (simp; done) | (simp; omega))) | with_reducible apply Blk.alloc | with_reducible apply Blk.drew | with_reducible apply Blk.drewN | with_reducible apply Blk.set | ((with_reducible apply Blk.far); case hp => (first | (simp; done) | (dsimp only; omega))) | ((with_reducible apply Blk.ext); case he => with_reducible assumption)))
        have hw2 : Ext wr w2 := by (repeat (first | (with_reducible assumption) | with_reducible exact Ext.refl _ | with_reducible apply Ext.alloc | with_reducible apply Ext.drew | with_reducible apply Ext.drewN | ((with_reducible apply Ext.set); case hp => (first | (simp; done) | (dsimp only; omega) | omega)) | ((with_reducible apply Ext.trans); case k => with_reducible assumption)))
        have l1' := hw2.cell l1
        have l2' := hw2.cell l2
        obtain ⟨-, -, a3, -, -⟩ := Dims.cells HCA.out (he.trans hw2) p hp d HD.out
        obtain ⟨x1, x2, x3, x4⟩ := hX.c2
        have hwf : (Lit.int .i64 (p : Int)).wf = true := by simp only [Lit.wf, Bool.and_eq_true, decide_eq_true_eq]; show -9223372036854775808 ≤ (p : Int) ∧ (p : Int) ≤ 9223372036854775807; omega
        have hssz : ss.size ≤ maxLen := by rw [← HSS.out]; exact stopS_size (fun k hk => HX.out.fit k hk) (by show (0:Int) ≤ p; omega) (by exact Int.ofNat_lt.2 hp)
        go_wp2_with fail
        go_quiet (fail)
        have hw3 : Ext wr (w2.drewN nq) := hw2.drewN nq
        have hX3 : Blk (w2.drewN nq) wr.heap.size #[.int .i64 (p : Int), .bool bk] 144 := hX.drewN nq
        obtain ⟨y1, y2, y3, y4⟩ := hX3.c2
        have hu3 := hu.ext hw3
        have hg3 := hg.ext hw3
        have look1 := hu3.look ⟨(p : Int), bk⟩ hwf
        have look2 := hg3.look ss hssz
        rw [show usedB (cs.take 0) ⟨(p : Int), bk⟩ = false from rfl] at look1
        rw [show ((cs.take 0).drop 1).any (fun y => sameS (beginS xs y) ss) = false from by simp] at look2
        dsimp only at look1
        obtain ⟨w4, hup, hu4, hgr⟩ := hu3.update (by decide) ⟨(p : Int), bk⟩ hwf
        dsimp only at hup
        go_wp2_with fail
        have et : cs.take 1 = [⟨(p : Int), bk⟩] := by rw [take_succK (by rw [HK.out.len]; omega), HXK.out]; rfl
        refine ⟨⟨1, ⟨by omega, rfl, ⟨_, rfl, fun _ => by rw [HXK.out, HBS.out]⟩, ⟨_, rfl, fun _ => by rw [HXK.out, HSS.out]⟩, (he.trans hw3).grown hgr (fun k e => by cases e; exact Nat.le_refl _), by rw [et]; exact hu4, ?_, fun j hj => ?_⟩⟩, by simp [intOf]; omega⟩
        · rw [et]
          exact (hg3.grown hgr (by simp)).mono (Nat.zero_le _)
        · obtain rfl : j = 0 := by omega
          rw [HXK.out]
          exact goesE_0 hrg.out rfl rfl
      · obtain ⟨⟨i0, b0⟩, hx0⟩ : ∃ x, cs.getD 0 zeroK = x := ⟨_, rfl⟩
        have hr0 := goesE_range (hz.out 0 (by omega))
        rw [hx0, HX.out.len] at hr0
        dsimp only at hr0
        obtain ⟨p0, rfl⟩ := Int.eq_ofNat_of_zero_le hr0.1
        have hp0 : p0 < n := by omega
        clear hr0
        have HX0 := Lib.hid hx0
        obtain ⟨m1, m2⟩ := Lnks.cells HCB.out he 0 (by omega) _ hx0
        clear hx0
        simp only [Nat.zero_mul, Nat.add_zero] at m1 m2
        obtain ⟨d0, hd0⟩ : ∃ d0, xs.getD p0 zeroD = d0 := ⟨_, rfl⟩
        have HD0 := Lib.hid hd0
        clear hd0
        have hfs' : Hid (fs = beginS xs ⟨(p0 : Int), b0⟩) := Lib.hid (by rw [hfs.out (by omega), HX0.out])
        have hls' := Lib.hid (hls.out (by omega))
        have hwf : (Lit.int .i64 (p : Int)).wf = true := by simp only [Lit.wf, Bool.and_eq_true, decide_eq_true_eq]; show -9223372036854775808 ≤ (p : Int) ∧ (p : Int) ≤ 9223372036854775807; omega
        have hssz : ss.size ≤ maxLen := by rw [← HSS.out]; exact stopS_size (fun k hk => HX.out.fit k hk) (by show (0:Int) ≤ p; omega) (by exact Int.ofNat_lt.2 hp)
        have hbsz : (beginS xs ⟨(p : Int), bk⟩).size ≤ maxLen := beginS_size (fun k hk => HX.out.fit k hk) (by show (0:Int) ≤ p; omega) (by exact Int.ofNat_lt.2 hp)
        have hlen : (cs.take k).length = k := by rw [List.length_take, HK.out.len]; omega
        have hshape : Hid (shapeB xs (cs.take k) ⟨(p : Int), bk⟩ = ((d.axis != d0.axis) || !(bs.toList == ls.toList))) := Lib.hid (shape_eq hlen (by omega) HD.out HD0.out HX0.out HBS.out hls'.out)
        have hshut : Hid (shutB xs (cs.take k) = (ls.toList == fs.toList)) := Lib.hid (shut_eq hlen (by omega) HX0.out hfs'.out hls'.out)
        obtain ⟨us, hus⟩ : ∃ u, usedB (cs.take k) ⟨(p : Int), bk⟩ = u := ⟨_, rfl⟩
        obtain ⟨bg, hbg⟩ : ∃ u, ((cs.take k).drop 1).any (fun y => sameS (beginS xs y) ss) = u := ⟨_, rfl⟩
        have HUS := Lib.hid hus
        have HBG := Lib.hid hbg
        clear hus hbg
        go_wp2_with fail
        refine (HE.out _ (HX.out.ext (by (repeat (first | (with_reducible assumption) | with_reducible exact Ext.refl _ | with_reducible apply Ext.alloc | with_reducible apply Ext.drew | with_reducible apply Ext.drewN | ((with_reducible apply Ext.set); case hp => (first | (simp; done) | (dsimp only; omega) | omega)) | ((with_reducible apply Ext.trans); case k => with_reducible assumption)))))).mono ?_
        rintro e w2 ⟨rfl, h2⟩
        have hX : Blk w2 wr.heap.size #[.int .i64 (p : Int), .bool bk] 144 := by (repeat (first | (with_reducible assumption) | ((with_reducible apply Blk.new_at); focus (first | (simp; done) | (simp; omega))) | with_reducible apply Blk.alloc | with_reducible apply Blk.drew | with_reducible apply Blk.drewN | with_reducible apply Blk.set | ((with_reducible apply Blk.far); case hp => (first | (simp; done) | (dsimp only; omega))) | ((with_reducible apply Blk.ext); case he => with_reducible assumption)))
        have hw2 : Ext wr w2 := by (repeat (first | (with_reducible assumption) | with_reducible exact Ext.refl _ | with_reducible apply Ext.alloc | with_reducible apply Ext.drew | with_reducible apply Ext.drewN | ((with_reducible apply Ext.set); case hp => (first | (simp; done) | (dsimp only; omega) | omega)) | ((with_reducible apply Ext.trans); case k => with_reducible assumption)))
        have m1' := hw2.cell m1
        obtain ⟨-, -, a3, -, -⟩ := Dims.cells HCA.out (he.trans hw2) p hp d HD.out
        obtain ⟨-, -, a03, -, -⟩ := Dims.cells HCA.out (he.trans hw2) p0 hp0 d0 HD0.out
        obtain ⟨x1, x2, x3, x4⟩ := hX.c2
        have hkp1 : decide (0 < k) = true := by simp; omega
        have hkp2 : decide ((0 : Int) < (k : Int)) = true := by simp; omega
        have hcase : (d.axis != d0.axis) = true ∨ ((d.axis != d0.axis) = false ∧ (bs.toList == ls.toList) = false) ∨ ((d.axis != d0.axis) = false ∧ (bs.toList == ls.toList) = true) := by
          cases (d.axis != d0.axis) <;> cases (bs.toList == ls.toList) <;> simp
        rcases hcase with e1 | ⟨e1, e2⟩ | ⟨e1, e2⟩
        case inl =>
          have hr := goesE_8 hrg.out (by rw [hshape.out, e1]; rfl)
          have hres := Lib.hid (chainE_hit (xs := xs) HK.out.len (by omega) k hlt hz.out (by rw [HXK.out, hr]; decide))
          rw [HXK.out, hr] at hres
          clear hr
          go_wp2_with fail
          go_quiet (fail)
          go_wp2_with fail
          go_ret
          exact Ret.int hres.out.symm (by (repeat (first | (with_reducible assumption) | with_reducible exact Ext.refl _ | with_reducible apply Ext.alloc | with_reducible apply Ext.drew | with_reducible apply Ext.drewN | ((with_reducible apply Ext.set); case hp => (first | (simp; done) | (dsimp only; omega) | omega)) | ((with_reducible apply Ext.trans); case k => with_reducible assumption))))
        case inr.inl =>
          have hr := goesE_8 hrg.out (by rw [hshape.out, e1, e2]; rfl)
          have hres := Lib.hid (chainE_hit (xs := xs) HK.out.len (by omega) k hlt hz.out (by rw [HXK.out, hr]; decide))
          rw [HXK.out, hr] at hres
          clear hr
          go_wp2_with fail
          go_quiet (fail)
          go_wp2_with fail
          go_ret
          exact Ret.int hres.out.symm (by (repeat (first | (with_reducible assumption) | with_reducible exact Ext.refl _ | with_reducible apply Ext.alloc | with_reducible apply Ext.drew | with_reducible apply Ext.drewN | ((with_reducible apply Ext.set); case hp => (first | (simp; done) | (dsimp only; omega) | omega)) | ((with_reducible apply Ext.trans); case k => with_reducible assumption))))
        case inr.inr =>
          have hsf : Hid (shapeB xs (cs.take k) ⟨(p : Int), bk⟩ = false) := Lib.hid (by rw [hshape.out, e1, e2]; rfl)
          go_wp2_with fail
          go_quiet (fail)
          have hw3 : Ext wr (w2.drewN nq) := hw2.drewN nq
          have hX3 : Blk (w2.drewN nq) wr.heap.size #[.int .i64 (p : Int), .bool bk] 144 := hX.drewN nq
          obtain ⟨y1, y2, y3, y4⟩ := hX3.c2
          have hu3 := hu.ext hw3
          have hg3 := hg.ext hw3
          have look1 := hu3.look ⟨(p : Int), bk⟩ hwf
          have look2 := hg3.look ss hssz
          rw [HUS.out] at look1
          rw [HBG.out] at look2
          dsimp only at look1
          have hcase2 : (us = true ∨ (us = false ∧ (ls.toList == fs.toList) = true) ∨ (us = false ∧ (ls.toList == fs.toList) = false ∧ bg = true)) ∨ (us = false ∧ (ls.toList == fs.toList) = false ∧ bg = false) := by
            cases us <;> cases (ls.toList == fs.toList) <;> cases bg <;> simp
          rcases hcase2 with h7 | ⟨rfl, e3, rfl⟩
          case inl =>
            have hr := goesE_7 hrg.out hsf.out (show (usedB (cs.take k) ⟨(p : Int), bk⟩ || shutB xs (cs.take k) || begunB xs (cs.take k) ⟨(p : Int), bk⟩) = true from by
              rw [HUS.out, hshut.out, begunB, HSS.out, HBG.out]
              rcases h7 with rfl | ⟨rfl, e3⟩ | ⟨rfl, e3, rfl⟩ <;> simp [*])
            have hres := Lib.hid (chainE_hit (xs := xs) HK.out.len (by omega) k hlt hz.out (by rw [HXK.out, hr]; decide))
            rw [HXK.out, hr] at hres
            clear hr
            rcases h7 with rfl | ⟨rfl, e3⟩ | ⟨rfl, e3, rfl⟩
            all_goals
              go_wp2_with fail
              go_ret
              exact Ret.int hres.out.symm (by (repeat (first | (with_reducible assumption) | with_reducible exact Ext.refl _ | with_reducible apply Ext.alloc | with_reducible apply Ext.drew | with_reducible apply Ext.drewN | ((with_reducible apply Ext.set); case hp => (first | (simp; done) | (dsimp only; omega) | omega)) | ((with_reducible apply Ext.trans); case k => with_reducible assumption))))
          case inr =>
            have hr := Lib.hid (goesE_0 hrg.out hsf.out (show (usedB (cs.take k) ⟨(p : Int), bk⟩ || shutB xs (cs.take k) || begunB xs (cs.take k) ⟨(p : Int), bk⟩) = false from by
              rw [HUS.out, hshut.out, begunB, HSS.out, HBG.out, e3]; rfl))
            obtain ⟨w4, hup, hg4, hgr⟩ := hg3.update (by have : maxLen = 9223372036854775807 := rfl; omega) ⟨(p : Int), bk⟩ hbsz
            rw [HBS.out] at hup
            have hu4 := hu3.grown hgr (by simp)
            obtain ⟨w5, hup2, hu5, hgr2⟩ := hu4.update (by have : maxLen = 9223372036854775807 := rfl; omega) ⟨(p : Int), bk⟩ hwf
            dsimp only at hup2
            have hg5 := hg4.grown hgr2 (by simp)
            have hX4 := hX3.grown hgr (by simp; omega)
            obtain ⟨z1, z2, z3, z4⟩ := hX4.c2
            go_wp2_with fail
            have et : cs.take (k + 1) = cs.take k ++ [⟨(p : Int), bk⟩] := by rw [take_succK (by rw [HK.out.len]; omega), HXK.out]
            refine ⟨⟨k + 1, ⟨by omega, by go_num, ⟨_, rfl, fun _ => by rw [hfs.out (by omega)]⟩, ⟨_, rfl, fun _ => by rw [Nat.add_sub_cancel, HXK.out, HSS.out]⟩, ((he.trans hw3).grown hgr (fun k e => by cases e; omega)).grown hgr2 (fun k e => by cases e; omega), by rw [et]; exact hu5, ?_, fun j hj => ?_⟩⟩, by simp [intOf]; omega⟩
            · rw [et, List.drop_append_of_le_length (by rw [hlen]; omega)]
              exact hg5
            · by_cases h : j < k
              · exact hz.out j h
              · obtain rfl : j = k := by omega
                rw [HXK.out]
                exact hr.out
    · obtain rfl : k = m := by omega
      have e0 := Lib.hid (chainE_none (xs := xs) HK.out.len h0 (by omega) hz.out)
      go_wp2_with fail
      go_ret
      exact Ret.int e0.out.symm (by (repeat (first | (with_reducible assumption) | with_reducible exact Ext.refl _ | with_reducible apply Ext.alloc | with_reducible apply Ext.drew | with_reducible apply Ext.drewN | ((with_reducible apply Ext.set); case hp => (first | (simp; done) | (dsimp only; omega) | omega)) | ((with_reducible apply Ext.trans); case k => with_reducible assumption))))
end Go.Proofs.Ytdcedfciaaooiaa
