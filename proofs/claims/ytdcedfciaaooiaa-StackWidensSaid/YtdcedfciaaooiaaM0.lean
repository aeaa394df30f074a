/- A map that the call makes, whatever its elements: block b is a map that holds what f says. -/
import Derived.Test.YtdcedfciaaooiaaX0
import Derived.Maps.Own
import Derived.Maps.Views
set_option linter.unusedVariables false
namespace Go.Proofs.Ytdcedfciaaooiaa
open Go.RowKit
open Go.Maps (Keyed IsMap)
open Go.WideElems (Fit rd rg pl rd_val elemAt)
open Go.ChangeMaps Go.MapKept

def rawR (v : Value) : Option (DataW Value × List MemPlace) := some (.held v, [])
def rawD (P : Program) (k : TypeId) (es : Array MapEntry) : DataW Value := .map ((es.toList.map (rg P k rawR)).foldr DataW.insert [])
def RMap (P : Program) (w : World) (k : TypeId) (b n : Nat) (f : Lit → Option Value) : Prop :=
  ∃ es clock, w.heap[b]? = some (.map es clock) ∧ Fit P k rawR es clock ∧ es.size ≤ n ∧
    ∀ kl z, (rawD P k es).atKey kl z = match f kl with | some v => .held v | none => z
open Classical in
noncomputable def upd (f : Lit → Option Value) (kl : Lit) (v : Value) : Lit → Option Value := fun x => if x = kl then some v else f x

section
variable {P : Program} {k : TypeId} {w : World} {b n : Nat} {f : Lit → Option Value}
theorem RMap.made (P : Program) (w : World) (k : TypeId) : RMap P (w.alloc (.map #[] 0)) k w.heap.size 0 (fun _ => none) :=
  ⟨#[], 0, (MapKept.heap_alloc w _).1, ⟨by simp, stamped_empty 0, by simp⟩, Nat.le_refl _, fun kl z => rfl⟩
theorem RMap.lt (h : RMap P w k b n f) : b < w.heap.size := by
  obtain ⟨es, clock, hb, _⟩ := h
  exact (Array.getElem?_eq_some_iff.1 hb).1
theorem RMap.mono (h : RMap P w k b n f) {m : Nat} (hm : n ≤ m) : RMap P w k b m f := by
  obtain ⟨es, clock, hb, F, hs, hD⟩ := h
  exact ⟨es, clock, hb, F, Nat.le_trans hs hm, hD⟩
theorem RMap.block (h : RMap P w k b n f) {w' : World} (hb : w'.heap[b]? = w.heap[b]?) : RMap P w' k b n f := by
  obtain ⟨es, clock, hb', F, hs, hD⟩ := h
  exact ⟨es, clock, hb.trans hb', F, hs, hD⟩
theorem RMap.ext {w' : World} (h : RMap P w k b n f) (he : Ext w w') : RMap P w' k b n f := h.block (he.heap h.lt)
theorem RMap.alloc (h : RMap P w k b n f) (o : Obj) : RMap P (w.alloc o) k b n f := h.block (Below.heap_alloc w o b h.lt)
theorem RMap.drew (h : RMap P w k b n f) : RMap P w.drew k b n f := h
theorem RMap.drewN (h : RMap P w k b n f) (m : Nat) : RMap P (w.drewN m) k b n f := h
theorem RMap.grown {w' : World} {row : Option Nat} (h : RMap P w k b n f) (hg : w.grownBy w' row) (hne : some b ≠ row) : RMap P w' k b n f := h.block (hg.block b h.lt hne)
theorem RMap.far (h : RMap P w k b n f) {p : Addr} (hp : b ≠ p.block) (u : Value) : RMap P (w.setCell p u) k b n f := h.block (Below.heap_setCell w p u b hp)

theorem RMap.look {t e : TypeId} (h : RMap P w k b n f) (K : Keyed P k) (ht : P.underlying t = some (.map k e)) {z : Value} (hz : (zeroValue e).run P w = .ok z w) {key : Value} {kl : Lit} (hkey : keyOf P k key = some kl) (c : Bool) :
    (Instr.lookup t (.map (some b)) key c).run P w = .ok (if c then .tuple #[(f kl).getD z, .bool (f kl).isSome] else (f kl).getD z) w := by
  obtain ⟨es, clock, hb, F, _, hD⟩ := h
  rcases Maps.fit_look c K ht hz hb F hkey with ⟨hrun, _, hat⟩ | ⟨e0, y, _, _, hrun, hRv, hat, _⟩
  · have h1 := hat .nil
    have h2 := hD kl .nil
    unfold rawD at h2
    rw [h1] at h2
    cases hf : f kl with
    | none => rw [hrun]; rfl
    | some v => rw [hf] at h2; cases h2
  · have h1 := hat .nil
    have h2 := hD kl .nil
    unfold rawD at h2
    rw [h1] at h2
    simp only [rawR, Option.some.injEq] at hRv
    subst hRv
    cases hf : f kl with
    | none => rw [hf] at h2; cases h2
    | some v =>
      rw [hf] at h2
      simp only [DataW.held.injEq] at h2
      subst h2
      rw [hrun]
      rfl
theorem RMap.update {t e : TypeId} (h : RMap P w k b n f) (K : Keyed P k) (ht : P.underlying t = some (.map k e)) (hn : n < maxLen) {key : Value} {kl : Lit} (hkey : keyOf P k key = some kl) (v : Value) :
    ∃ w', (Instr.mapUpdate t (.map (some b)) key v).run P w = .ok () w' ∧ RMap P w' k b (n + 1) (upd f kl v) ∧ w.grownBy w' (some b) := by
  obtain ⟨es, clock, hb, F, hs, hD⟩ := h
  obtain ⟨es', clock', hrun, F', hput, _⟩ := Maps.fit_store (R' := rawR) K ht hb F (Nat.lt_of_le_of_lt hs hn) (fun _ _ _ _ hz => hz) hkey (show rawR v = some (.held v, []) from rfl)
  refine ⟨_, hrun, ⟨es', clock', heap_setBlock_same hb _, F', ?_, ?_⟩, ⟨rfl, rfl, rfl, by simp [setBlock], fun i _ hi => heap_setBlock_other hb _ (fun e => hi (by rw [e]))⟩⟩
  · have e1 : es'.size = ((es'.toList.map (rg P k rawR)).foldr DataW.insert []).length := by rw [length_sorted]; simp
    rw [e1, hput]
    unfold putKey
    rw [length_insert]
    have e2 := List.length_filter_le (notKey kl) ((es.toList.map (rg P k rawR)).foldr DataW.insert [])
    rw [length_sorted] at e2
    simp at e2
    omega
  · intro kl' z
    have e3 : rawD P k es' = (rawD P k es).put kl (.held v) := by unfold rawD; rw [DataW.put_eq, hput]
    rw [e3]
    unfold upd
    have hm : IsMap (rawD P k es) := ⟨_, rfl⟩
    by_cases hk : kl' = kl
    · subst hk
      rw [Maps.atKey_put_same hm (K.key hkey), if_pos rfl]
    · rw [Maps.atKey_put_other hk, if_neg hk]
      exact hD kl' z
end
end Go.Proofs.Ytdcedfciaaooiaa
