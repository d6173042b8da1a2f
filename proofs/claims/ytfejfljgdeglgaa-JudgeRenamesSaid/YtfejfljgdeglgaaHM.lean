/- A map of the call's own, by its exact values: what stands at which key. Over any program, key type and element type. -/
import Derived.Maps.Keyed
import Derived.Maps.Own
import Derived.Maps.OwnOps
import Derived.Maps.OwnSet
import Derived.Maps.Views
import Derived.WalkKit
namespace Go.Proofs.Ytfejfljgdeglgaa.K
open Go.RowKit Go.Maps
set_option linter.unusedVariables false
set_option linter.unusedSimpArgs false

/-- An element reads as itself. -/
def keepV (v : Value) : Option (DataW Value × List MemPlace) := some (.held v, [])

/-- Block b is a map of at most n entries; at the key kl stands f kl. -/
def MapV (P : Program) (k : TypeId) (w : World) (b n : Nat) (f : Lit → Option Value) : Prop :=
  ∃ D : DataW Value, w.ownsMap P k keepV b n D ∧ ∀ kl, WideAt.IsKeyLit kl → Maps.has D kl = (f kl).isSome ∧ ∀ zd, D.atKey kl zd = (match f kl with | some v => .held v | none => zd)

variable {P : Program} {k t e : TypeId} {w : World} {b n : Nat} {f : Lit → Option Value}

theorem MapV.made (P : Program) (k : TypeId) (w : World) : MapV P k (w.alloc (.map #[] 0)) w.heap.size 0 (fun _ => none) :=
  ⟨_, World.ownsMap_made w P k keepV, fun kl _ => ⟨rfl, fun _ => rfl⟩⟩
theorem MapV.lt (h : MapV P k w b n f) : b < w.heap.size := by
  obtain ⟨D, h, _⟩ := h
  exact h.lt
theorem MapV.isMapBlock (h : MapV P k w b n f) : ∃ es clock, w.heap[b]? = some (.map es clock) := by
  obtain ⟨D, ⟨es, clock, hb, _⟩, _⟩ := h
  exact ⟨es, clock, hb⟩
theorem MapV.mono (h : MapV P k w b n f) {n' : Nat} (hn : n ≤ n') : MapV P k w b n' f := by
  obtain ⟨D, h, hf⟩ := h
  exact ⟨D, h.mono hn, hf⟩
theorem MapV.kept {w' : World} {row : Option Nat} (h : MapV P k w b n f) (hg : w.grownBy w' row) (hne : some b ≠ row) : MapV P k w' b n f := by
  obtain ⟨D, h, hf⟩ := h
  exact ⟨D, h.kept hg hne, hf⟩
theorem MapV.look_ok (h : MapV P k w b n f) (K : Keyed P k) (ht : P.underlying t = some (.map k e)) {z : Value} (hz : (zeroValue e).run P w = .ok z w) {key : Value} {kl : Lit} (hkey : keyOf P k key = some kl) :
    (Instr.lookup t (.map (some b)) key true).run P w = .ok (.tuple #[(f kl).getD z, .bool (f kl).isSome]) w := by
  obtain ⟨D, h, hf⟩ := h
  obtain ⟨v, ps, hrun, hv⟩ := h.look_ok K ht hz (zd := .held z) (zp := []) rfl hkey
  obtain ⟨h1, h2⟩ := hf kl (K.key hkey)
  have hv' : DataW.held v = D.atKey kl (.held z) := by
    simp only [keepV, Option.some.injEq, Prod.mk.injEq] at hv
    exact hv.1
  rw [h2] at hv'
  rw [hrun, h1]
  cases hfk : f kl with
  | none => rw [hfk] at hv'; injection hv' with hv'; rw [hv']; rfl
  | some u => rw [hfk] at hv'; injection hv' with hv'; rw [hv']; rfl
theorem MapV.look (h : MapV P k w b n f) (K : Keyed P k) (ht : P.underlying t = some (.map k e)) {z : Value} (hz : (zeroValue e).run P w = .ok z w) {key : Value} {kl : Lit} (hkey : keyOf P k key = some kl) :
    (Instr.lookup t (.map (some b)) key false).run P w = .ok ((f kl).getD z) w := by
  obtain ⟨D, h, hf⟩ := h
  obtain ⟨v, ps, hrun, hv⟩ := h.lookup K ht hz (zd := .held z) (zp := []) rfl hkey
  obtain ⟨h1, h2⟩ := hf kl (K.key hkey)
  have hv' : DataW.held v = D.atKey kl (.held z) := by
    simp only [keepV, Option.some.injEq, Prod.mk.injEq] at hv
    exact hv.1
  rw [h2] at hv'
  rw [hrun]
  cases hfk : f kl with
  | none => rw [hfk] at hv'; injection hv' with hv'; rw [hv']; rfl
  | some u => rw [hfk] at hv'; injection hv' with hv'; rw [hv']; rfl
/-- The map with one more value. -/
def putV (f : Lit → Option Value) (kl : Lit) (v : Value) : Lit → Option Value := fun x => if x.sameKey kl = true then some v else f x
theorem MapV.store (h : MapV P k w b n f) (K : Keyed P k) (ht : P.underlying t = some (.map k e)) (hn : n < maxLen) {key : Value} {kl : Lit} (hkey : keyOf P k key = some kl) (val : Value) :
    ∃ w', (Instr.mapUpdate t (.map (some b)) key val).run P w = .ok () w' ∧ MapV P k w' b (n + 1) (putV f kl val) ∧ w.grownBy w' (some b) := by
  obtain ⟨D, h, hf⟩ := h
  obtain ⟨w', hrun, h', hg⟩ := h.update K ht hn (val := val) (d := .held val) (ps := []) hkey rfl
  refine ⟨w', hrun, ⟨_, h', fun x hx => ?_⟩, hg⟩
  by_cases hxk : x = kl
  · subst hxk
    have e1 : putV f x val x = some val := by simp [putV, WideAt.sameKey_self hx]
    rw [e1]
    exact ⟨has_put_same (h.isMap) hx _, fun zd => atKey_put_same (h.isMap) hx _ _⟩
  · have e1 : putV f kl val x = f x := by simp [putV, sameKey_ne hxk]
    rw [e1]
    obtain ⟨h1, h2⟩ := hf x hx
    exact ⟨by rw [has_put_other hxk]; exact h1, fun zd => by rw [atKey_put_other hxk]; exact h2 zd⟩

theorem apart_le : ∀ (l K : List Lit), l.Pairwise (fun p q => p ≠ q) → (∀ x ∈ l, x ∈ K) → l.length ≤ K.length
  | [], _, _, _ => Nat.zero_le _
  | x :: l, K, h, hs => by
    rw [List.pairwise_cons] at h
    obtain ⟨s, t, rfl⟩ := List.append_of_mem (hs x (List.mem_cons_self ..))
    have := apart_le l (s ++ t) h.2 (fun y hy => by
      have h1 := hs y (List.mem_cons_of_mem _ hy)
      have h2 : x ≠ y := h.1 y hy
      simp only [List.mem_append, List.mem_cons] at h1 ⊢
      rcases h1 with h1 | h1 | h1
      · exact .inl h1
      · exact absurd h1.symm h2
      · exact .inr h1)
    simp only [List.length_append, List.length_cons] at this ⊢
    omega
theorem any_sorted {H : Type} (g : Lit × DataW H → Bool) : ∀ l : List (Lit × DataW H), (l.foldr DataW.insert []).any g = l.any g
  | [] => rfl
  | x :: l => by rw [List.foldr_cons, any_insert, any_sorted g l]; rfl
/-- No more entries than keys at which something stands. -/
theorem MapV.tight (h : MapV P k w b n f) (K : Keyed P k) (L : List Lit) (hL : ∀ kl, f kl ≠ none → kl ∈ L) : MapV P k w b L.length f := by
  obtain ⟨D, ⟨es, clock, hb, F, hs, hD⟩, hf⟩ := h
  refine ⟨D, ⟨es, clock, hb, F, ?_, hD⟩, hf⟩
  have hlen : es.size = ((es.toList.map (WideElems.rg P k keepV)).map Prod.fst).length := by simp
  rw [hlen]
  refine apart_le _ L ?_ ?_
  · rw [List.pairwise_map]
    exact fit_apart K F
  · intro x hx
    obtain ⟨p, hp, rfl⟩ := List.mem_map.1 hx
    have hk : WideAt.IsKeyLit p.1 := by
      obtain ⟨v, hv⟩ := fit_keys F p hp
      exact K.key hv
    have hhas : Maps.has D p.1 = true := by
      rw [hD]
      show ((es.toList.map (WideElems.rg P k keepV)).foldr DataW.insert []).any (fun q => q.1.sameKey p.1) = true
      rw [any_sorted, List.any_eq_true]
      exact ⟨p, hp, WideAt.sameKey_self hk⟩
    have := (hf p.1 hk).1
    rw [hhas] at this
    exact hL p.1 (fun e => by rw [e] at this; cases this)
end Go.Proofs.Ytfejfljgdeglgaa.K
