/- Two framers side by side. -/
import Derived.Test.YtjlpmfokekflbaaT
namespace Go.Proofs.Ytjlpmfokekflbaa
open Go.RowKit
set_option linter.unusedVariables false

/-- Framers at g1 and g2; no block is both's; the blocks of P are others'. -/
def F2 (w : World) (P : Nat → Prop) (g1 g2 : Nat) (i1 : List UInt8) (m1 : Int) (i2 : List UInt8) (m2 : Int) : Prop :=
  ∃ v1 v2, Fm w g1 v1 i1 m1 ∧ Fm w g2 v2 i2 m2 ∧ g1 ≠ g2 ∧ (∀ k, v1.ownBlock = some k → v2.ownBlock ≠ some k) ∧ ∀ k, P k → k < w.heap.size ∧ (k ≠ g1 ∧ v1.ownBlock ≠ some k) ∧ (k ≠ g2 ∧ v2.ownBlock ≠ some k)
section
variable {w w' : World} {P : Nat → Prop} {g1 g2 : Nat} {i1 i2 : List UInt8} {m1 m2 : Int}
theorem F2.swap (h : F2 w P g1 g2 i1 m1 i2 m2) : F2 w P g2 g1 i2 m2 i1 m1 := by
  obtain ⟨v1, v2, h1, h2, hg, hd, hP⟩ := h
  exact ⟨v2, v1, h2, h1, hg.symm, fun k a b => hd k b a, fun k hk => ⟨(hP k hk).1, (hP k hk).2.2, (hP k hk).2.1⟩⟩
theorem F2.one (h : F2 w P g1 g2 i1 m1 i2 m2) : ∃ P1, FS w P1 g1 i1 m1 ∧ (∀ k, P k → P1 k) ∧ ∀ w' i' m', FS w' P1 g1 i' m' → Keep P1 w w' → F2 w' P g1 g2 i' m' i2 m2 := by
  obtain ⟨v1, v2, h1, h2, hg, hd, hP⟩ := h
  refine ⟨fun k => P k ∨ k = g2 ∨ v2.ownBlock = some k, ⟨v1, h1, ?_⟩, fun k hk => .inl hk, ?_⟩
  · rintro k (hk | rfl | hk)
    · exact ⟨(hP k hk).1, (hP k hk).2.1⟩
    · exact ⟨h2.1.lt, hg.symm, own_ne h1.2 h2.1 (by decide)⟩
    · exact ⟨(h2.2.lt k hk).2, fun e => own_ne h2.2 h1.1 (by decide) (e ▸ hk), fun e => hd k e hk⟩
  · rintro w' i' m' ⟨v1', h1', hP'⟩ hk
    refine ⟨v1', v2, h1', ⟨h2.1.keep hk (.inr (.inl rfl)), own_only h2.2 hk (fun k hkk hn => hn (.inr (.inr hkk)))⟩, ?_, ?_, ?_⟩
    · exact fun e => (hP' g2 (.inr (.inl rfl))).2.1 e.symm
    · exact fun k ha hb => (hP' k (.inr (.inr hb))).2.2 ha
    · exact fun k hk => ⟨(hP' k (.inl hk)).1, (hP' k (.inl hk)).2, (hP k hk).2.2⟩
theorem F2.less {P' : Nat → Prop} (h : F2 w P g1 g2 i1 m1 i2 m2) (hp : ∀ k, P' k → P k) : F2 w P' g1 g2 i1 m1 i2 m2 := by
  obtain ⟨v1, v2, h1, h2, hg, hd, hP⟩ := h
  exact ⟨v1, v2, h1, h2, hg, hd, fun k hk => hP k (hp k hk)⟩
theorem F2.grow {S : Nat → Prop} (h : F2 w P g1 g2 i1 m1 i2 m2) (ho : Only w w' S) (hs : ∀ k, S k → P k) : F2 w' (fun k => P k ∨ (w.heap.size ≤ k ∧ k < w'.heap.size)) g1 g2 i1 m1 i2 m2 := by
  obtain ⟨v1, v2, h1, h2, hg, hd, hP⟩ := h
  have n1 : ¬ S g1 := fun h => (hP g1 (hs g1 h)).2.1.1 rfl
  have n2 : ¬ S g2 := fun h => (hP g2 (hs g2 h)).2.2.1 rfl
  refine ⟨v1, v2, ⟨h1.1.same (ho.block g1 h1.1.lt n1), own_only h1.2 ho (fun k hk hS => (hP k (hs k hS)).2.1.2 hk)⟩, ⟨h2.1.same (ho.block g2 h2.1.lt n2), own_only h2.2 ho (fun k hk hS => (hP k (hs k hS)).2.2.2 hk)⟩, hg, hd, fun k hk => ?_⟩
  rcases hk with hk | hk
  · exact ⟨Nat.lt_of_lt_of_le (hP k hk).1 ho.size, (hP k hk).2⟩
  · exact ⟨hk.2, ⟨fun e => by have := h1.1.lt; omega, fun e => by have := (h1.2.lt k e).2; omega⟩, fun e => by have := h2.1.lt; omega, fun e => by have := (h2.2.lt k e).2; omega⟩
theorem F2.add {B n : Nat} {v : Value} {xs : List Value} (h : F2 w P g1 g2 i1 m1 i2 m2) (ho : w.ownsRow B 42 3 v n xs) : F2 w (fun k => P k ∨ v.ownBlock = some k) g1 g2 i1 m1 i2 m2 := by
  obtain ⟨v1, v2, h1, h2, hg, hd, hP⟩ := h
  refine ⟨v1, v2, h1, h2, hg, hd, fun k hk => ?_⟩
  rcases hk with hk | hk
  · exact hP k hk
  · exact ⟨(ho.lt k hk).2, ⟨fun e => own_ne ho h1.1 (by decide) (e ▸ hk), fun e => ne_of_types ho h1.2 (by decide) k hk e⟩, fun e => own_ne ho h2.1 (by decide) (e ▸ hk), fun e => ne_of_types ho h2.2 (by decide) k hk e⟩
theorem F2.below (h : F2 w P g1 g2 i1 m1 i2 m2) (hb : Below w.heap.size w w') : F2 w' P g1 g2 i1 m1 i2 m2 := (h.grow (S := fun _ => False) (Only.of_below hb) (fun _ h => h.elim)).less fun k hk => .inl hk
theorem f2_new (h1 : FS w P g1 i1 m1) (h2 : FS w' (fun k => k < w.heap.size) g2 i2 m2) (hb : Below w.heap.size w w') : F2 w' P g1 g2 i1 m1 i2 m2 := by
  obtain ⟨v1, h1, hP⟩ := h1
  obtain ⟨v2, h2, hP2⟩ := h2
  refine ⟨v1, v2, ⟨h1.1.below hb h1.1.lt, own_below h1.2 hb⟩, h2, fun e => (hP2 g1 h1.1.lt).2.1 e, fun k hk hk2 => (hP2 k (h1.2.lt k hk).2).2.2 hk2, fun k hk => ⟨Nat.lt_of_lt_of_le (hP k hk).1 hb.size, (hP k hk).2, (hP2 k (hP k hk).1).2⟩⟩
end
end Go.Proofs.Ytjlpmfokekflbaa
