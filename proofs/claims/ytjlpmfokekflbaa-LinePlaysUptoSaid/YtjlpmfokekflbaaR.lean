/- An argument that is a slice of strings, opened once: it reads as a list of strings. -/
import Derived.Test.YtjlpmfokekflbaaRows
import Derived.Test.YtjlpmfokekflbaaK
import Derived.ProofKit
import Derived.SliceStrings
import Derived.OpenShut
namespace Go.Proofs.Ytjlpmfokekflbaa
open Go.ChangeShapes Go.WideShapes Go.ChangeAt Go.RowKit

theorem own : ownKnob Try.prog.godebug = none := by kernel_rfl
theorem laidOut : laidOutB Try.prog = true := by kernel_rfl

theorem open_lines {H : Type} {enc : TypeId × Value → H} {W : World} {base : Nat} {v : Value} {d : DataW H} {p : List MemPlace}
    (hv : Value.okWide Try.prog W .any base 22 v) (h : DataW.Trod enc Try.prog W 0 (fun _ => true) true 22 v d p) :
    ∃ (A : Option Addr) (c : Nat) (ss : List ByteArray), v = .slice A ss.length c ∧ Rd W W.heap.size A (ss.map .string) ∧ ss.length ≤ 9223372036854775807 ∧ ∀ s ∈ ss, s.size ≤ maxLen := by
  obtain ⟨a0, len, cap, rfl⟩ := okWide_slice Try.underlying22 hv
  obtain ⟨fuel, hf⟩ := h
  rcases open_strings Try.underlying22 Try.underlying9 (by kernel_rfl) hf with ⟨hcs, _⟩ | ⟨a, l, c, ss, hcs, _, hl, hm, hz, _, hcell, hws⟩
  · simp [Value.cells] at hcs
    obtain ⟨rfl, rfl, rfl⟩ := hcs
    exact ⟨none, 0, [], rfl, .inl rfl, by decide, by simp⟩
  · simp [Value.cells] at hcs
    obtain ⟨rfl, rfl, rfl⟩ := hcs
    have hz' : ss.length = cap := by simpa using hz
    have hlen : (ss.take len).length = len := by rw [List.length_take]; omega
    refine ⟨some a, cap, ss.take len, by rw [hlen], ?_, by rw [hlen]; unfold maxLen at hm; omega, fun s hs => hws s (List.mem_of_mem_take hs)⟩
    rcases Nat.eq_zero_or_pos len with h0 | h0
    · subst h0; exact .inl (by simp)
    · obtain ⟨b, off, spot⟩ := a
      have hc := hcell 0 (by omega)
      have hspot : spot = none := by simpa [Addr.add] using World.cell?_spot hc
      subst hspot
      have hadd : ∀ j, (⟨b, off, none⟩ : Addr).add j = ⟨b, off + j, none⟩ := fun j => by unfold Addr.add; split <;> simp_all
      refine .inr ⟨b, off, rfl, ?_, fun j u hu => ?_⟩
      · have := World.block_lt_of_cell? _ _ hc
        simpa [hadd] using this
      · rw [List.getElem?_map] at hu
        cases hj : (ss.take len)[j]? with
        | none => rw [hj] at hu; cases hu
        | some x =>
          rw [hj] at hu
          have hjl := (List.getElem?_eq_some_iff.1 hj).1
          rw [hlen] at hjl
          have hx : ss[j]? = some x := by rw [List.getElem?_take] at hj; split at hj <;> simp_all
          have h1 := hcell j (by omega)
          rw [hadd] at h1
          rw [h1, ← hu]
          simp [List.getD, hx]
end Go.Proofs.Ytjlpmfokekflbaa
