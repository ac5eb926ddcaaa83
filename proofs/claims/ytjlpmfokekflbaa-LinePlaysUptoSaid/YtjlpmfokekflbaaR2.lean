/- Arguments opened: a slice of ints; how much a slice of strings weighs. -/
import Derived.Test.YtjlpmfokekflbaaR
import Derived.Test.YtjlpmfokekflbaaQ
import Derived.ChangeSlices
namespace Go.Proofs.Ytjlpmfokekflbaa
open Go.ChangeShapes Go.WideShapes Go.ChangeAt Go.RowKit
set_option linter.unusedVariables false

theorem open_nums {H : Type} {enc : TypeId × Value → H} {W : World} {base : Nat} {v : Value} {d : DataW H} {p : List MemPlace}
    (hv : Value.okWide Try.prog W .any base 23 v) (h : DataW.Trod enc Try.prog W 0 (fun _ => true) true 23 v d p) :
    ∃ (A : Option Addr) (c : Nat) (zs : List Int), v = .slice A zs.length c ∧ Rd W W.heap.size A (zs.map (.int .i64)) ∧ zs.length ≤ 9223372036854775807 := by
  obtain ⟨a0, len, cap, rfl⟩ := okWide_slice Try.underlying23 hv
  obtain ⟨fuel, hf⟩ := h
  rcases open_ints Try.underlying23 Try.underlying3 (by kernel_rfl) hf with ⟨hcs, _⟩ | ⟨a, l, c, ss, hcs, _, hl, hm, hz, _, hcell, hws⟩
  · simp [Value.cells] at hcs
    obtain ⟨rfl, rfl, rfl⟩ := hcs
    exact ⟨none, 0, [], rfl, .inl rfl, by decide⟩
  · simp [Value.cells] at hcs
    obtain ⟨rfl, rfl, rfl⟩ := hcs
    have hz' : ss.length = cap := by simpa using hz
    have hlen : (ss.take len).length = len := by rw [List.length_take]; omega
    refine ⟨some a, cap, ss.take len, by rw [hlen], ?_, by rw [hlen]; unfold maxLen at hm; omega⟩
    rcases Nat.eq_zero_or_pos len with h0 | h0
    · subst h0; exact .inl (by simp)
    · obtain ⟨b, off, spot⟩ := a
      have hc := hcell 0 (by omega)
      have hspot : spot = none := by simpa [Addr.add] using World.cell?_spot hc
      subst hspot
      have hadd : ∀ j, (⟨b, off, none⟩ : Addr).add j = ⟨b, off + j, none⟩ := fun j => by unfold Addr.add; split <;> simp_all
      refine .inr ⟨b, off, rfl, ?_, fun j u hu => ?_⟩
      · have := World.block_lt_of_cell? _ _ hc
        simpa [hadd] using this
      · rw [List.getElem?_map] at hu
        cases hj : (ss.take len)[j]? with
        | none => rw [hj] at hu; cases hu
        | some x =>
          rw [hj] at hu
          have hjl := (List.getElem?_eq_some_iff.1 hj).1
          rw [hlen] at hjl
          have hx : ss[j]? = some x := by rw [List.getElem?_take] at hj; split at hj <;> simp_all
          have h1 := hcell j (by omega)
          rw [hadd] at h1
          rw [h1, ← hu]
          simp [List.getD, hx]

/-- What a row of strings weighs. -/
theorem strs_bulk {H : Type} (ss : List ByteArray) : Rows.uptoBulkAll (strs (H := H) ss) = totL ss := by
  unfold totL
  induction ss with
  | nil => rfl
  | cons s ss ih =>
    show Rows.uptoBulk (DataW.lit (.string s.data.toList)) + Rows.uptoBulkAll (strs ss) = _
    rw [ih]
    simp [Rows.uptoBulk]
theorem open_bulk {H : Type} {enc : TypeId × Value → H} {W : World} {base : Nat} {v : Value} {d : DataW H} {p : List MemPlace}
    (hv : Value.okWide Try.prog W .any base 22 v) (h : DataW.Trod enc Try.prog W 0 (fun _ => true) true 22 v d p) :
    ∃ (A : Option Addr) (c : Nat) (ss : List ByteArray), v = .slice A ss.length c ∧ Rd W W.heap.size A (ss.map .string) ∧ totL ss + 1 ≤ Rows.uptoBulk d := by
  obtain ⟨a0, len, cap, rfl⟩ := okWide_slice Try.underlying22 hv
  obtain ⟨fuel, hf⟩ := h
  rcases open_strings Try.underlying22 Try.underlying9 (by kernel_rfl) hf with ⟨hcs, hx⟩ | ⟨a, l, c, ss, hcs, _, hl, hm, hz, hx, hcell, hws⟩
  · simp [Value.cells] at hcs
    obtain ⟨rfl, rfl, rfl⟩ := hcs
    simp only [Prod.mk.injEq] at hx
    obtain ⟨rfl, _⟩ := hx
    exact ⟨none, 0, [], rfl, .inl rfl, by simp [totL, Rows.uptoBulk]⟩
  · simp [Value.cells] at hcs
    obtain ⟨rfl, rfl, rfl⟩ := hcs
    simp only [Prod.mk.injEq] at hx
    obtain ⟨rfl, _⟩ := hx
    have hz' : ss.length = cap := by simpa using hz
    have hlen : (ss.take len).length = len := by rw [List.length_take]; omega
    refine ⟨some a, cap, ss.take len, by rw [hlen], ?_, ?_⟩
    · rcases Nat.eq_zero_or_pos len with h0 | h0
      · subst h0; exact .inl (by simp)
      · obtain ⟨b, off, spot⟩ := a
        have hc := hcell 0 (by omega)
        have hspot : spot = none := by simpa [Addr.add] using World.cell?_spot hc
        subst hspot
        have hadd : ∀ j, (⟨b, off, none⟩ : Addr).add j = ⟨b, off + j, none⟩ := fun j => by unfold Addr.add; split <;> simp_all
        refine .inr ⟨b, off, rfl, ?_, fun j u hu => ?_⟩
        · have := World.block_lt_of_cell? _ _ hc
          simpa [hadd] using this
        · rw [List.getElem?_map] at hu
          cases hj : (ss.take len)[j]? with
          | none => rw [hj] at hu; cases hu
          | some x =>
            rw [hj] at hu
            have hjl := (List.getElem?_eq_some_iff.1 hj).1
            rw [hlen] at hjl
            have hx : ss[j]? = some x := by rw [List.getElem?_take] at hj; split at hj <;> simp_all
            have h1 := hcell j (by omega)
            rw [hadd] at h1
            rw [h1, ← hu]
            simp [List.getD, hx]
    · simp only [Rows.uptoBulk, strs_bulk]
      omega
end Go.Proofs.Ytjlpmfokekflbaa
