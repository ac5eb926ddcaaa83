/- strings.ContainsAny at the two bytes of a line's end: any bytes. -/
import Derived.Test.YtjlpmfokekflbaaShelf
import Derived.Test.YtjlpmfokekflbaaK
import Derived.Laws.RangeAny
import Derived.Laws.Cover4
import Derived.Lib.IndexAny
import Derived.Deep.LoopGhost
namespace Go.Proofs.Ytjlpmfokekflbaa
open Go.RowKit
set_option linter.unusedVariables false

theorem get_toNat_lt (s : ByteArray) (k : Nat) : (s.get! k).toNat < 256 := (s.get! k).toNat_lt
theorem decode_wide (s : ByteArray) (pos : Nat) (h : pos < s.size) (ha : 128 ≤ (s.get! pos).toNat) :
    128 ≤ (Utf8.decode s pos).1 ∧ 1 ≤ (Utf8.decode s pos).2 ∧ ∀ k, k < (Utf8.decode s pos).2 → pos + k < s.size ∧ 128 ≤ (s.get! (pos + k)).toNat := by
  have hn : ¬ (s.get! (pos + 0)).toNat < 128 := by simpa using ha
  have one : ∀ k, k < 1 → pos + k < s.size ∧ 128 ≤ (s.get! (pos + k)).toNat := fun k hk => by
    obtain rfl : k = 0 := by omega
    exact ⟨h, by simpa using ha⟩
  simp only [Utf8.decode, hn, if_false]
  split
  · rename_i hc
    simp at hc
    split
    · rename_i hge
      refine ⟨by simpa using hge, by simp, fun k hk => ?_⟩
      simp at hk
      rcases (by omega : k = 0 ∨ k = 1) with rfl | rfl
      · exact one 0 (by omega)
      · exact ⟨hc.2.1, by omega⟩
    · exact ⟨by simp [Utf8.runeError], by simp, fun k hk => one k (by simpa using hk)⟩
  · split
    · rename_i hc
      simp at hc
      split
      · rename_i hge
        simp at hge
        refine ⟨by simp; omega, by simp, fun k hk => ?_⟩
        simp at hk
        rcases (by omega : k = 0 ∨ k = 1 ∨ k = 2) with rfl | rfl | rfl
        · exact one 0 (by omega)
        · exact ⟨hc.1.2.1, by omega⟩
        · exact ⟨hc.2.1, by omega⟩
      · exact ⟨by simp [Utf8.runeError], by simp, fun k hk => one k (by simpa using hk)⟩
    · split
      · rename_i hc
        simp at hc
        split
        · rename_i hge
          simp at hge
          refine ⟨by simp; omega, by simp, fun k hk => ?_⟩
          simp at hk
          rcases (by omega : k = 0 ∨ k = 1 ∨ k = 2 ∨ k = 3) with rfl | rfl | rfl | rfl
          · exact one 0 (by omega)
          · exact ⟨hc.1.1.2.1, by omega⟩
          · exact ⟨hc.1.2.1, by omega⟩
          · exact ⟨hc.2.1, by omega⟩
        · exact ⟨by simp [Utf8.runeError], by simp, fun k hk => one k (by simpa using hk)⟩
      · exact ⟨by simp [Utf8.runeError], by simp, fun k hk => one k (by simpa using hk)⟩

/-- A rune of 128 or more, encoded: two to four bytes, the last of them 128 or more. -/
theorem encode_far (r : Int) (h : 128 ≤ r) : 2 ≤ (Utf8.encode r).size ∧ (Utf8.encode r).size ≤ 4 ∧ ∀ (i : Nat) (hi : i < (Utf8.encode r).size), i + 1 = (Utf8.encode r).size → 128 ≤ ((Utf8.encode r)[i]'hi).toNat := by
  have hc : 128 ≤ (if Utf8.valid r then r.toNat else Utf8.runeError) := by
    split
    · omega
    · simp [Utf8.runeError]
  obtain ⟨c, hce⟩ : ∃ c, (if Utf8.valid r then r.toNat else Utf8.runeError) = c := ⟨_, rfl⟩
  have key : ∀ e : ByteArray, Utf8.encode r = e → 2 ≤ e.size ∧ e.size ≤ 4 ∧ ∀ (i : Nat) (hi : i < e.size), i + 1 = e.size → 128 ≤ (e[i]'hi).toNat := by
    intro e he
    unfold Utf8.encode at he
    simp only [hce] at he
    rw [hce] at hc
    rw [if_neg (by omega)] at he
    split at he
    · subst he
      refine ⟨by simp [ByteArray.size], by simp [ByteArray.size], fun i hi hl => ?_⟩
      simp [ByteArray.size] at hl
      subst hl
      show 128 ≤ (UInt8.ofNat (128 + c % 64)).toNat
      simp; omega
    · split at he
      · subst he
        refine ⟨by simp [ByteArray.size], by simp [ByteArray.size], fun i hi hl => ?_⟩
        simp [ByteArray.size] at hl
        subst hl
        show 128 ≤ (UInt8.ofNat (128 + c % 64)).toNat
        simp; omega
      · subst he
        refine ⟨by simp [ByteArray.size], by simp [ByteArray.size], fun i hi hl => ?_⟩
        simp [ByteArray.size] at hl
        subst hl
        show 128 ≤ (UInt8.ofNat (128 + c % 64)).toNat
        simp; omega
  exact key _ rfl

section
variable {P : Program}
/-- A step over a string, wherever the iterator lies. -/
theorem next_at (w : World) (b : Nat) (s : ByteArray) (pos : Nat) (ty : TypeId) (hb : w.heap[b]? = some (.stringIter s pos)) (h : pos < s.size) :
    (Instr.next (.pointer (some ⟨b, 0, none⟩)) true ty).run P w =
      .ok (.tuple #[.bool true, .int .i64 pos, .int .i32 (Utf8.decode s pos).1]) { w with heap := w.heap.setIfInBounds b (.stringIter s (pos + (Utf8.decode s pos).2)) } := by
  simp only [Instr.next, getObj, setObj, Sem.run_bind, Sem.run, hb, Result.andThen, h, if_true]
  simp [goInt]
theorem next_end (w : World) (b : Nat) (s : ByteArray) (pos : Nat) (ty : TypeId) (hb : w.heap[b]? = some (.stringIter s pos)) (h : ¬ pos < s.size) :
    (Instr.next (.pointer (some ⟨b, 0, none⟩)) true ty).run P w = .ok (.tuple #[.bool false]) w := by
  simp [Instr.next, getObj, Sem.run, hb, h]
end
end Go.Proofs.Ytjlpmfokekflbaa
