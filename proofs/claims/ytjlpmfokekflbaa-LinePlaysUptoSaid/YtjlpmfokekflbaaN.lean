/- How lines are printed: the program's Print, the reference's. -/
import Derived.Test.YtjlpmfokekflbaaM
namespace Go.Proofs.Ytjlpmfokekflbaa
open Go.RowKit
set_option linter.unusedVariables false

/-- Lines as bytes. -/
def printL (l : List ByteArray) : List UInt8 := l.flatMap fun s => s.data.toList ++ [13, 10]
/-- How many bytes they have. -/
def sizeL (l : List ByteArray) : Nat := (printL l).length
theorem print_take {l : List ByteArray} {k : Nat} (h : k < l.length) : printL (l.take (k + 1)) = printL (l.take k) ++ (l[k].data.toList ++ [13, 10]) := by
  unfold printL
  rw [List.take_succ_eq_append_getElem h, List.flatMap_append]
  simp
theorem size_take {l : List ByteArray} {k : Nat} (h : k < l.length) : (printL (l.take k)).length + l[k].size + 2 ≤ sizeL l := by
  have h1 : printL l = printL (l.take (k + 1)) ++ printL (l.drop (k + 1)) := by
    unfold printL
    rw [← List.flatMap_append, List.take_append_drop]
  unfold sizeL
  rw [h1, print_take h]
  simp only [List.length_append, List.length_cons, List.length_nil, ← Lib.size_eq]
  omega
theorem len_take (l : List ByteArray) (k : Nat) : k ≤ l.length → k ≤ (printL (l.take k)).length := by
  induction k with
  | zero => intro _; exact Nat.zero_le _
  | succ k ih =>
    intro h
    rw [print_take (by omega)]
    have := ih (by omega)
    simp only [List.length_append, List.length_cons, List.length_nil]
    omega

set_option maxHeartbeats 2000000 in
set_option maxRecDepth 100000 in
theorem print_any (A : Option Addr) (c : Nat) (l : List ByteArray) (w : World) (hl : Rd w w.heap.size A (l.map .string)) (hs : sizeL l ≤ 4000000) :
    Calls Try.prog 18 #[.slice A l.length c] w fun e w' => e = .returned (.string ⟨(printL l).toArray⟩) ∧ Below w.heap.size w w' := by
  have Hl := Lib.hid hl
  have hll : l.length ≤ 4000000 := by have := len_take l l.length (Nat.le_refl _); rw [List.take_length] at this; exact Nat.le_trans this hs
  have hb0 : Lib.IsBuilder 52 5 w.heap.size w.heap.size (Lib.byteCells []) (w.alloc (.cells #[.pointer none, .slice none 0 0] 52)) := .inl ⟨Nat.le_refl _, _, Bk.new w 52 _, World.ownsRow_nil _ _ _ _, by simp [Value.ownBlock]⟩
  have HB0 := Lib.hid hb0
  have hbb := (Below.refl w.heap.size w).alloc (Nat.le_refl _) (.cells #[.pointer none, .slice none 0 0] 52)
  have HBB := Lib.hid hbb
  clear hl hb0 hbb
  go_enter Try.func18, Try.ntmps18
  go_wp2_with fail
  go_loopw [8] (fun i wx => ∃ k : Nat, k ≤ l.length ∧ i = .int .i64 (k : Int) ∧ Lib.IsBuilder 52 5 w.heap.size w.heap.size (Lib.byteCells (printL (l.take k))) wx ∧ Below w.heap.size w wx) (fun i _ => l.length - (intOf i).toNat)
  case atStart => exact ⟨0, Nat.zero_le _, rfl, HB0.out, HBB.out⟩
  case round =>
    obtain ⟨k, hk, rfl, hbk, hbw⟩ := hrel
    have HBK := Lib.hid hbk; have HBW := Lib.hid hbw
    clear hbk hbw
    by_cases hlt : k < l.length
    · have hz : (k : Int) < l.length := by omega
      obtain ⟨b, o, rfl, hb, hc⟩ := Rd.at_ Hl.out (k := k) (by simpa using hlt)
      rw [List.getElem_map] at hc
      have hc' := (HBW.out.cell (p := ⟨b, o + k, none⟩) hb).trans hc
      have hst := size_take hlt
      have hpt := print_take hlt
      have HST := Lib.hid hst; have HPT := Lib.hid hpt
      generalize l[k] = s at *
      clear hst hpt hc
      go_wp2_with fail
      refine (write_any _ _ _ s _ HBK.out (by have := HST.out; omega) HBW.out.size).mono ?_
      rintro e w2 ⟨rfl, h2, b2⟩
      have HB2 := Lib.hid h2; have HW2 := Lib.hid (HBW.out.trans b2)
      clear h2 b2 hc'
      go_wp2_with fail
      refine (write_any _ _ _ ⟨#[13, 10]⟩ _ HB2.out (by have := HST.out; rw [List.length_append, ← Lib.size_eq]; show _ + 2 ≤ _; omega) HW2.out.size).mono ?_
      rintro e w3 ⟨rfl, h3, b3⟩
      have HB3 := Lib.hid h3; have HW3 := Lib.hid (HW2.out.trans b3)
      clear h3 b3
      go_wp2_with fail
      refine ⟨⟨k + 1, by omega, by go_num, ?_, HW3.out⟩, by simp [intOf]; omega⟩
      rw [HPT.out, ← List.append_assoc]
      exact HB3.out
    · obtain rfl : k = l.length := by omega
      have hbk := HBK.out
      rw [List.take_length] at hbk
      have HBK2 := Lib.hid hbk
      clear hbk
      go_wp2_with fail
      refine (Try.Builder_String_any _ _ _ _ HBK2.out HBW.out.size).mono ?_
      rintro e w2 ⟨rfl, b2⟩
      have HW2 := Lib.hid (HBW.out.trans b2)
      go_wp2_with fail
      go_ret
      exact ⟨rfl, HW2.out⟩
end Go.Proofs.Ytjlpmfokekflbaa
