/- strings.IndexAny, strings.ContainsAny at the two bytes of a line's end: any bytes. -/
import Derived.Test.YtjlpmfokekflbaaB
import Derived.Test.YtjlpmfokekflbaaS
namespace Go.Proofs.Ytjlpmfokekflbaa
open Go.RowKit
set_option linter.unusedVariables false

theorem bare_of (l : List UInt8) : Lib.containsAny l [13, 10] = bareL l := by
  unfold Lib.containsAny bareL
  induction l with
  | nil => rfl
  | cons a l ih =>
    simp only [List.any_cons]
    rw [← ih]
    cases h : ([13, 10] : List UInt8).contains a with
    | true =>
      have e := Lib.indexAny_hit (s := a :: l) (chars := [13, 10]) (i := 0) (x := a) (Lib.NoAny.zero _ _) rfl h
      rw [e]
      simp at h
      rcases h with rfl | rfl <;> simp
    | false =>
      rw [Lib.indexAny, if_neg (by rw [h]; exact Bool.false_ne_true)]
      simp at h
      have h1 : (a == 13) = false := by simp [h]
      have h2 : (a == 10) = false := by simp [h]
      rw [h1, h2]
      have := Lib.indexAny_ge [13, 10] l
      simp only [Bool.or_false, Bool.false_or]
      by_cases hm : Lib.indexAny l [13, 10] = -1
      · rw [hm]; simp
      · rw [if_neg (fun e => hm (beq_iff_eq.1 e))]
        rw [decide_eq_decide]; omega

theorem below_iter {B b : Nat} {w wx : World} {o : Obj} (h : Below B w wx) (hb : B ≤ b) : Below B w { wx with heap := wx.heap.setIfInBounds b o } := by
  refine ⟨h.os, h.tape, h.output, ?_, fun i hi => ?_⟩
  · simpa using h.size
  · rw [← h.block i hi]
    show (wx.heap.setIfInBounds b o)[i]? = _
    rw [Array.getElem?_setIfInBounds]
    split
    · omega
    · rfl
theorem iter_at {b : Nat} {wx : World} {o o' : Obj} (h : wx.heap[b]? = some o') : ({ wx with heap := wx.heap.setIfInBounds b o } : World).heap[b]? = some o := by
  obtain ⟨hb, _⟩ := Array.getElem?_eq_some_iff.1 h
  show (wx.heap.setIfInBounds b o)[b]? = _
  rw [Array.getElem?_setIfInBounds]
  simp [hb]
theorem noany_wide {s : ByteArray} {i d : Nat} (h : Lib.NoAny s.data.toList [13, 10] i) (hk : ∀ k, k < d → i + k < s.size ∧ 128 ≤ (s.get! (i + k)).toNat) : Lib.NoAny s.data.toList [13, 10] (i + d) := by
  induction d with
  | zero => exact h
  | succ d ih =>
    have h1 := ih fun k hk' => hk k (by omega)
    obtain ⟨h2, h3⟩ := hk d (by omega)
    have hx : s.data.toList[i + d]? = some (s[i + d]'h2) := Lib.data_getElem? s (i + d) h2
    refine Lib.NoAny.succ h1 hx ?_
    have e : s.get! (i + d) = s[i + d]'h2 := by simpa using get_at s (i + d) h2
    rw [e] at h3
    simp only [List.contains_cons, List.contains_nil, Bool.or_false]
    have a1 : (s[i + d] == (13 : UInt8)) = false := beq_eq_false_iff_ne.2 (fun hc => by rw [hc] at h3; revert h3; decide)
    have a2 : (s[i + d] == (10 : UInt8)) = false := beq_eq_false_iff_ne.2 (fun hc => by rw [hc] at h3; revert h3; decide)
    rw [a1, a2]; rfl
theorem iter_new (w : World) (s : ByteArray) : (w.iter s 0).heap[w.heap.size]? = some (.stringIter s 0) := World.iter_heap w s 0

set_option maxRecDepth 100000 in
set_option maxHeartbeats 4000000 in
theorem any_short (s : ByteArray) (h8 : s.size ≤ 8) (w : World) : Calls Try.prog 27 #[.string s, .string crlf] w fun e w' => e = .returned (.int .i64 (Lib.indexAny s.data.toList [13, 10])) ∧ Below w.heap.size w w' := by
  have h8z : decide ((8 : Int) < (s.size : Int)) = false := decide_eq_false (by omega)
  have hq : (crlf.size : Int) = 2 := rfl
  have hq1 : ((crlf.size : Int) == 1) = false := rfl
  have hemp : (crlf == ByteArray.empty) = false := by decide
  go_enter Try.func27, Try.ntmps27
  go_wp2_with fail
  refine (Try.strings_shouldUseASCIISet _ _).mono ?_
  rintro e w' ⟨rfl, rfl⟩
  rw [h8z]
  go_wp2_with fail
  go_loopg [9, 10] s.size (fun g _ _ wx => ∃ i : Nat, i + g = s.size ∧ wx.heap[w'.heap.size]? = some (.stringIter s i) ∧ Below w'.heap.size w' wx ∧ Lib.NoAny s.data.toList [13, 10] i)
  case atStart => exact ⟨0, by omega, iter_new w' s, (Below.refl _ w').alloc (Nat.le_refl _) _, Lib.NoAny.zero _ _⟩
  case round =>
    obtain ⟨i, hig, hb, bx, hno⟩ := hrel
    have HN := Lib.hid hno
    clear hno
    rename World => wx
    cases gk with
    | zero =>
      obtain rfl : i = s.size := by omega
      have hnx := fun ty => next_end (P := Try.prog) wx _ s s.size ty hb (Nat.lt_irrefl _)
      go_wp2_with fail
      go_ret
      exact ⟨by rw [Lib.indexAny_none (by rw [← Lib.size_eq]; exact HN.out)]; rfl, bx⟩
    | succ g =>
      have hi : i < s.size := by omega
      have hnx := fun ty => next_at (P := Try.prog) wx _ s i ty hb hi
      have hb2 := iter_at (o := .stringIter s (i + (Utf8.decode s i).2)) hb
      have bx2 := below_iter (o := .stringIter s (i + (Utf8.decode s i).2)) bx (Nat.le_refl _)
      generalize ({ wx with heap := wx.heap.setIfInBounds w'.heap.size (.stringIter s (i + (Utf8.decode s i).2)) } : World) = w2 at *
      by_cases hx : (s[i]'hi).toNat < 128
      · have hdec := decode_ascii s i hi hx
        rw [hdec] at hnx hb2
        simp only at hnx hb2
        have hxl : s.data.toList[i]? = some (s[i]'hi) := Lib.data_getElem? s i hi
        generalize s[i]'hi = x at *
        have hcon := Lib.contains_iff_indexByte [13, 10] x
        have hback : ((x.toNat : Int)).toNat.toUInt8 = x := by simp
        have Hx := Lib.hid hxl
        clear hxl hdec
        cases hin : ([13, 10] : List UInt8).contains x with
        | false =>
          have HN2 := Lib.hid (HN.out.succ Hx.out hin)
          rw [hin] at hcon
          have hlt : Lib.indexByte [13, 10] x < 0 := by have := of_decide_eq_false hcon.symm; omega
          clear hcon hin
          go_wp2_with fail
          refine (Try.strings_IndexRune_ascii crlf _ w2 (by omega) (by omega)).mono ?_
          rintro e w3 ⟨rfl, rfl⟩
          rw [hback]
          go_wp2_with fail
          go_roundg g
          case measure => omega
          case rel => exact ⟨i + 1, by omega, hb2, bx2, HN2.out⟩
        | true =>
          have HN2 := Lib.hid (Lib.indexAny_hit HN.out Hx.out hin)
          rw [hin] at hcon
          have hlt : 0 ≤ Lib.indexByte [13, 10] x := of_decide_eq_true hcon.symm
          clear hcon hin
          go_wp2_with fail
          refine (Try.strings_IndexRune_ascii crlf _ w2 (by omega) (by omega)).mono ?_
          rintro e w3 ⟨rfl, rfl⟩
          rw [hback]
          go_wp2_with fail
          go_ret
          exact ⟨by rw [HN2.out]; rfl, bx2⟩
      · have hw := decode_wide s i hi (by rw [show s.get! i = s[i]'hi by simpa using get_at s i hi]; omega)
        have HN2 := Lib.hid (noany_wide HN.out hw.2.2)
        have hr128 : (128 : Int) ≤ ((Utf8.decode s i).1 : Int) := by have := hw.1; omega
        have hdl : 1 ≤ (Utf8.decode s i).2 := hw.2.1
        have hle : i + (Utf8.decode s i).2 ≤ s.size := by
          have := hw.2.2 ((Utf8.decode s i).2 - 1) (by omega)
          omega
        clear hx hw
        generalize (Utf8.decode s i).1 = r at *
        generalize (Utf8.decode s i).2 = d at *
        go_wp2_with fail
        refine (rune_far (r : Int) hr128 w2).mono ?_
        rintro e w3 ⟨rfl, b3⟩
        have hb3 : w3.heap[w'.heap.size]? = some (.stringIter s (i + d)) := (b3.block _ (Array.getElem?_eq_some_iff.1 hb2).1).trans hb2
        have bx3 := bx2.trans (b3.mono bx2.size)
        clear b3 hnx hb2 bx2
        go_wp2_with fail
        go_roundg (s.size - (i + d))
        case measure => omega
        case rel => exact ⟨i + d, by omega, hb3, bx3, HN2.out⟩

theorem zero66 : ∀ w, (zeroValue 66).run Try.prog w = .ok (.agg (Array.replicate 256 (.bool false))) w := (zero_of_info (P := Try.prog) (t := 66) (n := 256) (by kernel_rfl)).1
theorem any_any (s : ByteArray) (hs : s.size < 4294967281) (w : World) : Calls Try.prog 27 #[.string s, .string crlf] w fun e w' => e = .returned (.int .i64 (Lib.indexAny s.data.toList [13, 10])) ∧ Below w.heap.size w w' := by
  by_cases h8 : s.size ≤ 8
  · exact any_short s h8 w
  · refine (Try.strings_IndexAny_long zero66 s crlf w (by decide) (by omega) hs (by decide) (fun j b hb => ?_)).mono ?_
    · have hl : j < 2 := by
        rcases Nat.lt_or_ge j 2 with h | h
        · exact h
        · rw [List.getElem?_eq_none h] at hb; cases hb
      rcases (by omega : j = 0 ∨ j = 1) with rfl | rfl
      · cases hb; decide
      · cases hb; decide
    · rintro e w' ⟨rfl, rfl⟩
      exact ⟨rfl, ((Below.refl _ w).alloc (Nat.le_refl _) _).alloc (by simp) _⟩
set_option maxRecDepth 100000 in
theorem contains_any (s : ByteArray) (hs : s.size < 4294967281) (w : World) : Calls Try.prog 25 #[.string s, .string crlf] w fun e w' => e = .returned (.bool (bareL s.data.toList)) ∧ Below w.heap.size w w' := by
  go_enter Try.func25, Try.ntmps25
  go_wp2_with fail
  refine (any_any s hs w).mono ?_
  rintro e w' ⟨rfl, b⟩
  go_wp2_with fail
  go_ret
  refine ⟨?_, b⟩
  rw [← bare_of]
  rfl
end Go.Proofs.Ytjlpmfokekflbaa
