/- The law StuffTells, walked. -/
import Derived.Test.YtcbkllecdelfeaaH
namespace Go.Proofs.Ytcbkllecdelfeaa
open Go.RowKit
set_option linter.unusedVariables false

theorem few_sizes {ss : List ByteArray} (h : fewB ss = true) : ss.length ≤ 100 ∧ ∀ s ∈ ss, s.size ≤ 1200 := by
  unfold fewB at h
  simp at h
  exact ⟨h.2, h.1⟩
theorem rd_next {w w' : World} {A : Option Addr} {xs : List Value} (h : Rd w w.heap.size A xs) (hb : Below w.heap.size w w') : Rd w' w'.heap.size A xs := (h.below hb).more hb.size

set_option maxHeartbeats 1000000 in
theorem tells_walk (A : Option Addr) (c : Nat) (ss : List ByteArray) (s : ByteArray) (w : World) (hr : Rd w w.heap.size A (ss.map .string)) (hn : ss.length ≤ 9223372036854775807) (hs : s.size ≤ maxLen) :
    Calls Try.prog 3 #[.slice A ss.length c, .string s] w fun e w' => e = .returned (.bool true) ∧ Below w.heap.size w w' := by
  go_enter Try.func3, Try.ntmps3
  go_wp2_with fail
  refine (small_any w).mono ?_
  rintro e w1 ⟨rfl, b1⟩
  have hr1 := rd_next hr b1
  go_wp2_with fail
  refine (few_any A c ss w1 _ hr1 hn).mono ?_
  rintro e w' ⟨rfl, rfl⟩
  go_wp2_with fail
  refine (in_any s w1 hs).mono ?_
  rintro e w' ⟨rfl, rfl⟩
  go_wp2_with fail
  refine (rin_any s w1 hs).mono ?_
  rintro e w' ⟨rfl, rfl⟩
  have hq1 : ((inS s).toList == (inS s).toList) = true := by simp
  cases hf : fewB ss with
  | false =>
    go_wp2_with fail
    go_ret
    exact ⟨rfl, b1⟩
  | true =>
    obtain ⟨hl, hz⟩ := few_sizes hf
    have Hf := Lib.hid hf
    have Hz := Lib.hid hz
    clear hf hz
    go_wp2_with fail
    refine (out_any A c ss w1 hr1 (by omega) (fun x hx => by have := Hz.out x hx; omega)).mono ?_
    rintro e w2 ⟨v, rfl, hv, b2⟩
    have hr2 := rd_next hr1 b2
    obtain ⟨A2, c2, rfl⟩ := own_form hv
    go_wp2_with fail
    refine (rout_any A c ss w2 hr2 (by omega) (fun x hx => by have := Hz.out x hx; omega)).mono ?_
    rintro e w3 ⟨v, rfl, hv3, b3⟩
    obtain ⟨A3, c3, rfl⟩ := own_form hv3
    go_wp2_with fail
    have hro := rows_any A2 A3 c2 c3 (outL ss) (outL ss) w3 (rd_next (own_rd hv) b3) (own_rd hv3) (by rw [outL_len]; omega) (by rw [outL_len]; omega)
    rw [rows_refl, outL_len] at hro
    refine hro.mono ?_
    rintro e w4 ⟨rfl, b4⟩
    go_wp2_with fail
    go_ret
    exact ⟨rfl, b1.trans ((b2.mono b1.size).trans ((b3.mono (Nat.le_trans b1.size b2.size)).trans (b4.mono (Nat.le_trans b1.size (Nat.le_trans b2.size b3.size)))))⟩
end Go.Proofs.Ytcbkllecdelfeaa
