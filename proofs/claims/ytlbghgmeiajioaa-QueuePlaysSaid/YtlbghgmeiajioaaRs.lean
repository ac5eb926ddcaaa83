/- What the reference's Rows comes to: are two rows of lines one? -/
import Derived.Test.YtlbghgmeiajioaaProg
import Derived.Test.YtlbghgmeiajioaaK
import Derived.WalkLawsBesides
import Derived.WalkSpells
import Derived.Lib.Hide
import Derived.Deep.QuietTactic
import Derived.BigQuiet
namespace Go.Proofs.Ytlbghgmeiajioaa
open Go.RowKit
set_option linter.unusedVariables false

/-- Are two rows of strings one? -/
def rowsB (xs ys : List ByteArray) : Bool := xs.map ByteArray.toList == ys.map ByteArray.toList
theorem rows_refl (xs : List ByteArray) : rowsB xs xs = true := by simp [rowsB]
theorem rows_len {xs ys : List ByteArray} (h : xs.length ≠ ys.length) : rowsB xs ys = false := by
  unfold rowsB
  rw [beq_eq_false_iff_ne]
  intro e
  have := congrArg List.length e
  simp at this
  exact h this
theorem rows_at {xs ys : List ByteArray} {k : Nat} (hx : k < xs.length) (hy : k < ys.length) (h : (xs[k].toList == ys[k].toList) = false) : rowsB xs ys = false := by
  unfold rowsB
  rw [beq_eq_false_iff_ne] at *
  intro e
  have : (xs.map ByteArray.toList)[k]? = (ys.map ByteArray.toList)[k]? := by rw [e]
  simp [List.getElem?_map, List.getElem?_eq_getElem hx, List.getElem?_eq_getElem hy] at this
  exact h this
theorem rows_all {xs ys : List ByteArray} (hl : xs.length = ys.length) (h : ∀ k (hx : k < xs.length) (hy : k < ys.length), (xs[k].toList == ys[k].toList) = true) : rowsB xs ys = true := by
  unfold rowsB
  rw [beq_iff_eq]
  apply List.ext_getElem (by simpa using hl)
  intro i h1 h2
  simp at h1 h2
  simpa using h i h1 h2

set_option maxHeartbeats 800000 in
theorem same_any (A A' : Option Addr) (c c' : Nat) (xs ys : List ByteArray) (w : World) (hx : Rd w w.heap.size A (xs.map .string)) (hy : Rd w w.heap.size A' (ys.map .string)) (hn : xs.length ≤ 140737488351232) (hn' : ys.length ≤ 140737488351232) :
    Calls Try.prog 33 #[.agg #[.int .i64 0, .slice A xs.length c], .agg #[.int .i64 0, .slice A' ys.length c']] w fun e w' => e = .returned (.bool (rowsB xs ys)) ∧ Below w.heap.size w w' := by
  have hB : Below w.heap.size w ((w.alloc (.cells #[.int .i64 0, .slice A xs.length c] 71)).alloc (.cells #[.int .i64 0, .slice A' ys.length c'] 71)) := ((Below.refl _ w).alloc (Nat.le_refl _) _).alloc (by simp) _
  have hx2 := hx.below hB
  have hy2 := hy.below hB
  by_cases hl : xs.length = ys.length
  · have HL := Lib.hid hl
    go_enter Try.func33, Try.ntmps33
    have hne : ((xs.length : Int) != (ys.length : Int)) = false := by rw [hl]; simp
    clear hl
    go_wp2
    go_loopw [5] (fun i wr => ∃ k n : Nat, k ≤ xs.length ∧ i = .int .i64 k ∧ (∀ j (hj : j < xs.length) (hj' : j < ys.length), j < k → (xs[j].toList == ys[j].toList) = true) ∧ wr = (((w.alloc (.cells #[.int .i64 0, .slice A xs.length c] 71)).alloc (.cells #[.int .i64 0, .slice A' ys.length c'] 71))).drewN n) (fun i _ => xs.length - (intOf i).toNat)
    case atStart => exact ⟨0, 0, Nat.zero_le _, rfl, fun j hj hj' h => by omega, rfl⟩
    case round =>
      obtain ⟨k, n, hk, rfl, hall, rfl⟩ := hrel
      have Hall := Lib.hid hall; clear hall
      by_cases hlt : k < xs.length
      · have hlt' : k < ys.length := by have := HL.out; omega
        obtain ⟨b, o, rfl, hb, hc⟩ := hx2.at_ (k := k) (by simpa using hlt)
        obtain ⟨b', o', rfl, hb', hc'⟩ := hy2.at_ (k := k) (by simpa using hlt')
        simp only [List.getElem_map] at hc hc'
        go_wp2
        go_quiet (fail)
        go_wp2
        · go_ret
          exact ⟨ret_b (rows_at hlt hlt' (by simpa using ‹(!xs[k].toList == ys[k].toList) = true›)).symm, below_drewN (below_drewN hB _) _⟩
        · have hq : (xs[k].toList == ys[k].toList) = true := by simpa using ‹(!xs[k].toList == ys[k].toList) = false›
          refine ⟨⟨k + 1, n + nq, by omega, by go_num, fun j hj hj' h => ?_, rfl⟩, by simp [intOf]; omega⟩
          rcases Nat.lt_or_ge j k with h1 | h1
          · exact Hall.out j hj hj' h1
          · obtain rfl : j = k := by omega
            exact hq
      · go_wp2
        go_ret
        exact ⟨ret_b (rows_all HL.out (fun j hj hj' => Hall.out j hj hj' (by omega))).symm, below_drewN hB _⟩
  · have hne : ((xs.length : Int) != (ys.length : Int)) = true := by rw [bne_iff_ne]; omega
    go_enter Try.func33, Try.ntmps33
    go_wp2
    go_ret
    exact ⟨ret_b (rows_len hl).symm, hB⟩

set_option maxHeartbeats 400000 in
theorem rows_any (A A' : Option Addr) (c c' : Nat) (xs ys : List ByteArray) (w : World) (hx : Rd w w.heap.size A (xs.map .string)) (hy : Rd w w.heap.size A' (ys.map .string)) (hn : xs.length ≤ 140737488351232) (hn' : ys.length ≤ 140737488351232) :
    Calls Try.prog 14 #[.slice A xs.length c, .slice A' ys.length c'] w fun e w' => e = .returned (.bool (rowsB xs ys)) ∧ Below w.heap.size w w' := by
  go_enter Try.func14, Try.ntmps14
  go_wp2_with fail
  refine (same_any A A' c c' xs ys w hx hy hn hn').mono ?_
  rintro e w' ⟨rfl, hb⟩
  go_wp2
  go_ret
  exact ⟨rfl, hb⟩
end Go.Proofs.Ytlbghgmeiajioaa
