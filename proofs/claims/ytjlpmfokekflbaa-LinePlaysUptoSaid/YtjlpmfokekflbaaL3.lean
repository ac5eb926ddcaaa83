/- The law LinePrints, walked. -/
import Derived.Test.YtjlpmfokekflbaaT
import Derived.Test.YtjlpmfokekflbaaQ
namespace Go.Proofs.Ytjlpmfokekflbaa
open Go.RowKit
set_option linter.unusedVariables false
set_option linter.unusedSimpArgs false

theorem size_tot (l : List ByteArray) : sizeL l ≤ 2 * totL l := by
  unfold sizeL printL totL
  induction l with
  | nil => simp
  | cons s l ih =>
    simp only [List.flatMap_cons, List.length_append, List.length_cons, List.length_nil, List.map_cons, List.sum_cons, ← Lib.size_eq]
    omega
set_option maxRecDepth 100000 in
set_option maxHeartbeats 4000000 in
theorem prints_walk (A : Option Addr) (c : Nat) (l : List ByteArray) (w : World) (hl : Rd w w.heap.size A (l.map .string)) (ht : totL l ≤ 1048576) :
    Calls Try.prog 4 #[.slice A l.length c] w fun e w' => e = .returned (.bool true) ∧ Below w.heap.size w w' := by
  have Hl := Lib.hid hl
  have hsz : sizeL l ≤ 4000000 := by have := size_tot l; omega
  clear hl
  go_enter Try.func4, Try.ntmps4
  go_wp2_with fail
  refine (small_any w).mono ?_
  rintro e w1 ⟨rfl, b1⟩
  go_wp2_with fail
  refine (short_any A c l 5000 w1 ((Hl.out.below b1).more b1.size) (by omega)).mono ?_
  rintro e w' ⟨rfl, rfl⟩
  cases hd : decide ((totL l : Int) ≤ 5000) with
  | false =>
    go_wp2_with fail
    go_ret
    exact ⟨rfl, b1⟩
  | true =>
    go_wp2_with fail
    refine (print_any A c l w1 ((Hl.out.below b1).more b1.size) hsz).mono ?_
    rintro e w2 ⟨rfl, b2⟩
    have B2 := Lib.hid (b1.trans (b2.mono b1.size))
    clear b1 b2
    go_wp2_with fail
    refine (rprint_any A c l w2 ((Hl.out.below B2.out).more B2.out.size) hsz).mono ?_
    rintro e w3 ⟨rfl, b3⟩
    have B3 := Lib.hid (B2.out.trans (b3.mono B2.out.size))
    clear b3
    go_wp2_with fail
    go_ret
    exact ⟨rfl, B3.out⟩
end Go.Proofs.Ytjlpmfokekflbaa
