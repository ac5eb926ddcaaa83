/- strings.IndexRune in the two bytes of a line's end: a rune of 128 or more. -/
import Derived.Test.YtjlpmfokekflbaaA
import Derived.WalkMore
import Derived.Deep.QuietTactic
import Derived.BigQuiet
namespace Go.Proofs.Ytjlpmfokekflbaa
open Go.RowKit
set_option linter.unusedVariables false

/-- The two bytes of a line's end. -/
abbrev crlf : ByteArray := ⟨#[13, 10]⟩
theorem index_end (c : Int) (w : World) : Calls Try.prog 33 #[.string ByteArray.empty, .int .u8 c] w fun e w' => e = .returned (.int .i64 (-1)) ∧ w' = w := by
  have h := Try.strings_IndexByte ByteArray.empty c w
  exact h
set_option maxRecDepth 100000 in
set_option maxHeartbeats 4000000 in
/-- A rune that is none of the two is in none of them. -/
theorem rune_far (r : Int) (h0 : 128 ≤ r) (w : World) : Calls Try.prog 29 #[.string crlf, .int .i32 r] w fun e w' => e = .returned (.int .i64 (-1)) ∧ Below w.heap.size w w' := by
  obtain ⟨e1, e2, e3⟩ := encode_far r h0
  have d1 : decide ((0 : Int) ≤ r) = true := decide_eq_true (by omega)
  have d2 : decide (r < (128 : Int)) = false := decide_eq_false (by omega)
  go_enter Try.func29, Try.ntmps29
  by_cases hR : r = 65533
  · subst hR
    go_wp2_with fail
    go_loopg [5, 6] 2 (fun g _ _ wx => ∃ i : Nat, i + g = 2 ∧ wx = w.iter crlf i)
    case atStart => exact ⟨0, rfl, rfl⟩
    case round =>
      obtain ⟨i, hig, rfl⟩ := hrel
      cases gk with
      | zero =>
        obtain rfl : i = 2 := by omega
        have hnx := run_next_end (P := Try.prog) w crlf 2
        have hnx' := fun ty => hnx ty (by decide)
        clear hnx
        go_wp2_with fail
        go_ret
        exact ⟨rfl, (Below.refl _ w).alloc (Nat.le_refl _) _⟩
      | succ g =>
        have hi : i < crlf.size := by show i < 2; omega
        have hx : (crlf[i]'hi).toNat < 128 := by
          rcases (by omega : i = 0 ∨ i = 1) with h | h
          · subst h; show (13 : UInt8).toNat < 128; decide
          · subst h; show (10 : UInt8).toNat < 128; decide
        have hnx := fun ty => run_next_ascii (P := Try.prog) w crlf i ty hi hx
        have hne : (((crlf[i]'hi).toNat : Int) == (65533 : Int)) = false := beq_eq_false_iff_ne.2 (by omega)
        go_wp2_with fail
        go_roundg g
        case measure => omega
        case rel => exact ⟨i + 1, by omega, rfl⟩
  · have d3 : (r == (65533 : Int)) = false := beq_eq_false_iff_ne.2 hR
    go_wp2_with fail
    refine (Try.utf8_ValidRune r w).mono ?_
    rintro e w' ⟨rfl, rfl⟩
    cases hv : Lib.validRune r with
    | false =>
      go_wp2_with fail
      go_ret
      exact ⟨rfl, Below.refl _ _⟩
    | true =>
      obtain ⟨E, hE⟩ : ∃ E, Utf8.encode r = E := ⟨_, rfl⟩
      rw [hE] at e1 e2 e3
      have z1 : (1 : Int) ≤ E.size := by omega
      go_wp2_with fail
      go_step3
      go_wp2_with fail
      go_loopw [9] (fun i wx => i = .int .i64 ((E.size : Int) - 1) ∧ wx = w') (fun i _ => 0)
      case atStart => exact ⟨rfl, rfl⟩
      case round =>
        obtain ⟨rfl, rfl⟩ := hrel
        have hq : (crlf.size : Int) = 2 := rfl
        by_cases h2 : E.size = 2
        · have f1 := e3 1 (by omega) (by omega)
          have E2 : (E.size : Int) - 1 = 1 := by omega
          have c1 : (crlf[1]'(by decide)).toNat = 10 := rfl
          have E3 : (((crlf[1]'(by decide)).toNat : Int) != ((E[1]'(by omega)).toNat : Int)) = true := bne_iff_ne.2 (by rw [c1]; omega)
          clear c1
          have hlt : (1 : Int) < E.size := by omega
          have hw2 : IntKind.i64.wrap 2 = 2 := by rfl
          have hs2 : (2 : Int) ≤ crlf.size := by rw [hq]; omega
          rw [E2]
          go_wp2_with fail
          go_step3
          go_wp2_with fail
          go_quiet (fail)
          have bq : Below wr.heap.size wr (wr.drewN nq) := below_drewN (Below.refl _ _) _
          generalize wr.drewN nq = wq at *
          go_wp2_with fail
          go_quiet ((go_at_call 33; refine Calls.quiet_of_same (index_end _ _)))
          go_wp2_with fail
          rw [Exit.noGoto_ret]
          go_wp2_with fail
          rw [Exit.noGoto_ret]
          go_ret
          exact ⟨rfl, below_drewN bq _⟩
        · have hnl : ¬ ((E.size : Int) - 1 < 2) := by omega
          go_wp2_with fail
          go_ret
          exact ⟨rfl, Below.refl _ _⟩
end Go.Proofs.Ytjlpmfokekflbaa
