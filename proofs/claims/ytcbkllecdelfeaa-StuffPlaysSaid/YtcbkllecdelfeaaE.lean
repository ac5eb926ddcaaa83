/- What New, Clone and the readers of a taker come to. -/
import Derived.Test.YtcbkllecdelfeaaA
import Derived.Test.YtcbkllecdelfeaaB
import Derived.Test.YtcbkllecdelfeaaC
import Derived.StillTailTactics
namespace Go.Proofs.Ytcbkllecdelfeaa
open Go.RowKit
set_option linter.unusedVariables false

set_option maxHeartbeats 400000 in
theorem new_any (a b : Int) (w : World) : Calls Try.prog 15 #[.int .i64 a, .int .i64 b] w fun e w' => e = .returned (.pointer (some ⟨w.heap.size, 0, none⟩)) ∧ w.alloc (.cells #[.slice none 0 0, .int .i64 (max 0 a), .int .i64 (max 0 b), .int .i64 0, .bool false] 48) = w' := by
  go_enter Try.func15, Try.ntmps15
  go_wp2
  all_goals
    go_ret
    refine ⟨rfl, ?_⟩
    first | rw [Int.max_eq_left (by omega : a ≤ 0)] | rw [Int.max_eq_right (by omega : 0 ≤ a)]
    first | rw [Int.max_eq_left (by omega : b ≤ 0)] | rw [Int.max_eq_right (by omega : 0 ≤ b)]

set_option maxHeartbeats 400000 in
theorem rnew_any (a b : Int) (w : World) : Calls Try.prog 16 #[.int .i64 a, .int .i64 b] w fun e w' => e = .returned (.pointer (some ⟨w.heap.size, 0, none⟩)) ∧ w.alloc (.cells #[.slice none 0 0, .int .i64 0, .int .i64 (max 0 a), .int .i64 (max 0 b), .bool false] 36) = w' := by
  go_enter Try.func16, Try.ntmps16
  go_wp2
  all_goals
    go_ret
    refine ⟨rfl, ?_⟩
    first | rw [Int.max_eq_left (by omega : a ≤ 0)] | rw [Int.max_eq_right (by omega : 0 ≤ a)]
    first | rw [Int.max_eq_left (by omega : b ≤ 0)] | rw [Int.max_eq_right (by omega : 0 ≤ b)]

set_option maxHeartbeats 400000 in
theorem clone_own (v : Value) (ss : List ByteArray) (base : Nat) (w : World) (hown : w.ownsRow base 9 1 v ss.length (ss.map .string)) (hn : ss.length ≤ 1000) :
    Calls Try.prog 25 #[v] w fun e w' => ∃ v', e = .returned v' ∧ w'.ownsRow w.heap.size 9 1 v' ss.length (ss.map .string) ∧ Below w.heap.size w w' := by
  obtain ⟨i0, hi, hz0, hz1, hz2⟩ := info_parts info9
  rcases hown.2 with ⟨rfl, h0⟩ | ⟨g, cap, cur, rfl, hb, hg, hnc, hcm, hcs, htake⟩
  · have hs : ss = [] := List.eq_nil_of_length_eq_zero h0
    subst hs
    have hq := fun w => Lib.run_eql_slice_nil (P := Try.prog) w 22 9 none 0 0 0 0 Try.underlying22
    go_enter Try.func25, Try.ntmps25
    go_wp2
    all_goals go_ret
    exact ⟨_, rfl, World.ownsRow_nil _ _ _ _, Below.refl _ _⟩
  · have hq := fun w => Lib.run_eql_slice_nil (P := Try.prog) w 22 9 (some ⟨g, 0, none⟩) ss.length cap 0 0 Try.underlying22
    have hnew : (w.alloc (.cells #[] 9)).ownsRow w.heap.size 9 1 (.slice (some ⟨w.heap.size, 0, none⟩) 0 0) 0 [] := World.ownsRow_made w #[] 0 (Nat.le_refl _) (by decide) rfl
    have hcl := (hown.alloc (.cells #[] 9)).cells (g := g) rfl
    have Hcl := Lib.hid hcl; clear hcl
    clear htake hcs hg hown
    go_enter Try.func25, Try.ntmps25
    go_wp2_with (at_builtin; go_loud (refine wpList_append_own _ rfl (.tmp 5) (.tmp 6) 22 rfl w.heap.size 9 i0 (.string ⟨#[]⟩) 1 16 Try.underlying22 hi hz0 hz1 hz2 rfl (by decide) _ 0 [] rfl hnew ⟨g, 0, none⟩ ss.length cap (ss.map .string) rfl (by simp) Hcl.out (by simp [Value.oneCell']) (by unfold maxLen; omega) (by omega) (by simp) ?_); intro v' w1 hown1 hgrow _)
    go_ret
    exact ⟨_, rfl, by simpa using hown1, ((Below.refl w.heap.size w).alloc (Nat.le_refl _) _).grown hgrow (by simp) (fun k hk => (hnew.lt k hk).1)⟩
end Go.Proofs.Ytcbkllecdelfeaa
