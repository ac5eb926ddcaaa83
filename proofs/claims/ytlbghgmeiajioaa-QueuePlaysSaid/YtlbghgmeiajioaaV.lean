/- What New, the clones and Item come to. -/
import Derived.Test.YtlbghgmeiajioaaU
namespace Go.Proofs.Ytlbghgmeiajioaa
open Go.RowKit
set_option linter.unusedVariables false

theorem info9 : (Try.prog.info? 9).map (fun i => (i.zero, i.size, i.bytes)) = some (some (.string ⟨#[]⟩), 1, 16) := by kernel_rfl
def zeroRc : Value := .agg #[.bool false, .string ⟨#[]⟩, .string ⟨#[]⟩, .int .i64 0, .int .i64 0, .int .i64 0, .int .i64 0]
theorem info60 : (Try.prog.info? 60).map (fun i => (i.zero, i.size, i.bytes)) = some (some zeroRc, 7, 72) := by kernel_rfl
def zeroIt : Value := .agg #[.int .i64 0, .bool false, .string ⟨#[]⟩, .string ⟨#[]⟩, .slice none 0 0, .slice none 0 0, .bool false, .bool false, .bool false, .int .i64 0, .int .i64 0, .int .i64 0]
theorem info51 : (Try.prog.info? 51).map (fun i => (i.zero, i.size, i.bytes)) = some (some zeroIt, 12, 128) := by kernel_rfl

theorem rc_one (l : List Rc) : ∀ u ∈ l.flatMap Rc.cells, u.oneCell' = true := by
  intro u hu
  obtain ⟨r, _, hr⟩ := List.mem_flatMap.1 hu
  simp [Rc.cells] at hr
  rcases hr with rfl | rfl | rfl | rfl | rfl | rfl | rfl <;> rfl
theorem str_one (l : List ByteArray) : ∀ u ∈ l.map Value.string, u.oneCell' = true := by
  intro u hu
  obtain ⟨r, _, rfl⟩ := List.mem_map.1 hu
  rfl

set_option maxHeartbeats 400000 in
theorem clone_str (v : Value) (ss : List ByteArray) (base : Nat) (w : World) (hown : w.ownsRow base 9 1 v ss.length (ss.map .string)) (hn : ss.length ≤ 100000) :
    Calls Try.prog 31 #[v] w fun e w' => ∃ v', e = .returned v' ∧ w'.ownsRow w.heap.size 9 1 v' ss.length (ss.map .string) ∧ Below w.heap.size w w' := by
  obtain ⟨i0, hi, hz0, hz1, hz2⟩ := info_parts info9
  rcases hown.2 with ⟨rfl, h0⟩ | ⟨g, cap, cur, rfl, hb, hg, hnc, hcm, hcs, htake⟩
  · have hs : ss = [] := List.eq_nil_of_length_eq_zero h0
    subst hs
    have hq := fun w => Lib.run_eql_slice_nil (P := Try.prog) w 34 9 none 0 0 0 0 Try.underlying34
    go_enter Try.func31, Try.ntmps31
    go_wp2
    all_goals go_ret
    exact ⟨_, rfl, World.ownsRow_nil _ _ _ _, Below.refl _ _⟩
  · have hq := fun w => Lib.run_eql_slice_nil (P := Try.prog) w 34 9 (some ⟨g, 0, none⟩) ss.length cap 0 0 Try.underlying34
    have hnew : (w.alloc (.cells #[] 9)).ownsRow w.heap.size 9 1 (.slice (some ⟨w.heap.size, 0, none⟩) 0 0) 0 [] := World.ownsRow_made w #[] 0 (Nat.le_refl _) (by decide) rfl
    have hcl := (hown.alloc (.cells #[] 9)).cells (g := g) rfl
    have Hcl := Lib.hid hcl; clear hcl
    clear htake hcs hg hown
    go_enter Try.func31, Try.ntmps31
    go_wp2_with (at_builtin; refine wpList_append_own _ rfl (.tmp 5) (.tmp 6) 34 rfl w.heap.size 9 i0 (.string ⟨#[]⟩) 1 16 Try.underlying34 hi hz0 hz1 hz2 rfl (by decide) _ 0 [] rfl hnew ⟨g, 0, none⟩ ss.length cap (ss.map .string) rfl (by simp) Hcl.out (str_one ss) (by unfold maxLen; omega) (by omega) (by simp) ?_; intro v' w1 hown1 hgrow _)
    go_ret
    exact ⟨_, rfl, by simpa using hown1, ((Below.refl w.heap.size w).alloc (Nat.le_refl _) _).grown hgrow (by simp) (fun k hk => (hnew.lt k hk).1)⟩

set_option maxHeartbeats 400000 in
theorem clone_rc (v : Value) (l : List Rc) (base : Nat) (w : World) (hown : w.ownsRow base 60 7 v l.length (l.flatMap Rc.cells)) (hn : l.length ≤ 100000) :
    Calls Try.prog 37 #[v] w fun e w' => ∃ v', e = .returned v' ∧ w'.ownsRow w.heap.size 60 7 v' l.length (l.flatMap Rc.cells) ∧ Below w.heap.size w w' := by
  obtain ⟨i0, hi, hz0, hz1, hz2⟩ := info_parts info60
  rcases hown.2 with ⟨rfl, h0⟩ | ⟨g, cap, cur, rfl, hb, hg, hnc, hcm, hcs, htake⟩
  · have hs : l = [] := List.eq_nil_of_length_eq_zero h0
    subst hs
    have hq := fun w => Lib.run_eql_slice_nil (P := Try.prog) w 49 60 none 0 0 0 0 Try.underlying49
    go_enter Try.func37, Try.ntmps37
    go_wp2
    all_goals go_ret
    exact ⟨_, rfl, World.ownsRow_nil _ _ _ _, Below.refl _ _⟩
  · have hq := fun w => Lib.run_eql_slice_nil (P := Try.prog) w 49 60 (some ⟨g, 0, none⟩) l.length cap 0 0 Try.underlying49
    have hnew : (w.alloc (.cells #[] 60)).ownsRow w.heap.size 60 7 (.slice (some ⟨w.heap.size, 0, none⟩) 0 0) 0 [] := World.ownsRow_made w #[] 0 (Nat.le_refl _) (by decide) rfl
    have hcl := (hown.alloc (.cells #[] 60)).cells (g := g) rfl
    have Hcl := Lib.hid hcl; clear hcl
    clear htake hcs hg hown
    go_enter Try.func37, Try.ntmps37
    go_wp2_with (at_builtin; refine wpList_append_own _ rfl (.tmp 5) (.tmp 6) 49 rfl w.heap.size 60 i0 zeroRc 7 72 Try.underlying49 hi hz0 hz1 hz2 rfl (by decide) _ 0 [] rfl hnew ⟨g, 0, none⟩ l.length cap (l.flatMap Rc.cells) rfl (flat_len Rc.len l) Hcl.out (rc_one l) (by unfold maxLen; omega) (by omega) (by simp) ?_; intro v' w1 hown1 hgrow _)
    go_ret
    exact ⟨_, rfl, by simpa using hown1, ((Below.refl w.heap.size w).alloc (Nat.le_refl _) _).grown hgrow (by simp) (fun k hk => (hnew.lt k hk).1)⟩

theorem new_eq {w : World} {a b c x y z : Int} (hx : max 0 (min a 64) = x) (hy : max 1 (min b 16) = y) (hz : max 1 (min c 1000) = z) :
    w.alloc (.cells #[.slice none 0 0, .int .i64 (max 0 (min a 64)), .int .i64 (max 1 (min b 16)), .int .i64 (max 1 (min c 1000))] 66) = w.alloc (.cells #[.slice none 0 0, .int .i64 x, .int .i64 y, .int .i64 z] 66) := by rw [hx, hy, hz]
set_option maxHeartbeats 1600000 in
theorem new_any (a b c : Int) (w : World) : Calls Try.prog 10 #[.int .i64 a, .int .i64 b, .int .i64 c] w fun e w' => e = .returned (.pointer (some ⟨w.heap.size, 0, none⟩)) ∧ w.alloc (.cells #[.slice none 0 0, .int .i64 (max 0 (min a 64)), .int .i64 (max 1 (min b 16)), .int .i64 (max 1 (min c 1000))] 66) = w' := by
  go_enter Try.func10, Try.ntmps10
  go_wp2
  all_goals
    go_ret
    exact ⟨rfl, new_eq (by omega) (by omega) (by omega)⟩
end Go.Proofs.Ytlbghgmeiajioaa
