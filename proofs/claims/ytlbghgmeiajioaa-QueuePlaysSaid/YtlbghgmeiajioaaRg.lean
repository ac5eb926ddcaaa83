/- The reference's Same: one item in two places is the same. -/
import Derived.Test.YtlbghgmeiajioaaRf
import Derived.Test.YtlbghgmeiajioaaRs
namespace Go.Proofs.Ytlbghgmeiajioaa
open Go.RowKit
set_option linter.unusedVariables false

theorem rows_refl2 (xs : List ByteArray) : rowsB xs xs = true := by simp [rowsB]
set_option maxRecDepth 100000 in
set_option maxHeartbeats 4000000 in
theorem same_item (w : World) (B1 B2 : Nat) (it : It) (A1 A2 A3 A4 : Option Addr) (c1 c2 c3 c4 : Nat) (h1 : w.ownsRow B1 60 7 (.slice A1 it.to.length c1) it.to.length (it.to.flatMap Rc.cells)) (h2 : w.ownsRow B1 9 1 (.slice A2 it.lines.length c2) it.lines.length (it.lines.map .string))
    (h3 : w.ownsRow B2 60 7 (.slice A3 it.to.length c3) it.to.length (it.to.flatMap Rc.cells)) (h4 : w.ownsRow B2 9 1 (.slice A4 it.lines.length c4) it.lines.length (it.lines.map .string)) (hn : it.to.length ≤ 1000) (hl : it.lines.length ≤ 100000) :
    Calls Try.prog 26 #[.agg (Row.cells ⟨it, .slice A1 it.to.length c1, .slice A2 it.lines.length c2⟩).toArray, .agg (Row.cells ⟨it, .slice A3 it.to.length c3, .slice A4 it.lines.length c4⟩).toArray] w fun e w' => e = .returned (.bool true) ∧ Below w.heap.size w w' := by
  have H1 := Lib.hid h1; have H2 := Lib.hid h2; have H3 := Lib.hid h3; have H4 := Lib.hid h4
  clear h1 h2 h3 h4
  simp only [Row.cells]
  obtain ⟨X, hX⟩ : ∃ X, (#[.int .i64 it.id, .bool it.frm.null, .string it.frm.loc, .string it.frm.dom, .slice A1 it.to.length c1, .slice A2 it.lines.length c2, .bool it.flags.head, .bool it.flags.body, .bool it.flags.bad, .int .i64 it.flags.lines, .int .i64 it.flags.hops, .int .i64 it.bytes] : Array Value) = X := ⟨_, rfl⟩
  obtain ⟨Y, hY⟩ : ∃ Y, (#[.int .i64 it.id, .bool it.frm.null, .string it.frm.loc, .string it.frm.dom, .slice A3 it.to.length c3, .slice A4 it.lines.length c4, .bool it.flags.head, .bool it.flags.body, .bool it.flags.bad, .int .i64 it.flags.lines, .int .i64 it.flags.hops, .int .i64 it.bytes] : Array Value) = Y := ⟨_, rfl⟩
  have kx : Bk ((w.alloc (.cells X 51)).alloc (.cells Y 51)) w.heap.size 51 X := (Bk.new w 51 X).alloc _
  have ky : Bk ((w.alloc (.cells X 51)).alloc (.cells Y 51)) (w.heap.size + 1) 51 Y := by
    have := Bk.new (w.alloc (.cells X 51)) 51 Y
    rwa [World.size_alloc] at this
  have b2 : Below w.heap.size w ((w.alloc (.cells X 51)).alloc (.cells Y 51)) := ((Below.refl _ w).alloc (Nat.le_refl _) _).alloc (by simp) _
  have KX := Lib.hid kx; have KY := Lib.hid ky; have B2' := Lib.hid b2
  rw [← hX, ← hY] at KX KY B2'
  clear kx ky b2
  subst hX hY
  go_enter Try.func26, Try.ntmps26
  go_wp2_with fail
  obtain ⟨W2, hW2⟩ : ∃ W2, (w.alloc (.cells #[.int .i64 it.id, .bool it.frm.null, .string it.frm.loc, .string it.frm.dom, .slice A1 it.to.length c1, .slice A2 it.lines.length c2, .bool it.flags.head, .bool it.flags.body, .bool it.flags.bad, .int .i64 it.flags.lines, .int .i64 it.flags.hops, .int .i64 it.bytes] 51)).alloc (.cells #[.int .i64 it.id, .bool it.frm.null, .string it.frm.loc, .string it.frm.dom, .slice A3 it.to.length c3, .slice A4 it.lines.length c4, .bool it.flags.head, .bool it.flags.body, .bool it.flags.bad, .int .i64 it.flags.lines, .int .i64 it.flags.hops, .int .i64 it.bytes] 51) = W2 := ⟨_, rfl⟩
  rw [hW2] at KX KY B2' ⊢
  clear hW2
  have r2 := (own_rd H2.out).below B2'.out
  have r4 := (own_rd H4.out).below B2'.out
  refine (rows_any A2 A4 c2 c4 it.lines it.lines W2 (r2.more B2'.out.size) (r4.more B2'.out.size) (by omega) (by omega)).mono ?_
  rintro e w8 ⟨rfl, b8⟩
  rw [rows_refl2]
  have kx := KX.out.below b8 KX.out.lt
  have ky := KY.out.below b8 KY.out.lt
  have hB := Lib.hid (B2'.out.trans (b8.mono B2'.out.size))
  have x4 := kx.cell 4
  have y4 := ky.cell 4
  simp at x4 y4
  clear r2 r4 b8 kx ky
  go_wp2_with fail
  go_loopw [5] (fun i wr => ∃ n q : Nat, n ≤ it.to.length ∧ i = .int .i64 n ∧ wr = w8.drewN q) (fun i _ => it.to.length - (intOf i).toNat)
  case atStart => exact ⟨0, 0, by omega, rfl, rfl⟩
  case round =>
    obtain ⟨n, q, hn2, rfl, rfl⟩ := hrel
    by_cases hlt : n < it.to.length
    · have hz : (n : Int) < it.to.length := by omega
      obtain ⟨g1, e1, f1, _, l1⟩ := own_some H1.out (by omega)
      obtain ⟨g3, e3, f3, _, l3⟩ := own_some H3.out (by omega)
      simp only [Value.slice.injEq, true_and] at f1 f3
      obtain ⟨rfl, rfl⟩ := f1
      obtain ⟨rfl, rfl⟩ := f3
      obtain ⟨p0, p1, p2, p3, p4, p5, p6⟩ := rc_cells H1.out hlt
      obtain ⟨q0, q1, q2, q3, q4, q5, q6⟩ := rc_cells H3.out hlt
      replace p0 := (hB.out.cell (p := ⟨g1, n * 7, none⟩) l1).trans p0
      replace p1 := (hB.out.cell (p := ⟨g1, n * 7 + 1, none⟩) l1).trans p1
      replace p2 := (hB.out.cell (p := ⟨g1, n * 7 + 2, none⟩) l1).trans p2
      replace p3 := (hB.out.cell (p := ⟨g1, n * 7 + 3, none⟩) l1).trans p3
      replace p4 := (hB.out.cell (p := ⟨g1, n * 7 + 4, none⟩) l1).trans p4
      replace p5 := (hB.out.cell (p := ⟨g1, n * 7 + 5, none⟩) l1).trans p5
      replace p6 := (hB.out.cell (p := ⟨g1, n * 7 + 6, none⟩) l1).trans p6
      replace q0 := (hB.out.cell (p := ⟨g3, n * 7, none⟩) l3).trans q0
      replace q1 := (hB.out.cell (p := ⟨g3, n * 7 + 1, none⟩) l3).trans q1
      replace q2 := (hB.out.cell (p := ⟨g3, n * 7 + 2, none⟩) l3).trans q2
      replace q3 := (hB.out.cell (p := ⟨g3, n * 7 + 3, none⟩) l3).trans q3
      replace q4 := (hB.out.cell (p := ⟨g3, n * 7 + 4, none⟩) l3).trans q4
      replace q5 := (hB.out.cell (p := ⟨g3, n * 7 + 5, none⟩) l3).trans q5
      replace q6 := (hB.out.cell (p := ⟨g3, n * 7 + 6, none⟩) l3).trans q6
      generalize it.to[n] = r at *
      go_wp2_with fail
      go_quiet (fail)
      go_wp2_with fail
      exact ⟨⟨n + 1, q + nq, by omega, by go_num, by simp⟩, by simp [intOf]; omega⟩
    · obtain rfl : n = it.to.length := by omega
      go_wp2_with fail
      go_ret
      exact ⟨rfl, below_drewN hB.out _⟩
end Go.Proofs.Ytlbghgmeiajioaa
