/- strings.Builder: what Print calls. -/
import Derived.Test.YtjlpmfokekflbaaG
import Derived.Lib.Builder
namespace Go.Proofs.Ytjlpmfokekflbaa
open Go.RowKit
set_option linter.unusedVariables false

set_option maxRecDepth 100000 in
set_option maxHeartbeats 1000000 in
theorem check_any (B b : Nat) (bs : List Value) (w : World) (h : Lib.IsBuilder 52 5 B b bs w) :
    Calls Try.prog 26 #[.pointer (some ⟨b, 0, none⟩)] w fun e w' => e = .returned (.tuple #[]) ∧ Lib.BuilderAt 52 5 B b (.pointer (some ⟨b, 0, none⟩)) bs w' ∧ Below B w w' := by
  obtain ⟨j, hj, hjs⟩ := Option.map_eq_some_iff.1 (show (Try.prog.info? 52).map (·.size) = some 2 by kernel_rfl)
  rcases h with h | h
  · have c0 := h.cell0
    have f0 := h.frozen0
    go_enter Try.func26, Try.ntmps26
    go_wp2
    rw [Lib.run_to_unsafe w ⟨b, 0, none⟩ Try.underlying50 Try.underlying61 hj (by rw [hjs]; decide) h.shape (Nat.zero_lt_succ 1)]
    simp only [Result.andThen]
    rw [Oper.upon_value]
    go_wp2
    rw [run_callFunc_extern Try.func28 (by kernel_rfl) (by kernel_rfl) (by kernel_rfl) (e := Extern.AbiNoEscape.same) (by kernel_rfl)]
    rw [Lib.run_noEscape]
    simp only [Result.andThen]
    rw [Oper.upon_value]
    go_wp2
    rw [Lib.run_from_unsafe w ⟨b, 0, none⟩ Try.underlying61 Try.underlying50 hj h.shape (by kernel_rfl)]
    simp only [Result.andThen]
    rw [Oper.upon_value]
    go_wp2
    go_end0
    exact ⟨rfl, h.used _, (Below.refl B w).setCell (p := ⟨b, 0, none⟩) h.1 _⟩
  · have c0 := h.cell0
    go_enter Try.func26, Try.ntmps26
    go_wp2
    rw [Lib.run_neq_ptr_same w _ Try.underlying50 hj]
    go_wp2
    go_end0
    exact ⟨rfl, h, Below.refl _ _⟩

set_option maxHeartbeats 2000000 in
set_option maxRecDepth 100000 in
theorem write_any (B b : Nat) (l : List UInt8) (s : ByteArray) (w : World) (h : Lib.IsBuilder 52 5 B b (Lib.byteCells l) w) (hlen : l.length + s.size ≤ 140737488355328) (hBw : B ≤ w.heap.size) :
    Calls Try.prog 23 #[.pointer (some ⟨b, 0, none⟩), .string s] w fun e w' => e = .returned (.tuple #[.int .i64 s.size, .nilIface]) ∧ Lib.IsBuilder 52 5 B b (Lib.byteCells (l ++ s.data.toList)) w' ∧ Below B w w' := by
  obtain ⟨i0, hi, hz0, hz1, hz2⟩ := info_parts info5
  go_enter Try.func23, Try.ntmps23
  go_wp2_with fail
  refine (check_any B b _ w h).mono ?_
  rintro e w1 ⟨rfl, ⟨hB, v, hbk, hown, hne⟩, hb1⟩
  have hown' : w1.ownsRow B 5 1 v l.length (Lib.byteCells l) := by rwa [byte_len] at hown
  obtain ⟨A, c, rfl⟩ := own_any hown'
  have hk : Bk w1 b 52 #[.pointer (some ⟨b, 0, none⟩), .slice A l.length c] := hbk
  have c1 := hk.cell 1
  simp at c1
  have HO := Lib.hid hown'; have HK := Lib.hid hk; have HB1 := Lib.hid hb1; have HNE := Lib.hid hne; have HB := Lib.hid hB
  have hlen1 : l.length + s.size ≤ maxLen := by unfold maxLen; omega
  have hBw1 : B ≤ w1.heap.size := Nat.le_trans hBw hb1.size
  clear hown hown' hk hbk hb1 hne h hB
  go_wp2_with (at_builtin; refine Lib.wpList_append_own_string _ rfl (.tmp 12) (.tmp 13) 43 9 rfl B 5 i0 Try.underlying43 Try.underlying9 hi hz0 hz1 hz2 _ l.length _ rfl HO.out s rfl hlen1 hlen hBw1 ?_; intro v2 w2 own2 hg2 _; obtain ⟨A2, c2, rfl⟩ := own_any own2; have k2 := HK.out.grown hg2 (fun e => HNE.out e.symm); have y1 := k2.cell 1; have y2 := k2.frozen 1; simp at y1; have HO2 := Lib.hid own2; have HG2 := Lib.hid hg2; clear own2 hg2)
  go_ret2
  refine ⟨rfl, ?_, ?_⟩
  · have kf := k2.set_ 1 (.slice A2 (l.length + s.size) c2)
    have e : l.length + s.size = (Lib.byteCells (l ++ s.data.toList)).length := by rw [byte_len, List.length_append, ← Lib.size_eq]
    have o3 := own_set HO2.out (p := ⟨b, 1, none⟩) (own_ne HO2.out k2 (by decide)) (.slice A2 (l.length + s.size) c2)
    rw [str_cells, ← byte_app, e] at o3
    rw [e] at kf ⊢
    simp at kf
    exact .inr ⟨HB.out, _, kf, o3, own_ne o3 kf (by decide)⟩
  · exact (HB1.out.grown HG2.out hBw1 (fun k hk => (HO.out.lt k hk).1)).setCell (p := ⟨b, 1, none⟩) HB.out _
end Go.Proofs.Ytjlpmfokekflbaa
