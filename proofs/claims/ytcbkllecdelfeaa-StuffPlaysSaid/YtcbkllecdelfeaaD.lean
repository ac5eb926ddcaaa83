/- What Out of the stuff layer comes to: a loop over an iterator of its own. -/
import Derived.RangeFuncNested
import Derived.RangeFuncBound
import Derived.RangeFuncCalls
import Derived.RangeFuncLeaves
import Derived.RangeFuncBox
import Derived.Shelf.Abstract
import Derived.WalkKit
import Derived.OwnWalkIn
import Derived.TacticsInMore
import Derived.LoopNIn
import Derived.LoopIn
import Derived.Maps.AppendAt
import Derived.Test.YtcbkllecdelfeaaC
namespace Go.Proofs.Ytcbkllecdelfeaa
open Go.RowKit Go.Shelf
set_option linter.unusedVariables false

attribute [local go_sem] Oper.semAt_some

set_option maxHeartbeats 400000 in
theorem pre_any (s : ByteArray) (w : World) (hs : s.size ≤ maxLen) : Calls Try.prog 28 #[.string s, .string ⟨#[46]⟩] w fun e w' => e = .returned (.bool (dotB s)) ∧ w = w' := by
  unfold maxLen at hs
  by_cases h : 1 ≤ s.size
  · have hc := dot_cut h
    go_enter Try.func28, Try.ntmps28
    go_wp2
    go_ret
    exact ⟨rfl, rfl⟩
  · have hd := dot_none (s := s) (by omega)
    go_enter Try.func28, Try.ntmps28
    go_wp2
    go_ret
    exact ⟨rfl, rfl⟩

theorem out_take (ss : List ByteArray) (k : Nat) (hk : k < ss.length) : (ss.take k).map outS ++ [outS ss[k]] = (ss.take (k + 1)).map outS := by
  rw [List.take_succ_eq_append_getElem hk, List.map_append]; rfl

set_option maxRecDepth 100000 in
set_option maxHeartbeats 1000000 in
theorem dotted1_in (n : Nat) (hn : 2 ≤ n) (l Bn n₀ : Nat) (A : Option Addr) (c : Nat) (ss : List ByteArray) (J Jx : List ByteArray → World → Prop)
    (hY : ∀ pre x W, J pre W → pre.length < ss.length + 1 → YieldAt Fence.wide (n - 1) Try.prog l #[.string x] W fun e W' =>
      (e = .returned (.bool true) ∧ J (pre ++ [x]) W' ∧ Below n₀ W W') ∨ (e = .returned (.bool false) ∧ Jx (pre ++ [x]) W'))
    (W : World) (hBn : W.cell? ⟨Bn, 0, none⟩ = some (.slice A ss.length c)) (hr : Rd W n₀ A (ss.map .string)) (hlen : ss.length ≤ 1000) (hsz : ∀ s ∈ ss, s.size ≤ 1000000) (h0 : J [] W) :
    CallsIn Fence.wide n Try.prog 27 #[.func (.yield l) #[] #[], .pointer (some ⟨Bn, 0, none⟩)] W fun e W' => (∃ v, e = .returned v) ∧
      ((∃ ys, ys = outL ss ∧ J ys W') ∨ (∃ pre, pre <+: outL ss ∧ Jx pre W')) := by
  have Hsz := Lib.hid hsz; clear hsz
  have HY := Lib.hid hY; clear hY
  have hn1 : 1 ≤ n := by omega
  refine callsIn_of_wp Try.func27 rfl trivial ?_ rfl
  simp only [Try.ntmps27, List.size_toArray, List.length_cons, List.length_nil, Nat.reduceAdd, Nat.reduceSub, Array.replicate_succ, Array.replicate_zero, List.push_toArray, List.append_toArray, List.nil_append, List.cons_append]
  gi_wp2
  gi_loopw [7] (fun i wr => ∃ k : Nat, k ≤ ss.length ∧ i = .int .i64 k ∧ Rd wr n₀ A (ss.map .string) ∧ J ((ss.take k).map outS) wr)
    (fun i _ => ss.length - (intOf i).toNat)
  case atStart => exact ⟨0, Nat.zero_le _, rfl, hr, by simpa using h0⟩
  case round =>
    obtain ⟨k, hk, rfl, hrd, hJ⟩ := hrel
    by_cases hlt : k < ss.length
    · obtain ⟨b, o, rfl, hb, hc⟩ := hrd.at_ (k := k) (by simpa using hlt)
      simp only [List.getElem_map] at hc
      have hs0 := Hsz.out _ (List.getElem_mem hlt)
      obtain ⟨fn, tmps, assign, body, hy, hR⟩ := HY.out ((ss.take k).map outS) (outS ss[k]) wr hJ (by simp; omega)
      have hsn := out_take ss k hlt
      rw [hsn] at hR
      clear hsn
      generalize hS : ss[k] = S at *
      clear hS
      by_cases hd : dotB S = true
      · rw [out_dot hd] at hy
        gi_wp2_with (refine ⟨trivial, ?_⟩; gi_at_call 28; refine (callsIn_wide.2 (pre_any _ _ (by unfold maxLen; omega))).mono ?_; rintro e w' ⟨rfl, rfl⟩; simp only [hd])
        refine hR.mono ?_
        rintro e W3 (⟨rfl, hJ3, hk3⟩ | ⟨rfl, hJx3⟩)
        · have hrd3 := hrd.below hk3
          gi_wp2
          go_roundw
          case rel => exact ⟨k + 1, by omega, by go_num, hrd3, hJ3⟩
          case measure => simp [intOf]; omega
        · gi_wp2
          refine bodyPost_ret (results_none rfl _ _ _) rfl ?_
          exact ⟨⟨_, rfl⟩, .inr ⟨_, ⟨(ss.drop (k + 1)).map outS ++ [⟨#[46]⟩], by unfold outL; rw [← List.append_assoc, ← List.map_append, List.take_append_drop]⟩, hJx3⟩⟩
      · have hd' : dotB S = false := by simpa using hd
        rw [out_plain hd'] at hy
        gi_wp2_with (refine ⟨trivial, ?_⟩; gi_at_call 28; refine (callsIn_wide.2 (pre_any _ _ (by unfold maxLen; omega))).mono ?_; rintro e w' ⟨rfl, rfl⟩; simp only [hd'])
        refine hR.mono ?_
        rintro e W3 (⟨rfl, hJ3, hk3⟩ | ⟨rfl, hJx3⟩)
        · have hrd3 := hrd.below hk3
          gi_wp2
          go_roundw
          case rel => exact ⟨k + 1, by omega, by go_num, hrd3, hJ3⟩
          case measure => simp [intOf]; omega
        · gi_wp2
          refine bodyPost_ret (results_none rfl _ _ _) rfl ?_
          exact ⟨⟨_, rfl⟩, .inr ⟨_, ⟨(ss.drop (k + 1)).map outS ++ [⟨#[46]⟩], by unfold outL; rw [← List.append_assoc, ← List.map_append, List.take_append_drop]⟩, hJx3⟩⟩
    · obtain rfl : k = ss.length := by omega
      rw [List.take_length] at hJ
      obtain ⟨fn, tmps, assign, body, hy, hR⟩ := HY.out (ss.map outS) ⟨#[46]⟩ wr hJ (by simp)
      gi_wp2
      refine hR.mono ?_
      rintro e W3 (⟨rfl, hJ3, hk3⟩ | ⟨rfl, hJx3⟩)
      · gi_wp2
        go_end0
        exact ⟨⟨_, rfl⟩, .inl ⟨_, rfl, hJ3⟩⟩
      · gi_wp2
        go_end0
        exact ⟨⟨_, rfl⟩, .inr ⟨_, List.prefix_refl _, hJx3⟩⟩

set_option maxHeartbeats 400000 in
theorem dotted_any (A : Option Addr) (n c : Nat) (w : World) : Calls Try.prog 24 #[.slice A n c] w fun e w' => e = .returned (.func (.func 27) #[] #[.pointer (some ⟨w.heap.size, 0, none⟩)]) ∧ w.alloc (.cells #[.slice A n c] 22) = w' := by
  have hmf : ∀ (fn : Fn) (first cap : Array Value) (w : World), (Instr.makeFunc fn first cap).run Try.prog w = .ok (.func fn first cap) w := fun _ _ _ _ => rfl
  go_enter Try.func24, Try.ntmps24
  go_wp2
  go_ret
  exact ⟨rfl, rfl⟩

theorem dotted_stops (n : Nat) (hn : 2 ≤ n) (Bn n₀ : Nat) (A : Option Addr) (c : Nat) (ss : List ByteArray) (w : World) (hBn : Bn < w.heap.size) (hn₀ : n₀ ≤ w.heap.size)
    (hc : w.cell? ⟨Bn, 0, none⟩ = some (.slice A ss.length c)) (hr : Rd w n₀ A (ss.map .string)) (hlen : ss.length ≤ 1000) (hsz : ∀ s ∈ ss, s.size ≤ 1000000) :
    SeqStopsK Fence.wide n Try.prog 27 #[.pointer (some ⟨Bn, 0, none⟩)] (fun x : ByteArray => #[Value.string x]) (Below n₀) (fun ys => ys = outL ss) (fun pre => pre <+: outL ss) (ss.length + 1) w := fun l J Jx W hW _ _ hY h0 =>
  dotted1_in n hn l Bn n₀ A c ss J Jx hY W ((hW.cell (p := ⟨Bn, 0, none⟩) hBn).trans hc) (hr.below (hW.mono hn₀)) hlen hsz h0

theorem outL_len (ss : List ByteArray) : (outL ss).length = ss.length + 1 := by simp [outL]

set_option maxRecDepth 100000 in
set_option maxHeartbeats 2000000 in
theorem out_any (A : Option Addr) (c : Nat) (ss : List ByteArray) (w : World) (hr : Rd w w.heap.size A (ss.map .string)) (hlen : ss.length ≤ 1000) (hsz : ∀ s ∈ ss, s.size ≤ 1000000) :
    Calls Try.prog 13 #[.slice A ss.length c] w fun e w' => ∃ v, e = .returned v ∧ w'.ownsRow w.heap.size 9 1 v (ss.length + 1) ((outL ss).map .string) ∧ Below w.heap.size w w' := by
  obtain ⟨i0, hi, hz0, hz1, hz2⟩ := info_parts info9
  have Hsz := Lib.hid hsz; clear hsz
  refine (callsIn_wide (n := 5)).1 ?_
  refine callsIn_of_wp_marks Try.func13 rfl trivial ?_ rfl
  simp only [Try.ntmps13, List.size_toArray, List.length_cons, List.length_nil, Nat.reduceAdd, Nat.reduceSub, Array.replicate_succ, Array.replicate_zero, List.push_toArray, List.append_toArray, List.nil_append, List.cons_append]
  gi_wp2_with (refine ⟨trivial, ?_⟩; gi_at_call 24; refine (callsIn_wide.2 (dotted_any _ _ _ _)).mono ?_; rintro e w' ⟨rfl, rfl⟩)
  have bO := Boxed.new w 22 (.slice none 0 0)
  have bN := Boxed.new (w.alloc (.cells #[.slice none 0 0] 22)) 22 (.slice A ss.length c)
  rw [World.size_alloc] at bN
  have hB0 : Below w.heap.size w ((w.alloc (.cells #[.slice none 0 0] 22)).alloc (.cells #[.slice A ss.length c] 22)) := ((Below.refl _ w).alloc (Nat.le_refl _) _).alloc (by simp) _
  refine wpIn_rangeFunc_ownG (F := Fence.wide) rfl (by decide) (gf := 27) (lb := #[.pointer (some ⟨w.heap.size + 1, 0, none⟩)]) rfl trivial (enters_of Try.func27 (by kernel_rfl) rfl)
    (dotted_stops (5 - 1) (by decide) (w.heap.size + 1) w.heap.size A c ss _ (by simp) (by simp; omega) bN.cell (hr.below hB0) hlen Hsz.out) belowK_t (belowK_b (by simp; omega)) (Below.refl _ _) (fun _ => rfl)
    (fun pre W => (∃ v, Boxed W w.heap.size 22 v ∧ W.ownsRow w.heap.size 9 1 v pre.length (pre.map Value.string) ∧ True) ∧ Below w.heap.size w W)
    (fun _ _ _ => False)
    (OwnFrom.and (Own.from (holdsRow_own w.heap.size w.heap.size 22 9 1 (fun pre : List ByteArray => pre.length) (fun pre : List ByteArray => pre.map Value.string) (fun pre v => True)) _) (ownFrom_below (Nat.le_refl _) (by simp; omega)))
    (fun _ _ _ _ _ hs _ _ => hs)
    ⟨⟨_, bO.alloc _, World.ownsRow_nil _ _ _ _, trivial⟩, hB0⟩
    (fun x => { tmps := #[.slice A ss.length c, undef, .slice none 0 0, .pointer (some ⟨w.heap.size, 0, none⟩), .string x, .slice A ss.length c, .func (.func 27) #[] #[.pointer (some ⟨w.heap.size + 1, 0, none⟩)], .string x, undef, undef, undef, undef, undef], defers := [] }) ?assign ?body ?done ?stop
  case assign =>
    intro l x W K hK
    gi_wp2
    exact hK
  case body =>
    rintro l pre x W ⟨⟨v, hv, hrow, _⟩, hB⟩ hlt
    have hc := hv.cell
    have hsize := hB.size
    gi_wp2_with (gi_at_builtin; refine wpListIn_append_own _ rfl _ _ 22 rfl w.heap.size 9 i0 (.string ⟨#[]⟩) 1 16 Try.underlying22 hi hz0 hz1 hz2 rfl (by decide) _ _ _ rfl (hrow.alloc _) ⟨W.heap.size, 0, none⟩ 1 1 [.string x] rfl rfl (cell_one_new _ _ _) (by simp [Value.oneCell']) (by unfold maxLen; omega) (by omega) (by simp; omega) ?_; intro v' w1 hown' hgrow _; obtain ⟨g', cap', rfl⟩ := ownsRow_succ hown'; obtain ⟨hv1, hv2, hr2, hk2, hb2⟩ := hv.appended (by decide) hrow hB.size (Nat.le_refl _) hown' hgrow; have hc1 := hv1.cell; have hf1 := hv1.frozen)
    exact ⟨hk2.from _, hb2, ⟨_, hv2, by simpa using hr2, trivial⟩, hB.trans hb2⟩
  case done =>
    rintro D ys W hD rfl ⟨⟨v, hv, hrow, _⟩, hB⟩ hK
    have hc := hv.cell
    gi_wp2
    refine ⟨by simp, .inl ⟨_, _, rfl, run_takeDeferred hK, ?_⟩⟩
    refine ⟨_, results_tmp rfl _ _ _, v, rfl, ?_, hB.trans (belowK_b (w := w) (Nat.le_refl _) W D _ _ (by simp at hD; omega) hK rfl rfl)⟩
    rw [← outL_len]
    exact ownsRow_putObj hrow _ hK rfl
  case stop =>
    rintro D c pre W _ _ h _
    exact h.elim
end Go.Proofs.Ytcbkllecdelfeaa
