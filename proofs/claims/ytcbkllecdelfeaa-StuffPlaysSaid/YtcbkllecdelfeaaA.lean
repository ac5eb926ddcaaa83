/- What In, few and the small methods come to. -/
import Derived.Test.YtcbkllecdelfeaaProg
import Derived.Test.YtcbkllecdelfeaaK
import Derived.Test.YtcbkllecdelfeaaS
import Derived.WalkLawsBesides
import Derived.WalkSpells
import Derived.Lib.Hide
namespace Go.Proofs.Ytcbkllecdelfeaa
open Go.RowKit

def InPost (s : ByteArray) (w : World) (e : Ending) (w' : World) : Prop := e = .returned (.tuple #[.string (inS s), .bool (endB s)]) ∧ w = w'
theorem inPost_end {s : ByteArray} {w : World} (h : (s.toList == [46]) = true) : InPost s w (.returned (.tuple #[.string ⟨#[]⟩, .bool true])) w := by
  refine ⟨?_, rfl⟩; rw [in_end h, show endB s = true from h]
theorem inPost_dot {s : ByteArray} {w : World} (h : (s.toList == [46]) = false) (hd : dotB s = true) : InPost s w (.returned (.tuple #[.string (s.extract 1 s.size), .bool false])) w := by
  refine ⟨?_, rfl⟩; rw [in_dot h hd, show endB s = false from h]
theorem inPost_plain {s : ByteArray} {w : World} (h : (s.toList == [46]) = false) (hd : dotB s = false) : InPost s w (.returned (.tuple #[.string s, .bool false])) w := by
  refine ⟨?_, rfl⟩; rw [in_plain h hd, show endB s = false from h]

set_option maxHeartbeats 400000 in
theorem in_any (s : ByteArray) (w : World) (hs : s.size ≤ maxLen) : Calls Try.prog 10 #[.string s] w (InPost s w) := by
  unfold maxLen at hs
  go_enter Try.func10, Try.ntmps10
  go_wp2
  all_goals go_ret2
  · exact inPost_end ‹_›
  · exact inPost_dot ‹_› (by rw [← dot_cut (by omega)]; assumption)
  · exact inPost_plain ‹_› (by rw [← dot_cut (by omega)]; assumption)
  · exact inPost_plain ‹_› (dot_none (by omega))

set_option maxHeartbeats 400000 in
theorem rin_any (s : ByteArray) (w : World) (hs : s.size ≤ maxLen) : Calls Try.prog 11 #[.string s] w (InPost s w) := by
  unfold maxLen at hs
  go_enter Try.func11, Try.ntmps11
  go_wp2
  all_goals go_ret2
  · exact inPost_end ‹_›
  · exact inPost_dot ‹_› (by rw [← dot_idx (by omega)]; assumption)
  · exact inPost_plain ‹_› (by rw [← dot_idx (by omega)]; assumption)
  · exact inPost_plain ‹_› (dot_none (by omega))

theorem few_not {ss : List ByteArray} {k : Nat} (hk : k < ss.length) (h : 1200 < ss[k].size) : fewB ss = false := by
  unfold fewB
  rw [Bool.and_eq_false_iff]; left
  rw [List.all_eq_false]
  exact ⟨_, List.getElem_mem hk, by simp; omega⟩
theorem few_end {ss : List ByteArray} (h : ∀ j (hj : j < ss.length), ss[j].size ≤ 1200) : fewB ss = decide (ss.length ≤ 100) := by
  unfold fewB
  rw [List.all_eq_true.2, Bool.true_and]
  intro x hx
  obtain ⟨j, hj, rfl⟩ := List.getElem_of_mem hx
  simpa using h j hj

set_option maxHeartbeats 400000 in
theorem few_any (A : Option Addr) (c : Nat) (ss : List ByteArray) (w : World) (B : Nat) (hr : Rd w B A (ss.map .string)) (hn : ss.length ≤ 9223372036854775807) :
    Calls Try.prog 9 #[.slice A ss.length c] w fun e w' => e = .returned (.bool (fewB ss)) ∧ w = w' := by
  go_enter Try.func9, Try.ntmps9
  go_wp2
  go_loop [3] (fun i => ∃ k : Nat, k ≤ ss.length ∧ i = .int .i64 k ∧ ∀ j (hj : j < ss.length), j < k → ss[j].size ≤ 1200) (fun i => ss.length - (intOf i).toNat)
  case atStart => exact ⟨0, Nat.zero_le _, rfl, fun j hj h => by omega⟩
  case round =>
    obtain ⟨k, hk, rfl, hall⟩ := hrel
    have Hall := Lib.hid hall; clear hall
    by_cases hlt : k < ss.length
    · obtain ⟨b, o, rfl, hb, hc⟩ := hr.at_ (k := k) (by simpa using hlt)
      simp only [List.getElem_map] at hc
      by_cases hbig : 1200 < ss[k].size
      · go_wp2
        go_ret
        exact ⟨ret_b (few_not hlt hbig).symm, rfl⟩
      · go_wp2
        go_round
        case rel => exact ⟨k + 1, by omega, by go_num, fun j hj h => by
          rcases Nat.lt_or_ge j k with h1 | h1
          · exact Hall.out j hj h1
          · obtain rfl : j = k := by omega
            omega⟩
        case measure => simp [intOf]; omega
    · go_wp2
      go_ret
      exact ⟨ret_b (by rw [few_end (fun j hj => Hall.out j hj (by omega))]; simp; omega), rfl⟩
end Go.Proofs.Ytcbkllecdelfeaa
