/- The law StuffDots, walked. -/
import Derived.Test.YtcbkllecdelfeaaL2
namespace Go.Proofs.Ytcbkllecdelfeaa
open Go.RowKit
set_option linter.unusedVariables false

set_option maxHeartbeats 2000000 in
theorem dots_walk (A : Option Addr) (c : Nat) (ss : List ByteArray) (w : World) (hr : Rd w w.heap.size A (ss.map .string)) (hn : ss.length ≤ 9223372036854775807) :
    Calls Try.prog 7 #[.slice A ss.length c] w fun e w' => e = .returned (.bool true) ∧ Below w.heap.size w w' := by
  go_enter Try.func7, Try.ntmps7
  go_wp2_with fail
  refine (small_any w).mono ?_
  rintro e w1 ⟨rfl, b1⟩
  have hr1 := rd_next hr b1
  go_wp2_with fail
  refine (few_any A c ss w1 _ hr1 hn).mono ?_
  rintro e w' ⟨rfl, rfl⟩
  cases hf : fewB ss with
  | false =>
    go_wp2_with fail
    go_ret
    exact ⟨rfl, b1⟩
  | true =>
    obtain ⟨hl, hz⟩ := few_sizes hf
    have Hz := Lib.hid hz
    clear hf hz
    go_wp2_with fail
    refine (out_any A c ss w1 hr1 (by omega) (fun x hx => by have := Hz.out x hx; omega)).mono ?_
    rintro e w3 ⟨v, rfl, hv, b3⟩
    have hr3 := rd_next hr1 b3
    obtain ⟨A3, c3, rfl⟩ := own_form hv
    have B3 : Below w.heap.size w w3 := b1.trans (b3.mono b1.size)
    have hneq : (((ss.length : Int) + 1) != ((ss.length : Int) + 1)) = false := by simp
    have hro := own_rd hv
    obtain ⟨b, o, rfl, hb, hc⟩ := hro.get (k := ss.length) (u := .string ⟨#[46]⟩) (by rw [List.getElem?_map, outL_last ss]; rfl)
    clear b1 b3 hr1 hr
    go_wp2_with fail
    clear hc
    go_loopw [6] (fun i wr => ∃ (k n : Nat), k ≤ ss.length ∧ i = .int .i64 k ∧ wr = w3.drewN n) (fun i _ => ss.length - (intOf i).toNat)
    case atStart => exact ⟨0, 0, by omega, rfl, rfl⟩
    case round =>
      obtain ⟨k, n, hk, rfl, rfl⟩ := hrel
      by_cases h1 : k < ss.length
      · obtain ⟨b2, o2, e2', hb2, hc2⟩ := hro.get (k := k) (u := .string (outS ss[k])) (by rw [List.getElem?_map, outL_at ss k h1]; rfl)
        injection e2' with e2'
        injection e2' with eb eo
        subst eb; subst eo
        obtain ⟨b4, o4, rfl, hb4, hc4⟩ := hr3.at_ (k := k) (by simpa using h1)
        simp only [List.getElem_map] at hc4
        have hz := Hz.out _ (List.getElem_mem h1)
        have hne := out_end ss[k]
        have hin := in_out ss[k]
        have hsz := out_size ss[k]
        have hq : ((outS ss[k]).toList == [46]) = false := out_end ss[k]
        have Hin := Lib.hid hin; have Hne := Lib.hid hne; have Hsz := Lib.hid hsz
        clear hin hne hsz
        generalize ss[k] = S at *
        have hq2 : (S.toList == S.toList) = true := by simp
        by_cases h0 : 0 < S.size
        · have hi0 := dot_idx h0
          cases hd : dotB S with
          | true =>
            rw [hd] at hi0
            have hs3 : (outS S).size = S.size + 1 := by rw [Hsz.out, hd]; rfl
            have hsb : (((outS S).size : Int) == (S.size : Int) + 1) = true := by rw [hs3]; simp
            have hs4 : (outS S).size ≤ 1000000 := by omega
            clear hs3
            go_wp2_with fail
            refine (in_any (outS S) _ (by unfold maxLen; omega)).mono ?_
            rintro e w' ⟨rfl, rfl⟩
            rw [Hin.out, Hne.out]
            go_wp2_with fail
            go_quiet (fail)
            go_wp2_with fail
            exact ⟨⟨k + 1, n + nq, by omega, by go_num, rfl⟩, by simp [intOf]; omega⟩
          | false =>
            rw [hd] at hi0
            have hs3 : (outS S).size = S.size := by rw [Hsz.out, hd]; rfl
            have hsb : (((outS S).size : Int) == (S.size : Int) + 1) = false := by rw [hs3, beq_eq_false_iff_ne]; omega
            have hs4 : (outS S).size ≤ 1000000 := by omega
            clear hs3
            go_wp2_with fail
            refine (in_any (outS S) _ (by unfold maxLen; omega)).mono ?_
            rintro e w' ⟨rfl, rfl⟩
            rw [Hin.out, Hne.out]
            go_wp2_with fail
            go_quiet (fail)
            go_wp2_with fail
            exact ⟨⟨k + 1, n + nq, by omega, by go_num, rfl⟩, by simp [intOf]; omega⟩
        · have hd := dot_none (s := S) (by omega)
          have hs3 : (outS S).size = S.size := by rw [Hsz.out, hd]; rfl
          have hsb : (((outS S).size : Int) == (S.size : Int) + 1) = false := by rw [hs3, beq_eq_false_iff_ne]; omega
          clear hd
          have hs4 : (outS S).size ≤ 1000000 := by omega
          clear hs3
          go_wp2_with fail
          refine (in_any (outS S) _ (by unfold maxLen; omega)).mono ?_
          rintro e w' ⟨rfl, rfl⟩
          rw [Hin.out, Hne.out]
          go_wp2_with fail
          go_quiet (fail)
          go_wp2_with fail
          exact ⟨⟨k + 1, n + nq, by omega, by go_num, rfl⟩, by simp [intOf]; omega⟩
      · go_wp2_with fail
        go_ret
        exact ⟨rfl, below_drewN B3 _⟩
end Go.Proofs.Ytcbkllecdelfeaa
