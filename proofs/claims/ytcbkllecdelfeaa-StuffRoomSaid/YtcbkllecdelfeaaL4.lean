/- The law StuffRoom, walked. -/
import Derived.Test.YtcbkllecdelfeaaL2
namespace Go.Proofs.Ytcbkllecdelfeaa
open Go.RowKit
set_option linter.unusedVariables false

/-- What a taker holds behind the first k lines that went out. -/
def roomT (many bytes : Int) (ss : List ByteArray) : Nat → List ByteArray × Int × Bool
  | 0 => ([], 0, false)
  | k + 1 => if h : k < ss.length then takeT many bytes (roomT many bytes ss k) (outS ss[k]) else roomT many bytes ss k
theorem roomT_inv (many bytes : Int) (hm : 0 ≤ many) (hb : 0 ≤ bytes) (ss : List ByteArray) (k : Nat) (hk : k ≤ ss.length) :
    (roomT many bytes ss k).2.1 = sumT (ss.take k) ∧
    ((roomT many bytes ss k).2.2 = false → (roomT many bytes ss k).1 = ss.take k ∧ (k : Int) ≤ many ∧ sumT (ss.take k) ≤ bytes) ∧
    ((roomT many bytes ss k).2.2 = true → (many < (k : Int) ∨ bytes < sumT (ss.take k))) ∧ (roomT many bytes ss k).1.length ≤ k := by
  induction k with
  | zero => simp [roomT, sumT, hm, hb]
  | succ k ih =>
    have hlt : k < ss.length := by omega
    obtain ⟨h1, h2, h3, h4⟩ := ih (by omega)
    have hs := sumT_snoc ss k hlt
    simp only [roomT, dif_pos hlt]
    generalize roomT many bytes ss k = t at *
    obtain ⟨xs, had, over⟩ := t
    simp only at h1 h2 h3 h4
    subst h1
    unfold takeT
    rw [out_end, in_out]
    dsimp only
    simp only [Bool.false_eq_true, if_false]
    rw [← hs]
    refine ⟨rfl, ?_, ?_, ?_⟩
    · intro ho
      simp only [Bool.or_eq_false_iff] at ho
      obtain ⟨⟨ho1, ho2⟩, ho3⟩ := ho
      obtain ⟨hx, hy, hz⟩ := h2 ho1
      rw [if_neg (by simp [ho1, ho2, ho3])]
      rw [hx, beq_eq_false_iff_ne, List.length_take] at ho2
      have ho3' : ¬ bytes < sumT (ss.take (k + 1)) := by simpa using ho3
      exact ⟨by rw [hx]; exact (List.take_succ_eq_append_getElem hlt).symm, by omega, by omega⟩
    · intro ho
      simp only [Bool.or_eq_true] at ho
      rcases ho with (ho | ho) | ho
      · rcases h3 ho with h | h
        · exact .inl (by omega)
        · exact .inr (by omega)
      · cases over with
        | true =>
          rcases h3 rfl with h | h
          · exact .inl (by omega)
          · exact .inr (by omega)
        | false =>
          obtain ⟨hx, hy, hz⟩ := h2 rfl
          rw [hx, beq_iff_eq, List.length_take] at ho
          exact .inl (by omega)
      · exact .inr (by simpa using ho)
    · split
      · omega
      · simp; omega
/-- Does all have room? -/
def fitsB (a b : Int) (ss : List ByteArray) : Bool := decide ((ss.length : Int) ≤ max 0 a) && decide (sumT ss ≤ max 0 b)
theorem roomT_end (a b : Int) (ss : List ByteArray) : (roomT (max 0 a) (max 0 b) ss ss.length).2.2 = !fitsB a b ss ∧ (roomT (max 0 a) (max 0 b) ss ss.length).2.1 = sumT ss ∧ (fitsB a b ss = true → (roomT (max 0 a) (max 0 b) ss ss.length).1 = ss) := by
  obtain ⟨h1, h2, h3, _⟩ := roomT_inv (max 0 a) (max 0 b) (by omega) (by omega) ss ss.length (Nat.le_refl _)
  rw [List.take_length] at *
  have ho : (roomT (max 0 a) (max 0 b) ss ss.length).2.2 = !fitsB a b ss := by
    unfold fitsB
    cases hc : (roomT (max 0 a) (max 0 b) ss ss.length).2.2 with
    | false => obtain ⟨_, hx, hy⟩ := h2 hc; simp [hx, hy]
    | true => 
      rcases h3 hc with h | h
      · rw [decide_eq_false (by omega)]; rfl
      · rw [decide_eq_false (p := sumT ss ≤ max 0 b) (by omega)]; simp
  exact ⟨ho, h1, fun hf => (h2 (by rw [ho, hf]; rfl)).1⟩

theorem zero_eq (x : Int) : (((0 : Int) == x) == (x == 0)) = true := by
  by_cases h : x = 0
  · subst h; rfl
  · rw [beq_eq_false_iff_ne.2 h, beq_eq_false_iff_ne.2 (Ne.symm h)]; rfl

set_option maxHeartbeats 2000000 in
theorem room_walk (A : Option Addr) (c : Nat) (ss : List ByteArray) (la lb : Int) (w : World) (hr : Rd w w.heap.size A (ss.map .string)) (hn : ss.length ≤ 9223372036854775807) :
    Calls Try.prog 6 #[.slice A ss.length c, .int .i64 la, .int .i64 lb] w fun e w' => e = .returned (.bool true) ∧ Below w.heap.size w w' := by
  go_enter Try.func6, Try.ntmps6
  go_wp2_with fail
  refine (small_any w).mono ?_
  rintro e w1 ⟨rfl, b1⟩
  have hr1 := rd_next hr b1
  go_wp2_with fail
  refine (few_any A c ss w1 _ hr1 hn).mono ?_
  rintro e w' ⟨rfl, rfl⟩
  go_wp2_with fail
  refine (new_any la lb w1).mono ?_
  rintro e w2 ⟨rfl, hw2⟩
  have k2 : Tk w2 w1.heap.size w1.heap.size none [] (max 0 la) (max 0 lb) 0 false := by rw [← hw2]; exact tk_new w1 _ _
  have b2 : Below w1.heap.size w1 w2 := by rw [← hw2]; exact (Below.refl _ _).alloc (Nat.le_refl _) _
  clear hw2
  have B2 : Below w.heap.size w w2 := b1.trans (b2.mono b1.size)
  have hr2 := rd_next hr1 b2
  cases hf : fewB ss with
  | false =>
    go_wp2_with fail
    go_ret
    exact ⟨rfl, B2⟩
  | true =>
    obtain ⟨hl, hz⟩ := few_sizes hf
    have Hz := Lib.hid hz
    clear hf hz
    go_wp2_with fail
    go_loop [10, 11] (fun n i => ∃ k : Nat, k ≤ ss.length ∧ i = .int .i64 k ∧ n = .int .i64 (sumT (ss.take k))) (fun _ i => ss.length - (intOf i).toNat)
    case atStart => exact ⟨0, by omega, rfl, rfl⟩
    case round =>
      obtain ⟨k, hk, rfl, rfl⟩ := hrel
      have hst := sumT_take hl Hz.out k
      by_cases h1 : k < ss.length
      · obtain ⟨b4, o4, rfl, hb4, hc4⟩ := hr2.at_ (k := k) (by simpa using h1)
        simp only [List.getElem_map] at hc4
        have hs := sumT_snoc ss k h1
        have Hs := Lib.hid hs
        have hz := Hz.out _ (List.getElem_mem h1)
        clear hs
        go_wp2_with fail
        exact ⟨⟨k + 1, by omega, by go_num, by rw [Hs.out]; congr 1; omega⟩, by simp [intOf]; omega⟩
      · obtain rfl : k = ss.length := by omega
        rw [List.take_length] at *
        go_wp2_with fail
        refine (out_any A c ss w2 hr2 (by omega) (fun x hx => by have := Hz.out x hx; omega)).mono ?_
        rintro e w3 ⟨v, rfl, hv, b3⟩
        have hr3 := rd_next hr2 b3
        have k3 := tx_below k2 b3
        have hap : Apart v w1.heap.size none := tx_far k2 hv
        obtain ⟨A3, c3, rfl⟩ := own_form hv
        have B3 : Below w.heap.size w w3 := B2.trans (b3.mono B2.size)
        have z1 := b1.size
        have z3 := b3.size
        have z2 := b2.size
        clear b1 b2 b3 hr1 hr2 k2 B2 hr3
        go_wp2_with fail
        go_loopw [13] (fun i wr => ∃ (k : Nat) (r : Option Nat), k ≤ ss.length + 1 ∧ i = .int .i64 k ∧ Tk wr w1.heap.size w1.heap.size r (roomT (max 0 la) (max 0 lb) ss k).1 (max 0 la) (max 0 lb) (roomT (max 0 la) (max 0 lb) ss k).2.1 (roomT (max 0 la) (max 0 lb) ss k).2.2 ∧ wr.ownsRow w2.heap.size 9 1 (.slice A3 (ss.length + 1) c3) (ss.length + 1) ((outL ss).map .string) ∧ Apart (.slice A3 (ss.length + 1) c3) w1.heap.size r ∧ Below w.heap.size w wr ∧ w3.heap.size ≤ wr.heap.size) (fun i _ => ss.length + 1 - (intOf i).toNat)
        case atStart => exact ⟨0, none, by omega, rfl, k3, hv, hap, B3, Nat.le_refl _⟩
        case round =>
          obtain ⟨k, r, hk, rfl, kt, ho, hap, Bw, hsz⟩ := hrel
          have Bz := Bw.size
          have hrd := own_rd ho
          by_cases h1 : k < ss.length
          · obtain ⟨b, o, rfl, hb, hc⟩ := hrd.get (k := k) (u := .string (outS ss[k])) (by rw [List.getElem?_map, outL_at ss k h1]; rfl)
            obtain ⟨i1, _, _, i4⟩ := roomT_inv (max 0 la) (max 0 lb) (by omega) (by omega) ss k (by omega)
            have hst := sumT_take hl Hz.out k
            rw [← i1] at hst
            have hsk : (outS ss[k]).size ≤ 1000000 := by rw [out_size]; have := Hz.out _ (List.getElem_mem h1); split <;> omega
            have hst2 : roomT (max 0 la) (max 0 lb) ss (k + 1) = takeT (max 0 la) (max 0 lb) (roomT (max 0 la) (max 0 lb) ss k) (outS ss[k]) := by simp only [roomT, dif_pos h1]
            have Hst2 := Lib.hid hst2
            clear hst2 i1 hrd
            generalize outS ss[k] = S at *
            generalize roomT (max 0 la) (max 0 lb) ss k = t at *
            obtain ⟨xs, had, over⟩ := t
            go_wp2_with fail
            refine (take_any wr w1.heap.size w1.heap.size r xs _ _ had over S kt hsk hst.1 (by have := hst.2; omega) (by have := i4; omega) (by omega)).mono ?_
            rintro e w4 ⟨rfl, r', kt', hn', ho4⟩
            rw [← Hst2.out] at kt'
            have o4 := own_only ho ho4 hap
            have hap' := apart_step hap hn' ho
            have Bw4 := ho4.belowOf Bw (Nat.le_refl _) (fun j hj => Nat.le_trans z1 (tx_foot kt j hj))
            have z4 := ho4.size
            clear ho kt hap hn' ho4 Hst2
            go_wp2_with fail
            exact ⟨⟨k + 1, r', by omega, by go_num, kt', o4, hap', Bw4, by omega⟩, by simp [intOf]; omega⟩
          · by_cases h2 : k = ss.length
            · subst h2
              obtain ⟨b, o, rfl, hb, hc⟩ := hrd.get (k := ss.length) (u := .string ⟨#[46]⟩) (by rw [List.getElem?_map, outL_last ss]; rfl)
              have hst2 : roomT (max 0 la) (max 0 lb) ss (ss.length + 1) = roomT (max 0 la) (max 0 lb) ss ss.length := by simp only [roomT, dif_neg h1]
              have Hst2 := Lib.hid hst2
              clear hrd hst2
              go_wp2_with fail
              refine (take_end _ _ wr (by decide) e2).mono ?_
              rintro e w' ⟨rfl, rfl⟩
              go_wp2_with fail
              exact ⟨⟨ss.length + 1, r, by omega, by go_num, by rw [Hst2.out]; exact kt, ho, hap, Bw, hsz⟩, by simp [intOf]⟩
            · have h3 : k = ss.length + 1 := by omega
              subst h3
              have hst2 : roomT (max 0 la) (max 0 lb) ss (ss.length + 1) = roomT (max 0 la) (max 0 lb) ss ss.length := by simp only [roomT, dif_neg (show ¬ ss.length < ss.length by omega)]
              rw [hst2] at kt
              obtain ⟨q1, q2, q3⟩ := roomT_end la lb ss
              rw [q1, q2] at kt
              clear hst2 q1 q2 hrd
              by_cases hnil : ss = []
              · have hF : fitsB la lb ss = true := by subst hnil; unfold fitsB; rw [decide_eq_true (by simp; omega), decide_eq_true (by simp [sumT]; omega)]; rfl
                rw [hF] at kt
                rw [q3 hF] at kt
                clear hF q3
                subst hnil
                have hs0 : sumT [] = 0 := rfl
                rw [hs0] at kt
                by_cases ha : 0 ≤ la
                · have D1 : decide ((0 : Int) ≤ la) = true := decide_eq_true ha
                  by_cases hb : 0 ≤ lb
                  · have D2 : decide ((0 : Int) ≤ lb) = true := decide_eq_true hb
                    go_wp2_with fail
                    refine (over_any _ _ _ _ _ _ _ _ false kt).mono ?_
                    rintro e w' ⟨rfl, rfl⟩
                    go_wp2_with fail
                    refine (bytes_any _ _ _ _ _ _ _ _ false kt).mono ?_
                    rintro e w' ⟨rfl, rfl⟩
                    go_wp2_with fail
                    refine (lines_any _ _ _ _ _ _ _ _ kt (by omega)).mono ?_
                    rintro e w5 ⟨A5, c5, rfl, hv5, b5⟩
                    have B5 := Bw.trans (b5.mono Bz)
                    go_wp2_with fail
                    go_ret
                    exact ⟨ret_b (by simp), B5⟩
                  · have hb' : lb < 0 := by omega
                    go_wp2_with fail
                    refine (over_any _ _ _ _ _ _ _ _ false kt).mono ?_
                    rintro e w' ⟨rfl, rfl⟩
                    go_wp2_with fail
                    refine (bytes_any _ _ _ _ _ _ _ _ false kt).mono ?_
                    rintro e w' ⟨rfl, rfl⟩
                    go_wp2_with fail
                    refine (lines_any _ _ _ _ _ _ _ _ kt (by omega)).mono ?_
                    rintro e w5 ⟨A5, c5, rfl, hv5, b5⟩
                    have B5 := Bw.trans (b5.mono Bz)
                    go_wp2_with fail
                    go_ret
                    exact ⟨ret_b (by simp), B5⟩
                · have ha' : la < 0 := by omega
                  by_cases hb : 0 ≤ lb
                  · have D2 : decide ((0 : Int) ≤ lb) = true := decide_eq_true hb
                    go_wp2_with fail
                    refine (over_any _ _ _ _ _ _ _ _ false kt).mono ?_
                    rintro e w' ⟨rfl, rfl⟩
                    go_wp2_with fail
                    refine (bytes_any _ _ _ _ _ _ _ _ false kt).mono ?_
                    rintro e w' ⟨rfl, rfl⟩
                    go_wp2_with fail
                    refine (lines_any _ _ _ _ _ _ _ _ kt (by omega)).mono ?_
                    rintro e w5 ⟨A5, c5, rfl, hv5, b5⟩
                    have B5 := Bw.trans (b5.mono Bz)
                    go_wp2_with fail
                    go_ret
                    exact ⟨ret_b (by simp), B5⟩
                  · have hb' : lb < 0 := by omega
                    go_wp2_with fail
                    refine (over_any _ _ _ _ _ _ _ _ false kt).mono ?_
                    rintro e w' ⟨rfl, rfl⟩
                    go_wp2_with fail
                    refine (bytes_any _ _ _ _ _ _ _ _ false kt).mono ?_
                    rintro e w' ⟨rfl, rfl⟩
                    go_wp2_with fail
                    refine (lines_any _ _ _ _ _ _ _ _ kt (by omega)).mono ?_
                    rintro e w5 ⟨A5, c5, rfl, hv5, b5⟩
                    have B5 := Bw.trans (b5.mono Bz)
                    go_wp2_with fail
                    go_ret
                    exact ⟨ret_b (by simp), B5⟩
              · have hpos : 0 < ss.length := List.length_pos_iff.2 hnil
                by_cases ha : 0 ≤ la
                · by_cases hb : 0 ≤ lb
                  · skip
                    by_cases d1 : max 0 la < (ss.length : Int)
                    · skip
                      have D1 : decide ((ss.length : Int) ≤ la) = false := decide_eq_false (by omega)
                      have hF : fitsB la lb ss = false := by unfold fitsB; rw [decide_eq_false (by omega)]; rfl
                      rw [hF] at kt
                      clear hF q3
                      go_wp2_with fail
                      refine (over_any _ _ _ _ _ _ _ _ true kt).mono ?_
                      rintro e w' ⟨rfl, rfl⟩
                      go_wp2_with fail
                      refine (bytes_any _ _ _ _ _ _ _ _ true kt).mono ?_
                      rintro e w' ⟨rfl, rfl⟩
                      go_wp2_with fail
                      refine (lines_over _ _ _ _ _ _ _ _ kt).mono ?_
                      rintro e w' ⟨rfl, rfl⟩
                      go_wp2_with fail
                      go_ret
                      exact ⟨ret_b (zero_eq _), Bw⟩
                    · by_cases d2 : max 0 lb < sumT ss
                      · skip
                        have D1 : decide ((ss.length : Int) ≤ la) = true := decide_eq_true (by omega)
                        have D2 : decide (sumT ss ≤ lb) = false := decide_eq_false (by omega)
                        have hF : fitsB la lb ss = false := by unfold fitsB; rw [decide_eq_false (p := sumT ss ≤ max 0 lb) (by omega)]; simp
                        rw [hF] at kt
                        clear hF q3
                        go_wp2_with fail
                        refine (over_any _ _ _ _ _ _ _ _ true kt).mono ?_
                        rintro e w' ⟨rfl, rfl⟩
                        go_wp2_with fail
                        refine (bytes_any _ _ _ _ _ _ _ _ true kt).mono ?_
                        rintro e w' ⟨rfl, rfl⟩
                        go_wp2_with fail
                        refine (lines_over _ _ _ _ _ _ _ _ kt).mono ?_
                        rintro e w' ⟨rfl, rfl⟩
                        go_wp2_with fail
                        go_ret
                        exact ⟨ret_b (zero_eq _), Bw⟩
                      · skip
                        have D1 : decide ((ss.length : Int) ≤ la) = true := decide_eq_true (by omega)
                        have D2 : decide (sumT ss ≤ lb) = true := decide_eq_true (by omega)
                        have hF : fitsB la lb ss = true := by unfold fitsB; rw [decide_eq_true (by omega), decide_eq_true (by omega)]; rfl
                        rw [hF] at kt
                        rw [q3 hF] at kt
                        clear hF q3
                        go_wp2_with fail
                        refine (over_any _ _ _ _ _ _ _ _ false kt).mono ?_
                        rintro e w' ⟨rfl, rfl⟩
                        go_wp2_with fail
                        refine (bytes_any _ _ _ _ _ _ _ _ false kt).mono ?_
                        rintro e w' ⟨rfl, rfl⟩
                        go_wp2_with fail
                        refine (lines_any _ _ _ _ _ _ _ _ kt (by omega)).mono ?_
                        rintro e w5 ⟨A5, c5, rfl, hv5, b5⟩
                        have B5 := Bw.trans (b5.mono Bz)
                        go_wp2_with fail
                        go_ret
                        exact ⟨ret_b (by simp), B5⟩
                  · have hb' : lb < 0 := by omega
                    by_cases d1 : max 0 la < (ss.length : Int)
                    · skip
                      have D1 : decide ((ss.length : Int) ≤ la) = false := decide_eq_false (by omega)
                      have hF : fitsB la lb ss = false := by unfold fitsB; rw [decide_eq_false (by omega)]; rfl
                      rw [hF] at kt
                      clear hF q3
                      go_wp2_with fail
                      refine (over_any _ _ _ _ _ _ _ _ true kt).mono ?_
                      rintro e w' ⟨rfl, rfl⟩
                      go_wp2_with fail
                      refine (bytes_any _ _ _ _ _ _ _ _ true kt).mono ?_
                      rintro e w' ⟨rfl, rfl⟩
                      go_wp2_with fail
                      refine (lines_over _ _ _ _ _ _ _ _ kt).mono ?_
                      rintro e w' ⟨rfl, rfl⟩
                      go_wp2_with fail
                      go_ret
                      exact ⟨ret_b (zero_eq _), Bw⟩
                    · by_cases d2 : max 0 lb < sumT ss
                      · skip
                        have D1 : decide ((ss.length : Int) ≤ la) = true := decide_eq_true (by omega)
                        have D2 : decide (sumT ss ≤ 0) = false := decide_eq_false (by omega)
                        have hF : fitsB la lb ss = false := by unfold fitsB; rw [decide_eq_false (p := sumT ss ≤ max 0 lb) (by omega)]; simp
                        rw [hF] at kt
                        clear hF q3
                        go_wp2_with fail
                        refine (over_any _ _ _ _ _ _ _ _ true kt).mono ?_
                        rintro e w' ⟨rfl, rfl⟩
                        go_wp2_with fail
                        refine (bytes_any _ _ _ _ _ _ _ _ true kt).mono ?_
                        rintro e w' ⟨rfl, rfl⟩
                        go_wp2_with fail
                        refine (lines_over _ _ _ _ _ _ _ _ kt).mono ?_
                        rintro e w' ⟨rfl, rfl⟩
                        go_wp2_with fail
                        go_ret
                        exact ⟨ret_b (zero_eq _), Bw⟩
                      · skip
                        have D1 : decide ((ss.length : Int) ≤ la) = true := decide_eq_true (by omega)
                        have D2 : decide (sumT ss ≤ 0) = true := decide_eq_true (by omega)
                        have hF : fitsB la lb ss = true := by unfold fitsB; rw [decide_eq_true (by omega), decide_eq_true (by omega)]; rfl
                        rw [hF] at kt
                        rw [q3 hF] at kt
                        clear hF q3
                        go_wp2_with fail
                        refine (over_any _ _ _ _ _ _ _ _ false kt).mono ?_
                        rintro e w' ⟨rfl, rfl⟩
                        go_wp2_with fail
                        refine (bytes_any _ _ _ _ _ _ _ _ false kt).mono ?_
                        rintro e w' ⟨rfl, rfl⟩
                        go_wp2_with fail
                        refine (lines_any _ _ _ _ _ _ _ _ kt (by omega)).mono ?_
                        rintro e w5 ⟨A5, c5, rfl, hv5, b5⟩
                        have B5 := Bw.trans (b5.mono Bz)
                        go_wp2_with fail
                        go_ret
                        exact ⟨ret_b (by simp), B5⟩
                · have ha' : la < 0 := by omega
                  have D0 : decide (ss = []) = false := decide_eq_false hnil
                  have D1 : decide ((ss.length : Int) ≤ 0) = false := decide_eq_false (by omega)
                  have hF : fitsB la lb ss = false := by unfold fitsB; rw [decide_eq_false (by omega)]; rfl
                  rw [hF] at kt
                  clear hF q3
                  go_wp2_with fail
                  refine (over_any _ _ _ _ _ _ _ _ true kt).mono ?_
                  rintro e w' ⟨rfl, rfl⟩
                  go_wp2_with fail
                  refine (bytes_any _ _ _ _ _ _ _ _ true kt).mono ?_
                  rintro e w' ⟨rfl, rfl⟩
                  go_wp2_with fail
                  refine (lines_over _ _ _ _ _ _ _ _ kt).mono ?_
                  rintro e w' ⟨rfl, rfl⟩
                  go_wp2_with fail
                  go_ret
                  exact ⟨ret_b (zero_eq _), Bw⟩
end Go.Proofs.Ytcbkllecdelfeaa
