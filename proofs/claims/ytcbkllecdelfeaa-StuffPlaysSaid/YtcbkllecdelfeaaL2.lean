/- The law StuffBack, walked. -/
import Derived.Test.YtcbkllecdelfeaaL1
namespace Go.Proofs.Ytcbkllecdelfeaa
open Go.RowKit
set_option linter.unusedVariables false

def sumT : List ByteArray → Int
  | [] => 0
  | s :: l => (s.size : Int) + 2 + sumT l
theorem sumT_app (a b : List ByteArray) : sumT (a ++ b) = sumT a + sumT b := by
  induction a with
  | nil => simp [sumT]
  | cons x a ih => simp [sumT, ih]; omega
theorem sumT_snoc (ss : List ByteArray) (k : Nat) (hk : k < ss.length) : sumT (ss.take (k + 1)) = sumT (ss.take k) + (ss[k].size + 2) := by
  rw [List.take_succ_eq_append_getElem hk, sumT_app]; simp [sumT]
theorem sumT_le {ss : List ByteArray} {m : Nat} (h : ∀ s ∈ ss, s.size ≤ m) : 0 ≤ sumT ss ∧ sumT ss ≤ ss.length * ((m : Int) + 2) := by
  induction ss with
  | nil => simp [sumT]
  | cons x a ih =>
    have h1 := h x (by simp)
    have h2 := ih (fun s hs => h s (by simp [hs]))
    simp only [sumT, List.length_cons]
    rw [show ((a.length + 1 : Nat) : Int) = (a.length : Int) + 1 from by omega, Int.add_mul]
    omega
theorem sumT_take {ss : List ByteArray} (hl : ss.length ≤ 100) (h : ∀ s ∈ ss, s.size ≤ 1200) (k : Nat) : 0 ≤ sumT (ss.take k) ∧ sumT (ss.take k) ≤ 120200 := by
  have h1 := sumT_le (ss := ss.take k) (m := 1200) (fun s hs => h s (List.mem_of_mem_take hs))
  have h2 : (ss.take k).length ≤ 100 := by rw [List.length_take]; omega
  have h3 : ((ss.take k).length : Int) * ((1200 : Nat) + 2 : Int) ≤ 100 * ((1200 : Nat) + 2 : Int) := Int.mul_le_mul_of_nonneg_right (by omega) (by decide)
  omega
theorem outL_at (ss : List ByteArray) (k : Nat) (hk : k < ss.length) : (outL ss)[k]? = some (outS ss[k]) := by
  unfold outL
  rw [List.getElem?_append_left (by simpa using hk), List.getElem?_map, List.getElem?_eq_getElem hk]; rfl
theorem outL_last (ss : List ByteArray) : (outL ss)[ss.length]? = some ⟨#[46]⟩ := by
  unfold outL
  rw [List.getElem?_append_right (by simp)]; simp

/-- A row lies apart from a taker. -/
def Apart (v : Value) (g : Nat) (r : Option Nat) : Prop := ∀ k, v.ownBlock = some k → ¬ Foot g r k
theorem apart_step {w : World} {base n : Nat} {e : TypeId} {v : Value} {xs : List Value} {g : Nat} {r r' : Option Nat} (h : Apart v g r) (hn : RowNew w r r') (ho : w.ownsRow base e 1 v n xs) : Apart v g r' := by
  intro k hk hf
  rcases hf with rfl | hf
  · exact h k hk (.inl rfl)
  · rcases hn with rfl | ⟨k', rfl, hk'⟩
    · exact h k hk (.inr hf)
    · have := (ho.lt k hk).2
      injection hf with hf
      omega
theorem Rd.get {w : World} {B : Nat} {A : Option Addr} {xs : List Value} (h : Rd w B A xs) {k : Nat} {u : Value} (hk : xs[k]? = some u) : ∃ b o, A = some ⟨b, o, none⟩ ∧ b < B ∧ w.cell? ⟨b, o + k, none⟩ = some u := by
  rcases h with rfl | ⟨b, o, e, hb, hc⟩
  · simp at hk
  · exact ⟨b, o, e, hb, hc k _ hk⟩

theorem take_back {ss : List ByteArray} (hl : ss.length ≤ 100) (hz : ∀ s ∈ ss, s.size ≤ 1200) (k : Nat) (hk : k < ss.length) :
    takeT 1000 1048576 (ss.take k, sumT (ss.take k), false) (outS ss[k]) = (ss.take (k + 1), sumT (ss.take (k + 1)), false) := by
  have h1 := sumT_take hl hz k
  have h2 := sumT_snoc ss k hk
  have h3 := hz _ (List.getElem_mem hk)
  unfold takeT
  rw [out_end, in_out]
  have e1 : (((ss.take k).length : Int) == 1000) = false := by rw [beq_eq_false_iff_ne, List.length_take]; omega
  have e2 : decide ((1048576 : Int) < sumT (ss.take k) + (ss[k].size + 2)) = false := by simp; omega
  simp only [e1, e2, Bool.or_false]
  rw [h2, List.take_succ_eq_append_getElem hk]; rfl

set_option maxHeartbeats 2000000 in
theorem back_walk (A : Option Addr) (c : Nat) (ss : List ByteArray) (w : World) (hr : Rd w w.heap.size A (ss.map .string)) (hn : ss.length ≤ 9223372036854775807) :
    Calls Try.prog 5 #[.slice A ss.length c] w fun e w' => e = .returned (.bool true) ∧ Below w.heap.size w w' := by
  go_enter Try.func5, Try.ntmps5
  go_wp2_with fail
  refine (small_any w).mono ?_
  rintro e w1 ⟨rfl, b1⟩
  have hr1 := rd_next hr b1
  go_wp2_with fail
  refine (few_any A c ss w1 _ hr1 hn).mono ?_
  rintro e w' ⟨rfl, rfl⟩
  go_wp2_with fail
  refine (new_any 1000 1048576 w1).mono ?_
  rintro e w2 ⟨rfl, hw2⟩
  have k2 : Tk w2 w1.heap.size w1.heap.size none [] 1000 1048576 0 false := by rw [← hw2]; exact tk_new w1 _ _
  have b2 : Below w1.heap.size w1 w2 := by rw [← hw2]; exact (Below.refl _ _).alloc (Nat.le_refl _) _
  clear hw2
  have B2 : Below w.heap.size w w2 := b1.trans (b2.mono b1.size)
  have hr2 := rd_next hr1 b2
  cases hf : fewB ss with
  | false =>
    go_wp2_with fail
    go_ret
    exact ⟨rfl, B2⟩
  | true =>
    obtain ⟨hl, hz⟩ := few_sizes hf
    have Hz := Lib.hid hz
    clear hf hz
    go_wp2_with fail
    refine (out_any A c ss w2 hr2 (by omega) (fun x hx => by have := Hz.out x hx; omega)).mono ?_
    rintro e w3 ⟨v, rfl, hv, b3⟩
    have hr3 := rd_next hr2 b3
    have k3 := tx_below k2 b3
    have hap : Apart v w1.heap.size none := tx_far k2 hv
    obtain ⟨A3, c3, rfl⟩ := own_form hv
    have B3 : Below w.heap.size w w3 := B2.trans (b3.mono B2.size)
    have hneq : (((ss.length : Int) + 1) != ((ss.length : Int) + 1)) = false := by simp
    have z1 := b1.size
    have z3 := b3.size
    have z2 := b2.size
    clear b1 b2 b3 hr1 hr2 k2 B2 hr3
    go_wp2_with fail
    go_loopw [7] (fun i wr => ∃ (k : Nat) (r : Option Nat), k ≤ ss.length + 1 ∧ i = .int .i64 k ∧ Tk wr w1.heap.size w1.heap.size r (ss.take k) 1000 1048576 (sumT (ss.take k)) false ∧ wr.ownsRow w2.heap.size 9 1 (.slice A3 (ss.length + 1) c3) (ss.length + 1) ((outL ss).map .string) ∧ Apart (.slice A3 (ss.length + 1) c3) w1.heap.size r ∧ Below w.heap.size w wr ∧ w3.heap.size ≤ wr.heap.size) (fun i _ => ss.length + 1 - (intOf i).toNat)
    case atStart => exact ⟨0, none, by omega, rfl, k3, hv, hap, B3, Nat.le_refl _⟩
    case round =>
      obtain ⟨k, r, hk, rfl, kt, ho, hap, Bw, hsz⟩ := hrel
      have hst := sumT_take hl Hz.out k
      have hkl : (ss.take k).length ≤ 1000 := by rw [List.length_take]; omega
      have Bz := Bw.size
      have hrd := own_rd ho
      by_cases h1 : k < ss.length
      · obtain ⟨b, o, rfl, hb, hc⟩ := hrd.get (k := k) (u := .string (outS ss[k])) (by rw [List.getElem?_map, outL_at ss k h1]; rfl)
        have hki : ((k : Int) == (ss.length : Int)) = false := by rw [beq_eq_false_iff_ne]; omega
        have htb := take_back hl Hz.out k h1
        have Htb := Lib.hid htb
        have hsk : (outS ss[k]).size ≤ 1000000 := by rw [out_size]; have := Hz.out _ (List.getElem_mem h1); split <;> omega
        have hne := out_end ss[k]
        clear htb hrd
        generalize outS ss[k] = S at *
        go_wp2_with fail
        refine (take_any wr w1.heap.size w1.heap.size r (ss.take k) 1000 1048576 (sumT (ss.take k)) false S kt hsk (by omega) (by omega) hkl (by omega)).mono ?_
        rintro e w4 ⟨rfl, r', kt', hn', ho4⟩
        rw [Htb.out] at kt'
        simp only [hne]
        have o4 := own_only ho ho4 hap
        have hap' := apart_step hap hn' ho
        have Bw4 := ho4.belowOf Bw (Nat.le_refl _) (fun j hj => Nat.le_trans z1 (tx_foot kt j hj))
        have z4 := ho4.size
        clear ho kt hap hn' ho4 Htb
        go_wp2_with fail
        exact ⟨⟨k + 1, r', by omega, by go_num, kt', o4, hap', Bw4, by omega⟩, by simp [intOf]; omega⟩
      · by_cases h2 : k = ss.length
        · subst h2
          obtain ⟨b, o, rfl, hb, hc⟩ := hrd.get (k := ss.length) (u := .string ⟨#[46]⟩) (by rw [List.getElem?_map, outL_last ss]; rfl)
          have hki : ((ss.length : Int) == (ss.length : Int)) = true := by simp
          clear hrd
          go_wp2_with fail
          refine (take_end _ _ wr (by decide) e2).mono ?_
          rintro e w' ⟨rfl, rfl⟩
          go_wp2_with fail
          exact ⟨⟨ss.length + 1, r, by omega, by go_num, by rw [List.take_of_length_le (by omega)] at *; exact kt, ho, hap, Bw, hsz⟩, by simp [intOf]⟩
        · have h3 : k = ss.length + 1 := by omega
          subst h3
          rw [List.take_of_length_le (by omega)] at kt
          have hrl := rd_next hr Bw
          go_wp2_with fail
          refine (over_any _ _ _ _ _ _ _ _ _ kt).mono ?_
          rintro e w' ⟨rfl, rfl⟩
          go_wp2_with fail
          refine (lines_any _ _ _ _ _ _ _ _ kt (by omega)).mono ?_
          rintro e w5 ⟨A5, c5, rfl, hv5, b5⟩
          have B5 := Bw.trans (b5.mono Bz)
          go_wp2_with fail
          have hro := rows_any A5 A c5 c ss ss w5 (own_rd hv5) (rd_next hrl b5) (by omega) (by omega)
          rw [rows_refl] at hro
          refine hro.mono ?_
          rintro e w6 ⟨rfl, b6⟩
          have B6 := B5.trans (b6.mono B5.size)
          clear hro
          go_wp2_with fail
          go_ret
          exact ⟨rfl, B6⟩
end Go.Proofs.Ytcbkllecdelfeaa
