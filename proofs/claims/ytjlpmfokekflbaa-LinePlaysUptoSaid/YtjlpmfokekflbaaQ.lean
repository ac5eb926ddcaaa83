/- Same (of one row in two places), short. -/
import Derived.Test.YtjlpmfokekflbaaO
namespace Go.Proofs.Ytjlpmfokekflbaa
open Go.RowKit
set_option linter.unusedVariables false

theorem fr_at {w : World} {B : Nat} {A : Option Addr} {l : List Fr} (h : Rd w B A (l.flatMap Fr.cells)) {k : Nat} (hk : k < l.length) :
    ∃ b o, A = some ⟨b, o, none⟩ ∧ b < B ∧ w.cell? ⟨b, o + k * 3, none⟩ = some (.string ⟨l[k].text.toArray⟩) ∧ w.cell? ⟨b, o + k * 3 + 1, none⟩ = some (.bool l[k].long) ∧ w.cell? ⟨b, o + k * 3 + 2, none⟩ = some (.bool l[k].bare) := by
  have hlen : (l.flatMap Fr.cells).length = l.length * 3 := flat_len Fr.len l
  rcases h with h | ⟨b, o, rfl, hb, hc⟩
  · rw [h] at hlen; simp at hlen; omega
  · refine ⟨b, o, rfl, hb, ?_, ?_, ?_⟩
    · have := hc (k * 3 + 0) _ (by rw [flat_get Fr.len l k 0 hk (by omega)]; rfl)
      simpa using this
    · have := hc (k * 3 + 1) _ (by rw [flat_get Fr.len l k 1 hk (by omega)]; rfl)
      simpa [Nat.add_assoc] using this
    · have := hc (k * 3 + 2) _ (by rw [flat_get Fr.len l k 2 hk (by omega)]; rfl)
      simpa [Nat.add_assoc] using this
set_option maxRecDepth 100000 in
set_option maxHeartbeats 1000000 in
theorem same_any (A A' : Option Addr) (c c' : Nat) (l : List Fr) (w : World) (hx : Rd w w.heap.size A (l.flatMap Fr.cells)) (hy : Rd w w.heap.size A' (l.flatMap Fr.cells)) (hn : l.length ≤ 4000000) :
    Calls Try.prog 13 #[.slice A l.length c, .slice A' l.length c'] w fun e w' => e = .returned (.bool true) ∧ Below w.heap.size w w' := by
  have Hx := Lib.hid hx; have Hy := Lib.hid hy
  clear hx hy
  go_enter Try.func13, Try.ntmps13
  go_wp2_with fail
  go_loopw [5] (fun i wr => ∃ n q : Nat, n ≤ l.length ∧ i = .int .i64 n ∧ wr = w.drewN q) (fun i _ => l.length - (intOf i).toNat)
  case atStart => exact ⟨0, 0, by omega, rfl, rfl⟩
  case round =>
    obtain ⟨n, q, hn2, rfl, rfl⟩ := hrel
    by_cases hlt : n < l.length
    · have hz : (n : Int) < l.length := by omega
      obtain ⟨b, o, rfl, hb, p0, p1, p2⟩ := fr_at Hx.out hlt
      obtain ⟨b', o', rfl, hb', q0, q1, q2⟩ := fr_at Hy.out hlt
      generalize l[n] = r at *
      go_wp2_with fail
      go_quiet (fail)
      go_wp2_with fail
      exact ⟨⟨n + 1, q + nq, by omega, by go_num, by simp⟩, by simp [intOf]; omega⟩
    · obtain rfl : n = l.length := by omega
      go_wp2_with fail
      go_ret
      exact ⟨rfl, below_drewN (Below.refl _ _) _⟩

/-- How long pieces are, one more for each. -/
def totL (l : List ByteArray) : Nat := (l.map fun s => s.size + 1).sum
theorem tot_take {l : List ByteArray} {k : Nat} (h : k < l.length) : totL (l.take (k + 1)) = totL (l.take k) + l[k].size + 1 := by
  unfold totL
  rw [List.take_succ_eq_append_getElem h, List.map_append, List.sum_append]
  simp
  omega
theorem tot_le (l : List ByteArray) (k : Nat) : totL (l.take k) ≤ totL l := by
  have : totL l = totL (l.take k) + totL (l.drop k) := by
    unfold totL
    rw [← List.sum_append, ← List.map_append, List.take_append_drop]
  omega
theorem len_tot (l : List ByteArray) : l.length ≤ totL l := by
  unfold totL
  induction l with
  | nil => simp
  | cons a l ih => simp; omega
set_option maxRecDepth 100000 in
set_option maxHeartbeats 1000000 in
theorem short_any (A : Option Addr) (c : Nat) (l : List ByteArray) (most : Int) (w : World) (hx : Rd w w.heap.size A (l.map .string)) (hn : totL l ≤ 4000000) :
    Calls Try.prog 9 #[.slice A l.length c, .int .i64 most] w fun e w' => e = .returned (.bool (decide ((totL l : Int) ≤ most))) ∧ w = w' := by
  have Hx := Lib.hid hx
  have hll := Nat.le_trans (len_tot l) hn
  clear hx
  go_enter Try.func9, Try.ntmps9
  go_wp2_with fail
  go_loopw [5, 6] (fun s i wr => ∃ n : Nat, n ≤ l.length ∧ s = .int .i64 (totL (l.take n) : Int) ∧ i = .int .i64 n ∧ wr = w) (fun _ i _ => l.length - (intOf i).toNat)
  case atStart => exact ⟨0, by omega, rfl, rfl, rfl⟩
  case round =>
    obtain ⟨n, hn2, rfl, rfl, rfl⟩ := hrel
    by_cases hlt : n < l.length
    · have hz : (n : Int) < l.length := by omega
      obtain ⟨b, o, rfl, hb, hc⟩ := Rd.at_ Hx.out (k := n) (by simpa using hlt)
      rw [List.getElem_map] at hc
      have ht := tot_take hlt
      have hle := tot_le l (n + 1)
      obtain ⟨m, hm⟩ : ∃ m, totL (l.take n) = m := ⟨_, rfl⟩
      generalize l[n] = r at *
      rw [hm] at ht ⊢
      have HT := Lib.hid ht
      have hb1 : m + r.size + 1 ≤ 4000000 := by omega
      have hw1 : wrap64 ((m : Int) + r.size) = (m : Int) + r.size := by unfold wrap64; omega
      have hw2 : wrap64 ((m : Int) + r.size + 1) = (m : Int) + r.size + 1 := by unfold wrap64; omega
      clear ht hle hm
      go_wp2_with fail
      exact ⟨⟨n + 1, by omega, by rw [HT.out]; push_cast; rfl, by go_num, trivial⟩, by simp [intOf]; omega⟩
    · obtain rfl : n = l.length := by omega
      rw [List.take_length]
      go_wp2_with fail
      go_ret
      exact ⟨rfl, rfl⟩
end Go.Proofs.Ytjlpmfokekflbaa
