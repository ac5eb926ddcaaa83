/- The law QueueRoom in plain words: k items of one recipient, the first d Sent. -/
import Derived.Test.YtlbghgmeiajioaaAp
namespace Go.Proofs.Ytlbghgmeiajioaa
set_option linter.unusedVariables false

def pR : Pth := ⟨true, ⟨#[]⟩, ⟨#[]⟩⟩
def mR : Ml := ⟨⟨false, ⟨#[]⟩, ⟨#[]⟩⟩, [pR], [], ⟨false, false, false, 0, 0⟩, 0⟩
def itR (i : Nat) (s t : Int) : It := ⟨(i : Int) + 1, mR.frm, [⟨pR, s, t, 0, 0⟩], [], mR.flags, 0⟩
def RL (k d : Nat) : List It := (List.range k).map fun i => if i < d then itR i 2 1 else itR i 0 0
/-- The same while item d is Going. -/
def RM (k d : Nat) : List It := (List.range k).map fun i => if i < d then itR i 2 1 else if i = d then itR i 1 1 else itR i 0 0

theorem RL_len (k d : Nat) : (RL k d).length = k := by simp [RL]
theorem RM_len (k d : Nat) : (RM k d).length = k := by simp [RM]
theorem RL_get (k d i : Nat) (h : i < (RL k d).length) : (RL k d)[i] = if i < d then itR i 2 1 else itR i 0 0 := by simp [RL]
theorem RM_get (k d i : Nat) (h : i < (RM k d).length) : (RM k d)[i] = if i < d then itR i 2 1 else if i = d then itR i 1 1 else itR i 0 0 := by simp [RM]
theorem RL_succ (k : Nat) : RL (k + 1) 0 = RL k 0 ++ [newI (RL k 0) mR] := by
  simp [RL, List.range_succ, newI, itR, mR, newR]
theorem itR_open (i : Nat) (s t : Int) : openI (itR i s t) = (s == 0 || s == 1) := by simp [openI, itR, openR]
theorem RL_open (k d : Nat) (h : d ≤ k) : openN (RL k d) = k - d := by
  induction k with
  | zero => simp [RL, openN]
  | succ k ih =>
    unfold openN RL at *
    rw [List.range_succ, List.map_append, List.countP_append]
    rcases Nat.lt_or_ge k d with h1 | h1
    · obtain rfl : d = k + 1 := by omega
      have : (List.range k).map (fun i => if i < k + 1 then itR i 2 1 else itR i 0 0) = (List.range k).map (fun i => if i < k then itR i 2 1 else itR i 0 0) := by
        apply List.map_congr_left
        intro i hi
        rw [List.mem_range] at hi
        rw [if_pos hi, if_pos (by omega)]
      rw [this]
      have h3 : ∀ n, ((List.range n).map (fun i => if i < n then itR i 2 1 else itR i 0 0)).countP openI = 0 := by
        intro n
        rw [List.countP_eq_zero]
        intro x hx
        obtain ⟨i, hi, rfl⟩ := List.mem_map.1 hx
        rw [List.mem_range] at hi
        rw [if_pos hi, itR_open]
        decide
      rw [h3]
      simp [itR_open]
    · rw [ih h1]
      simp only [List.map_cons, List.map_nil, List.countP_cons, List.countP_nil, if_neg (show ¬ k < d by omega), itR_open]
      simp
      omega
theorem R_small (l : List It) (k : Nat) (hk : k ≤ 1000) (hl : l.length = k) (h : ∀ i (hi : i < l.length), ∃ s t, l[i] = itR i s t ∧ 0 ≤ t ∧ t ≤ 1) : Small l := by
  refine ⟨by omega, fun it hit => ?_⟩
  obtain ⟨i, hi, rfl⟩ := List.getElem_of_mem hit
  obtain ⟨s, t, e, h1, h2⟩ := h i hi
  rw [e]
  refine ⟨by simp [itR], fun r hr => ?_⟩
  simp [itR] at hr
  subst hr
  exact ⟨h1, by show t ≤ 1000; omega⟩
theorem RL_small (k d : Nat) (hk : k ≤ 1000) : Small (RL k d) := R_small _ k hk (RL_len k d) fun i hi => by
  rw [RL_get]
  split
  · exact ⟨2, 1, rfl, by decide, by decide⟩
  · exact ⟨0, 0, rfl, by decide, by decide⟩
theorem RM_small (k d : Nat) (hk : k ≤ 1000) : Small (RM k d) := R_small _ k hk (RM_len k d) fun i hi => by
  rw [RM_get]
  split
  · exact ⟨2, 1, rfl, by decide, by decide⟩
  · split
    · exact ⟨1, 1, rfl, by decide, by decide⟩
    · exact ⟨0, 0, rfl, by decide, by decide⟩
theorem RL_add (room : Int) (k : Nat) (force : Bool) : addS room (RL k 0) mR force = if decide (room ≤ (k : Int)) && !force then (0, 2, RL k 0) else ((k : Int) + 1, 0, RL (k + 1) 0) := by
  unfold addS
  rw [if_neg (by decide), RL_open k 0 (Nat.zero_le _), RL_len, RL_succ]
  simp

theorem pos_R (l : List It) (d : Nat) (hd : d < l.length) (s t : Int) (e : l[d] = itR d s t) (st : Int) : pos l ((d : Int) + 1) 0 st = if s == st then some (d, 0) else none := by
  unfold pos
  rw [if_pos (by omega), show ((d : Int) + 1 - 1).toNat = d by omega, List.getElem?_eq_getElem hd, e]
  rfl
theorem RL_take (k d : Nat) (h : d < k) : takeS (RL k d) ((d : Int) + 1) 0 = (true, RM k d) := by
  have hl : d < (RL k d).length := by rw [RL_len]; exact h
  unfold takeS
  rw [pos_R (RL k d) d hl 0 0 (by rw [RL_get, if_neg (by omega)]) 0]
  simp only [beq_self_eq_true, if_true]
  congr 1
  unfold upd
  apply List.ext_getElem
  · simp [RL_len, RM_len]
  · intro i h1 h2
    rw [List.getElem_modify, RM_get, RL_get]
    rcases Nat.lt_trichotomy d i with h3 | h3 | h3
    · rw [if_neg (by omega), if_neg (by omega), if_neg (by omega), if_neg (by omega)]
    · subst h3
      rw [if_pos rfl, if_neg (by omega), if_neg (by omega), if_pos rfl]
      rfl
    · rw [if_neg (by omega), if_pos h3, if_pos h3]
theorem RL_sent (k d : Nat) (h : d < k) : sentS (RM k d) ((d : Int) + 1) 0 = (true, RL k (d + 1)) := by
  have hl : d < (RM k d).length := by rw [RM_len]; exact h
  unfold sentS
  rw [pos_R (RM k d) d hl 1 1 (by rw [RM_get, if_neg (by omega), if_pos rfl]) 1]
  simp only [beq_self_eq_true, if_true]
  congr 1
  unfold upd
  apply List.ext_getElem
  · simp [RL_len, RM_len]
  · intro i h1 h2
    rw [List.getElem_modify, RM_get, RL_get]
    rcases Nat.lt_trichotomy d i with h3 | h3 | h3
    · rw [if_neg (by omega), if_neg (by omega), if_neg (by omega), if_neg (by omega)]
    · subst h3
      rw [if_pos rfl, if_neg (by omega), if_pos rfl, if_pos (by omega)]
      rfl
    · rw [if_neg (by omega), if_pos h3, if_pos (by omega)]
theorem itR_recs (i : Nat) (s t : Int) : recs (itR i s t) = [(((i : Int) + 1, 0), ⟨pR, s, t, 0, 0⟩)] := by simp [recs, itR]
theorem RL_due (k d : Nat) (h : d < k) (now : Int) (hn : 0 ≤ now) : dueS (RL k d) now = ((d : Int) + 1, 0, true) := by
  have hl : d < (RL k d).length := by rw [RL_len]; exact h
  have hp := allL_at (RL k d) d hl 1
  rw [RL_get, if_neg (by omega), itR_recs] at hp
  refine due_some (x := (((d : Int) + 1, 0), ⟨pR, 0, 0, 0, 0⟩)) hp ?_ ?_
  · intro y hy
    obtain ⟨it, hit, hy⟩ := List.mem_flatMap.1 hy
    obtain ⟨i, hi, rfl⟩ := List.getElem_of_mem hit
    simp only [List.length_take] at hi
    rw [List.getElem_take, RL_get, if_pos (by omega), itR_recs] at hy
    simp at hy
    subst hy
    rfl
  · simp [dueP, hn]
theorem RL_over (k : Nat) (now : Int) : dueS (RL k k) now = (0, 0, false) := by
  refine due_none fun x hx => ?_
  obtain ⟨it, hit, hx⟩ := List.mem_flatMap.1 hx
  obtain ⟨i, hi, rfl⟩ := List.getElem_of_mem hit
  have hi' : i < k := by rw [RL_len] at hi; exact hi
  rw [RL_get, if_pos hi', itR_recs] at hx
  simp at hx
  subst hx
  rfl
end Go.Proofs.Ytlbghgmeiajioaa
