/- The law QueueStates in plain words: what one call may turn. -/
import Derived.Test.YtlbghgmeiajioaaIn
namespace Go.Proofs.Ytlbghgmeiajioaa
set_option linter.unusedVariables false

/-- How a recipient may turn. -/
structure Chk (T : Int) (null : Bool) (a b : Rc) : Prop where
  open_ : a.state ≤ 1
  path : b.path = a.path
  most : b.tries ≤ T
  more : a.tries ≤ b.tries
  low : 0 ≤ b.state
  high : b.state ≤ 4
  going : 1 < b.state → a.state = 1
  drop : (b.state = 4) ↔ (2 < b.state ∧ null = true)
/-- One call: item i's recipient j may turn, or an item comes. -/
structure Rel (T : Int) (l l' : List It) (i j : Nat) : Prop where
  ge : l.length ≤ l'.length
  le : l'.length ≤ l.length + 1
  none_ : l.length < l'.length → l.length ≤ i
  at_ : ∀ k (hk : k < l.length) (hk' : k < l'.length), l'[k].id = (k : Int) + 1 ∧ l'[k].frm = l[k].frm ∧ l'[k].lines = l[k].lines ∧ l'[k].to.length = l[k].to.length ∧
    ∀ n (hn : n < l[k].to.length) (hn' : n < l'[k].to.length), l'[k].to[n] = l[k].to[n] ∨ (k = i ∧ n = j ∧ Chk T l[k].frm.null l[k].to[n] l'[k].to[n])
/-- Has the place been passed? -/
def pas (i j k n : Nat) : Nat := if i < k ∨ (i = k ∧ j < n) then 1 else 0
theorem Rel.same {T : Int} {m : Nat} {l : List It} (h : Inv T m l) : Rel T l l l.length 0 :=
  ⟨Nat.le_refl _, Nat.le_succ _, fun h => Nat.le_refl _, fun k hk hk' => ⟨h.ids k hk, rfl, rfl, rfl, fun n hn hn' => .inl rfl⟩⟩
theorem Rel.snoc {T : Int} {m : Nat} {l : List It} (h : Inv T m l) (x : It) : Rel T l (l ++ [x]) l.length 0 := by
  refine ⟨by simp, by simp, fun h => Nat.le_refl _, fun k hk hk' => ?_⟩
  have e : (l ++ [x])[k] = l[k] := List.getElem_append_left hk
  rw [e]
  refine ⟨h.ids k hk, rfl, rfl, rfl, fun n hn hn' => .inl ?_⟩
  rfl
theorem Rel.upd {T : Int} {m : Nat} {l : List It} (h : Inv T m l) {i j : Nat} {f : Rc → Rc} (hf : ∀ (hi : i < l.length) (hj : j < l[i].to.length), Chk T l[i].frm.null l[i].to[j] (f l[i].to[j])) : Rel T l (upd l i j f) i j := by
  unfold Proofs.Ytlbghgmeiajioaa.upd
  refine ⟨by simp, by simp, fun h => by simp at h, fun k hk hk' => ?_⟩
  rcases Nat.lt_trichotomy i k with h1 | h1 | h1
  · simp only [List.getElem_modify, if_neg (show ¬ i = k by omega)]
    exact ⟨h.ids k hk, by trivial, by trivial, by trivial, fun n hn hn' => .inl (by trivial)⟩
  · subst h1
    simp only [List.getElem_modify, if_true]
    refine ⟨h.ids i hk, trivial, trivial, by simp, fun n hn hn' => ?_⟩
    by_cases h2 : j = n
    · subst h2
      exact .inr ⟨trivial, rfl, by simpa using hf hk hn⟩
    · exact .inl (by simp [h2])
  · simp only [List.getElem_modify, if_neg (show ¬ i = k by omega)]
    exact ⟨h.ids k hk, by trivial, by trivial, by trivial, fun n hn hn' => .inl (by trivial)⟩
section
variable {T : Int} {m : Nat} {l : List It}
theorem rel_take (h : Inv T m l) (id k : Int) : ∃ i j, Rel T l (takeS l id k).2 i j := by
  rcases pos_cases l id k 0 with ⟨i, j, hp, _, _, hi, hj, hs⟩ | ⟨hp, _⟩
  · unfold takeS
    rw [hp]
    refine ⟨i, j, Rel.upd h fun hi hj => ?_⟩
    obtain ⟨h1, h2, h3, h4, h5, h6⟩ := h.at_ hi hj
    have hs' : l[i].to[j].state = 0 := by simpa using hs
    have := h3 hs'
    exact ⟨by omega, rfl, by show _ + 1 ≤ T; omega, by show _ ≤ _ + 1; omega, by simp, by simp, fun h => by simp at h, by simp⟩
  · unfold takeS
    rw [hp]
    exact ⟨_, _, Rel.same h⟩
theorem rel_sent (h : Inv T m l) (id k : Int) : ∃ i j, Rel T l (sentS l id k).2 i j := by
  rcases pos_cases l id k 1 with ⟨i, j, hp, _, _, hi, hj, hs⟩ | ⟨hp, _⟩
  · unfold sentS
    rw [hp]
    refine ⟨i, j, Rel.upd h fun hi hj => ?_⟩
    obtain ⟨h1, h2, h3, h4, h5, h6⟩ := h.at_ hi hj
    have hs' : l[i].to[j].state = 1 := by simpa using hs
    exact ⟨by omega, rfl, h2, Int.le_refl _, by simp, by simp, fun _ => hs', by simp⟩
  · unfold sentS
    rw [hp]
    exact ⟨_, _, Rel.same h⟩
theorem rel_fail (h : Inv T m l) (id k st : Int) : ∃ i j, Rel T l (failS l id k st).2 i j := by
  rcases pos_cases l id k 1 with ⟨i, j, hp, _, _, hi, hj, hs⟩ | ⟨hp, _⟩
  · unfold failS
    rw [hp]
    refine ⟨i, j, Rel.upd h fun hi hj => ?_⟩
    obtain ⟨h1, h2, h3, h4, h5, h6⟩ := h.at_ hi hj
    have hs' : l[i].to[j].state = 1 := by simpa using hs
    unfold closed
    rw [null_at hi]
    cases hb : l[i].frm.null
    · exact ⟨by omega, rfl, h2, Int.le_refl _, by simp, by simp, fun _ => hs', by simp⟩
    · exact ⟨by omega, rfl, h2, Int.le_refl _, by simp, by simp, fun _ => hs', by simp⟩
  · unfold failS
    rw [hp]
    exact ⟨_, _, Rel.same h⟩
theorem rel_later (h : Inv T m l) (D id k now : Int) : ∃ i j, Rel T l (laterS T D l id k now).2 i j := by
  rcases pos_cases l id k 1 with ⟨i, j, hp, _, _, hi, hj, hs⟩ | ⟨hp, _⟩
  · unfold laterS
    rw [hp]
    simp only
    split
    · exact rel_fail h id k 447
    · refine ⟨i, j, Rel.upd h fun hi hj => ?_⟩
      obtain ⟨h1, h2, h3, h4, h5, h6⟩ := h.at_ hi hj
      have hs' : l[i].to[j].state = 1 := by simpa using hs
      exact ⟨by omega, rfl, h2, Int.le_refl _, by simp, by simp, fun h => by simp at h, by simp⟩
  · unfold laterS
    rw [hp]
    exact ⟨_, _, Rel.same h⟩
theorem rel_add (h : Inv T m l) (room : Int) (ml : Ml) (force : Bool) : ∃ i j, Rel T l (addS room l ml force).2.2 i j := by
  unfold addS
  split
  · exact ⟨_, _, Rel.same h⟩
  · split
    · exact ⟨_, _, Rel.same h⟩
    · exact ⟨_, _, Rel.snoc h _⟩
end
theorem pas_le (i j k n : Nat) : pas i j k n ≤ 1 := by unfold pas; split <;> omega
theorem pas_mono (i j k n : Nat) : pas i j k n ≤ pas i j k (n + 1) := by unfold pas; split <;> split <;> omega
theorem pas_next (i j k n : Nat) : pas i j k n ≤ pas i j (k + 1) 0 := by unfold pas; split <;> split <;> omega
theorem pas_here (i j : Nat) : pas i j i j = 0 := by unfold pas; rw [if_neg (by omega)]
theorem pas_past (i j : Nat) : pas i j i (j + 1) = 1 := by unfold pas; rw [if_pos (by omega)]
theorem pas_far {i j k : Nat} (h : k ≤ i) : pas i j k 0 = 0 := by unfold pas; rw [if_neg (by omega)]
end Go.Proofs.Ytlbghgmeiajioaa
