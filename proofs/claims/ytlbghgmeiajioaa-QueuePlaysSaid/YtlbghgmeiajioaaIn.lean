/- What holds of a queue behind any calls: small numbers, ids as they lie, tries. -/
import Derived.Test.YtlbghgmeiajioaaAp
namespace Go.Proofs.Ytlbghgmeiajioaa
set_option linter.unusedVariables false

/-- A recipient of an item as calls leave it. -/
def RcI (T : Int) (null : Bool) (r : Rc) : Prop :=
  0 ≤ r.tries ∧ r.tries ≤ T ∧ (r.state = 0 → r.tries < T) ∧ 0 ≤ r.state ∧ r.state ≤ 4 ∧ ((r.state = 4) ↔ (2 < r.state ∧ null = true))
structure Inv (T : Int) (n : Nat) (l : List It) : Prop where
  pos : 1 ≤ T
  most : T ≤ 16
  len : l.length ≤ n
  ids : ∀ i (hi : i < l.length), l[i].id = (i : Int) + 1
  to : ∀ it ∈ l, it.to.length ≤ 100
  lines : ∀ it ∈ l, it.lines.length ≤ 50
  rc : ∀ it ∈ l, ∀ r ∈ it.to, RcI T it.frm.null r
theorem Inv.nil {T : Int} (n : Nat) (h1 : 1 ≤ T) (h2 : T ≤ 16) : Inv T n [] := ⟨h1, h2, by simp, by simp, by simp, by simp, by simp⟩
theorem Inv.small {T : Int} {n : Nat} {l : List It} (h : Inv T n l) (hn : n ≤ 1000) : Small l :=
  ⟨Nat.le_trans h.len hn, fun it hit => ⟨h.to it hit, fun r hr => by obtain ⟨h1, h2, _⟩ := h.rc it hit r hr; have := h.most; exact ⟨h1, by omega⟩⟩⟩
theorem Inv.more {T : Int} {n n' : Nat} {l : List It} (h : Inv T n l) (hn : n ≤ n') : Inv T n' l := ⟨h.pos, h.most, Nat.le_trans h.len hn, h.ids, h.to, h.lines, h.rc⟩

theorem mem_modify {α : Type} {l : List α} {i : Nat} {f : α → α} {x : α} (h : x ∈ l.modify i f) : x ∈ l ∨ ∃ (hi : i < l.length), x = f l[i] := by
  obtain ⟨j, hj, rfl⟩ := List.getElem_of_mem h
  rw [List.getElem_modify]
  have hj' : j < l.length := by simpa using hj
  split
  · rename_i e
    subst e
    exact .inr ⟨hj', rfl⟩
  · exact .inl (List.getElem_mem hj')
theorem Inv.upd {T : Int} {n : Nat} {l : List It} (h : Inv T n l) {i j : Nat} {f : Rc → Rc} (hf : ∀ (hi : i < l.length) (hj : j < l[i].to.length), RcI T l[i].frm.null (f l[i].to[j])) : Inv T n (upd l i j f) := by
  unfold Proofs.Ytlbghgmeiajioaa.upd
  have hmem : ∀ {it}, it ∈ l.modify i (fun it => { it with to := it.to.modify j f }) → ∃ it0 ∈ l, it.frm = it0.frm ∧ it.lines = it0.lines ∧ it.to.length = it0.to.length := fun {it} hit => by
    rcases mem_modify hit with h1 | ⟨hi, rfl⟩
    · exact ⟨it, h1, rfl, rfl, rfl⟩
    · exact ⟨l[i], List.getElem_mem hi, rfl, rfl, by simp⟩
  refine ⟨h.pos, h.most, by simpa using h.len, ?_, ?_, ?_, ?_⟩
  · intro k hk
    rw [List.getElem_modify]
    have hk' : k < l.length := by simpa using hk
    split
    · exact h.ids k hk'
    · exact h.ids k hk'
  · intro it hit
    obtain ⟨it0, h0, _, _, e⟩ := hmem hit
    rw [e]; exact h.to it0 h0
  · intro it hit
    obtain ⟨it0, h0, _, e, _⟩ := hmem hit
    rw [e]; exact h.lines it0 h0
  · intro it hit r hr
    rcases mem_modify hit with h1 | ⟨hi, rfl⟩
    · exact h.rc it h1 r hr
    · rcases mem_modify hr with h2 | ⟨hj, rfl⟩
      · exact h.rc _ (List.getElem_mem hi) r h2
      · exact hf hi hj
theorem Inv.at_ {T : Int} {n : Nat} {l : List It} (h : Inv T n l) {i j : Nat} (hi : i < l.length) (hj : j < l[i].to.length) : RcI T l[i].frm.null l[i].to[j] := h.rc _ (List.getElem_mem hi) _ (List.getElem_mem hj)
theorem null_at {l : List It} {i : Nat} (hi : i < l.length) : nullAt l i = l[i].frm.null := by simp [nullAt, hi]
theorem tries_at {l : List It} {i j : Nat} (hi : i < l.length) (hj : j < l[i].to.length) : triesAt l i j = l[i].to[j].tries := by simp [triesAt, hi, hj]
section
variable {T : Int} {n : Nat} {l : List It}
theorem Inv.takeS (h : Inv T n l) (id k : Int) : Inv T n (takeS l id k).2 := by
  rcases pos_cases l id k 0 with ⟨i, j, hp, _, _, hi, hj, hs⟩ | ⟨hp, _⟩
  · unfold Proofs.Ytlbghgmeiajioaa.takeS
    rw [hp]
    refine h.upd fun hi hj => ?_
    obtain ⟨h1, h2, h3, h4, h5, h6⟩ := h.at_ hi hj
    have := h3 (by simpa using hs)
    exact ⟨by show 0 ≤ _ + 1; omega, by show _ + 1 ≤ T; omega, fun h => by simp at h, by simp, by simp, by simp⟩
  · unfold Proofs.Ytlbghgmeiajioaa.takeS
    rw [hp]
    exact h
theorem Inv.sentS (h : Inv T n l) (id k : Int) : Inv T n (sentS l id k).2 := by
  rcases pos_cases l id k 1 with ⟨i, j, hp, _, _, hi, hj, hs⟩ | ⟨hp, _⟩
  · unfold Proofs.Ytlbghgmeiajioaa.sentS
    rw [hp]
    refine h.upd fun hi hj => ?_
    obtain ⟨h1, h2, h3, h4, h5, h6⟩ := h.at_ hi hj
    exact ⟨h1, h2, fun h => by simp at h, by simp, by simp, by simp⟩
  · unfold Proofs.Ytlbghgmeiajioaa.sentS
    rw [hp]
    exact h
theorem Inv.failS (h : Inv T n l) (id k st : Int) : Inv T n (failS l id k st).2 := by
  rcases pos_cases l id k 1 with ⟨i, j, hp, _, _, hi, hj, hs⟩ | ⟨hp, _⟩
  · unfold Proofs.Ytlbghgmeiajioaa.failS
    rw [hp]
    refine h.upd fun hi hj => ?_
    obtain ⟨h1, h2, h3, h4, h5, h6⟩ := h.at_ hi hj
    unfold closed
    rw [null_at hi]
    cases hb : l[i].frm.null <;> simp [RcI, h1, h2]
  · unfold Proofs.Ytlbghgmeiajioaa.failS
    rw [hp]
    exact h
theorem Inv.laterS (h : Inv T n l) (D id k now : Int) : Inv T n (laterS T D l id k now).2 := by
  rcases pos_cases l id k 1 with ⟨i, j, hp, _, _, hi, hj, hs⟩ | ⟨hp, _⟩
  · unfold Proofs.Ytlbghgmeiajioaa.laterS
    rw [hp]
    simp only
    split
    · exact h.failS id k 447
    · rename_i ht
      refine h.upd fun hi hj => ?_
      obtain ⟨h1, h2, h3, h4, h5, h6⟩ := h.at_ hi hj
      rw [tries_at hi hj] at ht
      exact ⟨h1, h2, fun _ => by show l[i].to[j].tries < T; omega, by simp, by simp, by simp⟩
  · unfold Proofs.Ytlbghgmeiajioaa.laterS
    rw [hp]
    exact h
theorem Inv.addS (h : Inv T n l) (room : Int) (m : Ml) (hm : m.lines.length ≤ 50) (force : Bool) : Inv T (n + 1) (addS room l m force).2.2 := by
  unfold Proofs.Ytlbghgmeiajioaa.addS
  split
  · exact h.more (Nat.le_succ _)
  · split
    · exact h.more (Nat.le_succ _)
    · rename_i h1 _
      have hT := h.pos
      refine ⟨h.pos, h.most, by simp; exact h.len, ?_, ?_, ?_, ?_⟩
      · intro i hi
        simp only [List.length_append, List.length_cons, List.length_nil] at hi
        rw [List.getElem_append]
        split
        · exact h.ids i _
        · simp [newI]; omega
      · intro it hit
        rcases List.mem_append.1 hit with h2 | h2
        · exact h.to it h2
        · simp at h2; subst h2
          simp [newI] at h1 ⊢
          omega
      · intro it hit
        rcases List.mem_append.1 hit with h2 | h2
        · exact h.lines it h2
        · simp at h2; subst h2
          exact hm
      · intro it hit r hr
        rcases List.mem_append.1 hit with h2 | h2
        · exact h.rc it h2 r hr
        · simp at h2; subst h2
          simp only [newI, List.mem_map] at hr
          obtain ⟨p, _, rfl⟩ := hr
          exact ⟨by simp [newR], by show 0 ≤ T; omega, fun _ => by show 0 < T; omega, by simp [newR], by simp [newR], by simp [newR]⟩
end
end Go.Proofs.Ytlbghgmeiajioaa
