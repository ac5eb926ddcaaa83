/- A row of items that a law keeps beside the queue. -/
import Derived.Test.YtlbghgmeiajioaaAp
namespace Go.Proofs.Ytlbghgmeiajioaa
open Go.RowKit
set_option linter.unusedVariables false

theorem QS.grow {w w' : World} {P S : Nat → Prop} {g : Nat} {l : List It} {room tries wait : Int} (h : QS w P g l room tries wait) (ho : Only w w' S) (hs : ∀ k, S k → P k) :
    QS w' (fun k => P k ∨ (w.heap.size ≤ k ∧ k < w'.heap.size)) g l room tries wait := by
  obtain ⟨v, rows, hq, hm, hP⟩ := h
  refine ⟨v, rows, hq.only ho (fun k hk e => (hP k (hs k e)).2 hk), hm, ?_⟩
  rintro k (hk | hk)
  · exact ⟨Nat.lt_of_lt_of_le (hP k hk).1 ho.size, (hP k hk).2⟩
  · exact ⟨hk.2, fun hf => by have := (hq.lt k hf).2; omega⟩
/-- A row of items at v, beside the queue: its blocks are others'. -/
structure Ws (B : Nat) (w : World) (P : Nat → Prop) (v : Value) (rows : List Row) : Prop where
  row : w.ownsRow B 51 12 v rows.length (rows.flatMap Row.cells)
  own : ∀ r ∈ rows, Own w B r
  inv : ∀ k, v.ownBlock = some k → P k
  inr : ∀ r ∈ rows, ∀ k, r.tv.ownBlock = some k ∨ r.lv.ownBlock = some k → P k
section
variable {B : Nat} {w w' : World} {P : Nat → Prop} {v : Value} {rows : List Row}
theorem Ws.nil (B : Nat) (w : World) (P : Nat → Prop) : Ws B w P (.slice none 0 0) [] :=
  ⟨World.ownsRow_nil _ _ _ _, (fun r hr => by cases hr), (fun k hk => by cases hk), (fun r hr => by cases hr)⟩
theorem Ws.only {S : Nat → Prop} (h : Ws B w P v rows) (ho : Only w w' S) (hs : ∀ k, P k → ¬ S k) : Ws B w' P v rows :=
  ⟨own_only h.row ho (fun k hk => hs k (h.inv k hk)), fun r hr => ⟨own_only (h.own r hr).1 ho (fun k hk => hs k (h.inr r hr k (.inl hk))), own_only (h.own r hr).2 ho (fun k hk => hs k (h.inr r hr k (.inr hk)))⟩, h.inv, h.inr⟩
theorem Ws.keep (h : Ws B w P v rows) (hk : Keep P w w') : Ws B w' P v rows := h.only hk (fun k hk h => h hk)
theorem Ws.below (h : Ws B w P v rows) (hb : Below w.heap.size w w') : Ws B w' P v rows := h.only (S := fun _ => False) (Only.of_below hb) (fun _ _ h => h)
theorem Ws.more {P' : Nat → Prop} (h : Ws B w P v rows) (hp : ∀ k, P k → P' k) : Ws B w P' v rows := ⟨h.row, h.own, fun k hk => hp k (h.inv k hk), fun r hr k hk => hp k (h.inr r hr k hk)⟩
theorem ne_of_types {w : World} {B B' : Nat} {e e' : TypeId} {s s' n n' : Nat} {v v' : Value} {xs xs' : List Value} (h : w.ownsRow B e s v n xs) (h' : w.ownsRow B' e' s' v' n' xs') (hne : e ≠ e') : ∀ k, v.ownBlock = some k → v'.ownBlock ≠ some k := by
  intro k hk hk'
  rcases Nat.eq_zero_or_pos n with h0 | h0
  · rcases h.2 with ⟨h1, _⟩ | ⟨g', cap', cur', h1, _, hg, _⟩
    · rw [h1] at hk; cases hk
    · rcases h'.2 with ⟨h2, _⟩ | ⟨g2, cap2, cur2, h2, _, hg2, _⟩
      · rw [h2] at hk'; cases hk'
      · rw [h1] at hk; rw [h2] at hk'
        simp [Value.ownBlock] at hk hk'
        subst hk hk'
        rw [hg] at hg2
        injection hg2 with hg2
        injection hg2 with _ e2
        exact hne e2
  · rcases h.2 with ⟨h1, _⟩ | ⟨g', cap', cur', h1, _, hg, _⟩
    · rw [h1] at hk; cases hk
    · rcases h'.2 with ⟨h2, _⟩ | ⟨g2, cap2, cur2, h2, _, hg2, _⟩
      · rw [h2] at hk'; cases hk'
      · rw [h1] at hk; rw [h2] at hk'
        simp [Value.ownBlock] at hk hk'
        subst hk hk'
        rw [hg] at hg2
        injection hg2 with hg2
        injection hg2 with _ e2
        exact hne e2
theorem Ws.add {v' : Value} {r : Row} (h : Ws B w P v rows) (hr : Own w B r) (hrP : ∀ k, r.tv.ownBlock = some k ∨ r.lv.ownBlock = some k → P k)
    (hown : w'.ownsRow B 51 12 v' (rows.length + 1) (rows.flatMap Row.cells ++ r.cells)) (hg : w.grownBy w' v.ownBlock) (hat : ∀ k, v'.ownBlock = some k → v.ownBlock = some k ∨ k = w.heap.size) :
    Ws B w' (fun k => P k ∨ (w.heap.size ≤ k ∧ k < w'.heap.size)) v' (rows ++ [r]) := by
  have ho : Only w w' (fun k => v.ownBlock = some k) := (Only.refl w _).grown hg (fun k hk _ => hk)
  have hOwn : ∀ {x : Row}, Own w B x → Own w' B x := fun {x} hx => ⟨own_only hx.1 ho (fun k hk e => ne_of_types h.row hx.1 (by decide) k e hk), own_only hx.2 ho (fun k hk e => ne_of_types h.row hx.2 (by decide) k e hk)⟩
  refine ⟨by simpa using hown, ?_, ?_, ?_⟩
  · intro x hx
    rcases List.mem_append.1 hx with hx | hx
    · exact hOwn (h.own x hx)
    · simp at hx; subst hx; exact hOwn hr
  · intro k hk
    rcases hat k hk with h1 | h1
    · exact .inl (h.inv k h1)
    · exact .inr ⟨by omega, (hown.lt k hk).2⟩
  · intro x hx k hk
    rcases List.mem_append.1 hx with hx | hx
    · exact .inl (h.inr x hx k hk)
    · simp at hx; subst hx; exact .inl (hrP k hk)
/-- The cells of item k of the row. -/
theorem Ws.cells (h : Ws B w P v rows) {k : Nat} (hk : k < rows.length) :
    ∃ g cap, v = .slice (some ⟨g, 0, none⟩) rows.length cap ∧ g < w.heap.size ∧ P g ∧ ∀ j, j < 12 → w.cell? ⟨g, k * 12 + j, none⟩ = (rows[k].cells)[j]? := by
  obtain ⟨g, cap, rfl, hb, hl⟩ := own_some h.row (by omega)
  refine ⟨g, cap, rfl, hl, h.inv g rfl, fun j hj => ?_⟩
  rw [h.row.cellAt _ (by omega), flat_get Row.len rows k j hk hj]
end
/-- append of one item. -/
theorem app_it {ops : Array Oper} {rest : List Oper} {o : Oper} {a : Act} {w : World} {Q : Exit → Act → World → Prop} (s x : Operand) (hgd : o.guard = none)
    (ho : o.op = .call { callee := .builtin .append, args := #[s, x], argTypes := #[54, 54] })
    (base : Nat) (v : Value) (n : Nat) (xs : List Value) (hs : a.eval s = v) (hown : w.ownsRow base 51 12 v n xs) (b : Nat) (r : Row) (hx : a.eval x = .slice (some ⟨b, 0, none⟩) 1 1)
    (hu : Bk w b 51 r.cells.toArray) (h1 : r.tv.oneCell' = true) (h2 : r.lv.oneCell' = true) (hn : n ≤ 1000) (hbase : base ≤ w.heap.size) (H : Nat) (hH : w.heap.size = H)
    (h : ∀ g cap w', w'.ownsRow base 51 12 (.slice (some ⟨g, 0, none⟩) (n + 1) cap) (n + 1) (xs ++ r.cells) → w.grownBy w' v.ownBlock → (v.ownBlock = some g ∨ g = H) → g < w'.heap.size →
      wpList Try.prog ops Q rest (a.put o.dst (.slice (some ⟨g, 0, none⟩) (n + 1) cap)) w') : wpList Try.prog ops Q (o :: rest) a w := by
  obtain ⟨i0, hi, hz0, hz1, hz2⟩ := info_parts info51
  refine wpList_append_lies w hgd s x 54 ho base 51 i0 zeroIt 12 128 Try.underlying54 hi hz0 hz1 hz2 rfl (by decide) v n xs hs hown ⟨b, 0, none⟩ 1 1 r.cells hx rfl ?_ ?_ (by decide) (by unfold maxLen; omega) (by omega) hbase H hH h
  · intro j u hj
    have e : (⟨b, 0, none⟩ : Addr).add j = ⟨b, j, none⟩ := by unfold Addr.add; split <;> simp_all
    rw [e, hu.cell j]
    simpa using hj
  · intro u hu
    simp [Row.cells] at hu
    rcases hu with rfl | rfl | rfl | rfl | rfl | rfl | rfl | rfl | rfl | rfl | rfl | rfl <;> first | rfl | exact h1 | exact h2
end Go.Proofs.Ytlbghgmeiajioaa
