/- The two queues side by side. -/
import Derived.Test.YtlbghgmeiajioaaRf
import Derived.Test.YtlbghgmeiajioaaIn
namespace Go.Proofs.Ytlbghgmeiajioaa
open Go.RowKit
set_option linter.unusedVariables false

/-- The program's queue at g1 holds l1, the reference's at g2 l2; no block is both's; the blocks of P are others'. -/
def Duo (w : World) (P : Nat → Prop) (g1 g2 : Nat) (l1 l2 : List It) (room tries wait : Int) : Prop :=
  ∃ v1 rows1 v2 rows2, Qm w 0 g1 66 v1 rows1 room tries wait ∧ Qm w 0 g2 56 v2 rows2 room tries wait ∧ rows1.map Row.it = l1 ∧ rows2.map Row.it = l2 ∧
    (∀ k, Foot g1 v1 rows1 k → ¬ Foot g2 v2 rows2 k) ∧ ∀ k, P k → k < w.heap.size ∧ ¬ Foot g1 v1 rows1 k ∧ ¬ Foot g2 v2 rows2 k
section
variable {w w' : World} {P : Nat → Prop} {g1 g2 : Nat} {l1 l2 : List It} {room tries wait : Int}
/-- A call of the program's queue. -/
theorem Duo.one (h : Duo w P g1 g2 l1 l2 room tries wait) : ∃ P1, QS w P1 g1 l1 room tries wait ∧ (∀ k, P k → P1 k) ∧ ∀ w' l', QS w' P1 g1 l' room tries wait → Keep P1 w w' → Duo w' P g1 g2 l' l2 room tries wait := by
  obtain ⟨v1, rows1, v2, rows2, q1, q2, e1, e2, hd, hP⟩ := h
  refine ⟨fun k => P k ∨ Foot g2 v2 rows2 k, ⟨v1, rows1, q1, e1, ?_⟩, fun k hk => .inl hk, ?_⟩
  · rintro k (hk | hk)
    · exact ⟨(hP k hk).1, (hP k hk).2.1⟩
    · exact ⟨(q2.lt k hk).2, fun h1 => hd k h1 hk⟩
  · rintro w' l' ⟨v', rows', q', e', hP'⟩ hk
    refine ⟨v', rows', v2, rows2, q', q2.only hk (fun k hf hn => hn (.inr hf)), e', e2, fun k hf hf2 => (hP' k (.inr hf2)).2 hf, fun k hp => ⟨(hP' k (.inl hp)).1, (hP' k (.inl hp)).2, (hP k hp).2.2⟩⟩
/-- A call of the reference's queue. -/
theorem Duo.two (h : Duo w P g1 g2 l1 l2 room tries wait) : ∃ P2, RS w P2 g2 l2 room tries wait ∧ (∀ k, P k → P2 k) ∧ ∀ w' l', RS w' P2 g2 l' room tries wait → Keep P2 w w' → Duo w' P g1 g2 l1 l' room tries wait := by
  obtain ⟨v1, rows1, v2, rows2, q1, q2, e1, e2, hd, hP⟩ := h
  refine ⟨fun k => P k ∨ Foot g1 v1 rows1 k, ⟨v2, rows2, q2, e2, ?_⟩, fun k hk => .inl hk, ?_⟩
  · rintro k (hk | hk)
    · exact ⟨(hP k hk).1, (hP k hk).2.2⟩
    · exact ⟨(q1.lt k hk).2, fun h2 => hd k hk h2⟩
  · rintro w' l' ⟨v', rows', q', e', hP'⟩ hk
    refine ⟨v1, rows1, v', rows', q1.only hk (fun k hf hn => hn (.inr hf)), q', e1, e', fun k hf hf2 => (hP' k (.inr hf)).2 hf2, fun k hp => ⟨(hP' k (.inl hp)).1, (hP k hp).2.1, (hP' k (.inl hp)).2⟩⟩
theorem Duo.below (h : Duo w P g1 g2 l1 l2 room tries wait) (hb : Below w.heap.size w w') : Duo w' P g1 g2 l1 l2 room tries wait := by
  obtain ⟨v1, rows1, v2, rows2, q1, q2, e1, e2, hd, hP⟩ := h
  exact ⟨v1, rows1, v2, rows2, q1.below hb, q2.below hb, e1, e2, hd, fun k hk => ⟨Nat.lt_of_lt_of_le (hP k hk).1 hb.size, (hP k hk).2⟩⟩
theorem Duo.less {P' : Nat → Prop} (h : Duo w P g1 g2 l1 l2 room tries wait) (hp : ∀ k, P' k → P k) : Duo w P' g1 g2 l1 l2 room tries wait := by
  obtain ⟨v1, rows1, v2, rows2, q1, q2, e1, e2, hd, hP⟩ := h
  exact ⟨v1, rows1, v2, rows2, q1, q2, e1, e2, hd, fun k hk => hP k (hp k hk)⟩
/-- What turns is others' (or new): blocks that come to be are others', too. -/
theorem Duo.grow {S : Nat → Prop} (h : Duo w P g1 g2 l1 l2 room tries wait) (ho : Only w w' S) (hs : ∀ k, S k → P k) : Duo w' (fun k => P k ∨ (w.heap.size ≤ k ∧ k < w'.heap.size)) g1 g2 l1 l2 room tries wait := by
  obtain ⟨v1, rows1, v2, rows2, q1, q2, e1, e2, hd, hP⟩ := h
  refine ⟨v1, rows1, v2, rows2, q1.only ho (fun k hf hn => (hP k (hs k hn)).2.1 hf), q2.only ho (fun k hf hn => (hP k (hs k hn)).2.2 hf), e1, e2, hd, ?_⟩
  rintro k (hk | hk)
  · exact ⟨Nat.lt_of_lt_of_le (hP k hk).1 ho.size, (hP k hk).2⟩
  · exact ⟨hk.2, fun hf => by have := (q1.lt k hf).2; omega, fun hf => by have := (q2.lt k hf).2; omega⟩
theorem Duo.drew (h : Duo w P g1 g2 l1 l2 room tries wait) : Duo w.drew P g1 g2 l1 l2 room tries wait := by
  obtain ⟨v1, rows1, v2, rows2, q1, q2, e1, e2, hd, hP⟩ := h
  exact ⟨v1, rows1, v2, rows2, q1.drew, q2.drew, e1, e2, hd, hP⟩
theorem Duo.only {S : Nat → Prop} (h : Duo w P g1 g2 l1 l2 room tries wait) (ho : Only w w' S) (hs : ∀ k, S k → P k) : Duo w' P g1 g2 l1 l2 room tries wait := (h.grow ho hs).less (fun k hk => .inl hk)
theorem duo_new (h1 : QS w P g1 [] room tries wait) (h2 : RS w' (fun k => k < w.heap.size) g2 [] room tries wait) (hb : Below w.heap.size w w') : Duo w' P g1 g2 [] [] room tries wait := by
  obtain ⟨v1, rows1, q1, e1, hP⟩ := h1
  obtain ⟨v2, rows2, q2, e2, hP2⟩ := h2
  refine ⟨v1, rows1, v2, rows2, q1.below hb, q2, e1, e2, fun k hf hf2 => (hP2 k (q1.lt k hf).2).2 hf2, fun k hk => ⟨Nat.lt_of_lt_of_le (hP k hk).1 hb.size, (hP k hk).2, (hP2 k (hP k hk).1).2⟩⟩
/-- The reference's item i, in memory. -/
theorem Duo.ref (h : Duo w P g1 g2 l1 l2 room tries wait) : ∃ A c, Bk w g2 56 #[.slice A l2.length c, .int .i64 room, .int .i64 tries, .int .i64 wait] ∧
    ∀ i (hi : i < l2.length), ∃ b A3 A4 c3 c4, A = some ⟨b, 0, none⟩ ∧ b < w.heap.size ∧ (∀ j, j < 12 → w.cell? ⟨b, i * 12 + j, none⟩ = (Row.cells ⟨l2[i], .slice A3 l2[i].to.length c3, .slice A4 l2[i].lines.length c4⟩)[j]?) ∧
      w.ownsRow 0 60 7 (.slice A3 l2[i].to.length c3) l2[i].to.length (l2[i].to.flatMap Rc.cells) ∧ w.ownsRow 0 9 1 (.slice A4 l2[i].lines.length c4) l2[i].lines.length (l2[i].lines.map .string) := by
  obtain ⟨v1, rows1, v2, rows2, q1, q2, e1, e2, hd, hP⟩ := h
  obtain ⟨A, c, rfl⟩ := own_any q2.row
  have hlen : l2.length = rows2.length := by rw [← e2]; simp
  refine ⟨A, c, by rw [hlen]; exact q2.blk, fun i hi => ?_⟩
  have hi' : i < rows2.length := by omega
  have hri : rows2[i].it = l2[i] := by simp only [← e2, List.getElem_map]
  obtain ⟨b, cap, hv, hb, hl⟩ := own_some q2.row (by omega)
  simp only [Value.slice.injEq, true_and] at hv
  obtain ⟨rfl, rfl⟩ := hv
  obtain ⟨ht, hl2⟩ := q2.own _ (List.getElem_mem hi')
  obtain ⟨A3, c3, e3⟩ := own_any ht
  obtain ⟨A4, c4, e4⟩ := own_any hl2
  rw [e3, hri] at ht
  rw [e4, hri] at hl2
  refine ⟨b, A3, A4, c3, c4, rfl, hl, fun j hj => ?_, ht, hl2⟩
  rw [q2.row.cellAt _ (by omega), flat_get Row.len rows2 i j hi' hj]
  simp only [Row.cells, hri, e3, e4]
end
end Go.Proofs.Ytlbghgmeiajioaa
