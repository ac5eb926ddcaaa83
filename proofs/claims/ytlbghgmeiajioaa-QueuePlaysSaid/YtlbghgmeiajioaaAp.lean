/- The queue as one state, and what each call makes of it. -/
import Derived.Test.YtlbghgmeiajioaaDu
import Derived.Test.YtlbghgmeiajioaaAd
namespace Go.Proofs.Ytlbghgmeiajioaa
open Go.RowKit
set_option linter.unusedVariables false

/-- A queue at block g that holds the items l; the blocks of P are others'. -/
def QS (w : World) (P : Nat → Prop) (g : Nat) (l : List It) (room tries wait : Int) : Prop :=
  ∃ v rows, Qm w 0 g 66 v rows room tries wait ∧ rows.map Row.it = l ∧ ∀ k, P k → k < w.heap.size ∧ ¬ Foot g v rows k
/-- What is others' lies as it lay. -/
abbrev Keep (P : Nat → Prop) (w w' : World) : Prop := Only w w' (fun k => ¬ P k)

theorem qs_of_left2 {w w' : World} {P : Nat → Prop} {g : Nat} {v : Value} {rows : List Row} {room tries wait : Int} {l : List It} (hP : ∀ k, P k → k < w.heap.size ∧ ¬ Foot g v rows k) (h : Left2 w 0 g 66 v rows room tries wait l w') : QS w' P g l room tries wait ∧ Keep P w w' := by
  obtain ⟨v', rows', hq, hm, ho, hf⟩ := h
  refine ⟨⟨v', rows', hq, hm, fun k hk => ⟨Nat.lt_of_lt_of_le (hP k hk).1 ho.size, fun hk2 => ?_⟩⟩, ho.more (fun k hk hp => (hP k hp).2 hk)⟩
  rcases hf k hk2 with h1 | h1
  · exact (hP k hk).2 h1
  · have := (hP k hk).1; omega
theorem Left.to2 {w w' : World} {B g : Nat} {t : TypeId} {v : Value} {rows : List Row} {room tries wait : Int} {l : List It} (h : Left w B g t v rows room tries wait l w') : Left2 w B g t v rows room tries wait l w' := by
  obtain ⟨rows', hq, hm, ho, hf⟩ := h
  exact ⟨v, rows', hq, hm, ho, fun k hk => .inl (hf k hk)⟩
theorem QS.below {w w' : World} {P : Nat → Prop} {g : Nat} {l : List It} {room tries wait : Int} (h : QS w P g l room tries wait) (hb : Below w.heap.size w w') : QS w' P g l room tries wait := by
  obtain ⟨v, rows, hq, hm, hP⟩ := h
  exact ⟨v, rows, hq.below hb, hm, fun k hk => ⟨Nat.lt_of_lt_of_le (hP k hk).1 hb.size, (hP k hk).2⟩⟩
theorem QS.drewN {w : World} {P : Nat → Prop} {g : Nat} {l : List It} {room tries wait : Int} (h : QS w P g l room tries wait) (n : Nat) : QS (w.drewN n) P g l room tries wait := by
  obtain ⟨v, rows, hq, hm, hP⟩ := h
  exact ⟨v, rows, hq.drewN n, hm, hP⟩
theorem QS.drew {w : World} {P : Nat → Prop} {g : Nat} {l : List It} {room tries wait : Int} (h : QS w P g l room tries wait) : QS w.drew P g l room tries wait := by
  obtain ⟨v, rows, hq, hm, hP⟩ := h
  exact ⟨v, rows, hq.drew, hm, hP⟩
theorem QS.less {w : World} {P P' : Nat → Prop} {g : Nat} {l : List It} {room tries wait : Int} (h : QS w P g l room tries wait) (hp : ∀ k, P' k → P k) : QS w P' g l room tries wait := by
  obtain ⟨v, rows, hq, hm, hP⟩ := h
  exact ⟨v, rows, hq, hm, fun k hk => hP k (hp k hk)⟩
/-- Blocks that come to be behind the queue are others'. -/
theorem QS.more {w w' : World} {P : Nat → Prop} {g : Nat} {l : List It} {room tries wait : Int} (h : QS w P g l room tries wait) (hb : Below w.heap.size w w') : QS w' (fun k => P k ∨ (w.heap.size ≤ k ∧ k < w'.heap.size)) g l room tries wait := by
  obtain ⟨v, rows, hq, hm, hP⟩ := h
  refine ⟨v, rows, hq.below hb, hm, ?_⟩
  rintro k (hk | hk)
  · exact ⟨Nat.lt_of_lt_of_le (hP k hk).1 hb.size, (hP k hk).2⟩
  · exact ⟨hk.2, fun hf => by have := (hq.lt k hf).2; omega⟩
/-- A store into a block of others'. -/
theorem QS.set {w : World} {P : Nat → Prop} {g : Nat} {l : List It} {room tries wait : Int} (h : QS w P g l room tries wait) {p : Addr} (hp : P p.block) (u : Value) : QS (w.setCell p u) P g l room tries wait := by
  obtain ⟨v, rows, hq, hm, hP⟩ := h
  refine ⟨v, rows, hq.only (S := fun k => k = p.block) ((Only.refl w (fun k => k = p.block)).setCell (p := p) rfl u) (fun k hk e => (hP p.block hp).2 (e ▸ hk)), hm, fun k hk => ?_⟩
  have := hP k hk
  exact ⟨by simpa [World.setCell] using this.1, this.2⟩
theorem keep_below {P : Nat → Prop} {w w' : World} (h : Below w.heap.size w w') : Keep P w w' := Only.of_below h

theorem qs_new (a b c : Int) (w : World) : Calls Try.prog 10 #[.int .i64 a, .int .i64 b, .int .i64 c] w fun e w' => e = .returned (.pointer (some ⟨w.heap.size, 0, none⟩)) ∧ QS w' (fun k => k < w.heap.size) w.heap.size [] (max 0 (min a 64)) (max 1 (min b 16)) (max 1 (min c 1000)) ∧ Below w.heap.size w w' := by
  refine (new_any a b c w).mono ?_
  rintro e w' ⟨rfl, rfl⟩
  refine ⟨rfl, ⟨.slice none 0 0, [], ⟨Nat.zero_le _, Bk.new w 66 _, World.ownsRow_nil _ _ _ _, by simp, by intro i j hi; simp at hi⟩, rfl, ?_⟩, (Below.refl _ w).alloc (Nat.le_refl _) _⟩
  intro k hk
  refine ⟨by simp; omega, ?_⟩
  rintro (rfl | hk2 | ⟨r, hr, _⟩)
  · omega
  · cases hk2
  · cases hr

section
variable {w : World} {P : Nat → Prop} {g : Nat} {l : List It} {room tries wait : Int}
theorem qs_len (h : QS w P g l room tries wait) : Calls Try.prog 27 #[.pointer (some ⟨g, 0, none⟩)] w fun e w' => e = .returned (.int .i64 l.length) ∧ w = w' := by
  obtain ⟨v, rows, hq, rfl, hP⟩ := h
  simpa using len_any w 0 g v rows room tries wait hq
theorem qs_open (h : QS w P g l room tries wait) (hs : Small l) : Calls Try.prog 28 #[.pointer (some ⟨g, 0, none⟩)] w fun e w' => e = .returned (.int .i64 (openN l)) ∧ QS w' P g l room tries wait ∧ Below w.heap.size w w' := by
  have h' := h
  obtain ⟨v, rows, hq, rfl, hP⟩ := h
  exact (count_any w 0 g v rows room tries wait hq hs).mono fun e w' ⟨he, hb⟩ => ⟨he, h'.below hb, hb⟩
theorem qs_full (h : QS w P g l room tries wait) (hs : Small l) : Calls Try.prog 30 #[.pointer (some ⟨g, 0, none⟩)] w fun e w' => e = .returned (.bool (decide (room ≤ (openN l : Int)))) ∧ QS w' P g l room tries wait ∧ Below w.heap.size w w' := by
  have h' := h
  obtain ⟨v, rows, hq, rfl, hP⟩ := h
  exact (full_any w 0 g v rows room tries wait hq hs).mono fun e w' ⟨he, hb⟩ => ⟨he, h'.below hb, hb⟩
theorem qs_due (h : QS w P g l room tries wait) (hs : Small l) (now : Int) : Calls Try.prog 15 #[.pointer (some ⟨g, 0, none⟩), .int .i64 now] w fun e w' => e = .returned (.tuple #[.int .i64 (dueS l now).1, .int .i64 (dueS l now).2.1, .bool (dueS l now).2.2]) ∧ QS w' P g l room tries wait ∧ Below w.heap.size w w' := by
  have h' := h
  obtain ⟨v, rows, hq, rfl, hP⟩ := h
  exact (due_any w 0 g v rows room tries wait hq now hs).mono fun e w' ⟨he, hb⟩ => ⟨he, h'.below hb, hb⟩
theorem qs_take (h : QS w P g l room tries wait) (hs : Small l) (id k : Int) : Calls Try.prog 17 #[.pointer (some ⟨g, 0, none⟩), .int .i64 id, .int .i64 k] w fun e w' => e = .returned (.bool (takeS l id k).1) ∧ QS w' P g (takeS l id k).2 room tries wait ∧ Keep P w w' := by
  obtain ⟨v, rows, hq, rfl, hP⟩ := h
  exact (take_any w 0 g v rows room tries wait hq id k hs).mono fun e w' ⟨he, hl⟩ => ⟨he, qs_of_left2 hP hl.to2⟩
theorem qs_sent (h : QS w P g l room tries wait) (hs : Small l) (id k : Int) : Calls Try.prog 19 #[.pointer (some ⟨g, 0, none⟩), .int .i64 id, .int .i64 k] w fun e w' => e = .returned (.bool (sentS l id k).1) ∧ QS w' P g (sentS l id k).2 room tries wait ∧ Keep P w w' := by
  obtain ⟨v, rows, hq, rfl, hP⟩ := h
  exact (sent_any w 0 g v rows room tries wait hq id k hs).mono fun e w' ⟨he, hl⟩ => ⟨he, qs_of_left2 hP hl.to2⟩
theorem qs_fail (h : QS w P g l room tries wait) (hs : Small l) (id k st : Int) : Calls Try.prog 23 #[.pointer (some ⟨g, 0, none⟩), .int .i64 id, .int .i64 k, .int .i64 st] w fun e w' => e = .returned (.int .i64 (failS l id k st).1) ∧ QS w' P g (failS l id k st).2 room tries wait ∧ Keep P w w' := by
  obtain ⟨v, rows, hq, rfl, hP⟩ := h
  exact (fail_any w 0 g v rows room tries wait hq id k st hs).mono fun e w' ⟨he, hl⟩ => ⟨he, qs_of_left2 hP hl.to2⟩
theorem qs_later (h : QS w P g l room tries wait) (hs : Small l) (id k now : Int) (h0 : 0 ≤ wait) (h1 : wait ≤ 1000) : Calls Try.prog 21 #[.pointer (some ⟨g, 0, none⟩), .int .i64 id, .int .i64 k, .int .i64 now] w fun e w' => e = .returned (.int .i64 (laterS tries wait l id k now).1) ∧ QS w' P g (laterS tries wait l id k now).2 room tries wait ∧ Keep P w w' := by
  obtain ⟨v, rows, hq, rfl, hP⟩ := h
  exact (later_any w 0 g v rows room tries wait hq id k now hs h0 h1).mono fun e w' ⟨he, hl⟩ => ⟨he, qs_of_left2 hP hl.to2⟩
theorem qs_add (h : QS w P g l room tries wait) (hs : Small l) (hn : l.length ≤ 500) (m : Ml) (At Al : Option Addr) (ct cl : Nat) (hbig : m.to.length ≤ 9223372036854775807) (hl : m.lines.length ≤ 100000) (ht : Rd w w.heap.size At (m.to.flatMap Pth.cells)) (hr : Rd w w.heap.size Al (m.lines.map .string)) (force : Bool) :
    Calls Try.prog 12 #[.pointer (some ⟨g, 0, none⟩), .agg (m.cells (.slice At m.to.length ct) (.slice Al m.lines.length cl)).toArray, .bool force] w fun e w' => e = .returned (.tuple #[.int .i64 (addS room l m force).1, .int .i64 (addS room l m force).2.1]) ∧ QS w' P g (addS room l m force).2.2 room tries wait ∧ Keep P w w' := by
  obtain ⟨v, rows, hq, rfl, hP⟩ := h
  exact (add_any w 0 g v rows room tries wait hq hs (by simpa using hn) m At Al ct cl hbig hl ht hr force).mono fun e w' ⟨he, hl⟩ => ⟨he, qs_of_left2 hP hl⟩
theorem qs_item (h : QS w P g l room tries wait) (hs : Small l) (i : Nat) (hi : i < l.length) (hln : l[i].lines.length ≤ 100000) :
    Calls Try.prog 25 #[.pointer (some ⟨g, 0, none⟩), .int .i64 ((i : Int) + 1)] w fun e w' => ∃ tv lv, e = .returned (.tuple #[.agg (Row.cells ⟨l[i], tv, lv⟩).toArray, .bool true]) ∧ Own w' w.heap.size ⟨l[i], tv, lv⟩ ∧ QS w' P g l room tries wait ∧ Below w.heap.size w w' := by
  have h' := h
  obtain ⟨v, rows, hq, rfl, hP⟩ := h
  have hi' : i < rows.length := by simpa using hi
  rw [its_get hi'] at hln ⊢
  exact (item_yes w 0 g v rows room tries wait hq i hs hi' hln).mono fun e w' ⟨tv, lv, he, ho, hb⟩ => ⟨tv, lv, he, ho, h'.below hb, hb⟩
theorem qs_noitem (h : QS w P g l room tries wait) (hs : Small l) (id : Int) (hno : id < 1 ∨ (l.length : Int) < id) :
    Calls Try.prog 25 #[.pointer (some ⟨g, 0, none⟩), .int .i64 id] w fun e w' => e = .returned (.tuple #[zeroIt, .bool false]) ∧ QS w' P g l room tries wait ∧ Below w.heap.size w w' := by
  have h' := h
  obtain ⟨v, rows, hq, rfl, hP⟩ := h
  exact (item_no w 0 g v rows room tries wait hq id hs (by simpa using hno)).mono fun e w' ⟨he, hb⟩ => ⟨he, h'.below hb, hb⟩
end
end Go.Proofs.Ytlbghgmeiajioaa
