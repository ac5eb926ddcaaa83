/- Words on memory for this seat: a framer, rows of lines. -/
import Derived.Test.YtjlpmfokekflbaaC
import Derived.Lib.UnsafeStr
import Derived.Lib.AppendStr
import Derived.Deep.Upon
import Derived.Deep.Cut
namespace Go.Proofs.Ytjlpmfokekflbaa
open Go.RowKit
set_option linter.unusedVariables false

abbrev Keep (P : Nat → Prop) (w w' : World) : Prop := Only w w' (fun k => ¬ P k)
theorem own_some {w : World} {B : Nat} {e : TypeId} {s n : Nat} {v : Value} {xs : List Value} (h : w.ownsRow B e s v n xs) (hn : 0 < n) : ∃ g cap, v = .slice (some ⟨g, 0, none⟩) n cap ∧ B ≤ g ∧ g < w.heap.size := h.form hn
theorem own_any {w : World} {B : Nat} {e : TypeId} {s n : Nat} {v : Value} {xs : List Value} (h : w.ownsRow B e s v n xs) : ∃ A c, v = .slice A n c := own_form h
theorem own_base {w : World} {B B' : Nat} {e : TypeId} {size n : Nat} {v : Value} {xs : List Value} (h : w.ownsRow B' e size v n xs) (hB : B ≤ B') : w.ownsRow B e size v n xs := by
  refine ⟨h.1, ?_⟩
  rcases h.2 with h2 | ⟨g, cap, cur, rfl, hg, hh, r⟩
  · exact .inl h2
  · exact .inr ⟨g, cap, cur, rfl, Nat.le_trans hB hg, hh, r⟩
theorem own_below {w w' : World} {base : Nat} {e : TypeId} {size n : Nat} {v : Value} {xs : List Value} (h : w.ownsRow base e size v n xs) (hb : Below w.heap.size w w') : w'.ownsRow base e size v n xs :=
  own_only h (Only.of_below hb) (S := fun _ => False) (fun _ _ h => h)
theorem own_rdn {w : World} {base : Nat} {e : TypeId} {size n : Nat} {A : Option Addr} {c : Nat} {xs : List Value} (h : w.ownsRow base e size (.slice A n c) n xs) : Rd w w.heap.size A xs := by
  rcases Nat.eq_zero_or_pos n with h0 | h0
  · exact .inl (List.eq_nil_of_length_eq_zero (by have := h.1; subst h0; simpa using this))
  · rcases h.2 with ⟨_, h1⟩ | ⟨g, cap, cur, hv, _, hh, _⟩
    · omega
    · have hA : A = some ⟨g, 0, none⟩ := by injection hv
      subst hA
      refine .inr ⟨g, 0, rfl, (Array.getElem?_eq_some_iff.1 hh).1, fun j u hu => ?_⟩
      have := h.cells (g := g) rfl j u hu
      have e : (⟨g, 0, none⟩ : Addr).add j = ⟨g, 0 + j, none⟩ := by unfold Addr.add; split <;> simp_all
      rwa [e] at this
section
variable {α β : Type} {f : α → List β} {s : Nat}
theorem flat_len (hf : ∀ a, (f a).length = s) (l : List α) : (l.flatMap f).length = l.length * s := by
  induction l with
  | nil => simp
  | cons a l ih => simp [List.flatMap_cons, hf, ih, Nat.add_mul]; omega
theorem flat_get (hf : ∀ a, (f a).length = s) (l : List α) (i j : Nat) (hi : i < l.length) (hj : j < s) : (l.flatMap f)[i * s + j]? = (f l[i])[j]? := by
  induction l generalizing i with
  | nil => simp at hi
  | cons a l ih =>
    rw [List.flatMap_cons]
    cases i with
    | zero => rw [Nat.zero_mul, Nat.zero_add, List.getElem?_append_left (by rw [hf]; exact hj)]; rfl
    | succ i =>
      rw [List.getElem?_append_right (by rw [hf, Nat.add_mul]; omega), hf, show (i + 1) * s + j - s = i * s + j by rw [Nat.add_mul]; omega]
      exact ih i (by simpa using hi)
end

/-- The cells of a line that came. -/
def Fr.cells (f : Fr) : List Value := [.string ⟨f.text.toArray⟩, .bool f.long, .bool f.bare]
theorem Fr.len (f : Fr) : f.cells.length = 3 := rfl
theorem fr_one (l : List Fr) : ∀ u ∈ l.flatMap Fr.cells, u.oneCell' = true := by
  intro u hu
  obtain ⟨r, _, hr⟩ := List.mem_flatMap.1 hu
  simp [Fr.cells] at hr
  rcases hr with rfl | rfl | rfl <;> rfl
def zeroFr : Value := .agg #[.string ⟨#[]⟩, .bool false, .bool false]
theorem info42 : (Try.prog.info? 42).map (fun i => (i.zero, i.size, i.bytes)) = some (some zeroFr, 3, 24) := by kernel_rfl
theorem info5 : (Try.prog.info? 5).map (fun i => (i.zero, i.size, i.bytes)) = some (some (.int .u8 0), 1, 1) := by kernel_rfl

/-- The program's framer in block g. -/
def Fm (w : World) (g : Nat) (v : Value) (inn : List UInt8) (most : Int) : Prop := Bk w g 46 #[v, .int .i64 most] ∧ w.ownsRow 0 5 1 v inn.length (Lib.byteCells inn)
/-- The same, and the blocks of P are others'. -/
def FS (w : World) (P : Nat → Prop) (g : Nat) (inn : List UInt8) (most : Int) : Prop := ∃ v, Fm w g v inn most ∧ ∀ k, P k → k < w.heap.size ∧ k ≠ g ∧ v.ownBlock ≠ some k
section
variable {w w' : World} {P : Nat → Prop} {g : Nat} {inn : List UInt8} {most : Int}
theorem FS.below (h : FS w P g inn most) (hb : Below w.heap.size w w') : FS w' P g inn most := by
  obtain ⟨v, ⟨h1, h2⟩, h3⟩ := h
  exact ⟨v, ⟨h1.below hb h1.lt, own_below h2 hb⟩, fun k hk => ⟨Nat.lt_of_lt_of_le (h3 k hk).1 hb.size, (h3 k hk).2⟩⟩
theorem FS.less {P' : Nat → Prop} (h : FS w P g inn most) (hp : ∀ k, P' k → P k) : FS w P' g inn most := by
  obtain ⟨v, h1, h3⟩ := h
  exact ⟨v, h1, fun k hk => h3 k (hp k hk)⟩
theorem FS.grow {S : Nat → Prop} (h : FS w P g inn most) (ho : Only w w' S) (hs : ∀ k, S k → P k) : FS w' (fun k => P k ∨ (w.heap.size ≤ k ∧ k < w'.heap.size)) g inn most := by
  obtain ⟨v, ⟨h1, h2⟩, h3⟩ := h
  have hg : ¬ S g := fun h => (h3 g (hs g h)).2.1 rfl
  refine ⟨v, ⟨h1.same (ho.block g h1.lt hg), own_only h2 ho (fun k hk hS => (h3 k (hs k hS)).2.2 hk)⟩, fun k hk => ?_⟩
  rcases hk with hk | hk
  · exact ⟨Nat.lt_of_lt_of_le (h3 k hk).1 ho.size, (h3 k hk).2⟩
  · exact ⟨hk.2, fun e => by have := h1.lt; omega, fun e => by have := (h2.lt k e).2; omega⟩
theorem FS.only {S : Nat → Prop} (h : FS w P g inn most) (ho : Only w w' S) (hs : ∀ k, S k → P k) : FS w' P g inn most := (h.grow ho hs).less fun k hk => .inl hk
theorem keep_to_below {P : Nat → Prop} {B : Nat} {a b c : World} (h : Below B a b) (hk : Keep P b c) (hB : B ≤ a.heap.size) (hp : ∀ k, k < B → P k) : Below B a c :=
  h.trans (hk.below (Nat.le_trans hB h.size) (fun k hn => by
    rcases Nat.lt_or_ge k B with h1 | h1
    · exact absurd (hp k h1) hn
    · exact h1))
end
theorem Bk.keep {w w' : World} {P : Nat → Prop} {g : Nat} {t : TypeId} {cs : Array Value} (h : Bk w g t cs) (hk : Keep P w w') (hp : P g) : Bk w' g t cs := h.same (hk.block g h.lt (fun e => e hp))

/-! The small methods. -/
set_option maxHeartbeats 400000 in
theorem new_any (n : Int) (w : World) : Calls Try.prog 10 #[.int .i64 n] w fun e w' => e = .returned (.pointer (some ⟨w.heap.size, 0, none⟩)) ∧ FS w' (fun k => k < w.heap.size) w.heap.size [] (max 0 n) ∧ Below w.heap.size w w' := by
  go_enter Try.func10, Try.ntmps10
  go_wp2
  go_ret
  refine ⟨rfl, ⟨.slice none 0 0, ⟨?_, World.ownsRow_nil _ _ _ _⟩, fun k hk => ⟨?_, by omega, by simp [Value.ownBlock]⟩⟩, (Below.refl _ w).alloc (Nat.le_refl _) _⟩
  · exact Bk.new w 46 _
  · simp; omega
set_option maxHeartbeats 400000 in
theorem most_any {w : World} {P : Nat → Prop} {g : Nat} {inn : List UInt8} {most : Int} (h : FS w P g inn most) (n : Int) : Calls Try.prog 12 #[.pointer (some ⟨g, 0, none⟩), .int .i64 n] w fun e w' => e = .returned (.tuple #[]) ∧ FS w' P g inn (max 0 n) ∧ Keep P w w' := by
  obtain ⟨v, ⟨h1, h2⟩, h3⟩ := h
  have c1 := h1.cell 1
  have f1 := h1.frozen 1
  simp at c1
  go_enter Try.func12, Try.ntmps12
  go_wp2
  go_end0
  refine ⟨rfl, ⟨v, ⟨?_, own_set h2 (p := ⟨g, 1, none⟩) (own_ne h2 h1 (by decide)) _⟩, fun k hk => ⟨by simpa using (h3 k hk).1, (h3 k hk).2⟩⟩, (Only.refl _ _).setCell (p := ⟨g, 1, none⟩) (fun hp => (h3 g hp).2.1 rfl) _⟩
  simpa using h1.set_ 1 (.int .i64 (max 0 n))
set_option maxHeartbeats 400000 in
theorem rest_any {w : World} {P : Nat → Prop} {g : Nat} {inn : List UInt8} {most : Int} (h : FS w P g inn most) : Calls Try.prog 16 #[.pointer (some ⟨g, 0, none⟩)] w fun e w' => e = .returned (.int .i64 inn.length) ∧ w = w' := by
  obtain ⟨v, ⟨h1, h2⟩, h3⟩ := h
  obtain ⟨A, c, rfl⟩ := own_any h2
  have c1 := h1.cell 0
  simp at c1
  go_enter Try.func16, Try.ntmps16
  go_wp2
  go_ret
  exact ⟨rfl, rfl⟩
set_option maxHeartbeats 400000 in
theorem reset_any {w : World} {P : Nat → Prop} {g : Nat} {inn : List UInt8} {most : Int} (h : FS w P g inn most) : Calls Try.prog 17 #[.pointer (some ⟨g, 0, none⟩)] w fun e w' => e = .returned (.tuple #[]) ∧ FS w' P g [] most ∧ Keep P w w' := by
  obtain ⟨v, ⟨h1, h2⟩, h3⟩ := h
  have c1 := h1.cell 0
  have f1 := h1.frozen 0
  simp at c1
  go_enter Try.func17, Try.ntmps17
  go_wp2
  go_end0
  refine ⟨rfl, ⟨.slice none 0 0, ⟨?_, World.ownsRow_nil _ _ _ _⟩, fun k hk => ⟨by simpa using (h3 k hk).1, (h3 k hk).2.1, by simp [Value.ownBlock]⟩⟩, (Only.refl _ _).setCell (p := ⟨g, 0, none⟩) (fun hp => (h3 g hp).2.1 rfl) _⟩
  simpa using h1.set_ 0 (.slice none 0 0)
end Go.Proofs.Ytjlpmfokekflbaa
