/- An argument that is a slice of calls, opened once: it reads as a list of calls. -/
import Derived.Test.YtlbghgmeiajioaaR
import Derived.Test.YtlbghgmeiajioaaAp
import Derived.Deep.Slices
namespace Go.Proofs.Ytlbghgmeiajioaa
open Go.ChangeShapes Go.WideShapes Go.ChangeAt Go.RowKit Go.Deep
set_option linter.unusedVariables false

instance : Inhabited Pth := ⟨⟨false, ⟨#[]⟩, ⟨#[]⟩⟩⟩
instance : Inhabited ByteArray := ⟨⟨#[]⟩⟩
/-- A call, with the values of its message's two slices. -/
structure CRow where
  which : Int
  m : Ml
  tv : Value
  lv : Value
  id : Int
  k : Int
  n : Int
def CRow.cells (c : CRow) : List Value := .int .i64 c.which :: (c.m.cells c.tv c.lv ++ [.int .i64 c.id, .int .i64 c.k, .int .i64 c.n])
theorem CRow.len (c : CRow) : c.cells.length = 15 := rfl
/-- A message's two slices read as its lists. -/
def MRd (w : World) (B : Nat) (m : Ml) (tv lv : Value) : Prop :=
  (∃ At ct, tv = .slice At m.to.length ct ∧ Rd w B At (m.to.flatMap Pth.cells) ∧ m.to.length ≤ 9223372036854775807) ∧
  (∃ Al cl, lv = .slice Al m.lines.length cl ∧ Rd w B Al (m.lines.map .string) ∧ m.lines.length ≤ 9223372036854775807)
def InR (a : Int) : Prop := -9223372036854775808 ≤ a ∧ a ≤ 9223372036854775807
def CRd (w : World) (B : Nat) (c : CRow) : Prop := MRd w B c.m c.tv c.lv ∧ InR c.which ∧ InR c.id ∧ InR c.k ∧ InR c.n

section
variable {H : Type} {enc : TypeId × Value → H} {w : World}
abbrev Tr (H : Type) (enc : TypeId × Value → H) (w : World) (fuel : Nat) (t : TypeId) (cs : List Value) (y : DataW H × List MemPlace) : Prop := DataW.trod enc Try.prog w 0 (fun _ => true) true fuel t cs = some y
theorem trod_field {t : TypeId} {fs : Array Field} {fuel : Nat} {cs : List Value} {y : DataW H × List MemPlace} (ht : Try.prog.underlying t = some (.struct fs)) (h : Tr H enc w fuel t cs y) :
    cs.length = Try.prog.cellsOf t ∧ ∃ n, ∀ (i : Nat) (f : Field) (t' o k : Nat), fs[i]? = some f → f.type = t' → f.offset = o → Try.prog.cellsOf t' = k → ∃ z, Tr H enc w n t' ((cs.drop o).take k) z := by
  obtain ⟨xs, n, rfl, hx, hl, hn, hf⟩ := DataW.trod_struct ht h
  refine ⟨hl, n, fun i f t' o k hi e1 e2 e3 => ?_⟩
  subst e1 e2 e3
  have hi' : i < xs.length := by rw [hn]; exact (Array.getElem?_eq_some_iff.1 hi).1
  exact ⟨xs[i], (hf i f hi).trans (List.getElem?_eq_getElem hi')⟩
theorem int_wf {a : Int} (h : (Lit.int .i64 a).wf = true) : InR a := by simpa [InR, Lit.wf, IntKind.min, IntKind.max, IntKind.signed, IntKind.bits] using h
theorem c4 : Try.prog.cellsOf 4 = 1 := by kernel_rfl
theorem c3 : Try.prog.cellsOf 3 = 1 := by kernel_rfl
theorem c9 : Try.prog.cellsOf 9 = 1 := by kernel_rfl
theorem c30 : Try.prog.cellsOf 30 = 2 := by kernel_rfl
theorem c32 : Try.prog.cellsOf 32 = 3 := by kernel_rfl
theorem c33 : Try.prog.cellsOf 33 = 1 := by kernel_rfl
theorem c34 : Try.prog.cellsOf 34 = 1 := by kernel_rfl
theorem c36 : Try.prog.cellsOf 36 = 5 := by kernel_rfl
theorem c38 : Try.prog.cellsOf 38 = 11 := by kernel_rfl
theorem c40 : Try.prog.cellsOf 40 = 15 := by kernel_rfl
theorem open_pth {fuel : Nat} {cs : List Value} {y : DataW H × List MemPlace} (h : Tr H enc w fuel 32 cs y) : ∃ p : Pth, cs = p.cells := by
  obtain ⟨hl, n, hf⟩ := trod_field Try.underlying32 h
  rw [c32] at hl
  match cs, hl with
  | [a0, a1, a2], _ =>
    obtain ⟨_, h0⟩ := hf 0 _ 4 0 1 rfl rfl rfl c4
    obtain ⟨_, h1⟩ := hf 1 _ 30 1 2 rfl rfl rfl c30
    obtain ⟨hl', n', hf'⟩ := trod_field Try.underlying30 h1
    obtain ⟨_, h2⟩ := hf' 0 _ 9 0 1 rfl rfl rfl c9
    obtain ⟨_, h3⟩ := hf' 1 _ 9 1 1 rfl rfl rfl c9
    obtain ⟨b, e0, _⟩ := DataW.trod_bool Try.underlying4 h0
    obtain ⟨l, e1, _⟩ := DataW.trod_string Try.underlying9 h2
    obtain ⟨d, e2, _⟩ := DataW.trod_string Try.underlying9 h3
    simp at e0 e1 e2
    exact ⟨⟨b, l, d⟩, by simp [Pth.cells, e0, e1, e2]⟩
theorem rd_of_cell {A : Option Addr} {a : Addr} {n s : Nat} {xs : List Value} (hA : A = some a) (hlen : xs.length = n * s) (h : ∀ i, i < n * s → w.cell? (a.add i) = xs[i]?) : Rd w w.heap.size A xs := by
  subst hA
  rcases Nat.eq_zero_or_pos (n * s) with h0 | h0
  · exact .inl (List.eq_nil_of_length_eq_zero (by omega))
  · obtain ⟨b, off, spot⟩ := a
    have hc := h 0 h0
    rw [List.getElem?_eq_getElem (by omega)] at hc
    have hspot : spot = none := by simpa [Addr.add] using World.cell?_spot hc
    subst hspot
    have hadd : ∀ j, (⟨b, off, none⟩ : Addr).add j = ⟨b, off + j, none⟩ := fun j => by unfold Addr.add; split <;> simp_all
    refine .inr ⟨b, off, rfl, ?_, fun j u hu => ?_⟩
    · have := World.block_lt_of_cell? _ _ hc
      simpa [hadd] using this
    · have hj := (List.getElem?_eq_some_iff.1 hu).1
      have := h j (by omega)
      rw [hadd] at this
      exact this.trans hu
/-- A slice of elements that read as rows of one length. -/
theorem open_rows {α : Type} {f : α → List Value} {R : α → Prop} {t e : TypeId} {s : Nat} {fuel : Nat} {v : Value} {y : DataW H × List MemPlace} [Inhabited α] (ht : Try.prog.underlying t = some (.slice e)) (hs : Try.prog.cellsOf e = s) (hf : ∀ a, (f a).length = s)
    (he : ∀ {fuel : Nat} {cs : List Value} {z : DataW H × List MemPlace}, Tr H enc w fuel e cs z → ∃ a, cs = f a ∧ R a) (h : Tr H enc w fuel t [v] y) :
    ∃ (A : Option Addr) (c : Nat) (l : List α), v = .slice A l.length c ∧ Rd w w.heap.size A (l.flatMap f) ∧ l.length ≤ 9223372036854775807 ∧ ∀ a ∈ l, R a := by
  rcases open_slice ht h with ⟨hcs, _⟩ | ⟨a, len, cap, m, n, D, Pl, hcs, _, hl, hm, hmm, _, hx⟩
  · simp at hcs
    exact ⟨none, 0, [], hcs, .inl rfl, by simp, by simp⟩
  · simp at hcs hmm
    subst hcs hmm
    have hch : ∀ i, i < len → ∃ x : α, (∀ j, j < s → w.cell? (a.add (i * s + j)) = (f x)[j]?) ∧ R x := fun i hi => by
      obtain ⟨cs', h1, h2⟩ := hx i (by omega)
      obtain ⟨x, rfl, hR⟩ := he h2
      rw [hs] at h1
      obtain ⟨_, _, hat⟩ := World.cells?_some h1
      exact ⟨x, fun j hj => by rw [← add_add]; exact hat j hj, hR⟩
    obtain ⟨g, hg⟩ := choose_lt hch
    have hlen : ((List.range len).map g).length = len := by simp
    refine ⟨some a, m, (List.range len).map g, by rw [hlen], rd_of_cell (n := len) (s := s) rfl ?_ ?_, by unfold maxLen at hm; omega, ?_⟩
    · rw [flat_len hf, hlen]
    · intro i hi
      have hs0 : 0 < s := by exact Nat.pos_of_ne_zero (fun h0 => by subst h0; simp at hi)
      have hq : i / s < len := (Nat.div_lt_iff_lt_mul hs0).2 hi
      have hr : i % s < s := Nat.mod_lt _ hs0
      have := (hg (i / s) hq).1 (i % s) hr
      rw [Nat.mul_comm, Nat.div_add_mod] at this
      rw [this]
      have h2 := flat_get hf ((List.range len).map g) (i / s) (i % s) (by simpa using hq) hr
      rw [Nat.mul_comm, Nat.div_add_mod] at h2
      rw [h2]
      simp
    · intro x hx'
      obtain ⟨i, hi, rfl⟩ := List.mem_map.1 hx'
      exact (hg i (List.mem_range.1 hi)).2
end
section
variable {H : Type} {enc : TypeId × Value → H} {w : World}
theorem open_flags {fuel : Nat} {cs : List Value} {y : DataW H × List MemPlace} (h : Tr H enc w fuel 36 cs y) : ∃ f : Fl, cs = [.bool f.head, .bool f.body, .bool f.bad, .int .i64 f.lines, .int .i64 f.hops] := by
  obtain ⟨hl, n, hf⟩ := trod_field Try.underlying36 h
  rw [c36] at hl
  match cs, hl with
  | [a0, a1, a2, a3, a4], _ =>
    obtain ⟨_, h0⟩ := hf 0 _ 4 0 1 rfl rfl rfl c4
    obtain ⟨_, h1⟩ := hf 1 _ 4 1 1 rfl rfl rfl c4
    obtain ⟨_, h2⟩ := hf 2 _ 4 2 1 rfl rfl rfl c4
    obtain ⟨_, h3⟩ := hf 3 _ 3 3 1 rfl rfl rfl c3
    obtain ⟨_, h4⟩ := hf 4 _ 3 4 1 rfl rfl rfl c3
    obtain ⟨b0, e0, _⟩ := DataW.trod_bool Try.underlying4 h0
    obtain ⟨b1, e1, _⟩ := DataW.trod_bool Try.underlying4 h1
    obtain ⟨b2, e2, _⟩ := DataW.trod_bool Try.underlying4 h2
    obtain ⟨b3, e3, _⟩ := DataW.trod_int Try.underlying3 h3
    obtain ⟨b4, e4, _⟩ := DataW.trod_int Try.underlying3 h4
    simp at e0 e1 e2 e3 e4
    exact ⟨⟨b0, b1, b2, b3, b4⟩, by simp [e0, e1, e2, e3, e4]⟩
theorem open_str {fuel : Nat} {cs : List Value} {y : DataW H × List MemPlace} (h : Tr H enc w fuel 9 cs y) : ∃ s : ByteArray, cs = [.string s] ∧ True := by
  obtain ⟨s, e, _⟩ := DataW.trod_string Try.underlying9 h
  exact ⟨s, e, trivial⟩
theorem flat_one {α : Type} {β : Type} (f : α → β) (l : List α) : l.flatMap (fun a => [f a]) = l.map f := by
  induction l with
  | nil => rfl
  | cons a l ih => rw [List.flatMap_cons, ih]; rfl
theorem open_mail {fuel : Nat} {cs : List Value} {y : DataW H × List MemPlace} (h : Tr H enc w fuel 38 cs y) : ∃ (m : Ml) (tv lv : Value), cs = m.cells tv lv ∧ MRd w w.heap.size m tv lv := by
  obtain ⟨hl, n, hf⟩ := trod_field Try.underlying38 h
  rw [c38] at hl
  match cs, hl with
  | [a0, a1, a2, a3, a4, a5, a6, a7, a8, a9, a10], _ =>
    obtain ⟨_, h0⟩ := hf 0 _ 32 0 3 rfl rfl rfl c32
    obtain ⟨_, h1⟩ := hf 1 _ 33 3 1 rfl rfl rfl c33
    obtain ⟨_, h2⟩ := hf 2 _ 34 4 1 rfl rfl rfl c34
    obtain ⟨_, h3⟩ := hf 3 _ 36 5 5 rfl rfl rfl c36
    obtain ⟨_, h4⟩ := hf 4 _ 3 10 1 rfl rfl rfl c3
    obtain ⟨p, e0⟩ := open_pth h0
    obtain ⟨f, e3⟩ := open_flags h3
    obtain ⟨b4, e4, _⟩ := DataW.trod_int Try.underlying3 h4
    obtain ⟨At, ct, to, e1, hto, hnt, _⟩ := open_rows (R := fun _ => True) Try.underlying33 c32 Pth.len (fun h => by obtain ⟨p, e⟩ := open_pth h; exact ⟨p, e, trivial⟩) (y := _) h1
    obtain ⟨Al, cl, ls, e2, hls, hnl, _⟩ := open_rows (R := fun _ => True) (f := fun s : ByteArray => [Value.string s]) Try.underlying34 c9 (fun _ => rfl) open_str h2
    rw [flat_one] at hls
    simp [Pth.cells] at e0 e3 e4
    obtain ⟨rfl, rfl, rfl⟩ := e0
    obtain ⟨rfl, rfl, rfl, rfl, rfl⟩ := e3
    subst e4
    exact ⟨⟨p, to, ls, f, b4⟩, a3, a4, rfl, ⟨At, ct, e1, hto, hnt⟩, ⟨Al, cl, e2, hls, hnl⟩⟩
theorem open_call {fuel : Nat} {cs : List Value} {y : DataW H × List MemPlace} (h : Tr H enc w fuel 40 cs y) : ∃ c : CRow, cs = c.cells ∧ CRd w w.heap.size c := by
  obtain ⟨hl, n, hf⟩ := trod_field Try.underlying40 h
  rw [c40] at hl
  match cs, hl with
  | [a0, a1, a2, a3, a4, a5, a6, a7, a8, a9, a10, a11, a12, a13, a14], _ =>
    obtain ⟨_, h0⟩ := hf 0 _ 3 0 1 rfl rfl rfl c3
    obtain ⟨_, h1⟩ := hf 1 _ 38 1 11 rfl rfl rfl c38
    obtain ⟨_, h2⟩ := hf 2 _ 3 12 1 rfl rfl rfl c3
    obtain ⟨_, h3⟩ := hf 3 _ 3 13 1 rfl rfl rfl c3
    obtain ⟨_, h4⟩ := hf 4 _ 3 14 1 rfl rfl rfl c3
    obtain ⟨b0, e0, _, w0⟩ := DataW.trod_int Try.underlying3 h0
    obtain ⟨m, tv, lv, e1, hm⟩ := open_mail h1
    obtain ⟨b2, e2, _, w2⟩ := DataW.trod_int Try.underlying3 h2
    obtain ⟨b3, e3, _, w3⟩ := DataW.trod_int Try.underlying3 h3
    obtain ⟨b4, e4, _, w4⟩ := DataW.trod_int Try.underlying3 h4
    simp at e0 e2 e3 e4
    subst e0 e2 e3 e4
    refine ⟨⟨b0, m, tv, lv, b2, b3, b4⟩, ?_, hm, int_wf w0, int_wf w2, int_wf w3, int_wf w4⟩
    simp only [CRow.cells]
    rw [← e1]
    rfl
instance : Inhabited CRow := ⟨⟨0, ⟨⟨false, ⟨#[]⟩, ⟨#[]⟩⟩, [], [], ⟨false, false, false, 0, 0⟩, 0⟩, .slice none 0 0, .slice none 0 0, 0, 0, 0⟩⟩
theorem open_calls {base : Nat} {v : Value} {d : DataW H} {p : List MemPlace} (hv : Value.okWide Try.prog w .any base 22 v) (h : DataW.Trod enc Try.prog w 0 (fun _ => true) true 22 v d p) :
    ∃ (A : Option Addr) (c : Nat) (l : List CRow), v = .slice A l.length c ∧ Rd w w.heap.size A (l.flatMap CRow.cells) ∧ l.length ≤ 9223372036854775807 ∧ ∀ a ∈ l, CRd w w.heap.size a := by
  obtain ⟨a0, len, cap, rfl⟩ := okWide_slice Try.underlying22 hv
  obtain ⟨fuel, hf⟩ := h
  exact open_rows Try.underlying22 c40 CRow.len open_call hf
end
end Go.Proofs.Ytlbghgmeiajioaa
