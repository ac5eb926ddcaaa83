/- Lines out of bytes, in plain words. No program in sight. -/
import Derived.Lib.Strings
namespace Go.Proofs.Ytjlpmfokekflbaa
set_option linter.unusedVariables false

/-- Has a text a byte of a line's end? -/
def bareL (l : List UInt8) : Bool := l.any (fun b => b == 13 || b == 10)
/-- A line that came. -/
structure Fr where
  text : List UInt8
  long : Bool
  bare : Bool
def oneF (most : Int) (l : List UInt8) : Fr := ⟨if !decide (most < (l.length : Int)) && !bareL l then l else [], decide (most < (l.length : Int)), bareL l⟩

/-- Bytes ahead of what has been split. -/
def pre (p : List UInt8) : List (List UInt8) × List UInt8 → List (List UInt8) × List UInt8
  | ([], t) => ([], p ++ t)
  | (l :: ls, t) => ((p ++ l) :: ls, t)
/-- Bytes as lines, and what stands behind the last line's end. -/
def split : List UInt8 → List (List UInt8) × List UInt8
  | [] => ([], [])
  | [c] => ([], [c])
  | a :: b :: r => if a = 13 ∧ b = 10 then ([] :: (split r).1, (split r).2) else pre [a] (split (b :: r))

theorem pre_nil (x : List (List UInt8) × List UInt8) : pre [] x = x := by
  obtain ⟨ls, t⟩ := x
  cases ls <;> rfl
theorem pre_pre (p q : List UInt8) (x : List (List UInt8) × List UInt8) : pre p (pre q x) = pre (p ++ q) x := by
  obtain ⟨ls, t⟩ := x
  cases ls <;> simp [pre]
theorem split_cut (r : List UInt8) : split (13 :: 10 :: r) = ([] :: (split r).1, (split r).2) := by rw [split]; simp
theorem split_step {a : UInt8} {r : List UInt8} (h : ¬ (a = 13 ∧ r.head? = some 10)) : split (a :: r) = pre [a] (split r) := by
  cases r with
  | nil => simp [split, pre]
  | cons b r =>
    rw [split, if_neg]
    simpa using h
theorem pre_fst {p : List UInt8} {x : List (List UInt8) × List UInt8} : (pre p x).1 = [] ↔ x.1 = [] := by
  obtain ⟨ls, t⟩ := x
  cases ls <;> simp [pre]
theorem split_none : ∀ {l : List UInt8}, (split l).1 = [] → (split l).2 = l := by
  intro l
  induction l using split.induct with
  | case1 => simp [split]
  | case2 c => simp [split]
  | case3 a b r hc ih => rw [split, if_pos hc]; simp
  | case4 a b r hc ih =>
    rw [split, if_neg hc]
    intro h
    have h1 := pre_fst.1 h
    have h2 := ih h1
    rcases hx : split (b :: r) with ⟨ls, t⟩
    rw [hx] at h1 h2
    simp only at h1 h2
    subst h1 h2
    simp [pre]
/-- Bytes ahead of which no line ends: they come ahead. -/
theorem split_ahead : ∀ {p : List UInt8} {c : UInt8} {b : List UInt8}, (split (p ++ [c])).1 = [] → split (p ++ c :: b) = pre p (split (c :: b))
  | [], c, b, _ => by simp [pre_nil]
  | a :: p, c, b, h => by
    have hne : ¬ (a = 13 ∧ (p ++ [c]).head? = some 10) := by
      intro ⟨h1, h2⟩
      subst h1
      cases hp : p ++ [c] with
      | nil => rw [hp] at h2; simp at h2
      | cons d r =>
        rw [hp] at h2
        simp at h2
        subst h2
        rw [List.cons_append, hp, split_cut] at h
        simp at h
    have hne2 : ¬ (a = 13 ∧ (p ++ c :: b).head? = some 10) := by
      intro ⟨h1, h2⟩
      refine hne ⟨h1, ?_⟩
      cases p <;> simpa using h2
    rw [List.cons_append, split_step hne] at h
    rw [List.cons_append, split_step hne2, split_ahead (pre_fst.1 h), pre_pre]
    rfl
/-- What stands behind the last line's end holds no line's end. -/
theorem split_rest : ∀ (l : List UInt8), (split (split l).2).1 = [] := by
  intro l
  induction l using split.induct with
  | case1 => simp [split]
  | case2 c => simp [split]
  | case3 a b r hc ih => rw [split, if_pos hc]; exact ih
  | case4 a b r hc ih =>
    have e : split (a :: b :: r) = pre [a] (split (b :: r)) := by rw [split, if_neg hc]
    rw [e]
    rcases hx : split (b :: r) with ⟨ls, t⟩
    rw [hx] at ih
    cases ls with
    | nil =>
      have ht : (split (b :: r)).2 = b :: r := split_none (by rw [hx])
      rw [hx] at ht
      simp only at ht
      subst ht
      simp only [pre]
      show (split (a :: b :: r)).1 = []
      rw [e, hx]
      simp [pre]
    | cons l ls => exact ih
/-- Bytes that come in two pieces. -/
theorem split_app : ∀ (a b : List UInt8), split (a ++ b) = ((split a).1 ++ (split ((split a).2 ++ b)).1, (split ((split a).2 ++ b)).2) := by
  intro a
  induction a using split.induct with
  | case1 => intro b; simp [split]
  | case2 c => intro b; simp [split]
  | case3 x y r hc ih =>
    intro b
    obtain ⟨rfl, rfl⟩ := hc
    rw [List.cons_append, List.cons_append, split_cut, split_cut, ih b]
    simp
  | case4 x y r hc ih =>
    intro b
    have hne : ∀ z : List UInt8, ¬ (x = 13 ∧ (y :: z).head? = some 10) := fun z ⟨h1, h2⟩ => hc ⟨h1, by simpa using h2⟩
    have e : split (x :: y :: r) = pre [x] (split (y :: r)) := split_step (hne r)
    have e2 : split (x :: y :: r ++ b) = pre [x] (split (y :: r ++ b)) := split_step (hne (r ++ b))
    rw [e, e2, ih b]
    rcases hx : split (y :: r) with ⟨ls, t⟩
    cases ls with
    | nil =>
      have ht : (split (y :: r)).2 = y :: r := split_none (by rw [hx])
      rw [hx] at ht
      simp only at ht
      subst ht
      simp only [pre, List.nil_append]
      show pre [x] (split (y :: (r ++ b))) = split (x :: y :: (r ++ b))
      rw [split_step (a := x) (hne (r ++ b))]
    | cons l ls => simp [pre]
/-- A line without a byte of a line's end. -/
theorem split_line : ∀ {p : List UInt8} (r : List UInt8), bareL p = false → split (p ++ 13 :: 10 :: r) = (p :: (split r).1, (split r).2)
  | [], r, _ => split_cut r
  | a :: p, r, h => by
    simp only [bareL, List.any_cons, Bool.or_eq_false_iff] at h
    have hne : ¬ (a = 13 ∧ (p ++ 13 :: 10 :: r).head? = some 10) := fun ⟨h1, _⟩ => by have := h.1.1; subst h1; simp at this
    rw [List.cons_append, split_step hne, split_line r h.2]
    simp [pre]

/-- What a framer tells, and what it keeps. -/
def feedS (most : Int) (inn b : List UInt8) : List Fr × List UInt8 := ((split (inn ++ b)).1.map (oneF most), (split (inn ++ b)).2)
/-- What lies in a framer: no line's end. -/
def Kept (inn : List UInt8) : Prop := (split inn).1 = []
theorem kept_nil : Kept [] := rfl
theorem kept_feed (most : Int) (inn b : List UInt8) : Kept (feedS most inn b).2 := split_rest _
/-- In which pieces bytes come does not matter. -/
theorem feed_app (most : Int) (inn a b : List UInt8) (h : Kept inn) : feedS most inn (a ++ b) = ((feedS most inn a).1 ++ (feedS most (feedS most inn a).2 b).1, (feedS most (feedS most inn a).2 b).2) := by
  unfold feedS
  rw [← List.append_assoc, split_app (inn ++ a) b]
  simp
end Go.Proofs.Ytjlpmfokekflbaa
