/- The plain functions that the stuff layer computes, and their laws. No program in sight. -/
import Derived.Lib.Strings
import Derived.Lib.IndexBytes
namespace Go.Proofs.Ytcbkllecdelfeaa

theorem bytes_ext {a b : ByteArray} (h : a.toList = b.toList) : a = b := by
  rw [ByteArray.toList_eq, ByteArray.toList_eq] at h
  cases a; cases b
  simpa using h
theorem toList_app (a b : ByteArray) : (a ++ b).toList = a.toList ++ b.toList := by
  simp [ByteArray.toList_eq, ByteArray.data_append]
theorem size_len (s : ByteArray) : s.size = s.toList.length := by rw [ByteArray.toList_eq]; exact Lib.size_eq s

/-- Does a line begin with a dot? -/
def dotB (s : ByteArray) : Bool := s.toList.head? == some 46
/-- A line as it goes out. -/
def outS (s : ByteArray) : ByteArray := if dotB s then (⟨#[46]⟩ : ByteArray) ++ s else s
/-- Is it the end? -/
def endB (s : ByteArray) : Bool := s.toList == [46]
/-- A line as it was. -/
def inS (s : ByteArray) : ByteArray := if endB s then ⟨#[]⟩ else if dotB s then s.extract 1 s.size else s
def outL (l : List ByteArray) : List ByteArray := l.map outS ++ [⟨#[46]⟩]
def fewB (l : List ByteArray) : Bool := l.all (fun s => decide (s.size ≤ 1200)) && decide (l.length ≤ 100)

theorem dot_cut {s : ByteArray} (h : 1 ≤ s.size) : ((s.extract 0 1).toList == [46]) = dotB s := by
  rw [Lib.extract_toList, ← ByteArray.toList_eq]
  rw [size_len] at h
  unfold dotB
  cases hs : s.toList with
  | nil => rw [hs] at h; simp at h
  | cons c r => simp
theorem dot_idx {s : ByteArray} (h : 0 < s.size) : ((s[0].toNat : Int) == 46) = dotB s := by
  have h1 : s.toList[0]? = some s[0] := by rw [ByteArray.toList_eq]; exact Lib.data_getElem? s 0 h
  unfold dotB
  rw [List.head?_eq_getElem?, h1]
  generalize s[0] = c
  by_cases hc : c = 46
  · subst hc; rfl
  · have : c.toNat ≠ 46 := fun e => hc (UInt8.toNat_inj.1 e)
    rw [beq_eq_false_iff_ne.2 (by omega), beq_eq_false_iff_ne.2 (by simpa using hc)]
theorem dot_none {s : ByteArray} (h : s.size < 1) : dotB s = false := by
  rw [size_len] at h
  unfold dotB
  rw [List.eq_nil_of_length_eq_zero (by omega : s.toList.length = 0)]
  rfl
theorem end_dot {s : ByteArray} (h : endB s = true) : dotB s = true := by
  unfold endB at h; unfold dotB
  rw [beq_iff_eq.1 h]; rfl
theorem in_end {s : ByteArray} (h : endB s = true) : inS s = ⟨#[]⟩ := by unfold inS; rw [h]; rfl
theorem in_dot {s : ByteArray} (h : endB s = false) (hd : dotB s = true) : inS s = s.extract 1 s.size := by unfold inS; rw [h, hd]; rfl
theorem in_plain {s : ByteArray} (h : endB s = false) (hd : dotB s = false) : inS s = s := by unfold inS; rw [h, hd]; rfl
theorem out_dot {s : ByteArray} (hd : dotB s = true) : outS s = (⟨#[46]⟩ : ByteArray) ++ s := by unfold outS; rw [hd]; rfl
theorem out_plain {s : ByteArray} (hd : dotB s = false) : outS s = s := by unfold outS; rw [hd]; rfl

theorem out_dotted (s : ByteArray) : dotB (outS s) = dotB s := by
  by_cases h : dotB s = true
  · rw [h, out_dot h]; unfold dotB; rw [toList_app, show (⟨#[46]⟩ : ByteArray).toList = [46] from ByteArray.toList_mk [46]]; rfl
  · rw [out_plain (by simpa using h)]
theorem out_end (s : ByteArray) : endB (outS s) = false := by
  by_cases h : dotB s = true
  · rw [out_dot h]; unfold endB; rw [toList_app]
    unfold dotB at h
    cases hs : s.toList with
    | nil => rw [hs] at h; cases h
    | cons c r => simp
  · have h' : dotB s = false := by simpa using h
    rw [out_plain h']
    by_cases he : endB s = true
    · rw [end_dot he] at h'; cases h'
    · simpa using he
theorem in_out (s : ByteArray) : inS (outS s) = s := by
  by_cases h : dotB s = true
  · rw [in_dot (out_end s) (by rw [out_dotted]; exact h), out_dot h]
    apply bytes_ext
    rw [Lib.extract_toList, ← ByteArray.toList_eq, size_len, toList_app]
    simp
  · have h' : dotB s = false := by simpa using h
    rw [in_plain (out_end s) (by rw [out_dotted]; exact h'), out_plain h']
theorem out_size (s : ByteArray) : (outS s).size = s.size + if dotB s then 1 else 0 := by
  by_cases h : dotB s = true
  · rw [out_dot h, h, size_len, size_len, toList_app, show (⟨#[46]⟩ : ByteArray).toList = [46] from ByteArray.toList_mk [46]]; simp; try omega
  · have h' : dotB s = false := by simpa using h
    rw [out_plain h', h']; simp
theorem in_size (s : ByteArray) : (inS s).size ≤ s.size := by
  unfold inS
  split
  · exact Nat.zero_le _
  · split
    · simp [ByteArray.size_extract]
    · exact Nat.le_refl _
end Go.Proofs.Ytcbkllecdelfeaa
namespace Go.Proofs.Ytcbkllecdelfeaa
/-- Two rows of lines: are they one? -/
def rowsB (xs ys : List ByteArray) : Bool := xs.map ByteArray.toList == ys.map ByteArray.toList
theorem rows_refl (xs : List ByteArray) : rowsB xs xs = true := by simp [rowsB]
theorem rows_len {xs ys : List ByteArray} (h : xs.length ≠ ys.length) : rowsB xs ys = false := by
  unfold rowsB
  rw [beq_eq_false_iff_ne]
  intro e
  have := congrArg List.length e
  simp at this
  exact h this
theorem rows_at {xs ys : List ByteArray} {k : Nat} (hx : k < xs.length) (hy : k < ys.length) (h : (xs[k].toList == ys[k].toList) = false) : rowsB xs ys = false := by
  unfold rowsB
  rw [beq_eq_false_iff_ne] at *
  intro e
  have : (xs.map ByteArray.toList)[k]? = (ys.map ByteArray.toList)[k]? := by rw [e]
  simp [List.getElem?_map, List.getElem?_eq_getElem hx, List.getElem?_eq_getElem hy] at this
  exact h this
theorem rows_all {xs ys : List ByteArray} (hl : xs.length = ys.length) (h : ∀ k (hx : k < xs.length) (hy : k < ys.length), (xs[k].toList == ys[k].toList) = true) : rowsB xs ys = true := by
  unfold rowsB
  rw [beq_iff_eq]
  apply List.ext_getElem (by simpa using hl)
  intro i h1 h2
  simp at h1 h2
  simpa using h i h1 h2
theorem rows_eq {xs ys : List ByteArray} (h : rowsB xs ys = true) : xs = ys := by
  unfold rowsB at h
  rw [beq_iff_eq] at h
  have hl : xs.length = ys.length := by simpa using congrArg List.length h
  apply List.ext_getElem hl
  intro i h1 h2
  have : (xs.map ByteArray.toList)[i]? = (ys.map ByteArray.toList)[i]? := by rw [h]
  simp [List.getElem?_map, List.getElem?_eq_getElem h1, List.getElem?_eq_getElem h2] at this
  exact bytes_ext this
end Go.Proofs.Ytcbkllecdelfeaa
