/- How a scan goes over the bytes, in plain words. -/
import Derived.Test.YtjlpmfokekflbaaS
namespace Go.Proofs.Ytjlpmfokekflbaa
set_option linter.unusedVariables false

/-- The bytes from f to a. -/
def seg (t : List UInt8) (f a : Nat) : List UInt8 := (t.take a).drop f
/-- What the scan knows: the lines that are done, where the next one begins, where it stands. -/
def At (t : List UInt8) (done : List (List UInt8)) (f a : Nat) : Prop :=
  f ≤ a ∧ a ≤ t.length ∧ split t = (done ++ (pre (seg t f a) (split (t.drop a))).1, (pre (seg t f a) (split (t.drop a))).2)
theorem seg_len {t : List UInt8} {f a : Nat} (h : a ≤ t.length) : (seg t f a).length = a - f := by simp [seg, Nat.min_eq_left h]
theorem seg_same (t : List UInt8) (a : Nat) : seg t a a = [] := by
  unfold seg
  rw [List.drop_eq_nil_iff]
  simp; omega
theorem seg_next {t : List UInt8} {f a : Nat} (hf : f ≤ a) (ha : a < t.length) : seg t f (a + 1) = seg t f a ++ [t[a]] := by
  unfold seg
  rw [List.take_succ_eq_append_getElem ha, List.drop_append_of_le_length (by simp; omega)]
theorem at_zero (t : List UInt8) : At t [] 0 0 := ⟨Nat.le_refl _, Nat.zero_le _, by rw [seg_same, List.drop_zero, pre_nil]; rfl⟩
/-- A framer looks again at the last byte that it had. -/
theorem at_start (inn b : List UInt8) (h : Kept inn) : At (inn ++ b) [] 0 (inn.length - 1) := by
  rcases List.eq_nil_or_concat inn with rfl | ⟨p, c, rfl⟩
  · exact at_zero b
  · refine ⟨Nat.zero_le _, by simp, ?_⟩
    have e1 : (p ++ [c]).length - 1 = p.length := by simp
    rw [List.concat_eq_append] at h ⊢
    have e2 : seg (p ++ [c] ++ b) 0 p.length = p := by simp [seg]
    have e3 : (p ++ [c] ++ b).drop p.length = c :: b := by simp
    rw [e1, e2, e3]
    have : p ++ [c] ++ b = p ++ c :: b := by simp
    rw [this, split_ahead h]
    rfl
theorem drop_two {t : List UInt8} {a : Nat} (h : a + 1 < t.length) : t.drop a = t[a] :: t[a + 1] :: t.drop (a + 2) := by
  rw [List.drop_eq_getElem_cons (by omega), List.drop_eq_getElem_cons (i := a + 1) h]
theorem At.cut {t : List UInt8} {done : List (List UInt8)} {f a : Nat} (h : At t done f a) (hl : a + 1 < t.length) (h1 : t[a] = 13) (h2 : t[a + 1] = 10) : At t (done ++ [seg t f a]) (a + 2) (a + 2) := by
  obtain ⟨hf, ha, e⟩ := h
  refine ⟨Nat.le_refl _, by omega, ?_⟩
  rw [e, drop_two hl, h1, h2, split_cut, seg_same, pre_nil]
  simp [pre]
theorem At.on {t : List UInt8} {done : List (List UInt8)} {f a : Nat} (h : At t done f a) (hl : a + 1 < t.length) (hne : ¬ (t[a] = 13 ∧ t[a + 1] = 10)) : At t done f (a + 1) := by
  obtain ⟨hf, ha, e⟩ := h
  refine ⟨by omega, by omega, ?_⟩
  rw [e, List.drop_eq_getElem_cons (i := a) (by omega), split_step, pre_pre, seg_next hf (by omega)]
  rintro ⟨h1, h2⟩
  refine hne ⟨h1, ?_⟩
  rw [List.drop_eq_getElem_cons hl, List.head?_cons] at h2
  exact Option.some.inj h2
theorem At.stop {t : List UInt8} {done : List (List UInt8)} {f a : Nat} (h : At t done f a) (hl : ¬ a + 1 < t.length) : split t = (done, t.drop f) := by
  obtain ⟨hf, ha, e⟩ := h
  have hs : split (t.drop a) = ([], t.drop a) := by
    have : (t.drop a).length ≤ 1 := by simp; omega
    match hd : t.drop a, this with
    | [], _ => rfl
    | [c], _ => rfl
    | _ :: _ :: _, h => simp at h
  rw [e, hs]
  have : seg t f a ++ t.drop a = t.drop f := by
    unfold seg
    have h1 : (t.take a ++ t.drop a).drop f = (t.take a).drop f ++ t.drop a := List.drop_append_of_le_length (by simp; omega)
    rw [← h1, List.take_append_drop]
  simp [pre, this]
end Go.Proofs.Ytjlpmfokekflbaa
