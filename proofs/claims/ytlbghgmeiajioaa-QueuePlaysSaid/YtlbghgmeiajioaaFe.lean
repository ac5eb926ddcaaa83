/- few: are calls few, and their messages? -/
import Derived.Test.YtlbghgmeiajioaaAr
namespace Go.Proofs.Ytlbghgmeiajioaa
open Go.RowKit
set_option linter.unusedVariables false

def fewC (c : CRow) : Bool := decide (c.m.to.length ≤ 110) && decide (c.m.lines.length ≤ 50)
def fewS (l : List CRow) : Bool := l.all fewC && decide (l.length ≤ 40)
theorem few_no {l : List CRow} {k : Nat} (hk : k < l.length) (h : fewC l[k] = false) : fewS l = false := by
  unfold fewS
  rw [Bool.and_eq_false_iff]
  left
  rw [List.all_eq_false]
  exact ⟨_, List.getElem_mem hk, by simp [h]⟩
theorem few_end {l : List CRow} (h : ∀ k (hk : k < l.length), fewC l[k] = true) : fewS l = decide ((l.length : Int) ≤ 40) := by
  have : l.all fewC = true := by
    rw [List.all_eq_true]
    intro c hc
    obtain ⟨k, hk, rfl⟩ := List.getElem_of_mem hc
    exact h k hk
  unfold fewS
  rw [this, Bool.true_and]
  congr 1
  simp only [eq_iff_iff]
  omega
theorem few_yes {l : List CRow} (h : fewS l = true) : l.length ≤ 40 ∧ ∀ k (hk : k < l.length), l[k].m.to.length ≤ 110 ∧ l[k].m.lines.length ≤ 50 := by
  unfold fewS at h
  simp only [Bool.and_eq_true, decide_eq_true_eq, List.all_eq_true] at h
  refine ⟨h.2, fun k hk => ?_⟩
  have := h.1 _ (List.getElem_mem hk)
  simpa [fewC] using this
/-- The cells of call k. -/
theorem call_cells {w : World} {B : Nat} {A : Option Addr} {l : List CRow} (h : Rd w B A (l.flatMap CRow.cells)) {k : Nat} (hk : k < l.length) :
    ∃ b o, A = some ⟨b, o, none⟩ ∧ b < B ∧ ∀ j, j < 15 → w.cell? ⟨b, o + k * 15 + j, none⟩ = (l[k].cells)[j]? := by
  have hlen := flat_len CRow.len l
  rcases h with h0 | ⟨b, o, e, hb, hc⟩
  · have : (l.flatMap CRow.cells).length = 0 := by rw [h0]; rfl
    omega
  · refine ⟨b, o, e, hb, fun j hj => ?_⟩
    have h1 := flat_get CRow.len l k j hk hj
    rw [List.getElem?_eq_getElem (l := l[k].cells) (by rw [CRow.len]; exact hj)] at h1 ⊢
    rw [Nat.add_assoc]
    exact hc _ _ h1
set_option maxRecDepth 100000 in
set_option maxHeartbeats 4000000 in
theorem few_any (A : Option Addr) (c : Nat) (l : List CRow) (w : World) (hl : Rd w w.heap.size A (l.flatMap CRow.cells)) (hn : l.length ≤ 9223372036854775807) (hr : ∀ x ∈ l, CRd w w.heap.size x) :
    Calls Try.prog 9 #[.slice A l.length c] w fun e w' => e = .returned (.bool (fewS l)) ∧ w = w' := by
  have Hl := Lib.hid hl; have Hr := Lib.hid hr
  clear hl hr
  go_enter Try.func9, Try.ntmps9
  go_wp2_with fail
  go_loopw [3] (fun i wr => ∃ k : Nat, k ≤ l.length ∧ i = .int .i64 k ∧ w = wr ∧ ∀ j (hj : j < l.length), j < k → fewC l[j] = true) (fun i _ => l.length - (intOf i).toNat)
  case atStart => exact ⟨0, by omega, rfl, rfl, fun j hj h => by omega⟩
  case round =>
    obtain ⟨k, hk, rfl, rfl, hall⟩ := hrel
    by_cases hlt : k < l.length
    · obtain ⟨b, o, rfl, hb, hc⟩ := call_cells Hl.out hlt
      have h4 : w.cell? ⟨b, o + k * 15 + 1 + 3, none⟩ = _ := hc 4 (by decide)
      have h5 : w.cell? ⟨b, o + k * 15 + 1 + 4, none⟩ = _ := hc 5 (by decide)
      obtain ⟨⟨⟨At, ct, e1, _, n1⟩, ⟨Al, cl, e2, _, n2⟩⟩, _⟩ := Hr.out _ (List.getElem_mem hlt)
      simp [CRow.cells, Ml.cells, e1, e2] at h4 h5
      clear hc
      have hlt' : (k : Int) < l.length := by omega
      by_cases g1 : 110 < l[k].m.to.length
      · have D1 : decide ((110 : Int) < (l[k].m.to.length : Int)) = true := decide_eq_true (by omega)
        go_wp2_with fail
        go_ret
        exact ⟨by rw [few_no hlt (by simp [fewC]; omega)]; rfl, rfl⟩
      have D1 : decide ((110 : Int) < (l[k].m.to.length : Int)) = false := decide_eq_false (by omega)
      by_cases g2 : 50 < l[k].m.lines.length
      · have D2 : decide ((50 : Int) < (l[k].m.lines.length : Int)) = true := decide_eq_true (by omega)
        go_wp2_with fail
        go_ret
        exact ⟨by rw [few_no hlt (by simp [fewC]; omega)]; rfl, rfl⟩
      have D2 : decide ((50 : Int) < (l[k].m.lines.length : Int)) = false := decide_eq_false (by omega)
      have hfk : fewC l[k] = true := by simp [fewC]; omega
      have hall' : ∀ j (hj : j < l.length), j < k + 1 → fewC l[j] = true := fun j hj h => by
        rcases Nat.lt_succ_iff_lt_or_eq.1 h with h | h
        · exact hall j hj h
        · subst h; exact hfk
      have HA := Lib.hid hall'
      clear hall hall' hfk
      go_wp2_with fail
      exact ⟨⟨k + 1, by omega, by go_num, trivial, HA.out⟩, by simp [intOf]; omega⟩
    · obtain rfl : k = l.length := by omega
      have hfe := few_end (fun j hj => hall j hj hj)
      have HE := Lib.hid hfe
      clear hall hfe
      go_wp2_with fail
      go_ret
      exact ⟨by rw [HE.out]; rfl, rfl⟩
end Go.Proofs.Ytlbghgmeiajioaa
