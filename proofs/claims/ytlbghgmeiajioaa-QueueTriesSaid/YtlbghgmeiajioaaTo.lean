/- The law QueueTries in plain words: one item of one recipient. -/
import Derived.Test.YtlbghgmeiajioaaAp
namespace Go.Proofs.Ytlbghgmeiajioaa
set_option linter.unusedVariables false

def pT : Pth := ⟨false, ⟨#[]⟩, ⟨#[]⟩⟩
def mT (null : Bool) : Ml := ⟨⟨null, ⟨#[]⟩, ⟨#[]⟩⟩, [pT], [], ⟨false, false, false, 0, 0⟩, 0⟩
def itT (null : Bool) (s t n u : Int) : It := ⟨1, ⟨null, ⟨#[]⟩, ⟨#[]⟩⟩, [⟨pT, s, t, n, u⟩], [], ⟨false, false, false, 0, 0⟩, 0⟩
def endT (null : Bool) : Int := if null then 4 else 3
theorem itT_small (null : Bool) (s t n u : Int) (h1 : 0 ≤ t) (h2 : t ≤ 1000) : Small [itT null s t n u] := by
  refine ⟨by simp, fun it hit => ?_⟩
  simp at hit
  subst hit
  refine ⟨by simp [itT], fun r hr => ?_⟩
  simp [itT] at hr
  subst hr
  exact ⟨h1, h2⟩
theorem tr_add (null : Bool) : addS 1 [] (mT null) false = (1, 0, [itT null 0 0 0 0]) := by
  cases null <;> rfl
theorem itT_all (null : Bool) (s t n u : Int) : allL [itT null s t n u] = [((1, 0), ⟨pT, s, t, n, u⟩)] := by simp [allL, recs, itT]
theorem tr_early (null : Bool) (t n u now : Int) (h : now < n) : dueS [itT null 0 t n u] now = (0, 0, false) := by
  refine due_none fun x hx => ?_
  rw [itT_all] at hx
  simp at hx
  subst hx
  simp [dueP]
  omega
theorem tr_due (null : Bool) (t n u : Int) : dueS [itT null 0 t n u] n = (1, 0, true) :=
  due_some (pre := []) (x := ((1, 0), ⟨pT, 0, t, n, u⟩)) (by rw [itT_all]; exact List.prefix_refl _) (fun y hy => by cases hy) (by simp [dueP])
theorem tr_pos (null : Bool) (s t n u st : Int) : pos [itT null s t n u] 1 0 st = if s == st then some (0, 0) else none := rfl
theorem tr_take (null : Bool) (t n u : Int) : takeS [itT null 0 t n u] 1 0 = (true, [itT null 1 (t + 1) n u]) := rfl
theorem tr_lt (null : Bool) (T B t n u : Int) (h : t < T) (h0 : 0 ≤ n) (h1 : n ≤ 1099511627776) : laterS T B [itT null 1 t n u] 1 0 n = (0, [itT null 0 t (n + t * B) u]) := by
  have hc : clamp n = n := by unfold clamp; omega
  unfold laterS
  rw [tr_pos]
  simp only [beq_self_eq_true, if_true]
  rw [if_neg (by show ¬ T ≤ t; omega), hc]
  rfl
theorem tr_ge (null : Bool) (T B t n u : Int) (h : T ≤ t) : laterS T B [itT null 1 t n u] 1 0 n = (endT null, [itT null (endT null) t n 447]) := by
  unfold laterS
  rw [tr_pos]
  simp only [beq_self_eq_true, if_true]
  rw [if_pos (by show T ≤ t; omega)]
  unfold failS
  rw [tr_pos]
  simp only [beq_self_eq_true, if_true]
  cases null <;> rfl
theorem tr_open (null : Bool) (t n : Int) : openN [itT null (endT null) t n 447] = 0 := by
  cases null <;> rfl
end Go.Proofs.Ytlbghgmeiajioaa
