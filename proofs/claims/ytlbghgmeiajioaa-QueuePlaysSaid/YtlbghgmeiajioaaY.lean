/- A loop over a method value: the receiver comes ahead of yield. -/
import Derived.RangeFuncNested
import Derived.RangeFuncBound
import Derived.RangeFuncCalls
import Derived.RangeFuncLeaves
import Derived.RangeFuncBox
import Derived.Shelf.Abstract
import Derived.OwnWalkIn
import Derived.TacticsInMore
import Derived.LoopNIn
import Derived.LoopIn
import Derived.Test.YtlbghgmeiajioaaX
namespace Go.Proofs.Ytlbghgmeiajioaa
open Go.RowKit Go.Shelf
set_option linter.unusedVariables false

/-- Every block of cells lies as it lay. -/
structure KeepsC (W W' : World) : Prop where
  size : W.heap.size ≤ W'.heap.size
  same : ∀ (k : Nat) (o : Obj), W.heap[k]? = some o → o.isCells = true → W'.heap[k]? = some o
theorem KeepsC.refl (W : World) : KeepsC W W := ⟨Nat.le_refl _, fun _ _ h _ => h⟩
theorem KeepsC.trans {A B C : World} (h : KeepsC A B) (k : KeepsC B C) : KeepsC A C := ⟨Nat.le_trans h.size k.size, fun i o hi ho => k.same i o (h.same i o hi ho) ho⟩
theorem KeepsC.below {A B : World} (h : Below A.heap.size A B) : KeepsC A B := ⟨h.size, fun k o hk _ => (h.block k (Array.getElem?_eq_some_iff.1 hk).1).trans hk⟩
theorem KeepsC.put {W : World} {l : Nat} {o : Obj} (o' : Obj) (hl : W.heap[l]? = some o) (ho : o.isCells = false) : KeepsC W (W.putObj l o') :=
  ⟨by simp, fun k u hk hu => (World.putObj_heap_other (fun e => by subst e; rw [hl] at hk; cases hk; rw [ho] at hu; cases hu)).trans hk⟩
theorem Bk.keepsC {W W' : World} {g : Nat} {t : TypeId} {cs : Array Value} (h : Bk W g t cs) (k : KeepsC W W') : Bk W' g t cs := k.same g _ h rfl

/-- What an iterator that is a method value comes to. -/
def MethGives {α : Type} (F : Fence) (n : Nat) (P : Program) (gf : Nat) (first : Array Value) (encs : α → Array Value) (S Sp : List α → Prop) (N : Nat) (w : World) : Prop :=
  ∀ (l : Nat) (J Jx : List α → World → Prop) (W : World), Below w.heap.size w W → AbidesFrom W.heap.size J → AbidesFrom W.heap.size Jx →
    (∀ pre x W1, J pre W1 → pre.length < N → YieldAt F (n - 1) P l (encs x) W1 fun e W' => (e = .returned (.bool true) ∧ J (pre ++ [x]) W' ∧ KeepsC W1 W') ∨ (e = .returned (.bool false) ∧ Jx (pre ++ [x]) W')) →
    J [] W → CallsIn F n P gf (first ++ #[.func (.yield l) #[] #[]]) W fun e W' => (∃ v, e = .returned v) ∧ ((∃ xs, S xs ∧ J xs W') ∨ (∃ pre, Sp pre ∧ Jx pre W'))

/-- How a round of such a loop may be left: on, or by a return. -/
def methPost {α : Type} (I Ix : List α → World → Prop) (xs : List α) (W : World) : Exit → Act → World → Prop
  | .normal, _, W' => KeepsOthers W W' ∧ KeepsC W W' ∧ I xs W'
  | .ret, _, W' => KeepsOthers W W' ∧ Ix xs W'
  | _, _, _ => False

theorem wpIn_rangeMethod {F : Fence} {n : Nat} {P : Program} {α : Type} {g : Operand} {ps : Array Tmp} {assign body : Code} {Q : Exit → Act → World → Prop} {a : Act} {w : World}
    (hro : F.round = none) (h1 : 1 ≤ n) {gf : Nat} {first : Array Value} (hg : a.eval g = .func (.func gf) first #[]) (hFg : F.fn gf) (eg : ∀ args w, (callFunc gf args).run P w = .ok (.enter gf args) w)
    {encs : α → Array Value} {S Sp : List α → Prop} {N : Nat} (hseq : MethGives F (n - 1) P gf first encs S Sp N w) (hps : ∀ x, (encs x).size = ps.size)
    (I Ix : List α → World → Prop) (A : List α → α → Act → World → Prop) (hI : OwnFrom w.heap.size I) (hIx : OwnFrom w.heap.size Ix) (hA : ∀ pre x a2, OwnFrom w.heap.size (fun (_ : Unit) W => A pre x a2 W)) (h0 : I [] w)
    (hassign : ∀ (l : Nat) (pre : List α) (x : α) (W : World), I pre W → pre.length < N →
      assign.wpIn (F.inRound l) (n - 1 - 1) P (Exit.then (fun a2 W2 => KeepsOthers W W2 ∧ KeepsC W W2 ∧ A pre x a2 W2) (fun _ _ _ => False)) { tmps := (ps.zip (encs x)).foldl (fun t (p, v) => t.setIfInBounds p v) a.tmps, defers := [] } W)
    (hbody : ∀ (l : Nat) (pre : List α) (x : α) (a2 : Act) (W : World), A pre x a2 W → body.wpIn (F.inRound l) (n - 1 - 1) P (methPost I Ix (pre ++ [x]) W) a2 W)
    (hdone : ∀ (D : Nat) (xs : List α) (W : World), w.heap.size ≤ D → S xs → I xs W → W.heap[D]? = some (.deferred (some [])) → Q .normal { a with defers := { target := .collected D, args := #[] } :: a.defers } W)
    (hstop : ∀ (D : Nat) (pre : List α) (W : World), w.heap.size ≤ D → Sp pre → Ix pre W → W.heap[D]? = some (.deferred (some [])) → Code.ret.wpIn F n P Q { a with defers := { target := .collected D, args := #[] } :: a.defers } W) :
    (Code.rangeFunc g ps assign body).wpIn F n P Q a w := by
  refine wpIn_rangeFunc fun fn hfn => ?_
  rw [hro]
  let R : LoopState → Option Code → Loop := fun st pe => { state := st, pending := pe, fn, tmps := a.tmps, params := ps, assign, body, defers := w.heap.size }
  let W1 : World := (w.alloc (.deferred (some []))).alloc (.loop (R .ready none))
  let L : Nat := w.heap.size + 1
  have sz : W1.heap.size = w.heap.size + 2 := by simp [W1]
  have rd : ∀ {W : World} {k : Nat} {o : Obj}, W.heap[k]? = some o → k < W.heap.size := fun h => (Array.getElem?_eq_some_iff.1 h).1
  have lL : W1.heap[L]? = some (.loop (R .ready none)) := by
    have := World.alloc_heap_new (w.alloc (.deferred (some []))) (.loop (R .ready none))
    rwa [World.size_alloc] at this
  have lD : W1.heap[w.heap.size]? = some (.deferred (some [])) := (Below.heap_alloc _ _ _ (by simp)).trans (World.alloc_heap_new w _)
  -- a block that is no cells, and no walk's, lies as it lay behind a step that turns walks alone
  have keep : ∀ {X Y : World} {row : Option Nat} {k : Nat} {o : Obj}, X.grownBy Y row → (∀ r, row = some r → W1.heap.size ≤ r ∧ ∃ o : Obj, X.heap[r]? = some o ∧ o.isWalk = true) → X.heap[k]? = some o → o.isWalk = false → Y.heap[k]? = some o := by
    intro X Y row k o hg hr hk ho
    refine (hg.block k (rd hk) fun e => ?_).trans hk
    obtain ⟨_, o', hk', ho'⟩ := hr k e.symm
    rw [hk] at hk'
    cases hk'
    rw [ho] at ho'
    cases ho'
  have wide : ∀ {X : World} {row : Option Nat}, (∀ r, row = some r → W1.heap.size ≤ r ∧ ∃ o : Obj, X.heap[r]? = some o ∧ o.isWalk = true) → (∀ r, row = some r → w.heap.size ≤ r ∧ ∃ o : Obj, X.heap[r]? = some o ∧ o.isCells = false) := by
    intro X row hr r e
    obtain ⟨hB, o, ho, hw⟩ := hr r e
    exact ⟨by omega, o, ho, Obj.not_cells_of_walk hw⟩
  refine ⟨L, [{ target := .collected w.heap.size, args := #[] }], W1, { target := .fn (.func gf) #[], args := first ++ #[.func (.yield L) #[] #[]] }, W1, gf, first ++ #[.func (.yield L) #[] #[]], W1, run_enterLoop_outer _ _ _ _ _, ?_, ?_, ?_, fun _ => h1, ?_⟩
  · simp only [resolve, hg]
    simp [go_sem]
  · intro f' hf'; simp [Target.leads] at hf'; subst hf'; exact hFg
  · simp [invoke, go_sem, eg]
  refine (hseq L (fun pre W => I pre W ∧ W.heap[L]? = some (.loop (R .ready none)) ∧ W.heap[w.heap.size]? = some (.deferred (some [])))
    (fun pre W => Ix pre W ∧ W.heap[L]? = some (.loop (R .done (some .ret))) ∧ W.heap[w.heap.size]? = some (.deferred (some []))) W1
    (((Below.refl _ w).alloc (Nat.le_refl _) _).alloc (by simp) _)
    (fun s X Y row h hg hr => ⟨hI s X Y row h.1 hg (wide hr), keep hg hr h.2.1 rfl, keep hg hr h.2.2 rfl⟩)
    (fun s X Y row h hg hr => ⟨hIx s X Y row h.1 hg (wide hr), keep hg hr h.2.1 rfl, keep hg hr h.2.2 rfl⟩) ?_ ⟨hI.alloc _ (hI.alloc _ h0), lL, lD⟩).mono ?_
  · rintro pre x W ⟨hi, hl, hd⟩ hlen
    refine ⟨fn, _, assign, body, run_yield (P := P) (args := encs x) hl (hps x), roundIn_of_wpIn hfn (wpIn_mono (hassign L pre x W hi hlen) ?_)⟩
    rintro e a2 W2 hq
    cases e with
    | normal =>
      obtain ⟨ko, kc, ha⟩ := hq
      have hl2 := ko.same _ _ hl rfl
      have hd2 := ko.same _ _ hd rfl
      refine ⟨_, run_beginRound hl2 rfl, ?_⟩
      have ha3 := OwnFrom.putObj (hA pre x a2) (s := ()) (.loop { R .ready none with state := .busy }) ha (by omega) hl2 rfl
      have kc3 : KeepsC W (W2.putObj L (.loop { R .ready none with state := .busy })) := kc.trans (KeepsC.put _ hl2 rfl)
      have hl3 : (W2.putObj L (.loop { R .ready none with state := .busy })).heap[L]? = some (.loop { R .ready none with state := .busy }) := World.putObj_heap_same (rd hl2)
      have hd3 : (W2.putObj L (.loop { R .ready none with state := .busy })).heap[w.heap.size]? = some (.deferred (some [])) := (World.putObj_heap_other (by omega)).trans hd2
      refine wpIn_mono (hbody L pre x a2 _ ha3) ?_
      rintro e a4 W4 hp
      cases e with
      | normal =>
        obtain ⟨ko4, kc4, hi4⟩ := hp
        have hl4 := ko4.same _ _ hl3 rfl
        have hd4 := ko4.same _ _ hd3 rfl
        exact ⟨_, _, run_endRound none hl4, .inl ⟨rfl, ⟨hI.putObj _ hi4 (by omega) hl4 rfl, World.putObj_heap_same (rd hl4), (World.putObj_heap_other (by omega)).trans hd4⟩, (kc3.trans kc4).trans (KeepsC.put _ hl4 rfl)⟩⟩
      | ret =>
        obtain ⟨ko4, hi4⟩ := hp
        have hl4 := ko4.same _ _ hl3 rfl
        have hd4 := ko4.same _ _ hd3 rfl
        exact ⟨_, _, run_endRound (some .ret) hl4, .inr ⟨rfl, hIx.putObj _ hi4 (by omega) hl4 rfl, World.putObj_heap_same (rd hl4), (World.putObj_heap_other (by omega)).trans hd4⟩⟩
      | exit id => exact hp.elim
      | goto t => exact hp.elim
      | panic ch => exact hp.elim
      | outgrown => exact hp.elim
    | ret => exact hq.elim
    | exit id => exact hq.elim
    | goto t => exact hq.elim
    | panic ch => exact hq.elim
    | outgrown => exact hq.elim
  · rintro e W2 ⟨⟨v, rfl⟩, ⟨xs, hS, hi, hl, hd⟩ | ⟨pre, hS, hi, hl, hd⟩⟩
    · exact ⟨none, _, run_endLoop hl (by simp [R]), hdone _ xs _ (Nat.le_refl _) hS (hI.putObj _ hi (by omega) hl rfl) ((World.putObj_heap_other (by omega)).trans hd)⟩
    · exact ⟨some .ret, _, run_endLoop hl (by simp [R]), hstop _ pre _ (Nat.le_refl _) hS (hIx.putObj _ hi (by omega) hl rfl) ((World.putObj_heap_other (by omega)).trans hd)⟩
end Go.Proofs.Ytlbghgmeiajioaa
