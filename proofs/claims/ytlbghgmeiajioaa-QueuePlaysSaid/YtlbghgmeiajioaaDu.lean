/- What Due comes to. -/
import Derived.Test.YtlbghgmeiajioaaZ
namespace Go.Proofs.Ytlbghgmeiajioaa
open Go.RowKit Go.Shelf
set_option linter.unusedVariables false

attribute [local go_sem] Oper.semAt_some

def dueP (now : Int) (x : Pos) : Bool := x.2.state == 0 && decide (x.2.next ≤ now)
def dueS (l : List It) (now : Int) : Int × Int × Bool := match (allL l).find? (dueP now) with
  | some x => (x.1.1, x.1.2, true)
  | none => (0, 0, false)
theorem due_none {l : List It} {now : Int} (h : ∀ x ∈ allL l, dueP now x = false) : dueS l now = (0, 0, false) := by
  unfold dueS
  rw [List.find?_eq_none.2 (fun x hx => by rw [h x hx]; decide)]
theorem due_some {l : List It} {now : Int} {pre : List Pos} {x : Pos} (hp : pre ++ [x] <+: allL l) (h : ∀ y ∈ pre, dueP now y = false) (hx : dueP now x = true) : dueS l now = (x.1.1, x.1.2, true) := by
  unfold dueS
  obtain ⟨rest, e⟩ := hp
  rw [← e, List.append_assoc, List.find?_append, List.find?_eq_none.2 (fun y hy => by rw [h y hy]; decide)]
  simp [hx]

theorem Bk.grownC {X Y : World} {row : Option Nat} {g : Nat} {t : TypeId} {cs : Array Value} (h : Bk X g t cs) (hg : X.grownBy Y row) (hr : ∀ r, row = some r → ∃ o : Obj, X.heap[r]? = some o ∧ o.isCells = false) : Bk Y g t cs := by
  refine h.grown hg fun e => ?_
  obtain ⟨o, ho, hc⟩ := hr g e.symm
  unfold Bk at h
  rw [h] at ho
  cases ho
  cases hc
theorem KeepsC.grownC {W X Y : World} {row : Option Nat} (h : KeepsC W X) (hg : X.grownBy Y row) (hr : ∀ r, row = some r → ∃ o : Obj, X.heap[r]? = some o ∧ o.isCells = false) : KeepsC W Y := by
  refine h.trans ⟨hg.size, fun k o hk ho => (hg.block k (Array.getElem?_eq_some_iff.1 hk).1 fun e => ?_).trans hk⟩
  obtain ⟨o', ho', hc⟩ := hr k e.symm
  rw [hk] at ho'
  cases ho'
  rw [ho] at hc
  cases hc

/-- The rounds of Due that go on. -/
def dueI (w W0 : World) (now : Int) (pre : List Pos) (W : World) : Prop := (∀ x ∈ pre, dueP now x = false) ∧ KeepsC W0 W ∧ Below w.heap.size w W
/-- The round that ends it. -/
def dueX (w : World) (now : Int) (pre : List Pos) (W : World) : Prop :=
  ∃ pre' x, pre = pre' ++ [x] ∧ (∀ y ∈ pre', dueP now y = false) ∧ dueP now x = true ∧ Bk W (w.heap.size + 1) 3 #[.int .i64 x.1.1] ∧ Bk W (w.heap.size + 2) 3 #[.int .i64 x.1.2] ∧ Bk W (w.heap.size + 3) 4 #[.bool true] ∧ Below w.heap.size w W
theorem dueI_own (w W0 : World) (now : Int) (B : Nat) (hB : w.heap.size ≤ B) : OwnFrom B (dueI w W0 now) := fun s X Y row h hg hr =>
  ⟨h.1, h.2.1.grownC hg (fun r e => (hr r e).2), h.2.2.grown hg h.2.2.size (fun k e => Nat.le_trans hB (hr k e).1)⟩
theorem dueX_own (w : World) (now : Int) (B : Nat) (hB : w.heap.size ≤ B) : OwnFrom B (dueX w now) := by
  rintro s X Y row ⟨p, x, e, h1, h2, h3, h4, h5, h6⟩ hg hr
  have hr2 := fun r e => (hr r e).2
  exact ⟨p, x, e, h1, h2, h3.grownC hg hr2, h4.grownC hg hr2, h5.grownC hg hr2, h6.grown hg h6.size (fun k e => Nat.le_trans hB (hr k e).1)⟩

theorem dueI_snoc {w W0 W : World} {now : Int} {pre : List Pos} {x : Pos} (h : dueI w W0 now pre W) (hx : dueP now x = false) : dueI w W0 now (pre ++ [x]) W := by
  refine ⟨fun y hy => ?_, h.2⟩
  rcases List.mem_append.1 hy with hy | hy
  · exact h.1 y hy
  · simp at hy; subst hy; exact hx

set_option maxHeartbeats 800000 in
theorem due_ret {w WF : World} {tmps : Array Value} {D a b c : Nat} {x y : Int} {z : Bool} (hd : WF.heap[D]? = some (.deferred (some []))) (k1 : Bk WF a 3 #[.int .i64 x]) (k2 : Bk WF b 3 #[.int .i64 y]) (k3 : Bk WF c 4 #[.bool z])
    (t4 : tmps[4]? = some (.pointer (some ⟨a, 0, none⟩))) (t5 : tmps[5]? = some (.pointer (some ⟨b, 0, none⟩))) (t6 : tmps[6]? = some (.pointer (some ⟨c, 0, none⟩))) (hB : Below w.heap.size w WF) (hD : w.heap.size ≤ D) {R : Ending → World → Prop}
    (hR : ∀ w', Below w.heap.size w w' → R (.returned (.tuple #[.int .i64 x, .int .i64 y, .bool z])) w') :
    bodyPostM Fence.wide 5 Try.prog Try.f15 R .ret { tmps := tmps, defers := [{ target := .collected D, args := #[] }] } WF := by
  refine ⟨by simp, .inl ⟨_, _, rfl, run_takeDeferred hd, ?_⟩⟩
  have c1 := (k1.keepsC (KeepsC.put (.deferred none) hd rfl)).cell 0
  have c2 := (k2.keepsC (KeepsC.put (.deferred none) hd rfl)).cell 0
  have c3 := (k3.keepsC (KeepsC.put (.deferred none) hd rfl)).cell 0
  simp at c1 c2 c3
  have hlt := (Array.getElem?_eq_some_iff.1 hd).1
  have hB2 : Below w.heap.size w (WF.putObj D (.deferred none)) := hB.grown (grownBy_putObj' WF D _) hB.size (fun k e => by cases e; exact hD)
  generalize WF.putObj D (.deferred none) = WG at *
  refine ⟨.tuple #[.int .i64 x, .int .i64 y, .bool z], ?_, hR _ hB2⟩
  simp [results, Try.results15, go_sem, t4, t5, t6, c1, c2, c3]

set_option maxRecDepth 100000 in
set_option maxHeartbeats 4000000 in
theorem due_any (w : World) (B g : Nat) (v : Value) (rows : List Row) (room tries wait : Int) (h : Qm w B g 66 v rows room tries wait) (now : Int) (hs : Small (rows.map Row.it)) :
    Calls Try.prog 15 #[.pointer (some ⟨g, 0, none⟩), .int .i64 now] w fun e w' => e = .returned (.tuple #[.int .i64 (dueS (rows.map Row.it) now).1, .int .i64 (dueS (rows.map Row.it) now).2.1, .bool (dueS (rows.map Row.it) now).2.2]) ∧ Below w.heap.size w w' := by
  have H := Lib.hid h; have Hs := Lib.hid hs
  clear h hs
  have hmf : ∀ (fn : Fn) (first cap : Array Value) (w : World), (Instr.makeFunc fn first cap).run Try.prog w = .ok (.func fn first cap) w := fun _ _ _ _ => rfl
  refine (callsIn_wide (n := 5)).1 ?_
  refine callsIn_of_wp_marks Try.func15 rfl trivial ?_ rfl
  simp only [Try.ntmps15, List.size_toArray, List.length_cons, List.length_nil, Nat.reduceAdd, Nat.reduceSub, Array.replicate_succ, Array.replicate_zero, List.push_toArray, List.append_toArray, List.nil_append, List.cons_append]
  gi_wp2_with fail
  obtain ⟨W0, hW0⟩ : ∃ W0, (((w.alloc (.cells #[.int .i64 now] 3)).alloc (.cells #[.int .i64 0] 3)).alloc (.cells #[.int .i64 0] 3)).alloc (.cells #[.bool false] 4) = W0 := ⟨_, rfl⟩
  have b0 : Bk W0 w.heap.size 3 #[.int .i64 now] := by rw [← hW0]; exact (((Bk.new w 3 _).alloc _).alloc _).alloc _
  have b1 : Bk W0 (w.heap.size + 1) 3 #[.int .i64 0] := by
    have := Bk.new (w.alloc (.cells #[.int .i64 now] 3)) 3 #[.int .i64 0]
    rw [World.size_alloc] at this
    rw [← hW0]; exact (this.alloc _).alloc _
  have b2 : Bk W0 (w.heap.size + 2) 3 #[.int .i64 0] := by
    have := Bk.new ((w.alloc (.cells #[.int .i64 now] 3)).alloc (.cells #[.int .i64 0] 3)) 3 #[.int .i64 0]
    rw [World.size_alloc, World.size_alloc] at this
    rw [← hW0]; exact this.alloc _
  have b3 : Bk W0 (w.heap.size + 3) 4 #[.bool false] := by
    have := Bk.new (((w.alloc (.cells #[.int .i64 now] 3)).alloc (.cells #[.int .i64 0] 3)).alloc (.cells #[.int .i64 0] 3)) 4 #[.bool false]
    rw [World.size_alloc, World.size_alloc, World.size_alloc] at this
    rw [← hW0]; exact this
  have hsz : W0.heap.size = w.heap.size + 4 := by rw [← hW0]; simp
  have hB0 : Below w.heap.size w W0 := by
    rw [← hW0]; exact ((((Below.refl _ w).alloc (Nat.le_refl _) _).alloc (by simp) _).alloc (by simp; omega) _).alloc (by simp; omega) _
  rw [hW0]
  clear hW0
  have hgives : MethGives Fence.wide (5 - 1) Try.prog 34 #[.pointer (some ⟨g, 0, none⟩)] encP (fun ys => ys = allL (rows.map Row.it)) (fun pre => pre <+: allL (rows.map Row.it)) (allL (rows.map Row.it)).length W0 :=
    fun l J Jx W hW hJ _ hY h0 => all_in (5 - 1) (by decide) l g B v rows room tries wait J Jx W ((H.out.below hB0).below hW) Hs.out hJ hY h0
  have Hg := Lib.hid hgives
  clear hgives
  refine wpIn_rangeMethod (F := Fence.wide) rfl (by decide) (gf := 34) (first := #[.pointer (some ⟨g, 0, none⟩)]) rfl trivial (enters_of Try.func34 (by kernel_rfl) rfl) Hg.out (fun _ => rfl)
    (dueI w W0 now) (dueX w now) (fun pre x a2 W => dueI w W0 now pre W ∧ ∃ d, a2 = { tmps := #[.pointer (some ⟨g, 0, none⟩), .int .i64 now, undef, .pointer (some ⟨w.heap.size, 0, none⟩), .pointer (some ⟨w.heap.size + 1, 0, none⟩), .pointer (some ⟨w.heap.size + 2, 0, none⟩), .pointer (some ⟨w.heap.size + 3, 0, none⟩), .pointer (some ⟨d, 0, none⟩), .pointer (some ⟨d + 1, 0, none⟩), .pointer (some ⟨g, 0, none⟩), .func (.func 34) #[.pointer (some ⟨g, 0, none⟩)] #[], .agg #[.int .i64 x.1.1, .int .i64 x.1.2], .agg x.2.cells.toArray, undef, undef, undef, undef, undef, undef, undef, undef, undef, undef, undef, undef, undef], defers := [] } ∧
      Bk W d 73 #[.int .i64 x.1.1, .int .i64 x.1.2] ∧ Bk W (d + 1) 60 x.2.cells.toArray ∧ w.heap.size + 4 ≤ d)
    (dueI_own w W0 now _ (by omega)) (dueX_own w now _ (by omega)) ?own ⟨by simp, KeepsC.refl _, hB0⟩ ?assign ?body ?done ?stop
  case own =>
    rintro pre x a2 s X Y row ⟨h1, d, h2, h3, h4, h5⟩ hg hr
    exact ⟨dueI_own w W0 now _ (by omega) pre X Y row h1 hg hr, d, h2, h3.grownC hg (fun r e => (hr r e).2), h4.grownC hg (fun r e => (hr r e).2), h5⟩
  case assign =>
    rintro l pre ⟨⟨xi, xk⟩, ⟨⟨pn, pl, pd⟩, st, tr, nx, su⟩⟩ W hi hlt
    have hWs : w.heap.size + 4 ≤ W.heap.size := by rw [← hsz]; exact hi.2.1.size
    simp only [encP, Rc.cells]
    gi_wp2
    have k2 := Bk.new (W.alloc (.cells #[.int .i64 xi, .int .i64 xk] 73)) 60 #[.bool pn, .string pl, .string pd, .int .i64 st, .int .i64 tr, .int .i64 nx, .int .i64 su]
    rw [World.size_alloc] at k2
    exact ⟨(KeepsOthers.alloc W _).trans (KeepsOthers.alloc _ _), (keepsC_alloc W _).trans (keepsC_alloc _ _), (dueI_own w W0 now _ (Nat.le_refl _)).alloc _ ((dueI_own w W0 now _ (Nat.le_refl _)).alloc _ hi), W.heap.size, rfl, (Bk.new W 73 _).alloc _, k2, hWs⟩
  case body =>
    rintro l pre ⟨⟨xi, xk⟩, ⟨⟨pn, pl, pd⟩, st, tr, nx, su⟩⟩ a2 W ⟨hi, d, rfl, k73, k60, hd⟩
    simp only [Rc.cells] at k60 ⊢
    have q0 := k73.cell 0
    have q1 := k73.cell 1
    have r3 := k60.cell 3
    have r5 := k60.cell 5
    have z0 := (b0.keepsC hi.2.1).cell 0
    have b1' := b1.keepsC hi.2.1
    have b2' := b2.keepsC hi.2.1
    have b3' := b3.keepsC hi.2.1
    have z1 := b1'.cell 0
    have z2 := b2'.cell 0
    have z3 := b3'.cell 0
    have y1 := b1'.frozen 0
    have y2 := b2'.frozen 0
    have y3 := b3'.frozen 0
    simp at q0 q1 r3 r5 z0 z1 z2 z3
    have Hi := Lib.hid hi
    clear hi
    cases hst : (st == 0) with
    | false =>
      gi_wp2
      exact ⟨KeepsOthers.refl _, KeepsC.refl _, dueI_snoc Hi.out (by simp [dueP, hst])⟩
    | true =>
      cases hnx : decide (nx ≤ now) with
      | false =>
        gi_wp2
        exact ⟨KeepsOthers.refl _, KeepsC.refl _, dueI_snoc Hi.out (by simp only [dueP, hst, hnx]; rfl)⟩
      | true =>
        have hx : dueP now ((xi, xk), { path := { null := pn, loc := pl, dom := pd }, state := st, tries := tr, next := nx, status := su }) = true := by simp only [dueP, hst, hnx]; rfl
        have fin : dueX w now (pre ++ [((xi, xk), { path := { null := pn, loc := pl, dom := pd }, state := st, tries := tr, next := nx, status := su })]) (((W.drew.setCell ⟨w.heap.size + 1, 0, none⟩ (.int .i64 xi)).setCell ⟨w.heap.size + 2, 0, none⟩ (.int .i64 xk)).setCell ⟨w.heap.size + 3, 0, none⟩ (.bool true)) := by
          refine ⟨pre, _, rfl, Hi.out.1, hx, ?_, ?_, ?_, ?_⟩
          · exact (((bk_drew b1').set_ 0 (.int .i64 xi)).far (p := ⟨w.heap.size + 2, 0, none⟩) (by simp) _).far (p := ⟨w.heap.size + 3, 0, none⟩) (by simp) _
          · exact (((bk_drew b2').far (p := ⟨w.heap.size + 1, 0, none⟩) (by simp) _).set_ 0 (.int .i64 xk)).far (p := ⟨w.heap.size + 3, 0, none⟩) (by simp) _
          · exact (((bk_drew b3').far (p := ⟨w.heap.size + 1, 0, none⟩) (by simp) _).far (p := ⟨w.heap.size + 2, 0, none⟩) (by simp) _).set_ 0 (.bool true)
          · refine Only.belowOf (S := fun k => w.heap.size ≤ k) Hi.out.2.2 ?_ (Nat.le_refl _) (fun k h => h)
            exact (((Only.refl W _).drew.setCell (by simp) _).setCell (by simp) _).setCell (by simp) _
        have ko : KeepsOthers W (((W.drew.setCell ⟨w.heap.size + 1, 0, none⟩ (.int .i64 xi)).setCell ⟨w.heap.size + 2, 0, none⟩ (.int .i64 xk)).setCell ⟨w.heap.size + 3, 0, none⟩ (.bool true)) :=
          (((KeepsOthers.drew W).trans (KeepsOthers.setCell _ _ _)).trans (KeepsOthers.setCell _ _ _)).trans (KeepsOthers.setCell _ _ _)
        have Fin := Lib.hid fin; have Ko := Lib.hid ko
        clear fin ko hx
        gi_wp2
        gi_region
        all_goals
          gi_wp2
          exact ⟨Ko.out, Fin.out⟩
  case done =>
    rintro D ys W hD rfl hi hK
    have b1' := b1.keepsC hi.2.1
    have b2' := b2.keepsC hi.2.1
    have b3' := b3.keepsC hi.2.1
    have z1 := b1'.cell 0
    have z2 := b2'.cell 0
    have z3 := b3'.cell 0
    have y1 := b1'.frozen 0
    have y2 := b2'.frozen 0
    have y3 := b3'.frozen 0
    simp at z1 z2 z3
    have e1 := due_none hi.1
    have Hi := Lib.hid hi
    clear hi
    have hB2 : Below w.heap.size w (((W.setCell ⟨w.heap.size + 1, 0, none⟩ (.int .i64 0)).setCell ⟨w.heap.size + 2, 0, none⟩ (.int .i64 0)).setCell ⟨w.heap.size + 3, 0, none⟩ (.bool false)) := by
      refine Only.belowOf (S := fun k => w.heap.size ≤ k) Hi.out.2.2 ?_ (Nat.le_refl _) (fun k h => h)
      exact (((Only.refl W _).setCell (by simp) _).setCell (by simp) _).setCell (by simp) _
    have Hb := Lib.hid hB2
    clear hB2
    gi_wp2
    rw [e1]
    refine due_ret (a := w.heap.size + 1) (b := w.heap.size + 2) (c := w.heap.size + 3) ?_ ?_ ?_ ?_ rfl rfl rfl Hb.out (by omega) (fun w' h => ⟨rfl, h⟩)
    · exact (Below.heap_setCell _ _ _ _ (by simp; omega)).trans ((Below.heap_setCell _ _ _ _ (by simp; omega)).trans ((Below.heap_setCell _ _ _ _ (by simp; omega)).trans hK))
    · exact ((b1'.set_ 0 (.int .i64 0)).far (p := ⟨w.heap.size + 2, 0, none⟩) (by simp) _).far (p := ⟨w.heap.size + 3, 0, none⟩) (by simp) _
    · exact ((b2'.far (p := ⟨w.heap.size + 1, 0, none⟩) (by simp) _).set_ 0 (.int .i64 0)).far (p := ⟨w.heap.size + 3, 0, none⟩) (by simp) _
    · exact ((b3'.far (p := ⟨w.heap.size + 1, 0, none⟩) (by simp) _).far (p := ⟨w.heap.size + 2, 0, none⟩) (by simp) _).set_ 0 (.bool false)
  case stop =>
    rintro D pre W hD hp ⟨pre', x, rfl, h1, h2, h3, h4, h5, h6⟩ hK
    have e1 := due_some hp h1 h2
    gi_wp2
    rw [e1]
    exact due_ret (a := w.heap.size + 1) (b := w.heap.size + 2) (c := w.heap.size + 3) hK h3 h4 h5 rfl rfl rfl h6 (by omega) (fun w' h => ⟨rfl, h⟩)
end Go.Proofs.Ytlbghgmeiajioaa
