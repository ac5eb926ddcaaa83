/- The reference queue's Fail and Later. -/
import Derived.Test.YtlbghgmeiajioaaRa
namespace Go.Proofs.Ytlbghgmeiajioaa
open Go.RowKit
set_option linter.unusedVariables false

set_option maxRecDepth 100000 in
set_option maxHeartbeats 1600000 in
theorem rfail_any (w : World) (B g : Nat) (v : Value) (rows : List Row) (room tries wait : Int) (h : Qm w B g 56 v rows room tries wait) (id k st : Int) (hs : Small (rows.map Row.it)) :
    Calls Try.prog 24 #[.pointer (some ⟨g, 0, none⟩), .int .i64 id, .int .i64 k, .int .i64 st] w fun e w' => e = .returned (.int .i64 (failS (rows.map Row.it) id k st).1) ∧ Left w B g 56 v rows room tries wait (failS (rows.map Row.it) id k st).2 w' := by
  rcases pos_cases (rows.map Row.it) id k 1 with ⟨i, j, hp, rfl, rfl, hi, hj, hst⟩ | ⟨hp, hm⟩
  · have hi' : i < rows.length := by simpa using hi
    simp only [its_get hi'] at hj hst
    obtain ⟨q1, q2, q3⟩ := hs.at_ (j := j) hi'
    obtain ⟨b, cap, e2, hf, c3, c4, c5, c6, f3, f4, f5, f6⟩ := h.hit (by decide) hi' hj
    obtain ⟨bi, capi, b', cap', rfl, e2', hgb, hib, lg, lbi, lb, c0, ct, cn⟩ := h.lead (by decide) hi' hj
    rw [e2] at e2'
    simp only [Value.slice.injEq, Option.some.injEq, Addr.mk.injEq, true_and, and_true] at e2'
    obtain ⟨rfl, rfl⟩ := e2'
    have hfy := is_yes w B g _ rows room tries wait h i j hi' hj (by omega) (by omega) 1 hst b cap e2
    have Hfy := Lib.hid hfy
    cases hn : rows[i].it.frm.null with
    | false =>
      have e1 : failS (rows.map Row.it) ((i : Int) + 1) j st = (3, upd (rows.map Row.it) i j fun r => { r with state := 3, status := st }) := by unfold failS; rw [hp]; simp [closed, nullAt_row hi', hn]
      have hw := h.write2 (by decide) hi' hj e2 3 6 (by decide) (by decide) (.int .i64 3) (.int .i64 st) (fun r => { r with state := 3 }) (fun r => { r with status := st }) rfl rfl
      have hon := ((Only.refl w (Foot g _ rows)).setCell (p := ⟨b, j * 7 + 3, none⟩) hf (.int .i64 3)).setCell (p := ⟨b, j * 7 + 6, none⟩) hf (.int .i64 st)
      have hfin := left_upd hw hon
      have d0 : (w.setCell ⟨b, j * 7 + 3, none⟩ (.int .i64 3)).cell? ⟨g, 0, none⟩ = some (.slice (some ⟨bi, 0, none⟩) rows.length capi) := by rw [cell_far hgb]; exact c0
      have d1 : (w.setCell ⟨b, j * 7 + 3, none⟩ (.int .i64 3)).cell? ⟨bi, i * 12 + 4, none⟩ = some (.slice (some ⟨b, 0, none⟩) rows[i].it.to.length cap) := by rw [cell_far hib]; exact ct
      rw [hn] at cn
      have Hfin := Lib.hid hfin; have E1 := Lib.hid e1
      clear hw hon hfin hfy h e1 hst hp e2 hf hs hn
      go_enter Try.func24, Try.ntmps24
      go_wp2_with fail
      refine Hfy.out.mono ?_
      rintro e w' ⟨rfl, rfl⟩
      go_wp2_with fail
      go_ret
      rw [E1.out]
      exact ⟨rfl, Hfin.out⟩
    | true =>
      have e1 : failS (rows.map Row.it) ((i : Int) + 1) j st = (4, upd (rows.map Row.it) i j fun r => { r with state := 4, status := st }) := by unfold failS; rw [hp]; simp [closed, nullAt_row hi', hn]
      have hw := h.write2 (by decide) hi' hj e2 3 6 (by decide) (by decide) (.int .i64 4) (.int .i64 st) (fun r => { r with state := 4 }) (fun r => { r with status := st }) rfl rfl
      have hon := ((Only.refl w (Foot g _ rows)).setCell (p := ⟨b, j * 7 + 3, none⟩) hf (.int .i64 4)).setCell (p := ⟨b, j * 7 + 6, none⟩) hf (.int .i64 st)
      have hfin := left_upd hw hon
      have d0 : (w.setCell ⟨b, j * 7 + 3, none⟩ (.int .i64 4)).cell? ⟨g, 0, none⟩ = some (.slice (some ⟨bi, 0, none⟩) rows.length capi) := by rw [cell_far hgb]; exact c0
      have d1 : (w.setCell ⟨b, j * 7 + 3, none⟩ (.int .i64 4)).cell? ⟨bi, i * 12 + 4, none⟩ = some (.slice (some ⟨b, 0, none⟩) rows[i].it.to.length cap) := by rw [cell_far hib]; exact ct
      rw [hn] at cn
      have Hfin := Lib.hid hfin; have E1 := Lib.hid e1
      clear hw hon hfin hfy h e1 hst hp e2 hf hs hn
      go_enter Try.func24, Try.ntmps24
      go_wp2_with fail
      refine Hfy.out.mono ?_
      rintro e w' ⟨rfl, rfl⟩
      go_wp2_with fail
      go_ret
      rw [E1.out]
      exact ⟨rfl, Hfin.out⟩
  · have e1 : failS (rows.map Row.it) id k st = (-1, rows.map Row.it) := by unfold failS; rw [hp]
    have hfn := is_no w B g v rows room tries wait h id k 1 (by have := hs.1; simp at this; omega) hm
    have Hfn := Lib.hid hfn; have Hs := Lib.hid (Left.same h); have E1 := Lib.hid e1
    clear hfn h e1 hm hp hs
    go_enter Try.func24, Try.ntmps24
    go_wp2_with fail
    refine Hfn.out.mono ?_
    rintro e w' ⟨rfl, rfl⟩
    go_wp2_with fail
    go_ret
    rw [E1.out]
    exact ⟨rfl, Hs.out⟩

theorem Left.from_below {w w1 w' : World} {B g : Nat} {t : TypeId} {v : Value} {rows : List Row} {room tries wait : Int} {l : List It} (h : Left w1 B g t v rows room tries wait l w') (hb : Below w.heap.size w w1) : Left w B g t v rows room tries wait l w' := by
  obtain ⟨rows', h1, h2, h3, h4⟩ := h
  exact ⟨rows', h1, h2, (Only.of_below hb).trans h3, h4⟩
theorem Qm.next {w : World} {B g : Nat} {t : TypeId} {v : Value} {rows : List Row} {room tries wait : Int} {i k : Nat} {f : Rc → Rc} (h1 : Qm w B g t v (updR rows i k f) room tries wait) (ht : t ≠ 60) (hi : i < rows.length) (hk : k < rows[i].it.to.length) {b cap : Nat}
    (e : rows[i].tv = .slice (some ⟨b, 0, none⟩) rows[i].it.to.length cap) (j2 : Nat) (hj2 : j2 < 7) (u2 : Value) (f2 : Rc → Rc) (hf2 : (f2 (f rows[i].it.to[k])).cells = (f rows[i].it.to[k]).cells.set j2 u2) :
    Qm (w.setCell ⟨b, k * 7 + j2, none⟩ u2) B g t v (updR rows i k (fun r => f2 (f r))) room tries wait := by
  obtain ⟨hi', hk', e1, e2, e3⟩ := updR_at (f := f) hi hk
  have h2 := h1.write ht hi' hk' (b := b) (cap := cap) (by rw [e2, e3]; exact e) j2 hj2 u2 f2 (by rw [e1]; exact hf2)
  rw [updR_two] at h2
  exact h2
theorem only_lt {a b : World} {S : Nat → Prop} (h : Only a b (fun k => S k ∨ a.heap.size ≤ k)) : Only a b S :=
  ⟨h.os, h.tape, h.output, h.size, fun k hk hs => h.block k hk (fun e => e.elim hs (fun h2 => by omega))⟩
theorem Only.drewN {a b : World} {S : Nat → Prop} (h : Only a b S) (n : Nat) : Only a (b.drewN n) S := ⟨h.os, h.tape, h.output, h.size, h.block⟩
theorem later_fin {w : World} {B g : Nat} {v : Value} {rows : List Row} {room tries wait : Int} (h : Qm w B g 56 v rows room tries wait) {i j : Nat} (hi : i < rows.length) (hj : j < rows[i].it.to.length) {b cap : Nat}
    (e : rows[i].tv = .slice (some ⟨b, 0, none⟩) rows[i].it.to.length cap) (hf : Foot g v rows b) (N : Int) (n : Nat) (o : Obj) (x3 x5 : Value) (r : Rc) (hr : rows[i].it.to[j] = r) :
    Left w B g 56 v rows room tries wait (upd (rows.map Row.it) i j fun r => { r with state := 0, next := N })
      (((((((((((w.alloc o).drewN n).setCell ⟨w.heap.size, 3, none⟩ x3).setCell ⟨w.heap.size, 5, none⟩ x5).setCell ⟨b, j * 7, none⟩ (.bool r.path.null)).setCell ⟨b, j * 7 + 1, none⟩ (.string r.path.loc)).setCell ⟨b, j * 7 + 2, none⟩ (.string r.path.dom)).setCell ⟨b, j * 7 + 3, none⟩ (.int .i64 0)).setCell
        ⟨b, j * 7 + 4, none⟩ (.int .i64 r.tries)).setCell ⟨b, j * 7 + 5, none⟩ (.int .i64 N)).setCell ⟨b, j * 7 + 6, none⟩ (.int .i64 r.status)) := by
  subst hr
  obtain ⟨w1, hw1⟩ : ∃ w1, (((w.alloc o).drewN n).setCell ⟨w.heap.size, 3, none⟩ x3).setCell ⟨w.heap.size, 5, none⟩ x5 = w1 := ⟨_, rfl⟩
  rw [hw1]
  have o1 : Only w w1 (fun k => Foot g v rows k ∨ w.heap.size ≤ k) := by
    rw [← hw1]
    exact ((((Only.refl w _).alloc o).drewN n).setCell (p := ⟨w.heap.size, 3, none⟩) (.inr (Nat.le_refl _)) x3).setCell (p := ⟨w.heap.size, 5, none⟩) (.inr (Nat.le_refl _)) x5
  have o1' : Only w w1 (fun k => w.heap.size ≤ k) := by
    rw [← hw1]
    exact ((((Only.refl w _).alloc o).drewN n).setCell (p := ⟨w.heap.size, 3, none⟩) (Nat.le_refl _) x3).setCell (p := ⟨w.heap.size, 5, none⟩) (Nat.le_refl _) x5
  have h1 := h.only o1' (fun k hk => by have := (h.lt k hk).2; omega)
  have q0 := h1.write (by decide) hi hj e 0 (by decide) (.bool rows[i].it.to[j].path.null) (fun r => r) rfl
  have q1 := q0.next (by decide) hi hj e 1 (by decide) (.string rows[i].it.to[j].path.loc) (fun r => r) rfl
  have q2 := q1.next (by decide) hi hj e 2 (by decide) (.string rows[i].it.to[j].path.dom) (fun r => r) rfl
  have q3 := q2.next (by decide) hi hj e 3 (by decide) (.int .i64 0) (fun r => { r with state := 0 }) rfl
  have q4 := q3.next (by decide) hi hj e 4 (by decide) (.int .i64 rows[i].it.to[j].tries) (fun r => r) rfl
  have q5 := q4.next (by decide) hi hj e 5 (by decide) (.int .i64 N) (fun r => { r with next := N }) rfl
  have q6 := q5.next (by decide) hi hj e 6 (by decide) (.int .i64 rows[i].it.to[j].status) (fun r => r) rfl
  have o2 := o1.setCell (p := ⟨b, j * 7, none⟩) (.inl hf) (.bool rows[i].it.to[j].path.null)
  have o3 := o2.setCell (p := ⟨b, j * 7 + 1, none⟩) (.inl hf) (.string rows[i].it.to[j].path.loc)
  have o4 := o3.setCell (p := ⟨b, j * 7 + 2, none⟩) (.inl hf) (.string rows[i].it.to[j].path.dom)
  have o5 := o4.setCell (p := ⟨b, j * 7 + 3, none⟩) (.inl hf) (.int .i64 0)
  have o6 := o5.setCell (p := ⟨b, j * 7 + 4, none⟩) (.inl hf) (.int .i64 rows[i].it.to[j].tries)
  have o7 := o6.setCell (p := ⟨b, j * 7 + 5, none⟩) (.inl hf) (.int .i64 N)
  have o8 := o7.setCell (p := ⟨b, j * 7 + 6, none⟩) (.inl hf) (.int .i64 rows[i].it.to[j].status)
  exact left_upd q6 (only_lt o8)
set_option maxRecDepth 100000 in
set_option maxHeartbeats 3200000 in
theorem rlater_any (w : World) (B g : Nat) (v : Value) (rows : List Row) (room tries wait : Int) (h : Qm w B g 56 v rows room tries wait) (id k now : Int) (hs : Small (rows.map Row.it)) (hw0 : 0 ≤ wait) (hw1 : wait ≤ 1000) :
    Calls Try.prog 22 #[.pointer (some ⟨g, 0, none⟩), .int .i64 id, .int .i64 k, .int .i64 now] w fun e w' => e = .returned (.int .i64 (laterS tries wait (rows.map Row.it) id k now).1) ∧ Left w B g 56 v rows room tries wait (laterS tries wait (rows.map Row.it) id k now).2 w' := by
  rcases pos_cases (rows.map Row.it) id k 1 with ⟨i, j, hp, rfl, rfl, hi, hj, hst⟩ | ⟨hp, hm⟩
  · have hi' : i < rows.length := by simpa using hi
    simp only [its_get hi'] at hj hst
    obtain ⟨q1, q2, q3⟩ := hs.at_ (j := j) hi'
    obtain ⟨t1, t2⟩ := q3 hj
    obtain ⟨b, cap, e2, hf, c3, c4, c5, c6, f3, f4, f5, f6⟩ := h.hit (by decide) hi' hj
    obtain ⟨bi, capi, b', cap', rfl, e2', hgb, hib, lg, lbi, lb, c0, ct, cn⟩ := h.lead (by decide) hi' hj
    rw [e2] at e2'
    simp only [Value.slice.injEq, Option.some.injEq, Addr.mk.injEq, true_and, and_true] at e2'
    obtain ⟨rfl, rfl⟩ := e2'
    have ho := (h.own _ (List.getElem_mem hi')).1
    rw [e2] at ho
    obtain ⟨a0, a1, a2, a3, a4, a5, a6⟩ := rc_cells ho hj
    have y0 := ho.frozenAt (j * 7)
    have y1 := ho.frozenAt (j * 7 + 1)
    have y2 := ho.frozenAt (j * 7 + 2)
    have g2 := h.blk.cell 2
    have g3 := h.blk.cell 3
    simp at g2 g3
    have hfy := is_yes w B g _ rows room tries wait h i j hi' hj (by omega) (by omega) 1 hst b cap e2
    have Hfy := Lib.hid hfy
    by_cases ht : tries ≤ rows[i].it.to[j].tries
    · have e1 : laterS tries wait (rows.map Row.it) ((i : Int) + 1) j now = failS (rows.map Row.it) ((i : Int) + 1) j 447 := by unfold laterS; rw [hp]; simp [triesAt_row hi' hj, ht]
      have E1 := Lib.hid e1
      have H := Lib.hid h; have Hs := Lib.hid hs
      obtain ⟨r, hr⟩ : ∃ r, rows[i].it.to[j] = r := ⟨_, rfl⟩
      rw [hr] at a0 a1 a2 a3 a4 a5 a6 ht t1 t2 c3 c4 c5 c6
      clear hfy h e1 hst hp e2 hf hs ho hr
      go_enter Try.func22, Try.ntmps22
      go_wp2_with fail
      refine Hfy.out.mono ?_
      rintro e w' ⟨rfl, rfl⟩
      go_wp2_with fail
      go_quiet (fail)
      go_wp2_with fail
      refine (rfail_any _ B g _ rows room tries wait ((H.out.below ((Below.refl _ w).alloc (Nat.le_refl _) _)).drewN _) _ _ _ Hs.out).mono ?_
      rintro e w' ⟨rfl, hl⟩
      have HLf := Lib.hid (hl.from_below (below_drewN ((Below.refl _ w).alloc (Nat.le_refl _) _) _))
      clear hl
      go_wp2_with fail
      go_ret
      rw [E1.out]
      exact ⟨rfl, HLf.out⟩
    · have e1 : laterS tries wait (rows.map Row.it) ((i : Int) + 1) j now = (0, upd (rows.map Row.it) i j fun r => { r with state := 0, next := clamp now + rows[i].it.to[j].tries * wait }) := by unfold laterS; rw [hp]; simp [triesAt_row hi' hj, ht]
      have hm0 : 0 ≤ rows[i].it.to[j].tries * wait := Int.mul_nonneg t1 hw0
      have hm1 : rows[i].it.to[j].tries * wait ≤ 1000 * 1000 := Int.mul_le_mul t2 hw1 hw0 (by decide)
      obtain ⟨r, hr⟩ : ∃ r, rows[i].it.to[j] = r := ⟨_, rfl⟩
      rw [hr] at a0 a1 a2 a3 a4 a5 a6 ht t1 t2 c3 c4 c5 c6 hm0 hm1
      have E1 := Lib.hid e1
      have hf' := hf
      clear hfy e1 hst hp hf hs
      have H := Lib.hid h; have HR := Lib.hid hr; have E2 := Lib.hid e2; have HF := Lib.hid hf'
      clear h ho hr e2 hf'
      by_cases n0 : now ≤ 0
      · have hcl : clamp now = 0 := by unfold clamp; omega
        rw [hcl, Int.zero_add, HR.out] at E1
        clear hcl
        go_enter Try.func22, Try.ntmps22
        go_wp2_with fail
        refine Hfy.out.mono ?_
        rintro e w' ⟨rfl, rfl⟩
        go_wp2_with fail
        go_quiet (fail)
        go_wp2_with fail
        go_region
        go_wp2_with fail
        go_region
        go_wp2_with fail
        go_ret
        rw [E1.out]
        exact ⟨rfl, ((later_fin H.out hi' hj E2.out HF.out _ _ _ _ _ r HR.out).toDrew).toDrew⟩
      · by_cases n1 : 1099511627776 < now
        · have hcl : clamp now = 1099511627776 := by unfold clamp; omega
          rw [hcl, HR.out] at E1
          clear hcl
          go_enter Try.func22, Try.ntmps22
          go_wp2_with fail
          refine Hfy.out.mono ?_
          rintro e w' ⟨rfl, rfl⟩
          go_wp2_with fail
          go_quiet (fail)
          go_wp2_with fail
          go_region
          go_wp2_with fail
          go_region
          go_wp2_with fail
          go_ret
          rw [E1.out]
          exact ⟨rfl, ((later_fin H.out hi' hj E2.out HF.out _ _ _ _ _ r HR.out).toDrew).toDrew⟩
        · have hcl : clamp now = now := by unfold clamp; omega
          rw [hcl, HR.out] at E1
          clear hcl
          go_enter Try.func22, Try.ntmps22
          go_wp2_with fail
          refine Hfy.out.mono ?_
          rintro e w' ⟨rfl, rfl⟩
          go_wp2_with fail
          go_quiet (fail)
          go_wp2_with fail
          go_region
          go_wp2_with fail
          go_region
          go_wp2_with fail
          go_ret
          rw [E1.out]
          exact ⟨rfl, ((later_fin H.out hi' hj E2.out HF.out _ _ _ _ _ r HR.out).toDrew).toDrew⟩
  · have e1 : laterS tries wait (rows.map Row.it) id k now = (-1, rows.map Row.it) := by unfold laterS; rw [hp]
    have hfn := is_no w B g v rows room tries wait h id k 1 (by have := hs.1; simp at this; omega) hm
    have Hfn := Lib.hid hfn; have Hs := Lib.hid (Left.same h); have E1 := Lib.hid e1
    clear hfn h e1 hm hp hs
    go_enter Try.func22, Try.ntmps22
    go_wp2_with fail
    refine Hfn.out.mono ?_
    rintro e w' ⟨rfl, rfl⟩
    go_wp2_with fail
    go_ret
    rw [E1.out]
    exact ⟨rfl, Hs.out⟩
end Go.Proofs.Ytlbghgmeiajioaa
