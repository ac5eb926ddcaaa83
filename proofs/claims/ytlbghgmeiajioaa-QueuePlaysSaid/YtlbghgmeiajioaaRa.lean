/- The reference queue's small functions: is, Take, Sent. -/
import Derived.Test.YtlbghgmeiajioaaAp
namespace Go.Proofs.Ytlbghgmeiajioaa
open Go.RowKit
set_option linter.unusedVariables false

set_option maxHeartbeats 800000 in
theorem is_yes (w : World) (B g : Nat) (v : Value) (rows : List Row) (room tries wait : Int) (h : Qm w B g 56 v rows room tries wait) (i k : Nat) (hi : i < rows.length) (hk : k < rows[i].it.to.length) (hn : rows.length ≤ 100000) (hm : rows[i].it.to.length ≤ 100000) (st : Int)
    (hst : (rows[i].it.to[k].state == st) = true) (b2 cap2 : Nat) (e2 : rows[i].tv = .slice (some ⟨b2, 0, none⟩) rows[i].it.to.length cap2) :
    Calls Try.prog 36 #[.pointer (some ⟨g, 0, none⟩), .int .i64 ((i : Int) + 1), .int .i64 k, .int .i64 st] w fun e w' => e = .returned (.bool true) ∧ w = w' := by
  have c0 := h.blk.cell 0
  simp at c0
  obtain ⟨b, cap, rfl, ct⟩ := h.at_ hi (j := 4) (by decide)
  have ho := (h.own _ (List.getElem_mem hi)).1
  rw [e2] at ho
  have cs := ho.cellAt (k * 7 + 3) (by omega)
  rw [flat_get Rc.len _ k 3 hk (by decide)] at cs
  simp [Row.cells, Rc.cells, e2] at ct cs
  have E2 := Lib.hid e2
  clear h ho e2
  go_enter Try.func36, Try.ntmps36
  go_wp2
  go_ret
  exact ⟨rfl, rfl⟩

set_option maxRecDepth 100000 in
set_option maxHeartbeats 800000 in
theorem is_no (w : World) (B g : Nat) (v : Value) (rows : List Row) (room tries wait : Int) (h : Qm w B g 56 v rows room tries wait) (id k st : Int) (hn : rows.length ≤ 100000) (hm : Miss (rows.map Row.it) id k st) :
    Calls Try.prog 36 #[.pointer (some ⟨g, 0, none⟩), .int .i64 id, .int .i64 k, .int .i64 st] w fun e w' => e = .returned (.bool false) ∧ w = w' := by
  have c0 := h.blk.cell 0
  simp at c0
  cases hm with
  | low h1 =>
    obtain ⟨A, c, rfl⟩ := own_any h.row
    clear h
    go_enter Try.func36, Try.ntmps36
    go_wp2
    go_ret
    exact ⟨rfl, rfl⟩
  | high h1 h2 =>
    obtain ⟨A, c, rfl⟩ := own_any h.row
    rw [List.length_map] at h2
    clear h
    go_enter Try.func36, Try.ntmps36
    go_wp2
    go_ret
    exact ⟨rfl, rfl⟩
  | neg i h0 hi h1 =>
    obtain ⟨A, c, rfl⟩ := own_any h.row
    rw [List.length_map] at hi
    subst h0
    clear h
    go_enter Try.func36, Try.ntmps36
    go_wp2
    go_ret
    exact ⟨rfl, rfl⟩
  | far i h0 hi j hj h1 =>
    subst h0; subst hj
    have hi' : i < rows.length := by simpa using hi
    rw [its_get hi'] at h1
    obtain ⟨b, cap, rfl, ct⟩ := h.at_ hi' (j := 4) (by decide)
    have ho := (h.own _ (List.getElem_mem hi')).1
    obtain ⟨A2, c2, e2⟩ := own_any ho
    simp [Row.cells, e2] at ct
    clear h ho e2
    go_enter Try.func36, Try.ntmps36
    go_wp2
    go_ret
    exact ⟨rfl, rfl⟩
  | state i h0 hi j hj hl h1 =>
    subst h0; subst hj
    have hi' : i < rows.length := by simpa using hi
    simp only [its_get hi'] at h1 hl
    obtain ⟨b, cap, rfl, ct⟩ := h.at_ hi' (j := 4) (by decide)
    have ho := (h.own _ (List.getElem_mem hi')).1
    obtain ⟨b2, cap2, e2, hb2, hl2⟩ := own_some ho (by omega)
    rw [e2] at ho
    have cs := ho.cellAt (j * 7 + 3) (by omega)
    rw [flat_get Rc.len _ j 3 hl (by decide)] at cs
    simp [Row.cells, Rc.cells, e2] at ct cs
    clear h ho e2
    go_enter Try.func36, Try.ntmps36
    go_wp2
    go_ret
    exact ⟨rfl, rfl⟩

theorem Qm.lead {w : World} {B g : Nat} {t : TypeId} {v : Value} {rows : List Row} {room tries wait : Int} (h : Qm w B g t v rows room tries wait) (ht : t ≠ 60) {i k : Nat} (hi : i < rows.length) (hk : k < rows[i].it.to.length) :
    ∃ bi capi b cap, v = .slice (some ⟨bi, 0, none⟩) rows.length capi ∧ rows[i].tv = .slice (some ⟨b, 0, none⟩) rows[i].it.to.length cap ∧ g ≠ b ∧ bi ≠ b ∧ g < w.heap.size ∧ bi < w.heap.size ∧ b < w.heap.size ∧ w.cell? ⟨g, 0, none⟩ = some (.slice (some ⟨bi, 0, none⟩) rows.length capi) ∧ w.cell? ⟨bi, i * 12 + 4, none⟩ = some (.slice (some ⟨b, 0, none⟩) rows[i].it.to.length cap) ∧
      w.cell? ⟨bi, i * 12 + 1, none⟩ = some (.bool rows[i].it.frm.null) := by
  obtain ⟨b, cap, e2, hf, _⟩ := h.hit ht hi hk
  have ho := (h.own _ (List.getElem_mem hi)).1
  rw [e2] at ho
  obtain ⟨cs, hb⟩ := own_blk ho
  have hgb := bk_ne h.blk hb ht
  have hvb := own_ne h.row hb (by decide)
  obtain ⟨bi, capi, rfl, cn⟩ := h.at_ hi (j := 1) (by decide)
  obtain ⟨bi', capi', e3, ct⟩ := h.at_ hi (j := 4) (by decide)
  simp only [Value.slice.injEq, Option.some.injEq, Addr.mk.injEq, true_and, and_true] at e3
  obtain ⟨rfl, rfl⟩ := e3
  have c0 := h.blk.cell 0
  simp [Row.cells] at c0 cn ct
  rw [e2] at ct
  exact ⟨bi, capi, b, cap, rfl, e2, hgb, fun e => hvb (by rw [e]; rfl), h.blk.lt, (h.row.lt bi rfl).2, hb.lt, c0, ct, cn⟩

set_option maxRecDepth 100000 in
set_option maxHeartbeats 1600000 in
theorem rtake_any (w : World) (B g : Nat) (v : Value) (rows : List Row) (room tries wait : Int) (h : Qm w B g 56 v rows room tries wait) (id k : Int) (hs : Small (rows.map Row.it)) :
    Calls Try.prog 18 #[.pointer (some ⟨g, 0, none⟩), .int .i64 id, .int .i64 k] w fun e w' => e = .returned (.bool (takeS (rows.map Row.it) id k).1) ∧ Left w B g 56 v rows room tries wait (takeS (rows.map Row.it) id k).2 w' := by
  rcases pos_cases (rows.map Row.it) id k 0 with ⟨i, j, hp, rfl, rfl, hi, hj, hst⟩ | ⟨hp, hm⟩
  · have hi' : i < rows.length := by simpa using hi
    simp only [its_get hi'] at hj hst
    obtain ⟨q1, q2, q3⟩ := hs.at_ (j := j) hi'
    obtain ⟨t1, t2⟩ := q3 hj
    have e1 : takeS (rows.map Row.it) ((i : Int) + 1) j = (true, upd (rows.map Row.it) i j fun r => { r with state := 1, tries := r.tries + 1 }) := by unfold takeS; rw [hp]
    obtain ⟨b, cap, e2, hf, c3, c4, c5, c6, f3, f4, f5, f6⟩ := h.hit (by decide) hi' hj
    obtain ⟨bi, capi, b', cap', rfl, e2', hgb, hib, lg, lbi, lb, c0, ct, cn⟩ := h.lead (by decide) hi' hj
    rw [e2] at e2'
    simp only [Value.slice.injEq, Option.some.injEq, Addr.mk.injEq, true_and, and_true] at e2'
    obtain ⟨rfl, rfl⟩ := e2'
    have hw := h.write2 (by decide) hi' hj e2 3 4 (by decide) (by decide) (.int .i64 1) (.int .i64 (rows[i].it.to[j].tries + 1)) (fun r => { r with state := 1 }) (fun r => { r with tries := r.tries + 1 }) rfl rfl
    have hon := ((Only.refl w (Foot g _ rows)).setCell (p := ⟨b, j * 7 + 3, none⟩) hf (.int .i64 1)).setCell (p := ⟨b, j * 7 + 4, none⟩) hf (.int .i64 (rows[i].it.to[j].tries + 1))
    have hfin := left_upd hw hon
    have hfy := is_yes w B g _ rows room tries wait h i j hi' hj (by omega) (by omega) 0 hst b cap e2
    have d0 : (w.setCell ⟨b, j * 7 + 3, none⟩ (.int .i64 1)).cell? ⟨g, 0, none⟩ = some (.slice (some ⟨bi, 0, none⟩) rows.length capi) := by rw [cell_far hgb]; exact c0
    have d1 : (w.setCell ⟨b, j * 7 + 3, none⟩ (.int .i64 1)).cell? ⟨bi, i * 12 + 4, none⟩ = some (.slice (some ⟨b, 0, none⟩) rows[i].it.to.length cap) := by rw [cell_far hib]; exact ct
    have Hfin := Lib.hid hfin; have Hfy := Lib.hid hfy; have E1 := Lib.hid e1
    clear hw hon hfin hfy h e1 hst hp e2 hf hs
    go_enter Try.func18, Try.ntmps18
    go_wp2_with fail
    refine Hfy.out.mono ?_
    rintro e w' ⟨rfl, rfl⟩
    go_wp2_with fail
    go_ret
    rw [E1.out]
    exact ⟨rfl, Hfin.out⟩
  · have e1 : takeS (rows.map Row.it) id k = (false, rows.map Row.it) := by unfold takeS; rw [hp]
    have hfn := is_no w B g v rows room tries wait h id k 0 (by have := hs.1; simp at this; omega) hm
    have Hfn := Lib.hid hfn; have Hs := Lib.hid (Left.same h); have E1 := Lib.hid e1
    clear hfn h e1 hm hp hs
    go_enter Try.func18, Try.ntmps18
    go_wp2_with fail
    refine Hfn.out.mono ?_
    rintro e w' ⟨rfl, rfl⟩
    go_wp2_with fail
    go_ret
    rw [E1.out]
    exact ⟨rfl, Hs.out⟩

set_option maxRecDepth 100000 in
set_option maxHeartbeats 1600000 in
theorem rsent_any (w : World) (B g : Nat) (v : Value) (rows : List Row) (room tries wait : Int) (h : Qm w B g 56 v rows room tries wait) (id k : Int) (hs : Small (rows.map Row.it)) :
    Calls Try.prog 20 #[.pointer (some ⟨g, 0, none⟩), .int .i64 id, .int .i64 k] w fun e w' => e = .returned (.bool (sentS (rows.map Row.it) id k).1) ∧ Left w B g 56 v rows room tries wait (sentS (rows.map Row.it) id k).2 w' := by
  rcases pos_cases (rows.map Row.it) id k 1 with ⟨i, j, hp, rfl, rfl, hi, hj, hst⟩ | ⟨hp, hm⟩
  · have hi' : i < rows.length := by simpa using hi
    simp only [its_get hi'] at hj hst
    obtain ⟨q1, q2, q3⟩ := hs.at_ (j := j) hi'
    have e1 : sentS (rows.map Row.it) ((i : Int) + 1) j = (true, upd (rows.map Row.it) i j fun r => { r with state := 2 }) := by unfold sentS; rw [hp]
    obtain ⟨b, cap, e2, hf, c3, c4, c5, c6, f3, f4, f5, f6⟩ := h.hit (by decide) hi' hj
    obtain ⟨bi, capi, b', cap', rfl, e2', hgb, hib, lg, lbi, lb, c0, ct, cn⟩ := h.lead (by decide) hi' hj
    rw [e2] at e2'
    simp only [Value.slice.injEq, Option.some.injEq, Addr.mk.injEq, true_and, and_true] at e2'
    obtain ⟨rfl, rfl⟩ := e2'
    have hw := h.write (by decide) hi' hj e2 3 (by decide) (.int .i64 2) (fun r => { r with state := 2 }) rfl
    have hon := (Only.refl w (Foot g _ rows)).setCell (p := ⟨b, j * 7 + 3, none⟩) hf (.int .i64 2)
    have hfin := left_upd hw hon
    have hfy := is_yes w B g _ rows room tries wait h i j hi' hj (by omega) (by omega) 1 hst b cap e2
    have Hfin := Lib.hid hfin; have Hfy := Lib.hid hfy; have E1 := Lib.hid e1
    clear hw hon hfin hfy h e1 hst hp e2 hf hs
    go_enter Try.func20, Try.ntmps20
    go_wp2_with fail
    refine Hfy.out.mono ?_
    rintro e w' ⟨rfl, rfl⟩
    go_wp2_with fail
    go_ret
    rw [E1.out]
    exact ⟨rfl, Hfin.out⟩
  · have e1 : sentS (rows.map Row.it) id k = (false, rows.map Row.it) := by unfold sentS; rw [hp]
    have hfn := is_no w B g v rows room tries wait h id k 1 (by have := hs.1; simp at this; omega) hm
    have Hfn := Lib.hid hfn; have Hs := Lib.hid (Left.same h); have E1 := Lib.hid e1
    clear hfn h e1 hm hp hs
    go_enter Try.func20, Try.ntmps20
    go_wp2_with fail
    refine Hfn.out.mono ?_
    rintro e w' ⟨rfl, rfl⟩
    go_wp2_with fail
    go_ret
    rw [E1.out]
    exact ⟨rfl, Hs.out⟩
end Go.Proofs.Ytlbghgmeiajioaa
