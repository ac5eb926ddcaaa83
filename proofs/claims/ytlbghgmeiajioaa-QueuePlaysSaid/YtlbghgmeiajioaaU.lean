/- What Take, Sent, Fail and Later of the program's queue come to. -/
import Derived.Test.YtlbghgmeiajioaaQ
import Derived.Deep.QuietTactic
import Derived.BigQuiet
namespace Go.Proofs.Ytlbghgmeiajioaa
open Go.RowKit
set_option linter.unusedVariables false

/-- What a call that turns recipients alone leaves. -/
def Left (w : World) (B g : Nat) (t : TypeId) (v : Value) (rows : List Row) (room tries wait : Int) (l : List It) (w' : World) : Prop :=
  ∃ rows', Qm w' B g t v rows' room tries wait ∧ rows'.map Row.it = l ∧ Only w w' (Foot g v rows) ∧ ∀ k, Foot g v rows' k → Foot g v rows k
theorem Left.same {w : World} {B g : Nat} {t : TypeId} {v : Value} {rows : List Row} {room tries wait : Int} (h : Qm w B g t v rows room tries wait) : Left w B g t v rows room tries wait (rows.map Row.it) w :=
  ⟨rows, h, rfl, Only.refl _ _, fun _ h => h⟩

/-- Recipients are tried few times, and are few. -/
def Small (l : List It) : Prop := l.length ≤ 1000 ∧ ∀ it ∈ l, it.to.length ≤ 100 ∧ ∀ r ∈ it.to, 0 ≤ r.tries ∧ r.tries ≤ 1000
theorem Small.at_ {rows : List Row} (h : Small (rows.map Row.it)) {i j : Nat} (hi : i < rows.length) : rows.length ≤ 1000 ∧ rows[i].it.to.length ≤ 100 ∧ ∀ (hj : j < rows[i].it.to.length), 0 ≤ rows[i].it.to[j].tries ∧ rows[i].it.to[j].tries ≤ 1000 := by
  obtain ⟨h1, h2⟩ := h
  have h3 := h2 _ (List.mem_map.2 ⟨_, List.getElem_mem hi, rfl⟩)
  exact ⟨by simpa using h1, h3.1, fun hj => h3.2 _ (List.getElem_mem hj)⟩

theorem upd_tries {rows : List Row} {i j : Nat} (f h : Rc → Rc) (hi : i < rows.length) (hj : j < rows[i].it.to.length) (e : f rows[i].it.to[j] = h rows[i].it.to[j]) : upd (rows.map Row.it) i j f = upd (rows.map Row.it) i j h := by
  unfold upd
  apply List.ext_getElem
  · simp
  · intro n h1 h2
    simp only [List.getElem_modify, List.getElem_map]
    split
    · rename_i hn
      subst hn
      congr 1
      apply List.ext_getElem
      · simp
      · intro m h3 h4
        simp only [List.getElem_modify]
        split
        · rename_i hm; subst hm; exact e
        · rfl
    · rfl
theorem updR_two (rows : List Row) (i j : Nat) (f h : Rc → Rc) : updR (updR rows i j f) i j h = updR rows i j (fun r => h (f r)) := by
  unfold updR
  apply List.ext_getElem
  · simp
  · intro n h1 h2
    simp only [List.getElem_modify]
    split
    · congr 2
      apply List.ext_getElem
      · simp
      · intro m h3 h4
        simp only [List.getElem_modify]
        split <;> rfl
    · rfl
theorem updR_at {rows : List Row} {i j : Nat} {f : Rc → Rc} (hi : i < rows.length) (hj : j < rows[i].it.to.length) : ∃ (hi' : i < (updR rows i j f).length) (hj' : j < ((updR rows i j f)[i]).it.to.length), ((updR rows i j f)[i]).it.to[j] = f rows[i].it.to[j] ∧ ((updR rows i j f)[i]).tv = rows[i].tv ∧ ((updR rows i j f)[i]).it.to.length = rows[i].it.to.length := by
  have hi' : i < (updR rows i j f).length := by rw [updR_len]; exact hi
  have e : (updR rows i j f)[i] = rows[i].put j f := by rw [updR_get _ _ _ _ i hi' hi, if_pos rfl]
  refine ⟨hi', ?_, ?_, ?_, ?_⟩
  · rw [e]; simp [Row.put]; exact hj
  · simp only [e, Row.put, List.getElem_modify]; simp
  · rw [e]; rfl
  · rw [e]; simp [Row.put]

/-- Two stores into one recipient. -/
theorem Qm.write2 {w : World} {B g : Nat} {t : TypeId} {v : Value} {rows : List Row} {room tries wait : Int} (h : Qm w B g t v rows room tries wait) (ht : t ≠ 60) {i k : Nat} (hi : i < rows.length) (hk : k < rows[i].it.to.length) {b cap : Nat}
    (e : rows[i].tv = .slice (some ⟨b, 0, none⟩) rows[i].it.to.length cap) (j j2 : Nat) (hj : j < 7) (hj2 : j2 < 7) (u u2 : Value) (f f2 : Rc → Rc) (hf : (f rows[i].it.to[k]).cells = (rows[i].it.to[k]).cells.set j u) (hf2 : (f2 (f rows[i].it.to[k])).cells = (f rows[i].it.to[k]).cells.set j2 u2) :
    Qm ((w.setCell ⟨b, k * 7 + j, none⟩ u).setCell ⟨b, k * 7 + j2, none⟩ u2) B g t v (updR rows i k (fun r => f2 (f r))) room tries wait := by
  have h1 := h.write ht hi hk e j hj u f hf
  obtain ⟨hi', hk', e1, e2, e3⟩ := updR_at (f := f) hi hk
  have h2 := h1.write ht hi' hk' (b := b) (cap := cap) (by rw [e2, e3]; exact e) j2 hj2 u2 f2 (by rw [e1]; exact hf2)
  rw [updR_two] at h2
  exact h2

theorem Left.drewN {w w' : World} {B g : Nat} {t : TypeId} {v : Value} {rows : List Row} {room tries wait : Int} {l : List It} {n : Nat} (h : Left (w.drewN n) B g t v rows room tries wait l w') : Left w B g t v rows room tries wait l w' := by
  obtain ⟨rows', h1, h2, h3, h4⟩ := h
  exact ⟨rows', h1, h2, ⟨h3.os, h3.tape, h3.output, h3.size, h3.block⟩, h4⟩
theorem Left.toDrewN {w w' : World} {B g : Nat} {t : TypeId} {v : Value} {rows : List Row} {room tries wait : Int} {l : List It} (h : Left w B g t v rows room tries wait l w') (n : Nat) : Left w B g t v rows room tries wait l (w'.drewN n) := by
  obtain ⟨rows', h1, h2, h3, h4⟩ := h
  exact ⟨rows', h1.drewN n, h2, ⟨h3.os, h3.tape, h3.output, h3.size, h3.block⟩, h4⟩
theorem Left.toDrew {w w' : World} {B g : Nat} {t : TypeId} {v : Value} {rows : List Row} {room tries wait : Int} {l : List It} (h : Left w B g t v rows room tries wait l w') : Left w B g t v rows room tries wait l w'.drew := by
  obtain ⟨rows', h1, h2, h3, h4⟩ := h
  exact ⟨rows', h1.drew, h2, ⟨h3.os, h3.tape, h3.output, h3.size, h3.block⟩, h4⟩
theorem left_upd {w w' : World} {B g : Nat} {t : TypeId} {v : Value} {rows : List Row} {room tries wait : Int} {i j : Nat} {f : Rc → Rc} (h : Qm w' B g t v (updR rows i j f) room tries wait) (ho : Only w w' (Foot g v rows)) : Left w B g t v rows room tries wait (upd (rows.map Row.it) i j f) w' :=
  ⟨_, h, updR_it _ _ _ _, ho, fun _ hk => foot_upd.1 hk⟩

set_option maxRecDepth 100000 in
set_option maxHeartbeats 800000 in
theorem take_any (w : World) (B g : Nat) (v : Value) (rows : List Row) (room tries wait : Int) (h : Qm w B g 66 v rows room tries wait) (id k : Int) (hs : Small (rows.map Row.it)) :
    Calls Try.prog 17 #[.pointer (some ⟨g, 0, none⟩), .int .i64 id, .int .i64 k] w fun e w' => e = .returned (.bool (takeS (rows.map Row.it) id k).1) ∧ Left w B g 66 v rows room tries wait (takeS (rows.map Row.it) id k).2 w' := by
  rcases pos_cases (rows.map Row.it) id k 0 with ⟨i, j, hp, rfl, rfl, hi, hj, hst⟩ | ⟨hp, hm⟩
  · have hi' : i < rows.length := by simpa using hi
    simp only [its_get hi'] at hj hst
    obtain ⟨q1, q2, q3⟩ := hs.at_ (j := j) hi'
    obtain ⟨t1, t2⟩ := q3 hj
    have e1 : takeS (rows.map Row.it) ((i : Int) + 1) j = (true, upd (rows.map Row.it) i j fun r => { r with state := 1, tries := r.tries + 1 }) := by unfold takeS; rw [hp]
    obtain ⟨b, cap, e2, hf, c3, c4, c5, c6, f3, f4, f5, f6⟩ := h.hit (by decide) hi' hj
    have hw := h.write2 (by decide) hi' hj e2 3 4 (by decide) (by decide) (.int .i64 1) (.int .i64 (rows[i].it.to[j].tries + 1)) (fun r => { r with state := 1 }) (fun r => { r with tries := r.tries + 1 }) rfl rfl
    have hon := ((Only.refl w (Foot g v rows)).setCell (p := ⟨b, j * 7 + 3, none⟩) hf (.int .i64 1)).setCell (p := ⟨b, j * 7 + 4, none⟩) hf (.int .i64 (rows[i].it.to[j].tries + 1))
    have hfin := left_upd hw hon
    have hfy := find_yes w B g v rows room tries wait h i j hi' hj (by omega) (by omega) 0 hst b cap e2
    have Hfin := Lib.hid hfin; have Hfy := Lib.hid hfy; have E1 := Lib.hid e1
    clear hw hon hfin hfy h e1 hst hp e2 hf hs
    go_enter Try.func17, Try.ntmps17
    go_wp2_with fail
    refine Hfy.out.mono ?_
    rintro e w' ⟨rfl, rfl⟩
    go_wp2_with fail
    go_ret
    rw [E1.out]
    exact ⟨rfl, Hfin.out⟩
  · have e1 : takeS (rows.map Row.it) id k = (false, rows.map Row.it) := by unfold takeS; rw [hp]
    have hfn := find_no w B g v rows room tries wait h id k 0 (by have := hs.1; simp at this; omega) hm
    have Hfn := Lib.hid hfn; have Hs := Lib.hid (Left.same h); have E1 := Lib.hid e1
    clear hfn h e1 hm hp hs
    go_enter Try.func17, Try.ntmps17
    go_wp2_with fail
    refine Hfn.out.mono ?_
    rintro e w' ⟨rfl, rfl⟩
    go_wp2_with fail
    go_ret
    rw [E1.out]
    exact ⟨rfl, Hs.out⟩

set_option maxRecDepth 100000 in
set_option maxHeartbeats 800000 in
theorem sent_any (w : World) (B g : Nat) (v : Value) (rows : List Row) (room tries wait : Int) (h : Qm w B g 66 v rows room tries wait) (id k : Int) (hs : Small (rows.map Row.it)) :
    Calls Try.prog 19 #[.pointer (some ⟨g, 0, none⟩), .int .i64 id, .int .i64 k] w fun e w' => e = .returned (.bool (sentS (rows.map Row.it) id k).1) ∧ Left w B g 66 v rows room tries wait (sentS (rows.map Row.it) id k).2 w' := by
  rcases pos_cases (rows.map Row.it) id k 1 with ⟨i, j, hp, rfl, rfl, hi, hj, hst⟩ | ⟨hp, hm⟩
  · have hi' : i < rows.length := by simpa using hi
    simp only [its_get hi'] at hj hst
    obtain ⟨q1, q2, q3⟩ := hs.at_ (j := j) hi'
    have e1 : sentS (rows.map Row.it) ((i : Int) + 1) j = (true, upd (rows.map Row.it) i j fun r => { r with state := 2 }) := by unfold sentS; rw [hp]
    obtain ⟨b, cap, e2, hf, c3, c4, c5, c6, f3, f4, f5, f6⟩ := h.hit (by decide) hi' hj
    have hw := h.write (by decide) hi' hj e2 3 (by decide) (.int .i64 2) (fun r => { r with state := 2 }) rfl
    have hon := (Only.refl w (Foot g v rows)).setCell (p := ⟨b, j * 7 + 3, none⟩) hf (.int .i64 2)
    have hfin := left_upd hw hon
    have hfy := find_yes w B g v rows room tries wait h i j hi' hj (by omega) (by omega) 1 hst b cap e2
    have Hfin := Lib.hid hfin; have Hfy := Lib.hid hfy; have E1 := Lib.hid e1
    clear hw hon hfin hfy h e1 hst hp e2 hf hs
    go_enter Try.func19, Try.ntmps19
    go_wp2_with fail
    refine Hfy.out.mono ?_
    rintro e w' ⟨rfl, rfl⟩
    go_wp2_with fail
    go_ret
    rw [E1.out]
    exact ⟨rfl, Hfin.out⟩
  · have e1 : sentS (rows.map Row.it) id k = (false, rows.map Row.it) := by unfold sentS; rw [hp]
    have hfn := find_no w B g v rows room tries wait h id k 1 (by have := hs.1; simp at this; omega) hm
    have Hfn := Lib.hid hfn; have Hs := Lib.hid (Left.same h); have E1 := Lib.hid e1
    clear hfn h e1 hm hp hs
    go_enter Try.func19, Try.ntmps19
    go_wp2_with fail
    refine Hfn.out.mono ?_
    rintro e w' ⟨rfl, rfl⟩
    go_wp2_with fail
    go_ret
    rw [E1.out]
    exact ⟨rfl, Hs.out⟩

theorem cell_far {w : World} {p q : Addr} {u : Value} (h : q.block ≠ p.block) : (w.setCell p u).cell? q = w.cell? q := World.cell?_setCell_other w p q u (fun e => h (e ▸ rfl))
theorem nullAt_row {rows : List Row} {i : Nat} (hi : i < rows.length) : nullAt (rows.map Row.it) i = rows[i].it.frm.null := by
  unfold nullAt; rw [List.getElem?_eq_getElem (by simpa using hi)]; simp
theorem triesAt_row {rows : List Row} {i j : Nat} (hi : i < rows.length) (hj : j < rows[i].it.to.length) : triesAt (rows.map Row.it) i j = rows[i].it.to[j].tries := by
  unfold triesAt; rw [List.getElem?_eq_getElem (by simpa using hi)]; simp [List.getElem?_eq_getElem hj]

set_option maxRecDepth 100000 in
set_option maxHeartbeats 800000 in
theorem fail_any (w : World) (B g : Nat) (v : Value) (rows : List Row) (room tries wait : Int) (h : Qm w B g 66 v rows room tries wait) (id k st : Int) (hs : Small (rows.map Row.it)) :
    Calls Try.prog 23 #[.pointer (some ⟨g, 0, none⟩), .int .i64 id, .int .i64 k, .int .i64 st] w fun e w' => e = .returned (.int .i64 (failS (rows.map Row.it) id k st).1) ∧ Left w B g 66 v rows room tries wait (failS (rows.map Row.it) id k st).2 w' := by
  rcases pos_cases (rows.map Row.it) id k 1 with ⟨i, j, hp, rfl, rfl, hi, hj, hst⟩ | ⟨hp, hm⟩
  · have hi' : i < rows.length := by simpa using hi
    simp only [its_get hi'] at hj hst
    obtain ⟨q1, q2, q3⟩ := hs.at_ (j := j) hi'
    obtain ⟨b, cap, e2, hf, c3, c4, c5, c6, f3, f4, f5, f6⟩ := h.hit (by decide) hi' hj
    have ho := (h.own _ (List.getElem_mem hi')).1
    rw [e2] at ho
    obtain ⟨cs, hb⟩ := own_blk ho
    have hgb := bk_ne h.blk hb (by decide)
    have hvb := own_ne h.row hb (by decide)
    obtain ⟨bi, capi, rfl, cn⟩ := h.at_ hi' (j := 1) (by decide)
    have hib : bi ≠ b := fun e => hvb (by rw [e]; rfl)
    have c0 := h.blk.cell 0
    simp [Row.cells] at c0 cn
    have hfy := find_yes w B g _ rows room tries wait h i j hi' hj (by omega) (by omega) 1 hst b cap e2
    have Hfy := Lib.hid hfy
    cases hn : rows[i].it.frm.null with
    | false =>
      have e1 : failS (rows.map Row.it) ((i : Int) + 1) j st = (3, upd (rows.map Row.it) i j fun r => { r with state := 3, status := st }) := by unfold failS; rw [hp]; simp [closed, nullAt_row hi', hn]
      have hw := h.write2 (by decide) hi' hj e2 3 6 (by decide) (by decide) (.int .i64 3) (.int .i64 st) (fun r => { r with state := 3 }) (fun r => { r with status := st }) rfl rfl
      have hon := ((Only.refl w (Foot g _ rows)).setCell (p := ⟨b, j * 7 + 3, none⟩) hf (.int .i64 3)).setCell (p := ⟨b, j * 7 + 6, none⟩) hf (.int .i64 st)
      have hfin := left_upd hw hon
      have d0 : ((w.setCell ⟨b, j * 7 + 3, none⟩ (.int .i64 3)).setCell ⟨b, j * 7 + 6, none⟩ (.int .i64 st)).cell? ⟨g, 0, none⟩ = some (.slice (some ⟨bi, 0, none⟩) rows.length capi) := by rw [cell_far hgb, cell_far hgb]; exact c0
      have d1 : ((w.setCell ⟨b, j * 7 + 3, none⟩ (.int .i64 3)).setCell ⟨b, j * 7 + 6, none⟩ (.int .i64 st)).cell? ⟨bi, i * 12 + 1, none⟩ = some (.bool false) := by rw [cell_far hib, cell_far hib, cn, hn]
      have Hfin := Lib.hid hfin; have E1 := Lib.hid e1
      clear hw hon hfin hfy h e1 hst hp e2 hf hs c0 cn ho hb hgb hvb hib hn
      go_enter Try.func23, Try.ntmps23
      go_wp2_with fail
      refine Hfy.out.mono ?_
      rintro e w' ⟨rfl, rfl⟩
      go_wp2_with fail
      go_ret
      rw [E1.out]
      exact ⟨rfl, Hfin.out⟩
    | true =>
      have e1 : failS (rows.map Row.it) ((i : Int) + 1) j st = (4, upd (rows.map Row.it) i j fun r => { r with state := 4, status := st }) := by unfold failS; rw [hp]; simp [closed, nullAt_row hi', hn]
      have hw := h.write2 (by decide) hi' hj e2 3 6 (by decide) (by decide) (.int .i64 3) (.int .i64 st) (fun r => { r with state := 3 }) (fun r => { r with status := st }) rfl rfl
      obtain ⟨hi2, hj2, x1, x2, x3⟩ := updR_at (f := fun r => ({ ({ r with state := 3 } : Rc) with status := st } : Rc)) hi' hj
      have hw3 := hw.write (by decide) hi2 hj2 (b := b) (cap := cap) (by rw [x2, x3]; exact e2) 3 (by decide) (.int .i64 4) (fun r => { r with state := 4 }) rfl
      rw [updR_two] at hw3
      have hon := (((Only.refl w (Foot g _ rows)).setCell (p := ⟨b, j * 7 + 3, none⟩) hf (.int .i64 3)).setCell (p := ⟨b, j * 7 + 6, none⟩) hf (.int .i64 st)).setCell (p := ⟨b, j * 7 + 3, none⟩) hf (.int .i64 4)
      have hfin := left_upd hw3 hon
      have d0 : ((w.setCell ⟨b, j * 7 + 3, none⟩ (.int .i64 3)).setCell ⟨b, j * 7 + 6, none⟩ (.int .i64 st)).cell? ⟨g, 0, none⟩ = some (.slice (some ⟨bi, 0, none⟩) rows.length capi) := by rw [cell_far hgb, cell_far hgb]; exact c0
      have d1 : ((w.setCell ⟨b, j * 7 + 3, none⟩ (.int .i64 3)).setCell ⟨b, j * 7 + 6, none⟩ (.int .i64 st)).cell? ⟨bi, i * 12 + 1, none⟩ = some (.bool true) := by rw [cell_far hib, cell_far hib, cn, hn]
      have Hfin := Lib.hid hfin; have E1 := Lib.hid e1
      clear hw hw3 hon hfin hfy h e1 hst hp e2 hf hs c0 cn ho hb hgb hvb hib hn hj2 x1 x2 x3
      go_enter Try.func23, Try.ntmps23
      go_wp2_with fail
      refine Hfy.out.mono ?_
      rintro e w' ⟨rfl, rfl⟩
      go_wp2_with fail
      go_ret
      rw [E1.out]
      exact ⟨rfl, Hfin.out⟩
  · have e1 : failS (rows.map Row.it) id k st = (-1, rows.map Row.it) := by unfold failS; rw [hp]
    have hfn := find_no w B g v rows room tries wait h id k 1 (by have := hs.1; simp at this; omega) hm
    have Hfn := Lib.hid hfn; have Hs := Lib.hid (Left.same h); have E1 := Lib.hid e1
    clear hfn h e1 hm hp hs
    go_enter Try.func23, Try.ntmps23
    go_wp2_with fail
    refine Hfn.out.mono ?_
    rintro e w' ⟨rfl, rfl⟩
    go_wp2_with fail
    go_ret
    rw [E1.out]
    exact ⟨rfl, Hs.out⟩

set_option maxRecDepth 100000 in
set_option maxHeartbeats 800000 in
theorem later_any (w : World) (B g : Nat) (v : Value) (rows : List Row) (room tries wait : Int) (h : Qm w B g 66 v rows room tries wait) (id k now : Int) (hs : Small (rows.map Row.it)) (hw0 : 0 ≤ wait) (hw1 : wait ≤ 1000) :
    Calls Try.prog 21 #[.pointer (some ⟨g, 0, none⟩), .int .i64 id, .int .i64 k, .int .i64 now] w fun e w' => e = .returned (.int .i64 (laterS tries wait (rows.map Row.it) id k now).1) ∧ Left w B g 66 v rows room tries wait (laterS tries wait (rows.map Row.it) id k now).2 w' := by
  rcases pos_cases (rows.map Row.it) id k 1 with ⟨i, j, hp, rfl, rfl, hi, hj, hst⟩ | ⟨hp, hm⟩
  · have hi' : i < rows.length := by simpa using hi
    simp only [its_get hi'] at hj hst
    obtain ⟨q1, q2, q3⟩ := hs.at_ (j := j) hi'
    obtain ⟨t1, t2⟩ := q3 hj
    obtain ⟨b, cap, e2, hf, c3, c4, c5, c6, f3, f4, f5, f6⟩ := h.hit (by decide) hi' hj
    have g2 := h.blk.cell 2
    have g3 := h.blk.cell 3
    simp at g2 g3
    have hfy := find_yes w B g _ rows room tries wait h i j hi' hj (by omega) (by omega) 1 hst b cap e2
    have Hfy := Lib.hid hfy
    by_cases ht : tries ≤ rows[i].it.to[j].tries
    · have e1 : laterS tries wait (rows.map Row.it) ((i : Int) + 1) j now = failS (rows.map Row.it) ((i : Int) + 1) j 447 := by unfold laterS; rw [hp]; simp [triesAt_row hi' hj, ht]
      have E1 := Lib.hid e1
      have H := Lib.hid h; have Hs := Lib.hid hs
      clear hfy h e1 hst hp e2 hf hs
      go_enter Try.func21, Try.ntmps21
      go_wp2_with fail
      refine Hfy.out.mono ?_
      rintro e w' ⟨rfl, rfl⟩
      go_wp2_with fail
      go_quiet (fail)
      go_wp2_with fail
      refine (fail_any _ B g v rows room tries wait (H.out.drewN _) _ _ _ Hs.out).mono ?_
      rintro e w' ⟨rfl, hl⟩
      go_wp2_with fail
      go_ret
      rw [E1.out]
      exact ⟨rfl, hl.drewN⟩
    · have e1 : laterS tries wait (rows.map Row.it) ((i : Int) + 1) j now = (0, upd (rows.map Row.it) i j fun r => { r with state := 0, next := clamp now + rows[i].it.to[j].tries * wait }) := by unfold laterS; rw [hp]; simp [triesAt_row hi' hj, ht]
      have hm0 : 0 ≤ rows[i].it.to[j].tries * wait := Int.mul_nonneg t1 hw0
      have hm1 : rows[i].it.to[j].tries * wait ≤ 1000 * 1000 := Int.mul_le_mul t2 hw1 hw0 (by decide)
      have hfin : ∀ n, Left w B g 66 v rows room tries wait (upd (rows.map Row.it) i j fun r => { r with state := 0, next := clamp now + rows[i].it.to[j].tries * wait }) (((w.drewN n).setCell ⟨b, j * 7 + 3, none⟩ (.int .i64 0)).setCell ⟨b, j * 7 + 5, none⟩ (.int .i64 (clamp now + rows[i].it.to[j].tries * wait))) := fun n =>
        (left_upd ((h.drewN n).write2 (by decide) hi' hj e2 3 5 (by decide) (by decide) (.int .i64 0) (.int .i64 (clamp now + rows[i].it.to[j].tries * wait)) (fun r => { r with state := 0 }) (fun r => { r with next := clamp now + rows[i].it.to[j].tries * wait }) rfl rfl)
          (((Only.refl (w.drewN n) (Foot g _ rows)).setCell (p := ⟨b, j * 7 + 3, none⟩) hf (.int .i64 0)).setCell (p := ⟨b, j * 7 + 5, none⟩) hf (.int .i64 (clamp now + rows[i].it.to[j].tries * wait)))).drewN
      have Hfin := Lib.hid hfin; have E1 := Lib.hid e1
      clear hfin hfy h e1 hst hp e2 hf hs
      generalize rows[i].it.to[j].tries = T at *
      by_cases n0 : now ≤ 0
      · skip
        have hcl : clamp now = 0 := by unfold clamp; omega
        simp only [hcl, Int.zero_add] at Hfin E1
        clear hcl
        go_enter Try.func21, Try.ntmps21
        go_wp2_with fail
        refine Hfy.out.mono ?_
        rintro e w' ⟨rfl, rfl⟩
        go_wp2_with fail
        go_quiet (fail)
        go_wp2_with fail
        go_region
        go_wp2_with fail
        go_ret
        rw [E1.out]
        exact ⟨rfl, Hfin.out _⟩
      · by_cases n1 : 1099511627776 < now
        · skip
          have hcl : clamp now = 1099511627776 := by unfold clamp; omega
          simp only [hcl] at Hfin E1
          clear hcl
          go_enter Try.func21, Try.ntmps21
          go_wp2_with fail
          refine Hfy.out.mono ?_
          rintro e w' ⟨rfl, rfl⟩
          go_wp2_with fail
          go_quiet (fail)
          go_wp2_with fail
          go_region
          go_wp2_with fail
          go_ret
          rw [E1.out]
          exact ⟨rfl, Hfin.out _⟩
        · skip
          have hcl : clamp now = now := by unfold clamp; omega
          simp only [hcl] at Hfin E1
          clear hcl
          go_enter Try.func21, Try.ntmps21
          go_wp2_with fail
          refine Hfy.out.mono ?_
          rintro e w' ⟨rfl, rfl⟩
          go_wp2_with fail
          go_quiet (fail)
          go_wp2_with fail
          go_region
          go_wp2_with fail
          go_ret
          rw [E1.out]
          exact ⟨rfl, Hfin.out _⟩
  · have e1 : laterS tries wait (rows.map Row.it) id k now = (-1, rows.map Row.it) := by unfold laterS; rw [hp]
    have hfn := find_no w B g v rows room tries wait h id k 1 (by have := hs.1; simp at this; omega) hm
    have Hfn := Lib.hid hfn; have Hs := Lib.hid (Left.same h); have E1 := Lib.hid e1
    clear hfn h e1 hm hp hs
    go_enter Try.func21, Try.ntmps21
    go_wp2_with fail
    refine Hfn.out.mono ?_
    rintro e w' ⟨rfl, rfl⟩
    go_wp2_with fail
    go_ret
    rw [E1.out]
    exact ⟨rfl, Hs.out⟩
end Go.Proofs.Ytlbghgmeiajioaa
