/- What Open and Full come to. -/
import Derived.Test.YtlbghgmeiajioaaV
namespace Go.Proofs.Ytlbghgmeiajioaa
open Go.RowKit
set_option linter.unusedVariables false

set_option maxHeartbeats 800000 in
theorem open_any (r : Rc) (w : World) : Calls Try.prog 39 #[.agg r.cells.toArray] w fun e w' => e = .returned (.bool (openR r)) ∧ w.alloc (.cells r.cells.toArray 60) = w' := by
  obtain ⟨⟨pn, pl, pd⟩, st, tr, nx, su⟩ := r
  simp only [Rc.cells, openR]
  by_cases h0 : st = 0
  · subst h0
    go_enter Try.func39, Try.ntmps39
    go_wp2
    go_ret
    exact ⟨rfl, rfl⟩
  · have h0' : (st == 0) = false := beq_eq_false_iff_ne.2 h0
    cases h1 : (st == 1) with
    | true =>
      go_enter Try.func39, Try.ntmps39
      go_wp2
      go_ret
      exact ⟨ret_b (by simp [h0']), rfl⟩
    | false =>
      go_enter Try.func39, Try.ntmps39
      go_wp2
      go_ret
      exact ⟨ret_b (by simp [h0']), rfl⟩

/-- The seven cells of recipient k. -/
theorem rc_cells {w : World} {base n b cap : Nat} {l : List Rc} (h : w.ownsRow base 60 7 (.slice (some ⟨b, 0, none⟩) n cap) n (l.flatMap Rc.cells)) {k : Nat} (hk : k < l.length) :
    w.cell? ⟨b, k * 7, none⟩ = some (.bool l[k].path.null) ∧ w.cell? ⟨b, k * 7 + 1, none⟩ = some (.string l[k].path.loc) ∧ w.cell? ⟨b, k * 7 + 2, none⟩ = some (.string l[k].path.dom) ∧
    w.cell? ⟨b, k * 7 + 3, none⟩ = some (.int .i64 l[k].state) ∧ w.cell? ⟨b, k * 7 + 4, none⟩ = some (.int .i64 l[k].tries) ∧ w.cell? ⟨b, k * 7 + 5, none⟩ = some (.int .i64 l[k].next) ∧ w.cell? ⟨b, k * 7 + 6, none⟩ = some (.int .i64 l[k].status) := by
  have hn : n * 7 = l.length * 7 := by have := h.1; rw [flat_len Rc.len] at this; omega
  have e : ∀ j, j < 7 → w.cell? ⟨b, k * 7 + j, none⟩ = l[k].cells[j]? := fun j hj => by rw [h.cellAt _ (by omega), flat_get Rc.len l k j hk hj]
  exact ⟨e 0 (by decide), e 1 (by decide), e 2 (by decide), e 3 (by decide), e 4 (by decide), e 5 (by decide), e 6 (by decide)⟩

theorem any_at {l : List Rc} {k : Nat} (hk : k < l.length) (h : openR l[k] = true) : decide ((0 : Int) ≤ k) = l.any openR := by
  rw [decide_eq_true (by omega), eq_comm, List.any_eq_true]
  exact ⟨_, List.getElem_mem hk, h⟩
theorem any_none {l : List Rc} (h : ∀ j (hj : j < l.length), openR l[j] = false) : decide ((0 : Int) ≤ -1) = l.any openR := by
  rw [decide_eq_false (by omega), eq_comm, List.any_eq_false]
  intro r hr
  obtain ⟨j, hj, rfl⟩ := List.getElem_of_mem hr
  rw [h j hj]; decide

set_option maxHeartbeats 800000 in
theorem idx_any (v : Value) (l : List Rc) (base : Nat) (w : World) (hown : w.ownsRow base 60 7 v l.length (l.flatMap Rc.cells)) (hn : l.length ≤ 1000) :
    Calls Try.prog 41 #[v, .func (.func 39) #[] #[]] w fun e w' => ∃ i : Int, e = .returned (.int .i64 i) ∧ decide (0 ≤ i) = l.any openR ∧ Below w.heap.size w w' := by
  obtain ⟨A, c, rfl⟩ := own_form hown
  go_enter Try.func41, Try.ntmps41
  go_wp2
  go_loopw [8] (fun i wr => ∃ k : Nat, k ≤ l.length ∧ i = .int .i64 k ∧ (∀ j (hj : j < l.length), j < k → openR l[j] = false) ∧ Below w.heap.size w wr) (fun i _ => l.length - (intOf i).toNat)
  case atStart => exact ⟨0, Nat.zero_le _, rfl, fun j hj h => by omega, Below.refl _ _⟩
  case round =>
    obtain ⟨k, hk, rfl, hall, hB⟩ := hrel
    have Hall := Lib.hid hall; clear hall
    by_cases hlt : k < l.length
    · obtain ⟨b, cap, he, hb, hl⟩ := own_some hown (by omega)
      cases he
      have hr := own_only hown (Only.of_below (hB)) (S := fun _ => False) (fun _ _ h => h)
      obtain ⟨d0, d1, d2, d3, d4, d5, d6⟩ := rc_cells hr hlt
      clear hr
      go_wp2_with fail
      refine (open_any l[k] wr).mono ?_
      rintro e w' ⟨rfl, rfl⟩
      have hB2 := hB.alloc hB.size (.cells l[k].cells.toArray 60)
      cases ho : openR l[k] with
      | true =>
        go_wp2_with fail
        go_ret
        exact ⟨_, rfl, any_at hlt ho, hB2⟩
      | false =>
        go_wp2_with fail
        refine ⟨⟨k + 1, by omega, by go_num, fun j hj h => ?_, hB2⟩, by simp [intOf]; omega⟩
        rcases Nat.lt_or_ge j k with h1 | h1
        · exact Hall.out j hj h1
        · obtain rfl : j = k := by omega
          exact ho
    · go_wp2
      go_ret
      exact ⟨_, rfl, any_none (fun j hj => Hall.out j hj (by omega)), hB⟩

set_option maxHeartbeats 400000 in
theorem has_any (v : Value) (l : List Rc) (base : Nat) (w : World) (hown : w.ownsRow base 60 7 v l.length (l.flatMap Rc.cells)) (hn : l.length ≤ 1000) :
    Calls Try.prog 38 #[v, .func (.func 39) #[] #[]] w fun e w' => e = .returned (.bool (l.any openR)) ∧ Below w.heap.size w w' := by
  go_enter Try.func38, Try.ntmps38
  go_wp2_with fail
  refine (idx_any v l base w hown hn).mono ?_
  rintro e w' ⟨i, rfl, hi, hB⟩
  go_wp2_with fail
  go_ret
  exact ⟨rfl, hB⟩

/-- The twelve cells of item i. -/
theorem it_cells {w : World} {base n b cap : Nat} {l : List Row} (h : w.ownsRow base 51 12 (.slice (some ⟨b, 0, none⟩) n cap) n (l.flatMap Row.cells)) {k : Nat} (hk : k < l.length) :
    w.cell? ⟨b, k * 12, none⟩ = some (.int .i64 l[k].it.id) ∧ w.cell? ⟨b, k * 12 + 1, none⟩ = some (.bool l[k].it.frm.null) ∧ w.cell? ⟨b, k * 12 + 2, none⟩ = some (.string l[k].it.frm.loc) ∧
    w.cell? ⟨b, k * 12 + 3, none⟩ = some (.string l[k].it.frm.dom) ∧ w.cell? ⟨b, k * 12 + 4, none⟩ = some l[k].tv ∧ w.cell? ⟨b, k * 12 + 5, none⟩ = some l[k].lv ∧ w.cell? ⟨b, k * 12 + 6, none⟩ = some (.bool l[k].it.flags.head) ∧
    w.cell? ⟨b, k * 12 + 7, none⟩ = some (.bool l[k].it.flags.body) ∧ w.cell? ⟨b, k * 12 + 8, none⟩ = some (.bool l[k].it.flags.bad) ∧ w.cell? ⟨b, k * 12 + 9, none⟩ = some (.int .i64 l[k].it.flags.lines) ∧ w.cell? ⟨b, k * 12 + 10, none⟩ = some (.int .i64 l[k].it.flags.hops) ∧ w.cell? ⟨b, k * 12 + 11, none⟩ = some (.int .i64 l[k].it.bytes) := by
  have hn : n * 12 = l.length * 12 := by have := h.1; rw [flat_len Row.len] at this; omega
  have e : ∀ j, j < 12 → w.cell? ⟨b, k * 12 + j, none⟩ = l[k].cells[j]? := fun j hj => by rw [h.cellAt _ (by omega), flat_get Row.len l k j hk hj]
  exact ⟨e 0 (by decide), e 1 (by decide), e 2 (by decide), e 3 (by decide), e 4 (by decide), e 5 (by decide), e 6 (by decide), e 7 (by decide), e 8 (by decide), e 9 (by decide), e 10 (by decide), e 11 (by decide)⟩

theorem openN_take {rows : List Row} {k : Nat} (hk : k < rows.length) : openN ((rows.take (k + 1)).map Row.it) = openN ((rows.take k).map Row.it) + (if rows[k].it.to.any openR then 1 else 0) := by
  unfold openN
  rw [List.take_succ_eq_append_getElem hk, List.map_append, List.countP_append]
  simp only [List.map_cons, List.map_nil, List.countP_cons, List.countP_nil, Nat.zero_add]
  rfl
/-- How many of the first k are open. -/
def cntO (rows : List Row) (k : Nat) : Nat := openN ((rows.take k).map Row.it)
theorem cntO_succ {rows : List Row} {k : Nat} (hk : k < rows.length) : cntO rows (k + 1) = cntO rows k + (if rows[k].it.to.any openR then 1 else 0) := openN_take hk
theorem cntO_all (rows : List Row) : cntO rows rows.length = openN (rows.map Row.it) := by unfold cntO; rw [List.take_length]
theorem cntO_yes {rows : List Row} {k : Nat} (hk : k < rows.length) (h : rows[k].it.to.any openR = true) : cntO rows (k + 1) = cntO rows k + 1 := by rw [cntO_succ hk, h]; rfl
theorem cntO_no {rows : List Row} {k : Nat} (hk : k < rows.length) (h : rows[k].it.to.any openR = false) : cntO rows (k + 1) = cntO rows k := by rw [cntO_succ hk, h]; rfl
theorem cntO_le (rows : List Row) (k : Nat) : cntO rows k ≤ k := by
  unfold cntO
  refine Nat.le_trans List.countP_le_length ?_
  simp only [List.length_map, List.length_take]; omega
theorem openN_le (l : List It) : openN l ≤ l.length := List.countP_le_length

set_option maxHeartbeats 1600000 in
theorem count_any (w : World) (B g : Nat) (v : Value) (rows : List Row) (room tries wait : Int) (h : Qm w B g 66 v rows room tries wait) (hs : Small (rows.map Row.it)) :
    Calls Try.prog 28 #[.pointer (some ⟨g, 0, none⟩)] w fun e w' => e = .returned (.int .i64 (openN (rows.map Row.it))) ∧ Below w.heap.size w w' := by
  have hl : rows.length ≤ 1000 := by have := hs.1; simpa using this
  have c0 := h.blk.cell 0
  simp at c0
  obtain ⟨A, c, rfl⟩ := own_any h.row
  have H := Lib.hid h; have Hs := Lib.hid hs
  clear h hs
  go_enter Try.func28, Try.ntmps28
  go_wp2
  go_loopw [3, 11] (fun n i wr => ∃ k : Nat, k ≤ rows.length ∧ i = .int .i64 k ∧ n = .int .i64 (cntO rows k) ∧ Below w.heap.size w wr) (fun _ i _ => rows.length - (intOf i).toNat)
  case atStart => exact ⟨0, Nat.zero_le _, rfl, rfl, Below.refl _ _⟩
  case round =>
    obtain ⟨k, hk, rfl, rfl, hB⟩ := hrel
    have ho := cntO_le rows k
    by_cases hlt : k < rows.length
    · obtain ⟨b, cap, he, hb, hl⟩ := own_some H.out.row (by omega)
      cases he
      have hq := H.out.below hB
      obtain ⟨d0, d1, d2, d3, d4, d5, d6, d7, d8, d9, d10, d11⟩ := it_cells hq.row hlt
      have hto := (hq.own _ (List.getElem_mem hlt)).1
      have hlv := (hq.own _ (List.getElem_mem hlt)).2
      have hsm := (Hs.out.at_ (j := 0) hlt).2.1
      have hn1 := cntO_yes hlt
      have hn0 := cntO_no hlt
      generalize rows[k] = R at *
      obtain ⟨it, tv, lv⟩ := R
      dsimp only at hto hlv hn0 hn1 hsm d0 d1 d2 d3 d4 d5 d6 d7 d8 d9 d10 d11
      obtain ⟨A1, c1, rfl⟩ := own_any hto
      obtain ⟨A2, c2, rfl⟩ := own_any hlv
      have Hto := Lib.hid hto; have Hn0 := Lib.hid hn0; have Hn1 := Lib.hid hn1
      clear hq hto hn0 hn1 hlv
      cases hany : it.to.any openR with
      | true =>
        go_wp2_with fail
        refine (has_any _ it.to B _ (Hto.out.alloc _) (by omega)).mono ?_
        rintro e w' ⟨rfl, hb2⟩
        rw [hany]
        have hB3 := (hB.alloc hB.size (.cells (Row.cells ⟨it, .slice A1 it.to.length c1, .slice A2 it.lines.length c2⟩).toArray 51)).trans (hb2.mono (by simp; have := hB.size; omega))
        go_wp2_with fail
        exact ⟨⟨k + 1, by omega, by go_num, by rw [Hn1.out hany]; go_num, hB3⟩, by simp [intOf]; omega⟩
      | false =>
        go_wp2_with fail
        refine (has_any _ it.to B _ (Hto.out.alloc _) (by omega)).mono ?_
        rintro e w' ⟨rfl, hb2⟩
        rw [hany]
        have hB3 := (hB.alloc hB.size (.cells (Row.cells ⟨it, .slice A1 it.to.length c1, .slice A2 it.lines.length c2⟩).toArray 51)).trans (hb2.mono (by simp; have := hB.size; omega))
        go_wp2_with fail
        exact ⟨⟨k + 1, by omega, by go_num, by rw [Hn0.out hany], hB3⟩, by simp [intOf]; omega⟩
    · go_wp2
      go_ret
      obtain rfl : k = rows.length := by omega
      rw [cntO_all]
      exact ⟨rfl, hB⟩

set_option maxHeartbeats 800000 in
theorem full_any (w : World) (B g : Nat) (v : Value) (rows : List Row) (room tries wait : Int) (h : Qm w B g 66 v rows room tries wait) (hs : Small (rows.map Row.it)) :
    Calls Try.prog 30 #[.pointer (some ⟨g, 0, none⟩)] w fun e w' => e = .returned (.bool (decide (room ≤ (openN (rows.map Row.it) : Int)))) ∧ Below w.heap.size w w' := by
  have H := Lib.hid h; have Hs := Lib.hid hs
  have c1 := h.blk.cell 1
  have G := h.blk.lt
  simp at c1
  clear h hs
  go_enter Try.func30, Try.ntmps30
  go_wp2_with fail
  refine wp_region_held_drew (S := fun w' : World => w'.cell? ⟨g, 1, none⟩ = some (.int .i64 room)) (by kernel_rfl) ?_ (fun hHeld => ?_)
  · exact c1
  refine wpAnyH_take (i := 0) (oi := { dst := some 3, op := Op.move (Operand.tmp 0), type := 25, pos := "queue.go:39", after := #[], guard := none }) (v := ?_) rfl (by kernel_rfl) (by kernel_rfl) (by kernel_rfl) (fun _ _ _ h => h) (Or.inl ⟨by rfl, ?_⟩) (by assumption) ?_
  rotate_left
  · intro wS hSw; (try dsimp only at hSw); go_simp; (try with_reducible rfl)
  try simp only [Act.put, List.setIfInBounds_toArray, List.set_cons_zero, List.set_cons_succ]
  refine wpAnyH_take (i := 2) (oi := { dst := some 5, op := Op.move (Operand.tmp 0), type := 25, pos := "queue.go:39", after := #[], guard := none }) (v := ?_) rfl (by kernel_rfl) (by kernel_rfl) (by kernel_rfl) (fun _ _ _ h => h) (Or.inl ⟨by rfl, ?_⟩) (by assumption) ?_
  rotate_left
  · intro wS hSw; (try dsimp only at hSw); go_simp; (try with_reducible rfl)
  try simp only [Act.put, List.setIfInBounds_toArray, List.set_cons_zero, List.set_cons_succ]
  refine wpAnyH_take (i := 3) (oi := { dst := some 6, op := Op.nilCheck (Operand.tmp 5), type := 0, pos := "queue.go:39", after := #[{ on := 2, ground := Ground.data }], guard := none }) (v := ?_) rfl (by kernel_rfl) (by kernel_rfl) (by kernel_rfl) (fun _ _ _ h => h) (Or.inl ⟨by rfl, ?_⟩) (by assumption) ?_
  rotate_left
  · intro wS hSw; (try dsimp only at hSw); go_simp; (try with_reducible rfl)
  try simp only [Act.put, List.setIfInBounds_toArray, List.set_cons_zero, List.set_cons_succ]
  refine wpAnyH_take (i := 4) (oi := { dst := some 7, op := Op.fieldAddr 66 (Operand.tmp 6) 1, type := 0, pos := "queue.go:39", after := #[{ on := 3, ground := Ground.data }], guard := none }) (v := ?_) rfl (by kernel_rfl) (by kernel_rfl) (by kernel_rfl) (fun _ _ _ h => h) (Or.inl ⟨by rfl, ?_⟩) (by assumption) ?_
  rotate_left
  · intro wS hSw; (try dsimp only at hSw); go_simp; (try with_reducible rfl)
  try simp only [Act.put, List.setIfInBounds_toArray, List.set_cons_zero, List.set_cons_succ]
  refine wpAnyH_take (i := 5) (oi := { dst := some 8, op := Op.load 3 (Operand.tmp 7), type := 3, pos := "queue.go:39", after := #[{ on := 4, ground := Ground.data }], guard := none }) (v := ?_) rfl (by kernel_rfl) (by kernel_rfl) (by kernel_rfl) (fun _ _ _ h => h) (Or.inl ⟨by rfl, ?_⟩) (by assumption) ?_
  rotate_left
  · intro wS hSw; (try dsimp only at hSw); go_simp; (try with_reducible rfl)
  try simp only [Act.put, List.setIfInBounds_toArray, List.set_cons_zero, List.set_cons_succ]
  refine wpAnyH_ready (rs := [1]) (by kernel_rfl) (by simp) ?_
  refine AllReadyH.cons (o := { dst := some 4, op := Op.call { callee := Callee.value (Operand.func 28), args := #[Operand.tmp 3], argTypes := #[25] }, type := 3, pos := "queue.go:39", after := #[{ on := 0, ground := Ground.data }], guard := none }) rfl (fun K hK => ?_) AllReadyH.nil
  go_simp
  refine (count_any _ B g v rows room tries wait H.out.drew Hs.out).mono ?_
  rintro e w4 ⟨rfl, b4⟩
  have c4 := (b4.cell (p := ⟨g, 1, none⟩) G).trans c1
  replace b4 := Below.trans ((Below.refl w.heap.size w).drew) b4
  try dsimp only
  refine hK.out _ _ ?_ (fun hHeld => ?_)
  · exact c4
  clear hK K
  try simp only [Act.put, List.setIfInBounds_toArray, List.set_cons_zero, List.set_cons_succ]
  refine wpAnyH_take (i := 6) (oi := { dst := some 9, op := Op.binOp BinOp.geq 3 (Operand.tmp 4) (Operand.tmp 8) 3, type := 4, pos := "queue.go:39", after := #[{ on := 1, ground := Ground.data }, { on := 5, ground := Ground.data }], guard := none }) (v := ?_) rfl (by kernel_rfl) (by kernel_rfl) (by kernel_rfl) (fun _ _ _ h => h) (Or.inl ⟨by rfl, ?_⟩) (by assumption) ?_
  rotate_left
  · intro wS hSw; (try dsimp only at hSw); go_simp; (try with_reducible rfl)
  try simp only [Act.put, List.setIfInBounds_toArray, List.set_cons_zero, List.set_cons_succ]
  refine wpAnyH_take (i := 7) (oi := { dst := some 2, op := Op.assign (Operand.tmp 9), type := 4, pos := "queue.go:39", after := #[{ on := 6, ground := Ground.data }, { on := 1, ground := Ground.chain }, { on := 0, ground := Ground.phase }, { on := 1, ground := Ground.phase }, { on := 2, ground := Ground.phase }, { on := 3, ground := Ground.phase }, { on := 4, ground := Ground.phase }, { on := 5, ground := Ground.phase }, { on := 6, ground := Ground.phase }], guard := none }) (v := ?_) rfl (by kernel_rfl) (by kernel_rfl) (by kernel_rfl) (fun _ _ _ h => h) (Or.inl ⟨by rfl, ?_⟩) (by assumption) ?_
  rotate_left
  · intro wS hSw; (try dsimp only at hSw); go_simp; (try with_reducible rfl)
  try simp only [Act.put, List.setIfInBounds_toArray, List.set_cons_zero, List.set_cons_succ]
  refine wpAnyH_done (by kernel_rfl) ?_ _
  go_wp2_with fail
  go_ret
  exact ⟨rfl, b4⟩
end Go.Proofs.Ytlbghgmeiajioaa
