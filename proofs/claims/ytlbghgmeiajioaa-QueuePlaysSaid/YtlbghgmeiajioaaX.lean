/- What Item comes to. -/
import Derived.Test.YtlbghgmeiajioaaW
namespace Go.Proofs.Ytlbghgmeiajioaa
open Go.RowKit
set_option linter.unusedVariables false

theorem own_base {w : World} {B B' : Nat} {e : TypeId} {size n : Nat} {v : Value} {xs : List Value} (h : w.ownsRow B' e size v n xs) (hB : B ≤ B') : w.ownsRow B e size v n xs := by
  refine ⟨h.1, ?_⟩
  rcases h.2 with h2 | ⟨g, cap, cur, rfl, hg, hh, r⟩
  · exact .inl h2
  · exact .inr ⟨g, cap, cur, rfl, Nat.le_trans hB hg, hh, r⟩

theorem _root_.Go.World.ownsRow.only2 {w w' : World} {base : Nat} {e : TypeId} {size n : Nat} {v : Value} {xs : List Value} (h : w.ownsRow base e size v n xs) (hb : Below w.heap.size w w') : w'.ownsRow base e size v n xs :=
  own_only h (Only.of_below hb) (S := fun _ => False) (fun _ _ h => h)

set_option maxRecDepth 100000 in
set_option maxHeartbeats 800000 in
theorem item_no (w : World) (B g : Nat) (v : Value) (rows : List Row) (room tries wait : Int) (h : Qm w B g 66 v rows room tries wait) (id : Int) (hs : Small (rows.map Row.it)) (hno : id < 1 ∨ (rows.length : Int) < id) :
    Calls Try.prog 25 #[.pointer (some ⟨g, 0, none⟩), .int .i64 id] w fun e w' => e = .returned (.tuple #[zeroIt, .bool false]) ∧ Below w.heap.size w w' := by
  have hl : rows.length ≤ 1000 := by have := hs.1; simpa using this
  have c0 := h.blk.cell 0
  simp at c0
  obtain ⟨A, c, rfl⟩ := own_any h.row
  have G := h.blk.lt
  clear h hs
  rcases hno with h1 | h1
  · go_enter Try.func25, Try.ntmps25
    go_wp2
    refine bodyPost_ret (v := .tuple #[zeroIt, .bool false]) (by simp [results, Try.results25, go_sem, zeroIt]) rfl ?_
    exact ⟨rfl, (Below.refl _ _).alloc (Nat.le_refl _) _⟩
  · have h2 : decide (id < 1) = false := decide_eq_false (by omega)
    go_enter Try.func25, Try.ntmps25
    go_wp2
    refine bodyPost_ret (v := .tuple #[zeroIt, .bool false]) (by simp [results, Try.results25, go_sem, zeroIt]) rfl ?_
    exact ⟨rfl, (Below.refl _ _).alloc (Nat.le_refl _) _⟩

set_option maxHeartbeats 800000 in
theorem item_ret {wf : World} {tmps : Array Value} {R : Ending → World → Prop} {n0 : Nat} {cs : Array Value} (r : Row) (hk : Bk wf n0 51 cs) (hc : cs = r.cells.toArray) (h4 : tmps[4]? = some (.pointer (some ⟨n0, 0, none⟩))) (h5 : tmps[5]? = some (.bool true))
    (hR : R (.returned (.tuple #[.agg r.cells.toArray, .bool true])) wf) : bodyPost Try.prog Try.f25 R .ret { tmps := tmps, defers := [] } wf := by
  subst hc
  have z0 := hk.cell 0
  have z1 := hk.cell 1
  have z2 := hk.cell 2
  have z3 := hk.cell 3
  have z4 := hk.cell 4
  have z5 := hk.cell 5
  have z6 := hk.cell 6
  have z7 := hk.cell 7
  have z8 := hk.cell 8
  have z9 := hk.cell 9
  have z10 := hk.cell 10
  have z11 := hk.cell 11
  simp [Row.cells] at z0 z1 z2 z3 z4 z5 z6 z7 z8 z9 z10 z11
  refine bodyPost_ret (v := .tuple #[.agg r.cells.toArray, .bool true]) ?_ rfl hR
  simp [results, Try.results25, go_sem, h4, h5, z0, z1, z2, z3, z4, z5, z6, z7, z8, z9, z10, z11, Row.cells]

theorem item_fin {w w5 wf : World} {csA csB : Array Value} {it : It} {v4 v5 : Value} (kA5 : Bk w5 w.heap.size 51 csA) (kB5 : Bk w5 (w.heap.size + 1) 51 csB) (h4 : w5.ownsRow w.heap.size 60 7 v4 it.to.length (it.to.flatMap Rc.cells)) (h5 : w5.ownsRow w.heap.size 9 1 v5 it.lines.length (it.lines.map .string)) (bB : Below w.heap.size w w5)
    (hon : Only w5 wf (fun k => k = w.heap.size ∨ k = w.heap.size + 1)) : Own wf w.heap.size ⟨it, v4, v5⟩ ∧ Below w.heap.size w wf := by
  refine ⟨⟨own_only h4 hon ?_, own_only h5 hon ?_⟩, Only.belowOf bB hon (Nat.le_refl _) (fun k hk => by omega)⟩
  · rintro k hk (rfl | rfl)
    · exact own_ne h4 kA5 (by decide) hk
    · exact own_ne h4 kB5 (by decide) hk
  · rintro k hk (rfl | rfl)
    · exact own_ne h5 kA5 (by decide) hk
    · exact own_ne h5 kB5 (by decide) hk

set_option maxRecDepth 100000 in
set_option maxHeartbeats 1600000 in
theorem item_yes (w : World) (B g : Nat) (v : Value) (rows : List Row) (room tries wait : Int) (h : Qm w B g 66 v rows room tries wait) (i : Nat) (hs : Small (rows.map Row.it)) (hi : i < rows.length) (hln : rows[i].it.lines.length ≤ 100000) :
    Calls Try.prog 25 #[.pointer (some ⟨g, 0, none⟩), .int .i64 ((i : Int) + 1)] w fun e w' => ∃ tv lv, e = .returned (.tuple #[.agg (Row.cells ⟨rows[i].it, tv, lv⟩).toArray, .bool true]) ∧ Own w' w.heap.size ⟨rows[i].it, tv, lv⟩ ∧ Below w.heap.size w w' := by
  have hl : rows.length ≤ 1000 := by have := hs.1; simpa using this
  have c0 := h.blk.cell 0
  simp at c0
  obtain ⟨b, cap, he, hb, hlb⟩ := own_some h.row (by omega)
  subst he
  obtain ⟨d0, d1, d2, d3, d4, d5, d6, d7, d8, d9, d10, d11⟩ := it_cells h.row hi
  have hto := (h.own _ (List.getElem_mem hi)).1
  have hlv := (h.own _ (List.getElem_mem hi)).2
  have hsm := (hs.at_ (j := 0) hi).2.1
  have G := h.blk.lt
  have h2 : decide ((i : Int) + 1 < 1) = false := decide_eq_false (by omega)
  have h3 : decide ((rows.length : Int) < (i : Int) + 1) = false := decide_eq_false (by omega)
  generalize rows[i] = R at *
  obtain ⟨it, tv, lv⟩ := R
  dsimp only at hto hlv hsm hln d0 d1 d2 d3 d4 d5 d6 d7 d8 d9 d10 d11
  obtain ⟨A1, c1, rfl⟩ := own_any hto
  obtain ⟨A2, c2, rfl⟩ := own_any hlv
  have Hto := Lib.hid hto; have Hlv := Lib.hid hlv
  clear h hs hto hlv
  go_enter Try.func25, Try.ntmps25
  go_wp2_with fail
  have kA := (Bk.new w 51 #[.int .i64 0, .bool false, .string ⟨#[]⟩, .string ⟨#[]⟩, .slice none 0 0, .slice none 0 0, .bool false, .bool false, .bool false, .int .i64 0, .int .i64 0, .int .i64 0]).alloc (.cells (Row.cells ⟨it, .slice A1 it.to.length c1, .slice A2 it.lines.length c2⟩).toArray 51)
  have kB := Bk.new (w.alloc (.cells #[.int .i64 0, .bool false, .string ⟨#[]⟩, .string ⟨#[]⟩, .slice none 0 0, .slice none 0 0, .bool false, .bool false, .bool false, .int .i64 0, .int .i64 0, .int .i64 0] 51)) 51 (Row.cells ⟨it, .slice A1 it.to.length c1, .slice A2 it.lines.length c2⟩).toArray
  rw [World.size_alloc] at kB
  have bB := ((Below.refl w.heap.size w).alloc (Nat.le_refl _) (.cells #[.int .i64 0, .bool false, .string ⟨#[]⟩, .string ⟨#[]⟩, .slice none 0 0, .slice none 0 0, .bool false, .bool false, .bool false, .int .i64 0, .int .i64 0, .int .i64 0] 51)).alloc (by simp) (.cells (Row.cells ⟨it, .slice A1 it.to.length c1, .slice A2 it.lines.length c2⟩).toArray 51)
  refine wp_region_held_drew (S := fun _ : World => True) (by kernel_rfl) ?_ (fun hHeld => ?_)
  · exact trivial
  refine wpAnyH_take (i := 0) (oi := { dst := some 27, op := Op.fieldAddr 51 (Operand.tmp 6) 2, type := 0, pos := "queue.go:142", after := #[], guard := none }) (v := ?_) rfl (by kernel_rfl) (by kernel_rfl) (by kernel_rfl) (fun _ _ _ h => h) (Or.inl ⟨by rfl, ?_⟩) (by assumption) ?_
  rotate_left
  · intro wS hSw; (try dsimp only at hSw); go_simp; (try with_reducible rfl)
  try simp only [Act.put, List.setIfInBounds_toArray, List.set_cons_zero, List.set_cons_succ]
  refine wpAnyH_take (i := 3) (oi := { dst := some 30, op := Op.fieldAddr 51 (Operand.tmp 6) 3, type := 0, pos := "queue.go:142", after := #[], guard := none }) (v := ?_) rfl (by kernel_rfl) (by kernel_rfl) (by kernel_rfl) (fun _ _ _ h => h) (Or.inl ⟨by rfl, ?_⟩) (by assumption) ?_
  rotate_left
  · intro wS hSw; (try dsimp only at hSw); go_simp; (try with_reducible rfl)
  try simp only [Act.put, List.setIfInBounds_toArray, List.set_cons_zero, List.set_cons_succ]
  refine wpAnyH_ready (rs := [1, 4]) (by kernel_rfl) (by simp) ?_
  refine AllReadyH.cons (o := { dst := some 28, op := Op.load 49 (Operand.tmp 27), type := 49, pos := "queue.go:142", after := #[{ on := 0, ground := Ground.data }], guard := none }) rfl (fun K hK => ?_) (AllReadyH.cons (o := { dst := some 31, op := Op.load 34 (Operand.tmp 30), type := 34, pos := "queue.go:142", after := #[{ on := 3, ground := Ground.data }], guard := none }) rfl (fun K hK => ?_) (AllReadyH.nil))
  · go_simp
    try dsimp only
    refine hK.out _ _ ?_ (fun hHeld => ?_)
    · exact trivial
    clear hK K
    try simp only [Act.put, List.setIfInBounds_toArray, List.set_cons_zero, List.set_cons_succ]
    refine wpAnyH_ready (rs := [2, 4]) (by kernel_rfl) (by simp) ?_
    refine AllReadyH.cons (o := { dst := some 29, op := Op.call { callee := Callee.value (Operand.func 37), args := #[Operand.tmp 28], argTypes := #[49] }, type := 49, pos := "queue.go:142", after := #[{ on := 1, ground := Ground.data }], guard := none }) rfl (fun K hK => ?_) (AllReadyH.cons (o := { dst := some 31, op := Op.load 34 (Operand.tmp 30), type := 34, pos := "queue.go:142", after := #[{ on := 3, ground := Ground.data }], guard := none }) rfl (fun K hK => ?_) (AllReadyH.nil))
    · go_simp
      refine (clone_rc _ it.to B _ (own_drew (Hto.out.only2 bB)) (by omega)).mono ?_
      rintro e w4 ⟨tv', rfl, ho4, b4⟩
      have kB4 := Bk.below (bk_drew kB) b4 (by simp)
      have kA4 := Bk.below (bk_drew kA) b4 (by simp; omega)
      have hto4 := Hlv.out.only2 (bB.trans (Below.trans (Below.refl _ _).drew (b4.mono (by simp; omega))))
      replace bB := bB.trans (Below.trans (Below.refl _ _).drew (b4.mono (by simp; omega)))
      have e4 := kB4.cell 4
      have e5 := kB4.cell 5
      simp [Row.cells] at e4 e5
      try dsimp only
      refine hK.out _ _ ?_ (fun hHeld => ?_)
      · exact trivial
      clear hK K
      try simp only [Act.put, List.setIfInBounds_toArray, List.set_cons_zero, List.set_cons_succ]
      refine wpAnyH_ready (rs := [4]) (by kernel_rfl) (by simp) ?_
      refine AllReadyH.cons (o := { dst := some 31, op := Op.load 34 (Operand.tmp 30), type := 34, pos := "queue.go:142", after := #[{ on := 3, ground := Ground.data }], guard := none }) rfl (fun K hK => ?_) AllReadyH.nil
      go_simp
      try dsimp only
      refine hK.out _ _ ?_ (fun hHeld => ?_)
      · exact trivial
      clear hK K
      try simp only [Act.put, List.setIfInBounds_toArray, List.set_cons_zero, List.set_cons_succ]
      refine wpAnyH_take (i := 6) (oi := { dst := some 33, op := Op.fieldAddr 51 (Operand.tmp 6) 2, type := 0, pos := "queue.go:142", after := #[{ on := 0, ground := Ground.phase }, { on := 1, ground := Ground.phase }, { on := 2, ground := Ground.phase }, { on := 3, ground := Ground.phase }, { on := 4, ground := Ground.phase }, { on := 5, ground := Ground.textOnly Departure.lateStoresUnsure }], guard := none }) (v := ?_) rfl (by kernel_rfl) (by kernel_rfl) (by kernel_rfl) (fun _ _ _ h => h) (Or.inl ⟨by rfl, ?_⟩) (by assumption) ?_
      rotate_left
      · intro wS hSw; (try dsimp only at hSw); go_simp; (try with_reducible rfl)
      try simp only [Act.put, List.setIfInBounds_toArray, List.set_cons_zero, List.set_cons_succ]
      refine wpAnyH_ready (rs := [5]) (by kernel_rfl) (by simp) ?_
      refine AllReadyH.cons (o := { dst := some 32, op := Op.call { callee := Callee.value (Operand.func 31), args := #[Operand.tmp 31], argTypes := #[34] }, type := 34, pos := "queue.go:142", after := #[{ on := 4, ground := Ground.data }, { on := 2, ground := Ground.chain }], guard := none }) rfl (fun K hK => ?_) AllReadyH.nil
      go_simp
      refine (clone_str _ it.lines B _ hto4 (by omega)).mono ?_
      rintro e w5 ⟨lv', rfl, ho5, b5⟩
      have kB5 := Bk.below kB4 b5 kB4.lt
      have kA5 := Bk.below kA4 b5 kA4.lt
      have ho4' := (own_base ho4 (B := w.heap.size) (by simp; omega)).only2 b5
      have ho5' := own_base ho5 (B := w.heap.size) bB.size
      replace bB := bB.trans (b5.mono bB.size)
      clear hto4 ho4 ho5 b4 b5 kA kB kA4 kB4 e4 e5
      obtain ⟨A3, c3, rfl⟩ := own_any ho4'
      obtain ⟨A4, c4, rfl⟩ := own_any ho5'
      have e4 := kB5.cell 4
      have e5 := kB5.cell 5
      have g4 := kB5.frozen 4
      have g5 := kB5.frozen 5
      simp [Row.cells] at e4 e5
      try dsimp only
      refine hK.out _ _ ?_ (fun hHeld => ?_)
      · exact trivial
      clear hK K
      try simp only [Act.put, List.setIfInBounds_toArray, List.set_cons_zero, List.set_cons_succ]
      refine wpAnyH_ready (rs := [7]) (by kernel_rfl) (by simp) ?_
      refine AllReadyH.cons (o := { dst := none, op := Op.store 49 (Operand.tmp 33) (Operand.tmp 29), type := 0, pos := "queue.go:142", after := #[{ on := 6, ground := Ground.data }, { on := 2, ground := Ground.data }, { on := 5, ground := Ground.chain }, { on := 0, ground := Ground.phase }, { on := 1, ground := Ground.phase }, { on := 2, ground := Ground.phase }, { on := 3, ground := Ground.phase }, { on := 4, ground := Ground.phase }, { on := 5, ground := Ground.textOnly Departure.lateStoresUnsure }], guard := none }) rfl (fun K hK => ?_) AllReadyH.nil
      go_simp
      try dsimp only
      refine hK.out _ _ ?_ (fun hHeld => ?_)
      · exact trivial
      clear hK K
      try simp only [Act.put, List.setIfInBounds_toArray, List.set_cons_zero, List.set_cons_succ]
      refine wpAnyH_take (i := 8) (oi := { dst := some 34, op := Op.fieldAddr 51 (Operand.tmp 6) 3, type := 0, pos := "queue.go:142", after := #[{ on := 0, ground := Ground.phase }, { on := 1, ground := Ground.phase }, { on := 2, ground := Ground.phase }, { on := 3, ground := Ground.phase }, { on := 4, ground := Ground.phase }, { on := 5, ground := Ground.phase }, { on := 6, ground := Ground.phase }, { on := 7, ground := Ground.phase }], guard := none }) (v := ?_) rfl (by kernel_rfl) (by kernel_rfl) (by kernel_rfl) (fun _ _ _ h => h) (Or.inl ⟨by rfl, ?_⟩) (by assumption) ?_
      rotate_left
      · intro wS hSw; (try dsimp only at hSw); go_simp; (try with_reducible rfl)
      try simp only [Act.put, List.setIfInBounds_toArray, List.set_cons_zero, List.set_cons_succ]
      refine wpAnyH_ready (rs := [9]) (by kernel_rfl) (by simp) ?_
      refine AllReadyH.cons (o := { dst := none, op := Op.store 34 (Operand.tmp 34) (Operand.tmp 32), type := 0, pos := "queue.go:142", after := #[{ on := 8, ground := Ground.data }, { on := 5, ground := Ground.data }, { on := 7, ground := Ground.chain }, { on := 0, ground := Ground.phase }, { on := 1, ground := Ground.phase }, { on := 2, ground := Ground.phase }, { on := 3, ground := Ground.phase }, { on := 4, ground := Ground.phase }, { on := 5, ground := Ground.phase }, { on := 6, ground := Ground.phase }, { on := 7, ground := Ground.phase }], guard := none }) rfl (fun K hK => ?_) AllReadyH.nil
      go_simp
      try dsimp only
      refine hK.out _ _ ?_ (fun hHeld => ?_)
      · exact trivial
      clear hK K
      try simp only [Act.put, List.setIfInBounds_toArray, List.set_cons_zero, List.set_cons_succ]
      refine wpAnyH_done (by kernel_rfl) ?_ _
      have kBf := (kB5.set_ 4 (.slice A3 it.to.length c3)).set_ 5 (.slice A4 it.lines.length c4)
      have kAf := (kA5.far (p := ⟨w.heap.size + 1, 4, none⟩) (by simp) (.slice A3 it.to.length c3)).far (p := ⟨w.heap.size + 1, 5, none⟩) (by simp) (.slice A4 it.lines.length c4)
      simp [Row.cells] at kBf
      have q0 := kBf.cell 0
      have q1 := kBf.cell 1
      have q2 := kBf.cell 2
      have q3 := kBf.cell 3
      have q4 := kBf.cell 4
      have q5 := kBf.cell 5
      have q6 := kBf.cell 6
      have q7 := kBf.cell 7
      have q8 := kBf.cell 8
      have q9 := kBf.cell 9
      have q10 := kBf.cell 10
      have q11 := kBf.cell 11
      simp at q0 q1 q2 q3 q4 q5 q6 q7 q8 q9 q10 q11
      have z0 := kAf.cell 0
      have z1 := kAf.cell 1
      have z2 := kAf.cell 2
      have z3 := kAf.cell 3
      have z4 := kAf.cell 4
      have z5 := kAf.cell 5
      have z6 := kAf.cell 6
      have z7 := kAf.cell 7
      have z8 := kAf.cell 8
      have z9 := kAf.cell 9
      have z10 := kAf.cell 10
      have z11 := kAf.cell 11
      simp at z0 z1 z2 z3 z4 z5 z6 z7 z8 z9 z10 z11
      have y0 := kAf.frozen 0
      have y1 := kAf.frozen 1
      have y2 := kAf.frozen 2
      have y3 := kAf.frozen 3
      have y4 := kAf.frozen 4
      have y5 := kAf.frozen 5
      have y6 := kAf.frozen 6
      have y7 := kAf.frozen 7
      have y8 := kAf.frozen 8
      have y9 := kAf.frozen 9
      have y10 := kAf.frozen 10
      have y11 := kAf.frozen 11
      go_wp2_with fail
      have hk := (((((((((((kAf.set_ 0 (.int .i64 it.id)).set_ 1 (.bool it.frm.null)).set_ 2 (.string it.frm.loc)).set_ 3 (.string it.frm.dom)).set_ 4 (.slice A3 it.to.length c3)).set_ 5 (.slice A4 it.lines.length c4)).set_ 6 (.bool it.flags.head)).set_ 7 (.bool it.flags.body)).set_ 8 (.bool it.flags.bad)).set_ 9 (.int .i64 it.flags.lines)).set_ 10 (.int .i64 it.flags.hops)).set_ 11 (.int .i64 it.bytes)
      refine item_ret ⟨it, .slice A3 it.to.length c3, .slice A4 it.lines.length c4⟩ hk (by simp [Row.cells]) rfl rfl ⟨_, _, rfl, ?_⟩
      refine item_fin kA5 kB5 ho4' ho5' bB ?_
      iterate 14 (refine Only.setCell ?_ (by simp) _)
      exact Only.refl _ _
    · go_simp
      try dsimp only
      refine hK.out _ _ ?_ (fun hHeld => ?_)
      · exact trivial
      clear hK K
      try simp only [Act.put, List.setIfInBounds_toArray, List.set_cons_zero, List.set_cons_succ]
      refine wpAnyH_ready (rs := [2]) (by kernel_rfl) (by simp) ?_
      refine AllReadyH.cons (o := { dst := some 29, op := Op.call { callee := Callee.value (Operand.func 37), args := #[Operand.tmp 28], argTypes := #[49] }, type := 49, pos := "queue.go:142", after := #[{ on := 1, ground := Ground.data }], guard := none }) rfl (fun K hK => ?_) AllReadyH.nil
      go_simp
      refine (clone_rc _ it.to B _ (own_drew (Hto.out.only2 bB)) (by omega)).mono ?_
      rintro e w4 ⟨tv', rfl, ho4, b4⟩
      have kB4 := Bk.below (bk_drew kB) b4 (by simp)
      have kA4 := Bk.below (bk_drew kA) b4 (by simp; omega)
      have hto4 := Hlv.out.only2 (bB.trans (Below.trans (Below.refl _ _).drew (b4.mono (by simp; omega))))
      replace bB := bB.trans (Below.trans (Below.refl _ _).drew (b4.mono (by simp; omega)))
      have e4 := kB4.cell 4
      have e5 := kB4.cell 5
      simp [Row.cells] at e4 e5
      try dsimp only
      refine hK.out _ _ ?_ (fun hHeld => ?_)
      · exact trivial
      clear hK K
      try simp only [Act.put, List.setIfInBounds_toArray, List.set_cons_zero, List.set_cons_succ]
      refine wpAnyH_take (i := 6) (oi := { dst := some 33, op := Op.fieldAddr 51 (Operand.tmp 6) 2, type := 0, pos := "queue.go:142", after := #[{ on := 0, ground := Ground.phase }, { on := 1, ground := Ground.phase }, { on := 2, ground := Ground.phase }, { on := 3, ground := Ground.phase }, { on := 4, ground := Ground.phase }, { on := 5, ground := Ground.textOnly Departure.lateStoresUnsure }], guard := none }) (v := ?_) rfl (by kernel_rfl) (by kernel_rfl) (by kernel_rfl) (fun _ _ _ h => h) (Or.inl ⟨by rfl, ?_⟩) (by assumption) ?_
      rotate_left
      · intro wS hSw; (try dsimp only at hSw); go_simp; (try with_reducible rfl)
      try simp only [Act.put, List.setIfInBounds_toArray, List.set_cons_zero, List.set_cons_succ]
      refine wpAnyH_ready (rs := [5]) (by kernel_rfl) (by simp) ?_
      refine AllReadyH.cons (o := { dst := some 32, op := Op.call { callee := Callee.value (Operand.func 31), args := #[Operand.tmp 31], argTypes := #[34] }, type := 34, pos := "queue.go:142", after := #[{ on := 4, ground := Ground.data }, { on := 2, ground := Ground.chain }], guard := none }) rfl (fun K hK => ?_) AllReadyH.nil
      go_simp
      refine (clone_str _ it.lines B _ hto4 (by omega)).mono ?_
      rintro e w5 ⟨lv', rfl, ho5, b5⟩
      have kB5 := Bk.below kB4 b5 kB4.lt
      have kA5 := Bk.below kA4 b5 kA4.lt
      have ho4' := (own_base ho4 (B := w.heap.size) (by simp; omega)).only2 b5
      have ho5' := own_base ho5 (B := w.heap.size) bB.size
      replace bB := bB.trans (b5.mono bB.size)
      clear hto4 ho4 ho5 b4 b5 kA kB kA4 kB4 e4 e5
      obtain ⟨A3, c3, rfl⟩ := own_any ho4'
      obtain ⟨A4, c4, rfl⟩ := own_any ho5'
      have e4 := kB5.cell 4
      have e5 := kB5.cell 5
      have g4 := kB5.frozen 4
      have g5 := kB5.frozen 5
      simp [Row.cells] at e4 e5
      try dsimp only
      refine hK.out _ _ ?_ (fun hHeld => ?_)
      · exact trivial
      clear hK K
      try simp only [Act.put, List.setIfInBounds_toArray, List.set_cons_zero, List.set_cons_succ]
      refine wpAnyH_ready (rs := [7]) (by kernel_rfl) (by simp) ?_
      refine AllReadyH.cons (o := { dst := none, op := Op.store 49 (Operand.tmp 33) (Operand.tmp 29), type := 0, pos := "queue.go:142", after := #[{ on := 6, ground := Ground.data }, { on := 2, ground := Ground.data }, { on := 5, ground := Ground.chain }, { on := 0, ground := Ground.phase }, { on := 1, ground := Ground.phase }, { on := 2, ground := Ground.phase }, { on := 3, ground := Ground.phase }, { on := 4, ground := Ground.phase }, { on := 5, ground := Ground.textOnly Departure.lateStoresUnsure }], guard := none }) rfl (fun K hK => ?_) AllReadyH.nil
      go_simp
      try dsimp only
      refine hK.out _ _ ?_ (fun hHeld => ?_)
      · exact trivial
      clear hK K
      try simp only [Act.put, List.setIfInBounds_toArray, List.set_cons_zero, List.set_cons_succ]
      refine wpAnyH_take (i := 8) (oi := { dst := some 34, op := Op.fieldAddr 51 (Operand.tmp 6) 3, type := 0, pos := "queue.go:142", after := #[{ on := 0, ground := Ground.phase }, { on := 1, ground := Ground.phase }, { on := 2, ground := Ground.phase }, { on := 3, ground := Ground.phase }, { on := 4, ground := Ground.phase }, { on := 5, ground := Ground.phase }, { on := 6, ground := Ground.phase }, { on := 7, ground := Ground.phase }], guard := none }) (v := ?_) rfl (by kernel_rfl) (by kernel_rfl) (by kernel_rfl) (fun _ _ _ h => h) (Or.inl ⟨by rfl, ?_⟩) (by assumption) ?_
      rotate_left
      · intro wS hSw; (try dsimp only at hSw); go_simp; (try with_reducible rfl)
      try simp only [Act.put, List.setIfInBounds_toArray, List.set_cons_zero, List.set_cons_succ]
      refine wpAnyH_ready (rs := [9]) (by kernel_rfl) (by simp) ?_
      refine AllReadyH.cons (o := { dst := none, op := Op.store 34 (Operand.tmp 34) (Operand.tmp 32), type := 0, pos := "queue.go:142", after := #[{ on := 8, ground := Ground.data }, { on := 5, ground := Ground.data }, { on := 7, ground := Ground.chain }, { on := 0, ground := Ground.phase }, { on := 1, ground := Ground.phase }, { on := 2, ground := Ground.phase }, { on := 3, ground := Ground.phase }, { on := 4, ground := Ground.phase }, { on := 5, ground := Ground.phase }, { on := 6, ground := Ground.phase }, { on := 7, ground := Ground.phase }], guard := none }) rfl (fun K hK => ?_) AllReadyH.nil
      go_simp
      try dsimp only
      refine hK.out _ _ ?_ (fun hHeld => ?_)
      · exact trivial
      clear hK K
      try simp only [Act.put, List.setIfInBounds_toArray, List.set_cons_zero, List.set_cons_succ]
      refine wpAnyH_done (by kernel_rfl) ?_ _
      have kBf := (kB5.set_ 4 (.slice A3 it.to.length c3)).set_ 5 (.slice A4 it.lines.length c4)
      have kAf := (kA5.far (p := ⟨w.heap.size + 1, 4, none⟩) (by simp) (.slice A3 it.to.length c3)).far (p := ⟨w.heap.size + 1, 5, none⟩) (by simp) (.slice A4 it.lines.length c4)
      simp [Row.cells] at kBf
      have q0 := kBf.cell 0
      have q1 := kBf.cell 1
      have q2 := kBf.cell 2
      have q3 := kBf.cell 3
      have q4 := kBf.cell 4
      have q5 := kBf.cell 5
      have q6 := kBf.cell 6
      have q7 := kBf.cell 7
      have q8 := kBf.cell 8
      have q9 := kBf.cell 9
      have q10 := kBf.cell 10
      have q11 := kBf.cell 11
      simp at q0 q1 q2 q3 q4 q5 q6 q7 q8 q9 q10 q11
      have z0 := kAf.cell 0
      have z1 := kAf.cell 1
      have z2 := kAf.cell 2
      have z3 := kAf.cell 3
      have z4 := kAf.cell 4
      have z5 := kAf.cell 5
      have z6 := kAf.cell 6
      have z7 := kAf.cell 7
      have z8 := kAf.cell 8
      have z9 := kAf.cell 9
      have z10 := kAf.cell 10
      have z11 := kAf.cell 11
      simp at z0 z1 z2 z3 z4 z5 z6 z7 z8 z9 z10 z11
      have y0 := kAf.frozen 0
      have y1 := kAf.frozen 1
      have y2 := kAf.frozen 2
      have y3 := kAf.frozen 3
      have y4 := kAf.frozen 4
      have y5 := kAf.frozen 5
      have y6 := kAf.frozen 6
      have y7 := kAf.frozen 7
      have y8 := kAf.frozen 8
      have y9 := kAf.frozen 9
      have y10 := kAf.frozen 10
      have y11 := kAf.frozen 11
      go_wp2_with fail
      have hk := (((((((((((kAf.set_ 0 (.int .i64 it.id)).set_ 1 (.bool it.frm.null)).set_ 2 (.string it.frm.loc)).set_ 3 (.string it.frm.dom)).set_ 4 (.slice A3 it.to.length c3)).set_ 5 (.slice A4 it.lines.length c4)).set_ 6 (.bool it.flags.head)).set_ 7 (.bool it.flags.body)).set_ 8 (.bool it.flags.bad)).set_ 9 (.int .i64 it.flags.lines)).set_ 10 (.int .i64 it.flags.hops)).set_ 11 (.int .i64 it.bytes)
      refine item_ret ⟨it, .slice A3 it.to.length c3, .slice A4 it.lines.length c4⟩ hk (by simp [Row.cells]) rfl rfl ⟨_, _, rfl, ?_⟩
      refine item_fin kA5 kB5 ho4' ho5' bB ?_
      iterate 14 (refine Only.setCell ?_ (by simp) _)
      exact Only.refl _ _
  · go_simp
    try dsimp only
    refine hK.out _ _ ?_ (fun hHeld => ?_)
    · exact trivial
    clear hK K
    try simp only [Act.put, List.setIfInBounds_toArray, List.set_cons_zero, List.set_cons_succ]
    refine wpAnyH_ready (rs := [1]) (by kernel_rfl) (by simp) ?_
    refine AllReadyH.cons (o := { dst := some 28, op := Op.load 49 (Operand.tmp 27), type := 49, pos := "queue.go:142", after := #[{ on := 0, ground := Ground.data }], guard := none }) rfl (fun K hK => ?_) AllReadyH.nil
    go_simp
    try dsimp only
    refine hK.out _ _ ?_ (fun hHeld => ?_)
    · exact trivial
    clear hK K
    try simp only [Act.put, List.setIfInBounds_toArray, List.set_cons_zero, List.set_cons_succ]
    refine wpAnyH_ready (rs := [2]) (by kernel_rfl) (by simp) ?_
    refine AllReadyH.cons (o := { dst := some 29, op := Op.call { callee := Callee.value (Operand.func 37), args := #[Operand.tmp 28], argTypes := #[49] }, type := 49, pos := "queue.go:142", after := #[{ on := 1, ground := Ground.data }], guard := none }) rfl (fun K hK => ?_) AllReadyH.nil
    go_simp
    refine (clone_rc _ it.to B _ (own_drew (Hto.out.only2 bB)) (by omega)).mono ?_
    rintro e w4 ⟨tv', rfl, ho4, b4⟩
    have kB4 := Bk.below (bk_drew kB) b4 (by simp)
    have kA4 := Bk.below (bk_drew kA) b4 (by simp; omega)
    have hto4 := Hlv.out.only2 (bB.trans (Below.trans (Below.refl _ _).drew (b4.mono (by simp; omega))))
    replace bB := bB.trans (Below.trans (Below.refl _ _).drew (b4.mono (by simp; omega)))
    have e4 := kB4.cell 4
    have e5 := kB4.cell 5
    simp [Row.cells] at e4 e5
    try dsimp only
    refine hK.out _ _ ?_ (fun hHeld => ?_)
    · exact trivial
    clear hK K
    try simp only [Act.put, List.setIfInBounds_toArray, List.set_cons_zero, List.set_cons_succ]
    refine wpAnyH_take (i := 6) (oi := { dst := some 33, op := Op.fieldAddr 51 (Operand.tmp 6) 2, type := 0, pos := "queue.go:142", after := #[{ on := 0, ground := Ground.phase }, { on := 1, ground := Ground.phase }, { on := 2, ground := Ground.phase }, { on := 3, ground := Ground.phase }, { on := 4, ground := Ground.phase }, { on := 5, ground := Ground.textOnly Departure.lateStoresUnsure }], guard := none }) (v := ?_) rfl (by kernel_rfl) (by kernel_rfl) (by kernel_rfl) (fun _ _ _ h => h) (Or.inl ⟨by rfl, ?_⟩) (by assumption) ?_
    rotate_left
    · intro wS hSw; (try dsimp only at hSw); go_simp; (try with_reducible rfl)
    try simp only [Act.put, List.setIfInBounds_toArray, List.set_cons_zero, List.set_cons_succ]
    refine wpAnyH_ready (rs := [5]) (by kernel_rfl) (by simp) ?_
    refine AllReadyH.cons (o := { dst := some 32, op := Op.call { callee := Callee.value (Operand.func 31), args := #[Operand.tmp 31], argTypes := #[34] }, type := 34, pos := "queue.go:142", after := #[{ on := 4, ground := Ground.data }, { on := 2, ground := Ground.chain }], guard := none }) rfl (fun K hK => ?_) AllReadyH.nil
    go_simp
    refine (clone_str _ it.lines B _ hto4 (by omega)).mono ?_
    rintro e w5 ⟨lv', rfl, ho5, b5⟩
    have kB5 := Bk.below kB4 b5 kB4.lt
    have kA5 := Bk.below kA4 b5 kA4.lt
    have ho4' := (own_base ho4 (B := w.heap.size) (by simp; omega)).only2 b5
    have ho5' := own_base ho5 (B := w.heap.size) bB.size
    replace bB := bB.trans (b5.mono bB.size)
    clear hto4 ho4 ho5 b4 b5 kA kB kA4 kB4 e4 e5
    obtain ⟨A3, c3, rfl⟩ := own_any ho4'
    obtain ⟨A4, c4, rfl⟩ := own_any ho5'
    have e4 := kB5.cell 4
    have e5 := kB5.cell 5
    have g4 := kB5.frozen 4
    have g5 := kB5.frozen 5
    simp [Row.cells] at e4 e5
    try dsimp only
    refine hK.out _ _ ?_ (fun hHeld => ?_)
    · exact trivial
    clear hK K
    try simp only [Act.put, List.setIfInBounds_toArray, List.set_cons_zero, List.set_cons_succ]
    refine wpAnyH_ready (rs := [7]) (by kernel_rfl) (by simp) ?_
    refine AllReadyH.cons (o := { dst := none, op := Op.store 49 (Operand.tmp 33) (Operand.tmp 29), type := 0, pos := "queue.go:142", after := #[{ on := 6, ground := Ground.data }, { on := 2, ground := Ground.data }, { on := 5, ground := Ground.chain }, { on := 0, ground := Ground.phase }, { on := 1, ground := Ground.phase }, { on := 2, ground := Ground.phase }, { on := 3, ground := Ground.phase }, { on := 4, ground := Ground.phase }, { on := 5, ground := Ground.textOnly Departure.lateStoresUnsure }], guard := none }) rfl (fun K hK => ?_) AllReadyH.nil
    go_simp
    try dsimp only
    refine hK.out _ _ ?_ (fun hHeld => ?_)
    · exact trivial
    clear hK K
    try simp only [Act.put, List.setIfInBounds_toArray, List.set_cons_zero, List.set_cons_succ]
    refine wpAnyH_take (i := 8) (oi := { dst := some 34, op := Op.fieldAddr 51 (Operand.tmp 6) 3, type := 0, pos := "queue.go:142", after := #[{ on := 0, ground := Ground.phase }, { on := 1, ground := Ground.phase }, { on := 2, ground := Ground.phase }, { on := 3, ground := Ground.phase }, { on := 4, ground := Ground.phase }, { on := 5, ground := Ground.phase }, { on := 6, ground := Ground.phase }, { on := 7, ground := Ground.phase }], guard := none }) (v := ?_) rfl (by kernel_rfl) (by kernel_rfl) (by kernel_rfl) (fun _ _ _ h => h) (Or.inl ⟨by rfl, ?_⟩) (by assumption) ?_
    rotate_left
    · intro wS hSw; (try dsimp only at hSw); go_simp; (try with_reducible rfl)
    try simp only [Act.put, List.setIfInBounds_toArray, List.set_cons_zero, List.set_cons_succ]
    refine wpAnyH_ready (rs := [9]) (by kernel_rfl) (by simp) ?_
    refine AllReadyH.cons (o := { dst := none, op := Op.store 34 (Operand.tmp 34) (Operand.tmp 32), type := 0, pos := "queue.go:142", after := #[{ on := 8, ground := Ground.data }, { on := 5, ground := Ground.data }, { on := 7, ground := Ground.chain }, { on := 0, ground := Ground.phase }, { on := 1, ground := Ground.phase }, { on := 2, ground := Ground.phase }, { on := 3, ground := Ground.phase }, { on := 4, ground := Ground.phase }, { on := 5, ground := Ground.phase }, { on := 6, ground := Ground.phase }, { on := 7, ground := Ground.phase }], guard := none }) rfl (fun K hK => ?_) AllReadyH.nil
    go_simp
    try dsimp only
    refine hK.out _ _ ?_ (fun hHeld => ?_)
    · exact trivial
    clear hK K
    try simp only [Act.put, List.setIfInBounds_toArray, List.set_cons_zero, List.set_cons_succ]
    refine wpAnyH_done (by kernel_rfl) ?_ _
    have kBf := (kB5.set_ 4 (.slice A3 it.to.length c3)).set_ 5 (.slice A4 it.lines.length c4)
    have kAf := (kA5.far (p := ⟨w.heap.size + 1, 4, none⟩) (by simp) (.slice A3 it.to.length c3)).far (p := ⟨w.heap.size + 1, 5, none⟩) (by simp) (.slice A4 it.lines.length c4)
    simp [Row.cells] at kBf
    have q0 := kBf.cell 0
    have q1 := kBf.cell 1
    have q2 := kBf.cell 2
    have q3 := kBf.cell 3
    have q4 := kBf.cell 4
    have q5 := kBf.cell 5
    have q6 := kBf.cell 6
    have q7 := kBf.cell 7
    have q8 := kBf.cell 8
    have q9 := kBf.cell 9
    have q10 := kBf.cell 10
    have q11 := kBf.cell 11
    simp at q0 q1 q2 q3 q4 q5 q6 q7 q8 q9 q10 q11
    have z0 := kAf.cell 0
    have z1 := kAf.cell 1
    have z2 := kAf.cell 2
    have z3 := kAf.cell 3
    have z4 := kAf.cell 4
    have z5 := kAf.cell 5
    have z6 := kAf.cell 6
    have z7 := kAf.cell 7
    have z8 := kAf.cell 8
    have z9 := kAf.cell 9
    have z10 := kAf.cell 10
    have z11 := kAf.cell 11
    simp at z0 z1 z2 z3 z4 z5 z6 z7 z8 z9 z10 z11
    have y0 := kAf.frozen 0
    have y1 := kAf.frozen 1
    have y2 := kAf.frozen 2
    have y3 := kAf.frozen 3
    have y4 := kAf.frozen 4
    have y5 := kAf.frozen 5
    have y6 := kAf.frozen 6
    have y7 := kAf.frozen 7
    have y8 := kAf.frozen 8
    have y9 := kAf.frozen 9
    have y10 := kAf.frozen 10
    have y11 := kAf.frozen 11
    go_wp2_with fail
    have hk := (((((((((((kAf.set_ 0 (.int .i64 it.id)).set_ 1 (.bool it.frm.null)).set_ 2 (.string it.frm.loc)).set_ 3 (.string it.frm.dom)).set_ 4 (.slice A3 it.to.length c3)).set_ 5 (.slice A4 it.lines.length c4)).set_ 6 (.bool it.flags.head)).set_ 7 (.bool it.flags.body)).set_ 8 (.bool it.flags.bad)).set_ 9 (.int .i64 it.flags.lines)).set_ 10 (.int .i64 it.flags.hops)).set_ 11 (.int .i64 it.bytes)
    refine item_ret ⟨it, .slice A3 it.to.length c3, .slice A4 it.lines.length c4⟩ hk (by simp [Row.cells]) rfl rfl ⟨_, _, rfl, ?_⟩
    refine item_fin kA5 kB5 ho4' ho5' bB ?_
    iterate 14 (refine Only.setCell ?_ (by simp) _)
    exact Only.refl _ _
end Go.Proofs.Ytlbghgmeiajioaa
