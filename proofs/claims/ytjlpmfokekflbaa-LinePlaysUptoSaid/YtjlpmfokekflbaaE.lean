/- framed: a line that came. -/
import Derived.Test.YtjlpmfokekflbaaD
import Derived.Laws.Rows
namespace Go.Proofs.Ytjlpmfokekflbaa
open Go.RowKit
set_option linter.unusedVariables false
set_option linter.unusedSimpArgs false

theorem fr_ret {fn : Func} (h : fn.results = #[.cell 4 42]) {wf : World} {tmps : Array Value} {R : Ending → World → Prop} {x : Nat} {cs : Array Value} (hk : Bk wf x 42 cs) (hc : cs.size = 3) (h4 : tmps.getD 4 undef = .pointer (some ⟨x, 0, none⟩))
    (hR : R (.returned (.agg cs)) wf) : bodyPost Try.prog fn R .ret { tmps := tmps, defers := [] } wf :=
  bodyPost_ret (results_cell_row h tmps wf x 42 cs (0, 0) _ h4 hk Try.underlying42 (by rfl) (by rw [hc]; kernel_rfl)) rfl hR
set_option maxRecDepth 100000 in
set_option maxHeartbeats 4000000 in
theorem framed_any (g : Nat) (v : Value) (most : Int) (s : ByteArray) (w : World) (kg : Bk w g 46 #[v, .int .i64 most]) (hs : s.size < 4294967281) :
    Calls Try.prog 20 #[.pointer (some ⟨g, 0, none⟩), .string s] w fun e w' => e = .returned (.agg (Fr.cells (oneF most s.data.toList)).toArray) ∧ Below w.heap.size w w' := by
  have hS' : ∀ W, Below w.heap.size w W → (fun w' : World => w'.cell? ⟨g, 1, none⟩ = some (.int .i64 most)) W := fun W b => (b.cell (p := ⟨g, 1, none⟩) kg.lt).trans (kg.cell 1)
  have HS := Lib.hid hS'
  have K4 := Bk.new w 42 #[.string ⟨#[]⟩, .bool false, .bool false]
  have B1 := (Below.refl w.heap.size w).alloc (Nat.le_refl _) (.cells #[.string ⟨#[]⟩, .bool false, .bool false] 42)
  have X4 := Lib.hid (Nat.le_refl w.heap.size)
  clear hS' kg
  go_enter Try.func20, Try.ntmps20
  go_wp2_with fail
  generalize w.alloc (.cells #[.string ⟨#[]⟩, .bool false, .bool false] 42) = w1 at *
  generalize hx4 : w.heap.size = x4 at *
  have H4 := Lib.hid (Nat.le_of_eq hx4.symm)
  refine wp_region_held_drew (S := fun w' : World => w'.cell? ⟨g, 1, none⟩ = some (.int .i64 most)) (by kernel_rfl) ?_ (fun hHeld => ?_)
  · exact HS.out _ B1.drew
  refine wpAnyH_take (i := 0) (oi := { dst := some 6, op := Op.move (Operand.tmp 1), type := 9, pos := "line.go:37", after := #[], guard := none }) (v := ?_) rfl (by kernel_rfl) (by kernel_rfl) (by kernel_rfl) (fun _ _ _ h => h) (Or.inl ⟨by rfl, ?_⟩) (by assumption) ?_
  rotate_left
  · intro wS hSw; (try dsimp only at hSw); go_simp; (try with_reducible rfl)
  try simp only [Act.put, List.setIfInBounds_toArray, List.set_cons_zero, List.set_cons_succ]
  refine wpAnyH_take (i := 1) (oi := { dst := some 7, op := Op.call { callee := Callee.builtin Builtin.len, args := #[Operand.tmp 6], argTypes := #[9] }, type := 3, pos := "line.go:37", after := #[{ on := 0, ground := Ground.data }], guard := none }) (v := ?_) rfl (by kernel_rfl) (by kernel_rfl) (by kernel_rfl) (fun _ _ _ h => h) (Or.inl ⟨by rfl, ?_⟩) (by assumption) ?_
  rotate_left
  · intro wS hSw; (try dsimp only at hSw); go_simp; (try with_reducible rfl)
  try simp only [Act.put, List.setIfInBounds_toArray, List.set_cons_zero, List.set_cons_succ]
  refine wpAnyH_take (i := 2) (oi := { dst := some 8, op := Op.move (Operand.tmp 0), type := 26, pos := "line.go:37", after := #[], guard := none }) (v := ?_) rfl (by kernel_rfl) (by kernel_rfl) (by kernel_rfl) (fun _ _ _ h => h) (Or.inl ⟨by rfl, ?_⟩) (by assumption) ?_
  rotate_left
  · intro wS hSw; (try dsimp only at hSw); go_simp; (try with_reducible rfl)
  try simp only [Act.put, List.setIfInBounds_toArray, List.set_cons_zero, List.set_cons_succ]
  refine wpAnyH_take (i := 3) (oi := { dst := some 9, op := Op.nilCheck (Operand.tmp 8), type := 0, pos := "line.go:37", after := #[{ on := 2, ground := Ground.data }], guard := none }) (v := ?_) rfl (by kernel_rfl) (by kernel_rfl) (by kernel_rfl) (fun _ _ _ h => h) (Or.inl ⟨by rfl, ?_⟩) (by assumption) ?_
  rotate_left
  · intro wS hSw; (try dsimp only at hSw); go_simp; (try with_reducible rfl)
  try simp only [Act.put, List.setIfInBounds_toArray, List.set_cons_zero, List.set_cons_succ]
  refine wpAnyH_take (i := 4) (oi := { dst := some 10, op := Op.fieldAddr 46 (Operand.tmp 9) 1, type := 0, pos := "line.go:37", after := #[{ on := 3, ground := Ground.data }], guard := none }) (v := ?_) rfl (by kernel_rfl) (by kernel_rfl) (by kernel_rfl) (fun _ _ _ h => h) (Or.inl ⟨by rfl, ?_⟩) (by assumption) ?_
  rotate_left
  · intro wS hSw; (try dsimp only at hSw); go_simp; (try with_reducible rfl)
  try simp only [Act.put, List.setIfInBounds_toArray, List.set_cons_zero, List.set_cons_succ]
  refine wpAnyH_take (i := 5) (oi := { dst := some 11, op := Op.load 3 (Operand.tmp 10), type := 3, pos := "line.go:37", after := #[{ on := 4, ground := Ground.data }], guard := none }) (v := ?_) rfl (by kernel_rfl) (by kernel_rfl) (by kernel_rfl) (fun _ _ _ h => h) (Or.inl ⟨by rfl, ?_⟩) (by assumption) ?_
  rotate_left
  · intro wS hSw; (try dsimp only at hSw); go_simp; (try with_reducible rfl)
  try simp only [Act.put, List.setIfInBounds_toArray, List.set_cons_zero, List.set_cons_succ]
  refine wpAnyH_take (i := 6) (oi := { dst := some 12, op := Op.binOp BinOp.gtr 3 (Operand.tmp 7) (Operand.tmp 11) 3, type := 4, pos := "line.go:37", after := #[{ on := 1, ground := Ground.data }, { on := 5, ground := Ground.data }], guard := none }) (v := ?_) rfl (by kernel_rfl) (by kernel_rfl) (by kernel_rfl) (fun _ _ _ h => h) (Or.inl ⟨by rfl, ?_⟩) (by assumption) ?_
  rotate_left
  · intro wS hSw; (try dsimp only at hSw); go_simp; (try with_reducible rfl)
  try simp only [Act.put, List.setIfInBounds_toArray, List.set_cons_zero, List.set_cons_succ]
  refine wpAnyH_take (i := 7) (oi := { dst := some 13, op := Op.move (Operand.tmp 1), type := 9, pos := "line.go:37", after := #[], guard := none }) (v := ?_) rfl (by kernel_rfl) (by kernel_rfl) (by kernel_rfl) (fun _ _ _ h => h) (Or.inl ⟨by rfl, ?_⟩) (by assumption) ?_
  rotate_left
  · intro wS hSw; (try dsimp only at hSw); go_simp; (try with_reducible rfl)
  try simp only [Act.put, List.setIfInBounds_toArray, List.set_cons_zero, List.set_cons_succ]
  clear hHeld
  replace B1 := B1.drew
  replace K4 := bk_drew K4
  generalize (World.drew _ : World) = w2 at *
  refine wpAnyH_ready (rs := [8, 10]) (by kernel_rfl) (by simp) ?_
  refine AllReadyH.cons (o := { dst := some 14, op := Op.call { callee := Callee.value (Operand.func 25), args := #[Operand.tmp 13, Operand.const (Value.string { data := #[13, 10] })], argTypes := #[9, 9] }, type := 4, pos := "line.go:37", after := #[{ on := 7, ground := Ground.data }], guard := none }) rfl (fun K hK => ?_) (AllReadyH.cons (o := { dst := some 5, op := Op.alloc 42, type := 0, pos := "line.go:37", after := #[], guard := none }) rfl (fun K hK => ?_) (AllReadyH.nil))
  · go_simp
    refine (contains_any s hs _).mono ?_
    rintro e w4 ⟨rfl, b4⟩
    replace K4 := K4.below b4 K4.lt
    replace B1 := B1.trans (b4.mono (Nat.le_trans H4.out B1.size))
    clear b4
    try dsimp only
    refine hK.out _ _ ?_ (fun hHeld => ?_)
    · exact HS.out _ B1
    clear hK K
    try simp only [Act.put, List.setIfInBounds_toArray, List.set_cons_zero, List.set_cons_succ]
    refine wpAnyH_take (i := 9) (oi := { dst := some 15, op := Op.build 42 #[(1, Operand.tmp 12), (2, Operand.tmp 14)], type := 42, pos := "line.go:37", after := #[{ on := 6, ground := Ground.data }, { on := 8, ground := Ground.data }], guard := none }) (v := ?_) rfl (by kernel_rfl) (by kernel_rfl) (by kernel_rfl) (fun _ _ _ h => h) (Or.inl ⟨by rfl, ?_⟩) (by assumption) ?_
    rotate_left
    · intro wS hSw; (try dsimp only at hSw); go_simp; (try with_reducible rfl)
    try simp only [Act.put, List.setIfInBounds_toArray, List.set_cons_zero, List.set_cons_succ]
    have K5 := Bk.new w4 42 #[.string ⟨#[]⟩, .bool false, .bool false]
    have X5 := Lib.hid (Nat.le_trans H4.out B1.size)
    have X54 : Hid (x4 ≠ w4.heap.size) := Lib.hid (Nat.ne_of_lt K4.lt)
    have X45 : Hid (x4 ≠ w4.heap.size) := X54
    replace K4 := K4.alloc (.cells #[.string ⟨#[]⟩, .bool false, .bool false] 42)
    have B5 := B1.alloc (Nat.le_trans H4.out B1.size) (.cells #[.string ⟨#[]⟩, .bool false, .bool false] 42)
    refine wpAnyH_ready (rs := [10]) (by kernel_rfl) (by simp) ?_
    refine AllReadyH.cons (o := { dst := some 5, op := Op.alloc 42, type := 0, pos := "line.go:37", after := #[], guard := none }) rfl (fun K hK => ?_) AllReadyH.nil
    go_simp
    try dsimp only
    refine hK.out _ _ ?_ (fun hHeld => ?_)
    · exact HS.out _ B5
    clear hK K
    try simp only [Act.put, List.setIfInBounds_toArray, List.set_cons_zero, List.set_cons_succ]
    clear B1
    generalize hx5 : w4.heap.size = x5 at *
    generalize w4.alloc (.cells #[.string ⟨#[]⟩, .bool false, .bool false] 42) = w5 at *
    have z0 := K5.cell 0
    have z1 := K5.cell 1
    have z2 := K5.cell 2
    have y0 := K5.frozen 0
    have y1 := K5.frozen 1
    have y2 := K5.frozen 2
    simp at z0 z1 z2
    have X5' := X5.out
    have KF := ((K5.set_ 0 (.string ⟨#[]⟩)).set_ 1 (.bool (decide (most < (s.size : Int))))).set_ 2 (.bool (bareL s.data.toList))
    simp at KF
    have KG := ((K4.far (p := ⟨x5, 0, none⟩) X45.out (.string ⟨#[]⟩)).far (p := ⟨x5, 1, none⟩) X45.out (.bool (decide (most < (s.size : Int))))).far (p := ⟨x5, 2, none⟩) X45.out (.bool (bareL s.data.toList))
    have BF := ((B5.setCell (p := ⟨x5, 0, none⟩) X5' (.string ⟨#[]⟩)).setCell (p := ⟨x5, 1, none⟩) X5' (.bool (decide (most < (s.size : Int))))).setCell (p := ⟨x5, 2, none⟩) X5' (.bool (bareL s.data.toList))
    refine wpAnyH_ready (rs := [11]) (by kernel_rfl) (by simp) ?_
    refine AllReadyH.cons (o := { dst := none, op := Op.store 42 (Operand.tmp 5) (Operand.tmp 15), type := 0, pos := "line.go:37", after := #[{ on := 10, ground := Ground.data }, { on := 9, ground := Ground.data }, { on := 8, ground := Ground.chain }, { on := 0, ground := Ground.phase }, { on := 1, ground := Ground.phase }, { on := 2, ground := Ground.phase }, { on := 3, ground := Ground.phase }, { on := 4, ground := Ground.phase }, { on := 5, ground := Ground.phase }, { on := 6, ground := Ground.phase }, { on := 7, ground := Ground.phase }, { on := 8, ground := Ground.phase }, { on := 9, ground := Ground.phase }, { on := 10, ground := Ground.phase }], guard := none }) rfl (fun K hK => ?_) AllReadyH.nil
    go_simp
    try dsimp only
    refine hK.out _ _ ?_ (fun hHeld => ?_)
    · exact HS.out _ BF
    clear hK K
    try simp only [Act.put, List.setIfInBounds_toArray, List.set_cons_zero, List.set_cons_succ]
    refine wpAnyH_done (by kernel_rfl) ?_ _
    clear HS hHeld K5 K4 B5 z0 z1 z2 y0 y1 y2
    generalize ((World.setCell _ _ _ : World).setCell _ _).setCell _ _ = w6 at *
    have z0 := KF.cell 0
    have z1 := KF.cell 1
    have z2 := KF.cell 2
    have y0 := KF.frozen 0
    have p0 := KG.cell 0
    have p1 := KG.cell 1
    have p2 := KG.cell 2
    have q0 := KG.frozen 0
    have q1 := KG.frozen 1
    have q2 := KG.frozen 2
    simp at z0 z1 z2 p0 p1 p2
    have n45 := X45.out
    have n54 := X54.out
    have l4 := X4.out
    have BL : x4 ≤ x5 := X5.out
    have HKG := Lib.hid KG; have HBF := Lib.hid BF
    clear KG KF BF
    cases hb : bareL s.data.toList <;> cases hm : decide (most < (s.size : Int))
    · rw [hb] at z2
      rw [hm] at z1
      go_wp2_with fail
      have kf := ((((HKG.out.far (p := ⟨x5, 0, none⟩) n45 (.string s)).set_ 0 (.string s)).set_ 1 (.bool false)).set_ 2 (.bool false))
      have bf := ((((HBF.out.setCell (p := ⟨x5, 0, none⟩) BL (.string s)).setCell (p := ⟨x4, 0, none⟩) (Nat.le_refl _) (.string s)).setCell (p := ⟨x4, 1, none⟩) (Nat.le_refl _) (.bool false)).setCell (p := ⟨x4, 2, none⟩) (Nat.le_refl _) (.bool false))
      refine fr_ret rfl kf rfl rfl ⟨?_, hx4 ▸ bf⟩
      simp [oneF, Fr.cells, ← Lib.size_eq, hb, hm]
    · rw [hb] at z2
      rw [hm] at z1
      go_wp2_with fail
      have kf := (((HKG.out.set_ 0 (.string ⟨#[]⟩)).set_ 1 (.bool true)).set_ 2 (.bool false))
      have bf := (((HBF.out.setCell (p := ⟨x4, 0, none⟩) (Nat.le_refl _) (.string ⟨#[]⟩)).setCell (p := ⟨x4, 1, none⟩) (Nat.le_refl _) (.bool true)).setCell (p := ⟨x4, 2, none⟩) (Nat.le_refl _) (.bool false))
      refine fr_ret rfl kf rfl rfl ⟨?_, hx4 ▸ bf⟩
      simp [oneF, Fr.cells, ← Lib.size_eq, hb, hm]
    · rw [hb] at z2
      rw [hm] at z1
      go_wp2_with fail
      have kf := (((HKG.out.set_ 0 (.string ⟨#[]⟩)).set_ 1 (.bool false)).set_ 2 (.bool true))
      have bf := (((HBF.out.setCell (p := ⟨x4, 0, none⟩) (Nat.le_refl _) (.string ⟨#[]⟩)).setCell (p := ⟨x4, 1, none⟩) (Nat.le_refl _) (.bool false)).setCell (p := ⟨x4, 2, none⟩) (Nat.le_refl _) (.bool true))
      refine fr_ret rfl kf rfl rfl ⟨?_, hx4 ▸ bf⟩
      simp [oneF, Fr.cells, ← Lib.size_eq, hb, hm]
    · rw [hb] at z2
      rw [hm] at z1
      go_wp2_with fail
      have kf := (((HKG.out.set_ 0 (.string ⟨#[]⟩)).set_ 1 (.bool true)).set_ 2 (.bool true))
      have bf := (((HBF.out.setCell (p := ⟨x4, 0, none⟩) (Nat.le_refl _) (.string ⟨#[]⟩)).setCell (p := ⟨x4, 1, none⟩) (Nat.le_refl _) (.bool true)).setCell (p := ⟨x4, 2, none⟩) (Nat.le_refl _) (.bool true))
      refine fr_ret rfl kf rfl rfl ⟨?_, hx4 ▸ bf⟩
      simp [oneF, Fr.cells, ← Lib.size_eq, hb, hm]
  · go_simp
    have K5 := Bk.new w2 42 #[.string ⟨#[]⟩, .bool false, .bool false]
    have X5 := Lib.hid (Nat.le_trans H4.out B1.size)
    have X54 : Hid (x4 ≠ w2.heap.size) := Lib.hid (Nat.ne_of_lt K4.lt)
    have X45 : Hid (x4 ≠ w2.heap.size) := X54
    replace K4 := K4.alloc (.cells #[.string ⟨#[]⟩, .bool false, .bool false] 42)
    replace B1 := B1.alloc (Nat.le_trans H4.out B1.size) (.cells #[.string ⟨#[]⟩, .bool false, .bool false] 42)
    try dsimp only
    refine hK.out _ _ ?_ (fun hHeld => ?_)
    · exact HS.out _ B1
    clear hK K
    try simp only [Act.put, List.setIfInBounds_toArray, List.set_cons_zero, List.set_cons_succ]
    generalize hx5 : w2.heap.size = x5 at *
    generalize w2.alloc (.cells #[.string ⟨#[]⟩, .bool false, .bool false] 42) = w3 at *
    refine wpAnyH_ready (rs := [8]) (by kernel_rfl) (by simp) ?_
    refine AllReadyH.cons (o := { dst := some 14, op := Op.call { callee := Callee.value (Operand.func 25), args := #[Operand.tmp 13, Operand.const (Value.string { data := #[13, 10] })], argTypes := #[9, 9] }, type := 4, pos := "line.go:37", after := #[{ on := 7, ground := Ground.data }], guard := none }) rfl (fun K hK => ?_) AllReadyH.nil
    go_simp
    refine (contains_any s hs _).mono ?_
    rintro e w5 ⟨rfl, b4⟩
    replace K4 := K4.below b4 K4.lt
    replace K5 := K5.below b4 K5.lt
    have B5 := B1.trans (b4.mono (Nat.le_trans H4.out B1.size))
    clear b4
    try dsimp only
    refine hK.out _ _ ?_ (fun hHeld => ?_)
    · exact HS.out _ B5
    clear hK K
    try simp only [Act.put, List.setIfInBounds_toArray, List.set_cons_zero, List.set_cons_succ]
    refine wpAnyH_take (i := 9) (oi := { dst := some 15, op := Op.build 42 #[(1, Operand.tmp 12), (2, Operand.tmp 14)], type := 42, pos := "line.go:37", after := #[{ on := 6, ground := Ground.data }, { on := 8, ground := Ground.data }], guard := none }) (v := ?_) rfl (by kernel_rfl) (by kernel_rfl) (by kernel_rfl) (fun _ _ _ h => h) (Or.inl ⟨by rfl, ?_⟩) (by assumption) ?_
    rotate_left
    · intro wS hSw; (try dsimp only at hSw); go_simp; (try with_reducible rfl)
    try simp only [Act.put, List.setIfInBounds_toArray, List.set_cons_zero, List.set_cons_succ]
    clear B1
    have z0 := K5.cell 0
    have z1 := K5.cell 1
    have z2 := K5.cell 2
    have y0 := K5.frozen 0
    have y1 := K5.frozen 1
    have y2 := K5.frozen 2
    simp at z0 z1 z2
    have X5' := X5.out
    have KF := ((K5.set_ 0 (.string ⟨#[]⟩)).set_ 1 (.bool (decide (most < (s.size : Int))))).set_ 2 (.bool (bareL s.data.toList))
    simp at KF
    have KG := ((K4.far (p := ⟨x5, 0, none⟩) X45.out (.string ⟨#[]⟩)).far (p := ⟨x5, 1, none⟩) X45.out (.bool (decide (most < (s.size : Int))))).far (p := ⟨x5, 2, none⟩) X45.out (.bool (bareL s.data.toList))
    have BF := ((B5.setCell (p := ⟨x5, 0, none⟩) X5' (.string ⟨#[]⟩)).setCell (p := ⟨x5, 1, none⟩) X5' (.bool (decide (most < (s.size : Int))))).setCell (p := ⟨x5, 2, none⟩) X5' (.bool (bareL s.data.toList))
    refine wpAnyH_ready (rs := [11]) (by kernel_rfl) (by simp) ?_
    refine AllReadyH.cons (o := { dst := none, op := Op.store 42 (Operand.tmp 5) (Operand.tmp 15), type := 0, pos := "line.go:37", after := #[{ on := 10, ground := Ground.data }, { on := 9, ground := Ground.data }, { on := 8, ground := Ground.chain }, { on := 0, ground := Ground.phase }, { on := 1, ground := Ground.phase }, { on := 2, ground := Ground.phase }, { on := 3, ground := Ground.phase }, { on := 4, ground := Ground.phase }, { on := 5, ground := Ground.phase }, { on := 6, ground := Ground.phase }, { on := 7, ground := Ground.phase }, { on := 8, ground := Ground.phase }, { on := 9, ground := Ground.phase }, { on := 10, ground := Ground.phase }], guard := none }) rfl (fun K hK => ?_) AllReadyH.nil
    go_simp
    try dsimp only
    refine hK.out _ _ ?_ (fun hHeld => ?_)
    · exact HS.out _ BF
    clear hK K
    try simp only [Act.put, List.setIfInBounds_toArray, List.set_cons_zero, List.set_cons_succ]
    refine wpAnyH_done (by kernel_rfl) ?_ _
    clear HS hHeld K5 K4 B5 z0 z1 z2 y0 y1 y2
    generalize ((World.setCell _ _ _ : World).setCell _ _).setCell _ _ = w6 at *
    have z0 := KF.cell 0
    have z1 := KF.cell 1
    have z2 := KF.cell 2
    have y0 := KF.frozen 0
    have p0 := KG.cell 0
    have p1 := KG.cell 1
    have p2 := KG.cell 2
    have q0 := KG.frozen 0
    have q1 := KG.frozen 1
    have q2 := KG.frozen 2
    simp at z0 z1 z2 p0 p1 p2
    have n45 := X45.out
    have n54 := X54.out
    have l4 := X4.out
    have BL : x4 ≤ x5 := X5.out
    have HKG := Lib.hid KG; have HBF := Lib.hid BF
    clear KG KF BF
    cases hb : bareL s.data.toList <;> cases hm : decide (most < (s.size : Int))
    · rw [hb] at z2
      rw [hm] at z1
      go_wp2_with fail
      have kf := ((((HKG.out.far (p := ⟨x5, 0, none⟩) n45 (.string s)).set_ 0 (.string s)).set_ 1 (.bool false)).set_ 2 (.bool false))
      have bf := ((((HBF.out.setCell (p := ⟨x5, 0, none⟩) BL (.string s)).setCell (p := ⟨x4, 0, none⟩) (Nat.le_refl _) (.string s)).setCell (p := ⟨x4, 1, none⟩) (Nat.le_refl _) (.bool false)).setCell (p := ⟨x4, 2, none⟩) (Nat.le_refl _) (.bool false))
      refine fr_ret rfl kf rfl rfl ⟨?_, hx4 ▸ bf⟩
      simp [oneF, Fr.cells, ← Lib.size_eq, hb, hm]
    · rw [hb] at z2
      rw [hm] at z1
      go_wp2_with fail
      have kf := (((HKG.out.set_ 0 (.string ⟨#[]⟩)).set_ 1 (.bool true)).set_ 2 (.bool false))
      have bf := (((HBF.out.setCell (p := ⟨x4, 0, none⟩) (Nat.le_refl _) (.string ⟨#[]⟩)).setCell (p := ⟨x4, 1, none⟩) (Nat.le_refl _) (.bool true)).setCell (p := ⟨x4, 2, none⟩) (Nat.le_refl _) (.bool false))
      refine fr_ret rfl kf rfl rfl ⟨?_, hx4 ▸ bf⟩
      simp [oneF, Fr.cells, ← Lib.size_eq, hb, hm]
    · rw [hb] at z2
      rw [hm] at z1
      go_wp2_with fail
      have kf := (((HKG.out.set_ 0 (.string ⟨#[]⟩)).set_ 1 (.bool false)).set_ 2 (.bool true))
      have bf := (((HBF.out.setCell (p := ⟨x4, 0, none⟩) (Nat.le_refl _) (.string ⟨#[]⟩)).setCell (p := ⟨x4, 1, none⟩) (Nat.le_refl _) (.bool false)).setCell (p := ⟨x4, 2, none⟩) (Nat.le_refl _) (.bool true))
      refine fr_ret rfl kf rfl rfl ⟨?_, hx4 ▸ bf⟩
      simp [oneF, Fr.cells, ← Lib.size_eq, hb, hm]
    · rw [hb] at z2
      rw [hm] at z1
      go_wp2_with fail
      have kf := (((HKG.out.set_ 0 (.string ⟨#[]⟩)).set_ 1 (.bool true)).set_ 2 (.bool true))
      have bf := (((HBF.out.setCell (p := ⟨x4, 0, none⟩) (Nat.le_refl _) (.string ⟨#[]⟩)).setCell (p := ⟨x4, 1, none⟩) (Nat.le_refl _) (.bool true)).setCell (p := ⟨x4, 2, none⟩) (Nat.le_refl _) (.bool true))
      refine fr_ret rfl kf rfl rfl ⟨?_, hx4 ▸ bf⟩
      simp [oneF, Fr.cells, ← Lib.size_eq, hb, hm]
end Go.Proofs.Ytjlpmfokekflbaa
