/- append of whatever slice of rows, nil or not; the reference's Copy. -/
import Derived.Test.YtlbghgmeiajioaaRc
import Derived.Deep.Upon
import Derived.Maps.AppendAt
import Derived.Deep.Cut
import Derived.Test.YtlbghgmeiajioaaWm
namespace Go.Proofs.Ytlbghgmeiajioaa
open Go.RowKit
set_option linter.unusedVariables false

theorem run_app (t ty e : TypeId) (i : TypeInfo) (z : Value) (size bytes : Nat) (ht : Try.prog.underlying t = some (.slice e)) (hi : Try.prog.info? e = some i) (hz : i.zero = some z) (hsize : i.size = size) (hby : i.bytes = bytes) (hzs : z.cells.size = size) (hsz : 0 < size)
    (w : World) (base B : Nat) (v : Value) (n : Nat) (xs : List Value) (hown : w.ownsRow base e size v n xs) (A : Option Addr) (m c : Nat) (cells : List Value) (hr : Rd w B A cells) (hl : cells.length = m * size) (h1 : ∀ u ∈ cells, u.oneCell' = true)
    (h63 : n + m ≤ maxLen) (hbytes : (n + m) * bytes ≤ 140737488355328) (hbase : base ≤ w.heap.size) :
    ∃ v' w', (Builtin.append_ #[t, t] ty #[v, .slice A m c]).run Try.prog w = .ok v' w' ∧ w'.ownsRow base e size v' (n + m) (xs ++ cells) ∧ w.grownBy w' v.ownBlock ∧ (v'.ownBlock = v.ownBlock ∨ v'.ownBlock = some w.heap.size) := by
  cases A with
  | none =>
    have hc : cells = [] := by
      rcases hr with h | ⟨b, o, h, _⟩
      · exact h
      · cases h
    subst hc
    have hm : m = 0 := by
      rcases Nat.eq_zero_or_pos m with h | h
      · exact h
      · have := Nat.mul_pos h hsz
        simp at hl; omega
    subst hm
    obtain ⟨A', c', rfl⟩ := own_any hown
    refine ⟨_, w, run_append_nothing w t t ty e i ht hi A' n c' ?_ _ (Src.ofNil w ht c), by simpa using hown, ⟨rfl, rfl, rfl, Nat.le_refl _, fun _ _ _ => rfl⟩, .inl rfl⟩
    rcases hown.2 with ⟨h, h0⟩ | ⟨g', cap', cur', h, _, _, hnc, hcm, _⟩
    · omega
    · simp only [Value.slice.injEq] at h
      omega
  | some p =>
    obtain ⟨v', w', h2, h3, h4, _, h5⟩ := run_append_own_at (P := Try.prog) w base t ty e i z size bytes ht hi hz hsize hby hzs hsz v n xs hown p m c cells hl (by
      intro j u hj
      rcases hr with h | ⟨b, o, h, hb, hc⟩
      · rw [h] at hj; simp at hj
      · cases h
        rw [show (⟨b, o, none⟩ : Addr).add j = ⟨b, o + j, none⟩ by unfold Addr.add; split <;> simp_all]
        exact hc j u hj) h1 h63 hbytes hbase
    exact ⟨v', w', h2, h3, h4, h5⟩
theorem wp_app {o : Oper} {a : Act} {K : Act → World → Prop} {Q : Exit → Act → World → Prop} (s x : Operand) (t : TypeId) (ho : o.op = .call { callee := .builtin .append, args := #[s, x], argTypes := #[t, t] })
    (e : TypeId) (i : TypeInfo) (z : Value) (size bytes : Nat) (ht : Try.prog.underlying t = some (.slice e)) (hi : Try.prog.info? e = some i) (hz : i.zero = some z) (hsize : i.size = size) (hby : i.bytes = bytes) (hzs : z.cells.size = size) (hsz : 0 < size)
    (w : World) (base B : Nat) (v : Value) (n : Nat) (xs : List Value) (hs : a.eval s = v) (hown : w.ownsRow base e size v n xs) (A : Option Addr) (m c : Nat) (cells : List Value) (hx : a.eval x = .slice A m c) (hr : Rd w B A cells) (hl : cells.length = m * size) (h1 : ∀ u ∈ cells, u.oneCell' = true)
    (h63 : n + m ≤ maxLen) (hbytes : (n + m) * bytes ≤ 140737488355328) (hbase : base ≤ w.heap.size)
    (h : ∀ v' w', w'.ownsRow base e size v' (n + m) (xs ++ cells) → w.grownBy w' v.ownBlock → (v'.ownBlock = v.ownBlock ∨ v'.ownBlock = some w.heap.size) → K (a.put o.dst v') w') : Oper.wp Try.prog o a w K Q := by
  obtain ⟨v', w', hrun, h2, h3, h4⟩ := run_app t o.type e i z size bytes ht hi hz hsize hby hzs hsz w base B v n xs hown A m c cells hr hl h1 h63 hbytes hbase
  unfold Oper.wp
  simp [execOp, ho, resolve, invoke, builtin, hs, hx, hrun, Result.andThen]
  exact h v' w' h2 h3 h4
theorem wpList_app {ops : Array Oper} {rest : List Oper} {o : Oper} {a : Act} {Q : Exit → Act → World → Prop} (hgd : o.guard = none) (s x : Operand) (t : TypeId) (ho : o.op = .call { callee := .builtin .append, args := #[s, x], argTypes := #[t, t] })
    (e : TypeId) (i : TypeInfo) (z : Value) (size bytes : Nat) (ht : Try.prog.underlying t = some (.slice e)) (hi : Try.prog.info? e = some i) (hz : i.zero = some z) (hsize : i.size = size) (hby : i.bytes = bytes) (hzs : z.cells.size = size) (hsz : 0 < size)
    (w : World) (base B : Nat) (v : Value) (n : Nat) (xs : List Value) (hs : a.eval s = v) (hown : w.ownsRow base e size v n xs) (A : Option Addr) (m c : Nat) (cells : List Value) (hx : a.eval x = .slice A m c) (hr : Rd w B A cells) (hl : cells.length = m * size) (h1 : ∀ u ∈ cells, u.oneCell' = true)
    (h63 : n + m ≤ maxLen) (hbytes : (n + m) * bytes ≤ 140737488355328) (hbase : base ≤ w.heap.size)
    (h : ∀ v' w', w'.ownsRow base e size v' (n + m) (xs ++ cells) → w.grownBy w' v.ownBlock → (v'.ownBlock = v.ownBlock ∨ v'.ownBlock = some w.heap.size) → wpList Try.prog ops Q rest (a.put o.dst v') w') : wpList Try.prog ops Q (o :: rest) a w :=
  wpList_plain hgd fun _ hK => wp_app s x t ho e i z size bytes ht hi hz hsize hby hzs hsz w base B v n xs hs hown A m c cells hx hr hl h1 h63 hbytes hbase fun v' w' h2 h3 h4 => hK _ _ (h v' w' h2 h3 h4)
/-- The three uses: recipients, strings, paths; onto an empty row. -/
theorem app_rcs {ops : Array Oper} {rest : List Oper} {o : Oper} {a : Act} {w : World} {Q : Exit → Act → World → Prop} (s x : Operand) (hgd : o.guard = none) (ho : o.op = .call { callee := .builtin .append, args := #[s, x], argTypes := #[49, 49] })
    (base B : Nat) (v : Value) (hs : a.eval s = v) (hown : w.ownsRow base 60 7 v 0 []) (A : Option Addr) (c : Nat) (l : List Rc) (hx : a.eval x = .slice A l.length c) (hr : Rd w B A (l.flatMap Rc.cells)) (hn : l.length ≤ 100000) (hbase : base ≤ w.heap.size)
    (h : ∀ v' w', w'.ownsRow base 60 7 v' l.length (l.flatMap Rc.cells) → w.grownBy w' v.ownBlock → (v'.ownBlock = v.ownBlock ∨ v'.ownBlock = some w.heap.size) → wpList Try.prog ops Q rest (a.put o.dst v') w') : wpList Try.prog ops Q (o :: rest) a w := by
  obtain ⟨i0, hi, hz0, hz1, hz2⟩ := info_parts info60
  exact wpList_app hgd s x 49 ho 60 i0 zeroRc 7 72 Try.underlying49 hi hz0 hz1 hz2 rfl (by decide) w base B v 0 [] hs hown A l.length c _ hx hr (flat_len Rc.len l) (rc_one l) (by unfold maxLen; omega) (by omega) hbase (fun v' w' h2 h3 h4 => h v' w' (by simpa using h2) h3 h4)
theorem app_strs {ops : Array Oper} {rest : List Oper} {o : Oper} {a : Act} {w : World} {Q : Exit → Act → World → Prop} (s x : Operand) (hgd : o.guard = none) (ho : o.op = .call { callee := .builtin .append, args := #[s, x], argTypes := #[34, 34] })
    (base B : Nat) (v : Value) (hs : a.eval s = v) (hown : w.ownsRow base 9 1 v 0 []) (A : Option Addr) (c : Nat) (l : List ByteArray) (hx : a.eval x = .slice A l.length c) (hr : Rd w B A (l.map .string)) (hn : l.length ≤ 100000) (hbase : base ≤ w.heap.size)
    (h : ∀ v' w', w'.ownsRow base 9 1 v' l.length (l.map .string) → w.grownBy w' v.ownBlock → (v'.ownBlock = v.ownBlock ∨ v'.ownBlock = some w.heap.size) → wpList Try.prog ops Q rest (a.put o.dst v') w') : wpList Try.prog ops Q (o :: rest) a w := by
  obtain ⟨i0, hi, hz0, hz1, hz2⟩ := info_parts info9
  exact wpList_app hgd s x 34 ho 9 i0 (.string ⟨#[]⟩) 1 16 Try.underlying34 hi hz0 hz1 hz2 rfl (by decide) w base B v 0 [] hs hown A l.length c _ hx hr (by simp) (str_one l) (by unfold maxLen; omega) (by omega) hbase (fun v' w' h2 h3 h4 => h v' w' (by simpa using h2) h3 h4)
set_option maxHeartbeats 800000 in
theorem copy_ret {wf : World} {tmps : Array Value} {R : Ending → World → Prop} {n0 : Nat} {cs : Array Value} (r : Row) (hk : Bk wf n0 51 cs) (hc : cs = r.cells.toArray) (h2 : tmps[2]? = some (.pointer (some ⟨n0, 0, none⟩)))
    (hR : R (.returned (.agg r.cells.toArray)) wf) : bodyPost Try.prog Try.f32 R .ret { tmps := tmps, defers := [] } wf := by
  subst hc
  have z0 := hk.cell 0
  have z1 := hk.cell 1
  have z2 := hk.cell 2
  have z3 := hk.cell 3
  have z4 := hk.cell 4
  have z5 := hk.cell 5
  have z6 := hk.cell 6
  have z7 := hk.cell 7
  have z8 := hk.cell 8
  have z9 := hk.cell 9
  have z10 := hk.cell 10
  have z11 := hk.cell 11
  simp [Row.cells] at z0 z1 z2 z3 z4 z5 z6 z7 z8 z9 z10 z11
  refine bodyPost_ret (v := .agg r.cells.toArray) ?_ rfl hR
  simp [results, Try.results32, go_sem, h2, z0, z1, z2, z3, z4, z5, z6, z7, z8, z9, z10, z11, Row.cells]
set_option maxRecDepth 100000 in
set_option maxHeartbeats 1600000 in
theorem copy_any (w : World) (B : Nat) (it : It) (A1 A2 : Option Addr) (c1 c2 : Nat) (h1 : Rd w w.heap.size A1 (it.to.flatMap Rc.cells)) (h2 : Rd w w.heap.size A2 (it.lines.map .string)) (hn1 : it.to.length ≤ 1000) (hn2 : it.lines.length ≤ 1000) :
    Calls Try.prog 32 #[.agg (Row.cells ⟨it, .slice A1 it.to.length c1, .slice A2 it.lines.length c2⟩).toArray] w fun e w' => ∃ tv lv, e = .returned (.agg (Row.cells ⟨it, tv, lv⟩).toArray) ∧ Own w' w.heap.size ⟨it, tv, lv⟩ ∧ Below w.heap.size w w' := by
  have H1 := Lib.hid h1; have H2 := Lib.hid h2
  clear h1 h2
  simp only [Row.cells]
  go_enter Try.func32, Try.ntmps32
  go_upto_region 1 with fail
  obtain ⟨W2, hW2⟩ : ∃ W2, (w.alloc (.cells #[.int .i64 it.id, .bool it.frm.null, .string it.frm.loc, .string it.frm.dom, .slice A1 it.to.length c1, .slice A2 it.lines.length c2, .bool it.flags.head, .bool it.flags.body, .bool it.flags.bad, .int .i64 it.flags.lines, .int .i64 it.flags.hops, .int .i64 it.bytes] 51)).alloc (.cells #[.int .i64 0, .bool false, .string ⟨#[]⟩, .string ⟨#[]⟩, .slice none 0 0, .slice none 0 0, .bool false, .bool false, .bool false, .int .i64 0, .int .i64 0, .int .i64 0] 51) = W2 := ⟨_, rfl⟩
  have k1 : Bk W2 w.heap.size 51 #[.int .i64 it.id, .bool it.frm.null, .string it.frm.loc, .string it.frm.dom, .slice A1 it.to.length c1, .slice A2 it.lines.length c2, .bool it.flags.head, .bool it.flags.body, .bool it.flags.bad, .int .i64 it.flags.lines, .int .i64 it.flags.hops, .int .i64 it.bytes] := by rw [← hW2]; exact (Bk.new w 51 _).alloc _
  have k2 : Bk W2 (w.heap.size + 1) 51 #[.int .i64 0, .bool false, .string ⟨#[]⟩, .string ⟨#[]⟩, .slice none 0 0, .slice none 0 0, .bool false, .bool false, .bool false, .int .i64 0, .int .i64 0, .int .i64 0] := by
    have := Bk.new (w.alloc (.cells #[.int .i64 it.id, .bool it.frm.null, .string it.frm.loc, .string it.frm.dom, .slice A1 it.to.length c1, .slice A2 it.lines.length c2, .bool it.flags.head, .bool it.flags.body, .bool it.flags.bad, .int .i64 it.flags.lines, .int .i64 it.flags.hops, .int .i64 it.bytes] 51)) 51 #[.int .i64 0, .bool false, .string ⟨#[]⟩, .string ⟨#[]⟩, .slice none 0 0, .slice none 0 0, .bool false, .bool false, .bool false, .int .i64 0, .int .i64 0, .int .i64 0]
    rw [World.size_alloc] at this
    rw [← hW2]; exact this
  have b2 : Below w.heap.size w W2 := by rw [← hW2]; exact ((Below.refl _ w).alloc (Nat.le_refl _) _).alloc (by simp) _
  have z2 : W2.heap.size = w.heap.size + 2 := by rw [← hW2]; simp
  rw [hW2]
  clear hW2
  have n1 : (W2.alloc (.cells #[] 60)).ownsRow W2.heap.size 60 7 (.slice (some ⟨W2.heap.size, 0, none⟩) 0 0) 0 [] := World.ownsRow_made W2 #[] 0 (Nat.le_refl _) (by decide) rfl
  have N1 := Lib.hid n1
  have bA := Lib.hid (b2.alloc b2.size (.cells #[] 60))
  have R1 := Lib.hid (H1.out.below bA.out)
  have K1 := Lib.hid (k1.alloc (.cells #[] 60))
  have K2 := Lib.hid (k2.alloc (.cells #[] 60))
  have d4 : W2.cell? ⟨w.heap.size, 4, none⟩ = some (.slice A1 it.to.length c1) := k1.cell 4
  have lw : w.heap.size < W2.heap.size := by omega
  have HZ2 := Lib.hid z2
  clear n1 k1 k2 b2 z2
  go_upto_region 2 with (at_builtin; refine app_rcs (.tmp 3) (.tmp 5) rfl rfl W2.heap.size w.heap.size (.slice (some ⟨W2.heap.size, 0, none⟩) 0 0) rfl N1.out A1 c1 it.to rfl R1.out (by omega) (by simp) ?_; intro v1 w1 p1 p2 p3; obtain ⟨A3, c3, rfl⟩ := own_any p1; have kk := K1.out.grown p2 (fun e => own_ne N1.out K1.out (by decide) e.symm); have e4 := kk.cell 4; have f4 := kk.frozen 4; simp at e4)
  have zz : W2.heap.size < (W2.alloc (.cells #[] 60)).heap.size := by simp
  have o1 : Only w w1 (fun k => w.heap.size ≤ k) := (Only.grown (Only.more (S := fun _ => False) (Only.of_below bA.out) (fun k h => h.elim)) p2 (fun k hk hlt => by have := (N1.out.lt k hk).1; omega)).more (fun k h => h)
  have kk2 := K2.out.grown p2 (fun e => own_ne N1.out K2.out (by decide) e.symm)
  have t1 := own_set p1 (p := ⟨w.heap.size, 4, none⟩) (own_ne p1 kk (by decide)) (.slice A3 it.to.length c3)
  obtain ⟨w2, hw2⟩ : ∃ w2, w1.setCell ⟨w.heap.size, 4, none⟩ (.slice A3 it.to.length c3) = w2 := ⟨_, rfl⟩
  have kx := kk.set_ 4 (.slice A3 it.to.length c3)
  have ky := kk2.far (p := ⟨w.heap.size, 4, none⟩) (show w.heap.size + 1 ≠ w.heap.size by omega) (.slice A3 it.to.length c3)
  have o2 := o1.setCell (p := ⟨w.heap.size, 4, none⟩) (Nat.le_refl _) (.slice A3 it.to.length c3)
  rw [hw2] at t1 kx ky o2 ⊢
  simp at kx
  clear kk kk2 o1 p1 p2 p3 e4 f4 hw2 zz N1 R1 K1 K2 bA d4
  have n2 : (w2.alloc (.cells #[] 9)).ownsRow w2.heap.size 9 1 (.slice (some ⟨w2.heap.size, 0, none⟩) 0 0) 0 [] := World.ownsRow_made w2 #[] 0 (Nat.le_refl _) (by decide) rfl
  have N2 := Lib.hid n2
  have R2 := Lib.hid (H2.out.below ((o2.below (Nat.le_refl _) (fun k h => h)).alloc o2.size (.cells #[] 9)))
  have KX := Lib.hid (kx.alloc (.cells #[] 9))
  have KY := Lib.hid (ky.alloc (.cells #[] 9))
  have T1 := Lib.hid (t1.alloc (.cells #[] 9))
  have O2 := Lib.hid (o2.alloc (.cells #[] 9))
  have d5 : w2.cell? ⟨w.heap.size, 5, none⟩ = some (.slice A2 it.lines.length c2) := kx.cell 5
  have lw2 : w.heap.size < w2.heap.size := kx.lt
  clear n2 kx ky t1 o2
  go_upto_region 3 with (at_builtin; refine app_strs (.tmp 8) (.tmp 10) rfl rfl w2.heap.size w.heap.size (.slice (some ⟨w2.heap.size, 0, none⟩) 0 0) rfl N2.out A2 c2 it.lines rfl R2.out (by omega) (by simp) ?_; intro v3 w3 p1 p2 p3; obtain ⟨A4, c4, rfl⟩ := own_any p1; have kk := KX.out.grown p2 (fun e => own_ne N2.out KX.out (by decide) e.symm); have e5 := kk.cell 5; have f5 := kk.frozen 5; simp at e5)
  have o3 : Only w w3 (fun k => w.heap.size ≤ k) := Only.grown O2.out p2 (fun k hk hlt => by have := (N2.out.lt k hk).1; omega)
  have kk2 := KY.out.grown p2 (fun e => own_ne N2.out KY.out (by decide) e.symm)
  have t2 := own_only T1.out ((Only.refl _ (fun k => (Value.slice (some ⟨w2.heap.size, 0, none⟩) 0 0).ownBlock = some k)).grown p2 (fun k hk _ => hk)) (fun k hk e => ne_of_types T1.out N2.out (by decide) k hk e)
  have t3 := own_set t2 (p := ⟨w.heap.size, 5, none⟩) (own_ne t2 kk (by decide)) (.slice A4 it.lines.length c4)
  have l3 := own_set p1 (p := ⟨w.heap.size, 5, none⟩) (own_ne p1 kk (by decide)) (.slice A4 it.lines.length c4)
  have o4 := o3.setCell (p := ⟨w.heap.size, 5, none⟩) (Nat.le_refl _) (.slice A4 it.lines.length c4)
  have kf := kk.set_ 5 (.slice A4 it.lines.length c4)
  have kg := kk2.far (p := ⟨w.heap.size, 5, none⟩) (show w.heap.size + 1 ≠ w.heap.size by omega) (.slice A4 it.lines.length c4)
  obtain ⟨w4, hw4⟩ : ∃ w4, w3.setCell ⟨w.heap.size, 5, none⟩ (.slice A4 it.lines.length c4) = w4 := ⟨_, rfl⟩
  rw [hw4] at t3 l3 o4 kf kg ⊢
  simp at kf
  have b4 := Lib.hid (o4.below (Nat.le_refl _) (fun k h => h))
  have hz2 := HZ2.out
  have T3 := Lib.hid (own_base (B := w.heap.size) t3 (by omega)); have L3 := Lib.hid (own_base (B := w.heap.size) l3 (by omega))
  have KF := Lib.hid kf; have KG := Lib.hid kg
  have q0 := kf.cell 0
  have q1 := kf.cell 1
  have q2 := kf.cell 2
  have q3 := kf.cell 3
  have q4 := kf.cell 4
  have q5 := kf.cell 5
  have q6 := kf.cell 6
  have q7 := kf.cell 7
  have q8 := kf.cell 8
  have q9 := kf.cell 9
  have q10 := kf.cell 10
  have q11 := kf.cell 11
  simp at q0 q1 q2 q3 q4 q5 q6 q7 q8 q9 q10 q11
  have z0 := kg.cell 0
  have z1 := kg.cell 1
  have z2 := kg.cell 2
  have z3 := kg.cell 3
  have z4 := kg.cell 4
  have z5 := kg.cell 5
  have z6 := kg.cell 6
  have z7 := kg.cell 7
  have z8 := kg.cell 8
  have z9 := kg.cell 9
  have z10 := kg.cell 10
  have z11 := kg.cell 11
  simp at z0 z1 z2 z3 z4 z5 z6 z7 z8 z9 z10 z11
  have y0 := kg.frozen 0
  have y1 := kg.frozen 1
  have y2 := kg.frozen 2
  have y3 := kg.frozen 3
  have y4 := kg.frozen 4
  have y5 := kg.frozen 5
  have y6 := kg.frozen 6
  have y7 := kg.frozen 7
  have y8 := kg.frozen 8
  have y9 := kg.frozen 9
  have y10 := kg.frozen 10
  have y11 := kg.frozen 11
  clear kk kk2 t2 t3 l3 o3 o4 kf kg hz2 hw4 p1 p2 p3 e5 f5
  go_wp2_with fail
  have kg := KG.out
  have hk := ((((((((((((kg.set_ 0 (.int .i64 it.id)).set_ 1 (.bool it.frm.null)).set_ 2 (.string it.frm.loc)).set_ 3 (.string it.frm.dom)).set_ 4 (.slice A3 it.to.length c3)).set_ 5 (.slice A4 it.lines.length c4)).set_ 6 (.bool it.flags.head)).set_ 7 (.bool it.flags.body)).set_ 8 (.bool it.flags.bad)).set_ 9 (.int .i64 it.flags.lines)).set_ 10 (.int .i64 it.flags.hops)).set_ 11 (.int .i64 it.bytes))
  refine copy_ret ⟨it, .slice A3 it.to.length c3, .slice A4 it.lines.length c4⟩ hk (by simp [Row.cells]) rfl ⟨_, _, rfl, item_fin KF.out KG.out T3.out L3.out b4.out ?_⟩
  iterate 12 (refine Only.setCell ?_ (by simp) _)
  exact Only.refl _ _
end Go.Proofs.Ytlbghgmeiajioaa
