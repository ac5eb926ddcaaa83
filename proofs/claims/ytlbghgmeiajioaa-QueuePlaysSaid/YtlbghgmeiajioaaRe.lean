/- The reference queue's Add. -/
import Derived.Test.YtlbghgmeiajioaaRd
import Derived.Deep.RegionHeld
namespace Go.Proofs.Ytlbghgmeiajioaa
open Go.RowKit
set_option linter.unusedVariables false

/-- What the reference's Add's last store makes of the queue. -/
theorem radd_fin {w wr w1 : World} {B g : Nat} {v : Value} {rows : List Row} {room tries wait : Int} (h : Qm w B g 56 v rows room tries wait) (hB : Below w.heap.size w wr) {it : It} {tv lv : Value} {nb : Nat} (hnb : w.heap.size ≤ nb)
    (htv : wr.ownsRow nb 60 7 tv it.to.length (it.to.flatMap Rc.cells)) (hlv : wr.ownsRow w.heap.size 9 1 lv it.lines.length (it.lines.map .string)) {g' cap : Nat}
    (hown1 : w1.ownsRow B 51 12 (.slice (some ⟨g', 0, none⟩) (rows.length + 1) cap) (rows.length + 1) (rows.flatMap Row.cells ++ Row.cells ⟨it, tv, lv⟩)) (hon : Only wr w1 (fun k => v.ownBlock = some k)) (hat : v.ownBlock = some g' ∨ w.heap.size ≤ g') :
    Left2 w B g 56 v rows room tries wait (rows.map Row.it ++ [it]) (w1.setCell ⟨g, 0, none⟩ (.slice (some ⟨g', 0, none⟩) (rows.length + 1) cap)) := by
  have hq := h.below hB
  have hBg : B ≤ w.heap.size := by have := h.blk.lt; have := h.ge; omega
  have kg : Bk w1 g 56 #[v, .int .i64 room, .int .i64 tries, .int .i64 wait] := hq.blk.same (hon.block g hq.blk.lt (own_ne hq.row hq.blk (by decide)))
  have hF : Only wr (w1.setCell ⟨g, 0, none⟩ (.slice (some ⟨g', 0, none⟩) (rows.length + 1) cap)) (fun k => k = g ∨ v.ownBlock = some k) := (hon.more (fun k hk => .inr hk)).setCell (.inl rfl) _
  have keep : ∀ {b e s n : Nat} {u : Value} {xs : List Value}, wr.ownsRow b e s u n xs → e ≠ 56 → e ≠ 51 → (w1.setCell ⟨g, 0, none⟩ (.slice (some ⟨g', 0, none⟩) (rows.length + 1) cap)).ownsRow b e s u n xs := by
    intro b e s n u xs hu h1 h2
    refine own_only hu hF ?_
    rintro k hk (rfl | hk2)
    · exact own_ne hu hq.blk h1 hk
    · exact own_apart hu hq.row h2 k hk hk2
  have hold : ∀ r ∈ rows, ∀ k, r.tv.ownBlock = some k → k < w.heap.size := fun r hr k hk => (h.lt k (.inr (.inr ⟨r, hr, .inl hk⟩))).2
  refine ⟨.slice (some ⟨g', 0, none⟩) (rows.length + 1) cap, rows ++ [⟨it, tv, lv⟩], ⟨h.ge, ?_, ?_, ?_, ?_⟩, by simp, ?_, ?_⟩
  · have := kg.set_ 0 (.slice (some ⟨g', 0, none⟩) (rows.length + 1) cap)
    simpa using this
  · rw [List.length_append, List.flatMap_append]
    simp only [List.length_cons, List.length_nil, List.flatMap_cons, List.flatMap_nil, List.append_nil, Nat.zero_add]
    exact own_set hown1 (p := ⟨g, 0, none⟩) (own_ne hown1 kg (by decide)) _
  · intro r hr
    rcases List.mem_append.1 hr with hr | hr
    · exact ⟨keep (hq.own r hr).1 (by decide) (by decide), keep (hq.own r hr).2 (by decide) (by decide)⟩
    · simp at hr
      subst hr
      exact ⟨own_base (keep htv (by decide) (by decide)) (by omega), own_base (keep hlv (by decide) (by decide)) hBg⟩
  · intro i j hi hj hij k hk
    simp only [List.length_append, List.length_cons, List.length_nil] at hi hj
    have e1 : ∀ (n : Nat) (hn : n < (rows ++ [(⟨it, tv, lv⟩ : Row)]).length) (hl : n < rows.length), (rows ++ [(⟨it, tv, lv⟩ : Row)])[n] = rows[n] := fun n hn hl => List.getElem_append_left hl
    have e2 : ∀ (n : Nat) (hn : n < (rows ++ [(⟨it, tv, lv⟩ : Row)]).length) (hl : ¬ n < rows.length), (rows ++ [(⟨it, tv, lv⟩ : Row)])[n] = ⟨it, tv, lv⟩ := fun n hn hl => by
      simp only [List.length_append, List.length_cons, List.length_nil] at hn
      obtain rfl : n = rows.length := by omega
      simp
    by_cases h1 : i < rows.length
    · rw [e1 i _ h1] at hk
      by_cases h2 : j < rows.length
      · rw [e1 j _ h2]
        exact h.apart i j h1 h2 hij k hk
      · rw [e2 j _ h2]
        intro hk2
        have := hold _ (List.getElem_mem h1) k hk
        have := (htv.lt k hk2).1
        omega
    · rw [e2 i _ h1] at hk
      by_cases h2 : j < rows.length
      · rw [e1 j _ h2]
        intro hk2
        have := hold _ (List.getElem_mem h2) k hk2
        have := (htv.lt k hk).1
        omega
      · omega
  · refine (Only.of_below hB).trans (hF.more ?_)
    rintro k (rfl | hk)
    · exact .inl rfl
    · exact .inr (.inl hk)
  · rintro k (rfl | hk | ⟨r, hr, hk⟩)
    · exact .inl (.inl rfl)
    · simp [Value.ownBlock] at hk
      subst hk
      rcases hat with h1 | h1
      · exact .inl (.inr (.inl h1))
      · exact .inr h1
    · rcases List.mem_append.1 hr with hr | hr
      · exact .inl (.inr (.inr ⟨r, hr, hk⟩))
      · simp at hr
        subst hr
        rcases hk with hk | hk
        · have := (htv.lt k hk).1; exact .inr (by omega)
        · have := (hlv.lt k hk).1; exact .inr this


set_option maxRecDepth 100000 in
set_option maxHeartbeats 1600000 in
theorem radd_arg (w : World) (B g : Nat) (v : Value) (rows : List Row) (room tries wait : Int) (h : Qm w B g 56 v rows room tries wait) (m : Ml) (At Al : Option Addr) (ct cl : Nat) (force : Bool) (hbad : m.to.length = 0 ∨ 100 < m.to.length) (hbig : m.to.length ≤ 9223372036854775807) :
    Calls Try.prog 13 #[.pointer (some ⟨g, 0, none⟩), .agg (m.cells (.slice At m.to.length ct) (.slice Al m.lines.length cl)).toArray, .bool force] w fun e w' => e = .returned (.tuple #[.int .i64 0, .int .i64 1]) ∧ Left2 w B g 56 v rows room tries wait (rows.map Row.it) w' := by
  have H := Lib.hid h
  clear h
  have hb := Left2.below H.out ((Below.refl w.heap.size w).alloc (Nat.le_refl _) (.cells (m.cells (.slice At m.to.length ct) (.slice Al m.lines.length cl)).toArray 38))
  have Hb := Lib.hid hb
  clear hb
  rcases hbad with h0 | h0
  · simp only [Ml.cells] at Hb ⊢
    rw [h0] at Hb ⊢
    go_enter Try.func13, Try.ntmps13
    go_wp2_with fail
    go_ret2
    exact ⟨rfl, Hb.out⟩
  · have e0 : ((m.to.length : Int) == 0) = false := beq_eq_false_iff_ne.2 (by omega)
    have e1 : decide ((100 : Int) < (m.to.length : Int)) = true := decide_eq_true (by omega)
    simp only [Ml.cells] at Hb ⊢
    generalize m.to.length = L at *
    go_enter Try.func13, Try.ntmps13
    go_wp2_with fail
    go_ret2
    exact ⟨rfl, Hb.out⟩


set_option maxRecDepth 100000 in
set_option maxHeartbeats 1600000 in
theorem radd_full (w : World) (B g : Nat) (v : Value) (rows : List Row) (room tries wait : Int) (h : Qm w B g 56 v rows room tries wait) (hs : Small (rows.map Row.it)) (m : Ml) (At Al : Option Addr) (ct cl : Nat) (h0 : m.to.length ≠ 0) (h1 : m.to.length ≤ 100) (hf : decide (room ≤ (openN (rows.map Row.it) : Int)) = true) :
    Calls Try.prog 13 #[.pointer (some ⟨g, 0, none⟩), .agg (m.cells (.slice At m.to.length ct) (.slice Al m.lines.length cl)).toArray, .bool false] w fun e w' => e = .returned (.tuple #[.int .i64 0, .int .i64 2]) ∧ Left2 w B g 56 v rows room tries wait (rows.map Row.it) w' := by
  have H := Lib.hid h; have Hs := Lib.hid hs
  clear h hs
  have hb := (Below.refl w.heap.size w).alloc (Nat.le_refl _) (.cells (m.cells (.slice At m.to.length ct) (.slice Al m.lines.length cl)).toArray 38)
  have Hb := Lib.hid hb
  have Hq := Lib.hid (H.out.below hb)
  clear hb
  have e0 : ((m.to.length : Int) == 0) = false := beq_eq_false_iff_ne.2 (by omega)
  have e1 : decide ((100 : Int) < (m.to.length : Int)) = false := decide_eq_false (by omega)
  simp only [Ml.cells] at Hb Hq ⊢
  generalize m.to.length = L at *
  have Gl := Hq.out.blk.lt
  have c1 := Hq.out.blk.cell 1
  simp at c1
  go_enter Try.func13, Try.ntmps13
  go_upto_region 3 with fail
  refine wp_region_held_drew (S := fun w' : World => w'.cell? ⟨g, 1, none⟩ = some (.int .i64 room)) (by kernel_rfl) ?_ (fun hHeld => ?_)
  · exact c1
  refine wpAnyH_take (i := 0) (oi := { dst := some 20, op := Op.move (Operand.tmp 2), type := 4, pos := "ref.go:55", after := #[], guard := none }) (v := ?_) rfl (by kernel_rfl) (by kernel_rfl) (by kernel_rfl) (fun _ _ _ h => h) (Or.inl ⟨by rfl, ?_⟩) (by assumption) ?_
  rotate_left
  · intro wS hSw; (try dsimp only at hSw); go_simp; (try with_reducible rfl)
  try simp only [Act.put, List.setIfInBounds_toArray, List.set_cons_zero, List.set_cons_succ]
  refine wpAnyH_take (i := 1) (oi := { dst := some 21, op := Op.unOp UnOp.not 4 (Operand.tmp 20), type := 4, pos := "ref.go:55", after := #[{ on := 0, ground := Ground.data }], guard := none }) (v := ?_) rfl (by kernel_rfl) (by kernel_rfl) (by kernel_rfl) (fun _ _ _ h => h) (Or.inl ⟨by rfl, ?_⟩) (by assumption) ?_
  rotate_left
  · intro wS hSw; (try dsimp only at hSw); go_simp; (try with_reducible rfl)
  try simp only [Act.put, List.setIfInBounds_toArray, List.set_cons_zero, List.set_cons_succ]
  refine wpAnyH_take (i := 2) (oi := { dst := some 22, op := Op.move (Operand.tmp 21), type := 4, pos := "ref.go:55", after := #[{ on := 1, ground := Ground.data }], guard := none }) (v := ?_) rfl (by kernel_rfl) (by kernel_rfl) (by kernel_rfl) (fun _ _ _ h => h) (Or.inl ⟨by rfl, ?_⟩) (by assumption) ?_
  rotate_left
  · intro wS hSw; (try dsimp only at hSw); go_simp; (try with_reducible rfl)
  try simp only [Act.put, List.setIfInBounds_toArray, List.set_cons_zero, List.set_cons_succ]
  refine wpAnyH_take (i := 3) (oi := { dst := some 23, op := Op.move (Operand.tmp 0), type := 27, pos := "ref.go:55", after := #[{ on := 2, ground := Ground.guard }], guard := some (2, true) }) (v := ?_) rfl (by kernel_rfl) (by kernel_rfl) (by kernel_rfl) (fun _ _ _ h => h) (Or.inl ⟨by rfl, ?_⟩) (by assumption) ?_
  rotate_left
  · intro wS hSw; (try dsimp only at hSw); go_simp; (try with_reducible rfl)
  try simp only [Act.put, List.setIfInBounds_toArray, List.set_cons_zero, List.set_cons_succ]
  refine wpAnyH_take (i := 5) (oi := { dst := some 25, op := Op.move (Operand.tmp 0), type := 27, pos := "ref.go:55", after := #[{ on := 2, ground := Ground.guard }], guard := some (2, true) }) (v := ?_) rfl (by kernel_rfl) (by kernel_rfl) (by kernel_rfl) (fun _ _ _ h => h) (Or.inl ⟨by rfl, ?_⟩) (by assumption) ?_
  rotate_left
  · intro wS hSw; (try dsimp only at hSw); go_simp; (try with_reducible rfl)
  try simp only [Act.put, List.setIfInBounds_toArray, List.set_cons_zero, List.set_cons_succ]
  refine wpAnyH_take (i := 6) (oi := { dst := some 26, op := Op.nilCheck (Operand.tmp 25), type := 0, pos := "ref.go:55", after := #[{ on := 5, ground := Ground.data }, { on := 2, ground := Ground.guard }], guard := some (2, true) }) (v := ?_) rfl (by kernel_rfl) (by kernel_rfl) (by kernel_rfl) (fun _ _ _ h => h) (Or.inl ⟨by rfl, ?_⟩) (by assumption) ?_
  rotate_left
  · intro wS hSw; (try dsimp only at hSw); go_simp; (try with_reducible rfl)
  try simp only [Act.put, List.setIfInBounds_toArray, List.set_cons_zero, List.set_cons_succ]
  refine wpAnyH_take (i := 7) (oi := { dst := some 27, op := Op.fieldAddr 56 (Operand.tmp 26) 1, type := 0, pos := "ref.go:55", after := #[{ on := 6, ground := Ground.data }, { on := 2, ground := Ground.guard }], guard := some (2, true) }) (v := ?_) rfl (by kernel_rfl) (by kernel_rfl) (by kernel_rfl) (fun _ _ _ h => h) (Or.inl ⟨by rfl, ?_⟩) (by assumption) ?_
  rotate_left
  · intro wS hSw; (try dsimp only at hSw); go_simp; (try with_reducible rfl)
  try simp only [Act.put, List.setIfInBounds_toArray, List.set_cons_zero, List.set_cons_succ]
  refine wpAnyH_take (i := 8) (oi := { dst := some 28, op := Op.load 3 (Operand.tmp 27), type := 3, pos := "ref.go:55", after := #[{ on := 7, ground := Ground.data }, { on := 2, ground := Ground.guard }], guard := some (2, true) }) (v := ?_) rfl (by kernel_rfl) (by kernel_rfl) (by kernel_rfl) (fun _ _ _ h => h) (Or.inl ⟨by rfl, ?_⟩) (by assumption) ?_
  rotate_left
  · intro wS hSw; (try dsimp only at hSw); go_simp; (try with_reducible rfl)
  try simp only [Act.put, List.setIfInBounds_toArray, List.set_cons_zero, List.set_cons_succ]
  refine wpAnyH_ready (rs := [4]) (by kernel_rfl) (by simp) ?_
  refine AllReadyH.cons (o := { dst := some 24, op := Op.call { callee := Callee.value (Operand.func 29), args := #[Operand.tmp 23], argTypes := #[27] }, type := 3, pos := "ref.go:55", after := #[{ on := 3, ground := Ground.data }, { on := 2, ground := Ground.chain }, { on := 2, ground := Ground.guard }], guard := some (2, true) }) rfl (fun K hK => ?_) AllReadyH.nil
  go_simp
  refine (rcount_any _ B g v rows room tries wait Hq.out.drew Hs.out).mono ?_
  rintro e w4 ⟨rfl, b4⟩
  have c4 := (b4.cell (p := ⟨g, 1, none⟩) Gl).trans c1
  have b5 := Below.trans ((Below.refl (w.alloc (.cells #[.bool m.frm.null, .string m.frm.loc, .string m.frm.dom, .slice At L ct, .slice Al m.lines.length cl, .bool m.flags.head, .bool m.flags.body, .bool m.flags.bad, .int .i64 m.flags.lines, .int .i64 m.flags.hops, .int .i64 m.bytes] 38)).heap.size (w.alloc (.cells #[.bool m.frm.null, .string m.frm.loc, .string m.frm.dom, .slice At L ct, .slice Al m.lines.length cl, .bool m.flags.head, .bool m.flags.body, .bool m.flags.bad, .int .i64 m.flags.lines, .int .i64 m.flags.hops, .int .i64 m.bytes] 38))).drew) b4
  try dsimp only
  refine hK.out _ _ ?_ (fun hHeld => ?_)
  · exact c4
  clear hK K
  try simp only [Act.put, List.setIfInBounds_toArray, List.set_cons_zero, List.set_cons_succ]
  refine wpAnyH_take (i := 9) (oi := { dst := some 29, op := Op.binOp BinOp.geq 3 (Operand.tmp 24) (Operand.tmp 28) 3, type := 4, pos := "ref.go:55", after := #[{ on := 4, ground := Ground.data }, { on := 8, ground := Ground.data }, { on := 2, ground := Ground.guard }], guard := some (2, true) }) (v := ?_) rfl (by kernel_rfl) (by kernel_rfl) (by kernel_rfl) (fun _ _ _ h => h) (Or.inl ⟨by rfl, ?_⟩) (by assumption) ?_
  rotate_left
  · intro wS hSw; (try dsimp only at hSw); go_simp; (try with_reducible rfl)
  try simp only [Act.put, List.setIfInBounds_toArray, List.set_cons_zero, List.set_cons_succ]
  refine wpAnyH_take (i := 10) (oi := { dst := some 30, op := Op.pick (Operand.tmp 22) (Operand.tmp 29) (Operand.const (Value.bool false)), type := 4, pos := "ref.go:55", after := #[{ on := 2, ground := Ground.data }, { on := 9, ground := Ground.data }], guard := none }) (v := ?_) rfl (by kernel_rfl) (by kernel_rfl) (by kernel_rfl) (fun _ _ _ h => h) (Or.inl ⟨by rfl, ?_⟩) (by assumption) ?_
  rotate_left
  · intro wS hSw; (try dsimp only at hSw); go_simp; (try with_reducible rfl)
  try simp only [Act.put, List.setIfInBounds_toArray, List.set_cons_zero, List.set_cons_succ]
  refine wpAnyH_done (by kernel_rfl) ?_ _
  go_wp2_with fail
  go_ret2
  exact ⟨rfl, Left2.below H.out (Hb.out.trans (b5.mono (by simp)))⟩

theorem own_rd7 {w : World} {base : Nat} {e : TypeId} {s n : Nat} {A : Option Addr} {c : Nat} {xs : List Value} (h : w.ownsRow base e s (.slice A n c) n xs) : Rd w w.heap.size A xs := by
  rcases h.2 with ⟨_, h1⟩ | ⟨g, cap, cur, hv, _, hh, _⟩
  · exact .inl (List.eq_nil_of_length_eq_zero (by have := h.1; rw [h1] at this; simpa using this))
  · have hA : A = some ⟨g, 0, none⟩ := by injection hv
    subst hA
    refine .inr ⟨g, 0, rfl, (Array.getElem?_eq_some_iff.1 hh).1, fun j u hu => ?_⟩
    have := h.cells (g := g) rfl j u hu
    have e : (⟨g, 0, none⟩ : Addr).add j = ⟨g, 0 + j, none⟩ := by unfold Addr.add; split <;> simp_all
    rwa [e] at this
theorem below_set {B : Nat} {a b : World} (h : Below B a b) {p : Addr} (hp : B ≤ p.block) (u : Value) : Below B a (b.setCell p u) :=
  ⟨h.os, h.tape, h.output, by simpa [World.setCell] using h.size, fun i hi => (Below.heap_setCell b p u i (by omega)).trans (h.block i hi)⟩
/-- append of one recipient, at a step of a region that draws its order. -/
theorem step_rc {ops : Array Oper} {o : Oper} {a : Act} {w : World} {K : Act → World → Prop} {Q : Exit → Act → World → Prop} {E : Prop} (s x : Operand) (hgd : o.guard = none)
    (ho : o.op = .call { callee := .builtin .append, args := #[s, x], argTypes := #[49, 49] })
    (base : Nat) (v : Value) (n : Nat) (xs : List Value) (hs : a.eval s = v) (hown : w.ownsRow base 60 7 v n xs) (b : Nat) (r : Rc) (hx : a.eval x = .slice (some ⟨b, 0, none⟩) 1 1)
    (hu : Bk w b 60 r.cells.toArray) (hn : n ≤ 1000) (hbase : base ≤ w.heap.size) (H : Nat) (hH : w.heap.size = H)
    (h : ∀ g cap w', w'.ownsRow base 60 7 (.slice (some ⟨g, 0, none⟩) (n + 1) cap) (n + 1) (xs ++ r.cells) → w.grownBy w' v.ownBlock → (v.ownBlock = some g ∨ g = H) → g < w'.heap.size →
      K (a.put o.dst (.slice (some ⟨g, 0, none⟩) (n + 1) cap)) w') : if Region.wanted o (yielded ops a.tmps) = true then Oper.wp Try.prog o a w K Q else E := by
  obtain ⟨i0, hi, hz0, hz1, hz2⟩ := info_parts info60
  refine step_append_lies w hgd s x 49 ho base 60 i0 zeroRc 7 72 Try.underlying49 hi hz0 hz1 hz2 rfl (by decide) v n xs hs hown ⟨b, 0, none⟩ 1 1 r.cells hx rfl ?_ (by intro u hu; simp [Rc.cells] at hu; rcases hu with rfl | rfl | rfl | rfl | rfl | rfl | rfl <;> rfl) (by decide) (by unfold maxLen; omega) (by omega) hbase H hH h
  intro j u hj
  have e : (⟨b, 0, none⟩ : Addr).add j = ⟨b, j, none⟩ := by unfold Addr.add; split <;> simp_all
  rw [e, hu.cell j]
  simpa using hj

set_option maxRecDepth 100000 in
set_option maxHeartbeats 8000000 in
theorem radd_ok (w : World) (B g : Nat) (v : Value) (rows : List Row) (room tries wait : Int) (h : Qm w B g 56 v rows room tries wait) (hs : Small (rows.map Row.it)) (hn : rows.length ≤ 500) (m : Ml) (At Al : Option Addr) (ct cl : Nat) (h0 : m.to.length ≠ 0) (h1 : m.to.length ≤ 100)
    (hl : m.lines.length ≤ 1000) (ht : Rd w w.heap.size At (m.to.flatMap Pth.cells)) (hr : Rd w w.heap.size Al (m.lines.map .string)) (force : Bool) (hf : (!force && decide (room ≤ (openN (rows.map Row.it) : Int))) = false) :
    Calls Try.prog 13 #[.pointer (some ⟨g, 0, none⟩), .agg (m.cells (.slice At m.to.length ct) (.slice Al m.lines.length cl)).toArray, .bool force] w fun e w' => e = .returned (.tuple #[.int .i64 ((rows.length : Int) + 1), .int .i64 0]) ∧ Left2 w B g 56 v rows room tries wait (rows.map Row.it ++ [newI (rows.map Row.it) m]) w' := by
  have hb := (Below.refl w.heap.size w).alloc (Nat.le_refl _) (.cells (m.cells (.slice At m.to.length ct) (.slice Al m.lines.length cl)).toArray 38)
  have kM := Bk.new w 38 (m.cells (.slice At m.to.length ct) (.slice Al m.lines.length cl)).toArray
  have e0 : ((m.to.length : Int) == 0) = false := beq_eq_false_iff_ne.2 (by omega)
  have e1 : decide ((100 : Int) < (m.to.length : Int)) = false := decide_eq_false (by omega)
  have H := Lib.hid h; have Hs := Lib.hid hs
  have Hb := Lib.hid hb; have KM := Lib.hid kM; have Ht := Lib.hid ht; have Hr := Lib.hid hr
  have Hq := Lib.hid (H.out.below hb)
  clear h hs hb kM ht hr
  simp only [Ml.cells] at Hb Hq KM ⊢
  obtain ⟨L, hL⟩ : ∃ L, L = m.to.length := ⟨_, rfl⟩
  rw [← hL] at e0 e1 h0 h1 Hb Hq KM ⊢
  have HL := Lib.hid hL
  clear hL
  have Gl := Hq.out.blk.lt
  have c1 := Hq.out.blk.cell 1
  simp at c1
  go_enter Try.func13, Try.ntmps13
  go_upto_region 3 with fail
  go_cut [30] from 10 (fun c wx => c = .bool false ∧ Bk wx w.heap.size 38 #[.bool m.frm.null, .string m.frm.loc, .string m.frm.dom, .slice At L ct, .slice Al m.lines.length cl, .bool m.flags.head, .bool m.flags.body, .bool m.flags.bad, .int .i64 m.flags.lines, .int .i64 m.flags.hops, .int .i64 m.bytes] ∧ Below w.heap.size w wx)
  case first =>
    cases force with
    | true =>
      refine wp_region_held_drew (S := fun w' : World => True) (by kernel_rfl) ?_ (fun hHeld => ?_)
      · exact trivial
      refine wpAnyH_take (i := 0) (oi := { dst := some 20, op := Op.move (Operand.tmp 2), type := 4, pos := "ref.go:55", after := #[], guard := none }) (v := ?_) rfl (by kernel_rfl) (by kernel_rfl) (by kernel_rfl) (fun _ _ _ h => h) (Or.inl ⟨by rfl, ?_⟩) (by assumption) ?_
      rotate_left
      · intro wS hSw; (try dsimp only at hSw); go_simp; (try with_reducible rfl)
      try simp only [Act.put, List.setIfInBounds_toArray, List.set_cons_zero, List.set_cons_succ]
      refine wpAnyH_take (i := 1) (oi := { dst := some 21, op := Op.unOp UnOp.not 4 (Operand.tmp 20), type := 4, pos := "ref.go:55", after := #[{ on := 0, ground := Ground.data }], guard := none }) (v := ?_) rfl (by kernel_rfl) (by kernel_rfl) (by kernel_rfl) (fun _ _ _ h => h) (Or.inl ⟨by rfl, ?_⟩) (by assumption) ?_
      rotate_left
      · intro wS hSw; (try dsimp only at hSw); go_simp; (try with_reducible rfl)
      try simp only [Act.put, List.setIfInBounds_toArray, List.set_cons_zero, List.set_cons_succ]
      refine wpAnyH_take (i := 2) (oi := { dst := some 22, op := Op.move (Operand.tmp 21), type := 4, pos := "ref.go:55", after := #[{ on := 1, ground := Ground.data }], guard := none }) (v := ?_) rfl (by kernel_rfl) (by kernel_rfl) (by kernel_rfl) (fun _ _ _ h => h) (Or.inl ⟨by rfl, ?_⟩) (by assumption) ?_
      rotate_left
      · intro wS hSw; (try dsimp only at hSw); go_simp; (try with_reducible rfl)
      try simp only [Act.put, List.setIfInBounds_toArray, List.set_cons_zero, List.set_cons_succ]
      refine wpAnyH_take (i := 3) (oi := { dst := some 23, op := Op.move (Operand.tmp 0), type := 27, pos := "ref.go:55", after := #[{ on := 2, ground := Ground.guard }], guard := some (2, true) }) (v := undef) rfl (by kernel_rfl) (by kernel_rfl) (by kernel_rfl) (fun _ _ _ h => h) (Or.inr ⟨by rfl, rfl⟩) (by assumption) ?_
      try simp only [Act.put, List.setIfInBounds_toArray, List.set_cons_zero, List.set_cons_succ]
      refine wpAnyH_take (i := 4) (oi := { dst := some 24, op := Op.call { callee := Callee.value (Operand.func 29), args := #[Operand.tmp 23], argTypes := #[27] }, type := 3, pos := "ref.go:55", after := #[{ on := 3, ground := Ground.data }, { on := 2, ground := Ground.chain }, { on := 2, ground := Ground.guard }], guard := some (2, true) }) (v := undef) rfl (by kernel_rfl) (by kernel_rfl) (by kernel_rfl) (fun _ _ _ h => h) (Or.inr ⟨by rfl, rfl⟩) (by assumption) ?_
      try simp only [Act.put, List.setIfInBounds_toArray, List.set_cons_zero, List.set_cons_succ]
      refine wpAnyH_take (i := 5) (oi := { dst := some 25, op := Op.move (Operand.tmp 0), type := 27, pos := "ref.go:55", after := #[{ on := 2, ground := Ground.guard }], guard := some (2, true) }) (v := undef) rfl (by kernel_rfl) (by kernel_rfl) (by kernel_rfl) (fun _ _ _ h => h) (Or.inr ⟨by rfl, rfl⟩) (by assumption) ?_
      try simp only [Act.put, List.setIfInBounds_toArray, List.set_cons_zero, List.set_cons_succ]
      refine wpAnyH_take (i := 6) (oi := { dst := some 26, op := Op.nilCheck (Operand.tmp 25), type := 0, pos := "ref.go:55", after := #[{ on := 5, ground := Ground.data }, { on := 2, ground := Ground.guard }], guard := some (2, true) }) (v := undef) rfl (by kernel_rfl) (by kernel_rfl) (by kernel_rfl) (fun _ _ _ h => h) (Or.inr ⟨by rfl, rfl⟩) (by assumption) ?_
      try simp only [Act.put, List.setIfInBounds_toArray, List.set_cons_zero, List.set_cons_succ]
      refine wpAnyH_take (i := 7) (oi := { dst := some 27, op := Op.fieldAddr 56 (Operand.tmp 26) 1, type := 0, pos := "ref.go:55", after := #[{ on := 6, ground := Ground.data }, { on := 2, ground := Ground.guard }], guard := some (2, true) }) (v := undef) rfl (by kernel_rfl) (by kernel_rfl) (by kernel_rfl) (fun _ _ _ h => h) (Or.inr ⟨by rfl, rfl⟩) (by assumption) ?_
      try simp only [Act.put, List.setIfInBounds_toArray, List.set_cons_zero, List.set_cons_succ]
      refine wpAnyH_take (i := 8) (oi := { dst := some 28, op := Op.load 3 (Operand.tmp 27), type := 3, pos := "ref.go:55", after := #[{ on := 7, ground := Ground.data }, { on := 2, ground := Ground.guard }], guard := some (2, true) }) (v := undef) rfl (by kernel_rfl) (by kernel_rfl) (by kernel_rfl) (fun _ _ _ h => h) (Or.inr ⟨by rfl, rfl⟩) (by assumption) ?_
      try simp only [Act.put, List.setIfInBounds_toArray, List.set_cons_zero, List.set_cons_succ]
      refine wpAnyH_take (i := 9) (oi := { dst := some 29, op := Op.binOp BinOp.geq 3 (Operand.tmp 24) (Operand.tmp 28) 3, type := 4, pos := "ref.go:55", after := #[{ on := 4, ground := Ground.data }, { on := 8, ground := Ground.data }, { on := 2, ground := Ground.guard }], guard := some (2, true) }) (v := undef) rfl (by kernel_rfl) (by kernel_rfl) (by kernel_rfl) (fun _ _ _ h => h) (Or.inr ⟨by rfl, rfl⟩) (by assumption) ?_
      try simp only [Act.put, List.setIfInBounds_toArray, List.set_cons_zero, List.set_cons_succ]
      refine wpAnyH_take (i := 10) (oi := { dst := some 30, op := Op.pick (Operand.tmp 22) (Operand.tmp 29) (Operand.const (Value.bool false)), type := 4, pos := "ref.go:55", after := #[{ on := 2, ground := Ground.data }, { on := 9, ground := Ground.data }], guard := none }) (v := ?_) rfl (by kernel_rfl) (by kernel_rfl) (by kernel_rfl) (fun _ _ _ h => h) (Or.inl ⟨by rfl, ?_⟩) (by assumption) ?_
      rotate_left
      · intro wS hSw; (try dsimp only at hSw); go_simp; (try with_reducible rfl)
      try simp only [Act.put, List.setIfInBounds_toArray, List.set_cons_zero, List.set_cons_succ]
      refine wpAnyH_done (by kernel_rfl) ?_ _
      go_wp2_with fail
      go_meet
      exact ⟨rfl, bk_drew KM.out, Hb.out.drew⟩
    | false =>
      have hop : decide (room ≤ (openN (rows.map Row.it) : Int)) = false := by simpa using hf
      refine wp_region_held_drew (S := fun w' : World => w'.cell? ⟨g, 1, none⟩ = some (.int .i64 room)) (by kernel_rfl) ?_ (fun hHeld => ?_)
      · exact c1
      refine wpAnyH_take (i := 0) (oi := { dst := some 20, op := Op.move (Operand.tmp 2), type := 4, pos := "ref.go:55", after := #[], guard := none }) (v := ?_) rfl (by kernel_rfl) (by kernel_rfl) (by kernel_rfl) (fun _ _ _ h => h) (Or.inl ⟨by rfl, ?_⟩) (by assumption) ?_
      rotate_left
      · intro wS hSw; (try dsimp only at hSw); go_simp; (try with_reducible rfl)
      try simp only [Act.put, List.setIfInBounds_toArray, List.set_cons_zero, List.set_cons_succ]
      refine wpAnyH_take (i := 1) (oi := { dst := some 21, op := Op.unOp UnOp.not 4 (Operand.tmp 20), type := 4, pos := "ref.go:55", after := #[{ on := 0, ground := Ground.data }], guard := none }) (v := ?_) rfl (by kernel_rfl) (by kernel_rfl) (by kernel_rfl) (fun _ _ _ h => h) (Or.inl ⟨by rfl, ?_⟩) (by assumption) ?_
      rotate_left
      · intro wS hSw; (try dsimp only at hSw); go_simp; (try with_reducible rfl)
      try simp only [Act.put, List.setIfInBounds_toArray, List.set_cons_zero, List.set_cons_succ]
      refine wpAnyH_take (i := 2) (oi := { dst := some 22, op := Op.move (Operand.tmp 21), type := 4, pos := "ref.go:55", after := #[{ on := 1, ground := Ground.data }], guard := none }) (v := ?_) rfl (by kernel_rfl) (by kernel_rfl) (by kernel_rfl) (fun _ _ _ h => h) (Or.inl ⟨by rfl, ?_⟩) (by assumption) ?_
      rotate_left
      · intro wS hSw; (try dsimp only at hSw); go_simp; (try with_reducible rfl)
      try simp only [Act.put, List.setIfInBounds_toArray, List.set_cons_zero, List.set_cons_succ]
      refine wpAnyH_take (i := 3) (oi := { dst := some 23, op := Op.move (Operand.tmp 0), type := 27, pos := "ref.go:55", after := #[{ on := 2, ground := Ground.guard }], guard := some (2, true) }) (v := ?_) rfl (by kernel_rfl) (by kernel_rfl) (by kernel_rfl) (fun _ _ _ h => h) (Or.inl ⟨by rfl, ?_⟩) (by assumption) ?_
      rotate_left
      · intro wS hSw; (try dsimp only at hSw); go_simp; (try with_reducible rfl)
      try simp only [Act.put, List.setIfInBounds_toArray, List.set_cons_zero, List.set_cons_succ]
      refine wpAnyH_take (i := 5) (oi := { dst := some 25, op := Op.move (Operand.tmp 0), type := 27, pos := "ref.go:55", after := #[{ on := 2, ground := Ground.guard }], guard := some (2, true) }) (v := ?_) rfl (by kernel_rfl) (by kernel_rfl) (by kernel_rfl) (fun _ _ _ h => h) (Or.inl ⟨by rfl, ?_⟩) (by assumption) ?_
      rotate_left
      · intro wS hSw; (try dsimp only at hSw); go_simp; (try with_reducible rfl)
      try simp only [Act.put, List.setIfInBounds_toArray, List.set_cons_zero, List.set_cons_succ]
      refine wpAnyH_take (i := 6) (oi := { dst := some 26, op := Op.nilCheck (Operand.tmp 25), type := 0, pos := "ref.go:55", after := #[{ on := 5, ground := Ground.data }, { on := 2, ground := Ground.guard }], guard := some (2, true) }) (v := ?_) rfl (by kernel_rfl) (by kernel_rfl) (by kernel_rfl) (fun _ _ _ h => h) (Or.inl ⟨by rfl, ?_⟩) (by assumption) ?_
      rotate_left
      · intro wS hSw; (try dsimp only at hSw); go_simp; (try with_reducible rfl)
      try simp only [Act.put, List.setIfInBounds_toArray, List.set_cons_zero, List.set_cons_succ]
      refine wpAnyH_take (i := 7) (oi := { dst := some 27, op := Op.fieldAddr 56 (Operand.tmp 26) 1, type := 0, pos := "ref.go:55", after := #[{ on := 6, ground := Ground.data }, { on := 2, ground := Ground.guard }], guard := some (2, true) }) (v := ?_) rfl (by kernel_rfl) (by kernel_rfl) (by kernel_rfl) (fun _ _ _ h => h) (Or.inl ⟨by rfl, ?_⟩) (by assumption) ?_
      rotate_left
      · intro wS hSw; (try dsimp only at hSw); go_simp; (try with_reducible rfl)
      try simp only [Act.put, List.setIfInBounds_toArray, List.set_cons_zero, List.set_cons_succ]
      refine wpAnyH_take (i := 8) (oi := { dst := some 28, op := Op.load 3 (Operand.tmp 27), type := 3, pos := "ref.go:55", after := #[{ on := 7, ground := Ground.data }, { on := 2, ground := Ground.guard }], guard := some (2, true) }) (v := ?_) rfl (by kernel_rfl) (by kernel_rfl) (by kernel_rfl) (fun _ _ _ h => h) (Or.inl ⟨by rfl, ?_⟩) (by assumption) ?_
      rotate_left
      · intro wS hSw; (try dsimp only at hSw); go_simp; (try with_reducible rfl)
      try simp only [Act.put, List.setIfInBounds_toArray, List.set_cons_zero, List.set_cons_succ]
      refine wpAnyH_ready (rs := [4]) (by kernel_rfl) (by simp) ?_
      refine AllReadyH.cons (o := { dst := some 24, op := Op.call { callee := Callee.value (Operand.func 29), args := #[Operand.tmp 23], argTypes := #[27] }, type := 3, pos := "ref.go:55", after := #[{ on := 3, ground := Ground.data }, { on := 2, ground := Ground.chain }, { on := 2, ground := Ground.guard }], guard := some (2, true) }) rfl (fun K hK => ?_) AllReadyH.nil
      go_simp
      refine (rcount_any _ B g v rows room tries wait Hq.out.drew Hs.out).mono ?_
      rintro e w4 ⟨rfl, b4⟩
      have c4 := (b4.cell (p := ⟨g, 1, none⟩) Gl).trans c1
      have b5 := Below.trans ((Below.refl (w.alloc (.cells #[.bool m.frm.null, .string m.frm.loc, .string m.frm.dom, .slice At L ct, .slice Al m.lines.length cl, .bool m.flags.head, .bool m.flags.body, .bool m.flags.bad, .int .i64 m.flags.lines, .int .i64 m.flags.hops, .int .i64 m.bytes] 38)).heap.size (w.alloc (.cells #[.bool m.frm.null, .string m.frm.loc, .string m.frm.dom, .slice At L ct, .slice Al m.lines.length cl, .bool m.flags.head, .bool m.flags.body, .bool m.flags.bad, .int .i64 m.flags.lines, .int .i64 m.flags.hops, .int .i64 m.bytes] 38))).drew) b4
      try dsimp only
      refine hK.out _ _ ?_ (fun hHeld => ?_)
      · exact c4
      clear hK K
      try simp only [Act.put, List.setIfInBounds_toArray, List.set_cons_zero, List.set_cons_succ]
      refine wpAnyH_take (i := 9) (oi := { dst := some 29, op := Op.binOp BinOp.geq 3 (Operand.tmp 24) (Operand.tmp 28) 3, type := 4, pos := "ref.go:55", after := #[{ on := 4, ground := Ground.data }, { on := 8, ground := Ground.data }, { on := 2, ground := Ground.guard }], guard := some (2, true) }) (v := ?_) rfl (by kernel_rfl) (by kernel_rfl) (by kernel_rfl) (fun _ _ _ h => h) (Or.inl ⟨by rfl, ?_⟩) (by assumption) ?_
      rotate_left
      · intro wS hSw; (try dsimp only at hSw); go_simp; (try with_reducible rfl)
      try simp only [Act.put, List.setIfInBounds_toArray, List.set_cons_zero, List.set_cons_succ]
      refine wpAnyH_take (i := 10) (oi := { dst := some 30, op := Op.pick (Operand.tmp 22) (Operand.tmp 29) (Operand.const (Value.bool false)), type := 4, pos := "ref.go:55", after := #[{ on := 2, ground := Ground.data }, { on := 9, ground := Ground.data }], guard := none }) (v := ?_) rfl (by kernel_rfl) (by kernel_rfl) (by kernel_rfl) (fun _ _ _ h => h) (Or.inl ⟨by rfl, ?_⟩) (by assumption) ?_
      rotate_left
      · intro wS hSw; (try dsimp only at hSw); go_simp; (try with_reducible rfl)
      try simp only [Act.put, List.setIfInBounds_toArray, List.set_cons_zero, List.set_cons_succ]
      refine wpAnyH_done (by kernel_rfl) ?_ _
      go_wp2_with fail
      go_meet
      exact ⟨rfl, KM.out.below b5 KM.out.lt, Hb.out.trans (b5.mono (by simp))⟩
  case rest =>
    obtain ⟨rfl, kMc, hBc⟩ := hcut
    clear c1
    have hqc := (H.out.below hBc).drew
    have hbc := hBc.drew
    have kMd := bk_drew kMc
    obtain ⟨Aq, cq, rfl⟩ := own_any H.out.row
    have kgd := hqc.blk
    have hne : w.heap.size ≠ wc.heap.size := by have := kMc.lt; omega
    have hwr : IntKind.i64.wrap ((rows.length : Int) + 1) = (rows.length : Int) + 1 := by rw [IntKind.wrap_i64]; omega
    go_upto_region 5 with fail
    go_cut [8] from 10 (fun p wx => ∃ x8 : Nat, p = .pointer (some ⟨x8, 0, none⟩) ∧ w.heap.size ≤ x8 ∧ Bk wx x8 51 #[.int .i64 ((rows.length : Int) + 1), .bool m.frm.null, .string m.frm.loc, .string m.frm.dom, .slice none 0 0, .slice Al m.lines.length cl, .bool m.flags.head, .bool m.flags.body, .bool m.flags.bad, .int .i64 m.flags.lines, .int .i64 m.flags.hops, .int .i64 m.bytes] ∧ Bk wx w.heap.size 38 #[.bool m.frm.null, .string m.frm.loc, .string m.frm.dom, .slice At L ct, .slice Al m.lines.length cl, .bool m.flags.head, .bool m.flags.body, .bool m.flags.bad, .int .i64 m.flags.lines, .int .i64 m.flags.hops, .int .i64 m.bytes] ∧ Below w.heap.size w wx)
    case first =>
      refine wp_region_held_drew (S := fun w' : World => w'.cell? ⟨g, 0, none⟩ = some (.slice Aq rows.length cq) ∧ w'.cell? ⟨w.heap.size, 0, none⟩ = some (.bool m.frm.null) ∧ w'.cell? ⟨w.heap.size, 1, none⟩ = some (.string m.frm.loc) ∧ w'.cell? ⟨w.heap.size, 2, none⟩ = some (.string m.frm.dom) ∧ w'.cell? ⟨w.heap.size, 4, none⟩ = some (.slice Al m.lines.length cl) ∧ w'.cell? ⟨w.heap.size, 5, none⟩ = some (.bool m.flags.head) ∧ w'.cell? ⟨w.heap.size, 6, none⟩ = some (.bool m.flags.body) ∧ w'.cell? ⟨w.heap.size, 7, none⟩ = some (.bool m.flags.bad) ∧ w'.cell? ⟨w.heap.size, 8, none⟩ = some (.int .i64 m.flags.lines) ∧ w'.cell? ⟨w.heap.size, 9, none⟩ = some (.int .i64 m.flags.hops) ∧ w'.cell? ⟨w.heap.size, 10, none⟩ = some (.int .i64 m.bytes)) (by kernel_rfl) ?_ (fun hHeld => ?_)
      · exact ⟨kgd.cell 0, kMd.cell 0, kMd.cell 1, kMd.cell 2, kMd.cell 4, kMd.cell 5, kMd.cell 6, kMd.cell 7, kMd.cell 8, kMd.cell 9, kMd.cell 10⟩
      refine wpAnyH_take (i := 0) (oi := { dst := some 31, op := Op.move (Operand.tmp 0), type := 27, pos := "ref.go:58", after := #[], guard := none }) (v := ?_) rfl (by kernel_rfl) (by kernel_rfl) (by kernel_rfl) (fun _ _ _ h => h) (Or.inl ⟨by rfl, ?_⟩) (by assumption) ?_
      rotate_left
      · intro wS hSw; (try dsimp only at hSw); go_simp; (try with_reducible rfl)
      try simp only [Act.put, List.setIfInBounds_toArray, List.set_cons_zero, List.set_cons_succ]
      refine wpAnyH_take (i := 1) (oi := { dst := some 32, op := Op.nilCheck (Operand.tmp 31), type := 0, pos := "ref.go:58", after := #[{ on := 0, ground := Ground.data }], guard := none }) (v := ?_) rfl (by kernel_rfl) (by kernel_rfl) (by kernel_rfl) (fun _ _ _ h => h) (Or.inl ⟨by rfl, ?_⟩) (by assumption) ?_
      rotate_left
      · intro wS hSw; (try dsimp only at hSw); go_simp; (try with_reducible rfl)
      try simp only [Act.put, List.setIfInBounds_toArray, List.set_cons_zero, List.set_cons_succ]
      refine wpAnyH_take (i := 2) (oi := { dst := some 33, op := Op.fieldAddr 56 (Operand.tmp 32) 0, type := 0, pos := "ref.go:58", after := #[{ on := 1, ground := Ground.data }], guard := none }) (v := ?_) rfl (by kernel_rfl) (by kernel_rfl) (by kernel_rfl) (fun _ _ _ h => h) (Or.inl ⟨by rfl, ?_⟩) (by assumption) ?_
      rotate_left
      · intro wS hSw; (try dsimp only at hSw); go_simp; (try with_reducible rfl)
      try simp only [Act.put, List.setIfInBounds_toArray, List.set_cons_zero, List.set_cons_succ]
      refine wpAnyH_take (i := 3) (oi := { dst := some 34, op := Op.load 54 (Operand.tmp 33), type := 54, pos := "ref.go:58", after := #[{ on := 2, ground := Ground.data }], guard := none }) (v := ?_) rfl (by kernel_rfl) (by kernel_rfl) (by kernel_rfl) (fun _ _ _ h => h) (Or.inl ⟨by rfl, ?_⟩) (by assumption) ?_
      rotate_left
      · intro wS hSw; (try dsimp only at hSw); go_simp; (try with_reducible rfl)
      try simp only [Act.put, List.setIfInBounds_toArray, List.set_cons_zero, List.set_cons_succ]
      refine wpAnyH_take (i := 4) (oi := { dst := some 35, op := Op.call { callee := Callee.builtin Builtin.len, args := #[Operand.tmp 34], argTypes := #[54] }, type := 3, pos := "ref.go:58", after := #[{ on := 3, ground := Ground.data }], guard := none }) (v := ?_) rfl (by kernel_rfl) (by kernel_rfl) (by kernel_rfl) (fun _ _ _ h => h) (Or.inl ⟨by rfl, ?_⟩) (by assumption) ?_
      rotate_left
      · intro wS hSw; (try dsimp only at hSw); go_simp; (try with_reducible rfl)
      try simp only [Act.put, List.setIfInBounds_toArray, List.set_cons_zero, List.set_cons_succ]
      refine wpAnyH_take (i := 5) (oi := { dst := some 36, op := Op.binOp BinOp.add 3 (Operand.tmp 35) (Operand.const (Value.int IntKind.i64 1)) 3, type := 3, pos := "ref.go:58", after := #[{ on := 4, ground := Ground.data }], guard := none }) (v := ?_) rfl (by kernel_rfl) (by kernel_rfl) (by kernel_rfl) (fun _ _ _ h => h) (Or.inl ⟨by rfl, ?_⟩) (by assumption) ?_
      rotate_left
      · intro wS hSw; (try dsimp only at hSw); go_simp; (try with_reducible rfl)
      try simp only [Act.put, List.setIfInBounds_toArray, List.set_cons_zero, List.set_cons_succ]
      try rw [hwr]
      refine wpAnyH_take (i := 6) (oi := { dst := some 37, op := Op.fieldAddr 38 (Operand.tmp 4) 0, type := 0, pos := "ref.go:58", after := #[], guard := none }) (v := ?_) rfl (by kernel_rfl) (by kernel_rfl) (by kernel_rfl) (fun _ _ _ h => h) (Or.inl ⟨by rfl, ?_⟩) (by assumption) ?_
      rotate_left
      · intro wS hSw; (try dsimp only at hSw); go_simp; (try with_reducible rfl)
      try simp only [Act.put, List.setIfInBounds_toArray, List.set_cons_zero, List.set_cons_succ]
      refine wpAnyH_take (i := 7) (oi := { dst := some 38, op := Op.load 32 (Operand.tmp 37), type := 32, pos := "ref.go:58", after := #[{ on := 6, ground := Ground.data }], guard := none }) (v := ?_) rfl (by kernel_rfl) (by kernel_rfl) (by kernel_rfl) (fun _ _ _ h => h) (Or.inl ⟨by rfl, ?_⟩) (by assumption) ?_
      rotate_left
      · intro wS hSw; (try dsimp only at hSw); go_simp; (try with_reducible rfl)
      try simp only [Act.put, List.setIfInBounds_toArray, List.set_cons_zero, List.set_cons_succ]
      refine wpAnyH_take (i := 8) (oi := { dst := some 39, op := Op.fieldAddr 38 (Operand.tmp 4) 2, type := 0, pos := "ref.go:58", after := #[], guard := none }) (v := ?_) rfl (by kernel_rfl) (by kernel_rfl) (by kernel_rfl) (fun _ _ _ h => h) (Or.inl ⟨by rfl, ?_⟩) (by assumption) ?_
      rotate_left
      · intro wS hSw; (try dsimp only at hSw); go_simp; (try with_reducible rfl)
      try simp only [Act.put, List.setIfInBounds_toArray, List.set_cons_zero, List.set_cons_succ]
      refine wpAnyH_take (i := 9) (oi := { dst := some 40, op := Op.load 34 (Operand.tmp 39), type := 34, pos := "ref.go:58", after := #[{ on := 8, ground := Ground.data }], guard := none }) (v := ?_) rfl (by kernel_rfl) (by kernel_rfl) (by kernel_rfl) (fun _ _ _ h => h) (Or.inl ⟨by rfl, ?_⟩) (by assumption) ?_
      rotate_left
      · intro wS hSw; (try dsimp only at hSw); go_simp; (try with_reducible rfl)
      try simp only [Act.put, List.setIfInBounds_toArray, List.set_cons_zero, List.set_cons_succ]
      refine wpAnyH_take (i := 10) (oi := { dst := some 41, op := Op.fieldAddr 38 (Operand.tmp 4) 3, type := 0, pos := "ref.go:58", after := #[], guard := none }) (v := ?_) rfl (by kernel_rfl) (by kernel_rfl) (by kernel_rfl) (fun _ _ _ h => h) (Or.inl ⟨by rfl, ?_⟩) (by assumption) ?_
      rotate_left
      · intro wS hSw; (try dsimp only at hSw); go_simp; (try with_reducible rfl)
      try simp only [Act.put, List.setIfInBounds_toArray, List.set_cons_zero, List.set_cons_succ]
      refine wpAnyH_take (i := 11) (oi := { dst := some 42, op := Op.load 36 (Operand.tmp 41), type := 36, pos := "ref.go:58", after := #[{ on := 10, ground := Ground.data }], guard := none }) (v := ?_) rfl (by kernel_rfl) (by kernel_rfl) (by kernel_rfl) (fun _ _ _ h => h) (Or.inl ⟨by rfl, ?_⟩) (by assumption) ?_
      rotate_left
      · intro wS hSw; (try dsimp only at hSw); go_simp; (try with_reducible rfl)
      try simp only [Act.put, List.setIfInBounds_toArray, List.set_cons_zero, List.set_cons_succ]
      refine wpAnyH_take (i := 12) (oi := { dst := some 43, op := Op.fieldAddr 38 (Operand.tmp 4) 4, type := 0, pos := "ref.go:58", after := #[], guard := none }) (v := ?_) rfl (by kernel_rfl) (by kernel_rfl) (by kernel_rfl) (fun _ _ _ h => h) (Or.inl ⟨by rfl, ?_⟩) (by assumption) ?_
      rotate_left
      · intro wS hSw; (try dsimp only at hSw); go_simp; (try with_reducible rfl)
      try simp only [Act.put, List.setIfInBounds_toArray, List.set_cons_zero, List.set_cons_succ]
      refine wpAnyH_take (i := 13) (oi := { dst := some 44, op := Op.load 3 (Operand.tmp 43), type := 3, pos := "ref.go:58", after := #[{ on := 12, ground := Ground.data }], guard := none }) (v := ?_) rfl (by kernel_rfl) (by kernel_rfl) (by kernel_rfl) (fun _ _ _ h => h) (Or.inl ⟨by rfl, ?_⟩) (by assumption) ?_
      rotate_left
      · intro wS hSw; (try dsimp only at hSw); go_simp; (try with_reducible rfl)
      try simp only [Act.put, List.setIfInBounds_toArray, List.set_cons_zero, List.set_cons_succ]
      refine wpAnyH_take (i := 14) (oi := { dst := some 45, op := Op.build 51 #[(0, Operand.tmp 36), (1, Operand.tmp 38), (3, Operand.tmp 40), (4, Operand.tmp 42), (5, Operand.tmp 44)], type := 51, pos := "ref.go:58", after := #[{ on := 5, ground := Ground.data }, { on := 7, ground := Ground.data }, { on := 9, ground := Ground.data }, { on := 11, ground := Ground.data }, { on := 13, ground := Ground.data }], guard := none }) (v := ?_) rfl (by kernel_rfl) (by kernel_rfl) (by kernel_rfl) (fun _ _ _ h => h) (Or.inl ⟨by rfl, ?_⟩) (by assumption) ?_
      rotate_left
      · intro wS hSw; (try dsimp only at hSw); go_simp; (try with_reducible rfl)
      try simp only [Act.put, List.setIfInBounds_toArray, List.set_cons_zero, List.set_cons_succ]
      refine wpAnyH_ready (rs := [15]) (by kernel_rfl) (by simp) ?_
      refine AllReadyH.cons (o := { dst := some 8, op := Op.alloc 51, type := 0, pos := "ref.go:58", after := #[], guard := none }) rfl (fun K hK => ?_) AllReadyH.nil
      go_simp
      try dsimp only
      refine hK.out _ _ ?_ (fun hHeld => ?_)
      · exact ⟨(kgd.alloc _).cell 0, (kMd.alloc _).cell 0, (kMd.alloc _).cell 1, (kMd.alloc _).cell 2, (kMd.alloc _).cell 4, (kMd.alloc _).cell 5, (kMd.alloc _).cell 6, (kMd.alloc _).cell 7, (kMd.alloc _).cell 8, (kMd.alloc _).cell 9, (kMd.alloc _).cell 10⟩
      clear hK K
      try simp only [Act.put, List.setIfInBounds_toArray, List.set_cons_zero, List.set_cons_succ]
      refine wpAnyH_ready (rs := [16]) (by kernel_rfl) (by simp) ?_
      refine AllReadyH.cons (o := { dst := none, op := Op.store 51 (Operand.tmp 8) (Operand.tmp 45), type := 0, pos := "ref.go:58", after := #[{ on := 15, ground := Ground.data }, { on := 14, ground := Ground.data }, { on := 0, ground := Ground.phase }, { on := 1, ground := Ground.phase }, { on := 2, ground := Ground.phase }, { on := 3, ground := Ground.phase }, { on := 4, ground := Ground.phase }, { on := 5, ground := Ground.phase }, { on := 6, ground := Ground.phase }, { on := 7, ground := Ground.phase }, { on := 8, ground := Ground.phase }, { on := 9, ground := Ground.phase }, { on := 10, ground := Ground.phase }, { on := 11, ground := Ground.phase }, { on := 12, ground := Ground.phase }, { on := 13, ground := Ground.phase }, { on := 14, ground := Ground.phase }, { on := 15, ground := Ground.phase }], guard := none }) rfl (fun K hK => ?_) AllReadyH.nil
      go_simp
      try dsimp only
      refine hK.out _ _ ?_ (fun hHeld => ?_)
      · exact ⟨(kgd.alloc _).cell 0, (kMd.alloc _).cell 0, (kMd.alloc _).cell 1, (kMd.alloc _).cell 2, (kMd.alloc _).cell 4, (kMd.alloc _).cell 5, (kMd.alloc _).cell 6, (kMd.alloc _).cell 7, (kMd.alloc _).cell 8, (kMd.alloc _).cell 9, (kMd.alloc _).cell 10⟩
      clear hK K
      try simp only [Act.put, List.setIfInBounds_toArray, List.set_cons_zero, List.set_cons_succ]
      refine wpAnyH_done (by kernel_rfl) ?_ _
      go_wp2_with fail
      go_meet
      exact ⟨wc.heap.size, rfl, hBc.size, Bk.new _ _ _, kMd.alloc _, hbc.alloc hbc.size _⟩
    case rest =>
      obtain ⟨x8, rfl, hx8, kX, kM, hB⟩ := hcut
      rename World => wb
      have hbs := hB.size
      have hxm : x8 ≠ w.heap.size := bk_ne kX kM (by decide)
      clear kgd kMd hqc hbc kMc hBc hne
      go_wp2_with fail
      go_loopw [9] (fun i wr => ∃ k : Nat, k ≤ L ∧ i = .int .i64 k ∧ ∃ A1 c1, Bk wr x8 51 #[.int .i64 ((rows.length : Int) + 1), .bool m.frm.null, .string m.frm.loc, .string m.frm.dom, .slice A1 k c1, .slice Al m.lines.length cl, .bool m.flags.head, .bool m.flags.body, .bool m.flags.bad, .int .i64 m.flags.lines, .int .i64 m.flags.hops, .int .i64 m.bytes] ∧ wr.ownsRow wb.heap.size 60 7 (.slice A1 k c1) k (((m.to.take k).map newR).flatMap Rc.cells) ∧ Only wb wr (fun j => j = x8)) (fun i _ => L - (intOf i).toNat)
      case atStart => exact ⟨0, Nat.zero_le _, rfl, none, 0, kX, World.ownsRow_nil _ _ _ _, Only.refl _ _⟩
      case round =>
        obtain ⟨k, hk, rfl, A1, c1, kX2, hown, hon⟩ := hrel
        have hsize := hon.size
        have kXlt := kX2.lt
        have kX4 := kX2.cell 4
        simp at kX4
        have kM2 : Bk wr w.heap.size 38 #[.bool m.frm.null, .string m.frm.loc, .string m.frm.dom, .slice At L ct, .slice Al m.lines.length cl, .bool m.flags.head, .bool m.flags.body, .bool m.flags.bad, .int .i64 m.flags.lines, .int .i64 m.flags.hops, .int .i64 m.bytes] := kM.same (hon.block w.heap.size kM.lt (fun e => hxm e.symm))
        have m3 := kM2.cell 3
        have lm := kM2.lt
        simp at m3
        by_cases hlt : k < L
        · have hlt' : k < m.to.length := by rw [← HL.out]; exact hlt
          have hz : (k : Int) < L := by omega
          have hBr := hB.trans (hon.below (B := w.heap.size) hB.size (fun j hj => by rw [hj]; exact hx8))
          obtain ⟨b, o, rfl, hb, p0, p1, p2⟩ := pth_cells (Ht.out.below hBr) hlt'
          have Hsn := Lib.hid (newR_take m.to k hlt')
          generalize hP : m.to[k] = P at *
          have HP := Lib.hid hP
          clear hP
          obtain ⟨pn, pl, pd⟩ := P
          dsimp only at p0 p1 p2
          have hsrc := Bk.new wr.drew 60 #[.bool pn, .string pl, .string pd, .int .i64 0, .int .i64 0, .int .i64 0, .int .i64 0]
          rw [World.size_drew] at hsrc
          have hown2 := (own_drew hown).alloc (.cells #[.bool pn, .string pl, .string pd, .int .i64 0, .int .i64 0, .int .i64 0, .int .i64 0] 60)
          have kX3 := (bk_drew kX2).alloc (.cells #[.bool pn, .string pl, .string pd, .int .i64 0, .int .i64 0, .int .i64 0, .int .i64 0] 60)
          have hon2 := hon.drew.alloc (.cells #[.bool pn, .string pl, .string pd, .int .i64 0, .int .i64 0, .int .i64 0, .int .i64 0] 60)
          have HB2 := Lib.hid ((Below.refl (w.heap.size + 1) wr).drew.alloc (by simp; omega) (.cells #[.bool pn, .string pl, .string pd, .int .i64 0, .int .i64 0, .int .i64 0, .int .i64 0] 60))
          have hS9' : ∀ W, Below (w.heap.size + 1) wr W → (fun w' : World => w'.cell? ⟨w.heap.size, 3, none⟩ = some (.slice (some ⟨b, o, none⟩) L ct) ∧ w'.cell? ⟨b, o + k * 3, none⟩ = some (.bool pn) ∧ w'.cell? ⟨b, o + k * 3 + 1, none⟩ = some (.string pl) ∧ w'.cell? ⟨b, o + k * 3 + 2, none⟩ = some (.string pd)) W := fun W bw => ⟨(bw.cell (p := ⟨w.heap.size, 3, none⟩) (Nat.lt_succ_self _)).trans m3, (bw.cell (p := ⟨b, o + k * 3, none⟩) (by simp; omega)).trans p0, (bw.cell (p := ⟨b, o + k * 3 + 1, none⟩) (by simp; omega)).trans p1, (bw.cell (p := ⟨b, o + k * 3 + 2, none⟩) (by simp; omega)).trans p2⟩
          have HS9 := Lib.hid hS9'
          have HWB := Lib.hid kM.lt
          have HXX := Lib.hid (show w.heap.size + 1 ≤ x8 by omega)
          clear hS9'
          go_upto_region 9 with fail
          refine wp_region_held_drew (S := fun w' : World => w'.cell? ⟨w.heap.size, 3, none⟩ = some (.slice (some ⟨b, o, none⟩) L ct) ∧ w'.cell? ⟨b, o + k * 3, none⟩ = some (.bool pn) ∧ w'.cell? ⟨b, o + k * 3 + 1, none⟩ = some (.string pl) ∧ w'.cell? ⟨b, o + k * 3 + 2, none⟩ = some (.string pd)) (by kernel_rfl) ?_ (fun hHeld => ?_)
          · exact HS9.out _ ((Below.refl _ wr).drew)
          refine wpAnyH_take (i := 0) (oi := { dst := some 53, op := Op.fieldAddr 51 (Operand.tmp 8) 2, type := 0, pos := "ref.go:60", after := #[], guard := none }) (v := ?_) rfl (by kernel_rfl) (by kernel_rfl) (by kernel_rfl) (fun _ _ _ h => h) (Or.inl ⟨by rfl, ?_⟩) (by assumption) ?_
          rotate_left
          · intro wS hSw; (try dsimp only at hSw); go_simp; (try with_reducible rfl)
          try simp only [Act.put, List.setIfInBounds_toArray, List.set_cons_zero, List.set_cons_succ]
          refine wpAnyH_take (i := 2) (oi := { dst := some 55, op := Op.fieldAddr 38 (Operand.tmp 4) 1, type := 0, pos := "ref.go:60", after := #[], guard := none }) (v := ?_) rfl (by kernel_rfl) (by kernel_rfl) (by kernel_rfl) (fun _ _ _ h => h) (Or.inl ⟨by rfl, ?_⟩) (by assumption) ?_
          rotate_left
          · intro wS hSw; (try dsimp only at hSw); go_simp; (try with_reducible rfl)
          try simp only [Act.put, List.setIfInBounds_toArray, List.set_cons_zero, List.set_cons_succ]
          refine wpAnyH_take (i := 3) (oi := { dst := some 56, op := Op.load 33 (Operand.tmp 55), type := 33, pos := "ref.go:60", after := #[{ on := 2, ground := Ground.data }], guard := none }) (v := ?_) rfl (by kernel_rfl) (by kernel_rfl) (by kernel_rfl) (fun _ _ _ h => h) (Or.inl ⟨by rfl, ?_⟩) (by assumption) ?_
          rotate_left
          · intro wS hSw; (try dsimp only at hSw); go_simp; (try with_reducible rfl)
          try simp only [Act.put, List.setIfInBounds_toArray, List.set_cons_zero, List.set_cons_succ]
          refine wpAnyH_take (i := 4) (oi := { dst := some 57, op := Op.move (Operand.tmp 9), type := 3, pos := "ref.go:60", after := #[], guard := none }) (v := ?_) rfl (by kernel_rfl) (by kernel_rfl) (by kernel_rfl) (fun _ _ _ h => h) (Or.inl ⟨by rfl, ?_⟩) (by assumption) ?_
          rotate_left
          · intro wS hSw; (try dsimp only at hSw); go_simp; (try with_reducible rfl)
          try simp only [Act.put, List.setIfInBounds_toArray, List.set_cons_zero, List.set_cons_succ]
          refine wpAnyH_take (i := 5) (oi := { dst := some 58, op := Op.indexAddr 33 (Operand.tmp 56) (Operand.tmp 57), type := 0, pos := "ref.go:60", after := #[{ on := 3, ground := Ground.data }, { on := 4, ground := Ground.data }], guard := none }) (v := ?_) rfl (by kernel_rfl) (by kernel_rfl) (by kernel_rfl) (fun _ _ _ h => h) (Or.inl ⟨by rfl, ?_⟩) (by assumption) ?_
          rotate_left
          · intro wS hSw; (try dsimp only at hSw); go_simp; (try with_reducible rfl)
          try simp only [Act.put, List.setIfInBounds_toArray, List.set_cons_zero, List.set_cons_succ]
          refine wpAnyH_take (i := 6) (oi := { dst := some 59, op := Op.load 32 (Operand.tmp 58), type := 32, pos := "ref.go:60", after := #[{ on := 5, ground := Ground.data }], guard := none }) (v := ?_) rfl (by kernel_rfl) (by kernel_rfl) (by kernel_rfl) (fun _ _ _ h => h) (Or.inl ⟨by rfl, ?_⟩) (by assumption) ?_
          rotate_left
          · intro wS hSw; (try dsimp only at hSw); go_simp; (try with_reducible rfl)
          try simp only [Act.put, List.setIfInBounds_toArray, List.set_cons_zero, List.set_cons_succ]
          refine wpAnyH_take (i := 7) (oi := { dst := some 60, op := Op.build 60 #[(0, Operand.tmp 59)], type := 60, pos := "ref.go:60", after := #[{ on := 6, ground := Ground.data }], guard := none }) (v := ?_) rfl (by kernel_rfl) (by kernel_rfl) (by kernel_rfl) (fun _ _ _ h => h) (Or.inl ⟨by rfl, ?_⟩) (by assumption) ?_
          rotate_left
          · intro wS hSw; (try dsimp only at hSw); go_simp; (try with_reducible rfl)
          try simp only [Act.put, List.setIfInBounds_toArray, List.set_cons_zero, List.set_cons_succ]
          refine wpAnyH_ready (rs := [1, 8]) (by kernel_rfl) (by simp) ?_
          refine AllReadyH.cons (o := { dst := some 54, op := Op.load 49 (Operand.tmp 53), type := 49, pos := "ref.go:60", after := #[{ on := 0, ground := Ground.data }], guard := none }) rfl (fun K hK => ?_) (AllReadyH.cons (o := { dst := some 61, op := Op.buildSlice 49 1 #[(0, Operand.tmp 60)], type := 49, pos := "ref.go:60", after := #[{ on := 7, ground := Ground.data }], guard := none }) rfl (fun K hK => ?_) (AllReadyH.nil))
          · go_simp
            try dsimp only
            refine hK.out _ _ ?_ (fun hHeld => ?_)
            · exact HS9.out _ ((Below.refl _ wr).drew)
            clear hK K
            try simp only [Act.put, List.setIfInBounds_toArray, List.set_cons_zero, List.set_cons_succ]
            refine wpAnyH_ready (rs := [8]) (by kernel_rfl) (by simp) ?_
            refine AllReadyH.cons (o := { dst := some 61, op := Op.buildSlice 49 1 #[(0, Operand.tmp 60)], type := 49, pos := "ref.go:60", after := #[{ on := 7, ground := Ground.data }], guard := none }) rfl (fun K hK => ?_) AllReadyH.nil
            go_simp
            try dsimp only
            refine hK.out _ _ ?_ (fun hHeld => ?_)
            · exact HS9.out _ (HB2.out)
            clear hK K
            try simp only [Act.put, List.setIfInBounds_toArray, List.set_cons_zero, List.set_cons_succ]
            refine wpAnyH_ready (rs := [9]) (by kernel_rfl) (by simp) ?_
            refine AllReadyH.cons (o := { dst := some 62, op := Op.call { callee := Callee.builtin Builtin.append, args := #[Operand.tmp 54, Operand.tmp 61], argTypes := #[49, 49] }, type := 49, pos := "ref.go:60", after := #[{ on := 1, ground := Ground.data }, { on := 8, ground := Ground.data }], guard := none }) rfl (fun K hK => ?_) AllReadyH.nil
            refine step_rc (.tmp 54) (.tmp 61) rfl rfl wb.heap.size (.slice A1 k c1) k (((m.to.take k).map newR).flatMap Rc.cells) rfl hown2 wr.heap.size (newR ⟨pn, pl, pd⟩) rfl hsrc (by omega) (by simp; omega) (wr.heap.size + 1) (by simp) ?_
            intro g' cap w1 hown1 hgrow hat hlt1
            try dsimp only
            have b1 := Lib.hid (HB2.out.grown hgrow (by simp; omega) (fun j hj => by have := (hown2.lt j hj).1; have := HWB.out; omega))
            refine hK.out _ _ ?_ (fun hHeld => ?_)
            · exact HS9.out _ (b1.out)
            clear hK K
            try simp only [Act.put, List.setIfInBounds_toArray, List.set_cons_zero, List.set_cons_succ]
            have kX5 := kX3.grown hgrow (fun e => own_ne hown2 kX3 (by decide) e.symm)
            have e4 := kX5.cell 4
            have f4 := kX5.frozen 4
            simp at e4
            refine wpAnyH_take (i := 10) (oi := { dst := some 63, op := Op.fieldAddr 51 (Operand.tmp 8) 2, type := 0, pos := "ref.go:60", after := #[{ on := 0, ground := Ground.phase }, { on := 1, ground := Ground.phase }, { on := 2, ground := Ground.phase }, { on := 3, ground := Ground.phase }, { on := 4, ground := Ground.phase }, { on := 5, ground := Ground.phase }, { on := 6, ground := Ground.phase }, { on := 7, ground := Ground.phase }, { on := 8, ground := Ground.phase }, { on := 9, ground := Ground.phase }], guard := none }) (v := ?_) rfl (by kernel_rfl) (by kernel_rfl) (by kernel_rfl) (fun _ _ _ h => h) (Or.inl ⟨by rfl, ?_⟩) (by assumption) ?_
            rotate_left
            · intro wS hSw; (try dsimp only at hSw); go_simp; (try with_reducible rfl)
            try simp only [Act.put, List.setIfInBounds_toArray, List.set_cons_zero, List.set_cons_succ]
            refine wpAnyH_ready (rs := [11]) (by kernel_rfl) (by simp) ?_
            refine AllReadyH.cons (o := { dst := none, op := Op.store 49 (Operand.tmp 63) (Operand.tmp 62), type := 0, pos := "ref.go:60", after := #[{ on := 10, ground := Ground.data }, { on := 9, ground := Ground.data }, { on := 9, ground := Ground.chain }, { on := 0, ground := Ground.phase }, { on := 1, ground := Ground.phase }, { on := 2, ground := Ground.phase }, { on := 3, ground := Ground.phase }, { on := 4, ground := Ground.phase }, { on := 5, ground := Ground.phase }, { on := 6, ground := Ground.phase }, { on := 7, ground := Ground.phase }, { on := 8, ground := Ground.phase }, { on := 9, ground := Ground.phase }], guard := none }) rfl (fun K hK => ?_) AllReadyH.nil
            go_simp
            try dsimp only
            refine hK.out _ _ ?_ (fun hHeld => ?_)
            · exact (HS9.out _ (below_set b1.out HXX.out _))
            clear hK K
            try simp only [Act.put, List.setIfInBounds_toArray, List.set_cons_zero, List.set_cons_succ]
            refine wpAnyH_done (by kernel_rfl) ?_ _
            have hk5 := kX5.set_ 4 (.slice (some ⟨g', 0, none⟩) (k + 1) cap)
            simp at hk5
            go_wp2_with fail
            refine ⟨⟨k + 1, by omega, by go_num, _, _, hk5, ?_, ?_⟩, by simp [intOf]; omega⟩
            · rw [Hsn.out]
              exact own_set hown1 (p := ⟨x8, 4, none⟩) (own_ne hown1 kX5 (by decide)) _
            · exact (hon2.grown hgrow (fun j hj hlt2 => by have := (hown2.lt j hj).1; omega)).setCell (p := ⟨x8, 4, none⟩) rfl _
          · go_simp
            try dsimp only
            refine hK.out _ _ ?_ (fun hHeld => ?_)
            · exact HS9.out _ (HB2.out)
            clear hK K
            try simp only [Act.put, List.setIfInBounds_toArray, List.set_cons_zero, List.set_cons_succ]
            refine wpAnyH_ready (rs := [1]) (by kernel_rfl) (by simp) ?_
            refine AllReadyH.cons (o := { dst := some 54, op := Op.load 49 (Operand.tmp 53), type := 49, pos := "ref.go:60", after := #[{ on := 0, ground := Ground.data }], guard := none }) rfl (fun K hK => ?_) AllReadyH.nil
            go_simp
            try dsimp only
            refine hK.out _ _ ?_ (fun hHeld => ?_)
            · exact HS9.out _ (HB2.out)
            clear hK K
            try simp only [Act.put, List.setIfInBounds_toArray, List.set_cons_zero, List.set_cons_succ]
            refine wpAnyH_ready (rs := [9]) (by kernel_rfl) (by simp) ?_
            refine AllReadyH.cons (o := { dst := some 62, op := Op.call { callee := Callee.builtin Builtin.append, args := #[Operand.tmp 54, Operand.tmp 61], argTypes := #[49, 49] }, type := 49, pos := "ref.go:60", after := #[{ on := 1, ground := Ground.data }, { on := 8, ground := Ground.data }], guard := none }) rfl (fun K hK => ?_) AllReadyH.nil
            refine step_rc (.tmp 54) (.tmp 61) rfl rfl wb.heap.size (.slice A1 k c1) k (((m.to.take k).map newR).flatMap Rc.cells) rfl hown2 wr.heap.size (newR ⟨pn, pl, pd⟩) rfl hsrc (by omega) (by simp; omega) (wr.heap.size + 1) (by simp) ?_
            intro g' cap w1 hown1 hgrow hat hlt1
            try dsimp only
            have b1 := Lib.hid (HB2.out.grown hgrow (by simp; omega) (fun j hj => by have := (hown2.lt j hj).1; have := HWB.out; omega))
            refine hK.out _ _ ?_ (fun hHeld => ?_)
            · exact HS9.out _ (b1.out)
            clear hK K
            try simp only [Act.put, List.setIfInBounds_toArray, List.set_cons_zero, List.set_cons_succ]
            have kX5 := kX3.grown hgrow (fun e => own_ne hown2 kX3 (by decide) e.symm)
            have e4 := kX5.cell 4
            have f4 := kX5.frozen 4
            simp at e4
            refine wpAnyH_take (i := 10) (oi := { dst := some 63, op := Op.fieldAddr 51 (Operand.tmp 8) 2, type := 0, pos := "ref.go:60", after := #[{ on := 0, ground := Ground.phase }, { on := 1, ground := Ground.phase }, { on := 2, ground := Ground.phase }, { on := 3, ground := Ground.phase }, { on := 4, ground := Ground.phase }, { on := 5, ground := Ground.phase }, { on := 6, ground := Ground.phase }, { on := 7, ground := Ground.phase }, { on := 8, ground := Ground.phase }, { on := 9, ground := Ground.phase }], guard := none }) (v := ?_) rfl (by kernel_rfl) (by kernel_rfl) (by kernel_rfl) (fun _ _ _ h => h) (Or.inl ⟨by rfl, ?_⟩) (by assumption) ?_
            rotate_left
            · intro wS hSw; (try dsimp only at hSw); go_simp; (try with_reducible rfl)
            try simp only [Act.put, List.setIfInBounds_toArray, List.set_cons_zero, List.set_cons_succ]
            refine wpAnyH_ready (rs := [11]) (by kernel_rfl) (by simp) ?_
            refine AllReadyH.cons (o := { dst := none, op := Op.store 49 (Operand.tmp 63) (Operand.tmp 62), type := 0, pos := "ref.go:60", after := #[{ on := 10, ground := Ground.data }, { on := 9, ground := Ground.data }, { on := 9, ground := Ground.chain }, { on := 0, ground := Ground.phase }, { on := 1, ground := Ground.phase }, { on := 2, ground := Ground.phase }, { on := 3, ground := Ground.phase }, { on := 4, ground := Ground.phase }, { on := 5, ground := Ground.phase }, { on := 6, ground := Ground.phase }, { on := 7, ground := Ground.phase }, { on := 8, ground := Ground.phase }, { on := 9, ground := Ground.phase }], guard := none }) rfl (fun K hK => ?_) AllReadyH.nil
            go_simp
            try dsimp only
            refine hK.out _ _ ?_ (fun hHeld => ?_)
            · exact (HS9.out _ (below_set b1.out HXX.out _))
            clear hK K
            try simp only [Act.put, List.setIfInBounds_toArray, List.set_cons_zero, List.set_cons_succ]
            refine wpAnyH_done (by kernel_rfl) ?_ _
            have hk5 := kX5.set_ 4 (.slice (some ⟨g', 0, none⟩) (k + 1) cap)
            simp at hk5
            go_wp2_with fail
            refine ⟨⟨k + 1, by omega, by go_num, _, _, hk5, ?_, ?_⟩, by simp [intOf]; omega⟩
            · rw [Hsn.out]
              exact own_set hown1 (p := ⟨x8, 4, none⟩) (own_ne hown1 kX5 (by decide)) _
            · exact (hon2.grown hgrow (fun j hj hlt2 => by have := (hown2.lt j hj).1; omega)).setCell (p := ⟨x8, 4, none⟩) rfl _
        · obtain rfl : L = k := by omega
          have hBr := hB.trans (hon.below (B := w.heap.size) hB.size (fun j hj => by rw [hj]; exact hx8))
          have HBr := Lib.hid hBr
          have hqr := H.out.below hBr
          have htk : m.to.take L = m.to := List.take_of_length_le (by rw [HL.out]; exact Nat.le_refl _)
          have hnew : newI (rows.map Row.it) m = ⟨(rows.length : Int) + 1, m.frm, m.to.map newR, m.lines, m.flags, m.bytes⟩ := by simp [newI]
          have HNW := Lib.hid hnew
          have kgr := bk_drew hqr.blk
          have HRow := Lib.hid (own_drew hqr.row)
          have gc := hqr.blk.cell 0
          simp at gc
          have G := hqr.blk.lt
          have hx8v : (Value.slice Aq rows.length cq).ownBlock ≠ some x8 := fun e => by have := (H.out.row.lt x8 e).2; omega
          have hx8g : x8 ≠ g := fun e => by have := H.out.blk.lt; omega
          have hcp : Calls Try.prog 32 #[.agg #[.int .i64 ((rows.length : Int) + 1), .bool m.frm.null, .string m.frm.loc, .string m.frm.dom, .slice A1 L c1, .slice Al m.lines.length cl, .bool m.flags.head, .bool m.flags.body, .bool m.flags.bad, .int .i64 m.flags.lines, .int .i64 m.flags.hops, .int .i64 m.bytes]] wr.drew fun e w' => ∃ tv lv, e = .returned (.agg (Row.cells ⟨⟨(rows.length : Int) + 1, m.frm, m.to.map newR, m.lines, m.flags, m.bytes⟩, tv, lv⟩).toArray) ∧ Own w' wr.drew.heap.size ⟨⟨(rows.length : Int) + 1, m.frm, m.to.map newR, m.lines, m.flags, m.bytes⟩, tv, lv⟩ ∧ Below wr.drew.heap.size wr.drew w' := by
            have h2 := copy_any wr.drew 0 ⟨(rows.length : Int) + 1, m.frm, m.to.map newR, m.lines, m.flags, m.bytes⟩ A1 Al c1 cl (own_rd7 (own_drew (by rw [htk] at hown; exact hown))) (((Hr.out.below hBr.drew).more hBr.size)) (by simp only [List.length_map, ← HL.out]; omega) (by simp only; omega)
            simp only [Row.cells, List.length_map, ← HL.out] at h2
            exact h2
          simp only [Row.cells] at hcp
          have HCP := Lib.hid hcp
          clear hnew hqr htk hown hBr hcp
          go_upto_region 10 with fail
          refine wp_region_held_drew (S := fun w' : World => w'.cell? ⟨x8, 0, none⟩ = some (.int .i64 ((rows.length : Int) + 1)) ∧ w'.cell? ⟨x8, 1, none⟩ = some (.bool m.frm.null) ∧ w'.cell? ⟨x8, 2, none⟩ = some (.string m.frm.loc) ∧ w'.cell? ⟨x8, 3, none⟩ = some (.string m.frm.dom) ∧ w'.cell? ⟨x8, 4, none⟩ = some (.slice A1 L c1) ∧ w'.cell? ⟨x8, 5, none⟩ = some (.slice Al m.lines.length cl) ∧ w'.cell? ⟨x8, 6, none⟩ = some (.bool m.flags.head) ∧ w'.cell? ⟨x8, 7, none⟩ = some (.bool m.flags.body) ∧ w'.cell? ⟨x8, 8, none⟩ = some (.bool m.flags.bad) ∧ w'.cell? ⟨x8, 9, none⟩ = some (.int .i64 m.flags.lines) ∧ w'.cell? ⟨x8, 10, none⟩ = some (.int .i64 m.flags.hops) ∧ w'.cell? ⟨x8, 11, none⟩ = some (.int .i64 m.bytes)) (by kernel_rfl) ?_ (fun hHeld => ?_)
          · exact ⟨kX2.cell 0, kX2.cell 1, kX2.cell 2, kX2.cell 3, kX2.cell 4, kX2.cell 5, kX2.cell 6, kX2.cell 7, kX2.cell 8, kX2.cell 9, kX2.cell 10, kX2.cell 11⟩
          refine wpAnyH_take (i := 0) (oi := { dst := some 64, op := Op.move (Operand.tmp 0), type := 27, pos := "ref.go:62", after := #[], guard := none }) (v := ?_) rfl (by kernel_rfl) (by kernel_rfl) (by kernel_rfl) (fun _ _ _ h => h) (Or.inl ⟨by rfl, ?_⟩) (by assumption) ?_
          rotate_left
          · intro wS hSw; (try dsimp only at hSw); go_simp; (try with_reducible rfl)
          try simp only [Act.put, List.setIfInBounds_toArray, List.set_cons_zero, List.set_cons_succ]
          refine wpAnyH_take (i := 1) (oi := { dst := some 65, op := Op.move (Operand.tmp 0), type := 27, pos := "ref.go:62", after := #[], guard := none }) (v := ?_) rfl (by kernel_rfl) (by kernel_rfl) (by kernel_rfl) (fun _ _ _ h => h) (Or.inl ⟨by rfl, ?_⟩) (by assumption) ?_
          rotate_left
          · intro wS hSw; (try dsimp only at hSw); go_simp; (try with_reducible rfl)
          try simp only [Act.put, List.setIfInBounds_toArray, List.set_cons_zero, List.set_cons_succ]
          refine wpAnyH_take (i := 2) (oi := { dst := some 66, op := Op.nilCheck (Operand.tmp 65), type := 0, pos := "ref.go:62", after := #[{ on := 1, ground := Ground.data }], guard := none }) (v := ?_) rfl (by kernel_rfl) (by kernel_rfl) (by kernel_rfl) (fun _ _ _ h => h) (Or.inl ⟨by rfl, ?_⟩) (by assumption) ?_
          rotate_left
          · intro wS hSw; (try dsimp only at hSw); go_simp; (try with_reducible rfl)
          try simp only [Act.put, List.setIfInBounds_toArray, List.set_cons_zero, List.set_cons_succ]
          refine wpAnyH_take (i := 3) (oi := { dst := some 67, op := Op.fieldAddr 56 (Operand.tmp 66) 0, type := 0, pos := "ref.go:62", after := #[{ on := 2, ground := Ground.data }], guard := none }) (v := ?_) rfl (by kernel_rfl) (by kernel_rfl) (by kernel_rfl) (fun _ _ _ h => h) (Or.inl ⟨by rfl, ?_⟩) (by assumption) ?_
          rotate_left
          · intro wS hSw; (try dsimp only at hSw); go_simp; (try with_reducible rfl)
          try simp only [Act.put, List.setIfInBounds_toArray, List.set_cons_zero, List.set_cons_succ]
          refine wpAnyH_take (i := 5) (oi := { dst := some 69, op := Op.load 51 (Operand.tmp 8), type := 51, pos := "ref.go:62", after := #[], guard := none }) (v := ?_) rfl (by kernel_rfl) (by kernel_rfl) (by kernel_rfl) (fun _ _ _ h => h) (Or.inl ⟨by rfl, ?_⟩) (by assumption) ?_
          rotate_left
          · intro wS hSw; (try dsimp only at hSw); go_simp; (try with_reducible rfl)
          try simp only [Act.put, List.setIfInBounds_toArray, List.set_cons_zero, List.set_cons_succ]
          refine wpAnyH_ready (rs := [4, 6]) (by kernel_rfl) (by simp) ?_
          refine AllReadyH.cons (o := { dst := some 68, op := Op.load 54 (Operand.tmp 67), type := 54, pos := "ref.go:62", after := #[{ on := 3, ground := Ground.data }], guard := none }) rfl (fun K hK => ?_) (AllReadyH.cons (o := { dst := some 70, op := Op.call { callee := Callee.value (Operand.func 32), args := #[Operand.tmp 69], argTypes := #[51] }, type := 51, pos := "ref.go:62", after := #[{ on := 5, ground := Ground.data }], guard := none }) rfl (fun K hK => ?_) (AllReadyH.nil))
          · go_simp
            try dsimp only
            refine hK.out _ _ ?_ (fun hHeld => ?_)
            · exact ⟨kX2.cell 0, kX2.cell 1, kX2.cell 2, kX2.cell 3, kX2.cell 4, kX2.cell 5, kX2.cell 6, kX2.cell 7, kX2.cell 8, kX2.cell 9, kX2.cell 10, kX2.cell 11⟩
            clear hK K
            try simp only [Act.put, List.setIfInBounds_toArray, List.set_cons_zero, List.set_cons_succ]
            refine wpAnyH_ready (rs := [6]) (by kernel_rfl) (by simp) ?_
            refine AllReadyH.cons (o := { dst := some 70, op := Op.call { callee := Callee.value (Operand.func 32), args := #[Operand.tmp 69], argTypes := #[51] }, type := 51, pos := "ref.go:62", after := #[{ on := 5, ground := Ground.data }], guard := none }) rfl (fun K hK => ?_) AllReadyH.nil
            go_simp
            refine HCP.out.mono ?_
            rintro e w8 ⟨tv, lv, rfl, hown8, b8⟩
            obtain ⟨t8, l8⟩ := hown8
            dsimp only at t8 l8
            simp only [List.length_map] at t8
            rw [← HL.out] at t8
            obtain ⟨A3, c3, rfl⟩ := own_any t8
            obtain ⟨A4, c4, rfl⟩ := own_any l8
            have kx8 := (bk_drew kX2).below b8 kXlt
            have bR8 := Lib.hid (HBr.out.drew.trans (b8.mono HBr.out.size))
            have kg8 := kgr.below b8 kgr.lt
            have row8 := own_only (S := fun _ => False) HRow.out (Only.of_below b8) (fun _ _ h => h)
            have G8 := kg8.lt
            have gc8 := kg8.cell 0
            simp at gc8
            have T8 := Lib.hid t8
            have L8 := Lib.hid l8
            have z8 := Lib.hid b8.size
            clear t8 l8 b8
            try dsimp only
            refine hK.out _ _ ?_ (fun hHeld => ?_)
            · exact ⟨kx8.cell 0, kx8.cell 1, kx8.cell 2, kx8.cell 3, kx8.cell 4, kx8.cell 5, kx8.cell 6, kx8.cell 7, kx8.cell 8, kx8.cell 9, kx8.cell 10, kx8.cell 11⟩
            clear hK K
            try simp only [Act.put, List.setIfInBounds_toArray, List.set_cons_zero, List.set_cons_succ]
            refine wpAnyH_ready (rs := [7]) (by kernel_rfl) (by simp) ?_
            refine AllReadyH.cons (o := { dst := some 71, op := Op.buildSlice 54 1 #[(0, Operand.tmp 70)], type := 54, pos := "ref.go:62", after := #[{ on := 6, ground := Ground.data }], guard := none }) rfl (fun K hK => ?_) AllReadyH.nil
            go_simp
            try dsimp only
            refine hK.out _ _ ?_ (fun hHeld => ?_)
            · exact ⟨(kx8.alloc _).cell 0, (kx8.alloc _).cell 1, (kx8.alloc _).cell 2, (kx8.alloc _).cell 3, (kx8.alloc _).cell 4, (kx8.alloc _).cell 5, (kx8.alloc _).cell 6, (kx8.alloc _).cell 7, (kx8.alloc _).cell 8, (kx8.alloc _).cell 9, (kx8.alloc _).cell 10, (kx8.alloc _).cell 11⟩
            clear hK K
            try simp only [Act.put, List.setIfInBounds_toArray, List.set_cons_zero, List.set_cons_succ]
            have hrow2 := row8.alloc (.cells #[.int .i64 ((rows.length : Int) + 1), .bool m.frm.null, .string m.frm.loc, .string m.frm.dom, .slice A3 L c3, .slice A4 m.lines.length c4, .bool m.flags.head, .bool m.flags.body, .bool m.flags.bad, .int .i64 m.flags.lines, .int .i64 m.flags.hops, .int .i64 m.bytes] 51)
            have hsrc := Bk.new w8 51 #[.int .i64 ((rows.length : Int) + 1), .bool m.frm.null, .string m.frm.loc, .string m.frm.dom, .slice A3 L c3, .slice A4 m.lines.length c4, .bool m.flags.head, .bool m.flags.body, .bool m.flags.bad, .int .i64 m.flags.lines, .int .i64 m.flags.hops, .int .i64 m.bytes]
            have kg2 := kg8.alloc (.cells #[.int .i64 ((rows.length : Int) + 1), .bool m.frm.null, .string m.frm.loc, .string m.frm.dom, .slice A3 L c3, .slice A4 m.lines.length c4, .bool m.flags.head, .bool m.flags.body, .bool m.flags.bad, .int .i64 m.flags.lines, .int .i64 m.flags.hops, .int .i64 m.bytes] 51)
            have kx2 := kx8.alloc (.cells #[.int .i64 ((rows.length : Int) + 1), .bool m.frm.null, .string m.frm.loc, .string m.frm.dom, .slice A3 L c3, .slice A4 m.lines.length c4, .bool m.flags.head, .bool m.flags.body, .bool m.flags.bad, .int .i64 m.flags.lines, .int .i64 m.flags.hops, .int .i64 m.bytes] 51)
            have hbase : B ≤ (w8.alloc (.cells #[.int .i64 ((rows.length : Int) + 1), .bool m.frm.null, .string m.frm.loc, .string m.frm.dom, .slice A3 L c3, .slice A4 m.lines.length c4, .bool m.flags.head, .bool m.flags.body, .bool m.flags.bad, .int .i64 m.flags.lines, .int .i64 m.flags.hops, .int .i64 m.bytes] 51)).heap.size := by have := H.out.ge; have := kg8.lt; simp; omega
            refine wpAnyH_ready (rs := [8]) (by kernel_rfl) (by simp) ?_
            refine AllReadyH.cons (o := { dst := some 72, op := Op.call { callee := Callee.builtin Builtin.append, args := #[Operand.tmp 68, Operand.tmp 71], argTypes := #[54, 54] }, type := 54, pos := "ref.go:62", after := #[{ on := 4, ground := Ground.data }, { on := 7, ground := Ground.data }, { on := 6, ground := Ground.chain }], guard := none }) rfl (fun K hK => ?_) AllReadyH.nil
            refine step_it (.tmp 68) (.tmp 71) rfl rfl B (.slice Aq rows.length cq) rows.length (rows.flatMap Row.cells) rfl hrow2 w8.heap.size ⟨⟨(rows.length : Int) + 1, m.frm, m.to.map newR, m.lines, m.flags, m.bytes⟩, .slice A3 L c3, .slice A4 m.lines.length c4⟩ rfl hsrc rfl rfl (by omega) hbase (w8.heap.size + 1) (by simp) ?_
            intro g' cap w1 hown1 hgrow hat hlt1
            try dsimp only
            have kx1 := kx2.grown hgrow (fun e => hx8v e.symm)
            refine hK.out _ _ ?_ (fun hHeld => ?_)
            · exact ⟨kx1.cell 0, kx1.cell 1, kx1.cell 2, kx1.cell 3, kx1.cell 4, kx1.cell 5, kx1.cell 6, kx1.cell 7, kx1.cell 8, kx1.cell 9, kx1.cell 10, kx1.cell 11⟩
            clear hK K
            try simp only [Act.put, List.setIfInBounds_toArray, List.set_cons_zero, List.set_cons_succ]
            have kg1 := kg2.grown hgrow (fun e => own_ne hrow2 kg2 (by decide) e.symm)
            have e0 := kg1.cell 0
            have f0 := kg1.frozen 0
            simp at e0
            have kxf := kx1.far (p := ⟨g, 0, none⟩) hx8g (.slice (some ⟨g', 0, none⟩) (rows.length + 1) cap)
            have efin := kxf.cell 0
            simp at efin
            have htv8 : w8.ownsRow wr.heap.size 60 7 (.slice A3 L c3) (m.to.map newR).length ((m.to.map newR).flatMap Rc.cells) := by rw [List.length_map, ← HL.out]; exact T8.out
            have hfin := radd_fin H.out bR8.out (it := ⟨(rows.length : Int) + 1, m.frm, m.to.map newR, m.lines, m.flags, m.bytes⟩) (nb := wr.heap.size) HBr.out.size htv8 (own_base L8.out HBr.out.size) hown1 (((Only.refl w8 _).alloc _).grown hgrow (fun k hk _ => hk)) (hat.imp id (fun h => by have := bR8.out.size; omega))
            have Hfin := Lib.hid hfin
            clear hfin hown1 hgrow hat htv8
            refine wpAnyH_take (i := 9) (oi := { dst := some 73, op := Op.nilCheck (Operand.tmp 64), type := 0, pos := "ref.go:62", after := #[{ on := 0, ground := Ground.data }, { on := 0, ground := Ground.phase }, { on := 1, ground := Ground.phase }, { on := 2, ground := Ground.phase }, { on := 3, ground := Ground.phase }, { on := 4, ground := Ground.phase }, { on := 5, ground := Ground.phase }, { on := 6, ground := Ground.phase }, { on := 7, ground := Ground.phase }, { on := 8, ground := Ground.phase }], guard := none }) (v := ?_) rfl (by kernel_rfl) (by kernel_rfl) (by kernel_rfl) (fun _ _ _ h => h) (Or.inl ⟨by rfl, ?_⟩) (by assumption) ?_
            rotate_left
            · intro wS hSw; (try dsimp only at hSw); go_simp; (try with_reducible rfl)
            try simp only [Act.put, List.setIfInBounds_toArray, List.set_cons_zero, List.set_cons_succ]
            refine wpAnyH_take (i := 10) (oi := { dst := some 74, op := Op.fieldAddr 56 (Operand.tmp 73) 0, type := 0, pos := "ref.go:62", after := #[{ on := 9, ground := Ground.data }, { on := 0, ground := Ground.phase }, { on := 1, ground := Ground.phase }, { on := 2, ground := Ground.phase }, { on := 3, ground := Ground.phase }, { on := 4, ground := Ground.phase }, { on := 5, ground := Ground.phase }, { on := 6, ground := Ground.phase }, { on := 7, ground := Ground.phase }, { on := 8, ground := Ground.phase }], guard := none }) (v := ?_) rfl (by kernel_rfl) (by kernel_rfl) (by kernel_rfl) (fun _ _ _ h => h) (Or.inl ⟨by rfl, ?_⟩) (by assumption) ?_
            rotate_left
            · intro wS hSw; (try dsimp only at hSw); go_simp; (try with_reducible rfl)
            try simp only [Act.put, List.setIfInBounds_toArray, List.set_cons_zero, List.set_cons_succ]
            refine wpAnyH_ready (rs := [11]) (by kernel_rfl) (by simp) ?_
            refine AllReadyH.cons (o := { dst := none, op := Op.store 54 (Operand.tmp 74) (Operand.tmp 72), type := 0, pos := "ref.go:62", after := #[{ on := 10, ground := Ground.data }, { on := 8, ground := Ground.data }, { on := 8, ground := Ground.chain }, { on := 0, ground := Ground.phase }, { on := 1, ground := Ground.phase }, { on := 2, ground := Ground.phase }, { on := 3, ground := Ground.phase }, { on := 4, ground := Ground.phase }, { on := 5, ground := Ground.phase }, { on := 6, ground := Ground.phase }, { on := 7, ground := Ground.phase }, { on := 8, ground := Ground.phase }], guard := none }) rfl (fun K hK => ?_) AllReadyH.nil
            go_simp
            try dsimp only
            refine hK.out _ _ ?_ (fun hHeld => ?_)
            · exact ⟨kxf.cell 0, kxf.cell 1, kxf.cell 2, kxf.cell 3, kxf.cell 4, kxf.cell 5, kxf.cell 6, kxf.cell 7, kxf.cell 8, kxf.cell 9, kxf.cell 10, kxf.cell 11⟩
            clear hK K
            try simp only [Act.put, List.setIfInBounds_toArray, List.set_cons_zero, List.set_cons_succ]
            refine wpAnyH_done (by kernel_rfl) ?_ _
            go_wp2_with fail
            go_ret2
            exact ⟨rfl, by rw [HNW.out]; exact Hfin.out⟩
          · go_simp
            refine HCP.out.mono ?_
            rintro e w8 ⟨tv, lv, rfl, hown8, b8⟩
            obtain ⟨t8, l8⟩ := hown8
            dsimp only at t8 l8
            simp only [List.length_map] at t8
            rw [← HL.out] at t8
            obtain ⟨A3, c3, rfl⟩ := own_any t8
            obtain ⟨A4, c4, rfl⟩ := own_any l8
            have kx8 := (bk_drew kX2).below b8 kXlt
            have bR8 := Lib.hid (HBr.out.drew.trans (b8.mono HBr.out.size))
            have kg8 := kgr.below b8 kgr.lt
            have row8 := own_only (S := fun _ => False) HRow.out (Only.of_below b8) (fun _ _ h => h)
            have G8 := kg8.lt
            have gc8 := kg8.cell 0
            simp at gc8
            have T8 := Lib.hid t8
            have L8 := Lib.hid l8
            have z8 := Lib.hid b8.size
            clear t8 l8 b8
            try dsimp only
            refine hK.out _ _ ?_ (fun hHeld => ?_)
            · exact ⟨kx8.cell 0, kx8.cell 1, kx8.cell 2, kx8.cell 3, kx8.cell 4, kx8.cell 5, kx8.cell 6, kx8.cell 7, kx8.cell 8, kx8.cell 9, kx8.cell 10, kx8.cell 11⟩
            clear hK K
            try simp only [Act.put, List.setIfInBounds_toArray, List.set_cons_zero, List.set_cons_succ]
            refine wpAnyH_ready (rs := [4, 7]) (by kernel_rfl) (by simp) ?_
            refine AllReadyH.cons (o := { dst := some 68, op := Op.load 54 (Operand.tmp 67), type := 54, pos := "ref.go:62", after := #[{ on := 3, ground := Ground.data }], guard := none }) rfl (fun K hK => ?_) (AllReadyH.cons (o := { dst := some 71, op := Op.buildSlice 54 1 #[(0, Operand.tmp 70)], type := 54, pos := "ref.go:62", after := #[{ on := 6, ground := Ground.data }], guard := none }) rfl (fun K hK => ?_) (AllReadyH.nil))
            · go_simp
              try dsimp only
              refine hK.out _ _ ?_ (fun hHeld => ?_)
              · exact ⟨kx8.cell 0, kx8.cell 1, kx8.cell 2, kx8.cell 3, kx8.cell 4, kx8.cell 5, kx8.cell 6, kx8.cell 7, kx8.cell 8, kx8.cell 9, kx8.cell 10, kx8.cell 11⟩
              clear hK K
              try simp only [Act.put, List.setIfInBounds_toArray, List.set_cons_zero, List.set_cons_succ]
              refine wpAnyH_ready (rs := [7]) (by kernel_rfl) (by simp) ?_
              refine AllReadyH.cons (o := { dst := some 71, op := Op.buildSlice 54 1 #[(0, Operand.tmp 70)], type := 54, pos := "ref.go:62", after := #[{ on := 6, ground := Ground.data }], guard := none }) rfl (fun K hK => ?_) AllReadyH.nil
              go_simp
              try dsimp only
              refine hK.out _ _ ?_ (fun hHeld => ?_)
              · exact ⟨(kx8.alloc _).cell 0, (kx8.alloc _).cell 1, (kx8.alloc _).cell 2, (kx8.alloc _).cell 3, (kx8.alloc _).cell 4, (kx8.alloc _).cell 5, (kx8.alloc _).cell 6, (kx8.alloc _).cell 7, (kx8.alloc _).cell 8, (kx8.alloc _).cell 9, (kx8.alloc _).cell 10, (kx8.alloc _).cell 11⟩
              clear hK K
              try simp only [Act.put, List.setIfInBounds_toArray, List.set_cons_zero, List.set_cons_succ]
              have hrow2 := row8.alloc (.cells #[.int .i64 ((rows.length : Int) + 1), .bool m.frm.null, .string m.frm.loc, .string m.frm.dom, .slice A3 L c3, .slice A4 m.lines.length c4, .bool m.flags.head, .bool m.flags.body, .bool m.flags.bad, .int .i64 m.flags.lines, .int .i64 m.flags.hops, .int .i64 m.bytes] 51)
              have hsrc := Bk.new w8 51 #[.int .i64 ((rows.length : Int) + 1), .bool m.frm.null, .string m.frm.loc, .string m.frm.dom, .slice A3 L c3, .slice A4 m.lines.length c4, .bool m.flags.head, .bool m.flags.body, .bool m.flags.bad, .int .i64 m.flags.lines, .int .i64 m.flags.hops, .int .i64 m.bytes]
              have kg2 := kg8.alloc (.cells #[.int .i64 ((rows.length : Int) + 1), .bool m.frm.null, .string m.frm.loc, .string m.frm.dom, .slice A3 L c3, .slice A4 m.lines.length c4, .bool m.flags.head, .bool m.flags.body, .bool m.flags.bad, .int .i64 m.flags.lines, .int .i64 m.flags.hops, .int .i64 m.bytes] 51)
              have kx2 := kx8.alloc (.cells #[.int .i64 ((rows.length : Int) + 1), .bool m.frm.null, .string m.frm.loc, .string m.frm.dom, .slice A3 L c3, .slice A4 m.lines.length c4, .bool m.flags.head, .bool m.flags.body, .bool m.flags.bad, .int .i64 m.flags.lines, .int .i64 m.flags.hops, .int .i64 m.bytes] 51)
              have hbase : B ≤ (w8.alloc (.cells #[.int .i64 ((rows.length : Int) + 1), .bool m.frm.null, .string m.frm.loc, .string m.frm.dom, .slice A3 L c3, .slice A4 m.lines.length c4, .bool m.flags.head, .bool m.flags.body, .bool m.flags.bad, .int .i64 m.flags.lines, .int .i64 m.flags.hops, .int .i64 m.bytes] 51)).heap.size := by have := H.out.ge; have := kg8.lt; simp; omega
              refine wpAnyH_ready (rs := [8]) (by kernel_rfl) (by simp) ?_
              refine AllReadyH.cons (o := { dst := some 72, op := Op.call { callee := Callee.builtin Builtin.append, args := #[Operand.tmp 68, Operand.tmp 71], argTypes := #[54, 54] }, type := 54, pos := "ref.go:62", after := #[{ on := 4, ground := Ground.data }, { on := 7, ground := Ground.data }, { on := 6, ground := Ground.chain }], guard := none }) rfl (fun K hK => ?_) AllReadyH.nil
              refine step_it (.tmp 68) (.tmp 71) rfl rfl B (.slice Aq rows.length cq) rows.length (rows.flatMap Row.cells) rfl hrow2 w8.heap.size ⟨⟨(rows.length : Int) + 1, m.frm, m.to.map newR, m.lines, m.flags, m.bytes⟩, .slice A3 L c3, .slice A4 m.lines.length c4⟩ rfl hsrc rfl rfl (by omega) hbase (w8.heap.size + 1) (by simp) ?_
              intro g' cap w1 hown1 hgrow hat hlt1
              try dsimp only
              have kx1 := kx2.grown hgrow (fun e => hx8v e.symm)
              refine hK.out _ _ ?_ (fun hHeld => ?_)
              · exact ⟨kx1.cell 0, kx1.cell 1, kx1.cell 2, kx1.cell 3, kx1.cell 4, kx1.cell 5, kx1.cell 6, kx1.cell 7, kx1.cell 8, kx1.cell 9, kx1.cell 10, kx1.cell 11⟩
              clear hK K
              try simp only [Act.put, List.setIfInBounds_toArray, List.set_cons_zero, List.set_cons_succ]
              have kg1 := kg2.grown hgrow (fun e => own_ne hrow2 kg2 (by decide) e.symm)
              have e0 := kg1.cell 0
              have f0 := kg1.frozen 0
              simp at e0
              have kxf := kx1.far (p := ⟨g, 0, none⟩) hx8g (.slice (some ⟨g', 0, none⟩) (rows.length + 1) cap)
              have efin := kxf.cell 0
              simp at efin
              have htv8 : w8.ownsRow wr.heap.size 60 7 (.slice A3 L c3) (m.to.map newR).length ((m.to.map newR).flatMap Rc.cells) := by rw [List.length_map, ← HL.out]; exact T8.out
              have hfin := radd_fin H.out bR8.out (it := ⟨(rows.length : Int) + 1, m.frm, m.to.map newR, m.lines, m.flags, m.bytes⟩) (nb := wr.heap.size) HBr.out.size htv8 (own_base L8.out HBr.out.size) hown1 (((Only.refl w8 _).alloc _).grown hgrow (fun k hk _ => hk)) (hat.imp id (fun h => by have := bR8.out.size; omega))
              have Hfin := Lib.hid hfin
              clear hfin hown1 hgrow hat htv8
              refine wpAnyH_take (i := 9) (oi := { dst := some 73, op := Op.nilCheck (Operand.tmp 64), type := 0, pos := "ref.go:62", after := #[{ on := 0, ground := Ground.data }, { on := 0, ground := Ground.phase }, { on := 1, ground := Ground.phase }, { on := 2, ground := Ground.phase }, { on := 3, ground := Ground.phase }, { on := 4, ground := Ground.phase }, { on := 5, ground := Ground.phase }, { on := 6, ground := Ground.phase }, { on := 7, ground := Ground.phase }, { on := 8, ground := Ground.phase }], guard := none }) (v := ?_) rfl (by kernel_rfl) (by kernel_rfl) (by kernel_rfl) (fun _ _ _ h => h) (Or.inl ⟨by rfl, ?_⟩) (by assumption) ?_
              rotate_left
              · intro wS hSw; (try dsimp only at hSw); go_simp; (try with_reducible rfl)
              try simp only [Act.put, List.setIfInBounds_toArray, List.set_cons_zero, List.set_cons_succ]
              refine wpAnyH_take (i := 10) (oi := { dst := some 74, op := Op.fieldAddr 56 (Operand.tmp 73) 0, type := 0, pos := "ref.go:62", after := #[{ on := 9, ground := Ground.data }, { on := 0, ground := Ground.phase }, { on := 1, ground := Ground.phase }, { on := 2, ground := Ground.phase }, { on := 3, ground := Ground.phase }, { on := 4, ground := Ground.phase }, { on := 5, ground := Ground.phase }, { on := 6, ground := Ground.phase }, { on := 7, ground := Ground.phase }, { on := 8, ground := Ground.phase }], guard := none }) (v := ?_) rfl (by kernel_rfl) (by kernel_rfl) (by kernel_rfl) (fun _ _ _ h => h) (Or.inl ⟨by rfl, ?_⟩) (by assumption) ?_
              rotate_left
              · intro wS hSw; (try dsimp only at hSw); go_simp; (try with_reducible rfl)
              try simp only [Act.put, List.setIfInBounds_toArray, List.set_cons_zero, List.set_cons_succ]
              refine wpAnyH_ready (rs := [11]) (by kernel_rfl) (by simp) ?_
              refine AllReadyH.cons (o := { dst := none, op := Op.store 54 (Operand.tmp 74) (Operand.tmp 72), type := 0, pos := "ref.go:62", after := #[{ on := 10, ground := Ground.data }, { on := 8, ground := Ground.data }, { on := 8, ground := Ground.chain }, { on := 0, ground := Ground.phase }, { on := 1, ground := Ground.phase }, { on := 2, ground := Ground.phase }, { on := 3, ground := Ground.phase }, { on := 4, ground := Ground.phase }, { on := 5, ground := Ground.phase }, { on := 6, ground := Ground.phase }, { on := 7, ground := Ground.phase }, { on := 8, ground := Ground.phase }], guard := none }) rfl (fun K hK => ?_) AllReadyH.nil
              go_simp
              try dsimp only
              refine hK.out _ _ ?_ (fun hHeld => ?_)
              · exact ⟨kxf.cell 0, kxf.cell 1, kxf.cell 2, kxf.cell 3, kxf.cell 4, kxf.cell 5, kxf.cell 6, kxf.cell 7, kxf.cell 8, kxf.cell 9, kxf.cell 10, kxf.cell 11⟩
              clear hK K
              try simp only [Act.put, List.setIfInBounds_toArray, List.set_cons_zero, List.set_cons_succ]
              refine wpAnyH_done (by kernel_rfl) ?_ _
              go_wp2_with fail
              go_ret2
              exact ⟨rfl, by rw [HNW.out]; exact Hfin.out⟩
            · go_simp
              try dsimp only
              refine hK.out _ _ ?_ (fun hHeld => ?_)
              · exact ⟨(kx8.alloc _).cell 0, (kx8.alloc _).cell 1, (kx8.alloc _).cell 2, (kx8.alloc _).cell 3, (kx8.alloc _).cell 4, (kx8.alloc _).cell 5, (kx8.alloc _).cell 6, (kx8.alloc _).cell 7, (kx8.alloc _).cell 8, (kx8.alloc _).cell 9, (kx8.alloc _).cell 10, (kx8.alloc _).cell 11⟩
              clear hK K
              try simp only [Act.put, List.setIfInBounds_toArray, List.set_cons_zero, List.set_cons_succ]
              refine wpAnyH_ready (rs := [4]) (by kernel_rfl) (by simp) ?_
              refine AllReadyH.cons (o := { dst := some 68, op := Op.load 54 (Operand.tmp 67), type := 54, pos := "ref.go:62", after := #[{ on := 3, ground := Ground.data }], guard := none }) rfl (fun K hK => ?_) AllReadyH.nil
              go_simp
              try dsimp only
              refine hK.out _ _ ?_ (fun hHeld => ?_)
              · exact ⟨(kx8.alloc _).cell 0, (kx8.alloc _).cell 1, (kx8.alloc _).cell 2, (kx8.alloc _).cell 3, (kx8.alloc _).cell 4, (kx8.alloc _).cell 5, (kx8.alloc _).cell 6, (kx8.alloc _).cell 7, (kx8.alloc _).cell 8, (kx8.alloc _).cell 9, (kx8.alloc _).cell 10, (kx8.alloc _).cell 11⟩
              clear hK K
              try simp only [Act.put, List.setIfInBounds_toArray, List.set_cons_zero, List.set_cons_succ]
              have hrow2 := row8.alloc (.cells #[.int .i64 ((rows.length : Int) + 1), .bool m.frm.null, .string m.frm.loc, .string m.frm.dom, .slice A3 L c3, .slice A4 m.lines.length c4, .bool m.flags.head, .bool m.flags.body, .bool m.flags.bad, .int .i64 m.flags.lines, .int .i64 m.flags.hops, .int .i64 m.bytes] 51)
              have hsrc := Bk.new w8 51 #[.int .i64 ((rows.length : Int) + 1), .bool m.frm.null, .string m.frm.loc, .string m.frm.dom, .slice A3 L c3, .slice A4 m.lines.length c4, .bool m.flags.head, .bool m.flags.body, .bool m.flags.bad, .int .i64 m.flags.lines, .int .i64 m.flags.hops, .int .i64 m.bytes]
              have kg2 := kg8.alloc (.cells #[.int .i64 ((rows.length : Int) + 1), .bool m.frm.null, .string m.frm.loc, .string m.frm.dom, .slice A3 L c3, .slice A4 m.lines.length c4, .bool m.flags.head, .bool m.flags.body, .bool m.flags.bad, .int .i64 m.flags.lines, .int .i64 m.flags.hops, .int .i64 m.bytes] 51)
              have kx2 := kx8.alloc (.cells #[.int .i64 ((rows.length : Int) + 1), .bool m.frm.null, .string m.frm.loc, .string m.frm.dom, .slice A3 L c3, .slice A4 m.lines.length c4, .bool m.flags.head, .bool m.flags.body, .bool m.flags.bad, .int .i64 m.flags.lines, .int .i64 m.flags.hops, .int .i64 m.bytes] 51)
              have hbase : B ≤ (w8.alloc (.cells #[.int .i64 ((rows.length : Int) + 1), .bool m.frm.null, .string m.frm.loc, .string m.frm.dom, .slice A3 L c3, .slice A4 m.lines.length c4, .bool m.flags.head, .bool m.flags.body, .bool m.flags.bad, .int .i64 m.flags.lines, .int .i64 m.flags.hops, .int .i64 m.bytes] 51)).heap.size := by have := H.out.ge; have := kg8.lt; simp; omega
              refine wpAnyH_ready (rs := [8]) (by kernel_rfl) (by simp) ?_
              refine AllReadyH.cons (o := { dst := some 72, op := Op.call { callee := Callee.builtin Builtin.append, args := #[Operand.tmp 68, Operand.tmp 71], argTypes := #[54, 54] }, type := 54, pos := "ref.go:62", after := #[{ on := 4, ground := Ground.data }, { on := 7, ground := Ground.data }, { on := 6, ground := Ground.chain }], guard := none }) rfl (fun K hK => ?_) AllReadyH.nil
              refine step_it (.tmp 68) (.tmp 71) rfl rfl B (.slice Aq rows.length cq) rows.length (rows.flatMap Row.cells) rfl hrow2 w8.heap.size ⟨⟨(rows.length : Int) + 1, m.frm, m.to.map newR, m.lines, m.flags, m.bytes⟩, .slice A3 L c3, .slice A4 m.lines.length c4⟩ rfl hsrc rfl rfl (by omega) hbase (w8.heap.size + 1) (by simp) ?_
              intro g' cap w1 hown1 hgrow hat hlt1
              try dsimp only
              have kx1 := kx2.grown hgrow (fun e => hx8v e.symm)
              refine hK.out _ _ ?_ (fun hHeld => ?_)
              · exact ⟨kx1.cell 0, kx1.cell 1, kx1.cell 2, kx1.cell 3, kx1.cell 4, kx1.cell 5, kx1.cell 6, kx1.cell 7, kx1.cell 8, kx1.cell 9, kx1.cell 10, kx1.cell 11⟩
              clear hK K
              try simp only [Act.put, List.setIfInBounds_toArray, List.set_cons_zero, List.set_cons_succ]
              have kg1 := kg2.grown hgrow (fun e => own_ne hrow2 kg2 (by decide) e.symm)
              have e0 := kg1.cell 0
              have f0 := kg1.frozen 0
              simp at e0
              have kxf := kx1.far (p := ⟨g, 0, none⟩) hx8g (.slice (some ⟨g', 0, none⟩) (rows.length + 1) cap)
              have efin := kxf.cell 0
              simp at efin
              have htv8 : w8.ownsRow wr.heap.size 60 7 (.slice A3 L c3) (m.to.map newR).length ((m.to.map newR).flatMap Rc.cells) := by rw [List.length_map, ← HL.out]; exact T8.out
              have hfin := radd_fin H.out bR8.out (it := ⟨(rows.length : Int) + 1, m.frm, m.to.map newR, m.lines, m.flags, m.bytes⟩) (nb := wr.heap.size) HBr.out.size htv8 (own_base L8.out HBr.out.size) hown1 (((Only.refl w8 _).alloc _).grown hgrow (fun k hk _ => hk)) (hat.imp id (fun h => by have := bR8.out.size; omega))
              have Hfin := Lib.hid hfin
              clear hfin hown1 hgrow hat htv8
              refine wpAnyH_take (i := 9) (oi := { dst := some 73, op := Op.nilCheck (Operand.tmp 64), type := 0, pos := "ref.go:62", after := #[{ on := 0, ground := Ground.data }, { on := 0, ground := Ground.phase }, { on := 1, ground := Ground.phase }, { on := 2, ground := Ground.phase }, { on := 3, ground := Ground.phase }, { on := 4, ground := Ground.phase }, { on := 5, ground := Ground.phase }, { on := 6, ground := Ground.phase }, { on := 7, ground := Ground.phase }, { on := 8, ground := Ground.phase }], guard := none }) (v := ?_) rfl (by kernel_rfl) (by kernel_rfl) (by kernel_rfl) (fun _ _ _ h => h) (Or.inl ⟨by rfl, ?_⟩) (by assumption) ?_
              rotate_left
              · intro wS hSw; (try dsimp only at hSw); go_simp; (try with_reducible rfl)
              try simp only [Act.put, List.setIfInBounds_toArray, List.set_cons_zero, List.set_cons_succ]
              refine wpAnyH_take (i := 10) (oi := { dst := some 74, op := Op.fieldAddr 56 (Operand.tmp 73) 0, type := 0, pos := "ref.go:62", after := #[{ on := 9, ground := Ground.data }, { on := 0, ground := Ground.phase }, { on := 1, ground := Ground.phase }, { on := 2, ground := Ground.phase }, { on := 3, ground := Ground.phase }, { on := 4, ground := Ground.phase }, { on := 5, ground := Ground.phase }, { on := 6, ground := Ground.phase }, { on := 7, ground := Ground.phase }, { on := 8, ground := Ground.phase }], guard := none }) (v := ?_) rfl (by kernel_rfl) (by kernel_rfl) (by kernel_rfl) (fun _ _ _ h => h) (Or.inl ⟨by rfl, ?_⟩) (by assumption) ?_
              rotate_left
              · intro wS hSw; (try dsimp only at hSw); go_simp; (try with_reducible rfl)
              try simp only [Act.put, List.setIfInBounds_toArray, List.set_cons_zero, List.set_cons_succ]
              refine wpAnyH_ready (rs := [11]) (by kernel_rfl) (by simp) ?_
              refine AllReadyH.cons (o := { dst := none, op := Op.store 54 (Operand.tmp 74) (Operand.tmp 72), type := 0, pos := "ref.go:62", after := #[{ on := 10, ground := Ground.data }, { on := 8, ground := Ground.data }, { on := 8, ground := Ground.chain }, { on := 0, ground := Ground.phase }, { on := 1, ground := Ground.phase }, { on := 2, ground := Ground.phase }, { on := 3, ground := Ground.phase }, { on := 4, ground := Ground.phase }, { on := 5, ground := Ground.phase }, { on := 6, ground := Ground.phase }, { on := 7, ground := Ground.phase }, { on := 8, ground := Ground.phase }], guard := none }) rfl (fun K hK => ?_) AllReadyH.nil
              go_simp
              try dsimp only
              refine hK.out _ _ ?_ (fun hHeld => ?_)
              · exact ⟨kxf.cell 0, kxf.cell 1, kxf.cell 2, kxf.cell 3, kxf.cell 4, kxf.cell 5, kxf.cell 6, kxf.cell 7, kxf.cell 8, kxf.cell 9, kxf.cell 10, kxf.cell 11⟩
              clear hK K
              try simp only [Act.put, List.setIfInBounds_toArray, List.set_cons_zero, List.set_cons_succ]
              refine wpAnyH_done (by kernel_rfl) ?_ _
              go_wp2_with fail
              go_ret2
              exact ⟨rfl, by rw [HNW.out]; exact Hfin.out⟩

theorem radd_any (w : World) (B g : Nat) (v : Value) (rows : List Row) (room tries wait : Int) (h : Qm w B g 56 v rows room tries wait) (hs : Small (rows.map Row.it)) (hn : rows.length ≤ 500) (m : Ml) (At Al : Option Addr) (ct cl : Nat) (hbig : m.to.length ≤ 9223372036854775807)
    (hl : m.lines.length ≤ 1000) (ht : Rd w w.heap.size At (m.to.flatMap Pth.cells)) (hr : Rd w w.heap.size Al (m.lines.map .string)) (force : Bool) :
    Calls Try.prog 13 #[.pointer (some ⟨g, 0, none⟩), .agg (m.cells (.slice At m.to.length ct) (.slice Al m.lines.length cl)).toArray, .bool force] w fun e w' =>
      e = .returned (.tuple #[.int .i64 (addS room (rows.map Row.it) m force).1, .int .i64 (addS room (rows.map Row.it) m force).2.1]) ∧ Left2 w B g 56 v rows room tries wait (addS room (rows.map Row.it) m force).2.2 w' := by
  unfold addS
  by_cases h0 : m.to.length = 0 ∨ 100 < m.to.length
  · rw [if_pos h0]
    exact radd_arg w B g v rows room tries wait h m At Al ct cl force h0 hbig
  · rw [if_neg h0]
    cases hf : (decide (room ≤ (openN (rows.map Row.it) : Int)) && !force) with
    | true =>
      rw [if_pos rfl]
      obtain ⟨h1, h2⟩ := Bool.and_eq_true_iff.1 hf
      obtain rfl : force = false := by simpa using h2
      exact radd_full w B g v rows room tries wait h hs m At Al ct cl (by omega) (by omega) h1
    | false =>
      rw [if_neg (by decide)]
      have := radd_ok w B g v rows room tries wait h hs hn m At Al ct cl (by omega) (by omega) hl ht hr force (by rw [Bool.and_comm]; exact hf)
      simpa using this
end Go.Proofs.Ytlbghgmeiajioaa
