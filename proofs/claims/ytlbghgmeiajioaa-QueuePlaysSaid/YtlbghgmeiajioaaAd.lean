/- What Add comes to. -/
import Derived.Test.YtlbghgmeiajioaaX
import Derived.Deep.Cut
namespace Go.Proofs.Ytlbghgmeiajioaa
open Go.RowKit
set_option linter.unusedVariables false

structure Ml where
  frm : Pth
  to : List Pth
  lines : List ByteArray
  flags : Fl
  bytes : Int
def Ml.cells (m : Ml) (tv lv : Value) : List Value :=
  [.bool m.frm.null, .string m.frm.loc, .string m.frm.dom, tv, lv, .bool m.flags.head, .bool m.flags.body, .bool m.flags.bad, .int .i64 m.flags.lines, .int .i64 m.flags.hops, .int .i64 m.bytes]
def newR (p : Pth) : Rc := ⟨p, 0, 0, 0, 0⟩
def newI (l : List It) (m : Ml) : It := ⟨(l.length : Int) + 1, m.frm, m.to.map newR, m.lines, m.flags, m.bytes⟩
def addS (room : Int) (l : List It) (m : Ml) (force : Bool) : Int × Int × List It :=
  if m.to.length = 0 ∨ 100 < m.to.length then (0, 1, l)
  else if decide (room ≤ (openN l : Int)) && !force then (0, 2, l)
  else ((l.length : Int) + 1, 0, l ++ [newI l m])

/-- What Add leaves. -/
def Left2 (w : World) (B g : Nat) (t : TypeId) (v : Value) (rows : List Row) (room tries wait : Int) (l : List It) (w' : World) : Prop :=
  ∃ v' rows', Qm w' B g t v' rows' room tries wait ∧ rows'.map Row.it = l ∧ Only w w' (Foot g v rows) ∧ ∀ k, Foot g v' rows' k → Foot g v rows k ∨ w.heap.size ≤ k
theorem Left2.below {w w' : World} {B g : Nat} {t : TypeId} {v : Value} {rows : List Row} {room tries wait : Int} (h : Qm w B g t v rows room tries wait) (hb : Below w.heap.size w w') : Left2 w B g t v rows room tries wait (rows.map Row.it) w' :=
  ⟨v, rows, h.below hb, rfl, Only.of_below hb, fun k hk => .inl hk⟩

set_option maxHeartbeats 400000 in
theorem clone_rd (A : Option Addr) (c : Nat) (ss : List ByteArray) (w : World) (B : Nat) (hr : Rd w B A (ss.map .string)) (hn : ss.length ≤ 100000) :
    Calls Try.prog 31 #[.slice A ss.length c] w fun e w' => ∃ v', e = .returned v' ∧ w'.ownsRow w.heap.size 9 1 v' ss.length (ss.map .string) ∧ Below w.heap.size w w' := by
  obtain ⟨i0, hi, hz0, hz1, hz2⟩ := info_parts info9
  cases A with
  | none =>
    have hs : ss = [] := by
      rcases hr with h | ⟨b, o, h, _⟩
      · simpa using h
      · cases h
    subst hs
    have hq := fun w => Lib.run_eql_slice_nil (P := Try.prog) w 34 9 none 0 c 0 0 Try.underlying34
    simp only [List.length_nil]
    go_enter Try.func31, Try.ntmps31
    go_wp2
    all_goals go_ret
    exact ⟨_, rfl, World.ownsRow_nil _ _ _ _, Below.refl _ _⟩
  | some p =>
    have hq := fun w => Lib.run_eql_slice_nil (P := Try.prog) w 34 9 (some p) ss.length c 0 0 Try.underlying34
    have hcl : ∀ j u, (ss.map Value.string)[j]? = some u → (w.alloc (.cells #[] 9)).cell? (p.add j) = some u := by
      intro j u hj
      rcases hr with h | ⟨b, o, h, hb, hc⟩
      · rw [h] at hj; simp at hj
      · cases h
        rw [show (⟨b, o, none⟩ : Addr).add j = ⟨b, o + j, none⟩ by unfold Addr.add; split <;> simp_all]
        have hlt : b < w.heap.size := by
          have := hc j u hj
          by_cases hl : b < w.heap.size
          · exact hl
          · exfalso
            simp [World.cell?, Array.getElem?_eq_none (Nat.le_of_not_lt hl)] at this
        exact ((((Below.refl w.heap.size w).alloc (Nat.le_refl _) (.cells #[] 9)).cell (p := ⟨b, o + j, none⟩) hlt)).trans (hc j u hj)
    have Hcl := Lib.hid hcl
    clear hcl hr
    have hnew : (w.alloc (.cells #[] 9)).ownsRow w.heap.size 9 1 (.slice (some ⟨w.heap.size, 0, none⟩) 0 0) 0 [] := World.ownsRow_made w #[] 0 (Nat.le_refl _) (by decide) rfl
    go_enter Try.func31, Try.ntmps31
    go_wp2_with (at_builtin; refine wpList_append_own _ rfl (.tmp 5) (.tmp 6) 34 rfl w.heap.size 9 i0 (.string ⟨#[]⟩) 1 16 Try.underlying34 hi hz0 hz1 hz2 rfl (by decide) _ 0 [] rfl hnew p ss.length c (ss.map .string) rfl (by simp) Hcl.out (str_one ss) (by unfold maxLen; omega) (by omega) (by simp) ?_; intro v' w1 hown1 hgrow _)
    go_ret
    exact ⟨_, rfl, by simpa using hown1, ((Below.refl w.heap.size w).alloc (Nat.le_refl _) _).grown hgrow (by simp) (fun k hk => (hnew.lt k hk).1)⟩

set_option maxRecDepth 100000 in
set_option maxHeartbeats 1600000 in
theorem add_arg (w : World) (B g : Nat) (v : Value) (rows : List Row) (room tries wait : Int) (h : Qm w B g 66 v rows room tries wait) (m : Ml) (At Al : Option Addr) (ct cl : Nat) (force : Bool) (hbad : m.to.length = 0 ∨ 100 < m.to.length) (hbig : m.to.length ≤ 9223372036854775807) :
    Calls Try.prog 12 #[.pointer (some ⟨g, 0, none⟩), .agg (m.cells (.slice At m.to.length ct) (.slice Al m.lines.length cl)).toArray, .bool force] w fun e w' => e = .returned (.tuple #[.int .i64 0, .int .i64 1]) ∧ Left2 w B g 66 v rows room tries wait (rows.map Row.it) w' := by
  have H := Lib.hid h
  clear h
  have hb := Left2.below H.out ((Below.refl w.heap.size w).alloc (Nat.le_refl _) (.cells (m.cells (.slice At m.to.length ct) (.slice Al m.lines.length cl)).toArray 38))
  have Hb := Lib.hid hb
  clear hb
  rcases hbad with h0 | h0
  · simp only [Ml.cells] at Hb ⊢
    rw [h0] at Hb ⊢
    go_enter Try.func12, Try.ntmps12
    go_wp2
    go_ret2
    exact ⟨rfl, Hb.out⟩
  · have e0 : ((m.to.length : Int) == 0) = false := beq_eq_false_iff_ne.2 (by omega)
    have e1 : decide ((100 : Int) < (m.to.length : Int)) = true := decide_eq_true (by omega)
    simp only [Ml.cells] at Hb ⊢
    generalize m.to.length = L at *
    go_enter Try.func12, Try.ntmps12
    go_wp2
    go_ret2
    exact ⟨rfl, Hb.out⟩

set_option maxRecDepth 100000 in
set_option maxHeartbeats 1600000 in
theorem add_full (w : World) (B g : Nat) (v : Value) (rows : List Row) (room tries wait : Int) (h : Qm w B g 66 v rows room tries wait) (hs : Small (rows.map Row.it)) (m : Ml) (At Al : Option Addr) (ct cl : Nat) (h0 : m.to.length ≠ 0) (h1 : m.to.length ≤ 100) (hf : decide (room ≤ (openN (rows.map Row.it) : Int)) = true) :
    Calls Try.prog 12 #[.pointer (some ⟨g, 0, none⟩), .agg (m.cells (.slice At m.to.length ct) (.slice Al m.lines.length cl)).toArray, .bool false] w fun e w' => e = .returned (.tuple #[.int .i64 0, .int .i64 2]) ∧ Left2 w B g 66 v rows room tries wait (rows.map Row.it) w' := by
  have H := Lib.hid h; have Hs := Lib.hid hs
  clear h hs
  have hb := (Below.refl w.heap.size w).alloc (Nat.le_refl _) (.cells (m.cells (.slice At m.to.length ct) (.slice Al m.lines.length cl)).toArray 38)
  have Hb := Lib.hid hb
  have Hq := Lib.hid (H.out.below hb)
  clear hb
  have e0 : ((m.to.length : Int) == 0) = false := beq_eq_false_iff_ne.2 (by omega)
  have e1 : decide ((100 : Int) < (m.to.length : Int)) = false := decide_eq_false (by omega)
  simp only [Ml.cells] at Hb Hq ⊢
  generalize m.to.length = L at *
  go_enter Try.func12, Try.ntmps12
  go_wp2_with fail
  refine (full_any _ B g v rows room tries wait Hq.out Hs.out).mono ?_
  rintro e w' ⟨rfl, hb2⟩
  rw [hf]
  go_wp2_with fail
  go_ret2
  exact ⟨rfl, Left2.below H.out (Hb.out.trans (hb2.mono (by simp)))⟩

theorem mail_cells {w : World} {n L ct : Nat} {At : Option Addr} {m : Ml} {lv : Value} (k : Bk w n 38 #[.bool m.frm.null, .string m.frm.loc, .string m.frm.dom, .slice At L ct, lv, .bool m.flags.head, .bool m.flags.body, .bool m.flags.bad, .int .i64 m.flags.lines, .int .i64 m.flags.hops, .int .i64 m.bytes]) :
    w.cell? ⟨n, 0, none⟩ = some (.bool m.frm.null) ∧ w.cell? ⟨n, 1, none⟩ = some (.string m.frm.loc) ∧ w.cell? ⟨n, 2, none⟩ = some (.string m.frm.dom) ∧ w.cell? ⟨n, 4, none⟩ = some lv ∧
       w.cell? ⟨n, 5, none⟩ = some (.bool m.flags.head) ∧ w.cell? ⟨n, 6, none⟩ = some (.bool m.flags.body) ∧ w.cell? ⟨n, 7, none⟩ = some (.bool m.flags.bad) ∧ w.cell? ⟨n, 8, none⟩ = some (.int .i64 m.flags.lines) ∧ w.cell? ⟨n, 9, none⟩ = some (.int .i64 m.flags.hops) ∧ w.cell? ⟨n, 10, none⟩ = some (.int .i64 m.bytes) :=
  ⟨k.cell 0, k.cell 1, k.cell 2, k.cell 4, k.cell 5, k.cell 6, k.cell 7, k.cell 8, k.cell 9, k.cell 10⟩

theorem pth_cells {w : World} {B : Nat} {A : Option Addr} {l : List Pth} (h : Rd w B A (l.flatMap Pth.cells)) {k : Nat} (hk : k < l.length) :
    ∃ b o, A = some ⟨b, o, none⟩ ∧ b < B ∧ w.cell? ⟨b, o + k * 3, none⟩ = some (.bool l[k].null) ∧ w.cell? ⟨b, o + k * 3 + 1, none⟩ = some (.string l[k].loc) ∧ w.cell? ⟨b, o + k * 3 + 2, none⟩ = some (.string l[k].dom) := by
  have e : ∀ j, j < 3 → (l.flatMap Pth.cells)[k * 3 + j]? = l[k].cells[j]? := fun j hj => flat_get Pth.len l k j hk hj
  rcases h with h | ⟨b, o, rfl, hb, hc⟩
  · have := flat_len Pth.len l
    rw [h, List.length_nil] at this
    omega
  · refine ⟨b, o, rfl, hb, ?_, ?_, ?_⟩
    · exact hc (k * 3 + 0) _ ((e 0 (by decide)).trans rfl)
    · exact hc (k * 3 + 1) _ ((e 1 (by decide)).trans rfl)
    · exact hc (k * 3 + 2) _ ((e 2 (by decide)).trans rfl)
theorem newR_take (l : List Pth) (k : Nat) (hk : k < l.length) : ((l.take (k + 1)).map newR).flatMap Rc.cells = ((l.take k).map newR).flatMap Rc.cells ++ (newR l[k]).cells := by
  rw [List.take_succ_eq_append_getElem hk, List.map_append, List.flatMap_append]
  simp
/-- The cells of the block that was just made. -/
theorem app_src (W : World) (cs : List Value) (t : TypeId) {n : Nat} (hn : n = W.heap.size) : ∀ j u, cs[j]? = some u → (W.alloc (.cells cs.toArray t)).cell? ((⟨n, 0, none⟩ : Addr).add j) = some u := by
  subst hn
  intro j u hj
  have e : (⟨W.heap.size, 0, none⟩ : Addr).add j = ⟨W.heap.size, j, none⟩ := by unfold Addr.add; split <;> simp_all
  rw [e, (Bk.new W t cs.toArray).cell j]
  simpa using hj

/-- append of one recipient onto a row of the call's own. -/
theorem app_rc {ops : Array Oper} {rest : List Oper} {o : Oper} {a : Act} {w : World} {Q : Exit → Act → World → Prop} (s x : Operand) (hgd : o.guard = none)
    (ho : o.op = .call { callee := .builtin .append, args := #[s, x], argTypes := #[49, 49] })
    (base : Nat) (v : Value) (n : Nat) (xs : List Value) (hs : a.eval s = v) (hown : w.ownsRow base 60 7 v n xs) (b : Nat) (r : Rc) (hx : a.eval x = .slice (some ⟨b, 0, none⟩) 1 1)
    (hu : Bk w b 60 r.cells.toArray) (hn : n ≤ 1000) (hbase : base ≤ w.heap.size) (H : Nat) (hH : w.heap.size = H)
    (h : ∀ g cap w', w'.ownsRow base 60 7 (.slice (some ⟨g, 0, none⟩) (n + 1) cap) (n + 1) (xs ++ r.cells) → w.grownBy w' v.ownBlock → (v.ownBlock = some g ∨ g = H) → g < w'.heap.size →
      wpList Try.prog ops Q rest (a.put o.dst (.slice (some ⟨g, 0, none⟩) (n + 1) cap)) w') : wpList Try.prog ops Q (o :: rest) a w := by
  obtain ⟨i0, hi, hz0, hz1, hz2⟩ := info_parts info60
  refine wpList_append_lies w hgd s x 49 ho base 60 i0 zeroRc 7 72 Try.underlying49 hi hz0 hz1 hz2 rfl (by decide) v n xs hs hown ⟨b, 0, none⟩ 1 1 r.cells hx rfl ?_ (by intro u hu; simp [Rc.cells] at hu; rcases hu with rfl | rfl | rfl | rfl | rfl | rfl | rfl <;> rfl) (by decide) (by unfold maxLen; omega) (by omega) hbase H hH h
  intro j u hj
  have e : (⟨b, 0, none⟩ : Addr).add j = ⟨b, j, none⟩ := by unfold Addr.add; split <;> simp_all
  rw [e, hu.cell j]
  simpa using hj

theorem own_apart {w : World} {B B' : Nat} {e e' : TypeId} {s s' n n' : Nat} {v v' : Value} {xs xs' : List Value} (h : w.ownsRow B e s v n xs) (h' : w.ownsRow B' e' s' v' n' xs') (hne : e ≠ e') : ∀ k, v.ownBlock = some k → v'.ownBlock ≠ some k := by
  intro k hk hk'
  rcases h.2 with ⟨rfl, _⟩ | ⟨g, cap, cur, rfl, _, hh, _⟩
  · cases hk
  · rcases h'.2 with ⟨rfl, _⟩ | ⟨g', cap', cur', rfl, _, hh', _⟩
    · cases hk'
    · simp [Value.ownBlock] at hk hk'
      subst hk; subst hk'
      rw [hh] at hh'
      injection hh' with hh'
      injection hh' with _ e2
      exact hne e2

/-- What Add's last store makes of the queue. -/
theorem add_fin {w wr w1 : World} {B g : Nat} {v : Value} {rows : List Row} {room tries wait : Int} (h : Qm w B g 66 v rows room tries wait) (hB : Below w.heap.size w wr) {it : It} {tv lv : Value} {nb : Nat} (hnb : w.heap.size ≤ nb)
    (htv : wr.ownsRow nb 60 7 tv it.to.length (it.to.flatMap Rc.cells)) (hlv : wr.ownsRow w.heap.size 9 1 lv it.lines.length (it.lines.map .string)) {g' cap : Nat}
    (hown1 : w1.ownsRow B 51 12 (.slice (some ⟨g', 0, none⟩) (rows.length + 1) cap) (rows.length + 1) (rows.flatMap Row.cells ++ Row.cells ⟨it, tv, lv⟩)) (hon : Only wr w1 (fun k => v.ownBlock = some k)) (hat : v.ownBlock = some g' ∨ w.heap.size ≤ g') :
    Left2 w B g 66 v rows room tries wait (rows.map Row.it ++ [it]) (w1.setCell ⟨g, 0, none⟩ (.slice (some ⟨g', 0, none⟩) (rows.length + 1) cap)) := by
  have hq := h.below hB
  have hBg : B ≤ w.heap.size := by have := h.blk.lt; have := h.ge; omega
  have kg : Bk w1 g 66 #[v, .int .i64 room, .int .i64 tries, .int .i64 wait] := hq.blk.same (hon.block g hq.blk.lt (own_ne hq.row hq.blk (by decide)))
  have hF : Only wr (w1.setCell ⟨g, 0, none⟩ (.slice (some ⟨g', 0, none⟩) (rows.length + 1) cap)) (fun k => k = g ∨ v.ownBlock = some k) := (hon.more (fun k hk => .inr hk)).setCell (.inl rfl) _
  have keep : ∀ {b e s n : Nat} {u : Value} {xs : List Value}, wr.ownsRow b e s u n xs → e ≠ 66 → e ≠ 51 → (w1.setCell ⟨g, 0, none⟩ (.slice (some ⟨g', 0, none⟩) (rows.length + 1) cap)).ownsRow b e s u n xs := by
    intro b e s n u xs hu h1 h2
    refine own_only hu hF ?_
    rintro k hk (rfl | hk2)
    · exact own_ne hu hq.blk h1 hk
    · exact own_apart hu hq.row h2 k hk hk2
  have hold : ∀ r ∈ rows, ∀ k, r.tv.ownBlock = some k → k < w.heap.size := fun r hr k hk => (h.lt k (.inr (.inr ⟨r, hr, .inl hk⟩))).2
  refine ⟨.slice (some ⟨g', 0, none⟩) (rows.length + 1) cap, rows ++ [⟨it, tv, lv⟩], ⟨h.ge, ?_, ?_, ?_, ?_⟩, by simp, ?_, ?_⟩
  · have := kg.set_ 0 (.slice (some ⟨g', 0, none⟩) (rows.length + 1) cap)
    simpa using this
  · rw [List.length_append, List.flatMap_append]
    simp only [List.length_cons, List.length_nil, List.flatMap_cons, List.flatMap_nil, List.append_nil, Nat.zero_add]
    exact own_set hown1 (p := ⟨g, 0, none⟩) (own_ne hown1 kg (by decide)) _
  · intro r hr
    rcases List.mem_append.1 hr with hr | hr
    · exact ⟨keep (hq.own r hr).1 (by decide) (by decide), keep (hq.own r hr).2 (by decide) (by decide)⟩
    · simp at hr
      subst hr
      exact ⟨own_base (keep htv (by decide) (by decide)) (by omega), own_base (keep hlv (by decide) (by decide)) hBg⟩
  · intro i j hi hj hij k hk
    simp only [List.length_append, List.length_cons, List.length_nil] at hi hj
    have e1 : ∀ (n : Nat) (hn : n < (rows ++ [(⟨it, tv, lv⟩ : Row)]).length) (hl : n < rows.length), (rows ++ [(⟨it, tv, lv⟩ : Row)])[n] = rows[n] := fun n hn hl => List.getElem_append_left hl
    have e2 : ∀ (n : Nat) (hn : n < (rows ++ [(⟨it, tv, lv⟩ : Row)]).length) (hl : ¬ n < rows.length), (rows ++ [(⟨it, tv, lv⟩ : Row)])[n] = ⟨it, tv, lv⟩ := fun n hn hl => by
      simp only [List.length_append, List.length_cons, List.length_nil] at hn
      obtain rfl : n = rows.length := by omega
      simp
    by_cases h1 : i < rows.length
    · rw [e1 i _ h1] at hk
      by_cases h2 : j < rows.length
      · rw [e1 j _ h2]
        exact h.apart i j h1 h2 hij k hk
      · rw [e2 j _ h2]
        intro hk2
        have := hold _ (List.getElem_mem h1) k hk
        have := (htv.lt k hk2).1
        omega
    · rw [e2 i _ h1] at hk
      by_cases h2 : j < rows.length
      · rw [e1 j _ h2]
        intro hk2
        have := hold _ (List.getElem_mem h2) k hk2
        have := (htv.lt k hk).1
        omega
      · omega
  · refine (Only.of_below hB).trans (hF.more ?_)
    rintro k (rfl | hk)
    · exact .inl rfl
    · exact .inr (.inl hk)
  · rintro k (rfl | hk | ⟨r, hr, hk⟩)
    · exact .inl (.inl rfl)
    · simp [Value.ownBlock] at hk
      subst hk
      rcases hat with h1 | h1
      · exact .inl (.inr (.inl h1))
      · exact .inr h1
    · rcases List.mem_append.1 hr with hr | hr
      · exact .inl (.inr (.inr ⟨r, hr, hk⟩))
      · simp at hr
        subst hr
        rcases hk with hk | hk
        · have := (htv.lt k hk).1; exact .inr (by omega)
        · have := (hlv.lt k hk).1; exact .inr this

/-- append of one item, at a step of a region that draws its order. -/
theorem step_it {ops : Array Oper} {o : Oper} {a : Act} {w : World} {K : Act → World → Prop} {Q : Exit → Act → World → Prop} {E : Prop} (s x : Operand) (hgd : o.guard = none)
    (ho : o.op = .call { callee := .builtin .append, args := #[s, x], argTypes := #[54, 54] })
    (base : Nat) (v : Value) (n : Nat) (xs : List Value) (hs : a.eval s = v) (hown : w.ownsRow base 51 12 v n xs) (b : Nat) (r : Row) (hx : a.eval x = .slice (some ⟨b, 0, none⟩) 1 1)
    (hu : Bk w b 51 r.cells.toArray) (h1 : r.tv.oneCell' = true) (h2 : r.lv.oneCell' = true) (hn : n ≤ 1000) (hbase : base ≤ w.heap.size) (H : Nat) (hH : w.heap.size = H)
    (h : ∀ g cap w', w'.ownsRow base 51 12 (.slice (some ⟨g, 0, none⟩) (n + 1) cap) (n + 1) (xs ++ r.cells) → w.grownBy w' v.ownBlock → (v.ownBlock = some g ∨ g = H) → g < w'.heap.size →
      K (a.put o.dst (.slice (some ⟨g, 0, none⟩) (n + 1) cap)) w') : if Region.wanted o (yielded ops a.tmps) = true then Oper.wp Try.prog o a w K Q else E := by
  obtain ⟨i0, hi, hz0, hz1, hz2⟩ := info_parts info51
  refine step_append_lies w hgd s x 54 ho base 51 i0 zeroIt 12 128 Try.underlying54 hi hz0 hz1 hz2 rfl (by decide) v n xs hs hown ⟨b, 0, none⟩ 1 1 r.cells hx rfl ?_ ?_ (by decide) (by unfold maxLen; omega) (by omega) hbase H hH h
  · intro j u hj
    have e : (⟨b, 0, none⟩ : Addr).add j = ⟨b, j, none⟩ := by unfold Addr.add; split <;> simp_all
    rw [e, hu.cell j]
    simpa using hj
  · intro u hu
    simp [Row.cells] at hu
    rcases hu with rfl | rfl | rfl | rfl | rfl | rfl | rfl | rfl | rfl | rfl | rfl | rfl <;> first | rfl | exact h1 | exact h2

set_option maxRecDepth 100000 in
set_option maxHeartbeats 1600000 in
theorem add_ok (w : World) (B g : Nat) (v : Value) (rows : List Row) (room tries wait : Int) (h : Qm w B g 66 v rows room tries wait) (hs : Small (rows.map Row.it)) (hn : rows.length ≤ 500) (m : Ml) (At Al : Option Addr) (ct cl : Nat) (h0 : m.to.length ≠ 0) (h1 : m.to.length ≤ 100)
    (hl : m.lines.length ≤ 100000) (ht : Rd w w.heap.size At (m.to.flatMap Pth.cells)) (hr : Rd w w.heap.size Al (m.lines.map .string)) (force : Bool) (hf : (decide (room ≤ (openN (rows.map Row.it) : Int)) && !force) = false) :
    Calls Try.prog 12 #[.pointer (some ⟨g, 0, none⟩), .agg (m.cells (.slice At m.to.length ct) (.slice Al m.lines.length cl)).toArray, .bool force] w fun e w' => e = .returned (.tuple #[.int .i64 ((rows.length : Int) + 1), .int .i64 0]) ∧ Left2 w B g 66 v rows room tries wait (rows.map Row.it ++ [newI (rows.map Row.it) m]) w' := by
  have hb := (Below.refl w.heap.size w).alloc (Nat.le_refl _) (.cells (m.cells (.slice At m.to.length ct) (.slice Al m.lines.length cl)).toArray 38)
  have kM := Bk.new w 38 (m.cells (.slice At m.to.length ct) (.slice Al m.lines.length cl)).toArray
  have e0 : ((m.to.length : Int) == 0) = false := beq_eq_false_iff_ne.2 (by omega)
  have e1 : decide ((100 : Int) < (m.to.length : Int)) = false := decide_eq_false (by omega)
  have H := Lib.hid h; have Hs := Lib.hid hs
  have Hb := Lib.hid hb; have KM := Lib.hid kM; have Ht := Lib.hid ht; have Hr := Lib.hid hr
  have Hq := Lib.hid (H.out.below hb)
  clear h hs hb kM ht hr
  simp only [Ml.cells] at Hb Hq KM ⊢
  obtain ⟨L, hL⟩ : ∃ L, L = m.to.length := ⟨_, rfl⟩
  rw [← hL] at e0 e1 h0 h1 Hb Hq KM ⊢
  have HL := Lib.hid hL
  clear hL
  go_enter Try.func12, Try.ntmps12
  go_upto_region 3 with fail
  go_cut [22] from 9 (fun c wx => c = .bool false ∧ Bk wx w.heap.size 38 #[.bool m.frm.null, .string m.frm.loc, .string m.frm.dom, .slice At L ct, .slice Al m.lines.length cl, .bool m.flags.head, .bool m.flags.body, .bool m.flags.bad, .int .i64 m.flags.lines, .int .i64 m.flags.hops, .int .i64 m.bytes] ∧ Below w.heap.size w wx)
  case first =>
    go_wp2_with fail
    refine (full_any _ B g v rows room tries wait Hq.out Hs.out).mono ?_
    rintro e w2 ⟨rfl, hb2⟩
    have hB2 := Hb.out.trans (hb2.mono (by simp))
    have kM2 := KM.out.below hb2 (by simp)
    cases hop : decide (room ≤ (openN (rows.map Row.it) : Int)) with
    | true =>
      obtain rfl : force = true := by rw [hop] at hf; simpa using hf
      go_wp2_with fail
      go_meet
      exact ⟨rfl, kM2, hB2⟩
    | false =>
      go_wp2_with fail
      go_meet
      exact ⟨rfl, kM2, hB2⟩
  case rest =>
    obtain ⟨rfl, kMc, hBc⟩ := hcut
    have hqc := (H.out.below hBc).drew
    have hbc := (Below.refl w.heap.size w).trans (hBc.drew)
    have kMd := bk_drew kMc
    have hne : w.heap.size ≠ wc.heap.size := by have := kMc.lt; omega
    have hwr : IntKind.i64.wrap ((rows.length : Int) + 1) = (rows.length : Int) + 1 := by rw [IntKind.wrap_i64]; omega
    go_upto_region 5 with fail
    go_cut [8] from 9 (fun p wx => ∃ x8 : Nat, ∃ lv : Value, p = .pointer (some ⟨x8, 0, none⟩) ∧ w.heap.size ≤ x8 ∧ Bk wx x8 51 #[.int .i64 ((rows.length : Int) + 1), .bool m.frm.null, .string m.frm.loc, .string m.frm.dom, .slice none 0 0, lv, .bool m.flags.head, .bool m.flags.body, .bool m.flags.bad, .int .i64 m.flags.lines, .int .i64 m.flags.hops, .int .i64 m.bytes] ∧
      wx.ownsRow w.heap.size 9 1 lv m.lines.length (m.lines.map .string) ∧ Bk wx w.heap.size 38 #[.bool m.frm.null, .string m.frm.loc, .string m.frm.dom, .slice At L ct, .slice Al m.lines.length cl, .bool m.flags.head, .bool m.flags.body, .bool m.flags.bad, .int .i64 m.flags.lines, .int .i64 m.flags.hops, .int .i64 m.bytes] ∧ Below w.heap.size w wx)
    case first =>
      refine wp_region_held_drew (S := fun w' : World => w'.cell? ⟨w.heap.size, 0, none⟩ = some (.bool m.frm.null) ∧ w'.cell? ⟨w.heap.size, 1, none⟩ = some (.string m.frm.loc) ∧ w'.cell? ⟨w.heap.size, 2, none⟩ = some (.string m.frm.dom) ∧ w'.cell? ⟨w.heap.size, 4, none⟩ = some (.slice Al m.lines.length cl) ∧ w'.cell? ⟨w.heap.size, 5, none⟩ = some (.bool m.flags.head) ∧ w'.cell? ⟨w.heap.size, 6, none⟩ = some (.bool m.flags.body) ∧ w'.cell? ⟨w.heap.size, 7, none⟩ = some (.bool m.flags.bad) ∧ w'.cell? ⟨w.heap.size, 8, none⟩ = some (.int .i64 m.flags.lines) ∧ w'.cell? ⟨w.heap.size, 9, none⟩ = some (.int .i64 m.flags.hops) ∧ w'.cell? ⟨w.heap.size, 10, none⟩ = some (.int .i64 m.bytes)) (by kernel_rfl) ?_ (fun hHeld => ?_)
      · exact mail_cells kMc
      refine wpAnyH_take (i := 0) (oi := { dst := some 29, op := Op.move (Operand.tmp 0), type := 25, pos := "queue.go:49", after := #[], guard := none }) (v := ?_) rfl (by kernel_rfl) (by kernel_rfl) (by kernel_rfl) (fun _ _ _ h => h) (Or.inl ⟨by rfl, ?_⟩) (by assumption) ?_
      rotate_left
      · intro wS hSw; (try dsimp only at hSw); go_simp; (try with_reducible rfl)
      try simp only [Act.put, List.setIfInBounds_toArray, List.set_cons_zero, List.set_cons_succ]
      refine wpAnyH_take (i := 3) (oi := { dst := some 32, op := Op.fieldAddr 38 (Operand.tmp 4) 0, type := 0, pos := "queue.go:49", after := #[], guard := none }) (v := ?_) rfl (by kernel_rfl) (by kernel_rfl) (by kernel_rfl) (fun _ _ _ h => h) (Or.inl ⟨by rfl, ?_⟩) (by assumption) ?_
      rotate_left
      · intro wS hSw; (try dsimp only at hSw); go_simp; (try with_reducible rfl)
      try simp only [Act.put, List.setIfInBounds_toArray, List.set_cons_zero, List.set_cons_succ]
      refine wpAnyH_take (i := 5) (oi := { dst := some 34, op := Op.fieldAddr 38 (Operand.tmp 4) 2, type := 0, pos := "queue.go:49", after := #[], guard := none }) (v := ?_) rfl (by kernel_rfl) (by kernel_rfl) (by kernel_rfl) (fun _ _ _ h => h) (Or.inl ⟨by rfl, ?_⟩) (by assumption) ?_
      rotate_left
      · intro wS hSw; (try dsimp only at hSw); go_simp; (try with_reducible rfl)
      try simp only [Act.put, List.setIfInBounds_toArray, List.set_cons_zero, List.set_cons_succ]
      refine wpAnyH_take (i := 8) (oi := { dst := some 37, op := Op.fieldAddr 38 (Operand.tmp 4) 3, type := 0, pos := "queue.go:49", after := #[], guard := none }) (v := ?_) rfl (by kernel_rfl) (by kernel_rfl) (by kernel_rfl) (fun _ _ _ h => h) (Or.inl ⟨by rfl, ?_⟩) (by assumption) ?_
      rotate_left
      · intro wS hSw; (try dsimp only at hSw); go_simp; (try with_reducible rfl)
      try simp only [Act.put, List.setIfInBounds_toArray, List.set_cons_zero, List.set_cons_succ]
      refine wpAnyH_take (i := 10) (oi := { dst := some 39, op := Op.fieldAddr 38 (Operand.tmp 4) 4, type := 0, pos := "queue.go:49", after := #[], guard := none }) (v := ?_) rfl (by kernel_rfl) (by kernel_rfl) (by kernel_rfl) (fun _ _ _ h => h) (Or.inl ⟨by rfl, ?_⟩) (by assumption) ?_
      rotate_left
      · intro wS hSw; (try dsimp only at hSw); go_simp; (try with_reducible rfl)
      try simp only [Act.put, List.setIfInBounds_toArray, List.set_cons_zero, List.set_cons_succ]
      refine wpAnyH_take (i := 4) (oi := { dst := some 33, op := Op.load 32 (Operand.tmp 32), type := 32, pos := "queue.go:49", after := #[{ on := 3, ground := Ground.data }], guard := none }) (v := ?_) rfl (by kernel_rfl) (by kernel_rfl) (by kernel_rfl) (fun _ _ _ h => h) (Or.inl ⟨by rfl, ?_⟩) (by assumption) ?_
      rotate_left
      · intro wS hSw; (try dsimp only at hSw); go_simp; (try with_reducible rfl)
      try simp only [Act.put, List.setIfInBounds_toArray, List.set_cons_zero, List.set_cons_succ]
      refine wpAnyH_take (i := 6) (oi := { dst := some 35, op := Op.load 34 (Operand.tmp 34), type := 34, pos := "queue.go:49", after := #[{ on := 5, ground := Ground.data }], guard := none }) (v := ?_) rfl (by kernel_rfl) (by kernel_rfl) (by kernel_rfl) (fun _ _ _ h => h) (Or.inl ⟨by rfl, ?_⟩) (by assumption) ?_
      rotate_left
      · intro wS hSw; (try dsimp only at hSw); go_simp; (try with_reducible rfl)
      try simp only [Act.put, List.setIfInBounds_toArray, List.set_cons_zero, List.set_cons_succ]
      refine wpAnyH_take (i := 9) (oi := { dst := some 38, op := Op.load 36 (Operand.tmp 37), type := 36, pos := "queue.go:49", after := #[{ on := 8, ground := Ground.data }], guard := none }) (v := ?_) rfl (by kernel_rfl) (by kernel_rfl) (by kernel_rfl) (fun _ _ _ h => h) (Or.inl ⟨by rfl, ?_⟩) (by assumption) ?_
      rotate_left
      · intro wS hSw; (try dsimp only at hSw); go_simp; (try with_reducible rfl)
      try simp only [Act.put, List.setIfInBounds_toArray, List.set_cons_zero, List.set_cons_succ]
      refine wpAnyH_take (i := 11) (oi := { dst := some 40, op := Op.load 3 (Operand.tmp 39), type := 3, pos := "queue.go:49", after := #[{ on := 10, ground := Ground.data }], guard := none }) (v := ?_) rfl (by kernel_rfl) (by kernel_rfl) (by kernel_rfl) (fun _ _ _ h => h) (Or.inl ⟨by rfl, ?_⟩) (by assumption) ?_
      rotate_left
      · intro wS hSw; (try dsimp only at hSw); go_simp; (try with_reducible rfl)
      try simp only [Act.put, List.setIfInBounds_toArray, List.set_cons_zero, List.set_cons_succ]
      refine wpAnyH_ready (rs := [1, 13]) (by kernel_rfl) (by simp) ?_
      refine AllReadyH.cons (o := { dst := some 30, op := Op.call { callee := Callee.value (Operand.func 27), args := #[Operand.tmp 29], argTypes := #[25] }, type := 3, pos := "queue.go:49", after := #[{ on := 0, ground := Ground.data }], guard := none }) rfl (fun K hK => ?_) (AllReadyH.cons (o := { dst := some 8, op := Op.alloc 51, type := 0, pos := "queue.go:49", after := #[], guard := none }) rfl (fun K hK => ?_) (AllReadyH.nil))
      · go_simp
        refine (len_any _ B g v rows room tries wait hqc).mono ?_
        rintro e w' ⟨rfl, rfl⟩
        try dsimp only
        refine hK.out _ _ ?_ (fun hHeld => ?_)
        · exact mail_cells kMc
        clear hK K
        try simp only [Act.put, List.setIfInBounds_toArray, List.set_cons_zero, List.set_cons_succ]
        refine wpAnyH_take (i := 2) (oi := { dst := some 31, op := Op.binOp BinOp.add 3 (Operand.tmp 30) (Operand.const (Value.int IntKind.i64 1)) 3, type := 3, pos := "queue.go:49", after := #[{ on := 1, ground := Ground.data }], guard := none }) (v := ?_) rfl (by kernel_rfl) (by kernel_rfl) (by kernel_rfl) (fun _ _ _ h => h) (Or.inl ⟨by rfl, ?_⟩) (by assumption) ?_
        rotate_left
        · intro wS hSw; (try dsimp only at hSw); go_simp; (try with_reducible rfl)
        try simp only [Act.put, List.setIfInBounds_toArray, List.set_cons_zero, List.set_cons_succ]
        refine wpAnyH_ready (rs := [7, 13]) (by kernel_rfl) (by simp) ?_
        refine AllReadyH.cons (o := { dst := some 36, op := Op.call { callee := Callee.value (Operand.func 31), args := #[Operand.tmp 35], argTypes := #[34] }, type := 34, pos := "queue.go:49", after := #[{ on := 6, ground := Ground.data }, { on := 1, ground := Ground.chain }], guard := none }) rfl (fun K hK => ?_) (AllReadyH.cons (o := { dst := some 8, op := Op.alloc 51, type := 0, pos := "queue.go:49", after := #[], guard := none }) rfl (fun K hK => ?_) (AllReadyH.nil))
        · go_simp
          refine (clone_rd Al cl m.lines _ w.heap.size (Hr.out.below hbc) (by omega)).mono ?_
          rintro e w4 ⟨lv, rfl, ho4, b4⟩
          obtain ⟨A3, c3, rfl⟩ := own_any ho4
          have kM4 := kMd.below b4 kMd.lt
          try dsimp only
          refine hK.out _ _ ?_ (fun hHeld => ?_)
          · exact mail_cells kM4
          clear hK K
          try simp only [Act.put, List.setIfInBounds_toArray, List.set_cons_zero, List.set_cons_succ]
          refine wpAnyH_take (i := 12) (oi := { dst := some 41, op := Op.build 51 #[(0, Operand.tmp 31), (1, Operand.tmp 33), (3, Operand.tmp 36), (4, Operand.tmp 38), (5, Operand.tmp 40)], type := 51, pos := "queue.go:49", after := #[{ on := 2, ground := Ground.data }, { on := 4, ground := Ground.data }, { on := 7, ground := Ground.data }, { on := 9, ground := Ground.data }, { on := 11, ground := Ground.data }], guard := none }) (v := ?_) rfl (by kernel_rfl) (by kernel_rfl) (by kernel_rfl) (fun _ _ _ h => h) (Or.inl ⟨by rfl, ?_⟩) (by assumption) ?_
          rotate_left
          · intro wS hSw; (try dsimp only at hSw); go_simp; (try with_reducible rfl)
          try simp only [Act.put, List.setIfInBounds_toArray, List.set_cons_zero, List.set_cons_succ]
          try rw [hwr]
          refine wpAnyH_ready (rs := [13]) (by kernel_rfl) (by simp) ?_
          refine AllReadyH.cons (o := { dst := some 8, op := Op.alloc 51, type := 0, pos := "queue.go:49", after := #[], guard := none }) rfl (fun K hK => ?_) AllReadyH.nil
          go_simp
          try dsimp only
          refine hK.out _ _ ?_ (fun hHeld => ?_)
          · exact mail_cells (kM4.alloc _)
          clear hK K
          try simp only [Act.put, List.setIfInBounds_toArray, List.set_cons_zero, List.set_cons_succ]
          refine wpAnyH_ready (rs := [14]) (by kernel_rfl) (by simp) ?_
          refine AllReadyH.cons (o := { dst := none, op := Op.store 51 (Operand.tmp 8) (Operand.tmp 41), type := 0, pos := "queue.go:49", after := #[{ on := 13, ground := Ground.data }, { on := 12, ground := Ground.data }, { on := 7, ground := Ground.chain }, { on := 0, ground := Ground.phase }, { on := 1, ground := Ground.phase }, { on := 2, ground := Ground.phase }, { on := 3, ground := Ground.phase }, { on := 4, ground := Ground.phase }, { on := 5, ground := Ground.phase }, { on := 6, ground := Ground.phase }, { on := 7, ground := Ground.phase }, { on := 8, ground := Ground.phase }, { on := 9, ground := Ground.phase }, { on := 10, ground := Ground.phase }, { on := 11, ground := Ground.phase }, { on := 12, ground := Ground.phase }, { on := 13, ground := Ground.phase }], guard := none }) rfl (fun K hK => ?_) AllReadyH.nil
          go_simp
          try dsimp only
          refine hK.out _ _ ?_ (fun hHeld => ?_)
          · exact mail_cells (kM4.alloc _)
          clear hK K
          try simp only [Act.put, List.setIfInBounds_toArray, List.set_cons_zero, List.set_cons_succ]
          refine wpAnyH_done (by kernel_rfl) ?_ _
          go_wp2_with fail
          go_meet
          exact ⟨w4.heap.size, _, rfl, (hbc.trans (b4.mono hbc.size)).size, Bk.new _ _ _, (own_base ho4 hbc.size).alloc _, kM4.alloc _, (hbc.trans (b4.mono hbc.size)).alloc (hbc.trans (b4.mono hbc.size)).size _⟩
        · go_simp
          try dsimp only
          refine hK.out _ _ ?_ (fun hHeld => ?_)
          · exact mail_cells (kMc.alloc _)
          clear hK K
          try simp only [Act.put, List.setIfInBounds_toArray, List.set_cons_zero, List.set_cons_succ]
          refine wpAnyH_ready (rs := [7]) (by kernel_rfl) (by simp) ?_
          refine AllReadyH.cons (o := { dst := some 36, op := Op.call { callee := Callee.value (Operand.func 31), args := #[Operand.tmp 35], argTypes := #[34] }, type := 34, pos := "queue.go:49", after := #[{ on := 6, ground := Ground.data }, { on := 1, ground := Ground.chain }], guard := none }) rfl (fun K hK => ?_) AllReadyH.nil
          go_simp
          refine (clone_rd Al cl m.lines _ w.heap.size (Hr.out.below (hbc.alloc hbc.size (.cells #[.int .i64 0, .bool false, .string ⟨#[]⟩, .string ⟨#[]⟩, .slice none 0 0, .slice none 0 0, .bool false, .bool false, .bool false, .int .i64 0, .int .i64 0, .int .i64 0] 51))) (by omega)).mono ?_
          rintro e w4 ⟨lv, rfl, ho4, b4⟩
          obtain ⟨A3, c3, rfl⟩ := own_any ho4
          have kM4 := (kMd.alloc (.cells #[.int .i64 0, .bool false, .string ⟨#[]⟩, .string ⟨#[]⟩, .slice none 0 0, .slice none 0 0, .bool false, .bool false, .bool false, .int .i64 0, .int .i64 0, .int .i64 0] 51)).below b4 (kMd.alloc _).lt
          have kZ := (Bk.new wc.drew 51 #[.int .i64 0, .bool false, .string ⟨#[]⟩, .string ⟨#[]⟩, .slice none 0 0, .slice none 0 0, .bool false, .bool false, .bool false, .int .i64 0, .int .i64 0, .int .i64 0]).below b4 (Bk.new _ _ _).lt
          have bZ := (hbc.alloc hbc.size (.cells #[.int .i64 0, .bool false, .string ⟨#[]⟩, .string ⟨#[]⟩, .slice none 0 0, .slice none 0 0, .bool false, .bool false, .bool false, .int .i64 0, .int .i64 0, .int .i64 0] 51)).trans (b4.mono (hbc.alloc hbc.size _).size)
          have ho5 := own_base ho4 (hbc.alloc hbc.size _).size
          clear ho4 b4
          have z0 := kZ.cell 0
          have z1 := kZ.cell 1
          have z2 := kZ.cell 2
          have z3 := kZ.cell 3
          have z4 := kZ.cell 4
          have z5 := kZ.cell 5
          have z6 := kZ.cell 6
          have z7 := kZ.cell 7
          have z8 := kZ.cell 8
          have z9 := kZ.cell 9
          have z10 := kZ.cell 10
          have z11 := kZ.cell 11
          simp at z0 z1 z2 z3 z4 z5 z6 z7 z8 z9 z10 z11
          have y0 := kZ.frozen 0
          have y1 := kZ.frozen 1
          have y2 := kZ.frozen 2
          have y3 := kZ.frozen 3
          have y4 := kZ.frozen 4
          have y5 := kZ.frozen 5
          have y6 := kZ.frozen 6
          have y7 := kZ.frozen 7
          have y8 := kZ.frozen 8
          have y9 := kZ.frozen 9
          have y10 := kZ.frozen 10
          have y11 := kZ.frozen 11
          simp only [World.size_drew] at y0 y1 y2 y3 y4 y5 y6 y7 y8 y9 y10 y11 kZ
          try dsimp only
          refine hK.out _ _ ?_ (fun hHeld => ?_)
          · exact mail_cells kM4
          clear hK K
          try simp only [Act.put, List.setIfInBounds_toArray, List.set_cons_zero, List.set_cons_succ]
          refine wpAnyH_take (i := 12) (oi := { dst := some 41, op := Op.build 51 #[(0, Operand.tmp 31), (1, Operand.tmp 33), (3, Operand.tmp 36), (4, Operand.tmp 38), (5, Operand.tmp 40)], type := 51, pos := "queue.go:49", after := #[{ on := 2, ground := Ground.data }, { on := 4, ground := Ground.data }, { on := 7, ground := Ground.data }, { on := 9, ground := Ground.data }, { on := 11, ground := Ground.data }], guard := none }) (v := ?_) rfl (by kernel_rfl) (by kernel_rfl) (by kernel_rfl) (fun _ _ _ h => h) (Or.inl ⟨by rfl, ?_⟩) (by assumption) ?_
          rotate_left
          · intro wS hSw; (try dsimp only at hSw); go_simp; (try with_reducible rfl)
          try simp only [Act.put, List.setIfInBounds_toArray, List.set_cons_zero, List.set_cons_succ]
          try rw [hwr]
          refine wpAnyH_ready (rs := [14]) (by kernel_rfl) (by simp) ?_
          refine AllReadyH.cons (o := { dst := none, op := Op.store 51 (Operand.tmp 8) (Operand.tmp 41), type := 0, pos := "queue.go:49", after := #[{ on := 13, ground := Ground.data }, { on := 12, ground := Ground.data }, { on := 7, ground := Ground.chain }, { on := 0, ground := Ground.phase }, { on := 1, ground := Ground.phase }, { on := 2, ground := Ground.phase }, { on := 3, ground := Ground.phase }, { on := 4, ground := Ground.phase }, { on := 5, ground := Ground.phase }, { on := 6, ground := Ground.phase }, { on := 7, ground := Ground.phase }, { on := 8, ground := Ground.phase }, { on := 9, ground := Ground.phase }, { on := 10, ground := Ground.phase }, { on := 11, ground := Ground.phase }, { on := 12, ground := Ground.phase }, { on := 13, ground := Ground.phase }], guard := none }) rfl (fun K hK => ?_) AllReadyH.nil
          go_simp
          try dsimp only
          refine hK.out _ _ ?_ (fun hHeld => ?_)
          · exact mail_cells ((((((((((((kM4.far (p := ⟨wc.heap.size, 0, none⟩) hne _).far (p := ⟨wc.heap.size, 1, none⟩) hne _).far (p := ⟨wc.heap.size, 2, none⟩) hne _).far (p := ⟨wc.heap.size, 3, none⟩) hne _).far (p := ⟨wc.heap.size, 4, none⟩) hne _).far (p := ⟨wc.heap.size, 5, none⟩) hne _).far (p := ⟨wc.heap.size, 6, none⟩) hne _).far (p := ⟨wc.heap.size, 7, none⟩) hne _).far (p := ⟨wc.heap.size, 8, none⟩) hne _).far (p := ⟨wc.heap.size, 9, none⟩) hne _).far (p := ⟨wc.heap.size, 10, none⟩) hne _).far (p := ⟨wc.heap.size, 11, none⟩) hne _)
          clear hK K
          try simp only [Act.put, List.setIfInBounds_toArray, List.set_cons_zero, List.set_cons_succ]
          refine wpAnyH_done (by kernel_rfl) ?_ _
          go_wp2_with fail
          go_meet
          have hk := ((((((((((((kZ.set_ 0 (.int .i64 ((rows.length : Int) + 1))).set_ 1 (.bool m.frm.null)).set_ 2 (.string m.frm.loc)).set_ 3 (.string m.frm.dom)).set_ 4 (.slice none 0 0)).set_ 5 (.slice A3 m.lines.length c3)).set_ 6 (.bool m.flags.head)).set_ 7 (.bool m.flags.body)).set_ 8 (.bool m.flags.bad)).set_ 9 (.int .i64 m.flags.lines)).set_ 10 (.int .i64 m.flags.hops)).set_ 11 (.int .i64 m.bytes))
          simp at hk
          refine ⟨wc.heap.size, _, rfl, hBc.size, hk, ?_, ((((((((((((kM4.far (p := ⟨wc.heap.size, 0, none⟩) hne _).far (p := ⟨wc.heap.size, 1, none⟩) hne _).far (p := ⟨wc.heap.size, 2, none⟩) hne _).far (p := ⟨wc.heap.size, 3, none⟩) hne _).far (p := ⟨wc.heap.size, 4, none⟩) hne _).far (p := ⟨wc.heap.size, 5, none⟩) hne _).far (p := ⟨wc.heap.size, 6, none⟩) hne _).far (p := ⟨wc.heap.size, 7, none⟩) hne _).far (p := ⟨wc.heap.size, 8, none⟩) hne _).far (p := ⟨wc.heap.size, 9, none⟩) hne _).far (p := ⟨wc.heap.size, 10, none⟩) hne _).far (p := ⟨wc.heap.size, 11, none⟩) hne _), ?_⟩
          · refine own_only ho5 (S := fun k => k = wc.heap.size) ?_ (fun k hk2 e => own_ne ho5 kZ (by decide) (by rw [hk2, e]))
            iterate 12 (refine Only.setCell ?_ (by simp) _)
            exact Only.refl _ _
          · refine Only.belowOf (S := fun k => k = wc.heap.size) bZ ?_ (Nat.le_refl _) (fun k hk2 => by rw [hk2]; exact hBc.size)
            iterate 12 (refine Only.setCell ?_ (by simp) _)
            exact Only.refl _ _
      · go_simp
        try dsimp only
        refine hK.out _ _ ?_ (fun hHeld => ?_)
        · exact mail_cells (kMc.alloc _)
        clear hK K
        try simp only [Act.put, List.setIfInBounds_toArray, List.set_cons_zero, List.set_cons_succ]
        refine wpAnyH_ready (rs := [1]) (by kernel_rfl) (by simp) ?_
        refine AllReadyH.cons (o := { dst := some 30, op := Op.call { callee := Callee.value (Operand.func 27), args := #[Operand.tmp 29], argTypes := #[25] }, type := 3, pos := "queue.go:49", after := #[{ on := 0, ground := Ground.data }], guard := none }) rfl (fun K hK => ?_) AllReadyH.nil
        go_simp
        refine (len_any _ B g v rows room tries wait (hqc.below ((Below.refl _ _).alloc (Nat.le_refl _) (.cells #[.int .i64 0, .bool false, .string ⟨#[]⟩, .string ⟨#[]⟩, .slice none 0 0, .slice none 0 0, .bool false, .bool false, .bool false, .int .i64 0, .int .i64 0, .int .i64 0] 51)))).mono ?_
        rintro e w' ⟨rfl, rfl⟩
        try dsimp only
        refine hK.out _ _ ?_ (fun hHeld => ?_)
        · exact mail_cells (kMc.alloc _)
        clear hK K
        try simp only [Act.put, List.setIfInBounds_toArray, List.set_cons_zero, List.set_cons_succ]
        refine wpAnyH_take (i := 2) (oi := { dst := some 31, op := Op.binOp BinOp.add 3 (Operand.tmp 30) (Operand.const (Value.int IntKind.i64 1)) 3, type := 3, pos := "queue.go:49", after := #[{ on := 1, ground := Ground.data }], guard := none }) (v := ?_) rfl (by kernel_rfl) (by kernel_rfl) (by kernel_rfl) (fun _ _ _ h => h) (Or.inl ⟨by rfl, ?_⟩) (by assumption) ?_
        rotate_left
        · intro wS hSw; (try dsimp only at hSw); go_simp; (try with_reducible rfl)
        try simp only [Act.put, List.setIfInBounds_toArray, List.set_cons_zero, List.set_cons_succ]
        refine wpAnyH_ready (rs := [7]) (by kernel_rfl) (by simp) ?_
        refine AllReadyH.cons (o := { dst := some 36, op := Op.call { callee := Callee.value (Operand.func 31), args := #[Operand.tmp 35], argTypes := #[34] }, type := 34, pos := "queue.go:49", after := #[{ on := 6, ground := Ground.data }, { on := 1, ground := Ground.chain }], guard := none }) rfl (fun K hK => ?_) AllReadyH.nil
        go_simp
        refine (clone_rd Al cl m.lines _ w.heap.size (Hr.out.below (hbc.alloc hbc.size (.cells #[.int .i64 0, .bool false, .string ⟨#[]⟩, .string ⟨#[]⟩, .slice none 0 0, .slice none 0 0, .bool false, .bool false, .bool false, .int .i64 0, .int .i64 0, .int .i64 0] 51))) (by omega)).mono ?_
        rintro e w4 ⟨lv, rfl, ho4, b4⟩
        obtain ⟨A3, c3, rfl⟩ := own_any ho4
        have kM4 := (kMd.alloc (.cells #[.int .i64 0, .bool false, .string ⟨#[]⟩, .string ⟨#[]⟩, .slice none 0 0, .slice none 0 0, .bool false, .bool false, .bool false, .int .i64 0, .int .i64 0, .int .i64 0] 51)).below b4 (kMd.alloc _).lt
        have kZ := (Bk.new wc.drew 51 #[.int .i64 0, .bool false, .string ⟨#[]⟩, .string ⟨#[]⟩, .slice none 0 0, .slice none 0 0, .bool false, .bool false, .bool false, .int .i64 0, .int .i64 0, .int .i64 0]).below b4 (Bk.new _ _ _).lt
        have bZ := (hbc.alloc hbc.size (.cells #[.int .i64 0, .bool false, .string ⟨#[]⟩, .string ⟨#[]⟩, .slice none 0 0, .slice none 0 0, .bool false, .bool false, .bool false, .int .i64 0, .int .i64 0, .int .i64 0] 51)).trans (b4.mono (hbc.alloc hbc.size _).size)
        have ho5 := own_base ho4 (hbc.alloc hbc.size _).size
        clear ho4 b4
        have z0 := kZ.cell 0
        have z1 := kZ.cell 1
        have z2 := kZ.cell 2
        have z3 := kZ.cell 3
        have z4 := kZ.cell 4
        have z5 := kZ.cell 5
        have z6 := kZ.cell 6
        have z7 := kZ.cell 7
        have z8 := kZ.cell 8
        have z9 := kZ.cell 9
        have z10 := kZ.cell 10
        have z11 := kZ.cell 11
        simp at z0 z1 z2 z3 z4 z5 z6 z7 z8 z9 z10 z11
        have y0 := kZ.frozen 0
        have y1 := kZ.frozen 1
        have y2 := kZ.frozen 2
        have y3 := kZ.frozen 3
        have y4 := kZ.frozen 4
        have y5 := kZ.frozen 5
        have y6 := kZ.frozen 6
        have y7 := kZ.frozen 7
        have y8 := kZ.frozen 8
        have y9 := kZ.frozen 9
        have y10 := kZ.frozen 10
        have y11 := kZ.frozen 11
        simp only [World.size_drew] at y0 y1 y2 y3 y4 y5 y6 y7 y8 y9 y10 y11 kZ
        try dsimp only
        refine hK.out _ _ ?_ (fun hHeld => ?_)
        · exact mail_cells kM4
        clear hK K
        try simp only [Act.put, List.setIfInBounds_toArray, List.set_cons_zero, List.set_cons_succ]
        refine wpAnyH_take (i := 12) (oi := { dst := some 41, op := Op.build 51 #[(0, Operand.tmp 31), (1, Operand.tmp 33), (3, Operand.tmp 36), (4, Operand.tmp 38), (5, Operand.tmp 40)], type := 51, pos := "queue.go:49", after := #[{ on := 2, ground := Ground.data }, { on := 4, ground := Ground.data }, { on := 7, ground := Ground.data }, { on := 9, ground := Ground.data }, { on := 11, ground := Ground.data }], guard := none }) (v := ?_) rfl (by kernel_rfl) (by kernel_rfl) (by kernel_rfl) (fun _ _ _ h => h) (Or.inl ⟨by rfl, ?_⟩) (by assumption) ?_
        rotate_left
        · intro wS hSw; (try dsimp only at hSw); go_simp; (try with_reducible rfl)
        try simp only [Act.put, List.setIfInBounds_toArray, List.set_cons_zero, List.set_cons_succ]
        try rw [hwr]
        refine wpAnyH_ready (rs := [14]) (by kernel_rfl) (by simp) ?_
        refine AllReadyH.cons (o := { dst := none, op := Op.store 51 (Operand.tmp 8) (Operand.tmp 41), type := 0, pos := "queue.go:49", after := #[{ on := 13, ground := Ground.data }, { on := 12, ground := Ground.data }, { on := 7, ground := Ground.chain }, { on := 0, ground := Ground.phase }, { on := 1, ground := Ground.phase }, { on := 2, ground := Ground.phase }, { on := 3, ground := Ground.phase }, { on := 4, ground := Ground.phase }, { on := 5, ground := Ground.phase }, { on := 6, ground := Ground.phase }, { on := 7, ground := Ground.phase }, { on := 8, ground := Ground.phase }, { on := 9, ground := Ground.phase }, { on := 10, ground := Ground.phase }, { on := 11, ground := Ground.phase }, { on := 12, ground := Ground.phase }, { on := 13, ground := Ground.phase }], guard := none }) rfl (fun K hK => ?_) AllReadyH.nil
        go_simp
        try dsimp only
        refine hK.out _ _ ?_ (fun hHeld => ?_)
        · exact mail_cells ((((((((((((kM4.far (p := ⟨wc.heap.size, 0, none⟩) hne _).far (p := ⟨wc.heap.size, 1, none⟩) hne _).far (p := ⟨wc.heap.size, 2, none⟩) hne _).far (p := ⟨wc.heap.size, 3, none⟩) hne _).far (p := ⟨wc.heap.size, 4, none⟩) hne _).far (p := ⟨wc.heap.size, 5, none⟩) hne _).far (p := ⟨wc.heap.size, 6, none⟩) hne _).far (p := ⟨wc.heap.size, 7, none⟩) hne _).far (p := ⟨wc.heap.size, 8, none⟩) hne _).far (p := ⟨wc.heap.size, 9, none⟩) hne _).far (p := ⟨wc.heap.size, 10, none⟩) hne _).far (p := ⟨wc.heap.size, 11, none⟩) hne _)
        clear hK K
        try simp only [Act.put, List.setIfInBounds_toArray, List.set_cons_zero, List.set_cons_succ]
        refine wpAnyH_done (by kernel_rfl) ?_ _
        go_wp2_with fail
        go_meet
        have hk := ((((((((((((kZ.set_ 0 (.int .i64 ((rows.length : Int) + 1))).set_ 1 (.bool m.frm.null)).set_ 2 (.string m.frm.loc)).set_ 3 (.string m.frm.dom)).set_ 4 (.slice none 0 0)).set_ 5 (.slice A3 m.lines.length c3)).set_ 6 (.bool m.flags.head)).set_ 7 (.bool m.flags.body)).set_ 8 (.bool m.flags.bad)).set_ 9 (.int .i64 m.flags.lines)).set_ 10 (.int .i64 m.flags.hops)).set_ 11 (.int .i64 m.bytes))
        simp at hk
        refine ⟨wc.heap.size, _, rfl, hBc.size, hk, ?_, ((((((((((((kM4.far (p := ⟨wc.heap.size, 0, none⟩) hne _).far (p := ⟨wc.heap.size, 1, none⟩) hne _).far (p := ⟨wc.heap.size, 2, none⟩) hne _).far (p := ⟨wc.heap.size, 3, none⟩) hne _).far (p := ⟨wc.heap.size, 4, none⟩) hne _).far (p := ⟨wc.heap.size, 5, none⟩) hne _).far (p := ⟨wc.heap.size, 6, none⟩) hne _).far (p := ⟨wc.heap.size, 7, none⟩) hne _).far (p := ⟨wc.heap.size, 8, none⟩) hne _).far (p := ⟨wc.heap.size, 9, none⟩) hne _).far (p := ⟨wc.heap.size, 10, none⟩) hne _).far (p := ⟨wc.heap.size, 11, none⟩) hne _), ?_⟩
        · refine own_only ho5 (S := fun k => k = wc.heap.size) ?_ (fun k hk2 e => own_ne ho5 kZ (by decide) (by rw [hk2, e]))
          iterate 12 (refine Only.setCell ?_ (by simp) _)
          exact Only.refl _ _
        · refine Only.belowOf (S := fun k => k = wc.heap.size) bZ ?_ (Nat.le_refl _) (fun k hk2 => by rw [hk2]; exact hBc.size)
          iterate 12 (refine Only.setCell ?_ (by simp) _)
          exact Only.refl _ _
    case rest =>
      obtain ⟨x8, lv, rfl, hx8, kX, hlv, kM, hB⟩ := hcut
      clear kMc kMd hqc hbc hBc hne
      rename World => wb
      have kt := kM.cell 3
      simp at kt
      obtain ⟨A2, c2, rfl⟩ := own_any hlv
      have hbs := hB.size
      obtain ⟨i0, hi, hz0, hz1, hz2⟩ := info_parts info60
      have Hlv := Lib.hid hlv
      clear hlv kM
      go_wp2_with fail
      go_loopw [45] (fun i wr => ∃ k : Nat, k ≤ L ∧ i = .int .i64 k ∧ ∃ A1 c1, Bk wr x8 51 #[.int .i64 ((rows.length : Int) + 1), .bool m.frm.null, .string m.frm.loc, .string m.frm.dom, .slice A1 k c1, .slice A2 m.lines.length c2, .bool m.flags.head, .bool m.flags.body, .bool m.flags.bad, .int .i64 m.flags.lines, .int .i64 m.flags.hops, .int .i64 m.bytes] ∧
        wr.ownsRow wb.heap.size 60 7 (.slice A1 k c1) k (((m.to.take k).map newR).flatMap Rc.cells) ∧ Only wb wr (fun j => j = x8)) (fun i _ => L - (intOf i).toNat)
      case atStart => exact ⟨0, Nat.zero_le _, rfl, none, 0, kX, World.ownsRow_nil _ _ _ _, Only.refl _ _⟩
      case round =>
        obtain ⟨k, hk, rfl, A1, c1, kX2, hown, hon⟩ := hrel
        have hsize := hon.size
        have kXlt := kX2.lt
        have kX4 := kX2.cell 4
        simp at kX4
        by_cases hlt : k < L
        · have hlt' : k < m.to.length := by rw [← HL.out]; exact hlt
          obtain ⟨b, o, rfl, hb, p0, p1, p2⟩ := pth_cells (Ht.out.below (hB.trans (hon.below (B := w.heap.size) hB.size (fun j hj => by rw [hj]; exact hx8)))) hlt'
          have hsn := newR_take m.to k hlt'
          have Hsn := Lib.hid hsn
          clear hsn
          generalize hP : m.to[k] = P at *
          have HP := Lib.hid hP
          clear hP
          obtain ⟨pn, pl, pd⟩ := P
          dsimp only at p0 p1 p2
          have hsrc := Bk.new (wr.alloc (.cells #[.bool pn, .string pl, .string pd] 32)) 60 #[.bool pn, .string pl, .string pd, .int .i64 0, .int .i64 0, .int .i64 0, .int .i64 0]
          rw [World.size_alloc] at hsrc
          have hown2 := (hown.alloc (.cells #[.bool pn, .string pl, .string pd] 32)).alloc (.cells #[.bool pn, .string pl, .string pd, .int .i64 0, .int .i64 0, .int .i64 0, .int .i64 0] 60)
          have kX3 := (kX2.alloc (.cells #[.bool pn, .string pl, .string pd] 32)).alloc (.cells #[.bool pn, .string pl, .string pd, .int .i64 0, .int .i64 0, .int .i64 0, .int .i64 0] 60)
          have hon2 := (hon.alloc (.cells #[.bool pn, .string pl, .string pd] 32)).alloc (.cells #[.bool pn, .string pl, .string pd, .int .i64 0, .int .i64 0, .int .i64 0, .int .i64 0] 60)
          go_wp2_with (at_builtin; refine app_rc (.tmp 50) (.tmp 53) rfl rfl wb.heap.size (.slice A1 k c1) k (((m.to.take k).map newR).flatMap Rc.cells) rfl hown2 (wr.heap.size + 1) (newR ⟨pn, pl, pd⟩) rfl hsrc (by omega) (by simp; omega) (wr.heap.size + 2) (by simp) ?_; intro g' cap w1 hown1 hgrow hat hlt1; have kX5 := kX3.grown hgrow (fun e => own_ne hown2 kX3 (by decide) e.symm); have e4 := kX5.cell 4; have f4 := kX5.frozen 4; simp at e4)
          have hk5 := kX5.set_ 4 (.slice (some ⟨g', 0, none⟩) (k + 1) cap)
          simp at hk5
          refine ⟨⟨k + 1, by omega, by go_num, _, _, hk5, ?_, ?_⟩, by simp [intOf]; omega⟩
          · rw [Hsn.out]
            exact own_set hown1 (p := ⟨x8, 4, none⟩) (own_ne hown1 kX5 (by decide)) _
          · exact (hon2.grown hgrow (fun j hj hlt2 => by have := (hown2.lt j hj).1; omega)).setCell (p := ⟨x8, 4, none⟩) rfl _
        · obtain rfl : L = k := by omega
          have hBr := hB.trans (hon.below (B := w.heap.size) hB.size (fun j hj => by rw [hj]; exact hx8))
          have hq := H.out.below hBr
          have htk : m.to.take L = m.to := List.take_of_length_le (by rw [HL.out]; exact Nat.le_refl _)
          have htv : wr.ownsRow wb.heap.size 60 7 (.slice A1 L c1) (m.to.map newR).length ((m.to.map newR).flatMap Rc.cells) := by
            rw [List.length_map, ← HL.out]
            rwa [htk] at hown
          have hlv2 := own_only Hlv.out hon (fun j hj e => own_ne Hlv.out kX (by decide) (by rw [hj, e]))
          have hnew : newI (rows.map Row.it) m = ⟨(rows.length : Int) + 1, m.frm, m.to.map newR, m.lines, m.flags, m.bytes⟩ := by simp [newI]
          obtain ⟨A, c, rfl⟩ := own_any H.out.row
          have hrow2 := (own_drew hq.row).alloc (.cells #[.int .i64 ((rows.length : Int) + 1), .bool m.frm.null, .string m.frm.loc, .string m.frm.dom, .slice A1 L c1, .slice A2 m.lines.length c2, .bool m.flags.head, .bool m.flags.body, .bool m.flags.bad, .int .i64 m.flags.lines, .int .i64 m.flags.hops, .int .i64 m.bytes] 51)
          have hsrc := Bk.new wr.drew 51 #[.int .i64 ((rows.length : Int) + 1), .bool m.frm.null, .string m.frm.loc, .string m.frm.dom, .slice A1 L c1, .slice A2 m.lines.length c2, .bool m.flags.head, .bool m.flags.body, .bool m.flags.bad, .int .i64 m.flags.lines, .int .i64 m.flags.hops, .int .i64 m.bytes]
          rw [World.size_drew] at hsrc
          have kg2 := (bk_drew hq.blk).alloc (.cells #[.int .i64 ((rows.length : Int) + 1), .bool m.frm.null, .string m.frm.loc, .string m.frm.dom, .slice A1 L c1, .slice A2 m.lines.length c2, .bool m.flags.head, .bool m.flags.body, .bool m.flags.bad, .int .i64 m.flags.lines, .int .i64 m.flags.hops, .int .i64 m.bytes] 51)
          have kx2 := (bk_drew kX2).alloc (.cells #[.int .i64 ((rows.length : Int) + 1), .bool m.frm.null, .string m.frm.loc, .string m.frm.dom, .slice A1 L c1, .slice A2 m.lines.length c2, .bool m.flags.head, .bool m.flags.body, .bool m.flags.bad, .int .i64 m.flags.lines, .int .i64 m.flags.hops, .int .i64 m.bytes] 51)
          have hx8v : (Value.slice A rows.length c).ownBlock ≠ some x8 := fun e => by have := (H.out.row.lt x8 e).2; omega
          have hx8g : x8 ≠ g := fun e => by have := H.out.blk.lt; omega
          have hbase : B ≤ (wr.drew.alloc (.cells #[.int .i64 ((rows.length : Int) + 1), .bool m.frm.null, .string m.frm.loc, .string m.frm.dom, .slice A1 L c1, .slice A2 m.lines.length c2, .bool m.flags.head, .bool m.flags.body, .bool m.flags.bad, .int .i64 m.flags.lines, .int .i64 m.flags.hops, .int .i64 m.bytes] 51)).heap.size := by have := H.out.ge; have := hq.blk.lt; simp; omega
          have G := hq.blk.lt
          have gc := hq.blk.cell 0
          simp at gc
          have q0 := kX2.cell 0
          have q1 := kX2.cell 1
          have q2 := kX2.cell 2
          have q3 := kX2.cell 3
          have q4 := kX2.cell 4
          have q5 := kX2.cell 5
          have q6 := kX2.cell 6
          have q7 := kX2.cell 7
          have q8 := kX2.cell 8
          have q9 := kX2.cell 9
          have q10 := kX2.cell 10
          have q11 := kX2.cell 11
          simp at q0 q1 q2 q3 q4 q5 q6 q7 q8 q9 q10 q11
          clear hq htk hown
          go_wp2_with fail
          refine wp_region_held_drew (S := fun _ : World => True) (by kernel_rfl) ?_ (fun hHeld => ?_)
          · exact trivial
          refine wpAnyH_take (i := 0) (oi := { dst := some 57, op := Op.move (Operand.tmp 0), type := 25, pos := "queue.go:53", after := #[], guard := none }) (v := ?_) rfl (by kernel_rfl) (by kernel_rfl) (by kernel_rfl) (fun _ _ _ h => h) (Or.inl ⟨by rfl, ?_⟩) (by assumption) ?_
          rotate_left
          · intro wS hSw; (try dsimp only at hSw); go_simp; (try with_reducible rfl)
          try simp only [Act.put, List.setIfInBounds_toArray, List.set_cons_zero, List.set_cons_succ]
          refine wpAnyH_take (i := 1) (oi := { dst := some 58, op := Op.move (Operand.tmp 0), type := 25, pos := "queue.go:53", after := #[], guard := none }) (v := ?_) rfl (by kernel_rfl) (by kernel_rfl) (by kernel_rfl) (fun _ _ _ h => h) (Or.inl ⟨by rfl, ?_⟩) (by assumption) ?_
          rotate_left
          · intro wS hSw; (try dsimp only at hSw); go_simp; (try with_reducible rfl)
          try simp only [Act.put, List.setIfInBounds_toArray, List.set_cons_zero, List.set_cons_succ]
          refine wpAnyH_take (i := 2) (oi := { dst := some 59, op := Op.nilCheck (Operand.tmp 58), type := 0, pos := "queue.go:53", after := #[{ on := 1, ground := Ground.data }], guard := none }) (v := ?_) rfl (by kernel_rfl) (by kernel_rfl) (by kernel_rfl) (fun _ _ _ h => h) (Or.inl ⟨by rfl, ?_⟩) (by assumption) ?_
          rotate_left
          · intro wS hSw; (try dsimp only at hSw); go_simp; (try with_reducible rfl)
          try simp only [Act.put, List.setIfInBounds_toArray, List.set_cons_zero, List.set_cons_succ]
          refine wpAnyH_take (i := 3) (oi := { dst := some 60, op := Op.fieldAddr 66 (Operand.tmp 59) 0, type := 0, pos := "queue.go:53", after := #[{ on := 2, ground := Ground.data }], guard := none }) (v := ?_) rfl (by kernel_rfl) (by kernel_rfl) (by kernel_rfl) (fun _ _ _ h => h) (Or.inl ⟨by rfl, ?_⟩) (by assumption) ?_
          rotate_left
          · intro wS hSw; (try dsimp only at hSw); go_simp; (try with_reducible rfl)
          try simp only [Act.put, List.setIfInBounds_toArray, List.set_cons_zero, List.set_cons_succ]
          refine wpAnyH_ready (rs := [4, 5]) (by kernel_rfl) (by simp) ?_
          refine AllReadyH.cons (o := { dst := some 61, op := Op.load 54 (Operand.tmp 60), type := 54, pos := "queue.go:53", after := #[{ on := 3, ground := Ground.data }], guard := none }) rfl (fun K hK => ?_) (AllReadyH.cons (o := { dst := some 62, op := Op.load 51 (Operand.tmp 8), type := 51, pos := "queue.go:53", after := #[], guard := none }) rfl (fun K hK => ?_) (AllReadyH.nil))
          · go_simp
            try dsimp only
            refine hK.out _ _ ?_ (fun hHeld => ?_)
            · exact trivial
            clear hK K
            try simp only [Act.put, List.setIfInBounds_toArray, List.set_cons_zero, List.set_cons_succ]
            refine wpAnyH_ready (rs := [5]) (by kernel_rfl) (by simp) ?_
            refine AllReadyH.cons (o := { dst := some 62, op := Op.load 51 (Operand.tmp 8), type := 51, pos := "queue.go:53", after := #[], guard := none }) rfl (fun K hK => ?_) AllReadyH.nil
            go_simp
            try dsimp only
            refine hK.out _ _ ?_ (fun hHeld => ?_)
            · exact trivial
            clear hK K
            try simp only [Act.put, List.setIfInBounds_toArray, List.set_cons_zero, List.set_cons_succ]
            refine wpAnyH_ready (rs := [6]) (by kernel_rfl) (by simp) ?_
            refine AllReadyH.cons (o := { dst := some 63, op := Op.buildSlice 54 1 #[(0, Operand.tmp 62)], type := 54, pos := "queue.go:53", after := #[{ on := 5, ground := Ground.data }], guard := none }) rfl (fun K hK => ?_) AllReadyH.nil
            go_simp
            try dsimp only
            refine hK.out _ _ ?_ (fun hHeld => ?_)
            · exact trivial
            clear hK K
            try simp only [Act.put, List.setIfInBounds_toArray, List.set_cons_zero, List.set_cons_succ]
            refine wpAnyH_ready (rs := [7]) (by kernel_rfl) (by simp) ?_
            refine AllReadyH.cons (o := { dst := some 64, op := Op.call { callee := Callee.builtin Builtin.append, args := #[Operand.tmp 61, Operand.tmp 63], argTypes := #[54, 54] }, type := 54, pos := "queue.go:53", after := #[{ on := 4, ground := Ground.data }, { on := 6, ground := Ground.data }], guard := none }) rfl (fun K hK => ?_) AllReadyH.nil
            refine step_it (.tmp 61) (.tmp 63) rfl rfl B (.slice A rows.length c) rows.length (rows.flatMap Row.cells) rfl hrow2 wr.heap.size ⟨⟨(rows.length : Int) + 1, m.frm, m.to.map newR, m.lines, m.flags, m.bytes⟩, .slice A1 L c1, .slice A2 m.lines.length c2⟩ rfl hsrc rfl rfl (by omega) hbase (wr.heap.size + 1) (by simp) ?_
            intro g' cap w1 hown1 hgrow hat hlt1
            try dsimp only
            refine hK.out _ _ ?_ (fun hHeld => ?_)
            · exact trivial
            clear hK K
            try simp only [Act.put, List.setIfInBounds_toArray, List.set_cons_zero, List.set_cons_succ]
            have kg1 := kg2.grown hgrow (fun e => own_ne hrow2 kg2 (by decide) e.symm)
            have e0 := kg1.cell 0
            have f0 := kg1.frozen 0
            simp at e0
            have kx1 := kx2.grown hgrow (fun e => hx8v e.symm)
            have efin : (w1.setCell ⟨g, 0, none⟩ (.slice (some ⟨g', 0, none⟩) (rows.length + 1) cap)).cell? ⟨x8, 0, none⟩ = some (.int .i64 ((rows.length : Int) + 1)) := (kx1.far (p := ⟨g, 0, none⟩) hx8g _).cell 0
            have hfin := add_fin H.out hBr (it := ⟨(rows.length : Int) + 1, m.frm, m.to.map newR, m.lines, m.flags, m.bytes⟩) hB.size htv hlv2 hown1 (((Only.refl wr _).drew.alloc _).grown hgrow (fun k hk _ => hk)) (hat.imp id (fun h => by omega))
            have Hfin := Lib.hid hfin
            clear hfin hown1 hgrow hat kx1
            refine wpAnyH_take (i := 8) (oi := { dst := some 65, op := Op.nilCheck (Operand.tmp 57), type := 0, pos := "queue.go:53", after := #[{ on := 0, ground := Ground.data }, { on := 0, ground := Ground.phase }, { on := 1, ground := Ground.phase }, { on := 2, ground := Ground.phase }, { on := 3, ground := Ground.phase }, { on := 4, ground := Ground.phase }, { on := 5, ground := Ground.phase }, { on := 6, ground := Ground.phase }, { on := 7, ground := Ground.phase }], guard := none }) (v := ?_) rfl (by kernel_rfl) (by kernel_rfl) (by kernel_rfl) (fun _ _ _ h => h) (Or.inl ⟨by rfl, ?_⟩) (by assumption) ?_
            rotate_left
            · intro wS hSw; (try dsimp only at hSw); go_simp; (try with_reducible rfl)
            try simp only [Act.put, List.setIfInBounds_toArray, List.set_cons_zero, List.set_cons_succ]
            refine wpAnyH_take (i := 9) (oi := { dst := some 66, op := Op.fieldAddr 66 (Operand.tmp 65) 0, type := 0, pos := "queue.go:53", after := #[{ on := 8, ground := Ground.data }, { on := 0, ground := Ground.phase }, { on := 1, ground := Ground.phase }, { on := 2, ground := Ground.phase }, { on := 3, ground := Ground.phase }, { on := 4, ground := Ground.phase }, { on := 5, ground := Ground.phase }, { on := 6, ground := Ground.phase }, { on := 7, ground := Ground.phase }], guard := none }) (v := ?_) rfl (by kernel_rfl) (by kernel_rfl) (by kernel_rfl) (fun _ _ _ h => h) (Or.inl ⟨by rfl, ?_⟩) (by assumption) ?_
            rotate_left
            · intro wS hSw; (try dsimp only at hSw); go_simp; (try with_reducible rfl)
            try simp only [Act.put, List.setIfInBounds_toArray, List.set_cons_zero, List.set_cons_succ]
            refine wpAnyH_ready (rs := [10]) (by kernel_rfl) (by simp) ?_
            refine AllReadyH.cons (o := { dst := none, op := Op.store 54 (Operand.tmp 66) (Operand.tmp 64), type := 0, pos := "queue.go:53", after := #[{ on := 9, ground := Ground.data }, { on := 7, ground := Ground.data }, { on := 7, ground := Ground.chain }, { on := 0, ground := Ground.phase }, { on := 1, ground := Ground.phase }, { on := 2, ground := Ground.phase }, { on := 3, ground := Ground.phase }, { on := 4, ground := Ground.phase }, { on := 5, ground := Ground.phase }, { on := 6, ground := Ground.phase }, { on := 7, ground := Ground.phase }], guard := none }) rfl (fun K hK => ?_) AllReadyH.nil
            go_simp
            try dsimp only
            refine hK.out _ _ ?_ (fun hHeld => ?_)
            · exact trivial
            clear hK K
            try simp only [Act.put, List.setIfInBounds_toArray, List.set_cons_zero, List.set_cons_succ]
            refine wpAnyH_done (by kernel_rfl) ?_ _
            go_wp2_with fail
            go_ret2
            exact ⟨rfl, by rw [hnew]; exact Hfin.out⟩
          · go_simp
            try dsimp only
            refine hK.out _ _ ?_ (fun hHeld => ?_)
            · exact trivial
            clear hK K
            try simp only [Act.put, List.setIfInBounds_toArray, List.set_cons_zero, List.set_cons_succ]
            refine wpAnyH_ready (rs := [4, 6]) (by kernel_rfl) (by simp) ?_
            refine AllReadyH.cons (o := { dst := some 61, op := Op.load 54 (Operand.tmp 60), type := 54, pos := "queue.go:53", after := #[{ on := 3, ground := Ground.data }], guard := none }) rfl (fun K hK => ?_) (AllReadyH.cons (o := { dst := some 63, op := Op.buildSlice 54 1 #[(0, Operand.tmp 62)], type := 54, pos := "queue.go:53", after := #[{ on := 5, ground := Ground.data }], guard := none }) rfl (fun K hK => ?_) (AllReadyH.nil))
            · go_simp
              try dsimp only
              refine hK.out _ _ ?_ (fun hHeld => ?_)
              · exact trivial
              clear hK K
              try simp only [Act.put, List.setIfInBounds_toArray, List.set_cons_zero, List.set_cons_succ]
              refine wpAnyH_ready (rs := [6]) (by kernel_rfl) (by simp) ?_
              refine AllReadyH.cons (o := { dst := some 63, op := Op.buildSlice 54 1 #[(0, Operand.tmp 62)], type := 54, pos := "queue.go:53", after := #[{ on := 5, ground := Ground.data }], guard := none }) rfl (fun K hK => ?_) AllReadyH.nil
              go_simp
              try dsimp only
              refine hK.out _ _ ?_ (fun hHeld => ?_)
              · exact trivial
              clear hK K
              try simp only [Act.put, List.setIfInBounds_toArray, List.set_cons_zero, List.set_cons_succ]
              refine wpAnyH_ready (rs := [7]) (by kernel_rfl) (by simp) ?_
              refine AllReadyH.cons (o := { dst := some 64, op := Op.call { callee := Callee.builtin Builtin.append, args := #[Operand.tmp 61, Operand.tmp 63], argTypes := #[54, 54] }, type := 54, pos := "queue.go:53", after := #[{ on := 4, ground := Ground.data }, { on := 6, ground := Ground.data }], guard := none }) rfl (fun K hK => ?_) AllReadyH.nil
              refine step_it (.tmp 61) (.tmp 63) rfl rfl B (.slice A rows.length c) rows.length (rows.flatMap Row.cells) rfl hrow2 wr.heap.size ⟨⟨(rows.length : Int) + 1, m.frm, m.to.map newR, m.lines, m.flags, m.bytes⟩, .slice A1 L c1, .slice A2 m.lines.length c2⟩ rfl hsrc rfl rfl (by omega) hbase (wr.heap.size + 1) (by simp) ?_
              intro g' cap w1 hown1 hgrow hat hlt1
              try dsimp only
              refine hK.out _ _ ?_ (fun hHeld => ?_)
              · exact trivial
              clear hK K
              try simp only [Act.put, List.setIfInBounds_toArray, List.set_cons_zero, List.set_cons_succ]
              have kg1 := kg2.grown hgrow (fun e => own_ne hrow2 kg2 (by decide) e.symm)
              have e0 := kg1.cell 0
              have f0 := kg1.frozen 0
              simp at e0
              have kx1 := kx2.grown hgrow (fun e => hx8v e.symm)
              have efin : (w1.setCell ⟨g, 0, none⟩ (.slice (some ⟨g', 0, none⟩) (rows.length + 1) cap)).cell? ⟨x8, 0, none⟩ = some (.int .i64 ((rows.length : Int) + 1)) := (kx1.far (p := ⟨g, 0, none⟩) hx8g _).cell 0
              have hfin := add_fin H.out hBr (it := ⟨(rows.length : Int) + 1, m.frm, m.to.map newR, m.lines, m.flags, m.bytes⟩) hB.size htv hlv2 hown1 (((Only.refl wr _).drew.alloc _).grown hgrow (fun k hk _ => hk)) (hat.imp id (fun h => by omega))
              have Hfin := Lib.hid hfin
              clear hfin hown1 hgrow hat kx1
              refine wpAnyH_take (i := 8) (oi := { dst := some 65, op := Op.nilCheck (Operand.tmp 57), type := 0, pos := "queue.go:53", after := #[{ on := 0, ground := Ground.data }, { on := 0, ground := Ground.phase }, { on := 1, ground := Ground.phase }, { on := 2, ground := Ground.phase }, { on := 3, ground := Ground.phase }, { on := 4, ground := Ground.phase }, { on := 5, ground := Ground.phase }, { on := 6, ground := Ground.phase }, { on := 7, ground := Ground.phase }], guard := none }) (v := ?_) rfl (by kernel_rfl) (by kernel_rfl) (by kernel_rfl) (fun _ _ _ h => h) (Or.inl ⟨by rfl, ?_⟩) (by assumption) ?_
              rotate_left
              · intro wS hSw; (try dsimp only at hSw); go_simp; (try with_reducible rfl)
              try simp only [Act.put, List.setIfInBounds_toArray, List.set_cons_zero, List.set_cons_succ]
              refine wpAnyH_take (i := 9) (oi := { dst := some 66, op := Op.fieldAddr 66 (Operand.tmp 65) 0, type := 0, pos := "queue.go:53", after := #[{ on := 8, ground := Ground.data }, { on := 0, ground := Ground.phase }, { on := 1, ground := Ground.phase }, { on := 2, ground := Ground.phase }, { on := 3, ground := Ground.phase }, { on := 4, ground := Ground.phase }, { on := 5, ground := Ground.phase }, { on := 6, ground := Ground.phase }, { on := 7, ground := Ground.phase }], guard := none }) (v := ?_) rfl (by kernel_rfl) (by kernel_rfl) (by kernel_rfl) (fun _ _ _ h => h) (Or.inl ⟨by rfl, ?_⟩) (by assumption) ?_
              rotate_left
              · intro wS hSw; (try dsimp only at hSw); go_simp; (try with_reducible rfl)
              try simp only [Act.put, List.setIfInBounds_toArray, List.set_cons_zero, List.set_cons_succ]
              refine wpAnyH_ready (rs := [10]) (by kernel_rfl) (by simp) ?_
              refine AllReadyH.cons (o := { dst := none, op := Op.store 54 (Operand.tmp 66) (Operand.tmp 64), type := 0, pos := "queue.go:53", after := #[{ on := 9, ground := Ground.data }, { on := 7, ground := Ground.data }, { on := 7, ground := Ground.chain }, { on := 0, ground := Ground.phase }, { on := 1, ground := Ground.phase }, { on := 2, ground := Ground.phase }, { on := 3, ground := Ground.phase }, { on := 4, ground := Ground.phase }, { on := 5, ground := Ground.phase }, { on := 6, ground := Ground.phase }, { on := 7, ground := Ground.phase }], guard := none }) rfl (fun K hK => ?_) AllReadyH.nil
              go_simp
              try dsimp only
              refine hK.out _ _ ?_ (fun hHeld => ?_)
              · exact trivial
              clear hK K
              try simp only [Act.put, List.setIfInBounds_toArray, List.set_cons_zero, List.set_cons_succ]
              refine wpAnyH_done (by kernel_rfl) ?_ _
              go_wp2_with fail
              go_ret2
              exact ⟨rfl, by rw [hnew]; exact Hfin.out⟩
            · go_simp
              try dsimp only
              refine hK.out _ _ ?_ (fun hHeld => ?_)
              · exact trivial
              clear hK K
              try simp only [Act.put, List.setIfInBounds_toArray, List.set_cons_zero, List.set_cons_succ]
              refine wpAnyH_ready (rs := [4]) (by kernel_rfl) (by simp) ?_
              refine AllReadyH.cons (o := { dst := some 61, op := Op.load 54 (Operand.tmp 60), type := 54, pos := "queue.go:53", after := #[{ on := 3, ground := Ground.data }], guard := none }) rfl (fun K hK => ?_) AllReadyH.nil
              go_simp
              try dsimp only
              refine hK.out _ _ ?_ (fun hHeld => ?_)
              · exact trivial
              clear hK K
              try simp only [Act.put, List.setIfInBounds_toArray, List.set_cons_zero, List.set_cons_succ]
              refine wpAnyH_ready (rs := [7]) (by kernel_rfl) (by simp) ?_
              refine AllReadyH.cons (o := { dst := some 64, op := Op.call { callee := Callee.builtin Builtin.append, args := #[Operand.tmp 61, Operand.tmp 63], argTypes := #[54, 54] }, type := 54, pos := "queue.go:53", after := #[{ on := 4, ground := Ground.data }, { on := 6, ground := Ground.data }], guard := none }) rfl (fun K hK => ?_) AllReadyH.nil
              refine step_it (.tmp 61) (.tmp 63) rfl rfl B (.slice A rows.length c) rows.length (rows.flatMap Row.cells) rfl hrow2 wr.heap.size ⟨⟨(rows.length : Int) + 1, m.frm, m.to.map newR, m.lines, m.flags, m.bytes⟩, .slice A1 L c1, .slice A2 m.lines.length c2⟩ rfl hsrc rfl rfl (by omega) hbase (wr.heap.size + 1) (by simp) ?_
              intro g' cap w1 hown1 hgrow hat hlt1
              try dsimp only
              refine hK.out _ _ ?_ (fun hHeld => ?_)
              · exact trivial
              clear hK K
              try simp only [Act.put, List.setIfInBounds_toArray, List.set_cons_zero, List.set_cons_succ]
              have kg1 := kg2.grown hgrow (fun e => own_ne hrow2 kg2 (by decide) e.symm)
              have e0 := kg1.cell 0
              have f0 := kg1.frozen 0
              simp at e0
              have kx1 := kx2.grown hgrow (fun e => hx8v e.symm)
              have efin : (w1.setCell ⟨g, 0, none⟩ (.slice (some ⟨g', 0, none⟩) (rows.length + 1) cap)).cell? ⟨x8, 0, none⟩ = some (.int .i64 ((rows.length : Int) + 1)) := (kx1.far (p := ⟨g, 0, none⟩) hx8g _).cell 0
              have hfin := add_fin H.out hBr (it := ⟨(rows.length : Int) + 1, m.frm, m.to.map newR, m.lines, m.flags, m.bytes⟩) hB.size htv hlv2 hown1 (((Only.refl wr _).drew.alloc _).grown hgrow (fun k hk _ => hk)) (hat.imp id (fun h => by omega))
              have Hfin := Lib.hid hfin
              clear hfin hown1 hgrow hat kx1
              refine wpAnyH_take (i := 8) (oi := { dst := some 65, op := Op.nilCheck (Operand.tmp 57), type := 0, pos := "queue.go:53", after := #[{ on := 0, ground := Ground.data }, { on := 0, ground := Ground.phase }, { on := 1, ground := Ground.phase }, { on := 2, ground := Ground.phase }, { on := 3, ground := Ground.phase }, { on := 4, ground := Ground.phase }, { on := 5, ground := Ground.phase }, { on := 6, ground := Ground.phase }, { on := 7, ground := Ground.phase }], guard := none }) (v := ?_) rfl (by kernel_rfl) (by kernel_rfl) (by kernel_rfl) (fun _ _ _ h => h) (Or.inl ⟨by rfl, ?_⟩) (by assumption) ?_
              rotate_left
              · intro wS hSw; (try dsimp only at hSw); go_simp; (try with_reducible rfl)
              try simp only [Act.put, List.setIfInBounds_toArray, List.set_cons_zero, List.set_cons_succ]
              refine wpAnyH_take (i := 9) (oi := { dst := some 66, op := Op.fieldAddr 66 (Operand.tmp 65) 0, type := 0, pos := "queue.go:53", after := #[{ on := 8, ground := Ground.data }, { on := 0, ground := Ground.phase }, { on := 1, ground := Ground.phase }, { on := 2, ground := Ground.phase }, { on := 3, ground := Ground.phase }, { on := 4, ground := Ground.phase }, { on := 5, ground := Ground.phase }, { on := 6, ground := Ground.phase }, { on := 7, ground := Ground.phase }], guard := none }) (v := ?_) rfl (by kernel_rfl) (by kernel_rfl) (by kernel_rfl) (fun _ _ _ h => h) (Or.inl ⟨by rfl, ?_⟩) (by assumption) ?_
              rotate_left
              · intro wS hSw; (try dsimp only at hSw); go_simp; (try with_reducible rfl)
              try simp only [Act.put, List.setIfInBounds_toArray, List.set_cons_zero, List.set_cons_succ]
              refine wpAnyH_ready (rs := [10]) (by kernel_rfl) (by simp) ?_
              refine AllReadyH.cons (o := { dst := none, op := Op.store 54 (Operand.tmp 66) (Operand.tmp 64), type := 0, pos := "queue.go:53", after := #[{ on := 9, ground := Ground.data }, { on := 7, ground := Ground.data }, { on := 7, ground := Ground.chain }, { on := 0, ground := Ground.phase }, { on := 1, ground := Ground.phase }, { on := 2, ground := Ground.phase }, { on := 3, ground := Ground.phase }, { on := 4, ground := Ground.phase }, { on := 5, ground := Ground.phase }, { on := 6, ground := Ground.phase }, { on := 7, ground := Ground.phase }], guard := none }) rfl (fun K hK => ?_) AllReadyH.nil
              go_simp
              try dsimp only
              refine hK.out _ _ ?_ (fun hHeld => ?_)
              · exact trivial
              clear hK K
              try simp only [Act.put, List.setIfInBounds_toArray, List.set_cons_zero, List.set_cons_succ]
              refine wpAnyH_done (by kernel_rfl) ?_ _
              go_wp2_with fail
              go_ret2
              exact ⟨rfl, by rw [hnew]; exact Hfin.out⟩

theorem add_any (w : World) (B g : Nat) (v : Value) (rows : List Row) (room tries wait : Int) (h : Qm w B g 66 v rows room tries wait) (hs : Small (rows.map Row.it)) (hn : rows.length ≤ 500) (m : Ml) (At Al : Option Addr) (ct cl : Nat) (hbig : m.to.length ≤ 9223372036854775807)
    (hl : m.lines.length ≤ 100000) (ht : Rd w w.heap.size At (m.to.flatMap Pth.cells)) (hr : Rd w w.heap.size Al (m.lines.map .string)) (force : Bool) :
    Calls Try.prog 12 #[.pointer (some ⟨g, 0, none⟩), .agg (m.cells (.slice At m.to.length ct) (.slice Al m.lines.length cl)).toArray, .bool force] w fun e w' =>
      e = .returned (.tuple #[.int .i64 (addS room (rows.map Row.it) m force).1, .int .i64 (addS room (rows.map Row.it) m force).2.1]) ∧ Left2 w B g 66 v rows room tries wait (addS room (rows.map Row.it) m force).2.2 w' := by
  unfold addS
  by_cases h0 : m.to.length = 0 ∨ 100 < m.to.length
  · rw [if_pos h0]
    exact add_arg w B g v rows room tries wait h m At Al ct cl force h0 hbig
  · rw [if_neg h0]
    cases hf : (decide (room ≤ (openN (rows.map Row.it) : Int)) && !force) with
    | true =>
      rw [if_pos rfl]
      obtain ⟨h1, h2⟩ := Bool.and_eq_true_iff.1 hf
      obtain rfl : force = false := by simpa using h2
      exact add_full w B g v rows room tries wait h hs m At Al ct cl (by omega) (by omega) h1
    | false =>
      rw [if_neg (by decide)]
      have := add_ok w B g v rows room tries wait h hs hn m At Al ct cl (by omega) (by omega) hl ht hr force hf
      simpa using this
end Go.Proofs.Ytlbghgmeiajioaa
