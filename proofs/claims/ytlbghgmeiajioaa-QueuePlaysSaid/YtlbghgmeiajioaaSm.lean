/- The small case. -/
import Derived.Test.YtlbghgmeiajioaaAp
namespace Go.Proofs.Ytlbghgmeiajioaa
open Go.RowKit
set_option linter.unusedVariables false

theorem Bk.keep {w w' : World} {P : Nat → Prop} {g : Nat} {t : TypeId} {cs : Array Value} (h : Bk w g t cs) (hk : Keep P w w') (hp : P g) : Bk w' g t cs := h.same (hk.block g h.lt (fun e => e hp))
theorem rd_of_bk {w : World} {B b : Nat} {t : TypeId} {cs : List Value} (h : Bk w b t cs.toArray) (hb : b < B) : Rd w B (some ⟨b, 0, none⟩) cs :=
  .inr ⟨b, 0, rfl, hb, fun j u hj => by rw [Nat.zero_add, h.cell j]; simpa using hj⟩
theorem keep_to_below {P : Nat → Prop} {B : Nat} {a b c : World} (h : Below B a b) (hk : Keep P b c) (hB : B ≤ a.heap.size) (hp : ∀ k, k < B → P k) : Below B a c :=
  Only.belowOf h hk hB (fun k hk2 => by rcases Nat.lt_or_ge k B with h1 | h1
                                        · exact absurd (hp k h1) hk2
                                        · exact h1)

def p0 : Pth := ⟨true, ⟨#[]⟩, ⟨#[]⟩⟩
def m0 : Ml := ⟨⟨false, ⟨#[97]⟩, ⟨#[98]⟩⟩, [p0, p0], [⟨#[120]⟩], ⟨false, false, false, 0, 0⟩, 0⟩
def i0 (s1 t1 n1 u1 s2 t2 n2 u2 : Int) : It := ⟨1, m0.frm, [⟨p0, s1, t1, n1, u1⟩, ⟨p0, s2, t2, n2, u2⟩], m0.lines, m0.flags, 0⟩
theorem i0_small (s1 t1 n1 u1 s2 t2 n2 u2 : Int) (h1 : 0 ≤ t1) (h2 : t1 ≤ 1000) (h3 : 0 ≤ t2) (h4 : t2 ≤ 1000) : Small [i0 s1 t1 n1 u1 s2 t2 n2 u2] := by
  refine ⟨by simp, fun it hit => ?_⟩
  simp at hit
  subst hit
  refine ⟨by simp [i0], fun r hr => ?_⟩
  simp [i0] at hr
  rcases hr with rfl | rfl <;> exact ⟨by assumption, by assumption⟩
def m1 : Ml := ⟨⟨false, ⟨#[]⟩, ⟨#[]⟩⟩, [], [], ⟨false, false, false, 0, 0⟩, 0⟩
theorem nil_small : Small [] := ⟨by simp, by simp⟩

set_option maxRecDepth 100000 in
set_option maxHeartbeats 4000000 in
theorem small_any (w : World) : Calls Try.prog 8 #[] w fun e w' => e = .returned (.bool true) ∧ Below w.heap.size w w' := by
  go_enter Try.func8, Try.ntmps8
  go_wp2_with fail
  refine (qs_new 1 2 10 w).mono ?_
  rintro e w1 ⟨rfl, h1, b1⟩
  have z1 := b1.size
  go_wp2_with fail
  obtain ⟨w2, hw2⟩ : ∃ w2, ((w1.alloc (.cells #[.bool true, .string ⟨#[]⟩, .string ⟨#[]⟩, .bool true, .string ⟨#[]⟩, .string ⟨#[]⟩] 32)).alloc (.cells #[.string ⟨#[120]⟩] 9)).alloc (.cells #[.bool false, .string ⟨#[97]⟩, .string ⟨#[98]⟩, .slice (some ⟨w1.heap.size, 0, none⟩) 2 2, .slice (some ⟨w1.heap.size + 1, 0, none⟩) 1 1, .bool false, .bool false, .bool false, .int .i64 0, .int .i64 0, .int .i64 0] 38) = w2 := ⟨_, rfl⟩
  have k32 : Bk w2 w1.heap.size 32 #[.bool true, .string ⟨#[]⟩, .string ⟨#[]⟩, .bool true, .string ⟨#[]⟩, .string ⟨#[]⟩] := by rw [← hw2]; exact ((Bk.new w1 32 _).alloc _).alloc _
  have k9 : Bk w2 (w1.heap.size + 1) 9 #[.string ⟨#[120]⟩] := by
    have := Bk.new (w1.alloc (.cells #[.bool true, .string ⟨#[]⟩, .string ⟨#[]⟩, .bool true, .string ⟨#[]⟩, .string ⟨#[]⟩] 32)) 9 #[.string ⟨#[120]⟩]
    rw [World.size_alloc] at this
    rw [← hw2]; exact this.alloc _
  have k38 : Bk w2 (w1.heap.size + 2) 38 #[.bool false, .string ⟨#[97]⟩, .string ⟨#[98]⟩, .slice (some ⟨w1.heap.size, 0, none⟩) 2 2, .slice (some ⟨w1.heap.size + 1, 0, none⟩) 1 1, .bool false, .bool false, .bool false, .int .i64 0, .int .i64 0, .int .i64 0] := by
    have := Bk.new ((w1.alloc (.cells #[.bool true, .string ⟨#[]⟩, .string ⟨#[]⟩, .bool true, .string ⟨#[]⟩, .string ⟨#[]⟩] 32)).alloc (.cells #[.string ⟨#[120]⟩] 9)) 38 #[.bool false, .string ⟨#[97]⟩, .string ⟨#[98]⟩, .slice (some ⟨w1.heap.size, 0, none⟩) 2 2, .slice (some ⟨w1.heap.size + 1, 0, none⟩) 1 1, .bool false, .bool false, .bool false, .int .i64 0, .int .i64 0, .int .i64 0]
    rw [World.size_alloc, World.size_alloc] at this
    rw [← hw2]; exact this
  have b2 : Below w1.heap.size w1 w2 := by rw [← hw2]; exact (((Below.refl _ w1).alloc (Nat.le_refl _) _).alloc (by simp) _).alloc (by simp; omega) _
  have z2 : w2.heap.size = w1.heap.size + 3 := by rw [← hw2]; simp
  rw [hw2]
  clear hw2
  have hq2 : QS w2 (fun k => k < w.heap.size ∨ (w1.heap.size ≤ k ∧ k < w2.heap.size)) w.heap.size [] 1 2 10 := h1.more b2
  have B2 : Below w.heap.size w w2 := b1.trans (b2.mono z1)
  obtain ⟨P, hP⟩ : ∃ P : Nat → Prop, P = fun k => k < w.heap.size ∨ (w1.heap.size ≤ k ∧ k < w2.heap.size) := ⟨_, rfl⟩
  rw [← hP] at hq2
  have pw : ∀ k, k < w.heap.size → P k := fun k hk => by rw [hP]; exact .inl hk
  have p32 : P w1.heap.size := by rw [hP]; exact .inr ⟨Nat.le_refl _, by omega⟩
  have p9 : P (w1.heap.size + 1) := by rw [hP]; exact .inr ⟨by omega, by omega⟩
  have p38 : P (w1.heap.size + 2) := by rw [hP]; exact .inr ⟨by omega, by omega⟩
  clear hP h1 b2
  have Pw := Lib.hid pw; clear pw
  have mc0 := k38.cell 0
  have mc1 := k38.cell 1
  have mc2 := k38.cell 2
  have mc3 := k38.cell 3
  have mc4 := k38.cell 4
  have mc5 := k38.cell 5
  have mc6 := k38.cell 6
  have mc7 := k38.cell 7
  have mc8 := k38.cell 8
  have mc9 := k38.cell 9
  have mc10 := k38.cell 10
  simp at mc0 mc1 mc2 mc3 mc4 mc5 mc6 mc7 mc8 mc9 mc10
  have m38 := k38.lt
  have a3 : addS 1 [] m0 false = (1, 0, [i0 0 0 0 0 0 0 0 0]) := by rfl
  refine (qs_add hq2 nil_small (by decide) m0 (some ⟨w1.heap.size, 0, none⟩) (some ⟨w1.heap.size + 1, 0, none⟩) 2 1 (by decide) (by decide) (rd_of_bk (cs := m0.to.flatMap Pth.cells) k32 k32.lt) (rd_of_bk (cs := m0.lines.map .string) k9 k9.lt) false).mono ?_
  rintro e w3 ⟨he, hq3, k3⟩
  rw [a3] at he hq3
  dsimp only at he hq3
  subst he
  have B3 := keep_to_below B2 k3 (Nat.le_refl _) Pw.out
  replace k32 := Bk.keep k32 k3 p32
  replace k9 := Bk.keep k9 k3 p9
  replace k38 := Bk.keep k38 k3 p38
  clear mc0 mc1 mc2 mc3 mc4 mc5 mc6 mc7 mc8 mc9 mc10 m38
  have mc0 := k38.cell 0
  have mc1 := k38.cell 1
  have mc2 := k38.cell 2
  have mc3 := k38.cell 3
  have mc4 := k38.cell 4
  have mc5 := k38.cell 5
  have mc6 := k38.cell 6
  have mc7 := k38.cell 7
  have mc8 := k38.cell 8
  have mc9 := k38.cell 9
  have mc10 := k38.cell 10
  simp at mc0 mc1 mc2 mc3 mc4 mc5 mc6 mc7 mc8 mc9 mc10
  have m38 := k38.lt
  clear hq2 B2 k3 a3
  go_wp2_with fail
  have a4 : addS 1 [i0 0 0 0 0 0 0 0 0] m0 false = (0, 2, [i0 0 0 0 0 0 0 0 0]) := by rfl
  refine (qs_add hq3 (i0_small _ _ _ _ _ _ _ _ (by decide) (by decide) (by decide) (by decide)) (by decide) m0 (some ⟨w1.heap.size, 0, none⟩) (some ⟨w1.heap.size + 1, 0, none⟩) 2 1 (by decide) (by decide) (rd_of_bk (cs := m0.to.flatMap Pth.cells) k32 k32.lt) (rd_of_bk (cs := m0.lines.map .string) k9 k9.lt) false).mono ?_
  rintro e w4 ⟨he, hq4, k4⟩
  rw [a4] at he hq4
  dsimp only at he hq4
  subst he
  have B4 := keep_to_below B3 k4 (Nat.le_refl _) Pw.out
  replace k32 := Bk.keep k32 k4 p32
  replace k9 := Bk.keep k9 k4 p9
  replace k38 := Bk.keep k38 k4 p38
  clear mc0 mc1 mc2 mc3 mc4 mc5 mc6 mc7 mc8 mc9 mc10 m38
  have mc0 := k38.cell 0
  have mc1 := k38.cell 1
  have mc2 := k38.cell 2
  have mc3 := k38.cell 3
  have mc4 := k38.cell 4
  have mc5 := k38.cell 5
  have mc6 := k38.cell 6
  have mc7 := k38.cell 7
  have mc8 := k38.cell 8
  have mc9 := k38.cell 9
  have mc10 := k38.cell 10
  simp at mc0 mc1 mc2 mc3 mc4 mc5 mc6 mc7 mc8 mc9 mc10
  have m38 := k38.lt
  clear hq3 B3 k4 a4
  go_wp2_with fail
  have a5 : addS 1 [i0 0 0 0 0 0 0 0 0] m1 true = (0, 1, [i0 0 0 0 0 0 0 0 0]) := by rfl
  refine (qs_add hq4 (i0_small _ _ _ _ _ _ _ _ (by decide) (by decide) (by decide) (by decide)) (by decide) m1 none none 0 0 (by decide) (by decide) (Rd.nil _ _ _) (Rd.nil _ _ _) true).mono ?_
  rintro e w5 ⟨he, hq5, k5⟩
  rw [a5] at he hq5
  dsimp only at he hq5
  subst he
  have B5 := keep_to_below B4 k5 (Nat.le_refl _) Pw.out
  clear hq4 B4 k5 a5
  go_wp2_with fail
  have a6 : dueS [i0 0 0 0 0 0 0 0 0] 0 = (1, 0, true) := by rfl
  refine (qs_due hq5 (i0_small _ _ _ _ _ _ _ _ (by decide) (by decide) (by decide) (by decide)) 0).mono ?_
  rintro e w6 ⟨he, hq6, k6⟩
  rw [a6] at he
  dsimp only at he
  subst he
  have B6 := B5.trans (k6.mono B5.size)
  clear hq5 B5 k6 a6
  go_wp2_with fail
  have a7 : takeS [i0 0 0 0 0 0 0 0 0] 1 0 = (true, [i0 1 1 0 0 0 0 0 0]) := by rfl
  refine (qs_take hq6 (i0_small _ _ _ _ _ _ _ _ (by decide) (by decide) (by decide) (by decide)) 1 0).mono ?_
  rintro e w7 ⟨he, hq7, k7⟩
  rw [a7] at he hq7
  dsimp only at he hq7
  subst he
  have B7 := keep_to_below B6 k7 (Nat.le_refl _) Pw.out
  clear hq6 B6 k7 a7
  go_wp2_with fail
  have a8 : takeS [i0 1 1 0 0 0 0 0 0] 1 0 = (false, [i0 1 1 0 0 0 0 0 0]) := by rfl
  refine (qs_take hq7 (i0_small _ _ _ _ _ _ _ _ (by decide) (by decide) (by decide) (by decide)) 1 0).mono ?_
  rintro e w8 ⟨he, hq8, k8⟩
  rw [a8] at he hq8
  dsimp only at he hq8
  subst he
  have B8 := keep_to_below B7 k8 (Nat.le_refl _) Pw.out
  clear hq7 B7 k8 a8
  go_wp2_with fail
  have a9 : laterS 2 10 [i0 1 1 0 0 0 0 0 0] 1 0 5 = (0, [i0 0 1 15 0 0 0 0 0]) := by rfl
  refine (qs_later hq8 (i0_small _ _ _ _ _ _ _ _ (by decide) (by decide) (by decide) (by decide)) 1 0 5 (by decide) (by decide)).mono ?_
  rintro e w9 ⟨he, hq9, k9⟩
  rw [a9] at he hq9
  dsimp only at he hq9
  subst he
  have B9 := keep_to_below B8 k9 (Nat.le_refl _) Pw.out
  clear hq8 B8 k9 a9
  go_wp2_with fail
  have a10 : dueS [i0 0 1 15 0 0 0 0 0] 14 = (1, 1, true) := by rfl
  refine (qs_due hq9 (i0_small _ _ _ _ _ _ _ _ (by decide) (by decide) (by decide) (by decide)) 14).mono ?_
  rintro e w10 ⟨he, hq10, k10⟩
  rw [a10] at he
  dsimp only at he
  subst he
  have B10 := B9.trans (k10.mono B9.size)
  clear hq9 B9 k10 a10
  go_wp2_with fail
  have a11 : takeS [i0 0 1 15 0 0 0 0 0] 1 1 = (true, [i0 0 1 15 0 1 1 0 0]) := by rfl
  refine (qs_take hq10 (i0_small _ _ _ _ _ _ _ _ (by decide) (by decide) (by decide) (by decide)) 1 1).mono ?_
  rintro e w11 ⟨he, hq11, k11⟩
  rw [a11] at he hq11
  dsimp only at he hq11
  subst he
  have B11 := keep_to_below B10 k11 (Nat.le_refl _) Pw.out
  clear hq10 B10 k11 a11
  go_wp2_with fail
  have a12 : sentS [i0 0 1 15 0 1 1 0 0] 1 1 = (true, [i0 0 1 15 0 2 1 0 0]) := by rfl
  refine (qs_sent hq11 (i0_small _ _ _ _ _ _ _ _ (by decide) (by decide) (by decide) (by decide)) 1 1).mono ?_
  rintro e w12 ⟨he, hq12, k12⟩
  rw [a12] at he hq12
  dsimp only at he hq12
  subst he
  have B12 := keep_to_below B11 k12 (Nat.le_refl _) Pw.out
  clear hq11 B11 k12 a12
  go_wp2_with fail
  have a13 : dueS [i0 0 1 15 0 2 1 0 0] 14 = (0, 0, false) := by rfl
  refine (qs_due hq12 (i0_small _ _ _ _ _ _ _ _ (by decide) (by decide) (by decide) (by decide)) 14).mono ?_
  rintro e w13 ⟨he, hq13, k13⟩
  rw [a13] at he
  dsimp only at he
  subst he
  have B13 := B12.trans (k13.mono B12.size)
  clear hq12 B12 k13 a13
  go_wp2_with fail
  have a14 : dueS [i0 0 1 15 0 2 1 0 0] 15 = (1, 0, true) := by rfl
  refine (qs_due hq13 (i0_small _ _ _ _ _ _ _ _ (by decide) (by decide) (by decide) (by decide)) 15).mono ?_
  rintro e w14 ⟨he, hq14, k14⟩
  rw [a14] at he
  dsimp only at he
  subst he
  have B14 := B13.trans (k14.mono B13.size)
  clear hq13 B13 k14 a14
  go_wp2_with fail
  have a15 : takeS [i0 0 1 15 0 2 1 0 0] 1 0 = (true, [i0 1 2 15 0 2 1 0 0]) := by rfl
  refine (qs_take hq14 (i0_small _ _ _ _ _ _ _ _ (by decide) (by decide) (by decide) (by decide)) 1 0).mono ?_
  rintro e w15 ⟨he, hq15, k15⟩
  rw [a15] at he hq15
  dsimp only at he hq15
  subst he
  have B15 := keep_to_below B14 k15 (Nat.le_refl _) Pw.out
  clear hq14 B14 k15 a15
  go_wp2_with fail
  have a16 : laterS 2 10 [i0 1 2 15 0 2 1 0 0] 1 0 20 = (3, [i0 3 2 15 447 2 1 0 0]) := by rfl
  refine (qs_later hq15 (i0_small _ _ _ _ _ _ _ _ (by decide) (by decide) (by decide) (by decide)) 1 0 20 (by decide) (by decide)).mono ?_
  rintro e w16 ⟨he, hq16, k16⟩
  rw [a16] at he hq16
  dsimp only at he hq16
  subst he
  have B16 := keep_to_below B15 k16 (Nat.le_refl _) Pw.out
  clear hq15 B15 k16 a16
  go_wp2_with fail
  have it : Calls Try.prog 25 #[.pointer (some ⟨w.heap.size, 0, none⟩), .int .i64 1] w16 _ := qs_item hq16 (i0_small _ _ _ _ _ _ _ _ (by decide) (by decide) (by decide) (by decide)) 0 (by decide) (by decide)
  refine it.mono ?_
  clear it
  rintro e w17 ⟨tv, lv, rfl, ⟨ht, hl⟩, hq17, k17⟩
  dsimp only [List.getElem_cons_zero] at ht hl
  obtain ⟨b, cap, rfl, hb, hlb⟩ := own_some ht (by decide)
  obtain ⟨A2, c2, rfl⟩ := own_any hl
  obtain ⟨_, _, _, _, _, _, s0⟩ := rc_cells (k := 0) ht (by decide)
  obtain ⟨_, _, _, s1, _⟩ := rc_cells (k := 1) ht (by decide)
  simp [i0] at s0 s1
  have B17 := B16.trans (k17.mono B16.size)
  have hq18 := fun o => hq17.below ((Below.refl w17.heap.size w17).alloc (Nat.le_refl _) o)
  have Hq := Lib.hid hq18
  have B18 := fun o => B17.alloc B17.size o
  have HB := Lib.hid B18
  clear ht hl hq16 B16 k17 hq17 hq18 B17 B18
  simp only [i0, List.getElem_cons_zero, Row.cells, m0]
  go_wp2_with fail
  refine (qs_open (Hq.out _) (i0_small _ _ _ _ _ _ _ _ (by decide) (by decide) (by decide) (by decide))).mono ?_
  rintro e w19 ⟨he, hq19, k19⟩
  rw [show openN [i0 3 2 15 447 2 1 0 0] = 0 by rfl] at he
  subst he
  have B19 := (HB.out _).trans (k19.mono (HB.out _).size)
  clear k19
  go_wp2_with fail
  refine (qs_len hq19).mono ?_
  rintro e w' ⟨rfl, rfl⟩
  simp only [List.length_cons, List.length_nil]
  go_wp2_with fail
  have a20 : sentS [i0 3 2 15 447 2 1 0 0] 1 0 = (false, [i0 3 2 15 447 2 1 0 0]) := by rfl
  refine (qs_sent hq19 (i0_small _ _ _ _ _ _ _ _ (by decide) (by decide) (by decide) (by decide)) 1 0).mono ?_
  rintro e w20 ⟨he, hq20, k20⟩
  rw [a20] at he hq20
  dsimp only at he hq20
  subst he
  have B20 := keep_to_below B19 k20 (Nat.le_refl _) Pw.out
  clear hq19 B19 k20 a20
  go_wp2_with fail
  have a21 : failS [i0 3 2 15 447 2 1 0 0] 7 0 1 = (-1, [i0 3 2 15 447 2 1 0 0]) := by rfl
  refine (qs_fail hq20 (i0_small _ _ _ _ _ _ _ _ (by decide) (by decide) (by decide) (by decide)) 7 0 1).mono ?_
  rintro e w21 ⟨he, hq21, k21⟩
  rw [a21] at he hq21
  dsimp only at he hq21
  subst he
  have B21 := keep_to_below B20 k21 (Nat.le_refl _) Pw.out
  clear hq20 B20 k21 a21
  go_wp2_with fail
  go_ret
  exact ⟨rfl, B21⟩
end Go.Proofs.Ytlbghgmeiajioaa
