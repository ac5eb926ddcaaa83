/- The small case comes out right. -/
import Derived.Test.YtcbkllecdelfeaaD
import Derived.Test.YtcbkllecdelfeaaG
namespace Go.Proofs.Ytcbkllecdelfeaa
open Go.RowKit
set_option linter.unusedVariables false

set_option maxHeartbeats 400000 in
theorem over_any (w : World) (B g : Nat) (r : Option Nat) (xs : List ByteArray) (many bytes had : Int) (over : Bool) (hk : Tk w B g r xs many bytes had over) :
    Calls Try.prog 19 #[.pointer (some ⟨g, 0, none⟩)] w fun e w' => e = .returned (.bool over) ∧ w = w' := by
  obtain ⟨A, c, rfl, hBg, hk, hown⟩ := hk
  have c4 := hk.cell 4
  simp at c4
  clear hk hown
  go_enter Try.func19, Try.ntmps19
  go_wp2
  go_ret
  exact ⟨rfl, rfl⟩
set_option maxHeartbeats 400000 in
theorem bytes_any (w : World) (B g : Nat) (r : Option Nat) (xs : List ByteArray) (many bytes had : Int) (over : Bool) (hk : Tk w B g r xs many bytes had over) :
    Calls Try.prog 20 #[.pointer (some ⟨g, 0, none⟩)] w fun e w' => e = .returned (.int .i64 had) ∧ w = w' := by
  obtain ⟨A, c, rfl, hBg, hk, hown⟩ := hk
  have c3 := hk.cell 3
  simp at c3
  clear hk hown
  go_enter Try.func20, Try.ntmps20
  go_wp2
  go_ret
  exact ⟨rfl, rfl⟩
set_option maxHeartbeats 400000 in
theorem lines_over (w : World) (B g : Nat) (r : Option Nat) (xs : List ByteArray) (many bytes had : Int) (hk : Tk w B g r xs many bytes had true) :
    Calls Try.prog 21 #[.pointer (some ⟨g, 0, none⟩)] w fun e w' => e = .returned (.slice none 0 0) ∧ w = w' := by
  obtain ⟨A, c, rfl, hBg, hk, hown⟩ := hk
  have c4 := hk.cell 4
  simp at c4
  clear hk hown
  go_enter Try.func21, Try.ntmps21
  go_wp2
  go_ret
  exact ⟨rfl, rfl⟩
set_option maxHeartbeats 400000 in
theorem lines_any (w : World) (B g : Nat) (r : Option Nat) (xs : List ByteArray) (many bytes had : Int) (hk : Tk w B g r xs many bytes had false) (hn : xs.length ≤ 1000) :
    Calls Try.prog 21 #[.pointer (some ⟨g, 0, none⟩)] w fun e w' => ∃ A c, e = .returned (.slice A xs.length c) ∧ w'.ownsRow w.heap.size 9 1 (.slice A xs.length c) xs.length (xs.map .string) ∧ Below w.heap.size w w' := by
  obtain ⟨A, c, rfl, hBg, hk, hown⟩ := hk
  have c4 := hk.cell 4
  have c0 := hk.cell 0
  simp at c4 c0
  go_enter Try.func21, Try.ntmps21
  go_wp2_with fail
  refine (clone_own _ xs B w hown hn).mono ?_
  rintro e w' ⟨v, rfl, hv, hb⟩
  go_wp2
  go_ret
  obtain ⟨A', c', rfl⟩ := own_form hv
  exact ⟨A', c', rfl, hv, hb⟩

theorem mk_list (l : List UInt8) : (⟨l.toArray⟩ : ByteArray).toList = l := ByteArray.toList_mk l
theorem in_mk (l : List UInt8) : inS ⟨l.toArray⟩ = ⟨(if l == [46] then [] else if l.head? == some 46 then l.drop 1 else l).toArray⟩ := by
  unfold inS endB dotB
  rw [mk_list]
  split
  · rfl
  · split
    · apply bytes_ext
      rw [Lib.extract_toList, mk_list, size_len, mk_list]
      rw [List.take_of_length_le (by simp)]
    · rfl
theorem end_mk (l : List UInt8) : endB ⟨l.toArray⟩ = (l == [46]) := by unfold endB; rw [mk_list]
theorem out_mk (l : List UInt8) : outS ⟨l.toArray⟩ = ⟨(if l.head? == some 46 then 46 :: l else l).toArray⟩ := by
  unfold outS dotB
  rw [mk_list]
  split
  · apply bytes_ext
    rw [toList_app, mk_list l, mk_list (46 :: l), show (⟨#[46]⟩ : ByteArray).toList = [46] from mk_list [46]]; rfl
  · rfl
theorem size_mk (l : List UInt8) : (⟨l.toArray⟩ : ByteArray).size = l.length := by rw [size_len, mk_list]

theorem small_out : outL [⟨#[97]⟩, ⟨#[46, 98]⟩, ⟨#[]⟩] = [⟨#[97]⟩, ⟨#[46, 46, 98]⟩, ⟨#[]⟩, ⟨#[46]⟩] := by
  have h1 := out_mk [97]
  have h2 := out_mk [46, 98]
  have h3 := out_mk []
  simp [outL]
  exact ⟨h1, h2, h3⟩
theorem i1 : inS ⟨#[46, 46, 98]⟩ = ⟨#[46, 98]⟩ := in_mk [46, 46, 98]
theorem i2 : inS ⟨#[46]⟩ = ⟨#[]⟩ := in_mk [46]
theorem i3 : inS ⟨#[46, 98]⟩ = ⟨#[98]⟩ := in_mk [46, 98]
theorem i4 : inS ⟨#[46, 46, 97]⟩ = ⟨#[46, 97]⟩ := in_mk [46, 46, 97]
theorem i5 : inS ⟨#[98, 99]⟩ = ⟨#[98, 99]⟩ := in_mk [98, 99]
theorem i6 : inS ⟨#[]⟩ = ⟨#[]⟩ := in_mk []
theorem e1 : endB ⟨#[46, 46, 98]⟩ = false := end_mk [46, 46, 98]
theorem e2 : endB ⟨#[46]⟩ = true := end_mk [46]
theorem e3 : endB ⟨#[46, 98]⟩ = false := end_mk [46, 98]
theorem e4 : endB ⟨#[46, 46, 97]⟩ = false := end_mk [46, 46, 97]
theorem e5 : endB ⟨#[98, 99]⟩ = false := end_mk [98, 99]
theorem e6 : endB ⟨#[]⟩ = false := end_mk []
theorem t1 : takeT 2 9 ([], 0, false) ⟨#[46, 46, 97]⟩ = ([⟨#[46, 97]⟩], 4, false) := by
  unfold takeT; rw [e4, i4, show (⟨#[46, 97]⟩ : ByteArray).size = 2 from rfl]; rfl
theorem t2 : takeT 2 9 ([⟨#[46, 97]⟩], 4, false) ⟨#[98, 99]⟩ = ([⟨#[46, 97]⟩, ⟨#[98, 99]⟩], 8, false) := by
  unfold takeT; rw [e5, i5, show (⟨#[98, 99]⟩ : ByteArray).size = 2 from rfl]; rfl
theorem t3 : takeT 2 9 ([⟨#[46, 97]⟩, ⟨#[98, 99]⟩], 8, false) ⟨#[]⟩ = ([⟨#[46, 97]⟩, ⟨#[98, 99]⟩], 10, true) := by
  unfold takeT; rw [e6, i6, show (⟨#[]⟩ : ByteArray).size = 0 from rfl]; rfl
theorem t4 : takeT 2 9 ([⟨#[46, 97]⟩, ⟨#[98, 99]⟩], 10, true) ⟨#[46]⟩ = ([⟨#[46, 97]⟩, ⟨#[98, 99]⟩], 10, true) := by
  unfold takeT; rw [e2]; rfl

theorem rd_lit {w : World} {B : Nat} {b : Nat} {xs : List Value} {cs : Array Value} {t : TypeId} (hk : Bk w b t cs) (hb : b < B) (h : cs.toList = xs) : Rd w B (some ⟨b, 0, none⟩) xs := by
  refine .inr ⟨b, 0, rfl, hb, fun j u hu => ?_⟩
  rw [hk.cell, ← hu, ← h]; simp
theorem tk_new (w : World) (many bytes : Int) : Tk (w.alloc (.cells #[.slice none 0 0, .int .i64 many, .int .i64 bytes, .int .i64 0, .bool false] 48)) w.heap.size w.heap.size none [] many bytes 0 false :=
  ⟨none, 0, rfl, Nat.le_refl _, Bk.new _ _ _, World.ownsRow_nil _ _ _ _⟩
theorem tr_new (w : World) (many bytes : Int) : Tr (w.alloc (.cells #[.slice none 0 0, .int .i64 0, .int .i64 many, .int .i64 bytes, .bool false] 36)) w.heap.size w.heap.size none [] many bytes 0 false :=
  ⟨none, 0, rfl, Nat.le_refl _, Bk.new _ _ _, World.ownsRow_nil _ _ _ _⟩

theorem tk_drewN {w : World} {B g : Nat} {r : Option Nat} {xs : List ByteArray} {many bytes had : Int} {over : Bool} (h : Tk w B g r xs many bytes had over) (n : Nat) : Tk (w.drewN n) B g r xs many bytes had over := h
theorem quiet_l {P : Program} {f : FuncId} {args : Array Value} {w : World} {n : Nat} {v : Value}
    (h : Calls P f args (w.drewN n) fun e w' => e = .returned v ∧ w.drewN n = w') : Calls P f args (w.drewN n) fun e w'' => e = .returned v ∧ ∃ m, w'' = w.drewN m :=
  h.mono fun _ _ ⟨he, hm⟩ => ⟨he, n, hm.symm⟩
theorem Only.belowOf {a b c : World} {S : Nat → Prop} {B : Nat} (h : Below B a b) (ho : Only b c S) (hB : B ≤ a.heap.size) (hs : ∀ k, S k → B ≤ k) : Below B a c :=
  h.trans (ho.below (Nat.le_trans hB h.size) hs)
theorem tx_lt {w : World} {B g : Nat} {t : TypeId} {f1 f2 f3 f4 : Value} {r : Option Nat} {xs : List ByteArray} (h : Tx w B g t f1 f2 f3 f4 r xs) : B ≤ g ∧ g < w.heap.size ∧ ∀ k, r = some k → B ≤ k ∧ k < w.heap.size := by
  obtain ⟨A, c, rfl, hB, hk, hown⟩ := h
  exact ⟨hB, hk.lt, fun k hk => hown.lt k hk⟩
theorem tx_foot {w : World} {B g : Nat} {t : TypeId} {f1 f2 f3 f4 : Value} {r : Option Nat} {xs : List ByteArray} (h : Tx w B g t f1 f2 f3 f4 r xs) : ∀ k, Foot g r k → B ≤ k := by
  rintro k (rfl | hk)
  · exact (tx_lt h).1
  · exact ((tx_lt h).2.2 k hk).1

theorem tx_only {w w' : World} {B g : Nat} {t : TypeId} {f1 f2 f3 f4 : Value} {r : Option Nat} {xs : List ByteArray} {S : Nat → Prop} (h : Tx w B g t f1 f2 f3 f4 r xs) (ho : Only w w' S) (hg : ¬ S g) (hr : ∀ k, r = some k → ¬ S k) : Tx w' B g t f1 f2 f3 f4 r xs := by
  obtain ⟨A, c, rfl, hB, hk, hown⟩ := h
  exact ⟨A, c, rfl, hB, (ho.block g hk.lt hg).trans hk, own_only hown ho hr⟩
theorem tx_below {w w' : World} {B g : Nat} {t : TypeId} {f1 f2 f3 f4 : Value} {r : Option Nat} {xs : List ByteArray} (h : Tx w B g t f1 f2 f3 f4 r xs) (ho : Below w.heap.size w w') : Tx w' B g t f1 f2 f3 f4 r xs :=
  tx_only (S := fun _ => False) h (Only.of_below ho) (fun h => h) (fun _ _ h => h)
theorem tx_far {w w' : World} {B g : Nat} {t : TypeId} {f1 f2 f3 f4 : Value} {r : Option Nat} {xs : List ByteArray} {e : TypeId} {n : Nat} {v : Value} {ys : List Value} (h : Tx w B g t f1 f2 f3 f4 r xs) (hm : w'.ownsRow w.heap.size e 1 v n ys) : ∀ k, v.ownBlock = some k → ¬ Foot g r k := by
  intro k hk hf
  have h1 := (hm.lt k hk).1
  have h2 := tx_lt h
  rcases hf with rfl | hf
  · omega
  · have := h2.2.2 k hf; omega

set_option maxHeartbeats 1000000 in
theorem small_any (w : World) : Calls Try.prog 8 #[] w fun e w' => e = .returned (.bool true) ∧ Below w.heap.size w w' := by
  have hA : Below w.heap.size w (w.alloc (.cells #[.string ⟨#[97]⟩, .string ⟨#[46, 98]⟩, .string ⟨#[]⟩] 9)) := (Below.refl _ w).alloc (Nat.le_refl _) _
  have hr := rd_lit (Bk.new w 9 #[.string ⟨#[97]⟩, .string ⟨#[46, 98]⟩, .string ⟨#[]⟩]) (B := (w.alloc (.cells #[.string ⟨#[97]⟩, .string ⟨#[46, 98]⟩, .string ⟨#[]⟩] 9)).heap.size) (xs := [⟨#[97]⟩, ⟨#[46, 98]⟩, ⟨#[]⟩].map Value.string) (by simp) rfl
  have ho := out_any (some ⟨w.heap.size, 0, none⟩) 3 [⟨#[97]⟩, ⟨#[46, 98]⟩, ⟨#[]⟩] (w.alloc (.cells #[.string ⟨#[97]⟩, .string ⟨#[46, 98]⟩, .string ⟨#[]⟩] 9)) hr (by simp) (by intro s hs; simp at hs; rcases hs with rfl | rfl | rfl <;> decide)
  rw [small_out] at ho
  have Ho := Lib.hid ho; have HA := Lib.hid hA
  clear ho hr hA
  go_enter Try.func8, Try.ntmps8
  go_wp2_with fail
  refine Ho.out.mono ?_
  clear Ho
  rintro e w1 ⟨v, rfl, hown, hb1⟩
  obtain ⟨AL, cL, rfl⟩ := own_form hown
  have hrl := own_rd hown
  have l1 : Hid (∃ b o, AL = some ⟨b, o, none⟩ ∧ b < w1.heap.size ∧ ∀ j u, ([⟨#[97]⟩, ⟨#[46, 46, 98]⟩, ⟨#[]⟩, ⟨#[46]⟩].map Value.string)[j]? = some u → w1.cell? ⟨b, o + j, none⟩ = some u) := by
    rcases hrl with h | h
    · simp at h
    · exact h
  have HB1 := Lib.hid (HA.out.trans (hb1.mono (by simp)))
  clear hrl hown hb1 HA
  go_wp2_with fail
  refine (in_any _ w1 (by decide)).mono ?_
  rintro e w' ⟨rfl, rfl⟩
  simp only [i1, e1]
  go_wp2_with fail
  refine (in_any _ w1 (by decide)).mono ?_
  rintro e w' ⟨rfl, rfl⟩
  simp only [i2, e2]
  go_wp2_with fail
  refine (in_any _ w1 (by decide)).mono ?_
  rintro e w' ⟨rfl, rfl⟩
  simp only [i3, e3]
  go_wp2_with fail
  refine (new_any _ _ w1).mono ?_
  rintro e w2 ⟨rfl, hw2⟩
  have k2 : Tk w2 w1.heap.size w1.heap.size none [] 2 9 0 false := by rw [← hw2]; exact tk_new w1 2 9
  have b2 : Below w1.heap.size w1 w2 := by rw [← hw2]; exact (Below.refl _ _).alloc (Nat.le_refl _) _
  clear hw2
  have z2 := b2.size
  go_wp2_with fail
  refine (take_room w2 _ _ none [] 2 9 0 ⟨#[46, 46, 97]⟩ k2 (by decide) (by decide) (by decide) (by decide) z2 e4 (by decide) (by rw [i4]; decide)).mono ?_
  rintro e w3 ⟨rfl, r3, k3, _, o3⟩
  rw [i4] at k3
  have b3 := o3.belowOf b2 (Nat.le_refl _) (tx_foot k2)
  have z3 := b3.size
  clear k2 b2 o3 z2
  go_wp2_with fail
  refine (take_room w3 _ _ r3 [⟨#[46, 97]⟩] 2 9 4 ⟨#[98, 99]⟩ k3 (by decide) (by decide) (by decide) (by decide) z3 e5 (by decide) (by rw [i5]; decide)).mono ?_
  rintro e w4 ⟨rfl, r4, k4, _, o4⟩
  rw [i5] at k4
  have b4 := o4.belowOf b3 (Nat.le_refl _) (tx_foot k3)
  clear k3 b3 o4 z3
  go_wp2_with fail
  refine (lines_any w4 _ _ r4 [⟨#[46, 97]⟩, ⟨#[98, 99]⟩] 2 9 8 k4 (by decide)).mono ?_
  rintro e w5 ⟨AM, cM, rfl, hm, hb5⟩
  have k5 : Tk w5 w1.heap.size w1.heap.size r4 [⟨#[46, 97]⟩, ⟨#[98, 99]⟩] 2 9 8 false := tx_below k4 hb5
  have b5 := b4.trans (hb5.mono b4.size)
  have z5 := b5.size
  have hfar := tx_far k4 hm
  have Hfar := Lib.hid hfar
  clear hfar k4 b4 hb5
  go_wp2_with fail
  refine (bytes_any w5 _ _ r4 _ 2 9 8 false k5).mono ?_
  rintro e w' ⟨rfl, rfl⟩
  go_wp2_with fail
  refine (take_over2 w5 _ _ r4 [⟨#[46, 97]⟩, ⟨#[98, 99]⟩] 2 9 8 ⟨#[]⟩ k5 (by decide) (by decide) (by decide) (by decide) e6 (by decide)).mono ?_
  rintro e w6 ⟨rfl, k6, o6⟩
  rw [i6] at k6
  have b6 := o6.belowOf b5 (Nat.le_refl _) (tx_foot k5)
  have hm6 := own_only hm o6 Hfar.out
  have hrm := own_rd hm6
  have m1 : Hid (∃ b o, AM = some ⟨b, o, none⟩ ∧ b < w6.heap.size ∧ ∀ j u, ([⟨#[46, 97]⟩, ⟨#[98, 99]⟩].map Value.string)[j]? = some u → w6.cell? ⟨b, o + j, none⟩ = some u) := by
    rcases hrm with h | h
    · simp at h
    · exact h
  clear k5 b5 o6 hm hm6 hrm Hfar z5
  go_wp2_with fail
  refine (take_end _ ⟨#[46]⟩ w6 (by decide) e2).mono ?_
  rintro e w' ⟨rfl, rfl⟩
  obtain ⟨bl, ol, rfl, hbl, cl⟩ := l1.out
  obtain ⟨bm, om, rfl, hbm, cm⟩ := m1.out
  have cl1 := (b6.cell (p := ⟨bl, ol + 1, none⟩) hbl).trans (cl 1 _ rfl)
  have cl2 := (b6.cell (p := ⟨bl, ol + 2, none⟩) hbl).trans (cl 2 _ rfl)
  have cl3 := (b6.cell (p := ⟨bl, ol + 3, none⟩) hbl).trans (cl 3 _ rfl)
  have cm0 := cm 0 _ rfl
  clear cl cm l1 m1
  rw [Nat.add_zero] at cm0
  have hend := HB1.out.trans (b6.mono (HB1.out.size))
  have Hend := Lib.hid hend
  clear hend b6 HB1
  go_wp2_with fail
  refine (over_any _ _ _ _ _ _ _ _ true k6).mono ?_
  rintro e w' ⟨rfl, rfl⟩
  go_wp2_with fail
  refine (lines_over _ _ _ _ _ _ _ _ k6).mono ?_
  rintro e w' ⟨rfl, rfl⟩
  go_wp2_with fail
  refine (bytes_any _ _ _ _ _ _ _ _ true k6).mono ?_
  rintro e w' ⟨rfl, rfl⟩
  go_wp2_with fail
  go_ret
  exact ⟨rfl, Hend.out⟩
end Go.Proofs.Ytcbkllecdelfeaa
