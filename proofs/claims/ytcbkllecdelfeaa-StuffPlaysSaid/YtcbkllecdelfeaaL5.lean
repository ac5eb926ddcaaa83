/- The law StuffPlays, walked. -/
import Derived.Test.YtcbkllecdelfeaaL2
import Derived.Deep.RegionHeld
import Derived.Deep.DrawnRows
namespace Go.Proofs.Ytcbkllecdelfeaa
open Go.RowKit
set_option linter.unusedVariables false

def playT (many bytes : Int) (ss : List ByteArray) : Nat → List ByteArray × Int × Bool
  | 0 => ([], 0, false)
  | k + 1 => if h : k < ss.length then takeT many bytes (playT many bytes ss k) ss[k] else playT many bytes ss k
theorem rtake_eq {many bytes : Int} {t : List ByteArray × Int × Bool} {s : ByteArray} (h : (t.1.length : Int) ≤ many) : rtakeT many bytes t s = takeT many bytes t s := by
  unfold rtakeT takeT
  have e1 : decide (many ≤ (t.1.length : Int)) = ((t.1.length : Int) == many) := by
    rw [Bool.eq_iff_iff]; simp; omega
  rw [e1, Int.add_assoc]
theorem playT_inv (many bytes : Int) (hm : 0 ≤ many) (ss : List ByteArray) (hz : ∀ s ∈ ss, s.size ≤ 1200) (k : Nat) :
    (playT many bytes ss k).1.length ≤ k ∧ ((playT many bytes ss k).1.length : Int) ≤ many ∧ 0 ≤ (playT many bytes ss k).2.1 ∧ (playT many bytes ss k).2.1 ≤ 1202 * (k : Int) := by
  induction k with
  | zero => simp [playT, hm]
  | succ k ih =>
    by_cases h : k < ss.length
    · simp only [playT, dif_pos h]
      have h3 := hz _ (List.getElem_mem h)
      have h4 := in_size ss[k]
      generalize playT many bytes ss k = t at *
      generalize ss[k] = s at *
      obtain ⟨xs, had, over⟩ := t
      obtain ⟨i1, i2, i3, i4⟩ := ih
      simp only at i1 i2 i3 i4
      unfold takeT
      split
      · exact ⟨by simp; omega, i2, i3, by simp; omega⟩
      · refine ⟨?_, ?_, by simp; omega, by simp; omega⟩
        · dsimp only; split
          · omega
          · simp; omega
        · dsimp only; split
          · omega
          · rename_i hn
            simp at hn
            rw [List.length_append]
            simp
            omega
    · simp only [playT, dif_neg h]
      obtain ⟨i1, i2, i3, i4⟩ := ih
      exact ⟨by omega, i2, i3, by omega⟩

def Disj (r r' : Option Nat) : Prop := ∀ k, r = some k → r' ≠ some k
theorem disj_symm {r r' : Option Nat} (h : Disj r r') : Disj r' r := fun k hk he => h k he hk
theorem tx_apart {w : World} {B B' g g' : Nat} {t t' : TypeId} {f1 f2 f3 f4 f1' f2' f3' f4' : Value} {r r' : Option Nat} {xs ys : List ByteArray} (h : Tx w B g t f1 f2 f3 f4 r xs) (h' : Tx w B' g' t' f1' f2' f3' f4' r' ys)
    (hd : Disj r r') (ht : t ≠ t') (h9 : 9 ≠ t) (h9' : 9 ≠ t') : ¬ Foot g r g' ∧ (∀ k, r' = some k → ¬ Foot g r k) := by
  obtain ⟨A, c, rfl, _, hk, hown⟩ := h
  obtain ⟨A', c', rfl, _, hk', hown'⟩ := h'
  constructor
  · rintro (rfl | hf)
    · unfold Bk at hk hk'
      rw [hk] at hk'
      injection hk' with hk'
      injection hk' with _ e
      exact ht e
    · exact own_ne hown hk' h9' hf
  · rintro k hk2 (rfl | hf)
    · exact own_ne hown' hk h9 hk2
    · exact hd k hf hk2
theorem disj_step {w : World} {B g : Nat} {t : TypeId} {f1 f2 f3 f4 : Value} {r r1 r2 : Option Nat} {xs : List ByteArray} (h : Tx w B g t f1 f2 f3 f4 r xs) (hd : Disj r1 r) (hn : RowNew w r1 r2) : Disj r2 r := by
  intro k hk he
  rcases hn with rfl | ⟨k', rfl, hk'⟩
  · exact hd k hk he
  · have := ((tx_lt h).2.2 k he).2
    injection hk with hk
    omega
theorem tx_drew {w : World} {B g : Nat} {t : TypeId} {f1 f2 f3 f4 : Value} {r : Option Nat} {xs : List ByteArray} (h : Tx w B g t f1 f2 f3 f4 r xs) : Tx w.drew B g t f1 f2 f3 f4 r xs := h
theorem tr_cells {w : World} {B g : Nat} {r : Option Nat} {xs : List ByteArray} {many bytes had : Int} {over : Bool} (h : Tr w B g r xs many bytes had over) : w.cell? ⟨g, 1, none⟩ = some (.int .i64 had) ∧ w.cell? ⟨g, 4, none⟩ = some (.bool over) := by
  obtain ⟨A, c, rfl, _, hk, hown⟩ := h
  have c1 := hk.cell 1
  have c4 := hk.cell 4
  simp at c1 c4
  exact ⟨c1, c4⟩

/-- A region's condition may be strengthened on the way. -/
theorem wpAnyH_more {P : Program} {md : Region.Mode} {ops : Array Oper} {Q : Exit → Act → World → Prop} {S S' : World → Prop} (hS : ∀ w, S' w → S w) : ∀ {fuel : Nat} {listed : Array Bool} {a : Act} {w : World}, wpAnyH P md ops Q S' fuel listed a w → wpAnyH P md ops Q S fuel listed a w
  | 0, _, _, _, h => h
  | _ + 1, _, _, _, h => ⟨h.1, fun i hi => wpOp_mono (fun _ _ h' => ⟨hS _ h'.1, wpAnyH_more hS h'.2⟩) (h.2 i hi)⟩
theorem only_cell {w w' : World} {S : Nat → Prop} (ho : Only w w' S) {p : Addr} (hp : p.block < w.heap.size) (hs : ¬ S p.block) : w'.cell? p = w.cell? p := World.cell?_of_block (w := w) (ho.block p.block hp hs)

attribute [local go_sem ↓] Go.wp_at_zero Go.wp_at_succ

set_option maxRecDepth 100000 in
set_option maxRecDepth 100000 in
set_option maxHeartbeats 4000000 in
theorem plays_walk (la lb : Int) (A : Option Addr) (c : Nat) (ss : List ByteArray) (w : World) (hr : Rd w w.heap.size A (ss.map .string)) (hn : ss.length ≤ 9223372036854775807) :
    Calls Try.prog 4 #[.int .i64 la, .int .i64 lb, .slice A ss.length c] w fun e w' => e = .returned (.bool true) ∧ Below w.heap.size w w' := by
  go_enter Try.func4, Try.ntmps4
  go_wp2_with fail
  refine (small_any w).mono ?_
  rintro e w1 ⟨rfl, b1⟩
  have hr1 := rd_next hr b1
  go_wp2_with fail
  refine (few_any A c ss w1 _ hr1 hn).mono ?_
  rintro e w' ⟨rfl, rfl⟩
  go_wp2_with fail
  refine (new_any la lb w1).mono ?_
  rintro e w2 ⟨rfl, hw2⟩
  have k2 : Tk w2 w1.heap.size w1.heap.size none [] (max 0 la) (max 0 lb) 0 false := by rw [← hw2]; exact tk_new w1 _ _
  have b2 : Below w1.heap.size w1 w2 := by rw [← hw2]; exact (Below.refl _ _).alloc (Nat.le_refl _) _
  clear hw2
  have B2 : Below w.heap.size w w2 := b1.trans (b2.mono b1.size)
  go_wp2_with fail
  refine (rnew_any la lb w2).mono ?_
  rintro e w3 ⟨rfl, hw3⟩
  have y3 : Tr w3 w2.heap.size w2.heap.size none [] (max 0 la) (max 0 lb) 0 false := by rw [← hw3]; exact tr_new w2 _ _
  have b3 : Below w2.heap.size w2 w3 := by rw [← hw3]; exact (Below.refl _ _).alloc (Nat.le_refl _) _
  clear hw3
  have B3 : Below w.heap.size w w3 := B2.trans (b3.mono B2.size)
  have k3 := tx_below k2 b3
  have z1 := b1.size
  have z2 := b2.size
  have z3 := b3.size
  cases hf : fewB ss with
  | false =>
    go_wp2_with fail
    go_ret
    exact ⟨rfl, B3⟩
  | true =>
    obtain ⟨hl, hz⟩ := few_sizes hf
    have Hz := Lib.hid hz
    clear hf hz b1 b2 b3 hr1 k2 B2
    go_wp2_with fail
    go_loopw [11] (fun i wr => ∃ (k : Nat) (r1 r2 : Option Nat), k ≤ ss.length ∧ i = .int .i64 k ∧ Tk wr w1.heap.size w1.heap.size r1 (playT (max 0 la) (max 0 lb) ss k).1 (max 0 la) (max 0 lb) (playT (max 0 la) (max 0 lb) ss k).2.1 (playT (max 0 la) (max 0 lb) ss k).2.2 ∧
        Tr wr w2.heap.size w2.heap.size r2 (playT (max 0 la) (max 0 lb) ss k).1 (max 0 la) (max 0 lb) (playT (max 0 la) (max 0 lb) ss k).2.1 (playT (max 0 la) (max 0 lb) ss k).2.2 ∧ Disj r1 r2 ∧ Below w.heap.size w wr) (fun i _ => ss.length - (intOf i).toNat)
    case atStart => exact ⟨0, none, none, by omega, rfl, k3, y3, by intro _ h; simp at h, B3⟩
    case round =>
      obtain ⟨k, r1, r2, hk, rfl, kt, kr, hd, Bw⟩ := hrel
      have Bz := Bw.size
      have hrw := hr.below Bw
      obtain ⟨i1, i2, i3, i4⟩ := playT_inv (max 0 la) (max 0 lb) (by omega) ss Hz.out k
      by_cases h1 : k < ss.length
      · obtain ⟨b, o, rfl, hb, hc⟩ := hrw.at_ (k := k) (by simpa using h1)
        simp only [List.getElem_map] at hc
        have hst : playT (max 0 la) (max 0 lb) ss (k + 1) = takeT (max 0 la) (max 0 lb) (playT (max 0 la) (max 0 lb) ss k) ss[k] := by simp only [playT, dif_pos h1]
        have hrt := rtake_eq (bytes := max 0 lb) (s := ss[k]) i2
        rw [← hst] at hrt
        have hs := Hz.out _ (List.getElem_mem h1)
        obtain ⟨j1, j2, j3, j4⟩ := playT_inv (max 0 la) (max 0 lb) (by omega) ss Hz.out (k + 1)
        generalize hS : ss[k] = S at *
        clear hS
        have Hst := Lib.hid hst
        have Hrt := Lib.hid hrt
        clear hst hrt
        generalize playT (max 0 la) (max 0 lb) ss k = t at *
        generalize hN : playT (max 0 la) (max 0 lb) ss (k + 1) = t' at *
        have HN := Lib.hid hN
        clear hN
        obtain ⟨xs, had, over⟩ := t
        obtain ⟨xs', had', over'⟩ := t'
        simp only at kt kr i1 i2 i3 i4 j1 j2 j3 j4
        have hbb : (endB S != endB S) = false := by simp
        have hbo : (over' != over') = false := by simp
        have hbn : (had' != had') = false := by simp
        go_wp2_with fail
        have zg1 := (tx_lt kt).2.1
        have zg2 := (tx_lt kr).2.1
        have hfoot1 := tx_foot kt
        obtain ⟨a1, a2⟩ := tx_apart kt kr hd (by decide) (by decide) (by decide)
        have A1 := Lib.hid hfoot1; have A2 := Lib.hid a2; have A3 := Lib.hid hd
        clear hfoot1 a2 hd
        refine wp_region_held_drew (S := fun w' : World => w'.cell? ⟨b, o + k, none⟩ = some (.string S)) (by kernel_rfl) ?_ (fun hHeld => ?_)
        · exact hc
        refine wpAnyH_take (i := 0) (oi := { dst := some 40, op := Op.move (Operand.tmp 9), type := 30, pos := "law.go:61", after := #[], guard := none }) (v := ?_) rfl (by kernel_rfl) (by kernel_rfl) (by kernel_rfl) (fun _ _ _ h => h) (Or.inl ⟨by rfl, ?_⟩) (by assumption) ?_
        rotate_left
        · intro wS hSw; (try dsimp only at hSw); go_simp; (try with_reducible rfl)
        try simp only [Act.put, List.setIfInBounds_toArray, List.set_cons_zero, List.set_cons_succ]
        refine wpAnyH_take (i := 1) (oi := { dst := some 41, op := Op.move (Operand.tmp 2), type := 22, pos := "law.go:61", after := #[], guard := none }) (v := ?_) rfl (by kernel_rfl) (by kernel_rfl) (by kernel_rfl) (fun _ _ _ h => h) (Or.inl ⟨by rfl, ?_⟩) (by assumption) ?_
        rotate_left
        · intro wS hSw; (try dsimp only at hSw); go_simp; (try with_reducible rfl)
        try simp only [Act.put, List.setIfInBounds_toArray, List.set_cons_zero, List.set_cons_succ]
        refine wpAnyH_take (i := 2) (oi := { dst := some 42, op := Op.move (Operand.tmp 11), type := 3, pos := "law.go:61", after := #[], guard := none }) (v := ?_) rfl (by kernel_rfl) (by kernel_rfl) (by kernel_rfl) (fun _ _ _ h => h) (Or.inl ⟨by rfl, ?_⟩) (by assumption) ?_
        rotate_left
        · intro wS hSw; (try dsimp only at hSw); go_simp; (try with_reducible rfl)
        try simp only [Act.put, List.setIfInBounds_toArray, List.set_cons_zero, List.set_cons_succ]
        refine wpAnyH_take (i := 3) (oi := { dst := some 43, op := Op.indexAddr 22 (Operand.tmp 41) (Operand.tmp 42), type := 0, pos := "law.go:61", after := #[{ on := 1, ground := Ground.data }, { on := 2, ground := Ground.data }], guard := none }) (v := ?_) rfl (by kernel_rfl) (by kernel_rfl) (by kernel_rfl) (fun _ _ _ h => h) (Or.inl ⟨by rfl, ?_⟩) (by assumption) ?_
        rotate_left
        · intro wS hSw; (try dsimp only at hSw); go_simp; (try with_reducible rfl)
        try simp only [Act.put, List.setIfInBounds_toArray, List.set_cons_zero, List.set_cons_succ]
        refine wpAnyH_take (i := 4) (oi := { dst := some 44, op := Op.load 9 (Operand.tmp 43), type := 9, pos := "law.go:61", after := #[{ on := 3, ground := Ground.data }], guard := none }) (v := ?_) rfl (by kernel_rfl) (by kernel_rfl) (by kernel_rfl) (fun _ _ _ h => h) (Or.inl ⟨by rfl, ?_⟩) (by assumption) ?_
        rotate_left
        · intro wS hSw; (try dsimp only at hSw); go_simp; (try with_reducible rfl)
        try simp only [Act.put, List.setIfInBounds_toArray, List.set_cons_zero, List.set_cons_succ]
        refine wpAnyH_take (i := 6) (oi := { dst := some 46, op := Op.move (Operand.tmp 10), type := 32, pos := "law.go:61", after := #[], guard := none }) (v := ?_) rfl (by kernel_rfl) (by kernel_rfl) (by kernel_rfl) (fun _ _ _ h => h) (Or.inl ⟨by rfl, ?_⟩) (by assumption) ?_
        rotate_left
        · intro wS hSw; (try dsimp only at hSw); go_simp; (try with_reducible rfl)
        try simp only [Act.put, List.setIfInBounds_toArray, List.set_cons_zero, List.set_cons_succ]
        refine wpAnyH_take (i := 7) (oi := { dst := some 47, op := Op.move (Operand.tmp 2), type := 22, pos := "law.go:61", after := #[], guard := none }) (v := ?_) rfl (by kernel_rfl) (by kernel_rfl) (by kernel_rfl) (fun _ _ _ h => h) (Or.inl ⟨by rfl, ?_⟩) (by assumption) ?_
        rotate_left
        · intro wS hSw; (try dsimp only at hSw); go_simp; (try with_reducible rfl)
        try simp only [Act.put, List.setIfInBounds_toArray, List.set_cons_zero, List.set_cons_succ]
        refine wpAnyH_take (i := 8) (oi := { dst := some 48, op := Op.move (Operand.tmp 11), type := 3, pos := "law.go:61", after := #[], guard := none }) (v := ?_) rfl (by kernel_rfl) (by kernel_rfl) (by kernel_rfl) (fun _ _ _ h => h) (Or.inl ⟨by rfl, ?_⟩) (by assumption) ?_
        rotate_left
        · intro wS hSw; (try dsimp only at hSw); go_simp; (try with_reducible rfl)
        try simp only [Act.put, List.setIfInBounds_toArray, List.set_cons_zero, List.set_cons_succ]
        refine wpAnyH_take (i := 9) (oi := { dst := some 49, op := Op.indexAddr 22 (Operand.tmp 47) (Operand.tmp 48), type := 0, pos := "law.go:61", after := #[{ on := 7, ground := Ground.data }, { on := 8, ground := Ground.data }], guard := none }) (v := ?_) rfl (by kernel_rfl) (by kernel_rfl) (by kernel_rfl) (fun _ _ _ h => h) (Or.inl ⟨by rfl, ?_⟩) (by assumption) ?_
        rotate_left
        · intro wS hSw; (try dsimp only at hSw); go_simp; (try with_reducible rfl)
        try simp only [Act.put, List.setIfInBounds_toArray, List.set_cons_zero, List.set_cons_succ]
        refine wpAnyH_take (i := 10) (oi := { dst := some 50, op := Op.load 9 (Operand.tmp 49), type := 9, pos := "law.go:61", after := #[{ on := 9, ground := Ground.data }], guard := none }) (v := ?_) rfl (by kernel_rfl) (by kernel_rfl) (by kernel_rfl) (fun _ _ _ h => h) (Or.inl ⟨by rfl, ?_⟩) (by assumption) ?_
        rotate_left
        · intro wS hSw; (try dsimp only at hSw); go_simp; (try with_reducible rfl)
        try simp only [Act.put, List.setIfInBounds_toArray, List.set_cons_zero, List.set_cons_succ]
        refine wpAnyH_ready (rs := [5]) (by kernel_rfl) (by simp) ?_
        refine AllReadyH.cons (o := { dst := some 45, op := Op.call { callee := Callee.value (Operand.func 17), args := #[Operand.tmp 40, Operand.tmp 44], argTypes := #[30, 9] }, type := 4, pos := "law.go:61", after := #[{ on := 0, ground := Ground.data }, { on := 4, ground := Ground.data }], guard := none }) rfl (fun K hK => ?_) AllReadyH.nil
        go_simp
        refine (take_any _ w1.heap.size w1.heap.size r1 xs _ _ had over S (tx_drew kt) (by omega) i3 (by omega) (by omega) (by simp; omega)).mono ?_
        rintro e w4 ⟨rfl, r1', kt4, hn1, ho1⟩
        rw [← Hst.out] at kt4
        dsimp only at kt4
        have hc4 := (only_cell ho1 (p := ⟨b, o + k, none⟩) (by simp; omega) (fun h => by have := A1.out _ h; dsimp only at this; omega)).trans hc
        have kr4 := tx_only (tx_drew kr) ho1 a1 A2.out
        have hd4 := Lib.hid (disj_step kr A3.out hn1)
        have Bw4 := Lib.hid ((Below.drew Bw).trans (ho1.below (by simpa using Bz) (fun j hj => by have := A1.out j hj; omega)))
        have z4 := ho1.size
        rw [World.size_drew] at z4
        clear ho1 hn1
        try dsimp only
        refine hK.out _ _ ?_ (fun hHeld => ?_)
        · exact hc4
        clear hK K
        try simp only [Act.put, List.setIfInBounds_toArray, List.set_cons_zero, List.set_cons_succ]
        refine wpAnyH_ready (rs := [11]) (by kernel_rfl) (by simp) ?_
        refine AllReadyH.cons (o := { dst := some 51, op := Op.call { callee := Callee.value (Operand.func 18), args := #[Operand.tmp 46, Operand.tmp 50], argTypes := #[32, 9] }, type := 4, pos := "law.go:61", after := #[{ on := 6, ground := Ground.data }, { on := 10, ground := Ground.data }, { on := 5, ground := Ground.chain }], guard := none }) rfl (fun K hK => ?_) AllReadyH.nil
        go_simp
        refine (rtake_any _ w2.heap.size w2.heap.size r2 xs _ _ had over S kr4 (by omega) i3 (by omega) (by omega) (by omega)).mono ?_
        rintro e w5 ⟨rfl, r2', kr5, hn2, ho2⟩
        rw [Hrt.out] at kr5
        dsimp only at kr5
        have hc5 := (only_cell ho2 (p := ⟨b, o + k, none⟩) (by simp; omega) (fun h => by have := tx_foot kr4 _ h; dsimp only at this; omega)).trans hc4
        have ap5 := tx_apart kr4 kt4 (disj_symm hd4.out) (by decide) (by decide) (by decide)
        have kt5 := tx_only kt4 ho2 ap5.1 ap5.2
        have hd5 := Lib.hid (disj_symm (disj_step kt4 (disj_symm hd4.out) hn2))
        have Bw5 := Lib.hid (Bw4.out.trans (ho2.below (by omega) (fun j hj => by have := tx_foot kr4 j hj; omega)))
        have z5 := ho2.size
        obtain ⟨cy1, cy4⟩ := tr_cells kr5
        clear ho2 hn2 ap5 Bw4
        try dsimp only
        refine hK.out _ _ ?_ (fun hHeld => ?_)
        · exact hc5
        clear hK K
        try simp only [Act.put, List.setIfInBounds_toArray, List.set_cons_zero, List.set_cons_succ]
        refine wpAnyH_more (S' := fun w' : World => w'.cell? ⟨b, o + k, none⟩ = some (.string S) ∧ w'.cell? ⟨w2.heap.size, 4, none⟩ = some (.bool over') ∧ w'.cell? ⟨w2.heap.size, 1, none⟩ = some (.int .i64 had')) (fun _ h => h.1) ?_
        have hHeld2 : (fun w' : World => w'.cell? ⟨b, o + k, none⟩ = some (.string S) ∧ w'.cell? ⟨w2.heap.size, 4, none⟩ = some (.bool over') ∧ w'.cell? ⟨w2.heap.size, 1, none⟩ = some (.int .i64 had')) _ := ⟨hc5, cy4, cy1⟩
        refine wpAnyH_take (i := 12) (oi := { dst := some 52, op := Op.binOp BinOp.neq 4 (Operand.tmp 45) (Operand.tmp 51) 4, type := 4, pos := "law.go:61", after := #[{ on := 5, ground := Ground.data }, { on := 11, ground := Ground.data }], guard := none }) (v := ?_) rfl (by kernel_rfl) (by kernel_rfl) (by kernel_rfl) (fun _ _ _ h => h) (Or.inl ⟨by rfl, ?_⟩) (by assumption) ?_
        rotate_left
        · intro wS hSw; (try dsimp only at hSw); go_simp; (try with_reducible rfl)
        try simp only [Act.put, List.setIfInBounds_toArray, List.set_cons_zero, List.set_cons_succ]
        refine wpAnyH_take (i := 13) (oi := { dst := some 53, op := Op.move (Operand.tmp 52), type := 4, pos := "law.go:61", after := #[{ on := 12, ground := Ground.data }, { on := 11, ground := Ground.chain }], guard := none }) (v := ?_) rfl (by kernel_rfl) (by kernel_rfl) (by kernel_rfl) (fun _ _ _ h => h) (Or.inl ⟨by rfl, ?_⟩) (by assumption) ?_
        rotate_left
        · intro wS hSw; (try dsimp only at hSw); go_simp; (try with_reducible rfl)
        try simp only [Act.put, List.setIfInBounds_toArray, List.set_cons_zero, List.set_cons_succ]
        refine wpAnyH_take (i := 14) (oi := { dst := some 54, op := Op.move (Operand.tmp 9), type := 30, pos := "law.go:61", after := #[{ on := 13, ground := Ground.guard }], guard := some (13, false) }) (v := ?_) rfl (by kernel_rfl) (by kernel_rfl) (by kernel_rfl) (fun _ _ _ h => h) (Or.inl ⟨by rfl, ?_⟩) (by assumption) ?_
        rotate_left
        · intro wS hSw; (try dsimp only at hSw); go_simp; (try with_reducible rfl)
        try simp only [Act.put, List.setIfInBounds_toArray, List.set_cons_zero, List.set_cons_succ]
        refine wpAnyH_take (i := 16) (oi := { dst := some 56, op := Op.move (Operand.tmp 10), type := 32, pos := "law.go:61", after := #[{ on := 13, ground := Ground.guard }], guard := some (13, false) }) (v := ?_) rfl (by kernel_rfl) (by kernel_rfl) (by kernel_rfl) (fun _ _ _ h => h) (Or.inl ⟨by rfl, ?_⟩) (by assumption) ?_
        rotate_left
        · intro wS hSw; (try dsimp only at hSw); go_simp; (try with_reducible rfl)
        try simp only [Act.put, List.setIfInBounds_toArray, List.set_cons_zero, List.set_cons_succ]
        refine wpAnyH_take (i := 17) (oi := { dst := some 57, op := Op.nilCheck (Operand.tmp 56), type := 0, pos := "law.go:61", after := #[{ on := 16, ground := Ground.data }, { on := 13, ground := Ground.guard }], guard := some (13, false) }) (v := ?_) rfl (by kernel_rfl) (by kernel_rfl) (by kernel_rfl) (fun _ _ _ h => h) (Or.inl ⟨by rfl, ?_⟩) (by assumption) ?_
        rotate_left
        · intro wS hSw; (try dsimp only at hSw); go_simp; (try with_reducible rfl)
        try simp only [Act.put, List.setIfInBounds_toArray, List.set_cons_zero, List.set_cons_succ]
        refine wpAnyH_take (i := 18) (oi := { dst := some 58, op := Op.fieldAddr 36 (Operand.tmp 57) 4, type := 0, pos := "law.go:61", after := #[{ on := 17, ground := Ground.data }, { on := 13, ground := Ground.guard }], guard := some (13, false) }) (v := ?_) rfl (by kernel_rfl) (by kernel_rfl) (by kernel_rfl) (fun _ _ _ h => h) (Or.inl ⟨by rfl, ?_⟩) (by assumption) ?_
        rotate_left
        · intro wS hSw; (try dsimp only at hSw); go_simp; (try with_reducible rfl)
        try simp only [Act.put, List.setIfInBounds_toArray, List.set_cons_zero, List.set_cons_succ]
        refine wpAnyH_take (i := 19) (oi := { dst := some 59, op := Op.load 4 (Operand.tmp 58), type := 4, pos := "law.go:61", after := #[{ on := 18, ground := Ground.data }, { on := 13, ground := Ground.guard }], guard := some (13, false) }) (v := ?_) rfl (by kernel_rfl) (by kernel_rfl) (by kernel_rfl) (fun _ _ _ h => h) (Or.inl ⟨by rfl, ?_⟩) (by assumption) ?_
        rotate_left
        · intro wS hSw; (try dsimp only at hSw); go_simp; (try with_reducible rfl)
        try simp only [Act.put, List.setIfInBounds_toArray, List.set_cons_zero, List.set_cons_succ]
        refine wpAnyH_ready (rs := [15]) (by kernel_rfl) (by simp) ?_
        refine AllReadyH.cons (o := { dst := some 55, op := Op.call { callee := Callee.value (Operand.func 19), args := #[Operand.tmp 54], argTypes := #[30] }, type := 4, pos := "law.go:61", after := #[{ on := 14, ground := Ground.data }, { on := 13, ground := Ground.chain }, { on := 13, ground := Ground.guard }], guard := some (13, false) }) rfl (fun K hK => ?_) AllReadyH.nil
        go_simp
        refine (over_any _ _ _ _ _ _ _ _ _ kt5).mono ?_
        rintro e w' ⟨rfl, rfl⟩
        try dsimp only
        refine hK.out _ _ ?_ (fun hHeld => ?_)
        · exact hHeld2
        clear hK K
        try simp only [Act.put, List.setIfInBounds_toArray, List.set_cons_zero, List.set_cons_succ]
        refine wpAnyH_take (i := 20) (oi := { dst := some 60, op := Op.binOp BinOp.neq 4 (Operand.tmp 55) (Operand.tmp 59) 4, type := 4, pos := "law.go:61", after := #[{ on := 15, ground := Ground.data }, { on := 19, ground := Ground.data }, { on := 13, ground := Ground.guard }], guard := some (13, false) }) (v := ?_) rfl (by kernel_rfl) (by kernel_rfl) (by kernel_rfl) (fun _ _ _ h => h) (Or.inl ⟨by rfl, ?_⟩) (by assumption) ?_
        rotate_left
        · intro wS hSw; (try dsimp only at hSw); go_simp; (try with_reducible rfl)
        try simp only [Act.put, List.setIfInBounds_toArray, List.set_cons_zero, List.set_cons_succ]
        refine wpAnyH_take (i := 21) (oi := { dst := some 61, op := Op.pick (Operand.tmp 53) (Operand.const (Value.bool true)) (Operand.tmp 60), type := 4, pos := "law.go:61", after := #[{ on := 13, ground := Ground.data }, { on := 20, ground := Ground.data }], guard := none }) (v := ?_) rfl (by kernel_rfl) (by kernel_rfl) (by kernel_rfl) (fun _ _ _ h => h) (Or.inl ⟨by rfl, ?_⟩) (by assumption) ?_
        rotate_left
        · intro wS hSw; (try dsimp only at hSw); go_simp; (try with_reducible rfl)
        try simp only [Act.put, List.setIfInBounds_toArray, List.set_cons_zero, List.set_cons_succ]
        refine wpAnyH_take (i := 22) (oi := { dst := some 62, op := Op.move (Operand.tmp 61), type := 4, pos := "law.go:61", after := #[{ on := 21, ground := Ground.data }, { on := 15, ground := Ground.chain }], guard := none }) (v := ?_) rfl (by kernel_rfl) (by kernel_rfl) (by kernel_rfl) (fun _ _ _ h => h) (Or.inl ⟨by rfl, ?_⟩) (by assumption) ?_
        rotate_left
        · intro wS hSw; (try dsimp only at hSw); go_simp; (try with_reducible rfl)
        try simp only [Act.put, List.setIfInBounds_toArray, List.set_cons_zero, List.set_cons_succ]
        refine wpAnyH_take (i := 23) (oi := { dst := some 63, op := Op.move (Operand.tmp 9), type := 30, pos := "law.go:61", after := #[{ on := 22, ground := Ground.guard }], guard := some (22, false) }) (v := ?_) rfl (by kernel_rfl) (by kernel_rfl) (by kernel_rfl) (fun _ _ _ h => h) (Or.inl ⟨by rfl, ?_⟩) (by assumption) ?_
        rotate_left
        · intro wS hSw; (try dsimp only at hSw); go_simp; (try with_reducible rfl)
        try simp only [Act.put, List.setIfInBounds_toArray, List.set_cons_zero, List.set_cons_succ]
        refine wpAnyH_take (i := 25) (oi := { dst := some 65, op := Op.move (Operand.tmp 10), type := 32, pos := "law.go:61", after := #[{ on := 22, ground := Ground.guard }], guard := some (22, false) }) (v := ?_) rfl (by kernel_rfl) (by kernel_rfl) (by kernel_rfl) (fun _ _ _ h => h) (Or.inl ⟨by rfl, ?_⟩) (by assumption) ?_
        rotate_left
        · intro wS hSw; (try dsimp only at hSw); go_simp; (try with_reducible rfl)
        try simp only [Act.put, List.setIfInBounds_toArray, List.set_cons_zero, List.set_cons_succ]
        refine wpAnyH_take (i := 26) (oi := { dst := some 66, op := Op.nilCheck (Operand.tmp 65), type := 0, pos := "law.go:61", after := #[{ on := 25, ground := Ground.data }, { on := 22, ground := Ground.guard }], guard := some (22, false) }) (v := ?_) rfl (by kernel_rfl) (by kernel_rfl) (by kernel_rfl) (fun _ _ _ h => h) (Or.inl ⟨by rfl, ?_⟩) (by assumption) ?_
        rotate_left
        · intro wS hSw; (try dsimp only at hSw); go_simp; (try with_reducible rfl)
        try simp only [Act.put, List.setIfInBounds_toArray, List.set_cons_zero, List.set_cons_succ]
        refine wpAnyH_take (i := 27) (oi := { dst := some 67, op := Op.fieldAddr 36 (Operand.tmp 66) 1, type := 0, pos := "law.go:61", after := #[{ on := 26, ground := Ground.data }, { on := 22, ground := Ground.guard }], guard := some (22, false) }) (v := ?_) rfl (by kernel_rfl) (by kernel_rfl) (by kernel_rfl) (fun _ _ _ h => h) (Or.inl ⟨by rfl, ?_⟩) (by assumption) ?_
        rotate_left
        · intro wS hSw; (try dsimp only at hSw); go_simp; (try with_reducible rfl)
        try simp only [Act.put, List.setIfInBounds_toArray, List.set_cons_zero, List.set_cons_succ]
        refine wpAnyH_take (i := 28) (oi := { dst := some 68, op := Op.load 3 (Operand.tmp 67), type := 3, pos := "law.go:61", after := #[{ on := 27, ground := Ground.data }, { on := 22, ground := Ground.guard }], guard := some (22, false) }) (v := ?_) rfl (by kernel_rfl) (by kernel_rfl) (by kernel_rfl) (fun _ _ _ h => h) (Or.inl ⟨by rfl, ?_⟩) (by assumption) ?_
        rotate_left
        · intro wS hSw; (try dsimp only at hSw); go_simp; (try with_reducible rfl)
        try simp only [Act.put, List.setIfInBounds_toArray, List.set_cons_zero, List.set_cons_succ]
        refine wpAnyH_ready (rs := [24]) (by kernel_rfl) (by simp) ?_
        refine AllReadyH.cons (o := { dst := some 64, op := Op.call { callee := Callee.value (Operand.func 20), args := #[Operand.tmp 63], argTypes := #[30] }, type := 3, pos := "law.go:61", after := #[{ on := 23, ground := Ground.data }, { on := 22, ground := Ground.chain }, { on := 22, ground := Ground.guard }], guard := some (22, false) }) rfl (fun K hK => ?_) AllReadyH.nil
        go_simp
        refine (bytes_any _ _ _ _ _ _ _ _ _ kt5).mono ?_
        rintro e w' ⟨rfl, rfl⟩
        try dsimp only
        refine hK.out _ _ ?_ (fun hHeld => ?_)
        · exact hHeld2
        clear hK K
        try simp only [Act.put, List.setIfInBounds_toArray, List.set_cons_zero, List.set_cons_succ]
        refine wpAnyH_take (i := 29) (oi := { dst := some 69, op := Op.binOp BinOp.neq 3 (Operand.tmp 64) (Operand.tmp 68) 3, type := 4, pos := "law.go:61", after := #[{ on := 24, ground := Ground.data }, { on := 28, ground := Ground.data }, { on := 22, ground := Ground.guard }], guard := some (22, false) }) (v := ?_) rfl (by kernel_rfl) (by kernel_rfl) (by kernel_rfl) (fun _ _ _ h => h) (Or.inl ⟨by rfl, ?_⟩) (by assumption) ?_
        rotate_left
        · intro wS hSw; (try dsimp only at hSw); go_simp; (try with_reducible rfl)
        try simp only [Act.put, List.setIfInBounds_toArray, List.set_cons_zero, List.set_cons_succ]
        refine wpAnyH_take (i := 30) (oi := { dst := some 70, op := Op.pick (Operand.tmp 62) (Operand.const (Value.bool true)) (Operand.tmp 69), type := 4, pos := "law.go:61", after := #[{ on := 22, ground := Ground.data }, { on := 29, ground := Ground.data }], guard := none }) (v := ?_) rfl (by kernel_rfl) (by kernel_rfl) (by kernel_rfl) (fun _ _ _ h => h) (Or.inl ⟨by rfl, ?_⟩) (by assumption) ?_
        rotate_left
        · intro wS hSw; (try dsimp only at hSw); go_simp; (try with_reducible rfl)
        try simp only [Act.put, List.setIfInBounds_toArray, List.set_cons_zero, List.set_cons_succ]
        refine wpAnyH_done (by kernel_rfl) ?_ _
        have hcont : ∀ (wz : World) (r1z r2z : Option Nat), Tk wz w1.heap.size w1.heap.size r1z xs' (max 0 la) (max 0 lb) had' over' → Tr wz w2.heap.size w2.heap.size r2z xs' (max 0 la) (max 0 lb) had' over' → Disj r1z r2z → Below w.heap.size w wz →
            ∃ (k' : Nat) (r1 r2 : Option Nat), k' ≤ ss.length ∧ Value.int .i64 ((k : Int) + 1) = .int .i64 k' ∧ Tk wz w1.heap.size w1.heap.size r1 (playT (max 0 la) (max 0 lb) ss k').1 (max 0 la) (max 0 lb) (playT (max 0 la) (max 0 lb) ss k').2.1 (playT (max 0 la) (max 0 lb) ss k').2.2 ∧
              Tr wz w2.heap.size w2.heap.size r2 (playT (max 0 la) (max 0 lb) ss k').1 (max 0 la) (max 0 lb) (playT (max 0 la) (max 0 lb) ss k').2.1 (playT (max 0 la) (max 0 lb) ss k').2.2 ∧ Disj r1 r2 ∧ Below w.heap.size w wz := by
          intro wz r1z r2z h1z h2z h3z h4z
          refine ⟨k + 1, r1z, r2z, by omega, by go_num, ?_, ?_, h3z, h4z⟩
          · rw [HN.out]; exact h1z
          · rw [HN.out]; exact h2z
        have Hcont := Lib.hid hcont
        clear hcont HN kt kr kt4 kr4 A1 A2 A3 Hst Hrt hb hc hc4 Bw hd4 a1 hbb hbo hbn zg1 zg2 z4
        clear hHeld2
        (try clear hHeld); (try clear hHeld); (try clear hHeld); (try clear hHeld); (try clear hHeld)
        clear hrw i1 i2 i3 i4 j3 j4
        cases over' with
        | true =>
          clear cy1 hc5
          go_wp2_with fail
          refine (lines_over _ _ _ _ _ _ _ _ kt5).mono ?_
          rintro e w' ⟨rfl, rfl⟩
          go_wp2_with fail
          refine wp_loop_rounds 1 ?_
          rw [rounds_succ]
          go_wp2_with fail
          exact ⟨Hcont.out _ _ _ kt5 kr5 hd5.out Bw5.out, by simp [intOf]; omega⟩
        | false =>
          clear cy1 cy4 hc5
          go_wp2_with fail
          refine (lines_any _ _ _ _ _ _ _ _ kt5 (by omega)).mono ?_
          rintro e w6 ⟨A6, c6, rfl, hv6, b6⟩
          have kt6 := tx_below kt5 b6
          have kr6 := tx_below kr5 b6
          have ap1 := Lib.hid (tx_far kt5 hv6)
          have ap2 := Lib.hid (tx_far kr5 hv6)
          have Bw6 := Lib.hid (Bw5.out.trans (b6.mono Bw5.out.size))
          have zz5 := Bw5.out.size
          clear kt5 kr5 b6 Bw5
          have kr6' := kr6
          obtain ⟨AL, cL, hrr, hBg, hk6, hown6⟩ := kr6'
          have cy0 := hk6.cell 0
          have cy4 := hk6.cell 4
          simp at cy0 cy4
          clear hrr hk6
          go_wp2_with fail
          have hro := rows_any A6 AL c6 cL xs' xs' w6 (own_rd hv6) (own_rd hown6) (by omega) (by omega)
          rw [rows_refl] at hro
          refine hro.mono ?_
          rintro e w7 ⟨rfl, b7⟩
          have kt7 := tx_below kt6 b7
          have kr7 := tx_below kr6 b7
          have hv7 := own_only (S := fun _ => False) hv6 (Only.of_below b7) (fun _ _ h => h)
          have Bw7 := Lib.hid (Bw6.out.trans (b7.mono Bw6.out.size))
          clear kt6 kr6 hown6 hv6 b7 hro Bw6 cy0 cy4
          go_wp2_with fail
          obtain ⟨wo, rfl⟩ : ∃ wo : World, wo = wr := ⟨_, rfl⟩
          go_loopw [13] (fun i w8 => ∃ (j : Nat) (ys : List Value), j ≤ xs'.length ∧ i = .int .i64 j ∧ w8.ownsRow w5.heap.size 9 1 (.slice A6 xs'.length c6) xs'.length ys ∧ Only w7 w8 (fun b => (Value.slice A6 xs'.length c6).ownBlock = some b)) (fun i _ => xs'.length - (intOf i).toNat)
          case atStart => exact ⟨0, _, by omega, rfl, hv7, Only.refl _ _⟩
          case round =>
            obtain ⟨j, ys, hj, rfl, ho8, hon8⟩ := hrel
            by_cases hjl : j < xs'.length
            · obtain ⟨g8, cap8, hv8, hb8, hl8⟩ := ho8.form (by omega)
              injection hv8 with e1 e2 e3
              subst e1
              have hyl := own_len ho8
              have hcell := ho8.cellAt j (by omega)
              rw [List.getElem?_eq_getElem (by omega)] at hcell
              have hfz := ho8.frozenAt j
              have hst8 := ho8.stored j (.string ⟨#[115, 112, 111, 105, 108, 116]⟩)
              have Hst8 := Lib.hid hst8
              clear hst8
              go_wp2_with fail
              exact ⟨⟨j + 1, _, by omega, by go_num, Hst8.out.1, hon8.setCell (p := ⟨g8, j, none⟩) rfl _⟩, by simp [intOf]; omega⟩
            · go_wp2_with fail
              exact ⟨Hcont.out _ _ _ (tx_only kt7 hon8 (fun h => ap1.out _ h (.inl rfl)) (fun k hk h => ap1.out _ h (.inr hk))) (tx_only kr7 hon8 (fun h => ap2.out _ h (.inl rfl)) (fun k hk h => ap2.out _ h (.inr hk))) hd5.out (Bw7.out.trans (hon8.below Bw7.out.size (fun k hk => Nat.le_trans zz5 (hv7.lt k hk).1))), by simp [intOf]; omega⟩
      · go_wp2_with fail
        go_ret
        exact ⟨rfl, Bw⟩
end Go.Proofs.Ytcbkllecdelfeaa
