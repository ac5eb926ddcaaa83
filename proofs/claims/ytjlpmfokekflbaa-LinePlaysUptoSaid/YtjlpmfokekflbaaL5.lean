/- The law LinePlays, walked. -/
import Derived.Test.YtjlpmfokekflbaaL2
import Derived.Test.YtjlpmfokekflbaaL3
namespace Go.Proofs.Ytjlpmfokekflbaa
open Go.RowKit
set_option linter.unusedVariables false
set_option linter.unusedSimpArgs false

theorem size_mem {l : List ByteArray} {s : ByteArray} (h : s ∈ l) : s.size + 1 ≤ totL l := by
  unfold totL
  induction l with
  | nil => cases h
  | cons a l ih =>
    simp only [List.map_cons, List.sum_cons]
    rcases List.mem_cons.1 h with rfl | h
    · omega
    · have := ih h; omega
theorem rest_tot (most : Int) (inn b : List UInt8) : (feedS most inn b).2.length ≤ inn.length + b.length := rest_len most inn b
set_option maxRecDepth 100000 in
set_option maxHeartbeats 16000000 in
theorem plays_walk (most : Int) (A : Option Addr) (c : Nat) (l : List ByteArray) (A' : Option Addr) (c' : Nat) (zs : List Int) (w : World) (hl : Rd w w.heap.size A (l.map .string)) (ht : totL l ≤ 1048576) (hz : Rd w w.heap.size A' (zs.map (.int .i64))) (hn : zs.length ≤ 9223372036854775807) :
    Calls Try.prog 3 #[.int .i64 most, .slice A l.length c, .slice A' zs.length c'] w fun e w' => e = .returned (.bool true) ∧ Below w.heap.size w w' := by
  have Hl := Lib.hid hl; have Hz := Lib.hid hz
  have hll := len_tot l
  clear hl hz
  go_enter Try.func3, Try.ntmps3
  go_wp2_with fail
  refine (small_any w).mono ?_
  rintro e w1 ⟨rfl, b1⟩
  go_wp2_with fail
  refine (short_any A c l 3000 w1 ((Hl.out.below b1).more b1.size) (by omega)).mono ?_
  rintro e w' ⟨rfl, rfl⟩
  obtain ⟨okb, hd⟩ : ∃ okb, decide ((totL l : Int) ≤ 3000) = okb := ⟨_, rfl⟩
  rw [hd]
  go_wp2_with fail
  refine (new_any most w1).mono ?_
  rintro e w2 ⟨rfl, f2, b2⟩
  go_wp2_with fail
  refine (rnew_any most w2).mono ?_
  rintro e w3 ⟨rfl, r3, b3⟩
  have bw2 := b1.trans (b2.mono b1.size)
  have BW3 := Lib.hid (bw2.trans (b3.mono bw2.size))
  have hg2 : w.heap.size ≤ w2.heap.size := bw2.size
  obtain ⟨m, hm⟩ : ∃ m, max 0 most = m := ⟨_, rfl⟩
  rw [Int.max_comm, hm] at r3
  rw [hm] at f2
  have f3 : FS w3 (fun k => k < w.heap.size ∨ k = w2.heap.size) w1.heap.size [] m := by
    have h0 := f2.below b3
    obtain ⟨v, h1, h2⟩ := h0
    refine ⟨v, h1, fun k hk => ?_⟩
    rcases hk with hk | rfl
    · exact h2 k (Nat.lt_of_lt_of_le hk b1.size)
    · obtain ⟨v', h1', h2'⟩ := f2
      refine ⟨r3.lt, fun e => by have := h1'.1.lt; omega, own_ne h1.2 r3 (by decide)⟩
  have F3 := Lib.hid f3; have R3 := Lib.hid r3
  obtain ⟨g1, hg1⟩ : ∃ g1, w1.heap.size = g1 := ⟨_, rfl⟩
  obtain ⟨g2, hg2'⟩ : ∃ g2, w2.heap.size = g2 := ⟨_, rfl⟩
  rw [hg1, hg2'] at F3
  rw [hg2'] at R3 hg2
  rw [hg1, hg2']
  clear f2 f3 r3 b1 b2 b3 bw2 hm hg1 hg2'
  cases okb with
  | false =>
    go_wp2_with fail
    go_ret
    exact ⟨rfl, BW3.out⟩
  | true =>
    have htl : totL l ≤ 3000 := by have := of_decide_eq_true hd; omega
    have hln : l.length ≤ 3000 := by omega
    have HTL := Lib.hid htl
    clear hd ht htl hll
    go_wp2_with fail
    go_loopw [11] (fun i wx => ∃ (k : Nat) (inn : List UInt8) (m : Int), k ≤ l.length ∧ i = .int .i64 (k : Int) ∧ FS wx (fun k => k < w.heap.size ∨ k = g2) g1 inn m ∧ Rf wx g2 inn m ∧ Kept inn ∧ inn.length ≤ totL (l.take k) ∧ Below w.heap.size w wx) (fun i _ => l.length - (intOf i).toNat)
    case atStart => exact ⟨0, [], m, Nat.zero_le _, rfl, F3.out, R3.out, kept_nil, Nat.zero_le _, BW3.out⟩
    case round =>
      obtain ⟨k, inn, m, hk, rfl, hf, hr, hkp, hil0, hb⟩ := hrel
      have HF := Lib.hid hf; have HR := Lib.hid hr; have HKP := Lib.hid hkp; have HB := Lib.hid hb
      have hle := tot_le l k
      have hin3 : inn.length ≤ 3000 := by have := HTL.out; omega
      clear hf hr hkp hb
      by_cases hlt : k < l.length
      · have hzk : (k : Int) < l.length := by omega
        obtain ⟨b, o, rfl, hb0, hc⟩ := Rd.at_ Hl.out (k := k) (by simpa using hlt)
        rw [List.getElem_map] at hc
        have hss := size_mem (List.getElem_mem hlt)
        have htt := tot_take hlt
        have HC := Lib.hid hc
        have HTT := Lib.hid htt
        generalize l[k] = s at *
        have hfb : inn.length + s.size ≤ 2000000 := by have := HTL.out; omega
        have hfb2 : s.size ≤ 3000 := by have := HTL.out; omega
        clear hc htt hle
        by_cases hmk : k < zs.length
        · have hzm : (k : Int) < zs.length := by omega
          obtain ⟨b', o', rfl, hb0', hc'⟩ := int_at Hz.out hmk
          have q0 := (HB.out.cell (p := ⟨b', o' + k, none⟩) hb0').trans hc'
          have HC' := Lib.hid hc'
          generalize zs[k] = z at *
          clear hc'
          go_wp2_with fail
          refine (most_any HF.out z).mono ?_
          rintro e wa ⟨rfl, fa, ka⟩
          have ra : Rf wa g2 inn m := HR.out.keep ka (.inr rfl)
          have ba := keep_to_below HB.out ka (Nat.le_refl _) (fun k hk => .inl hk)
          have q1 := (ba.cell (p := ⟨b', o' + k, none⟩) hb0').trans HC'.out
          have y1 := ra.cell 1
          have y2 := ra.frozen 1
          simp at y1
          have on1 : Only wa (wa.setCell ⟨g2, 1, none⟩ (.int .i64 (max z 0))) (fun k => k = g2) := Only.setCell (S := fun k => k = g2) (Only.refl _ _) (p := ⟨g2, 1, none⟩) rfl _
          have fb := fa.only on1 (fun k hk => .inr hk)
          have rb := ra.set_ 1 (.int .i64 (max z 0))
          simp at rb
          have bb := ba.setCell (p := ⟨g2, 1, none⟩) hg2 (.int .i64 (max z 0))
          have hmz : max 0 z = max z 0 := Int.max_comm _ _
          rw [hmz] at fb
          obtain ⟨wb, hwb⟩ : ∃ wb, wa.setCell ⟨g2, 1, none⟩ (.int .i64 (max z 0)) = wb := ⟨_, rfl⟩
          rw [hwb] at fb rb bb
          obtain ⟨mz, hmz2⟩ : ∃ mz, max z 0 = mz := ⟨_, rfl⟩
          rw [hmz2] at fb rb hwb
          have FB := Lib.hid fb; have RB := Lib.hid rb; have BB := Lib.hid bb; have HWB := Lib.hid hwb
          clear fa ka ra ba on1 fb rb bb hwb q0 hmz
          go_wp2_with fail
          rw [HWB.out]
          refine wp_region_held_drew (S := fun w' : World => w'.cell? ⟨b, o + k, none⟩ = some (.string s)) (by kernel_rfl) ?_ (fun hHeld => ?_)
          · exact ((BB.out.drew.cell (p := ⟨b, o + k, none⟩) hb0).trans HC.out)
          refine wpAnyH_take (i := 0) (oi := { dst := some 54, op := Op.move (Operand.tmp 9), type := 26, pos := "law.go:53", after := #[], guard := none }) (v := ?_) rfl (by kernel_rfl) (by kernel_rfl) (by kernel_rfl) (fun _ _ _ h => h) (Or.inl ⟨by rfl, ?_⟩) (by assumption) ?_
          rotate_left
          · intro wS hSw; (try dsimp only at hSw); go_simp; (try with_reducible rfl)
          try simp only [Act.put, List.setIfInBounds_toArray, List.set_cons_zero, List.set_cons_succ]
          refine wpAnyH_take (i := 1) (oi := { dst := some 55, op := Op.move (Operand.tmp 1), type := 22, pos := "law.go:53", after := #[], guard := none }) (v := ?_) rfl (by kernel_rfl) (by kernel_rfl) (by kernel_rfl) (fun _ _ _ h => h) (Or.inl ⟨by rfl, ?_⟩) (by assumption) ?_
          rotate_left
          · intro wS hSw; (try dsimp only at hSw); go_simp; (try with_reducible rfl)
          try simp only [Act.put, List.setIfInBounds_toArray, List.set_cons_zero, List.set_cons_succ]
          refine wpAnyH_take (i := 2) (oi := { dst := some 56, op := Op.move (Operand.tmp 11), type := 3, pos := "law.go:53", after := #[], guard := none }) (v := ?_) rfl (by kernel_rfl) (by kernel_rfl) (by kernel_rfl) (fun _ _ _ h => h) (Or.inl ⟨by rfl, ?_⟩) (by assumption) ?_
          rotate_left
          · intro wS hSw; (try dsimp only at hSw); go_simp; (try with_reducible rfl)
          try simp only [Act.put, List.setIfInBounds_toArray, List.set_cons_zero, List.set_cons_succ]
          refine wpAnyH_take (i := 3) (oi := { dst := some 57, op := Op.indexAddr 22 (Operand.tmp 55) (Operand.tmp 56), type := 0, pos := "law.go:53", after := #[{ on := 1, ground := Ground.data }, { on := 2, ground := Ground.data }], guard := none }) (v := ?_) rfl (by kernel_rfl) (by kernel_rfl) (by kernel_rfl) (fun _ _ _ h => h) (Or.inl ⟨by rfl, ?_⟩) (by assumption) ?_
          rotate_left
          · intro wS hSw; (try dsimp only at hSw); go_simp; (try with_reducible rfl)
          try simp only [Act.put, List.setIfInBounds_toArray, List.set_cons_zero, List.set_cons_succ]
          refine wpAnyH_take (i := 4) (oi := { dst := some 58, op := Op.load 9 (Operand.tmp 57), type := 9, pos := "law.go:53", after := #[{ on := 3, ground := Ground.data }], guard := none }) (v := ?_) rfl (by kernel_rfl) (by kernel_rfl) (by kernel_rfl) (fun _ _ _ h => h) (Or.inl ⟨by rfl, ?_⟩) (by assumption) ?_
          rotate_left
          · intro wS hSw; (try dsimp only at hSw); go_simp; (try with_reducible rfl)
          try simp only [Act.put, List.setIfInBounds_toArray, List.set_cons_zero, List.set_cons_succ]
          refine wpAnyH_take (i := 6) (oi := { dst := some 60, op := Op.move (Operand.tmp 10), type := 28, pos := "law.go:53", after := #[], guard := none }) (v := ?_) rfl (by kernel_rfl) (by kernel_rfl) (by kernel_rfl) (fun _ _ _ h => h) (Or.inl ⟨by rfl, ?_⟩) (by assumption) ?_
          rotate_left
          · intro wS hSw; (try dsimp only at hSw); go_simp; (try with_reducible rfl)
          try simp only [Act.put, List.setIfInBounds_toArray, List.set_cons_zero, List.set_cons_succ]
          refine wpAnyH_take (i := 7) (oi := { dst := some 61, op := Op.move (Operand.tmp 1), type := 22, pos := "law.go:53", after := #[], guard := none }) (v := ?_) rfl (by kernel_rfl) (by kernel_rfl) (by kernel_rfl) (fun _ _ _ h => h) (Or.inl ⟨by rfl, ?_⟩) (by assumption) ?_
          rotate_left
          · intro wS hSw; (try dsimp only at hSw); go_simp; (try with_reducible rfl)
          try simp only [Act.put, List.setIfInBounds_toArray, List.set_cons_zero, List.set_cons_succ]
          refine wpAnyH_take (i := 8) (oi := { dst := some 62, op := Op.move (Operand.tmp 11), type := 3, pos := "law.go:53", after := #[], guard := none }) (v := ?_) rfl (by kernel_rfl) (by kernel_rfl) (by kernel_rfl) (fun _ _ _ h => h) (Or.inl ⟨by rfl, ?_⟩) (by assumption) ?_
          rotate_left
          · intro wS hSw; (try dsimp only at hSw); go_simp; (try with_reducible rfl)
          try simp only [Act.put, List.setIfInBounds_toArray, List.set_cons_zero, List.set_cons_succ]
          refine wpAnyH_take (i := 9) (oi := { dst := some 63, op := Op.indexAddr 22 (Operand.tmp 61) (Operand.tmp 62), type := 0, pos := "law.go:53", after := #[{ on := 7, ground := Ground.data }, { on := 8, ground := Ground.data }], guard := none }) (v := ?_) rfl (by kernel_rfl) (by kernel_rfl) (by kernel_rfl) (fun _ _ _ h => h) (Or.inl ⟨by rfl, ?_⟩) (by assumption) ?_
          rotate_left
          · intro wS hSw; (try dsimp only at hSw); go_simp; (try with_reducible rfl)
          try simp only [Act.put, List.setIfInBounds_toArray, List.set_cons_zero, List.set_cons_succ]
          refine wpAnyH_take (i := 10) (oi := { dst := some 64, op := Op.load 9 (Operand.tmp 63), type := 9, pos := "law.go:53", after := #[{ on := 9, ground := Ground.data }], guard := none }) (v := ?_) rfl (by kernel_rfl) (by kernel_rfl) (by kernel_rfl) (fun _ _ _ h => h) (Or.inl ⟨by rfl, ?_⟩) (by assumption) ?_
          rotate_left
          · intro wS hSw; (try dsimp only at hSw); go_simp; (try with_reducible rfl)
          try simp only [Act.put, List.setIfInBounds_toArray, List.set_cons_zero, List.set_cons_succ]
          clear hHeld
          refine wpAnyH_ready (rs := [5]) (by kernel_rfl) (by simp) ?_
          refine AllReadyH.cons (o := { dst := some 59, op := Op.call { callee := Callee.value (Operand.func 14), args := #[Operand.tmp 54, Operand.tmp 58], argTypes := #[26, 9] }, type := 34, pos := "law.go:53", after := #[{ on := 0, ground := Ground.data }, { on := 4, ground := Ground.data }], guard := none }) rfl (fun K hK => ?_) AllReadyH.nil
          go_simp
          refine (feed_any (FB.out.below (Below.refl _ _).drew) HKP.out s hfb).mono ?_
          rintro e w4 ⟨v4, rfl, o4, f4, k4⟩
          obtain ⟨A4, c4, rfl⟩ := own_any o4
          have r4 : Rf w4 g2 inn mz := (bk_drew RB.out).keep k4 (.inr rfl)
          have b4 := keep_to_below BB.out.drew k4 (Nat.le_refl _) (fun k hk => .inl hk)
          have B4 := Lib.hid b4
          clear b4 k4
          try dsimp only
          refine hK.out _ _ ?_ (fun hHeld => ?_)
          · exact ((B4.out.cell (p := ⟨b, o + k, none⟩) hb0).trans HC.out)
          clear hK K
          try simp only [Act.put, List.setIfInBounds_toArray, List.set_cons_zero, List.set_cons_succ]
          refine wpAnyH_ready (rs := [11]) (by kernel_rfl) (by simp) ?_
          refine AllReadyH.cons (o := { dst := some 65, op := Op.call { callee := Callee.value (Operand.func 15), args := #[Operand.tmp 60, Operand.tmp 64], argTypes := #[28, 9] }, type := 34, pos := "law.go:53", after := #[{ on := 6, ground := Ground.data }, { on := 10, ground := Ground.data }, { on := 5, ground := Ground.chain }], guard := none }) rfl (fun K hK => ?_) AllReadyH.nil
          go_simp
          refine (rfeed_any g2 inn mz s w4 r4 hfb).mono ?_
          rintro e w5 ⟨v5, rfl, o5, r5, on5⟩
          obtain ⟨A5, c5, rfl⟩ := own_any o5
          have f5 := f4.only on5 (fun k hk => .inr hk)
          have o45 := own_only o4 on5 (fun k hk e => own_ne o4 r4 (by decide) (e ▸ hk))
          have b5 := Only.belowOf B4.out on5 (Nat.le_refl _) (fun k hk => hk ▸ hg2)
          have hol := feed_len mz inn s.data.toList
          have hil := rest_tot mz inn s.data.toList
          have hkp2 := kept_feed mz inn s.data.toList
          rw [str_len] at hol hil
          obtain ⟨outs, houts⟩ : ∃ outs, (feedS mz inn s.data.toList).1 = outs := ⟨_, rfl⟩
          obtain ⟨inn2, hinn2⟩ : ∃ inn2, (feedS mz inn s.data.toList).2 = inn2 := ⟨_, rfl⟩
          rw [houts] at o45 o5 hol
          rw [hinn2] at f5 r5 hil hkp2
          simp only [houts]
          have F5 := Lib.hid f5; have R5 := Lib.hid r5; have O45 := Lib.hid o45; have O5 := Lib.hid o5; have B5 := Lib.hid b5; have HKP2 := Lib.hid hkp2; have HIL := Lib.hid hil; have HOL := Lib.hid hol
          clear f5 r5 o45 o5 b5 on5 f4 r4 o4 houts hinn2 hkp2 hil hol
          try dsimp only
          refine hK.out _ _ ?_ (fun hHeld => ?_)
          · exact ((B5.out.cell (p := ⟨b, o + k, none⟩) hb0).trans HC.out)
          clear hK K
          try simp only [Act.put, List.setIfInBounds_toArray, List.set_cons_zero, List.set_cons_succ]
          clear hHeld
          refine wpAnyH_more (S' := fun w' : World => w'.cell? ⟨b, o + k, none⟩ = some (.string s) ∧ w'.cell? ⟨g2, 0, none⟩ = some (.string ⟨inn2.toArray⟩)) (fun _ h => h.1) ?_
          have r50 := R5.out.cell 0
          simp only [List.getElem?_toArray, List.getElem?_cons_zero] at r50
          refine wpAnyH_ready (rs := [12]) (by kernel_rfl) (by simp) ?_
          refine AllReadyH.cons (o := { dst := some 66, op := Op.call { callee := Callee.value (Operand.func 13), args := #[Operand.tmp 59, Operand.tmp 65], argTypes := #[34, 34] }, type := 4, pos := "law.go:53", after := #[{ on := 5, ground := Ground.data }, { on := 11, ground := Ground.data }, { on := 11, ground := Ground.chain }], guard := none }) rfl (fun K hK => ?_) AllReadyH.nil
          go_simp
          refine (same_any A4 A5 c4 c5 outs w5 (own_rdn O45.out) (own_rdn O5.out) (by have := HOL.out; omega)).mono ?_
          rintro e w6 ⟨rfl, b6⟩
          have F6 := Lib.hid (F5.out.below b6); have R6 := Lib.hid (R5.out.below b6 R5.out.lt); have B6 := Lib.hid (B5.out.trans (b6.mono B5.out.size))
          clear b6
          try dsimp only
          refine hK.out _ _ ?_ (fun hHeld => ?_)
          · exact ⟨((B6.out.cell (p := ⟨b, o + k, none⟩) hb0).trans HC.out), R6.out.cell 0⟩
          clear hK K
          try simp only [Act.put, List.setIfInBounds_toArray, List.set_cons_zero, List.set_cons_succ]
          refine wpAnyH_take (i := 13) (oi := { dst := some 67, op := Op.unOp UnOp.not 4 (Operand.tmp 66), type := 4, pos := "law.go:53", after := #[{ on := 12, ground := Ground.data }], guard := none }) (v := ?_) rfl (by kernel_rfl) (by kernel_rfl) (by kernel_rfl) (fun _ _ _ h => h) (Or.inl ⟨by rfl, ?_⟩) (by assumption) ?_
          rotate_left
          · intro wS hSw; (try dsimp only at hSw); go_simp; (try with_reducible rfl)
          try simp only [Act.put, List.setIfInBounds_toArray, List.set_cons_zero, List.set_cons_succ]
          refine wpAnyH_take (i := 14) (oi := { dst := some 68, op := Op.move (Operand.tmp 67), type := 4, pos := "law.go:53", after := #[{ on := 13, ground := Ground.data }, { on := 12, ground := Ground.chain }], guard := none }) (v := ?_) rfl (by kernel_rfl) (by kernel_rfl) (by kernel_rfl) (fun _ _ _ h => h) (Or.inl ⟨by rfl, ?_⟩) (by assumption) ?_
          rotate_left
          · intro wS hSw; (try dsimp only at hSw); go_simp; (try with_reducible rfl)
          try simp only [Act.put, List.setIfInBounds_toArray, List.set_cons_zero, List.set_cons_succ]
          refine wpAnyH_take (i := 15) (oi := { dst := some 69, op := Op.move (Operand.tmp 9), type := 26, pos := "law.go:53", after := #[{ on := 14, ground := Ground.guard }], guard := some (14, false) }) (v := ?_) rfl (by kernel_rfl) (by kernel_rfl) (by kernel_rfl) (fun _ _ _ h => h) (Or.inl ⟨by rfl, ?_⟩) (by assumption) ?_
          rotate_left
          · intro wS hSw; (try dsimp only at hSw); go_simp; (try with_reducible rfl)
          try simp only [Act.put, List.setIfInBounds_toArray, List.set_cons_zero, List.set_cons_succ]
          refine wpAnyH_take (i := 17) (oi := { dst := some 71, op := Op.move (Operand.tmp 10), type := 28, pos := "law.go:53", after := #[{ on := 14, ground := Ground.guard }], guard := some (14, false) }) (v := ?_) rfl (by kernel_rfl) (by kernel_rfl) (by kernel_rfl) (fun _ _ _ h => h) (Or.inl ⟨by rfl, ?_⟩) (by assumption) ?_
          rotate_left
          · intro wS hSw; (try dsimp only at hSw); go_simp; (try with_reducible rfl)
          try simp only [Act.put, List.setIfInBounds_toArray, List.set_cons_zero, List.set_cons_succ]
          refine wpAnyH_take (i := 18) (oi := { dst := some 72, op := Op.nilCheck (Operand.tmp 71), type := 0, pos := "law.go:53", after := #[{ on := 17, ground := Ground.data }, { on := 14, ground := Ground.guard }], guard := some (14, false) }) (v := ?_) rfl (by kernel_rfl) (by kernel_rfl) (by kernel_rfl) (fun _ _ _ h => h) (Or.inl ⟨by rfl, ?_⟩) (by assumption) ?_
          rotate_left
          · intro wS hSw; (try dsimp only at hSw); go_simp; (try with_reducible rfl)
          try simp only [Act.put, List.setIfInBounds_toArray, List.set_cons_zero, List.set_cons_succ]
          refine wpAnyH_take (i := 19) (oi := { dst := some 73, op := Op.fieldAddr 32 (Operand.tmp 72) 0, type := 0, pos := "law.go:53", after := #[{ on := 18, ground := Ground.data }, { on := 14, ground := Ground.guard }], guard := some (14, false) }) (v := ?_) rfl (by kernel_rfl) (by kernel_rfl) (by kernel_rfl) (fun _ _ _ h => h) (Or.inl ⟨by rfl, ?_⟩) (by assumption) ?_
          rotate_left
          · intro wS hSw; (try dsimp only at hSw); go_simp; (try with_reducible rfl)
          try simp only [Act.put, List.setIfInBounds_toArray, List.set_cons_zero, List.set_cons_succ]
          refine wpAnyH_take (i := 20) (oi := { dst := some 74, op := Op.load 9 (Operand.tmp 73), type := 9, pos := "law.go:53", after := #[{ on := 19, ground := Ground.data }, { on := 14, ground := Ground.guard }], guard := some (14, false) }) (v := ?_) rfl (by kernel_rfl) (by kernel_rfl) (by kernel_rfl) (fun _ _ _ h => h) (Or.inl ⟨by rfl, ?_⟩) (by assumption) ?_
          rotate_left
          · intro wS hSw; (try dsimp only at hSw); go_simp; (try with_reducible rfl)
          try simp only [Act.put, List.setIfInBounds_toArray, List.set_cons_zero, List.set_cons_succ]
          refine wpAnyH_take (i := 21) (oi := { dst := some 75, op := Op.call { callee := Callee.builtin Builtin.len, args := #[Operand.tmp 74], argTypes := #[9] }, type := 3, pos := "law.go:53", after := #[{ on := 20, ground := Ground.data }, { on := 14, ground := Ground.guard }], guard := some (14, false) }) (v := ?_) rfl (by kernel_rfl) (by kernel_rfl) (by kernel_rfl) (fun _ _ _ h => h) (Or.inl ⟨by rfl, ?_⟩) (by assumption) ?_
          rotate_left
          · intro wS hSw; (try dsimp only at hSw); go_simp; (try with_reducible rfl)
          try simp only [Act.put, List.setIfInBounds_toArray, List.set_cons_zero, List.set_cons_succ]
          refine wpAnyH_ready (rs := [16]) (by kernel_rfl) (by simp) ?_
          refine AllReadyH.cons (o := { dst := some 70, op := Op.call { callee := Callee.value (Operand.func 16), args := #[Operand.tmp 69], argTypes := #[26] }, type := 3, pos := "law.go:53", after := #[{ on := 15, ground := Ground.data }, { on := 14, ground := Ground.chain }, { on := 14, ground := Ground.guard }], guard := some (14, false) }) rfl (fun K hK => ?_) AllReadyH.nil
          go_simp
          refine (rest_any F6.out).mono ?_
          rintro e w' ⟨rfl, rfl⟩
          try dsimp only
          refine hK.out _ _ ?_ (fun hHeld => ?_)
          · exact ⟨((B6.out.cell (p := ⟨b, o + k, none⟩) hb0).trans HC.out), R6.out.cell 0⟩
          clear hK K
          try simp only [Act.put, List.setIfInBounds_toArray, List.set_cons_zero, List.set_cons_succ]
          refine wpAnyH_take (i := 22) (oi := { dst := some 76, op := Op.binOp BinOp.neq 3 (Operand.tmp 70) (Operand.tmp 75) 3, type := 4, pos := "law.go:53", after := #[{ on := 16, ground := Ground.data }, { on := 21, ground := Ground.data }, { on := 14, ground := Ground.guard }], guard := some (14, false) }) (v := ?_) rfl (by kernel_rfl) (by kernel_rfl) (by kernel_rfl) (fun _ _ _ h => h) (Or.inl ⟨by rfl, ?_⟩) (by assumption) ?_
          rotate_left
          · intro wS hSw; (try dsimp only at hSw); go_simp; (try with_reducible rfl)
          try simp only [Act.put, List.setIfInBounds_toArray, List.set_cons_zero, List.set_cons_succ]
          refine wpAnyH_take (i := 23) (oi := { dst := some 77, op := Op.pick (Operand.tmp 68) (Operand.const (Value.bool true)) (Operand.tmp 76), type := 4, pos := "law.go:53", after := #[{ on := 14, ground := Ground.data }, { on := 22, ground := Ground.data }], guard := none }) (v := ?_) rfl (by kernel_rfl) (by kernel_rfl) (by kernel_rfl) (fun _ _ _ h => h) (Or.inl ⟨by rfl, ?_⟩) (by assumption) ?_
          rotate_left
          · intro wS hSw; (try dsimp only at hSw); go_simp; (try with_reducible rfl)
          try simp only [Act.put, List.setIfInBounds_toArray, List.set_cons_zero, List.set_cons_succ]
          refine wpAnyH_done (by kernel_rfl) ?_ _
          clear r50
          go_wp2_with fail
          exact ⟨⟨k + 1, inn2, mz, by omega, by go_num, F6.out, R6.out, HKP2.out, by rw [HTT.out]; have := HIL.out; omega, B6.out⟩, by simp [intOf]; omega⟩
        · have hzm : ¬ ((k : Int) < zs.length) := by omega
          go_wp2_with fail
          refine wp_region_held_drew (S := fun w' : World => w'.cell? ⟨b, o + k, none⟩ = some (.string s)) (by kernel_rfl) ?_ (fun hHeld => ?_)
          · exact ((HB.out.drew.cell (p := ⟨b, o + k, none⟩) hb0).trans HC.out)
          refine wpAnyH_take (i := 0) (oi := { dst := some 54, op := Op.move (Operand.tmp 9), type := 26, pos := "law.go:53", after := #[], guard := none }) (v := ?_) rfl (by kernel_rfl) (by kernel_rfl) (by kernel_rfl) (fun _ _ _ h => h) (Or.inl ⟨by rfl, ?_⟩) (by assumption) ?_
          rotate_left
          · intro wS hSw; (try dsimp only at hSw); go_simp; (try with_reducible rfl)
          try simp only [Act.put, List.setIfInBounds_toArray, List.set_cons_zero, List.set_cons_succ]
          refine wpAnyH_take (i := 1) (oi := { dst := some 55, op := Op.move (Operand.tmp 1), type := 22, pos := "law.go:53", after := #[], guard := none }) (v := ?_) rfl (by kernel_rfl) (by kernel_rfl) (by kernel_rfl) (fun _ _ _ h => h) (Or.inl ⟨by rfl, ?_⟩) (by assumption) ?_
          rotate_left
          · intro wS hSw; (try dsimp only at hSw); go_simp; (try with_reducible rfl)
          try simp only [Act.put, List.setIfInBounds_toArray, List.set_cons_zero, List.set_cons_succ]
          refine wpAnyH_take (i := 2) (oi := { dst := some 56, op := Op.move (Operand.tmp 11), type := 3, pos := "law.go:53", after := #[], guard := none }) (v := ?_) rfl (by kernel_rfl) (by kernel_rfl) (by kernel_rfl) (fun _ _ _ h => h) (Or.inl ⟨by rfl, ?_⟩) (by assumption) ?_
          rotate_left
          · intro wS hSw; (try dsimp only at hSw); go_simp; (try with_reducible rfl)
          try simp only [Act.put, List.setIfInBounds_toArray, List.set_cons_zero, List.set_cons_succ]
          refine wpAnyH_take (i := 3) (oi := { dst := some 57, op := Op.indexAddr 22 (Operand.tmp 55) (Operand.tmp 56), type := 0, pos := "law.go:53", after := #[{ on := 1, ground := Ground.data }, { on := 2, ground := Ground.data }], guard := none }) (v := ?_) rfl (by kernel_rfl) (by kernel_rfl) (by kernel_rfl) (fun _ _ _ h => h) (Or.inl ⟨by rfl, ?_⟩) (by assumption) ?_
          rotate_left
          · intro wS hSw; (try dsimp only at hSw); go_simp; (try with_reducible rfl)
          try simp only [Act.put, List.setIfInBounds_toArray, List.set_cons_zero, List.set_cons_succ]
          refine wpAnyH_take (i := 4) (oi := { dst := some 58, op := Op.load 9 (Operand.tmp 57), type := 9, pos := "law.go:53", after := #[{ on := 3, ground := Ground.data }], guard := none }) (v := ?_) rfl (by kernel_rfl) (by kernel_rfl) (by kernel_rfl) (fun _ _ _ h => h) (Or.inl ⟨by rfl, ?_⟩) (by assumption) ?_
          rotate_left
          · intro wS hSw; (try dsimp only at hSw); go_simp; (try with_reducible rfl)
          try simp only [Act.put, List.setIfInBounds_toArray, List.set_cons_zero, List.set_cons_succ]
          refine wpAnyH_take (i := 6) (oi := { dst := some 60, op := Op.move (Operand.tmp 10), type := 28, pos := "law.go:53", after := #[], guard := none }) (v := ?_) rfl (by kernel_rfl) (by kernel_rfl) (by kernel_rfl) (fun _ _ _ h => h) (Or.inl ⟨by rfl, ?_⟩) (by assumption) ?_
          rotate_left
          · intro wS hSw; (try dsimp only at hSw); go_simp; (try with_reducible rfl)
          try simp only [Act.put, List.setIfInBounds_toArray, List.set_cons_zero, List.set_cons_succ]
          refine wpAnyH_take (i := 7) (oi := { dst := some 61, op := Op.move (Operand.tmp 1), type := 22, pos := "law.go:53", after := #[], guard := none }) (v := ?_) rfl (by kernel_rfl) (by kernel_rfl) (by kernel_rfl) (fun _ _ _ h => h) (Or.inl ⟨by rfl, ?_⟩) (by assumption) ?_
          rotate_left
          · intro wS hSw; (try dsimp only at hSw); go_simp; (try with_reducible rfl)
          try simp only [Act.put, List.setIfInBounds_toArray, List.set_cons_zero, List.set_cons_succ]
          refine wpAnyH_take (i := 8) (oi := { dst := some 62, op := Op.move (Operand.tmp 11), type := 3, pos := "law.go:53", after := #[], guard := none }) (v := ?_) rfl (by kernel_rfl) (by kernel_rfl) (by kernel_rfl) (fun _ _ _ h => h) (Or.inl ⟨by rfl, ?_⟩) (by assumption) ?_
          rotate_left
          · intro wS hSw; (try dsimp only at hSw); go_simp; (try with_reducible rfl)
          try simp only [Act.put, List.setIfInBounds_toArray, List.set_cons_zero, List.set_cons_succ]
          refine wpAnyH_take (i := 9) (oi := { dst := some 63, op := Op.indexAddr 22 (Operand.tmp 61) (Operand.tmp 62), type := 0, pos := "law.go:53", after := #[{ on := 7, ground := Ground.data }, { on := 8, ground := Ground.data }], guard := none }) (v := ?_) rfl (by kernel_rfl) (by kernel_rfl) (by kernel_rfl) (fun _ _ _ h => h) (Or.inl ⟨by rfl, ?_⟩) (by assumption) ?_
          rotate_left
          · intro wS hSw; (try dsimp only at hSw); go_simp; (try with_reducible rfl)
          try simp only [Act.put, List.setIfInBounds_toArray, List.set_cons_zero, List.set_cons_succ]
          refine wpAnyH_take (i := 10) (oi := { dst := some 64, op := Op.load 9 (Operand.tmp 63), type := 9, pos := "law.go:53", after := #[{ on := 9, ground := Ground.data }], guard := none }) (v := ?_) rfl (by kernel_rfl) (by kernel_rfl) (by kernel_rfl) (fun _ _ _ h => h) (Or.inl ⟨by rfl, ?_⟩) (by assumption) ?_
          rotate_left
          · intro wS hSw; (try dsimp only at hSw); go_simp; (try with_reducible rfl)
          try simp only [Act.put, List.setIfInBounds_toArray, List.set_cons_zero, List.set_cons_succ]
          clear hHeld
          refine wpAnyH_ready (rs := [5]) (by kernel_rfl) (by simp) ?_
          refine AllReadyH.cons (o := { dst := some 59, op := Op.call { callee := Callee.value (Operand.func 14), args := #[Operand.tmp 54, Operand.tmp 58], argTypes := #[26, 9] }, type := 34, pos := "law.go:53", after := #[{ on := 0, ground := Ground.data }, { on := 4, ground := Ground.data }], guard := none }) rfl (fun K hK => ?_) AllReadyH.nil
          go_simp
          refine (feed_any (HF.out.below (Below.refl _ _).drew) HKP.out s hfb).mono ?_
          rintro e w4 ⟨v4, rfl, o4, f4, k4⟩
          obtain ⟨A4, c4, rfl⟩ := own_any o4
          have r4 : Rf w4 g2 inn m := (bk_drew HR.out).keep k4 (.inr rfl)
          have b4 := keep_to_below HB.out.drew k4 (Nat.le_refl _) (fun k hk => .inl hk)
          have B4 := Lib.hid b4
          clear b4 k4
          try dsimp only
          refine hK.out _ _ ?_ (fun hHeld => ?_)
          · exact ((B4.out.cell (p := ⟨b, o + k, none⟩) hb0).trans HC.out)
          clear hK K
          try simp only [Act.put, List.setIfInBounds_toArray, List.set_cons_zero, List.set_cons_succ]
          refine wpAnyH_ready (rs := [11]) (by kernel_rfl) (by simp) ?_
          refine AllReadyH.cons (o := { dst := some 65, op := Op.call { callee := Callee.value (Operand.func 15), args := #[Operand.tmp 60, Operand.tmp 64], argTypes := #[28, 9] }, type := 34, pos := "law.go:53", after := #[{ on := 6, ground := Ground.data }, { on := 10, ground := Ground.data }, { on := 5, ground := Ground.chain }], guard := none }) rfl (fun K hK => ?_) AllReadyH.nil
          go_simp
          refine (rfeed_any g2 inn m s w4 r4 hfb).mono ?_
          rintro e w5 ⟨v5, rfl, o5, r5, on5⟩
          obtain ⟨A5, c5, rfl⟩ := own_any o5
          have f5 := f4.only on5 (fun k hk => .inr hk)
          have o45 := own_only o4 on5 (fun k hk e => own_ne o4 r4 (by decide) (e ▸ hk))
          have b5 := Only.belowOf B4.out on5 (Nat.le_refl _) (fun k hk => hk ▸ hg2)
          have hol := feed_len m inn s.data.toList
          have hil := rest_tot m inn s.data.toList
          have hkp2 := kept_feed m inn s.data.toList
          rw [str_len] at hol hil
          obtain ⟨outs, houts⟩ : ∃ outs, (feedS m inn s.data.toList).1 = outs := ⟨_, rfl⟩
          obtain ⟨inn2, hinn2⟩ : ∃ inn2, (feedS m inn s.data.toList).2 = inn2 := ⟨_, rfl⟩
          rw [houts] at o45 o5 hol
          rw [hinn2] at f5 r5 hil hkp2
          simp only [houts]
          have F5 := Lib.hid f5; have R5 := Lib.hid r5; have O45 := Lib.hid o45; have O5 := Lib.hid o5; have B5 := Lib.hid b5; have HKP2 := Lib.hid hkp2; have HIL := Lib.hid hil; have HOL := Lib.hid hol
          clear f5 r5 o45 o5 b5 on5 f4 r4 o4 houts hinn2 hkp2 hil hol
          try dsimp only
          refine hK.out _ _ ?_ (fun hHeld => ?_)
          · exact ((B5.out.cell (p := ⟨b, o + k, none⟩) hb0).trans HC.out)
          clear hK K
          try simp only [Act.put, List.setIfInBounds_toArray, List.set_cons_zero, List.set_cons_succ]
          clear hHeld
          refine wpAnyH_more (S' := fun w' : World => w'.cell? ⟨b, o + k, none⟩ = some (.string s) ∧ w'.cell? ⟨g2, 0, none⟩ = some (.string ⟨inn2.toArray⟩)) (fun _ h => h.1) ?_
          have r50 := R5.out.cell 0
          simp only [List.getElem?_toArray, List.getElem?_cons_zero] at r50
          refine wpAnyH_ready (rs := [12]) (by kernel_rfl) (by simp) ?_
          refine AllReadyH.cons (o := { dst := some 66, op := Op.call { callee := Callee.value (Operand.func 13), args := #[Operand.tmp 59, Operand.tmp 65], argTypes := #[34, 34] }, type := 4, pos := "law.go:53", after := #[{ on := 5, ground := Ground.data }, { on := 11, ground := Ground.data }, { on := 11, ground := Ground.chain }], guard := none }) rfl (fun K hK => ?_) AllReadyH.nil
          go_simp
          refine (same_any A4 A5 c4 c5 outs w5 (own_rdn O45.out) (own_rdn O5.out) (by have := HOL.out; omega)).mono ?_
          rintro e w6 ⟨rfl, b6⟩
          have F6 := Lib.hid (F5.out.below b6); have R6 := Lib.hid (R5.out.below b6 R5.out.lt); have B6 := Lib.hid (B5.out.trans (b6.mono B5.out.size))
          clear b6
          try dsimp only
          refine hK.out _ _ ?_ (fun hHeld => ?_)
          · exact ⟨((B6.out.cell (p := ⟨b, o + k, none⟩) hb0).trans HC.out), R6.out.cell 0⟩
          clear hK K
          try simp only [Act.put, List.setIfInBounds_toArray, List.set_cons_zero, List.set_cons_succ]
          refine wpAnyH_take (i := 13) (oi := { dst := some 67, op := Op.unOp UnOp.not 4 (Operand.tmp 66), type := 4, pos := "law.go:53", after := #[{ on := 12, ground := Ground.data }], guard := none }) (v := ?_) rfl (by kernel_rfl) (by kernel_rfl) (by kernel_rfl) (fun _ _ _ h => h) (Or.inl ⟨by rfl, ?_⟩) (by assumption) ?_
          rotate_left
          · intro wS hSw; (try dsimp only at hSw); go_simp; (try with_reducible rfl)
          try simp only [Act.put, List.setIfInBounds_toArray, List.set_cons_zero, List.set_cons_succ]
          refine wpAnyH_take (i := 14) (oi := { dst := some 68, op := Op.move (Operand.tmp 67), type := 4, pos := "law.go:53", after := #[{ on := 13, ground := Ground.data }, { on := 12, ground := Ground.chain }], guard := none }) (v := ?_) rfl (by kernel_rfl) (by kernel_rfl) (by kernel_rfl) (fun _ _ _ h => h) (Or.inl ⟨by rfl, ?_⟩) (by assumption) ?_
          rotate_left
          · intro wS hSw; (try dsimp only at hSw); go_simp; (try with_reducible rfl)
          try simp only [Act.put, List.setIfInBounds_toArray, List.set_cons_zero, List.set_cons_succ]
          refine wpAnyH_take (i := 15) (oi := { dst := some 69, op := Op.move (Operand.tmp 9), type := 26, pos := "law.go:53", after := #[{ on := 14, ground := Ground.guard }], guard := some (14, false) }) (v := ?_) rfl (by kernel_rfl) (by kernel_rfl) (by kernel_rfl) (fun _ _ _ h => h) (Or.inl ⟨by rfl, ?_⟩) (by assumption) ?_
          rotate_left
          · intro wS hSw; (try dsimp only at hSw); go_simp; (try with_reducible rfl)
          try simp only [Act.put, List.setIfInBounds_toArray, List.set_cons_zero, List.set_cons_succ]
          refine wpAnyH_take (i := 17) (oi := { dst := some 71, op := Op.move (Operand.tmp 10), type := 28, pos := "law.go:53", after := #[{ on := 14, ground := Ground.guard }], guard := some (14, false) }) (v := ?_) rfl (by kernel_rfl) (by kernel_rfl) (by kernel_rfl) (fun _ _ _ h => h) (Or.inl ⟨by rfl, ?_⟩) (by assumption) ?_
          rotate_left
          · intro wS hSw; (try dsimp only at hSw); go_simp; (try with_reducible rfl)
          try simp only [Act.put, List.setIfInBounds_toArray, List.set_cons_zero, List.set_cons_succ]
          refine wpAnyH_take (i := 18) (oi := { dst := some 72, op := Op.nilCheck (Operand.tmp 71), type := 0, pos := "law.go:53", after := #[{ on := 17, ground := Ground.data }, { on := 14, ground := Ground.guard }], guard := some (14, false) }) (v := ?_) rfl (by kernel_rfl) (by kernel_rfl) (by kernel_rfl) (fun _ _ _ h => h) (Or.inl ⟨by rfl, ?_⟩) (by assumption) ?_
          rotate_left
          · intro wS hSw; (try dsimp only at hSw); go_simp; (try with_reducible rfl)
          try simp only [Act.put, List.setIfInBounds_toArray, List.set_cons_zero, List.set_cons_succ]
          refine wpAnyH_take (i := 19) (oi := { dst := some 73, op := Op.fieldAddr 32 (Operand.tmp 72) 0, type := 0, pos := "law.go:53", after := #[{ on := 18, ground := Ground.data }, { on := 14, ground := Ground.guard }], guard := some (14, false) }) (v := ?_) rfl (by kernel_rfl) (by kernel_rfl) (by kernel_rfl) (fun _ _ _ h => h) (Or.inl ⟨by rfl, ?_⟩) (by assumption) ?_
          rotate_left
          · intro wS hSw; (try dsimp only at hSw); go_simp; (try with_reducible rfl)
          try simp only [Act.put, List.setIfInBounds_toArray, List.set_cons_zero, List.set_cons_succ]
          refine wpAnyH_take (i := 20) (oi := { dst := some 74, op := Op.load 9 (Operand.tmp 73), type := 9, pos := "law.go:53", after := #[{ on := 19, ground := Ground.data }, { on := 14, ground := Ground.guard }], guard := some (14, false) }) (v := ?_) rfl (by kernel_rfl) (by kernel_rfl) (by kernel_rfl) (fun _ _ _ h => h) (Or.inl ⟨by rfl, ?_⟩) (by assumption) ?_
          rotate_left
          · intro wS hSw; (try dsimp only at hSw); go_simp; (try with_reducible rfl)
          try simp only [Act.put, List.setIfInBounds_toArray, List.set_cons_zero, List.set_cons_succ]
          refine wpAnyH_take (i := 21) (oi := { dst := some 75, op := Op.call { callee := Callee.builtin Builtin.len, args := #[Operand.tmp 74], argTypes := #[9] }, type := 3, pos := "law.go:53", after := #[{ on := 20, ground := Ground.data }, { on := 14, ground := Ground.guard }], guard := some (14, false) }) (v := ?_) rfl (by kernel_rfl) (by kernel_rfl) (by kernel_rfl) (fun _ _ _ h => h) (Or.inl ⟨by rfl, ?_⟩) (by assumption) ?_
          rotate_left
          · intro wS hSw; (try dsimp only at hSw); go_simp; (try with_reducible rfl)
          try simp only [Act.put, List.setIfInBounds_toArray, List.set_cons_zero, List.set_cons_succ]
          refine wpAnyH_ready (rs := [16]) (by kernel_rfl) (by simp) ?_
          refine AllReadyH.cons (o := { dst := some 70, op := Op.call { callee := Callee.value (Operand.func 16), args := #[Operand.tmp 69], argTypes := #[26] }, type := 3, pos := "law.go:53", after := #[{ on := 15, ground := Ground.data }, { on := 14, ground := Ground.chain }, { on := 14, ground := Ground.guard }], guard := some (14, false) }) rfl (fun K hK => ?_) AllReadyH.nil
          go_simp
          refine (rest_any F6.out).mono ?_
          rintro e w' ⟨rfl, rfl⟩
          try dsimp only
          refine hK.out _ _ ?_ (fun hHeld => ?_)
          · exact ⟨((B6.out.cell (p := ⟨b, o + k, none⟩) hb0).trans HC.out), R6.out.cell 0⟩
          clear hK K
          try simp only [Act.put, List.setIfInBounds_toArray, List.set_cons_zero, List.set_cons_succ]
          refine wpAnyH_take (i := 22) (oi := { dst := some 76, op := Op.binOp BinOp.neq 3 (Operand.tmp 70) (Operand.tmp 75) 3, type := 4, pos := "law.go:53", after := #[{ on := 16, ground := Ground.data }, { on := 21, ground := Ground.data }, { on := 14, ground := Ground.guard }], guard := some (14, false) }) (v := ?_) rfl (by kernel_rfl) (by kernel_rfl) (by kernel_rfl) (fun _ _ _ h => h) (Or.inl ⟨by rfl, ?_⟩) (by assumption) ?_
          rotate_left
          · intro wS hSw; (try dsimp only at hSw); go_simp; (try with_reducible rfl)
          try simp only [Act.put, List.setIfInBounds_toArray, List.set_cons_zero, List.set_cons_succ]
          refine wpAnyH_take (i := 23) (oi := { dst := some 77, op := Op.pick (Operand.tmp 68) (Operand.const (Value.bool true)) (Operand.tmp 76), type := 4, pos := "law.go:53", after := #[{ on := 14, ground := Ground.data }, { on := 22, ground := Ground.data }], guard := none }) (v := ?_) rfl (by kernel_rfl) (by kernel_rfl) (by kernel_rfl) (fun _ _ _ h => h) (Or.inl ⟨by rfl, ?_⟩) (by assumption) ?_
          rotate_left
          · intro wS hSw; (try dsimp only at hSw); go_simp; (try with_reducible rfl)
          try simp only [Act.put, List.setIfInBounds_toArray, List.set_cons_zero, List.set_cons_succ]
          refine wpAnyH_done (by kernel_rfl) ?_ _
          clear r50
          go_wp2_with fail
          exact ⟨⟨k + 1, inn2, m, by omega, by go_num, F6.out, R6.out, HKP2.out, by rw [HTT.out]; have := HIL.out; omega, B6.out⟩, by simp [intOf]; omega⟩
      · obtain rfl : k = l.length := by omega
        go_wp2_with fail
        refine (reset_any HF.out).mono ?_
        rintro e w7 ⟨rfl, f7, k7⟩
        have b7 := keep_to_below HB.out k7 (Nat.le_refl _) (fun k hk => .inl hk)
        have F7 := Lib.hid f7; have B7 := Lib.hid b7
        clear f7 k7 b7
        go_wp2_with fail
        refine (rest_any F7.out).mono ?_
        rintro e w' ⟨rfl, rfl⟩
        go_wp2_with fail
        refine (feed_any F7.out kept_nil ⟨#[]⟩ (by decide)).mono ?_
        rintro e w8 ⟨v8, rfl, o8, f8, k8⟩
        have e8 : feedS m [] (⟨#[]⟩ : ByteArray).data.toList = ([], []) := by simp [feedS, split]
        rw [e8] at o8
        obtain ⟨A8, c8, rfl⟩ := own_any o8
        have B8 := Lib.hid (keep_to_below B7.out k8 (Nat.le_refl _) (fun k hk => .inl hk))
        simp only [List.length_nil]
        clear o8 f8 k8 e8
        go_wp2_with fail
        go_ret
        exact ⟨rfl, B8.out⟩
end Go.Proofs.Ytjlpmfokekflbaa
