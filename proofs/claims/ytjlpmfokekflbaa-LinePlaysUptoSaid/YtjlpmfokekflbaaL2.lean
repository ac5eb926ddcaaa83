/- The law LinePieces, walked. -/
import Derived.Test.YtjlpmfokekflbaaU
import Derived.Test.YtjlpmfokekflbaaQ
namespace Go.Proofs.Ytjlpmfokekflbaa
open Go.RowKit
set_option linter.unusedVariables false
set_option linter.unusedSimpArgs false

theorem take_seg (t : List UInt8) (f a : Nat) (h : f ≤ a) : t.take f ++ seg t f a = t.take a := by
  unfold seg
  have : t.take f = (t.take a).take f := by rw [List.take_take, Nat.min_eq_left h]
  rw [this, List.take_append_drop]
theorem int_at {w : World} {B : Nat} {A : Option Addr} {zs : List Int} (h : Rd w B A (zs.map (.int .i64))) {k : Nat} (hk : k < zs.length) :
    ∃ b o, A = some ⟨b, o, none⟩ ∧ b < B ∧ w.cell? ⟨b, o + k, none⟩ = some (.int .i64 zs[k]) := by
  obtain ⟨b, o, e, hb, hc⟩ := Rd.at_ h (k := k) (by simpa using hk)
  exact ⟨b, o, e, hb, by simpa using hc⟩
theorem app_frs {ops : Array Oper} {rest : List Oper} {o : Oper} {a : Act} {w : World} {Q : Exit → Act → World → Prop} (s x : Operand) (hgd : o.guard = none) (ho : o.op = .call { callee := .builtin .append, args := #[s, x], argTypes := #[34, 34] })
    (base B : Nat) (v : Value) (l : List Fr) (hs : a.eval s = v) (hown : w.ownsRow base 42 3 v l.length (l.flatMap Fr.cells)) (A : Option Addr) (c : Nat) (l' : List Fr) (hx : a.eval x = .slice A l'.length c) (hr : Rd w B A (l'.flatMap Fr.cells)) (hn : l.length + l'.length ≤ 4000000) (hbase : base ≤ w.heap.size)
    (h : ∀ v' w', w'.ownsRow base 42 3 v' (l ++ l').length ((l ++ l').flatMap Fr.cells) → w.grownBy w' v.ownBlock → (v'.ownBlock = v.ownBlock ∨ v'.ownBlock = some w.heap.size) → wpList Try.prog ops Q rest (a.put o.dst v') w') : wpList Try.prog ops Q (o :: rest) a w := by
  obtain ⟨j0, hj, hj0, hj1, hj2⟩ := info_parts info42
  exact wpList_app hgd s x 34 ho 42 j0 zeroFr 3 24 Try.underlying34 hj hj0 hj1 hj2 rfl (by decide) w base B v l.length _ hs hown A l'.length c _ hx hr (flat_len Fr.len l') (fr_one l') (by unfold maxLen; omega) (by omega) hbase (fun v' w' h2 h3 h4 => h v' w' (by rw [List.length_append, List.flatMap_append]; exact h2) h3 h4)
theorem feed_len (most : Int) (inn b : List UInt8) : (feedS most inn b).1.length ≤ inn.length + b.length := by
  unfold feedS
  rw [List.length_map, ← List.length_append]
  generalize inn ++ b = t
  induction t using split.induct with
  | case1 => simp [split]
  | case2 c => simp [split]
  | case3 x y r hc ih => rw [split, if_pos hc]; simp; omega
  | case4 x y r hc ih =>
    rw [split, if_neg hc]
    rcases hx : split (y :: r) with ⟨ls, t⟩
    rw [hx] at ih
    cases ls <;> simp [pre] at ih ⊢ <;> omega
theorem rest_len (most : Int) (inn b : List UInt8) : (feedS most inn b).2.length ≤ inn.length + b.length := by
  unfold feedS
  rw [← List.length_append]
  show (split (inn ++ b)).2.length ≤ _
  generalize inn ++ b = t
  induction t using split.induct with
  | case1 => simp [split]
  | case2 c => simp [split]
  | case3 x y r hc ih => rw [split, if_pos hc]; simp; omega
  | case4 x y r hc ih =>
    rw [split, if_neg hc]
    rcases hx : split (y :: r) with ⟨ls, t⟩
    rw [hx] at ih
    cases ls <;> simp [pre] at ih ⊢ <;> omega

set_option maxRecDepth 100000 in
set_option maxHeartbeats 8000000 in
theorem pieces_walk (most : Int) (s : ByteArray) (A : Option Addr) (c : Nat) (zs : List Int) (w : World) (hs : s.size ≤ maxLen) (hl : Rd w w.heap.size A (zs.map (.int .i64))) (hn : zs.length ≤ 9223372036854775807) :
    Calls Try.prog 5 #[.int .i64 most, .string s, .slice A zs.length c] w fun e w' => e = .returned (.bool true) ∧ Below w.heap.size w w' := by
  have Hl := Lib.hid hl
  clear hl
  go_enter Try.func5, Try.ntmps5
  go_wp2_with fail
  refine (small_any w).mono ?_
  rintro e w1 ⟨rfl, b1⟩
  go_wp2_with fail
  refine (new_any most w1).mono ?_
  rintro e w2 ⟨rfl, f2, b2⟩
  go_wp2_with fail
  refine (new_any most w2).mono ?_
  rintro e w3 ⟨rfl, f3, b3⟩
  obtain ⟨m, hm⟩ : ∃ m, max 0 most = m := ⟨_, rfl⟩
  rw [hm] at f2 f3
  have t3 := f2_new f2 f3 b3
  have bw3 := (b1.trans (b2.mono b1.size)).trans (b3.mono (Nat.le_trans b1.size b2.size))
  have TT3 := Lib.hid (t3.less (P' := fun k => k < w.heap.size) (fun k hk => Nat.lt_of_lt_of_le hk b1.size)); have BW3 := Lib.hid bw3
  obtain ⟨g1, hg1⟩ : ∃ g1, w1.heap.size = g1 := ⟨_, rfl⟩
  obtain ⟨g2, hg2⟩ : ∃ g2, w2.heap.size = g2 := ⟨_, rfl⟩
  rw [hg1, hg2] at TT3
  rw [hg1, hg2]
  clear f2 f3 t3 bw3 b1 b2 b3 hm hg1 hg2
  by_cases h1 : 2000 < s.size
  · have d1 : decide ((2000 : Int) < (s.size : Int)) = true := decide_eq_true (by omega)
    go_wp2_with fail
    go_ret
    exact ⟨rfl, BW3.out⟩
  have d1 : decide ((2000 : Int) < (s.size : Int)) = false := decide_eq_false (by omega)
  by_cases h2 : 100 < zs.length
  · have d2 : decide ((100 : Int) < (zs.length : Int)) = true := decide_eq_true (by omega)
    go_wp2_with fail
    go_ret
    exact ⟨rfl, BW3.out⟩
  have d2 : decide ((100 : Int) < (zs.length : Int)) = false := decide_eq_false (by omega)
  have hSL := str_len s
  have hs2 : s.size ≤ 2000 := by omega
  have hz2 : zs.length ≤ 100 := by omega
  clear h1 h2 hn hs
  go_wp2_with fail
  obtain ⟨P1, q1, p1, back1⟩ := TT3.out.one
  refine (feed_any q1 kept_nil s (by simp; omega)).mono ?_
  rintro e w4 ⟨v4, rfl, o4, f4, k4⟩
  have t4 := back1 _ _ _ f4 k4
  have bw4 := keep_to_below BW3.out k4 (Nat.le_refl _) (fun k hk => p1 k hk)
  have t4' := t4.add o4
  obtain ⟨A4, c4, rfl⟩ := own_any o4
  have hfl := feed_len m [] s.data.toList
  rw [hSL] at hfl
  obtain ⟨outs, houts⟩ : ∃ outs, (feedS m [] s.data.toList).1 = outs := ⟨_, rfl⟩
  obtain ⟨rst, hrst⟩ : ∃ rst, (feedS m [] s.data.toList).2 = rst := ⟨_, rfl⟩
  have hfe : feedS m [] s.data.toList = (outs, rst) := by rw [← houts, ← hrst]
  rw [houts] at o4 hfl
  rw [hrst] at t4'
  rw [houts] at t4'
  rw [houts]
  have T4 := Lib.hid t4'; have O4 := Lib.hid o4; have BW4 := Lib.hid bw4; have HFE := Lib.hid hfe
  clear t4 t4' o4 bw4 f4 k4 q1 p1 back1 houts hrst hfe
  go_wp2_with fail
  go_loopw [11, 12, 13] (fun o at' i wx => ∃ (k a : Nat) (outs2 : List Fr) (inn2 : List UInt8) (v11 : Value), k ≤ zs.length ∧ o = v11 ∧ at' = .int .i64 (a : Int) ∧ i = .int .i64 (k : Int) ∧ a ≤ s.size ∧ feedS m [] (s.data.toList.take a) = (outs2, inn2) ∧
      F2 wx (fun k => k < w.heap.size ∨ (Value.slice A4 outs.length c4).ownBlock = some k) g1 g2 rst m inn2 m ∧ wx.ownsRow w.heap.size 42 3 (.slice A4 outs.length c4) outs.length (outs.flatMap Fr.cells) ∧
      wx.ownsRow w4.heap.size 42 3 v11 outs2.length (outs2.flatMap Fr.cells) ∧ w4.heap.size ≤ wx.heap.size ∧ Below w.heap.size w wx) (fun _ _ i _ => zs.length - (intOf i).toNat)
  case atStart =>
    exact ⟨0, 0, [], [], _, Nat.zero_le _, rfl, rfl, rfl, Nat.zero_le _, rfl, T4.out, own_base O4.out BW3.out.size, World.ownsRow_nil _ _ _ _, Nat.le_refl _, BW4.out⟩
  case round =>
    obtain ⟨k, a, outs2, inn2, v11, hk, rfl, rfl, rfl, ha, hfd, ht, ho, ho2, hwz, hb⟩ := hrel
    have HFD := Lib.hid hfd; have HT := Lib.hid ht; have HO := Lib.hid ho; have HO2 := Lib.hid ho2; have HB := Lib.hid hb
    have hkp : Kept inn2 := by have := kept_feed m [] (s.data.toList.take a); rwa [hfd] at this
    have hil := rest_len m [] (s.data.toList.take a)
    have hol := feed_len m [] (s.data.toList.take a)
    rw [hfd] at hil hol
    simp only [List.length_nil, List.length_take, Nat.zero_add] at hil hol
    have hil2 : inn2.length ≤ 2000 := by omega
    have hol2 : outs2.length ≤ 2000 := by omega
    have HKP := Lib.hid hkp
    have hz3 : (a : Int) ≤ s.size := by omega
    have hab : ∀ k, u11.ownBlock = some k → (Value.slice A4 outs.length c4).ownBlock = some k → False := fun k h1 h2 => by
      have := (HO2.out.lt k h1).1
      have := (O4.out.lt k h2).2
      omega
    have HAB := Lib.hid hab
    clear hfd ht ho ho2 hb hkp hil hol hab
    by_cases hlt : k < zs.length
    · have hz : (k : Int) < zs.length := by omega
      obtain ⟨b, o, rfl, hb0, hc⟩ := int_at Hl.out hlt
      have hc' := (HB.out.cell (p := ⟨b, o + k, none⟩) hb0).trans hc
      generalize zs[k] = z at *
      have HC := Lib.hid hc
      clear hc
      by_cases y1 : (a : Int) < z
      · have d3 : decide ((a : Int) < z) = true := decide_eq_true y1
        by_cases y2 : z ≤ (s.size : Int)
        · have d4 : decide (z ≤ (s.size : Int)) = true := decide_eq_true y2
          obtain ⟨e, rfl⟩ := Int.eq_ofNat_of_zero_le (show 0 ≤ z by omega)
          have y3 : a ≤ e := by omega
          have y5 : a < e := by omega
          have y4 : e ≤ s.size := by omega
          have hsl := fun W => slice_str s a e y3 y4 W
          have hex : (s.extract a e).data.toList = seg s.data.toList a e := ext_list s a e y4
          have hez : (s.extract a e).size ≤ 2000 := by rw [Lib.size_eq, hex, seg_len (by omega)]; omega
          have HEX := Lib.hid hex
          clear hex y1 y2
          go_wp2_with fail
          obtain ⟨P2, q2, p2, back2⟩ := (HT.out.add HO2.out).swap.one
          refine (feed_any q2 HKP.out (s.extract a e) (by omega)).mono ?_
          rintro e' w5 ⟨v5, rfl, o5, f5, k5⟩
          have t5 := (back2 _ _ _ f5 k5).swap
          have ho5 := own_only HO.out k5 (fun k hk hn => hn (p2 k (.inl (.inr hk))))
          have ho25 := own_only HO2.out k5 (fun k hk hn => hn (p2 k (.inr hk)))
          have b5 := keep_to_below HB.out k5 (Nat.le_refl _) (fun k hk => p2 k (.inl (.inl hk)))
          have hfl5 := feed_len m inn2 (s.extract a e).data.toList
          rw [str_len] at hfl5
          rw [HEX.out] at o5 t5 hfl5
          obtain ⟨l5, hl5⟩ : ∃ l5, (feedS m inn2 (seg s.data.toList a e)).1 = l5 := ⟨_, rfl⟩
          obtain ⟨i5, hi5⟩ : ∃ i5, (feedS m inn2 (seg s.data.toList a e)).2 = i5 := ⟨_, rfl⟩
          rw [hl5] at o5 hfl5
          rw [hi5] at t5
          have hfa : feedS m [] (s.data.toList.take e) = (outs2 ++ l5, i5) := by
            have := feed_app m [] (s.data.toList.take a) (seg s.data.toList a e) kept_nil
            rw [take_seg _ _ _ y3, HFD.out] at this
            rw [this, hl5, hi5]
          obtain ⟨A5, c5, rfl⟩ := own_any o5
          have hw45 : w4.heap.size ≤ w5.heap.size := Nat.le_trans hwz k5.size
          have T5 := Lib.hid t5; have O5 := Lib.hid o5; have HO5 := Lib.hid ho5; have HO25 := Lib.hid ho25; have B5 := Lib.hid b5; have HFA := Lib.hid hfa
          have hb4 : outs2.length + l5.length ≤ 4000000 := by omega
          clear t5 o5 ho5 ho25 b5 hfa f5 k5 q2 p2 back2 hl5 hi5
          go_wp2_with (at_builtin; refine app_frs (.tmp 68) (.tmp 77) rfl rfl w4.heap.size w5.heap.size u11 outs2 rfl HO25.out A5 c5 l5 rfl (own_rdn O5.out) hb4 hw45 ?_; intro v6 w6 o6 hg6 hat; have b6 : Below w.heap.size w w6 := B5.out.grown hg6 B5.out.size (fun k hk => Nat.le_trans BW4.out.size (HO25.out.lt k hk).1); have hc6 := (b6.cell (p := ⟨b, o + k, none⟩) hb0).trans HC.out)
          have on6 : Only w5 w6 (fun k => u11.ownBlock = some k) := (Only.refl w5 _).grown hg6 (fun k hk _ => hk)
          have t6 := (T5.out.grow on6 (fun k hk => .inr hk)).less (P' := fun k => k < w.heap.size ∨ (Value.slice A4 outs.length c4).ownBlock = some k) (fun k hk => .inl (.inl hk))
          have ho6 := own_only HO5.out on6 (fun k hk hS => HAB.out k hS hk)
          exact ⟨⟨k + 1, e, outs2 ++ l5, i5, v6, by omega, rfl, rfl, by go_num, y4, HFA.out, t6, ho6, o6, Nat.le_trans hw45 hg6.size, b6⟩, by simp [intOf]; omega⟩
        · have d4 : decide (z ≤ (s.size : Int)) = false := decide_eq_false y2
          clear y1 y2
          go_wp2_with fail
          exact ⟨⟨k + 1, a, outs2, inn2, _, by omega, rfl, rfl, by go_num, ha, HFD.out, HT.out, HO.out, HO2.out, hwz, HB.out⟩, by simp [intOf]; omega⟩
      · have d3 : decide ((a : Int) < z) = false := decide_eq_false y1
        clear y1
        go_wp2_with fail
        exact ⟨⟨k + 1, a, outs2, inn2, _, by omega, rfl, rfl, by go_num, ha, HFD.out, HT.out, HO.out, HO2.out, hwz, HB.out⟩, by simp [intOf]; omega⟩
    · obtain rfl : k = zs.length := by omega
      have hex : (s.extract a s.size).data.toList = seg s.data.toList a s.size := ext_list s a s.size (Nat.le_refl _)
      have hez : (s.extract a s.size).size ≤ 2000 := by rw [Lib.size_eq, hex, seg_len (by omega)]; omega
      have HEX := Lib.hid hex
      clear hex
      go_wp2_with fail
      obtain ⟨P2, q2, p2, back2⟩ := (HT.out.add HO2.out).swap.one
      refine (feed_any q2 HKP.out (s.extract a s.size) (by omega)).mono ?_
      rintro e' w5 ⟨v5, rfl, o5, f5, k5⟩
      have t5 := (back2 _ _ _ f5 k5).swap
      have ho5 := own_only HO.out k5 (fun k hk hn => hn (p2 k (.inl (.inr hk))))
      have ho25 := own_only HO2.out k5 (fun k hk hn => hn (p2 k (.inr hk)))
      have b5 := keep_to_below HB.out k5 (Nat.le_refl _) (fun k hk => p2 k (.inl (.inl hk)))
      have hfl5 := feed_len m inn2 (s.extract a s.size).data.toList
      rw [str_len] at hfl5
      rw [HEX.out] at o5 t5 hfl5
      obtain ⟨l5, hl5⟩ : ∃ l5, (feedS m inn2 (seg s.data.toList a s.size)).1 = l5 := ⟨_, rfl⟩
      obtain ⟨i5, hi5⟩ : ∃ i5, (feedS m inn2 (seg s.data.toList a s.size)).2 = i5 := ⟨_, rfl⟩
      rw [hl5] at o5 hfl5
      rw [hi5] at t5
      have hfa : feedS m [] s.data.toList = (outs2 ++ l5, i5) := by
        have := feed_app m [] (s.data.toList.take a) (seg s.data.toList a s.size) kept_nil
        rw [take_seg _ _ _ ha, HFD.out, ← hSL, List.take_length] at this
        rw [this, ← hl5, ← hi5, hSL]
      rw [HFE.out] at hfa
      simp only [Prod.mk.injEq] at hfa
      obtain ⟨hfa1, hfa2⟩ := hfa
      subst hfa2
      obtain ⟨A5, c5, rfl⟩ := own_any o5
      have hw45 : w4.heap.size ≤ w5.heap.size := Nat.le_trans hwz k5.size
      have T5 := Lib.hid t5; have O5 := Lib.hid o5; have HO5 := Lib.hid ho5; have HO25 := Lib.hid ho25; have B5 := Lib.hid b5; have HFA := Lib.hid hfa1
      have hb4 : outs2.length + l5.length ≤ 4000000 := by omega
      clear t5 o5 ho5 ho25 b5 hfa1 f5 k5 q2 p2 back2 hl5 hi5
      go_wp2_with (at_builtin; refine app_frs (.tmp 83) (.tmp 88) rfl rfl w4.heap.size w5.heap.size u11 outs2 rfl HO25.out A5 c5 l5 rfl (own_rdn O5.out) hb4 hw45 ?_; intro v6 w6 o6 hg6 hat; rw [← HFA.out] at o6; obtain ⟨A6, c6, rfl⟩ := own_any o6)
      have on6 : Only w5 w6 (fun k => u11.ownBlock = some k) := (Only.refl w5 _).grown hg6 (fun k hk _ => hk)
      have t6 := (T5.out.grow on6 (fun k hk => .inr hk)).less (P' := fun k => k < w.heap.size ∨ (Value.slice A4 outs.length c4).ownBlock = some k) (fun k hk => .inl (.inl hk))
      have ho6 := own_only HO5.out on6 (fun k hk hS => HAB.out k hS hk)
      have b6 : Below w.heap.size w w6 := B5.out.grown hg6 B5.out.size (fun k hk => Nat.le_trans BW4.out.size (HO25.out.lt k hk).1)
      have T6 := Lib.hid t6; have B6 := Lib.hid b6
      refine (same_any A4 A6 c4 c6 outs w6 (own_rdn ho6) (own_rdn o6) (by simp at hfl; omega)).mono ?_
      rintro e w7 ⟨rfl, b7⟩
      have T7 := Lib.hid (T6.out.below b7); have B7 := Lib.hid (B6.out.trans (b7.mono B6.out.size))
      clear on6 t6 ho6 b6 o6 b7 hg6 hat T6 B6
      go_wp2_with fail
      obtain ⟨P3, q3, _, _⟩ := T7.out.one
      refine (rest_any q3).mono ?_
      rintro e w' ⟨rfl, rfl⟩
      clear q3
      go_wp2_with fail
      obtain ⟨P4, q4, _, _⟩ := T7.out.swap.one
      refine (rest_any q4).mono ?_
      rintro e w' ⟨rfl, rfl⟩
      clear q4
      go_wp2_with fail
      go_ret
      exact ⟨rfl, B7.out⟩
end Go.Proofs.Ytjlpmfokekflbaa
