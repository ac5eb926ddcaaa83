/- The law LineLong, walked. -/
import Derived.Test.YtjlpmfokekflbaaT
import Derived.Test.YtjlpmfokekflbaaI
namespace Go.Proofs.Ytjlpmfokekflbaa
open Go.RowKit
set_option linter.unusedVariables false
set_option linter.unusedSimpArgs false

theorem bare_zero (n : Nat) : bareL (List.replicate n 0) = false := by
  unfold bareL
  rw [List.any_eq_false]
  intro x hx
  rw [List.eq_of_mem_replicate hx]
  decide
theorem feed_two {most : Int} {x s : List UInt8} (hx : bareL x = false) (hs : bareL s = false) : feedS most [] (x ++ 13 :: 10 :: (s ++ [13, 10])) = ([oneF most x, oneF most s], []) := by
  unfold feedS
  rw [List.nil_append, split_line _ hx, split_line _ hs]
  rfl

theorem one_short {most : Int} {l : List UInt8} (h : ¬ most < (l.length : Int)) (hb : bareL l = false) : oneF most l = ⟨l, false, false⟩ := by
  unfold oneF
  rw [decide_eq_false h, hb]
  rfl
theorem one_long {most : Int} {l : List UInt8} (h : most < (l.length : Int)) (hb : bareL l = false) : oneF most l = ⟨[], true, false⟩ := by
  unfold oneF
  rw [decide_eq_true h, hb]
  rfl
theorem made_zero (n : Nat) : (madeCells (Value.int .u8 0).cells (n * 1)).toList = Lib.byteCells (List.replicate n 0) := by
  unfold madeCells Lib.byteCells
  rw [Nat.mul_one, List.map_replicate]
  apply List.ext_getElem
  · simp
  · intro i h1 h2
    simp [Value.cells, Nat.mod_one]
set_option maxRecDepth 100000 in
set_option maxHeartbeats 4000000 in
theorem long_walk (most n : Int) (s : ByteArray) (w : World) (b0 : -9223372036854775808 ≤ most ∧ most ≤ 9223372036854775807) (b1 : -9223372036854775808 ≤ n ∧ n ≤ 9223372036854775807) (hs : s.size ≤ maxLen) :
    Calls Try.prog 7 #[.int .i64 most, .int .i64 n, .string s] w fun e w' => e = .returned (.bool true) ∧ Below w.heap.size w w' := by
  go_enter Try.func7, Try.ntmps7
  go_wp2_with fail
  refine (small_any w).mono ?_
  rintro e w1 ⟨rfl, bw1⟩
  by_cases h1 : most < 0
  · have d1 : decide (most < 0) = true := decide_eq_true h1
    go_wp2_with fail
    go_ret
    exact ⟨rfl, bw1⟩
  have d1 : decide (most < 0) = false := decide_eq_false h1
  by_cases h2 : 1500 < most
  · have d2 : decide (1500 < most) = true := decide_eq_true h2
    go_wp2_with fail
    go_ret
    exact ⟨rfl, bw1⟩
  have d2 : decide (1500 < most) = false := decide_eq_false h2
  by_cases h3 : n < 0
  · have d3 : decide (n < 0) = true := decide_eq_true h3
    go_wp2_with fail
    go_ret
    exact ⟨rfl, bw1⟩
  have d3 : decide (n < 0) = false := decide_eq_false h3
  by_cases h4 : 1600 < n
  · have d4 : decide (1600 < n) = true := decide_eq_true h4
    go_wp2_with fail
    go_ret
    exact ⟨rfl, bw1⟩
  have d4 : decide (1600 < n) = false := decide_eq_false h4
  by_cases h5 : most < (s.size : Int)
  · have d5 : decide (most < (s.size : Int)) = true := decide_eq_true h5
    go_wp2_with fail
    go_ret
    exact ⟨rfl, bw1⟩
  have d5 : decide (most < (s.size : Int)) = false := decide_eq_false h5
  have hsz : s.size ≤ 1500 := by omega
  have h3' : 0 ≤ n := by omega
  obtain ⟨n0, rfl⟩ := Int.eq_ofNat_of_zero_le h3'
  have hn0 : n0 ≤ 1600 := by omega
  have hSL := str_len s
  go_wp2_with fail
  go_loopw [8] (fun i wx => ∃ k : Nat, k ≤ s.size ∧ i = .int .i64 (k : Int) ∧ bareL (s.data.toList.take k) = false ∧ wx = w1) (fun i _ => s.size - (intOf i).toNat)
  case atStart => exact ⟨0, Nat.zero_le _, rfl, rfl, rfl⟩
  case round =>
    obtain ⟨k, hk, rfl, hbk, rfl⟩ := hrel
    have HBK := Lib.hid hbk
    clear hbk
    by_cases hlt : k < s.size
    · have hz : (k : Int) < s.size := by omega
      have hw1 : wrap64 ((k : Int) + 1) = (k : Int) + 1 := by unfold wrap64; omega
      have hn := bare_next (l := s.data.toList) (k := k) (by omega)
      rw [data_at s k hlt, HBK.out] at hn
      by_cases g1 : s[k]'hlt = 13
      · have e1 : (((s[k]'hlt).toNat : Int) == 13) = true := by rw [g1]; rfl
        clear g1 hn
        go_wp2_with fail
        go_ret
        exact ⟨rfl, bw1⟩
      · have e1 : (((s[k]'hlt).toNat : Int) == 13) = false := beq_eq_false_iff_ne.2 (fun e => g1 (UInt8.toNat_inj.1 (by have : (13 : UInt8).toNat = 13 := rfl; omega)))
        by_cases g2 : s[k]'hlt = 10
        · have e2 : (((s[k]'hlt).toNat : Int) == 10) = true := by rw [g2]; rfl
          clear g1 g2 hn
          go_wp2_with fail
          go_ret
          exact ⟨rfl, bw1⟩
        · have e2 : (((s[k]'hlt).toNat : Int) == 10) = false := beq_eq_false_iff_ne.2 (fun e => g2 (UInt8.toNat_inj.1 (by have : (10 : UInt8).toNat = 10 := rfl; omega)))
          rw [beq_eq_false_iff_ne.2 g1, beq_eq_false_iff_ne.2 g2] at hn
          have HN := Lib.hid hn
          clear g1 g2 hn
          go_wp2_with fail
          exact ⟨⟨k + 1, by omega, by go_num, HN.out, trivial⟩, by simp [intOf]; omega⟩
    · obtain rfl : k = s.size := by omega
      have hbs : bareL s.data.toList = false := by have := HBK.out; rwa [← hSL, List.take_length] at this
      have HBS := Lib.hid hbs
      clear hbs
      go_wp2_with fail
      refine (new_any most wr).mono ?_
      rintro e w2 ⟨rfl, f2, bw2⟩
      have hmx : max 0 most = most := by omega
      rw [hmx] at f2
      have F2 := Lib.hid f2; have BW2 := Lib.hid (bw1.trans (bw2.mono bw1.size))
      obtain ⟨i0, hi, hz0, hz1, hz2⟩ := info_parts info5
      clear f2 bw2
      go_wp2_with (refine wpList_make_full w2 rfl (.tmp 55) (.tmp 55) 43 rfl 0 5 i0 (.int .u8 0) 1 Try.underlying43 hi hz0 hz1 .i64 .i64 (n0 : Int) (n0 : Int) n0 rfl rfl rfl rfl (by rw [hz2]; omega) (by unfold maxLen; omega) (Nat.zero_le _) ?_; intro w3 o3 hg3)
      rw [made_zero] at o3
      have hcv := conv_rd w3 w3.heap.size (some ⟨w2.heap.size, 0, none⟩) n0 n0 (List.replicate n0 0) (.inr ⟨_, 0, rfl⟩) (own_rd o3) (by simp)
      have b23 : Below w2.heap.size w2 w3 := (Below.refl _ w2).grown hg3 (Nat.le_refl _) (fun k hk => by cases hk)
      have hXs : (⟨(List.replicate n0 0).toArray⟩ : ByteArray).size = n0 := by simp [ByteArray.size]
      obtain ⟨X, hX⟩ : ∃ X : ByteArray, (⟨(List.replicate n0 0).toArray⟩ : ByteArray) = X := ⟨_, rfl⟩
      rw [hX] at hcv hXs
      have v1 : ¬ 9223372036854775807 < X.size + 2 := by omega
      have v2 : ¬ 9223372036854775807 < X.size + 2 + s.size := by omega
      have v3 : ¬ 9223372036854775807 < X.size + 2 + s.size + 2 := by omega
      have HX := Lib.hid hX; have HXs := Lib.hid hXs; have F3 := Lib.hid (F2.out.below b23); have BW3 := Lib.hid (BW2.out.trans (b23.mono BW2.out.size))
      rw [hcv]
      simp only [Result.andThen]
      rw [Oper.upon_value]
      clear hX hXs o3 hg3 b23 hcv
      go_wp2_with fail
      have hfd : feedS most [] (X ++ ⟨#[13, 10]⟩ ++ s ++ ⟨#[13, 10]⟩ : ByteArray).data.toList = ([oneF most (List.replicate n0 0), oneF most s.data.toList], []) := by
        rw [← HX.out]
        have := feed_two (most := most) (bare_zero n0) HBS.out
        simpa [ByteArray.data_append] using this
      have hfz : (X ++ ⟨#[13, 10]⟩ ++ s ++ ⟨#[13, 10]⟩ : ByteArray).size ≤ 2000000 := by
        simp only [ByteArray.size_append]
        have := HXs.out
        show X.size + 2 + s.size + 2 ≤ _
        omega
      refine (feed_any F3.out kept_nil _ (by simpa using hfz)).mono ?_
      rintro e w4 ⟨v4, rfl, o4, f4, k4⟩
      rw [hfd] at o4
      have bw4 := keep_to_below BW3.out k4 (Nat.le_refl _) (fun k hk => Nat.lt_of_lt_of_le hk bw1.size)
      have BW4 := Lib.hid bw4
      obtain ⟨g4, c4, rfl, _, _⟩ := own_some o4 (by simp)
      have hs1 : oneF most s.data.toList = ⟨s.data.toList, false, false⟩ := one_short (by rw [hSL]; omega) HBS.out
      rw [hs1] at o4
      simp only [List.length_cons, List.length_nil, Nat.zero_add, Nat.reduceAdd]
      by_cases hle : (n0 : Int) ≤ most
      · have hx1 : oneF most (List.replicate n0 0) = ⟨List.replicate n0 0, false, false⟩ := one_short (by rw [List.length_replicate]; omega) (bare_zero n0)
        rw [hx1] at o4
        have p0 := o4.cellAt 0 (by simp)
        have p1 := o4.cellAt 1 (by simp)
        have p2 := o4.cellAt 2 (by simp)
        have p3 := o4.cellAt 3 (by simp)
        have p4 := o4.cellAt 4 (by simp)
        have p5 := o4.cellAt 5 (by simp)
        simp only [Fr.cells, List.flatMap_cons, List.flatMap_nil, List.cons_append, List.nil_append, List.append_nil, List.getElem?_cons_zero, List.getElem?_cons_succ, HX.out, Array.toArray_toList] at p0 p1 p2 p3 p4 p5
        have d6 : decide (most < (n0 : Int)) = false := decide_eq_false (by omega)
        have d7 : decide ((n0 : Int) ≤ most) = true := decide_eq_true hle
        clear o4 f4 k4 hfd hfz bw4 hx1 hs1 hle
        go_wp2_with fail
        go_ret
        exact ⟨rfl, BW4.out⟩
      · have hx1 : oneF most (List.replicate n0 0) = ⟨[], true, false⟩ := one_long (by rw [List.length_replicate]; omega) (bare_zero n0)
        rw [hx1] at o4
        have p0 := o4.cellAt 0 (by simp)
        have p1 := o4.cellAt 1 (by simp)
        have p2 := o4.cellAt 2 (by simp)
        have p3 := o4.cellAt 3 (by simp)
        have p4 := o4.cellAt 4 (by simp)
        have p5 := o4.cellAt 5 (by simp)
        simp only [Fr.cells, List.flatMap_cons, List.flatMap_nil, List.cons_append, List.nil_append, List.append_nil, List.getElem?_cons_zero, List.getElem?_cons_succ, HX.out, Array.toArray_toList] at p0 p1 p2 p3 p4 p5
        have d6 : decide (most < (n0 : Int)) = true := decide_eq_true (by omega)
        have d7 : decide ((n0 : Int) ≤ most) = false := decide_eq_false hle
        have d9 : ¬ X.toList = [] := fun e => by
          have h1 := HXs.out
          rw [Lib.size_eq, ← Lib.toList_data, e] at h1
          simp at h1; omega
        have d8 : X.toList.isEmpty = false := by simpa using d9
        clear o4 f4 k4 hfd hfz bw4 hx1 hs1 hle
        go_wp2_with fail
        go_ret
        exact ⟨rfl, BW4.out⟩
end Go.Proofs.Ytjlpmfokekflbaa
