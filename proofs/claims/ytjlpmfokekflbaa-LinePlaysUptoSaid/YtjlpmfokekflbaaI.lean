/- The reference: one line, New. -/
import Derived.Test.YtjlpmfokekflbaaH
namespace Go.Proofs.Ytjlpmfokekflbaa
open Go.RowKit
set_option linter.unusedVariables false
set_option linter.unusedSimpArgs false

/-- The reference's framer. -/
abbrev Rf (w : World) (g : Nat) (inn : List UInt8) (most : Int) : Prop := Bk w g 32 #[.string ⟨inn.toArray⟩, .int .i64 most]
set_option maxHeartbeats 400000 in
theorem rnew_any (n : Int) (w : World) : Calls Try.prog 11 #[.int .i64 n] w fun e w' => e = .returned (.pointer (some ⟨w.heap.size, 0, none⟩)) ∧ Rf w' w.heap.size [] (max n 0) ∧ Below w.heap.size w w' := by
  go_enter Try.func11, Try.ntmps11
  go_wp2
  go_ret
  exact ⟨rfl, Bk.new w 32 _, (Below.refl _ w).alloc (Nat.le_refl _) _⟩

theorem bare_next {l : List UInt8} {k : Nat} (h : k < l.length) : bareL (l.take (k + 1)) = (bareL (l.take k) || (l[k] == 13 || l[k] == 10)) := by
  unfold bareL
  rw [List.take_succ_eq_append_getElem h, List.any_append]
  simp
theorem data_at (s : ByteArray) (k : Nat) (h : k < s.size) : s.data.toList[k]'(by rw [← Lib.size_eq]; exact h) = s[k]'h := by
  have h1 := Lib.data_getElem? s k h
  rw [List.getElem?_eq_getElem (by rw [← Lib.size_eq]; exact h)] at h1
  exact Option.some.inj h1
set_option maxRecDepth 100000 in
set_option maxHeartbeats 4000000 in
theorem one_any (s : ByteArray) (most : Int) (w : World) (hs : s.size ≤ 2000000) : Calls Try.prog 22 #[.string s, .int .i64 most] w fun e w' => e = .returned (.agg (Fr.cells (oneF most s.data.toList)).toArray) ∧ Below w.heap.size w w' := by
  have K4 := Lib.hid (Bk.new w 42 #[.string ⟨#[]⟩, .bool false, .bool false])
  have B4 := Lib.hid ((Below.refl w.heap.size w).alloc (Nat.le_refl _) (.cells #[.string ⟨#[]⟩, .bool false, .bool false] 42))
  have hS := str_len s
  go_enter Try.func22, Try.ntmps22
  go_wp2_with fail
  generalize w.alloc (.cells #[.string ⟨#[]⟩, .bool false, .bool false] 42) = w1 at *
  go_loopw [5, 6] (fun b i wx => ∃ k : Nat, k ≤ s.size ∧ b = .bool (bareL (s.data.toList.take k)) ∧ i = .int .i64 (k : Int) ∧ wx = w1) (fun _ i _ => s.size - (intOf i).toNat)
  case atStart => exact ⟨0, Nat.zero_le _, rfl, rfl, rfl⟩
  case round =>
    obtain ⟨k, hk, rfl, rfl, rfl⟩ := hrel
    by_cases hlt : k < s.size
    · have hz : (k : Int) < s.size := by omega
      have hw1 : wrap64 ((k : Int) + 1) = (k : Int) + 1 := by unfold wrap64; omega
      have hn := bare_next (l := s.data.toList) (k := k) (by omega)
      rw [data_at s k hlt] at hn
      generalize hB : bareL (s.data.toList.take k) = B at *
      generalize hC : bareL (s.data.toList.take (k + 1)) = C at *
      cases B with
      | true =>
        simp at hn
        subst hn
        go_wp2_with fail
        exact ⟨⟨k + 1, by omega, by rw [hC], by go_num, trivial⟩, by simp [intOf]; omega⟩
      | false =>
        by_cases h1 : s[k]'hlt = 13
        · have d1 : (((s[k]'hlt).toNat : Int) == 13) = true := by rw [h1]; rfl
          rw [h1] at hn
          simp at hn
          subst hn
          clear h1
          go_wp2_with fail
          exact ⟨⟨k + 1, by omega, by rw [hC], by go_num, trivial⟩, by simp [intOf]; omega⟩
        · have d1 : (((s[k]'hlt).toNat : Int) == 13) = false := beq_eq_false_iff_ne.2 (fun e => h1 (UInt8.toNat_inj.1 (by have : (13 : UInt8).toNat = 13 := rfl; omega)))
          have hb1 : (s[k]'hlt == (13 : UInt8)) = false := beq_eq_false_iff_ne.2 h1
          by_cases h2 : s[k]'hlt = 10
          · have d2 : (((s[k]'hlt).toNat : Int) == 10) = true := by rw [h2]; rfl
            rw [hb1, h2] at hn
            simp at hn
            subst hn
            clear h1 h2
            go_wp2_with fail
            exact ⟨⟨k + 1, by omega, by rw [hC], by go_num, trivial⟩, by simp [intOf]; omega⟩
          · have d2 : (((s[k]'hlt).toNat : Int) == 10) = false := beq_eq_false_iff_ne.2 (fun e => h2 (UInt8.toNat_inj.1 (by have : (10 : UInt8).toNat = 10 := rfl; omega)))
            have hb2 : (s[k]'hlt == (10 : UInt8)) = false := beq_eq_false_iff_ne.2 h2
            rw [hb1, hb2] at hn
            simp at hn
            subst hn
            clear h1 h2 hb1 hb2
            go_wp2_with fail
            exact ⟨⟨k + 1, by omega, by rw [hC], by go_num, trivial⟩, by simp [intOf]; omega⟩
    · obtain rfl : k = s.size := by omega
      have hB : s.data.toList.take s.size = s.data.toList := by rw [← hS, List.take_length]
      rw [hB]
      have X4 := K4.out.lt
      have p0 := K4.out.cell 0
      have p1 := K4.out.cell 1
      have p2 := K4.out.cell 2
      have q0 := K4.out.frozen 0
      have q1 := K4.out.frozen 1
      have q2 := K4.out.frozen 2
      simp at p0 p1 p2
      have hne : w.heap.size ≠ wr.heap.size := Nat.ne_of_lt X4
      have HK := K4; have HB := B4
      cases hb : bareL s.data.toList <;> cases hm : decide (most < (s.size : Int))
      · go_wp2_with fail
        have kf := (((HK.out.set_ 0 (.string s)).set_ 1 (.bool false)).set_ 2 (.bool false)).alloc (.cells #[.string s, .bool false, .bool false] 42)
        have bf := (((HB.out.setCell (p := ⟨w.heap.size, 0, none⟩) (Nat.le_refl _) (.string s)).setCell (p := ⟨w.heap.size, 1, none⟩) (Nat.le_refl _) (.bool false)).setCell (p := ⟨w.heap.size, 2, none⟩) (Nat.le_refl _) (.bool false)).alloc (by simpa using HB.out.size) (.cells #[.string s, .bool false, .bool false] 42)
        refine fr_ret rfl kf rfl rfl ⟨?_, bf⟩
        simp [oneF, Fr.cells, ← Lib.size_eq, hb, hm]
      · go_wp2_with fail
        have kf := (((HK.out.set_ 0 (.string ⟨#[]⟩)).set_ 1 (.bool true)).set_ 2 (.bool false)).alloc (.cells #[.string ⟨#[]⟩, .bool true, .bool false] 42)
        have bf := (((HB.out.setCell (p := ⟨w.heap.size, 0, none⟩) (Nat.le_refl _) (.string ⟨#[]⟩)).setCell (p := ⟨w.heap.size, 1, none⟩) (Nat.le_refl _) (.bool true)).setCell (p := ⟨w.heap.size, 2, none⟩) (Nat.le_refl _) (.bool false)).alloc (by simpa using HB.out.size) (.cells #[.string ⟨#[]⟩, .bool true, .bool false] 42)
        refine fr_ret rfl kf rfl rfl ⟨?_, bf⟩
        simp [oneF, Fr.cells, ← Lib.size_eq, hb, hm]
      · go_wp2_with fail
        have kf := (((HK.out.set_ 0 (.string ⟨#[]⟩)).set_ 1 (.bool false)).set_ 2 (.bool true)).alloc (.cells #[.string ⟨#[]⟩, .bool false, .bool true] 42)
        have bf := (((HB.out.setCell (p := ⟨w.heap.size, 0, none⟩) (Nat.le_refl _) (.string ⟨#[]⟩)).setCell (p := ⟨w.heap.size, 1, none⟩) (Nat.le_refl _) (.bool false)).setCell (p := ⟨w.heap.size, 2, none⟩) (Nat.le_refl _) (.bool true)).alloc (by simpa using HB.out.size) (.cells #[.string ⟨#[]⟩, .bool false, .bool true] 42)
        refine fr_ret rfl kf rfl rfl ⟨?_, bf⟩
        simp [oneF, Fr.cells, ← Lib.size_eq, hb, hm]
      · go_wp2_with fail
        have kf := (((HK.out.set_ 0 (.string ⟨#[]⟩)).set_ 1 (.bool true)).set_ 2 (.bool true)).alloc (.cells #[.string ⟨#[]⟩, .bool true, .bool true] 42)
        have bf := (((HB.out.setCell (p := ⟨w.heap.size, 0, none⟩) (Nat.le_refl _) (.string ⟨#[]⟩)).setCell (p := ⟨w.heap.size, 1, none⟩) (Nat.le_refl _) (.bool true)).setCell (p := ⟨w.heap.size, 2, none⟩) (Nat.le_refl _) (.bool true)).alloc (by simpa using HB.out.size) (.cells #[.string ⟨#[]⟩, .bool true, .bool true] 42)
        refine fr_ret rfl kf rfl rfl ⟨?_, bf⟩
        simp [oneF, Fr.cells, ← Lib.size_eq, hb, hm]
end Go.Proofs.Ytjlpmfokekflbaa
