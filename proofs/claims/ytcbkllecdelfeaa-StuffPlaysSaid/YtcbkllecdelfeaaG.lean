/- What Take of the document's taker comes to. -/
import Derived.Test.YtcbkllecdelfeaaF
namespace Go.Proofs.Ytcbkllecdelfeaa
open Go.RowKit
set_option linter.unusedVariables false

set_option maxHeartbeats 800000 in
theorem rtake_over1 (w : World) (B g : Nat) (r : Option Nat) (xs : List ByteArray) (many bytes had : Int) (over : Bool) (s : ByteArray) (hk : Tr w B g r xs many bytes had over) (hs : s.size ≤ 1000000) (h0 : 0 ≤ had) (h1 : had ≤ 1000000000) (hxs : xs.length ≤ 1000)
    (he : endB s = false) (hm : decide (many ≤ (xs.length : Int)) = true) :
    Calls Try.prog 18 #[.pointer (some ⟨g, 0, none⟩), .string s] w fun e w' => e = .returned (.bool false) ∧ Tr w' B g r xs many bytes (had + (inS s).size + 2) true ∧ Only w w' (Foot g r) := by
  obtain ⟨A, c, rfl, hBg, hk, hown⟩ := hk
  have c0 := hk.cell 0
  have c1 := hk.cell 1
  have c2 := hk.cell 2
  have c3 := hk.cell 3
  have c4 := hk.cell 4
  have f0 := hk.frozen 0
  have f1 := hk.frozen 1
  have f4 := hk.frozen 4
  have hin := in_size s
  simp at c0 c1 c2 c3 c4
  have hne := own_ne hown hk (by decide)
  have ho2 := own_set (own_set hown (p := ⟨g, 1, none⟩) hne (.int .i64 (had + ↑(inS s).size + 2))) (p := ⟨g, 4, none⟩) hne (.bool true)
  have hk2 := (hk.set_ 1 (.int .i64 (had + ↑(inS s).size + 2))).set_ 4 (.bool true)
  simp at hk2
  have hon : Only w ((w.setCell ⟨g, 1, none⟩ (.int .i64 (had + ↑(inS s).size + 2))).setCell ⟨g, 4, none⟩ (.bool true)) (Foot g (Value.slice A xs.length c).ownBlock) := ((Only.refl w _).setCell (p := ⟨g, 1, none⟩) (.inl rfl) _).setCell (p := ⟨g, 4, none⟩) (.inl rfl) _
  go_enter Try.func18, Try.ntmps18
  go_wp2_with fail
  refine (rin_any s w (by unfold maxLen; omega)).mono ?_
  rintro e w' ⟨rfl, rfl⟩
  simp only [he]
  go_wp2_with fail
  go_region
  go_wp2_with fail
  go_ret
  exact ⟨rfl, ⟨A, c, rfl, hBg, bk_drew hk2, own_drew ho2⟩, hon.drew⟩

set_option maxHeartbeats 800000 in
theorem rtake_over2 (w : World) (B g : Nat) (r : Option Nat) (xs : List ByteArray) (many bytes had : Int) (over : Bool) (s : ByteArray) (hk : Tr w B g r xs many bytes had over) (hs : s.size ≤ 1000000) (h0 : 0 ≤ had) (h1 : had ≤ 1000000000) (hxs : xs.length ≤ 1000)
    (he : endB s = false) (hm : decide (many ≤ (xs.length : Int)) = false) (hb : decide (bytes < had + (inS s).size + 2) = true) :
    Calls Try.prog 18 #[.pointer (some ⟨g, 0, none⟩), .string s] w fun e w' => e = .returned (.bool false) ∧ Tr w' B g r xs many bytes (had + (inS s).size + 2) true ∧ Only w w' (Foot g r) := by
  obtain ⟨A, c, rfl, hBg, hk, hown⟩ := hk
  have c0 := hk.cell 0
  have c1 := hk.cell 1
  have c2 := hk.cell 2
  have c3 := hk.cell 3
  have c4 := hk.cell 4
  have f0 := hk.frozen 0
  have f1 := hk.frozen 1
  have f4 := hk.frozen 4
  have hin := in_size s
  simp at c0 c1 c2 c3 c4
  have hne := own_ne hown hk (by decide)
  have ho2 := own_set (own_set hown (p := ⟨g, 1, none⟩) hne (.int .i64 (had + ↑(inS s).size + 2))) (p := ⟨g, 4, none⟩) hne (.bool true)
  have hk2 := (hk.set_ 1 (.int .i64 (had + ↑(inS s).size + 2))).set_ 4 (.bool true)
  simp at hk2
  have hon : Only w ((w.setCell ⟨g, 1, none⟩ (.int .i64 (had + ↑(inS s).size + 2))).setCell ⟨g, 4, none⟩ (.bool true)) (Foot g (Value.slice A xs.length c).ownBlock) := ((Only.refl w _).setCell (p := ⟨g, 1, none⟩) (.inl rfl) _).setCell (p := ⟨g, 4, none⟩) (.inl rfl) _
  go_enter Try.func18, Try.ntmps18
  go_wp2_with fail
  refine (rin_any s w (by unfold maxLen; omega)).mono ?_
  rintro e w' ⟨rfl, rfl⟩
  simp only [he]
  go_wp2_with fail
  go_region
  go_wp2_with fail
  go_ret
  exact ⟨rfl, ⟨A, c, rfl, hBg, bk_drew hk2, own_drew ho2⟩, hon.drew⟩

set_option maxHeartbeats 800000 in
theorem rtake_over3 (w : World) (B g : Nat) (r : Option Nat) (xs : List ByteArray) (many bytes had : Int) (s : ByteArray) (hk : Tr w B g r xs many bytes had true) (hs : s.size ≤ 1000000) (h0 : 0 ≤ had) (h1 : had ≤ 1000000000) (hxs : xs.length ≤ 1000)
    (he : endB s = false) (hm : decide (many ≤ (xs.length : Int)) = false) (hb : decide (bytes < had + (inS s).size + 2) = false) :
    Calls Try.prog 18 #[.pointer (some ⟨g, 0, none⟩), .string s] w fun e w' => e = .returned (.bool false) ∧ Tr w' B g r xs many bytes (had + (inS s).size + 2) true ∧ Only w w' (Foot g r) := by
  obtain ⟨A, c, rfl, hBg, hk, hown⟩ := hk
  have c0 := hk.cell 0
  have c1 := hk.cell 1
  have c2 := hk.cell 2
  have c3 := hk.cell 3
  have c4 := hk.cell 4
  have f0 := hk.frozen 0
  have f1 := hk.frozen 1
  have f4 := hk.frozen 4
  have hin := in_size s
  simp at c0 c1 c2 c3 c4
  have hne := own_ne hown hk (by decide)
  have ho2 := own_set hown (p := ⟨g, 1, none⟩) hne (.int .i64 (had + ↑(inS s).size + 2))
  have hk2 := hk.set_ 1 (.int .i64 (had + ↑(inS s).size + 2))
  simp at hk2
  have hon : Only w (w.setCell ⟨g, 1, none⟩ (.int .i64 (had + ↑(inS s).size + 2))) (Foot g (Value.slice A xs.length c).ownBlock) := (Only.refl w _).setCell (p := ⟨g, 1, none⟩) (.inl rfl) _
  go_enter Try.func18, Try.ntmps18
  go_wp2_with fail
  refine (rin_any s w (by unfold maxLen; omega)).mono ?_
  rintro e w' ⟨rfl, rfl⟩
  simp only [he]
  go_wp2_with fail
  go_region
  go_wp2_with fail
  go_ret
  exact ⟨rfl, ⟨A, c, rfl, hBg, bk_drew hk2, own_drew ho2⟩, hon.drew⟩

set_option maxHeartbeats 800000 in
theorem rtake_room (w : World) (B g : Nat) (r : Option Nat) (xs : List ByteArray) (many bytes had : Int) (s : ByteArray) (hk : Tr w B g r xs many bytes had false) (hs : s.size ≤ 1000000) (h0 : 0 ≤ had) (h1 : had ≤ 1000000000) (hxs : xs.length ≤ 1000) (hB : B ≤ w.heap.size)
    (he : endB s = false) (hm : decide (many ≤ (xs.length : Int)) = false) (hb : decide (bytes < had + (inS s).size + 2) = false) :
    Calls Try.prog 18 #[.pointer (some ⟨g, 0, none⟩), .string s] w fun e w' => e = .returned (.bool false) ∧ ∃ r', Tr w' B g r' (xs ++ [inS s]) many bytes (had + (inS s).size + 2) false ∧ RowNew w r r' ∧ Only w w' (Foot g r) := by
  obtain ⟨A, c, rfl, hBg, hk, hown⟩ := hk
  have c0 := hk.cell 0
  have c1 := hk.cell 1
  have c2 := hk.cell 2
  have c3 := hk.cell 3
  have c4 := hk.cell 4
  have f0 := hk.frozen 0
  have f1 := hk.frozen 1
  have f4 := hk.frozen 4
  have hin := in_size s
  simp at c0 c1 c2 c3 c4
  have hne := own_ne hown hk (by decide)
  have ho2 := own_set hown (p := ⟨g, 1, none⟩) hne (.int .i64 (had + ↑(inS s).size + 2))
  have hk2 := hk.set_ 1 (.int .i64 (had + ↑(inS s).size + 2))
  simp at hk2
  have hon : Only w (w.setCell ⟨g, 1, none⟩ (.int .i64 (had + ↑(inS s).size + 2))) (Foot g (Value.slice A xs.length c).ownBlock) := (Only.refl w _).setCell (p := ⟨g, 1, none⟩) (.inl rfl) _
  go_enter Try.func18, Try.ntmps18
  go_wp2_with fail
  refine (rin_any s w (by unfold maxLen; omega)).mono ?_
  rintro e w' ⟨rfl, rfl⟩
  simp only [he]
  go_wp2_with fail
  go_region
  go_wp2_with (at_builtin; go_loud (refine app_str (.tmp 57) (.tmp 59) rfl rfl B _ xs.length _ rfl (own_drew (ho2.alloc _)) w.heap.size (inS s) rfl (new_cell_drew (by simp)) (by omega) (by simp; omega) (w.heap.size + 1) (by simp) ?_); intro g' cap w1 hown1 hgrow hat hlt1; have hk4 := (bk_drew (hk2.alloc (.cells #[.string (inS s)] 9))).grown hgrow (Ne.symm hne); have k0 := hk4.cell 0; have kf := hk4.frozen 0; simp at k0)
  go_ret
  exact ⟨rfl, some g', tx_app (by decide) hBg hk4 hown1, row_new hat, ((hon.alloc _).drew.grown hgrow (fun k hk _ => .inr hk)).setCell (p := ⟨g, 0, none⟩) (.inl rfl) _⟩

set_option maxHeartbeats 800000 in
theorem rtake_end (g : Nat) (s : ByteArray) (w : World) (hs : s.size ≤ 1000000) (he : endB s = true) :
    Calls Try.prog 18 #[.pointer (some ⟨g, 0, none⟩), .string s] w fun e w' => e = .returned (.bool true) ∧ w = w' := by
  go_enter Try.func18, Try.ntmps18
  go_wp2_with fail
  refine (rin_any s w (by unfold maxLen; omega)).mono ?_
  rintro e w' ⟨rfl, rfl⟩
  simp only [he]
  go_wp2_with fail
  go_ret
  exact ⟨rfl, rfl⟩

/-- The same of the document's. -/
def rtakeT (many bytes : Int) (t : List ByteArray × Int × Bool) (s : ByteArray) : List ByteArray × Int × Bool :=
  if endB s then t else
    (if t.2.2 || decide (many ≤ (t.1.length : Int)) || decide (bytes < t.2.1 + (inS s).size + 2) then t.1 else t.1 ++ [inS s], t.2.1 + (inS s).size + 2,
      t.2.2 || decide (many ≤ (t.1.length : Int)) || decide (bytes < t.2.1 + (inS s).size + 2))

theorem rtake_any (w : World) (B g : Nat) (r : Option Nat) (xs : List ByteArray) (many bytes had : Int) (over : Bool) (s : ByteArray) (hk : Tr w B g r xs many bytes had over) (hs : s.size ≤ 1000000) (h0 : 0 ≤ had) (h1 : had ≤ 1000000000) (hxs : xs.length ≤ 1000) (hB : B ≤ w.heap.size) :
    Calls Try.prog 18 #[.pointer (some ⟨g, 0, none⟩), .string s] w fun e w' => e = .returned (.bool (endB s)) ∧
      ∃ r', Tr w' B g r' (rtakeT many bytes (xs, had, over) s).1 many bytes (rtakeT many bytes (xs, had, over) s).2.1 (rtakeT many bytes (xs, had, over) s).2.2 ∧ RowNew w r r' ∧ Only w w' (Foot g r) := by
  by_cases he : endB s = true
  · refine (rtake_end g s w hs he).mono ?_
    rintro e w' ⟨rfl, rfl⟩
    exact ⟨by rw [he], r, by simpa [rtakeT, he] using hk, .inl rfl, Only.refl _ _⟩
  · have he' : endB s = false := by simpa using he
    by_cases hm : decide (many ≤ (xs.length : Int)) = true
    · refine (rtake_over1 w B g r xs many bytes had over s hk hs h0 h1 hxs he' hm).mono ?_
      rintro e w' ⟨rfl, hk', ho⟩
      exact ⟨by rw [he'], r, by simp only [rtakeT, he', hm, Bool.or_true, Bool.true_or]; exact hk', .inl rfl, ho⟩
    · have hm' : decide (many ≤ (xs.length : Int)) = false := by simpa using hm
      by_cases hb : decide (bytes < had + (inS s).size + 2) = true
      · refine (rtake_over2 w B g r xs many bytes had over s hk hs h0 h1 hxs he' hm' hb).mono ?_
        rintro e w' ⟨rfl, hk', ho⟩
        exact ⟨by rw [he'], r, by simp only [rtakeT, he', hm', hb, Bool.or_true]; exact hk', .inl rfl, ho⟩
      · have hb' : decide (bytes < had + (inS s).size + 2) = false := by simpa using hb
        cases over with
        | true =>
          refine (rtake_over3 w B g r xs many bytes had s hk hs h0 h1 hxs he' hm' hb').mono ?_
          rintro e w' ⟨rfl, hk', ho⟩
          exact ⟨by rw [he'], r, by simp only [rtakeT, he', hm', hb']; exact hk', .inl rfl, ho⟩
        | false =>
          refine (rtake_room w B g r xs many bytes had s hk hs h0 h1 hxs hB he' hm' hb').mono ?_
          rintro e w' ⟨rfl, r', hk', hn, ho⟩
          exact ⟨by rw [he'], r', by simp only [rtakeT, he', hm', hb']; exact hk', hn, ho⟩
end Go.Proofs.Ytcbkllecdelfeaa
