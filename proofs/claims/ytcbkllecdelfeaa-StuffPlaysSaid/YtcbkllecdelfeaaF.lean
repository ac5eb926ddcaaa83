/- What Take comes to, of the program and of the document. -/
import Derived.Test.YtcbkllecdelfeaaE
import Derived.Deep.DeepFit
namespace Go.Proofs.Ytcbkllecdelfeaa
open Go.RowKit
set_option linter.unusedVariables false

/-- Nothing that lay has turned but the blocks of S. -/
structure Only (w w' : World) (S : Nat → Prop) : Prop where
  os : w'.os = w.os
  tape : w'.tape = w.tape
  output : w'.output = w.output
  size : w.heap.size ≤ w'.heap.size
  block : ∀ k, k < w.heap.size → ¬ S k → w'.heap[k]? = w.heap[k]?
theorem Only.refl (w : World) (S : Nat → Prop) : Only w w S := ⟨rfl, rfl, rfl, Nat.le_refl _, fun _ _ _ => rfl⟩
theorem Only.trans {a b c : World} {S : Nat → Prop} (h : Only a b S) (k : Only b c S) : Only a c S :=
  ⟨k.os.trans h.os, k.tape.trans h.tape, k.output.trans h.output, Nat.le_trans h.size k.size, fun i hi hs => (k.block i (Nat.lt_of_lt_of_le hi h.size) hs).trans (h.block i hi hs)⟩
theorem Only.of_below {a b : World} {S : Nat → Prop} (h : Below a.heap.size a b) : Only a b S := ⟨h.os, h.tape, h.output, h.size, fun i hi _ => h.block i hi⟩
theorem Only.grown {a b c : World} {S : Nat → Prop} {row : Option Nat} (h : Only a b S) (hg : b.grownBy c row) (hr : ∀ k, row = some k → k < a.heap.size → S k) : Only a c S :=
  ⟨hg.os.trans h.os, hg.tape.trans h.tape, hg.output.trans h.output, Nat.le_trans h.size hg.size, fun i hi hs => (hg.block i (Nat.lt_of_lt_of_le hi h.size) (fun e => hs (hr i e.symm hi))).trans (h.block i hi hs)⟩
theorem Only.alloc {a b : World} {S : Nat → Prop} (h : Only a b S) (o : Obj) : Only a (b.alloc o) S :=
  h.trans (Only.of_below ((Below.refl _ b).alloc (Nat.le_refl _) o))
theorem Only.drew {a b : World} {S : Nat → Prop} (h : Only a b S) : Only a b.drew S := h.trans (Only.of_below (Below.refl _ b).drew)
theorem Only.setCell {a b : World} {S : Nat → Prop} (h : Only a b S) {p : Addr} (hp : S p.block) (u : Value) : Only a (b.setCell p u) S :=
  ⟨h.os, h.tape, h.output, by simpa [World.setCell] using h.size, fun i hi hs => (Below.heap_setCell b p u i (fun e => hs (e ▸ hp))).trans (h.block i hi hs)⟩
theorem Only.more {a b : World} {S T : Nat → Prop} (h : Only a b S) (hs : ∀ k, S k → T k) : Only a b T := ⟨h.os, h.tape, h.output, h.size, fun i hi ht => h.block i hi (fun e => ht (hs i e))⟩
theorem Only.below {a b : World} {S : Nat → Prop} {B : Nat} (h : Only a b S) (hB : B ≤ a.heap.size) (hs : ∀ k, S k → B ≤ k) : Below B a b :=
  ⟨h.os, h.tape, h.output, h.size, fun i hi => h.block i (by omega) (fun e => by have := hs i e; omega)⟩
theorem own_set {w : World} {base : Nat} {e : TypeId} {size n : Nat} {v : Value} {xs : List Value} (h : w.ownsRow base e size v n xs) {p : Addr} (hp : v.ownBlock ≠ some p.block) (u : Value) : (w.setCell p u).ownsRow base e size v n xs := by
  refine ⟨h.1, ?_⟩
  rcases h.2 with h2 | ⟨g, cap, cur, rfl, hg, hh, r⟩
  · exact .inl h2
  · exact .inr ⟨g, cap, cur, rfl, hg, by rw [Below.heap_setCell _ _ _ _ (fun e => hp (by simp [Value.ownBlock, e]))]; exact hh, r⟩
theorem own_only {w w' : World} {base : Nat} {e : TypeId} {size n : Nat} {v : Value} {xs : List Value} {S : Nat → Prop} (h : w.ownsRow base e size v n xs) (ho : Only w w' S) (hr : ∀ k, v.ownBlock = some k → ¬ S k) : w'.ownsRow base e size v n xs := by
  refine ⟨h.1, ?_⟩
  rcases h.2 with h2 | ⟨g, cap, cur, rfl, hg, hh, r⟩
  · exact .inl h2
  · exact .inr ⟨g, cap, cur, rfl, hg, (ho.block g (Array.getElem?_eq_some_iff.1 hh).1 (hr g rfl)).trans hh, r⟩
theorem new_cell {w : World} {t : TypeId} {n : Nat} {u : Value} (h : n = w.heap.size) : (w.alloc (.cells #[u] t)).cell? ⟨n, 0, none⟩ = some u := by
  subst h
  rw [World.cell?_alloc_at _ _ _ _ rfl]; rfl
theorem new_cell_drew {w : World} {t : TypeId} {n : Nat} {u : Value} (h : n = w.heap.size) : (w.alloc (.cells #[u] t)).drew.cell? ⟨n, 0, none⟩ = some u := new_cell h
theorem bk_drew {w : World} {g : Nat} {t : TypeId} {cs : Array Value} (h : Bk w g t cs) : Bk w.drew g t cs := h
theorem own_drew {w : World} {base : Nat} {e : TypeId} {size n : Nat} {v : Value} {xs : List Value} (h : w.ownsRow base e size v n xs) : w.drew.ownsRow base e size v n xs := h

/-- A struct of five cells in block g, of type t, the first of which is a row of lines xs in block r. -/
def Tx (w : World) (B g : Nat) (t : TypeId) (f1 f2 f3 f4 : Value) (r : Option Nat) (xs : List ByteArray) : Prop :=
  ∃ A c, r = (Value.slice A xs.length c).ownBlock ∧ B ≤ g ∧ Bk w g t #[.slice A xs.length c, f1, f2, f3, f4] ∧ w.ownsRow B 9 1 (.slice A xs.length c) xs.length (xs.map .string)
/-- A taker of the program. -/
def Tk (w : World) (B g : Nat) (r : Option Nat) (xs : List ByteArray) (many bytes had : Int) (over : Bool) : Prop := Tx w B g 48 (.int .i64 many) (.int .i64 bytes) (.int .i64 had) (.bool over) r xs
/-- One of the document's. -/
def Tr (w : World) (B g : Nat) (r : Option Nat) (xs : List ByteArray) (many bytes had : Int) (over : Bool) : Prop := Tx w B g 36 (.int .i64 had) (.int .i64 many) (.int .i64 bytes) (.bool over) r xs
/-- What a step leaves of the row's block: the old one, or a new one. -/
def RowNew (w : World) (r r' : Option Nat) : Prop := r' = r ∨ ∃ k, r' = some k ∧ w.heap.size ≤ k
def Foot (g : Nat) (r : Option Nat) (k : Nat) : Prop := k = g ∨ r = some k

theorem tx_app {w : World} {B g g' cap : Nat} {t : TypeId} {v f1 f2 f3 f4 : Value} {xs : List ByteArray} {x : ByteArray} (ht : 9 ≠ t) (hBg : B ≤ g) (hk : Bk w g t #[v, f1, f2, f3, f4])
    (hown : w.ownsRow B 9 1 (.slice (some ⟨g', 0, none⟩) (xs.length + 1) cap) (xs.length + 1) (xs.map .string ++ [.string x])) :
    Tx (w.setCell ⟨g, 0, none⟩ (.slice (some ⟨g', 0, none⟩) (xs.length + 1) cap)) B g t f1 f2 f3 f4 (some g') (xs ++ [x]) := by
  refine ⟨some ⟨g', 0, none⟩, cap, rfl, hBg, ?_, ?_⟩
  · have := hk.set_ 0 (.slice (some ⟨g', 0, none⟩) (xs.length + 1) cap)
    simpa using this
  · have h1 := own_set hown (p := ⟨g, 0, none⟩) (own_ne hown hk ht) (.slice (some ⟨g', 0, none⟩) (xs.length + 1) cap)
    simpa using h1
theorem row_new {w : World} {v : Value} {g' : Nat} (hat : v.ownBlock = some g' ∨ g' = w.heap.size + 1) : RowNew w v.ownBlock (some g') := by
  rcases hat with h | h
  · exact .inl h.symm
  · exact .inr ⟨g', rfl, by omega⟩

set_option maxHeartbeats 800000 in
theorem take_room (w : World) (B g : Nat) (r : Option Nat) (xs : List ByteArray) (many bytes had : Int) (s : ByteArray) (hk : Tk w B g r xs many bytes had false) (hs : s.size ≤ 1000000) (h0 : 0 ≤ had) (h1 : had ≤ 1000000000) (hxs : xs.length ≤ 1000) (hB : B ≤ w.heap.size)
    (he : endB s = false) (hm : ((xs.length : Int) == many) = false) (hb : decide (bytes < had + ((inS s).size + 2)) = false) :
    Calls Try.prog 17 #[.pointer (some ⟨g, 0, none⟩), .string s] w fun e w' => e = .returned (.bool false) ∧
      ∃ r', Tk w' B g r' (xs ++ [inS s]) many bytes (had + ((inS s).size + 2)) false ∧ RowNew w r r' ∧ Only w w' (Foot g r) := by
  obtain ⟨A, c, rfl, hBg, hk, hown⟩ := hk
  have c0 := hk.cell 0
  have c1 := hk.cell 1
  have c2 := hk.cell 2
  have c3 := hk.cell 3
  have c4 := hk.cell 4
  have f0 := hk.frozen 0
  have f3 := hk.frozen 3
  have f4 := hk.frozen 4
  have hin := in_size s
  simp at c0 c1 c2 c3 c4
  have hne := own_ne hown hk (by decide)
  have ho2 := own_set (own_set hown (p := ⟨g, 3, none⟩) hne (.int .i64 (had + (↑(inS s).size + 2)))) (p := ⟨g, 4, none⟩) hne (.bool false)
  have hk2 := (hk.set_ 3 (.int .i64 (had + (↑(inS s).size + 2)))).set_ 4 (.bool false)
  simp at hk2
  have hon : Only w ((w.setCell ⟨g, 3, none⟩ (.int .i64 (had + (↑(inS s).size + 2)))).setCell ⟨g, 4, none⟩ (.bool false)) (Foot g (Value.slice A xs.length c).ownBlock) := ((Only.refl w _).setCell (p := ⟨g, 3, none⟩) (.inl rfl) _).setCell (p := ⟨g, 4, none⟩) (.inl rfl) _
  go_enter Try.func17, Try.ntmps17
  go_wp2_with fail
  refine (in_any s w (by unfold maxLen; omega)).mono ?_
  rintro e w' ⟨rfl, rfl⟩
  simp only [he]
  go_wp2_with fail
  go_region
  go_wp2_with (at_builtin; go_loud (refine app_str (.tmp 62) (.tmp 64) rfl rfl B _ xs.length _ rfl (own_drew (ho2.alloc _)) w.heap.size (inS s) rfl (new_cell_drew (by simp)) (by omega) (by simp; omega) (w.heap.size + 1) (by simp) ?_); intro g' cap w1 hown1 hgrow hat hlt1; have hk4 := (bk_drew (hk2.alloc (.cells #[.string (inS s)] 9))).grown hgrow (Ne.symm hne); have k0 := hk4.cell 0; have kf := hk4.frozen 0; simp at k0)
  go_ret
  exact ⟨rfl, some g', tx_app (by decide) hBg hk4 hown1, row_new hat, ((hon.alloc _).drew.grown hgrow (fun k hk _ => .inr hk)).setCell (p := ⟨g, 0, none⟩) (.inl rfl) _⟩

set_option maxHeartbeats 800000 in
theorem take_over1 (w : World) (B g : Nat) (r : Option Nat) (xs : List ByteArray) (many bytes had : Int) (s : ByteArray) (hk : Tk w B g r xs many bytes had true) (hs : s.size ≤ 1000000) (h0 : 0 ≤ had) (h1 : had ≤ 1000000000) (hxs : xs.length ≤ 1000)
    (he : endB s = false) :
    Calls Try.prog 17 #[.pointer (some ⟨g, 0, none⟩), .string s] w fun e w' => e = .returned (.bool false) ∧
      Tk w' B g r xs many bytes (had + ((inS s).size + 2)) true ∧ Only w w' (Foot g r) := by
  obtain ⟨A, c, rfl, hBg, hk, hown⟩ := hk
  have c0 := hk.cell 0
  have c1 := hk.cell 1
  have c2 := hk.cell 2
  have c3 := hk.cell 3
  have c4 := hk.cell 4
  have f3 := hk.frozen 3
  have f4 := hk.frozen 4
  have hin := in_size s
  simp at c0 c1 c2 c3 c4
  have hne := own_ne hown hk (by decide)
  have ho2 := own_set (own_set hown (p := ⟨g, 3, none⟩) hne (.int .i64 (had + (↑(inS s).size + 2)))) (p := ⟨g, 4, none⟩) hne (.bool true)
  have hk2 := (hk.set_ 3 (.int .i64 (had + (↑(inS s).size + 2)))).set_ 4 (.bool true)
  simp at hk2
  have hon : Only w ((w.setCell ⟨g, 3, none⟩ (.int .i64 (had + (↑(inS s).size + 2)))).setCell ⟨g, 4, none⟩ (.bool true)) (Foot g (Value.slice A xs.length c).ownBlock) := ((Only.refl w _).setCell (p := ⟨g, 3, none⟩) (.inl rfl) _).setCell (p := ⟨g, 4, none⟩) (.inl rfl) _
  go_enter Try.func17, Try.ntmps17
  go_wp2_with fail
  refine (in_any s w (by unfold maxLen; omega)).mono ?_
  rintro e w' ⟨rfl, rfl⟩
  simp only [he]
  go_wp2_with fail
  go_region
  go_wp2_with fail
  go_ret
  exact ⟨rfl, ⟨A, c, rfl, hBg, bk_drew hk2, own_drew ho2⟩, hon.drew⟩

set_option maxHeartbeats 800000 in
theorem take_over2 (w : World) (B g : Nat) (r : Option Nat) (xs : List ByteArray) (many bytes had : Int) (s : ByteArray) (hk : Tk w B g r xs many bytes had false) (hs : s.size ≤ 1000000) (h0 : 0 ≤ had) (h1 : had ≤ 1000000000) (hxs : xs.length ≤ 1000)
    (he : endB s = false) (hm : ((xs.length : Int) == many) = true) :
    Calls Try.prog 17 #[.pointer (some ⟨g, 0, none⟩), .string s] w fun e w' => e = .returned (.bool false) ∧
      Tk w' B g r xs many bytes (had + ((inS s).size + 2)) true ∧ Only w w' (Foot g r) := by
  obtain ⟨A, c, rfl, hBg, hk, hown⟩ := hk
  have c0 := hk.cell 0
  have c1 := hk.cell 1
  have c2 := hk.cell 2
  have c3 := hk.cell 3
  have c4 := hk.cell 4
  have f3 := hk.frozen 3
  have f4 := hk.frozen 4
  have hin := in_size s
  simp at c0 c1 c2 c3 c4
  have hne := own_ne hown hk (by decide)
  have ho2 := own_set (own_set hown (p := ⟨g, 3, none⟩) hne (.int .i64 (had + (↑(inS s).size + 2)))) (p := ⟨g, 4, none⟩) hne (.bool true)
  have hk2 := (hk.set_ 3 (.int .i64 (had + (↑(inS s).size + 2)))).set_ 4 (.bool true)
  simp at hk2
  have hon : Only w ((w.setCell ⟨g, 3, none⟩ (.int .i64 (had + (↑(inS s).size + 2)))).setCell ⟨g, 4, none⟩ (.bool true)) (Foot g (Value.slice A xs.length c).ownBlock) := ((Only.refl w _).setCell (p := ⟨g, 3, none⟩) (.inl rfl) _).setCell (p := ⟨g, 4, none⟩) (.inl rfl) _
  go_enter Try.func17, Try.ntmps17
  go_wp2_with fail
  refine (in_any s w (by unfold maxLen; omega)).mono ?_
  rintro e w' ⟨rfl, rfl⟩
  simp only [he]
  go_wp2_with fail
  go_region
  go_wp2_with fail
  go_ret
  exact ⟨rfl, ⟨A, c, rfl, hBg, bk_drew hk2, own_drew ho2⟩, hon.drew⟩

set_option maxHeartbeats 800000 in
theorem take_over3 (w : World) (B g : Nat) (r : Option Nat) (xs : List ByteArray) (many bytes had : Int) (s : ByteArray) (hk : Tk w B g r xs many bytes had false) (hs : s.size ≤ 1000000) (h0 : 0 ≤ had) (h1 : had ≤ 1000000000) (hxs : xs.length ≤ 1000)
    (he : endB s = false) (hm : ((xs.length : Int) == many) = false) (hb : decide (bytes < had + ((inS s).size + 2)) = true) :
    Calls Try.prog 17 #[.pointer (some ⟨g, 0, none⟩), .string s] w fun e w' => e = .returned (.bool false) ∧
      Tk w' B g r xs many bytes (had + ((inS s).size + 2)) true ∧ Only w w' (Foot g r) := by
  obtain ⟨A, c, rfl, hBg, hk, hown⟩ := hk
  have c0 := hk.cell 0
  have c1 := hk.cell 1
  have c2 := hk.cell 2
  have c3 := hk.cell 3
  have c4 := hk.cell 4
  have f3 := hk.frozen 3
  have f4 := hk.frozen 4
  have hin := in_size s
  simp at c0 c1 c2 c3 c4
  have hne := own_ne hown hk (by decide)
  have ho2 := own_set (own_set hown (p := ⟨g, 3, none⟩) hne (.int .i64 (had + (↑(inS s).size + 2)))) (p := ⟨g, 4, none⟩) hne (.bool true)
  have hk2 := (hk.set_ 3 (.int .i64 (had + (↑(inS s).size + 2)))).set_ 4 (.bool true)
  simp at hk2
  have hon : Only w ((w.setCell ⟨g, 3, none⟩ (.int .i64 (had + (↑(inS s).size + 2)))).setCell ⟨g, 4, none⟩ (.bool true)) (Foot g (Value.slice A xs.length c).ownBlock) := ((Only.refl w _).setCell (p := ⟨g, 3, none⟩) (.inl rfl) _).setCell (p := ⟨g, 4, none⟩) (.inl rfl) _
  go_enter Try.func17, Try.ntmps17
  go_wp2_with fail
  refine (in_any s w (by unfold maxLen; omega)).mono ?_
  rintro e w' ⟨rfl, rfl⟩
  simp only [he]
  go_wp2_with fail
  go_region
  go_wp2_with fail
  go_ret
  exact ⟨rfl, ⟨A, c, rfl, hBg, bk_drew hk2, own_drew ho2⟩, hon.drew⟩

set_option maxHeartbeats 800000 in
theorem take_end (g : Nat) (s : ByteArray) (w : World) (hs : s.size ≤ 1000000) (he : endB s = true) :
    Calls Try.prog 17 #[.pointer (some ⟨g, 0, none⟩), .string s] w fun e w' => e = .returned (.bool true) ∧ w = w' := by
  go_enter Try.func17, Try.ntmps17
  go_wp2_with fail
  refine (in_any s w (by unfold maxLen; omega)).mono ?_
  rintro e w' ⟨rfl, rfl⟩
  simp only [he]
  go_wp2_with fail
  go_ret
  exact ⟨rfl, rfl⟩

/-- What a taker holds behind a line: its lines, how many bytes came, whether something had no room. -/
def takeT (many bytes : Int) (t : List ByteArray × Int × Bool) (s : ByteArray) : List ByteArray × Int × Bool :=
  if endB s then t else
    (if t.2.2 || ((t.1.length : Int) == many) || decide (bytes < t.2.1 + ((inS s).size + 2)) then t.1 else t.1 ++ [inS s], t.2.1 + ((inS s).size + 2),
      t.2.2 || ((t.1.length : Int) == many) || decide (bytes < t.2.1 + ((inS s).size + 2)))

theorem take_any (w : World) (B g : Nat) (r : Option Nat) (xs : List ByteArray) (many bytes had : Int) (over : Bool) (s : ByteArray) (hk : Tk w B g r xs many bytes had over) (hs : s.size ≤ 1000000) (h0 : 0 ≤ had) (h1 : had ≤ 1000000000) (hxs : xs.length ≤ 1000) (hB : B ≤ w.heap.size) :
    Calls Try.prog 17 #[.pointer (some ⟨g, 0, none⟩), .string s] w fun e w' => e = .returned (.bool (endB s)) ∧
      ∃ r', Tk w' B g r' (takeT many bytes (xs, had, over) s).1 many bytes (takeT many bytes (xs, had, over) s).2.1 (takeT many bytes (xs, had, over) s).2.2 ∧ RowNew w r r' ∧ Only w w' (Foot g r) := by
  by_cases he : endB s = true
  · refine (take_end g s w hs he).mono ?_
    rintro e w' ⟨rfl, rfl⟩
    exact ⟨by rw [he], r, by simpa [takeT, he] using hk, .inl rfl, Only.refl _ _⟩
  · have he' : endB s = false := by simpa using he
    cases over with
    | true =>
      refine (take_over1 w B g r xs many bytes had s hk hs h0 h1 hxs he').mono ?_
      rintro e w' ⟨rfl, hk', ho⟩
      exact ⟨by rw [he'], r, by simpa [takeT, he'] using hk', .inl rfl, ho⟩
    | false =>
      by_cases hm : ((xs.length : Int) == many) = true
      · refine (take_over2 w B g r xs many bytes had s hk hs h0 h1 hxs he' hm).mono ?_
        rintro e w' ⟨rfl, hk', ho⟩
        exact ⟨by rw [he'], r, by simp only [takeT, he', hm]; exact hk', .inl rfl, ho⟩
      · have hm' : ((xs.length : Int) == many) = false := by simpa using hm
        by_cases hb : decide (bytes < had + ((inS s).size + 2)) = true
        · refine (take_over3 w B g r xs many bytes had s hk hs h0 h1 hxs he' hm' hb).mono ?_
          rintro e w' ⟨rfl, hk', ho⟩
          exact ⟨by rw [he'], r, by simp only [takeT, he', hm', hb]; exact hk', .inl rfl, ho⟩
        · have hb' : decide (bytes < had + ((inS s).size + 2)) = false := by simpa using hb
          refine (take_room w B g r xs many bytes had s hk hs h0 h1 hxs hB he' hm' hb').mono ?_
          rintro e w' ⟨rfl, r', hk', hn, ho⟩
          exact ⟨by rw [he'], r', by simp only [takeT, he', hm', hb']; exact hk', hn, ho⟩
end Go.Proofs.Ytcbkllecdelfeaa
