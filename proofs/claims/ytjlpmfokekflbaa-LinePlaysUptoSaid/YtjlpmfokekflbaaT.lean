/- small: a small case, walked. -/
import Derived.Test.YtjlpmfokekflbaaH
import Derived.Test.YtjlpmfokekflbaaN
namespace Go.Proofs.Ytjlpmfokekflbaa
open Go.RowKit
set_option linter.unusedVariables false
set_option linter.unusedSimpArgs false

theorem ne_of_types {w : World} {B B' : Nat} {e e' : TypeId} {s s' n n' : Nat} {v v' : Value} {xs xs' : List Value} (h : w.ownsRow B e s v n xs) (h' : w.ownsRow B' e' s' v' n' xs') (hne : e ≠ e') : ∀ k, v.ownBlock = some k → v'.ownBlock ≠ some k := by
  intro k hk hk'
  rcases Nat.eq_zero_or_pos n with h0 | h0
  · rcases h.2 with ⟨h1, _⟩ | ⟨g', cap', cur', h1, _, hg, _⟩
    · rw [h1] at hk; cases hk
    · rcases h'.2 with ⟨h2, _⟩ | ⟨g2, cap2, cur2, h2, _, hg2, _⟩
      · rw [h2] at hk'; cases hk'
      · rw [h1] at hk; rw [h2] at hk'
        simp [Value.ownBlock] at hk hk'
        subst hk hk'
        rw [hg] at hg2
        injection hg2 with hg2
        injection hg2 with _ e2
        exact hne e2
  · rcases h.2 with ⟨h1, _⟩ | ⟨g', cap', cur', h1, _, hg, _⟩
    · rw [h1] at hk; cases hk
    · rcases h'.2 with ⟨h2, _⟩ | ⟨g2, cap2, cur2, h2, _, hg2, _⟩
      · rw [h2] at hk'; cases hk'
      · rw [h1] at hk; rw [h2] at hk'
        simp [Value.ownBlock] at hk hk'
        subst hk hk'
        rw [hg] at hg2
        injection hg2 with hg2
        injection hg2 with _ e2
        exact hne e2
theorem FS.add {w : World} {P : Nat → Prop} {g : Nat} {inn : List UInt8} {most : Int} {B n : Nat} {v : Value} {xs : List Value} (h : FS w P g inn most) (ho : w.ownsRow B 42 3 v n xs) : FS w (fun k => P k ∨ v.ownBlock = some k) g inn most := by
  obtain ⟨u, ⟨h1, h2⟩, h3⟩ := h
  refine ⟨u, ⟨h1, h2⟩, fun k hk => ?_⟩
  rcases hk with hk | hk
  · exact h3 k hk
  · exact ⟨(ho.lt k hk).2, fun e => own_ne ho h1 (by decide) (e ▸ hk), fun e => ne_of_types ho h2 (by decide) k hk e⟩
theorem e1 : feedS 4 [] (⟨#[97, 98, 13]⟩ : ByteArray).data.toList = ([], [97, 98, 13]) := by simp [feedS, split, pre]
theorem e2 : feedS 4 [97, 98, 13] (⟨#[10, 99, 10, 100, 13, 10, 97, 98, 99, 100, 101, 13, 10, 13, 13, 10, 120]⟩ : ByteArray).data.toList = ([⟨[97, 98], false, false⟩, ⟨[], false, true⟩, ⟨[], true, false⟩, ⟨[], false, true⟩], [120]) := by
  simp [feedS, split, pre, oneF, bareL]
theorem e3 : feedS 9 [120] (⟨#[98, 99, 100, 101, 13, 10]⟩ : ByteArray).data.toList = ([⟨[120, 98, 99, 100, 101], false, false⟩], []) := by simp [feedS, split, pre, oneF, bareL]
theorem e4 : feedS 9 [] (⟨#[113]⟩ : ByteArray).data.toList = ([], [113]) := by simp [feedS, split]
theorem e5 : printL [⟨#[97]⟩, ⟨#[]⟩] = [97, 13, 10, 13, 10] := by simp [printL]

set_option maxRecDepth 100000 in
set_option maxHeartbeats 4000000 in
theorem small_any (w : World) : Calls Try.prog 8 #[] w fun e w' => e = .returned (.bool true) ∧ Below w.heap.size w w' := by
  go_enter Try.func8, Try.ntmps8
  go_wp2_with fail
  refine (new_any 4 w).mono ?_
  rintro e w1 ⟨rfl, f1, b1⟩
  have f1' : FS w1 (fun k => k < w.heap.size) w.heap.size [] 4 := f1
  clear f1
  go_wp2_with fail
  refine (feed_any f1' kept_nil ⟨#[97, 98, 13]⟩ (by decide)).mono ?_
  rintro e w2 ⟨v2, rfl, o2, f2, k2⟩
  rw [e1] at o2 f2
  obtain ⟨A2, c2, rfl⟩ := own_any o2
  have b2 := keep_to_below b1 k2 (Nat.le_refl _) (fun k hk => hk)
  simp only [List.length_nil] at o2 ⊢
  clear o2 k2 f1' b1
  go_wp2_with fail
  refine (rest_any f2).mono ?_
  rintro e w' ⟨rfl, rfl⟩
  go_wp2_with fail
  refine (feed_any f2 (by simp [Kept, split, pre]) ⟨#[10, 99, 10, 100, 13, 10, 97, 98, 99, 100, 101, 13, 10, 13, 13, 10, 120]⟩ (by decide)).mono ?_
  rintro e w3 ⟨v3, rfl, o3, f3, k3⟩
  rw [e2] at o3 f3
  obtain ⟨A3, c3, rfl⟩ := own_any o3
  have b3 := keep_to_below b2 k3 (Nat.le_refl _) (fun k hk => hk)
  replace o3 : w3.ownsRow w2.heap.size 42 3 (.slice A3 4 c3) 4 [.string ⟨#[97, 98]⟩, .bool false, .bool false, .string ⟨#[]⟩, .bool false, .bool true, .string ⟨#[]⟩, .bool true, .bool false, .string ⟨#[]⟩, .bool false, .bool true] := o3
  replace f3 : FS w3 (fun k => k < w.heap.size) w.heap.size [120] 4 := f3
  simp only [List.length_cons, List.length_nil, Nat.zero_add, Nat.reduceAdd]
  have f3' := f3.add o3
  clear f3 k3 f2 b2
  go_wp2_with fail
  refine (rest_any f3').mono ?_
  rintro e w' ⟨rfl, rfl⟩
  go_wp2_with fail
  refine (most_any f3' 9).mono ?_
  rintro e w4 ⟨rfl, f4, k4⟩
  have o4 := own_only o3 k4 (fun k hk hn => hn (.inr hk))
  have b4 := keep_to_below b3 k4 (Nat.le_refl _) (fun k hk => .inl hk)
  replace f4 : FS w4 _ w.heap.size [120] 9 := f4
  clear f3' k4 o3 b3
  go_wp2_with fail
  refine (feed_any f4 (by simp [Kept, split]) ⟨#[98, 99, 100, 101, 13, 10]⟩ (by decide)).mono ?_
  rintro e w5 ⟨v5, rfl, o5, f5, k5⟩
  rw [e3] at o5 f5
  obtain ⟨A5, c5, rfl⟩ := own_any o5
  replace o5 : w5.ownsRow w4.heap.size 42 3 (.slice A5 1 c5) 1 [.string ⟨#[120, 98, 99, 100, 101]⟩, .bool false, .bool false] := o5
  replace f5 : FS w5 _ w.heap.size [] 9 := f5
  simp only [List.length_cons, List.length_nil, Nat.zero_add, Nat.reduceAdd]
  have o45 := own_only o4 k5 (fun k hk hn => hn (.inr hk))
  have b5 := keep_to_below b4 k5 (Nat.le_refl _) (fun k hk => .inl hk)
  have f5' := f5.add o5
  clear f5 k5 f4 b4 o4
  go_wp2_with fail
  refine (feed_any f5' kept_nil ⟨#[113]⟩ (by decide)).mono ?_
  rintro e w6 ⟨v6, rfl, o6, f6, k6⟩
  rw [e4] at o6 f6
  obtain ⟨A6, c6, rfl⟩ := own_any o6
  replace f6 : FS w6 _ w.heap.size [113] 9 := f6
  have o46 := own_only o45 k6 (fun k hk hn => hn (.inl (.inr hk)))
  have o56 := own_only o5 k6 (fun k hk hn => hn (.inr hk))
  have b6 := keep_to_below b5 k6 (Nat.le_refl _) (fun k hk => .inl (.inl hk))
  simp only [List.length_nil]
  clear f5' k6 o6 o45 o5 b5
  go_wp2_with fail
  refine (reset_any f6).mono ?_
  rintro e w7 ⟨rfl, f7, k7⟩
  have o47 := own_only o46 k7 (fun k hk hn => hn (.inl (.inr hk)))
  have o57 := own_only o56 k7 (fun k hk hn => hn (.inr hk))
  have b7 := keep_to_below b6 k7 (Nat.le_refl _) (fun k hk => .inl (.inl hk))
  clear f6 k7 o46 o56 b6
  obtain ⟨g3, cap3, h3, _, _⟩ := own_some o47 (by omega)
  obtain ⟨g5, cap5, h5, _, _⟩ := own_some o57 (by omega)
  simp only [Value.slice.injEq, true_and] at h3 h5
  obtain ⟨rfl, rfl⟩ := h3
  obtain ⟨rfl, rfl⟩ := h5
  have p0 := o47.cellAt 0 (by omega)
  have p1 := o47.cellAt 1 (by omega)
  have p2 := o47.cellAt 2 (by omega)
  have p3 := o47.cellAt 3 (by omega)
  have p4 := o47.cellAt 4 (by omega)
  have p5 := o47.cellAt 5 (by omega)
  have p6 := o47.cellAt 6 (by omega)
  have p7 := o47.cellAt 7 (by omega)
  have p8 := o47.cellAt 8 (by omega)
  have p9 := o47.cellAt 9 (by omega)
  have p10 := o47.cellAt 10 (by omega)
  have p11 := o47.cellAt 11 (by omega)
  have q0 := o57.cellAt 0 (by omega)
  simp at p0 p1 p2 p3 p4 p5 p6 p7 p8 p9 p10 p11 q0
  have F7 := Lib.hid f7; have B7 := Lib.hid b7
  clear o47 o57 f7 b7
  go_wp2_with fail
  refine (rest_any F7.out).mono ?_
  rintro e w' ⟨rfl, rfl⟩
  clear p0 p1 p2 p3 p4 p5 p6 p7 p8 p9 p10 p11 q0
  have hl : ((⟨#[97]⟩ : ByteArray) :: [⟨#[]⟩]).length = 2 := rfl
  have hrd : Rd (w7.alloc (.cells #[.string ⟨#[97]⟩, .string ⟨#[]⟩] 9)) (w7.alloc (.cells #[.string ⟨#[97]⟩, .string ⟨#[]⟩] 9)).heap.size (some ⟨w7.heap.size, 0, none⟩) (([⟨#[97]⟩, ⟨#[]⟩] : List ByteArray).map .string) :=
    .inr ⟨w7.heap.size, 0, rfl, by simp, fun j u hu => by rw [(Bk.new w7 9 #[.string ⟨#[97]⟩, .string ⟨#[]⟩]).cell]; simpa using hu⟩
  have HRD := Lib.hid hrd
  have bz := B7.out.alloc B7.out.size (.cells #[.string ⟨#[97]⟩, .string ⟨#[]⟩] 9)
  have BZ := Lib.hid bz
  clear hrd bz hl
  go_wp2_with fail
  have hp := print_any (some ⟨w7.heap.size, 0, none⟩) 2 [⟨#[97]⟩, ⟨#[]⟩] _ HRD.out (by unfold sizeL; rw [e5]; decide)
  rw [e5] at hp
  refine hp.mono ?_
  rintro e w8 ⟨rfl, b8⟩
  have B8 := Lib.hid (BZ.out.trans (b8.mono BZ.out.size))
  clear b8 hp
  go_wp2_with fail
  go_ret
  exact ⟨rfl, B8.out⟩
end Go.Proofs.Ytjlpmfokekflbaa
