/- The law QueueTries, walked. -/
import Derived.Test.YtlbghgmeiajioaaSm
import Derived.Test.YtlbghgmeiajioaaTo
namespace Go.Proofs.Ytlbghgmeiajioaa
open Go.RowKit
set_option linter.unusedVariables false

set_option maxRecDepth 100000 in
set_option maxHeartbeats 4000000 in
theorem tries_walk (tries wait : Int) (null : Bool) (w : World) :
    Calls Try.prog 6 #[.int .i64 tries, .int .i64 wait, .bool null] w fun e w' => e = .returned (.bool true) ∧ Below w.heap.size w w' := by
  go_enter Try.func6, Try.ntmps6
  go_wp2_with fail
  refine (small_any w).mono ?_
  rintro e w1 ⟨rfl, b1⟩
  go_wp2_with fail
  refine (qs_new 1 tries wait w1).mono ?_
  rintro e w2 ⟨rfl, hq, b2⟩
  obtain ⟨T, hT⟩ : ∃ T, max 1 (min tries 16) = T := ⟨_, rfl⟩
  obtain ⟨D, hD⟩ : ∃ D, max 1 (min wait 1000) = D := ⟨_, rfl⟩
  rw [hT, hD, show max 0 (min 1 64) = (1 : Int) by decide] at hq
  have T0 : 1 ≤ T := by omega
  have T1 : T ≤ 16 := by omega
  have D0 : 1 ≤ D := by omega
  have D1 : D ≤ 1000 := by omega
  have HT := Lib.hid hT; have HD := Lib.hid hD
  clear hT hD
  go_upto_region 5 with fail
  go_cut [9] from 28 (fun c wx => c = .int .i64 T ∧ wx = w2)
  case first =>
    have hT := HT.out
    go_wp2_with fail
    all_goals
      go_meet
      exact ⟨by congr 1; omega, rfl⟩
  case rest =>
    obtain ⟨rfl, rfl⟩ := hcut
    go_upto_region 6 with fail
    go_cut [10] from 28 (fun c wx => c = .int .i64 D ∧ wx = wc)
    case first =>
      have hD := HD.out
      go_wp2_with fail
      all_goals
        go_meet
        exact ⟨by congr 1; omega, rfl⟩
    case rest =>
      obtain ⟨rfl, rfl⟩ := hcut
      go_wp2_with fail
      obtain ⟨w3, hw3⟩ : ∃ w3, wc.alloc (.cells #[.bool false, .string ⟨#[]⟩, .string ⟨#[]⟩] 32) = w3 := ⟨_, rfl⟩
      have k32 : Bk w3 wc.heap.size 32 #[.bool false, .string ⟨#[]⟩, .string ⟨#[]⟩] := by rw [← hw3]; exact Bk.new wc 32 _
      have b3 : Below wc.heap.size wc w3 := by rw [← hw3]; exact (Below.refl _ wc).alloc (Nat.le_refl _) _
      have z3 : w3.heap.size = wc.heap.size + 1 := by rw [← hw3]; simp
      rw [hw3]
      clear hw3
      have hq3 := (hq.less (P' := fun k => k < w.heap.size) (fun k hk => by have := b1.size; omega)).below b3
      have B3 : Below w.heap.size w w3 := (b1.trans (b2.mono b1.size)).trans (b3.mono (b1.trans (b2.mono b1.size)).size)
      clear hq b1 b2 b3
      refine (qs_add hq3 nil_small (by simp) (mT null) (some ⟨wc.heap.size, 0, none⟩) none 1 0 (by simp [mT]) (by simp [mT]) (rd_of_bk (cs := (mT null).to.flatMap Pth.cells) k32 k32.lt) (Rd.nil _ _ _) false).mono ?_
      rintro e w4 ⟨he, hq4, k4⟩
      rw [tr_add] at he hq4
      dsimp only at he hq4
      subst he
      have B4 := keep_to_below B3 k4 (Nat.le_refl _) (fun _ h => h)
      clear hq3 B3 k4 k32 z3
      go_wp2_with fail
      go_loopw [11, 12] (fun nw i wr => ∃ (k : Nat) (n : Int), (k : Int) ≤ T ∧ nw = .int .i64 n ∧ i = .int .i64 ((k : Int) + 1) ∧ 0 ≤ n ∧ n ≤ 16000 * (k : Int) ∧ Below w.heap.size w wr ∧ ∃ l, QS wr (fun k => k < w.heap.size) w1.heap.size l 1 T D ∧ (((k : Int) < T → l = [itT null 0 k n 0]) ∧ ((k : Int) = T → ∃ n', l = [itT null (endT null) k n' 447]))) (fun _ i _ => 17 - (intOf i).toNat)
      case atStart => exact ⟨0, 0, by omega, rfl, rfl, by omega, by omega, B4, _, hq4, fun _ => rfl, fun h => by omega⟩
      case round =>
        obtain ⟨k, n, hk, rfl, rfl, n0, n1, Bw, l, hql, hl0, hl1⟩ := hrel
        by_cases hlt : (k : Int) < T
        · obtain rfl := hl0 hlt
          clear hl0 hl1 hq4 B4
          have a1 := tr_early null k n 0 (n - 1) (by omega)
          have a2 := tr_due null k n 0
          have a3 := tr_take null k n 0
          have A1 := Lib.hid a1; have A2 := Lib.hid a2; have A3 := Lib.hid a3
          clear a1 a2 a3
          go_wp2_with fail
          refine (qs_due hql (itT_small _ _ _ _ _ (by omega) (by omega)) _).mono ?_
          rintro e w5 ⟨he, hq5, k5⟩
          rw [A1.out] at he
          dsimp only at he
          subst he
          have B5 := Bw.trans (k5.mono Bw.size)
          clear hql k5 Bw A1
          go_wp2_with fail
          refine (qs_due hq5 (itT_small _ _ _ _ _ (by omega) (by omega)) _).mono ?_
          rintro e w6 ⟨he, hq6, k6⟩
          rw [A2.out] at he
          dsimp only at he
          subst he
          have B6 := B5.trans (k6.mono B5.size)
          clear hq5 k6 B5 A2
          go_wp2_with fail
          refine (qs_take hq6 (itT_small _ _ _ _ _ (by omega) (by omega)) _ _).mono ?_
          rintro e w7 ⟨he, hq7, k7⟩
          rw [A3.out] at he hq7
          dsimp only at he hq7
          subst he
          have B7 := keep_to_below B6 k7 (Nat.le_refl _) (fun _ h => h)
          clear hq6 k7 B6 A3
          go_wp2_with fail
          by_cases hl : (k : Int) + 1 < T
          · have a4 := tr_lt null T D ((k : Int) + 1) n 0 hl n0 (by omega)
            have A4 := Lib.hid a4; clear a4
            have m0 : 0 ≤ ((k : Int) + 1) * D := Int.mul_nonneg (by omega) (by omega)
            have m1 : ((k : Int) + 1) * D ≤ 16 * 1000 := Int.mul_le_mul (by omega) D1 (by omega) (by decide)
            refine (qs_later hq7 (itT_small _ _ _ _ _ (by omega) (by omega)) _ _ _ (by omega) D1).mono ?_
            rintro e w8 ⟨he, hq8, k8⟩
            rw [A4.out] at he hq8
            dsimp only at he hq8
            subst he
            have B8 := keep_to_below B7 k8 (Nat.le_refl _) (fun _ h => h)
            clear hq7 k8 B7 A4
            go_wp2_with fail
            have it : Calls Try.prog 25 #[.pointer (some ⟨w1.heap.size, 0, none⟩), .int .i64 1] w8 _ := qs_item hq8 (itT_small _ _ _ _ _ (by omega) (by omega)) 0 (by simp) (by simp [itT])
            refine it.mono ?_
            clear it
            rintro e w9 ⟨tv, lv, rfl, ⟨ht, hl⟩, hq9, k9⟩
            dsimp only [List.getElem_cons_zero] at ht hl
            obtain ⟨b, cap, rfl, hb, hlb⟩ := own_some ht (by simp [itT])
            obtain ⟨A2, c2, rfl⟩ := own_any hl
            obtain ⟨_, _, _, s0, s1, s2, s3⟩ := rc_cells (k := 0) ht (by simp [itT])
            simp [itT] at s0 s1 s2 s3
            have B9 := B8.trans (k9.mono B8.size)
            have hq10 := fun o => hq9.below ((Below.refl w9.heap.size w9).alloc (Nat.le_refl _) o)
            have Hq := Lib.hid hq10
            have B10 := fun o => B9.alloc B9.size o
            have HB := Lib.hid B10
            clear ht hl hq8 B8 k9 hq9 hq10 B9 B10
            simp only [itT, List.getElem_cons_zero, Row.cells, List.length_cons, List.length_nil, Nat.zero_add]
            go_wp2_with fail
            exact ⟨⟨k + 1, n + ((k : Int) + 1) * D, by omega, rfl, by go_num, by omega, by omega, HB.out _, _, Hq.out _, fun _ => by simp, fun h => by omega⟩, by simp [intOf]; omega⟩
          · have a4 := tr_ge null T D ((k : Int) + 1) n 0 (by omega)
            have A4 := Lib.hid a4; clear a4
            refine (qs_later hq7 (itT_small _ _ _ _ _ (by omega) (by omega)) _ _ _ (by omega) D1).mono ?_
            rintro e w8 ⟨he, hq8, k8⟩
            rw [A4.out] at he hq8
            dsimp only at he hq8
            subst he
            have B8 := keep_to_below B7 k8 (Nat.le_refl _) (fun _ h => h)
            clear hq7 k8 B7 A4
            have kT : (k : Int) + 1 = T := by omega
            have m0 : 0 ≤ T * D := Int.mul_nonneg (by omega) (by omega)
            have m1 : T * D ≤ 16 * 1000 := Int.mul_le_mul (by omega) D1 (by omega) (by decide)
            cases null with
            | false =>
              simp only [endT, Bool.false_eq_true, if_false] at hq8 ⊢
              go_wp2_with fail
              have it : Calls Try.prog 25 #[.pointer (some ⟨w1.heap.size, 0, none⟩), .int .i64 1] w8 _ := qs_item hq8 (itT_small _ _ _ _ _ (by omega) (by omega)) 0 (by simp) (by simp [itT])
              refine it.mono ?_
              clear it
              rintro e w9 ⟨tv, lv, rfl, ⟨ht, hl⟩, hq9, k9⟩
              dsimp only [List.getElem_cons_zero] at ht hl
              obtain ⟨b, cap, rfl, hb, hlb⟩ := own_some ht (by simp [itT])
              obtain ⟨A2, c2, rfl⟩ := own_any hl
              obtain ⟨_, _, _, s0, s1, s2, s3⟩ := rc_cells (k := 0) ht (by simp [itT])
              simp [itT] at s0 s1 s2 s3
              have B9 := B8.trans (k9.mono B8.size)
              have hq10 := fun o => hq9.below ((Below.refl w9.heap.size w9).alloc (Nat.le_refl _) o)
              have Hq := Lib.hid hq10
              have B10 := fun o => B9.alloc B9.size o
              have HB := Lib.hid B10
              clear ht hl hq8 B8 k9 hq9 hq10 B9 B10
              simp only [itT, List.getElem_cons_zero, Row.cells, List.length_cons, List.length_nil, Nat.zero_add]
              go_wp2_with fail
              exact ⟨⟨k + 1, n + T * D, by omega, rfl, by go_num, by omega, by omega, HB.out _, _, Hq.out _, fun h => by omega, fun h => ⟨n, by simp [endT]⟩⟩, by simp [intOf]; omega⟩
            | true =>
              simp only [endT, if_true] at hq8 ⊢
              go_wp2_with fail
              have it : Calls Try.prog 25 #[.pointer (some ⟨w1.heap.size, 0, none⟩), .int .i64 1] w8 _ := qs_item hq8 (itT_small _ _ _ _ _ (by omega) (by omega)) 0 (by simp) (by simp [itT])
              refine it.mono ?_
              clear it
              rintro e w9 ⟨tv, lv, rfl, ⟨ht, hl⟩, hq9, k9⟩
              dsimp only [List.getElem_cons_zero] at ht hl
              obtain ⟨b, cap, rfl, hb, hlb⟩ := own_some ht (by simp [itT])
              obtain ⟨A2, c2, rfl⟩ := own_any hl
              obtain ⟨_, _, _, s0, s1, s2, s3⟩ := rc_cells (k := 0) ht (by simp [itT])
              simp [itT] at s0 s1 s2 s3
              have B9 := B8.trans (k9.mono B8.size)
              have hq10 := fun o => hq9.below ((Below.refl w9.heap.size w9).alloc (Nat.le_refl _) o)
              have Hq := Lib.hid hq10
              have B10 := fun o => B9.alloc B9.size o
              have HB := Lib.hid B10
              clear ht hl hq8 B8 k9 hq9 hq10 B9 B10
              simp only [itT, List.getElem_cons_zero, Row.cells, List.length_cons, List.length_nil, Nat.zero_add]
              go_wp2_with fail
              exact ⟨⟨k + 1, n + T * D, by omega, rfl, by go_num, by omega, by omega, HB.out _, _, Hq.out _, fun h => by omega, fun h => ⟨n, by simp [endT]⟩⟩, by simp [intOf]; omega⟩
        · have hkT : (k : Int) = T := by omega
          obtain ⟨n', rfl⟩ := hl1 hkT
          clear hl0 hl1 hq4 B4
          go_wp2_with fail
          refine (qs_open hql (itT_small _ _ _ _ _ (by omega) (by omega))).mono ?_
          rintro e w5 ⟨he, hq5, k5⟩
          rw [tr_open] at he
          subst he
          have B5 := Bw.trans (k5.mono Bw.size)
          clear hql k5 Bw hq5
          go_wp2_with fail
          go_ret
          exact ⟨rfl, B5⟩
end Go.Proofs.Ytlbghgmeiajioaa
