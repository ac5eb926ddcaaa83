/- The law QueueRoom, walked. -/
import Derived.Test.YtlbghgmeiajioaaSm
import Derived.Test.YtlbghgmeiajioaaRo
namespace Go.Proofs.Ytlbghgmeiajioaa
open Go.RowKit
set_option linter.unusedVariables false

set_option maxRecDepth 100000 in
set_option maxHeartbeats 4000000 in
theorem room_walk (room n forced : Int) (w : World) :
    Calls Try.prog 5 #[.int .i64 room, .int .i64 n, .int .i64 forced] w fun e w' => e = .returned (.bool true) ∧ Below w.heap.size w w' := by
  go_enter Try.func5, Try.ntmps5
  go_wp2_with fail
  refine (small_any w).mono ?_
  rintro e w1 ⟨rfl, b1⟩
  by_cases h1 : n < 0
  · have D1 : decide (n < 0) = true := decide_eq_true h1
    go_wp2_with fail
    go_ret
    exact ⟨rfl, b1⟩
  have D1 : decide (n < 0) = false := decide_eq_false h1
  by_cases h2 : 80 < n
  · have D2 : decide (80 < n) = true := decide_eq_true h2
    go_wp2_with fail
    go_ret
    exact ⟨rfl, b1⟩
  have D2 : decide (80 < n) = false := decide_eq_false h2
  by_cases h3 : forced < 0
  · have D3 : decide (forced < 0) = true := decide_eq_true h3
    go_wp2_with fail
    go_ret
    exact ⟨rfl, b1⟩
  have D3 : decide (forced < 0) = false := decide_eq_false h3
  by_cases h4 : 20 < forced
  · have D4 : decide (20 < forced) = true := decide_eq_true h4
    go_wp2_with fail
    go_ret
    exact ⟨rfl, b1⟩
  have D4 : decide (20 < forced) = false := decide_eq_false h4
  go_wp2_with fail
  refine (qs_new room 1 1 w1).mono ?_
  rintro e w2 ⟨rfl, hq, b2⟩
  go_upto_region 8 with fail
  obtain ⟨w3, hw3⟩ : ∃ w3, (w2.alloc (.cells #[.bool true, .string ⟨#[]⟩, .string ⟨#[]⟩] 32)).alloc (.cells #[.bool false, .string ⟨#[]⟩, .string ⟨#[]⟩, .slice (some ⟨w2.heap.size, 0, none⟩) 1 1, .slice none 0 0, .bool false, .bool false, .bool false, .int .i64 0, .int .i64 0, .int .i64 0] 38) = w3 := ⟨_, rfl⟩
  have k32 : Bk w3 w2.heap.size 32 #[.bool true, .string ⟨#[]⟩, .string ⟨#[]⟩] := by rw [← hw3]; exact (Bk.new w2 32 _).alloc _
  have k38 : Bk w3 (w2.heap.size + 1) 38 #[.bool false, .string ⟨#[]⟩, .string ⟨#[]⟩, .slice (some ⟨w2.heap.size, 0, none⟩) 1 1, .slice none 0 0, .bool false, .bool false, .bool false, .int .i64 0, .int .i64 0, .int .i64 0] := by
    have := Bk.new (w2.alloc (.cells #[.bool true, .string ⟨#[]⟩, .string ⟨#[]⟩] 32)) 38 #[.bool false, .string ⟨#[]⟩, .string ⟨#[]⟩, .slice (some ⟨w2.heap.size, 0, none⟩) 1 1, .slice none 0 0, .bool false, .bool false, .bool false, .int .i64 0, .int .i64 0, .int .i64 0]
    rw [World.size_alloc] at this
    rw [← hw3]; exact this
  have b3 : Below w2.heap.size w2 w3 := by rw [← hw3]; exact ((Below.refl _ w2).alloc (Nat.le_refl _) _).alloc (by simp) _
  have z3 : w3.heap.size = w2.heap.size + 2 := by rw [← hw3]; simp
  rw [hw3]
  clear hw3
  have hq3 := hq.more b3
  obtain ⟨R, hR⟩ : ∃ R, max 0 (min room 64) = R := ⟨_, rfl⟩
  rw [hR, show max 1 (min 1 16) = (1 : Int) by decide, show max 1 (min 1 1000) = (1 : Int) by decide] at hq3
  have R0 : 0 ≤ R := by omega
  have R1 : R ≤ 64 := by omega
  obtain ⟨P, hP⟩ : ∃ P : Nat → Prop, P = fun k => k < w1.heap.size ∨ (w2.heap.size ≤ k ∧ k < w3.heap.size) := ⟨_, rfl⟩
  rw [← hP] at hq3
  have p32 : P w2.heap.size := by rw [hP]; exact .inr ⟨Nat.le_refl _, by omega⟩
  have p38 : P (w2.heap.size + 1) := by rw [hP]; exact .inr ⟨by omega, by omega⟩
  have pw : ∀ k, k < w.heap.size → P k := fun k hk => by rw [hP]; exact .inl (by have := b1.size; omega)
  have B3 : Below w.heap.size w w3 := (b1.trans (b2.mono b1.size)).trans (b3.mono (by have := b1.size; have := b2.size; omega))
  have Pw := Lib.hid pw; have HR := Lib.hid hR
  clear hP pw hR b1 b2 b3 hq
  go_cut [10] from 25 (fun c wx => c = .int .i64 R ∧ wx = w3)
  case first =>
    have hR := HR.out
    go_wp2_with fail
    all_goals
      go_meet
      exact ⟨by congr 1; omega, rfl⟩
  case rest =>
    obtain ⟨rfl, rfl⟩ := hcut
    go_wp2_with fail
    go_loopw [11] (fun i wr => ∃ k : Nat, (k : Int) ≤ n ∧ i = .int .i64 k ∧ QS wr P w1.heap.size (RL (min k R.toNat) 0) R 1 1 ∧ Keep P wc wr) (fun i _ => n.toNat - (intOf i).toNat)
    case atStart => exact ⟨0, by omega, rfl, by simpa [RL] using hq3, Only.refl _ _⟩
    case round =>
      obtain ⟨k, hk, rfl, hqr, hkr⟩ := hrel
      have k32' := k32.keep hkr p32
      have k38' := k38.keep hkr p38
      have mc0 := k38'.cell 0
      have mc1 := k38'.cell 1
      have mc2 := k38'.cell 2
      have mc3 := k38'.cell 3
      have mc4 := k38'.cell 4
      have mc5 := k38'.cell 5
      have mc6 := k38'.cell 6
      have mc7 := k38'.cell 7
      have mc8 := k38'.cell 8
      have mc9 := k38'.cell 9
      have mc10 := k38'.cell 10
      simp at mc0 mc1 mc2 mc3 mc4 mc5 mc6 mc7 mc8 mc9 mc10
      have m38 := k38'.lt
      by_cases hlt : (k : Int) < n
      · by_cases hr : (k : Int) < R
        · have a1 : addS R (RL (min k R.toNat) 0) mR false = ((k : Int) + 1, 0, RL (min (k + 1) R.toNat) 0) := by
            rw [RL_add, show min k R.toNat = k by omega, show min (k + 1) R.toNat = k + 1 by omega, if_neg (by simp; omega)]
          have A1 := Lib.hid a1
          clear a1
          have D : decide ((k : Int) < R) = true := decide_eq_true hr
          go_wp2_with fail
          refine (qs_add hqr (RL_small _ _ (by omega)) (by rw [RL_len]; omega) mR (some ⟨w2.heap.size, 0, none⟩) none 1 0 (by decide) (by decide) (rd_of_bk (cs := mR.to.flatMap Pth.cells) k32' k32'.lt) (Rd.nil _ _ _) false).mono ?_
          rintro e w4 ⟨he, hq4, k4⟩
          rw [A1.out] at he hq4
          dsimp only at he hq4
          subst he
          go_wp2_with fail
          exact ⟨⟨k + 1, by omega, by go_num, hq4, hkr.trans k4⟩, by simp [intOf]; omega⟩
        · have a1 : addS R (RL (min k R.toNat) 0) mR false = (0, 2, RL (min (k + 1) R.toNat) 0) := by
            rw [RL_add, show min k R.toNat = R.toNat by omega, show min (k + 1) R.toNat = R.toNat by omega, if_pos (by simp; omega)]
          have A1 := Lib.hid a1
          clear a1
          have D : decide ((k : Int) < R) = false := decide_eq_false hr
          go_wp2_with fail
          refine (qs_add hqr (RL_small _ _ (by omega)) (by rw [RL_len]; omega) mR (some ⟨w2.heap.size, 0, none⟩) none 1 0 (by decide) (by decide) (rd_of_bk (cs := mR.to.flatMap Pth.cells) k32' k32'.lt) (Rd.nil _ _ _) false).mono ?_
          rintro e w4 ⟨he, hq4, k4⟩
          rw [A1.out] at he hq4
          dsimp only at he hq4
          subst he
          go_wp2_with fail
          exact ⟨⟨k + 1, by omega, by go_num, hq4, hkr.trans k4⟩, by simp [intOf]; omega⟩
      · obtain ⟨N1, hN1⟩ : ∃ N1, min k R.toNat = N1 := ⟨_, rfl⟩
        rw [hN1] at hqr
        have hkn : (k : Int) = n := by omega
        clear k32' k38' m38 mc0 mc1 mc2 mc3 mc4 mc5 mc6 mc7 mc8 mc9 mc10
        rename World => w5
        have HN := Lib.hid hN1
        have l1 : N1 ≤ 80 := by omega
        clear hN1
        go_wp2_with fail
        go_loopw [14] (fun i wr => ∃ j : Nat, (j : Int) ≤ forced ∧ i = .int .i64 j ∧ QS wr P w1.heap.size (RL (N1 + j) 0) R 1 1 ∧ Keep P wc wr) (fun i _ => forced.toNat - (intOf i).toNat)
        case atStart => exact ⟨0, by omega, rfl, hqr, hkr⟩
        case round =>
          obtain ⟨j, hj, rfl, hqs, hks⟩ := hrel
          have k32' := k32.keep hks p32
          have k38' := k38.keep hks p38
          have mc0 := k38'.cell 0
          have mc1 := k38'.cell 1
          have mc2 := k38'.cell 2
          have mc3 := k38'.cell 3
          have mc4 := k38'.cell 4
          have mc5 := k38'.cell 5
          have mc6 := k38'.cell 6
          have mc7 := k38'.cell 7
          have mc8 := k38'.cell 8
          have mc9 := k38'.cell 9
          have mc10 := k38'.cell 10
          simp at mc0 mc1 mc2 mc3 mc4 mc5 mc6 mc7 mc8 mc9 mc10
          have m38 := k38'.lt
          by_cases hlt2 : (j : Int) < forced
          · have a1 : addS R (RL (N1 + j) 0) mR true = (((N1 + j : Nat) : Int) + 1, 0, RL (N1 + (j + 1)) 0) := by
              rw [RL_add, if_neg (by simp)]; rfl
            have A1 := Lib.hid a1
            clear a1
            go_wp2_with fail
            refine (qs_add hqs (RL_small _ _ (by omega)) (by rw [RL_len]; omega) mR (some ⟨w2.heap.size, 0, none⟩) none 1 0 (by decide) (by decide) (rd_of_bk (cs := mR.to.flatMap Pth.cells) k32' k32'.lt) (Rd.nil _ _ _) true).mono ?_
            rintro e w4 ⟨he, hq4, k4⟩
            rw [A1.out] at he hq4
            dsimp only at he hq4
            subst he
            go_wp2_with fail
            exact ⟨⟨j + 1, by omega, by go_num, hq4, hks.trans k4⟩, by simp [intOf]; omega⟩
          · obtain ⟨K, hK⟩ : ∃ K, N1 + j = K := ⟨_, rfl⟩
            rw [hK] at hqs
            have hKK : (K : Int) = min n R + forced := by have := HN.out; omega
            have l2 : K ≤ 100 := by omega
            clear k32' k38' m38 mc0 mc1 mc2 mc3 mc4 mc5 mc6 mc7 mc8 mc9 mc10
            rename World => w6
            go_upto_region 21 with fail
            go_cut [17] from 25 (fun c wx => c = .int .i64 (K : Int) ∧ wx = w6)
            case first =>
              go_wp2_with fail
              all_goals
                go_meet
                exact ⟨by congr 1; omega, rfl⟩
            case rest =>
              obtain ⟨rfl, rfl⟩ := hcut
              clear hKK hK
              have B6 := keep_to_below B3 hks (Nat.le_refl _) Pw.out
              go_wp2_with fail
              refine (qs_open hqs (RL_small _ _ (by omega))).mono ?_
              rintro e w7 ⟨he, hq7, k7⟩
              rw [RL_open K 0 (Nat.zero_le _)] at he
              subst he
              go_wp2_with fail
              refine (qs_full hq7 (RL_small _ _ (by omega))).mono ?_
              rintro e w8 ⟨he, hq8, k8⟩
              rw [RL_open K 0 (Nat.zero_le _)] at he
              subst he
              have B8 := (B6.trans (k7.mono B6.size)).trans (k8.mono (B6.trans (k7.mono B6.size)).size)
              clear hq7 k7 k8
              go_wp2_with fail
              rename World => w8
              go_loopw [18] (fun i wr => ∃ d : Nat, d ≤ K ∧ i = .int .i64 d ∧ QS wr P w1.heap.size (RL K d) R 1 1 ∧ Keep P w8 wr) (fun i _ => K - (intOf i).toNat)
              case atStart => exact ⟨0, by omega, rfl, hq8, Only.refl _ _⟩
              case round =>
                obtain ⟨d, hd, rfl, hqd, hkd⟩ := hrel
                by_cases hdl : d < K
                · have a1 := RL_due K d hdl 0 (by decide)
                  have a2 := RL_take K d hdl
                  have a3 := RL_sent K d hdl
                  have A1 := Lib.hid a1; have A2 := Lib.hid a2; have A3 := Lib.hid a3
                  clear a1 a2 a3
                  go_wp2_with fail
                  refine (qs_due hqd (RL_small _ _ (by omega)) 0).mono ?_
                  rintro e w9 ⟨he, hq9, k9⟩
                  rw [A1.out] at he
                  dsimp only at he
                  subst he
                  go_wp2_with fail
                  refine (qs_take hq9 (RL_small _ _ (by omega)) _ _).mono ?_
                  rintro e w10 ⟨he, hq10, k10⟩
                  rw [A2.out] at he hq10
                  dsimp only at he hq10
                  subst he
                  go_wp2_with fail
                  refine (qs_sent hq10 (RM_small _ _ (by omega)) _ _).mono ?_
                  rintro e w11 ⟨he, hq11, k11⟩
                  rw [A3.out] at he hq11
                  dsimp only at he hq11
                  subst he
                  go_wp2_with fail
                  exact ⟨⟨d + 1, by omega, by go_num, hq11, ((hkd.trans (keep_below k9)).trans k10).trans k11⟩, by simp [intOf]; omega⟩
                · obtain rfl : d = K := by omega
                  have B9 := keep_to_below B8 hkd (Nat.le_refl _) Pw.out
                  have a1 := RL_over d 9223372036854775807
                  have A1 := Lib.hid a1
                  clear a1
                  go_wp2_with fail
                  refine (qs_due hqd (RL_small _ _ (by omega)) _).mono ?_
                  rintro e w9 ⟨he, hq9, k9⟩
                  rw [A1.out] at he
                  dsimp only at he
                  subst he
                  have B10 := B9.trans (k9.mono B9.size)
                  go_wp2_with fail
                  refine (qs_open hq9 (RL_small _ _ (by omega))).mono ?_
                  rintro e w10 ⟨he, hq10, k10⟩
                  rw [RL_open d d (Nat.le_refl _), Nat.sub_self] at he
                  subst he
                  have B11 := B10.trans (k10.mono B10.size)
                  go_wp2_with fail
                  refine (qs_full hq10 (RL_small _ _ (by omega))).mono ?_
                  rintro e w11 ⟨he, hq11, k11⟩
                  rw [RL_open d d (Nat.le_refl _), Nat.sub_self] at he
                  have B12 := B11.trans (k11.mono B11.size)
                  by_cases hr0 : R = 0
                  · rw [decide_eq_true (by omega)] at he
                    subst he
                    have D : (R == 0) = true := by simp [hr0]
                    go_wp2_with fail
                    refine (qs_len hq11).mono ?_
                    rintro e w' ⟨rfl, rfl⟩
                    rw [RL_len]
                    go_wp2_with fail
                    go_ret
                    exact ⟨rfl, B12⟩
                  · rw [decide_eq_false (by omega)] at he
                    subst he
                    have D : (R == 0) = false := by simp [hr0]
                    go_wp2_with fail
                    refine (qs_len hq11).mono ?_
                    rintro e w' ⟨rfl, rfl⟩
                    rw [RL_len]
                    go_wp2_with fail
                    go_ret
                    exact ⟨rfl, B12⟩
end Go.Proofs.Ytlbghgmeiajioaa
