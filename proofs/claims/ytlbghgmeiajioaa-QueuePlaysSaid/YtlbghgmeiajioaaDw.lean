/- The law QueueDue, walked. -/
import Derived.Test.YtlbghgmeiajioaaSm
import Derived.Test.YtlbghgmeiajioaaFe
import Derived.Test.YtlbghgmeiajioaaIn
namespace Go.Proofs.Ytlbghgmeiajioaa
open Go.RowKit
set_option linter.unusedVariables false

theorem mrd_below {w w' : World} {m : Ml} {tv lv : Value} (h : MRd w w.heap.size m tv lv) (hb : Below w.heap.size w w') : MRd w' w'.heap.size m tv lv := by
  obtain ⟨⟨At, ct, e1, h1, n1⟩, ⟨Al, cl, e2, h2, n2⟩⟩ := h
  exact ⟨⟨At, ct, e1, (h1.below hb).more hb.size, n1⟩, ⟨Al, cl, e2, (h2.below hb).more hb.size, n2⟩⟩
theorem crd_below {w w' : World} {c : CRow} (h : CRd w w.heap.size c) (hb : Below w.heap.size w w') : CRd w' w'.heap.size c := ⟨mrd_below h.1 hb, h.2⟩
set_option maxRecDepth 100000 in
set_option maxHeartbeats 4000000 in
theorem due_walk (room : Int) (A : Option Addr) (c : Nat) (l : List CRow) (now : Int) (w : World) (hl : Rd w w.heap.size A (l.flatMap CRow.cells)) (hn : l.length ≤ 9223372036854775807) (hr : ∀ x ∈ l, CRd w w.heap.size x) :
    Calls Try.prog 7 #[.int .i64 room, .slice A l.length c, .int .i64 now] w fun e w' => e = .returned (.bool true) ∧ Below w.heap.size w w' := by
  have Hl := Lib.hid hl; have Hr := Lib.hid hr
  clear hl hr
  go_enter Try.func7, Try.ntmps7
  go_wp2_with fail
  refine (small_any w).mono ?_
  rintro e w1 ⟨rfl, b1⟩
  go_wp2_with fail
  refine (few_any A c l w1 ((Hl.out.below b1).more b1.size) hn (fun x hx => crd_below (Hr.out x hx) b1)).mono ?_
  rintro e w' ⟨rfl, rfl⟩
  go_wp2_with fail
  refine (qs_new room 3 7 w1).mono ?_
  rintro e w2 ⟨rfl, hq, b2⟩
  obtain ⟨R, hR⟩ : ∃ R, max 0 (min room 64) = R := ⟨_, rfl⟩
  rw [hR, show max 1 (min 3 16) = (3 : Int) by decide, show max 1 (min 7 1000) = (7 : Int) by decide] at hq
  have HR := Lib.hid hR; clear hR
  have B2 := b1.trans (b2.mono b1.size)
  cases hf : fewS l with
  | false =>
    clear hq
    go_wp2_with fail
    go_ret
    exact ⟨rfl, B2⟩
  | true =>
    obtain ⟨l40, lm⟩ := few_yes hf
    have Lm := Lib.hid lm
    have hq2 := hq.less (P' := fun k => k < w.heap.size) (fun k hk => by have := b1.size; omega)
    clear hf lm hq b1 b2
    go_wp2_with fail
    go_loopw [10] (fun i wr => ∃ (k : Nat) (q : List It), k ≤ l.length ∧ i = .int .i64 k ∧ QS wr (fun k => k < w.heap.size) w1.heap.size q R 3 7 ∧ Inv 3 k q ∧ Below w.heap.size w wr) (fun i _ => l.length - (intOf i).toNat)
    case atStart => exact ⟨0, [], by omega, rfl, hq2, Inv.nil _ (by decide) (by decide), B2⟩
    case round =>
      obtain ⟨k, q, hk, rfl, hql, hi, Bw⟩ := hrel
      by_cases hlt : k < l.length
      · obtain ⟨b, o, rfl, hb, hc⟩ := call_cells Hl.out hlt
        obtain ⟨⟨⟨At, ct, e1, rt, n1⟩, ⟨Al, cl, e2, rl, n2⟩⟩, i0, i1, i2, i3⟩ := Hr.out _ (List.getElem_mem hlt)
        obtain ⟨C, hC⟩ : ∃ C, l[k] = C := ⟨_, rfl⟩
        rw [hC] at hc e1 e2 rt rl n1 n2 i0 i1 i2 i3
        have cb := fun j hj => (Bw.cell (p := ⟨b, o + k * 15 + j, none⟩) hb).trans (hc j hj)
        have d0 : wr.cell? ⟨b, o + k * 15, none⟩ = _ := cb 0 (by decide)
        have d1 := cb 1 (by decide)
        have d2 := cb 2 (by decide)
        have d3 := cb 3 (by decide)
        have d4 := cb 4 (by decide)
        have d5 := cb 5 (by decide)
        have d6 := cb 6 (by decide)
        have d7 := cb 7 (by decide)
        have d8 := cb 8 (by decide)
        have d9 := cb 9 (by decide)
        have d10 := cb 10 (by decide)
        have d11 := cb 11 (by decide)
        have d12 := cb 12 (by decide)
        have d13 := cb 13 (by decide)
        have d14 := cb 14 (by decide)
        simp [CRow.cells, Ml.cells, e1, e2] at d0 d1 d2 d3 d4 d5 d6 d7 d8 d9 d10 d11 d12 d13 d14
        have hlt' : (k : Int) < l.length := by omega
        have lk := (Lm.out k hlt).2
        rw [hC] at lk
        have hq10 := fun o => hql.below ((Below.refl wr.heap.size wr).alloc (Nat.le_refl _) o)
        have hb10 := fun o => Bw.alloc Bw.size o
        have Hq := Lib.hid hq10; have HB := Lib.hid hb10; have HI := Lib.hid hi
        have Rt := Lib.hid rt; have Rl := Lib.hid rl
        have sm : Small q := hi.small (by omega)
        have Sm := Lib.hid sm
        have q500 : q.length ≤ 500 := by have := hi.len; omega
        clear hc cb hq10 hb10 hi rt rl sm hql e1 e2 i0 i1 i2 i3
        go_wp2_with fail
        · refine (qs_add (Hq.out _) Sm.out q500 C.m At Al ct cl n1 (by omega) ((Rt.out.below (HB.out _)).more (HB.out _).size) ((Rl.out.below (HB.out _)).more (HB.out _).size) _).mono ?_
          rintro e w4 ⟨rfl, hq4, k4⟩
          have B4 := keep_to_below (HB.out _) k4 (Nat.le_refl _) (fun _ h => h)
          have I4 := HI.out.addS R C.m lk (bits BinOp.and IntKind.i64 C.which 7 == 7)
          clear k4
          go_wp2_with fail
          exact ⟨⟨k + 1, _, by omega, by go_num, hq4, I4, B4⟩, by simp [intOf]; omega⟩
        · refine (qs_add (Hq.out _) Sm.out q500 C.m At Al ct cl n1 (by omega) ((Rt.out.below (HB.out _)).more (HB.out _).size) ((Rl.out.below (HB.out _)).more (HB.out _).size) true).mono ?_
          rintro e w4 ⟨rfl, hq4, k4⟩
          have B4 := keep_to_below (HB.out _) k4 (Nat.le_refl _) (fun _ h => h)
          have I4 := HI.out.addS R C.m lk true
          clear k4
          go_wp2_with fail
          exact ⟨⟨k + 1, _, by omega, by go_num, hq4, I4, B4⟩, by simp [intOf]; omega⟩
        · refine (qs_later (Hq.out _) Sm.out C.id C.k C.n (by decide) (by decide)).mono ?_
          rintro e w4 ⟨rfl, hq4, k4⟩
          have B4 := keep_to_below (HB.out _) k4 (Nat.le_refl _) (fun _ h => h)
          have I4 := (HI.out.laterS 7 C.id C.k C.n).more (Nat.le_succ _)
          clear k4
          go_wp2_with fail
          exact ⟨⟨k + 1, _, by omega, by go_num, hq4, I4, B4⟩, by simp [intOf]; omega⟩
        · refine (qs_fail (Hq.out _) Sm.out C.id C.k C.n).mono ?_
          rintro e w4 ⟨rfl, hq4, k4⟩
          have B4 := keep_to_below (HB.out _) k4 (Nat.le_refl _) (fun _ h => h)
          have I4 := (HI.out.failS C.id C.k C.n).more (Nat.le_succ _)
          clear k4
          go_wp2_with fail
          exact ⟨⟨k + 1, _, by omega, by go_num, hq4, I4, B4⟩, by simp [intOf]; omega⟩
        · refine (qs_take (Hq.out _) Sm.out C.id C.k).mono ?_
          rintro e w4 ⟨rfl, hq4, k4⟩
          have B4 := keep_to_below (HB.out _) k4 (Nat.le_refl _) (fun _ h => h)
          have I4 := (HI.out.takeS C.id C.k).more (Nat.le_succ _)
          clear k4
          go_wp2_with fail
          exact ⟨⟨k + 1, _, by omega, by go_num, hq4, I4, B4⟩, by simp [intOf]; omega⟩
      · obtain rfl : k = l.length := by omega
        clear hq2 B2
        have sm : Small q := hi.small (by omega)
        have Sm := Lib.hid sm
        have ids := Lib.hid hi.ids
        have lns := Lib.hid hi.lines
        have q40 : q.length ≤ 40 := by have := hi.len; omega
        clear sm hi
        go_wp2_with fail
        refine (qs_due hql Sm.out now).mono ?_
        rintro e w4 ⟨rfl, hq4, k4⟩
        have B4 := Bw.trans (k4.mono Bw.size)
        clear hql k4 Bw
        go_wp2_with fail
        obtain ⟨D, hD⟩ : ∃ D, dueS q now = D := ⟨_, rfl⟩
        have HD := Lib.hid hD
        rw [hD]
        clear hD
        go_loopw [15] (fun i wr => ∃ (j : Nat), j ≤ q.length ∧ i = .int .i64 ((j : Int) + 1) ∧ QS wr (fun k => k < w.heap.size) w1.heap.size q R 3 7 ∧ Below w.heap.size w wr ∧ ∀ x ∈ allL (q.take j), dueP now x = false) (fun i _ => 50 - (intOf i).toNat)
        case atStart => exact ⟨0, by omega, rfl, hq4, B4, fun x hx => by simp [allL] at hx⟩
        case round =>
          obtain ⟨j, hj, rfl, hqj, Bj, hpre⟩ := hrel
          have HP := Lib.hid hpre
          clear hpre hq4 B4
          by_cases hlt2 : j < q.length
          · have hlt2' : (j : Int) < q.length := by omega
            have hij := ids.out j hlt2
            go_wp2_with fail
            refine (qs_len hqj).mono ?_
            rintro e w' ⟨rfl, rfl⟩
            go_wp2_with fail
            refine (qs_item hqj Sm.out j hlt2 (by have := lns.out _ (List.getElem_mem hlt2); omega)).mono ?_
            rintro e w5 ⟨tv, lv, rfl, ⟨ht, hl⟩, hq5, k5⟩
            have B5 := Bj.trans (k5.mono Bj.size)
            clear k5 hqj Bj
            obtain ⟨It0, hI⟩ : ∃ It0, q[j] = It0 := ⟨_, rfl⟩
            rw [hI] at ht hl hij
            rw [hI]
            have HIJ := Lib.hid hij; clear hij
            dsimp only at ht hl
            obtain ⟨A1, c1, rfl⟩ := own_any ht
            obtain ⟨A2, c2, rfl⟩ := own_any hl
            have hq6 := fun o => hq5.below ((Below.refl w5.heap.size w5).alloc (Nat.le_refl _) o)
            have hb6 := fun o => B5.alloc B5.size o
            have Hq := Lib.hid hq6; have HB := Lib.hid hb6; have Ht := Lib.hid ht
            have t100 : It0.to.length ≤ 100 := by have := (Sm.out.2 _ (List.getElem_mem hlt2)).1; rw [hI] at this; exact this
            clear hq5 B5 hq6 hb6 ht hl
            simp only [Row.cells]
            go_wp2_with fail
            go_loopw [18] (fun i wr' => ∃ (n : Nat), n ≤ It0.to.length ∧ i = .int .i64 (n : Int) ∧ wr' = w5.alloc (.cells #[.int .i64 It0.id, .bool It0.frm.null, .string It0.frm.loc, .string It0.frm.dom, .slice A1 It0.to.length c1, .slice A2 It0.lines.length c2, .bool It0.flags.head, .bool It0.flags.body, .bool It0.flags.bad, .int .i64 It0.flags.lines, .int .i64 It0.flags.hops, .int .i64 It0.bytes] 51) ∧ ∀ x ∈ (recs It0).take n, dueP now x = false) (fun i _ => 200 - (intOf i).toNat)
            case atStart => exact ⟨0, by omega, rfl, rfl, fun x hx => by simp at hx⟩
            case round =>
              obtain ⟨n, hn0, rfl, rfl, hrec⟩ := hrel
              have hpre2 : ∀ x ∈ allL (q.take j) ++ (recs It0).take n, dueP now x = false := fun x hx => by
                rcases List.mem_append.1 hx with h | h
                · exact HP.out x h
                · exact hrec x h
              have HP2 := Lib.hid hpre2; have HR2 := Lib.hid hrec
              clear hpre2 hrec
              by_cases hlt3 : n < It0.to.length
              · have hlt3' : (n : Int) < It0.to.length := by omega
                obtain ⟨b, cap, hA1, hb, hlb⟩ := own_some Ht.out (by omega)
                simp only [Value.slice.injEq, true_and] at hA1
                obtain ⟨rfl, rfl⟩ := hA1
                obtain ⟨_, _, _, s3, s4, s5, s6⟩ := rc_cells Ht.out hlt3
                obtain ⟨r, hr⟩ : ∃ r, It0.to[n] = r := ⟨_, rfl⟩
                rw [hr] at s3 s4 s5 s6
                have hat : allL (q.take j) ++ (recs It0).take n ++ [((It0.id, (n : Int)), r)] <+: allL q := by
                  have h1 := allL_at q j hlt2 (n + 1)
                  have h2 := recs_take It0 n hlt3
                  rw [hI, h2, hr, ← List.append_assoc] at h1
                  exact h1
                have Hat := Lib.hid hat
                have hstep : dueP now ((It0.id, (n : Int)), r) = false → ∀ x ∈ (recs It0).take (n + 1), dueP now x = false := fun hf x hx => by
                  rw [recs_take It0 n hlt3, hr] at hx
                  rcases List.mem_append.1 hx with h | h
                  · exact HR2.out x h
                  · simp at h; subst h; exact hf
                have HS := Lib.hid hstep
                clear hat hstep
                by_cases g1 : r.state = 0
                · have D1 : (r.state == 0) = true := by simp [g1]
                  by_cases g2 : r.next ≤ now
                  · have D2 : decide (r.next ≤ now) = true := decide_eq_true g2
                    have hDD := HD.out
                    have hsome : dueS q now = (It0.id, (n : Int), true) := due_some Hat.out HP2.out (by simp [dueP, g1, g2])
                    rw [hsome, HIJ.out] at hDD
                    subst hDD
                    go_wp2_with fail
                    go_ret
                    exact ⟨rfl, HB.out _⟩
                  · have D2 : decide (r.next ≤ now) = false := decide_eq_false g2
                    go_wp2_with fail
                    exact ⟨⟨n + 1, by omega, by go_num, trivial, HS.out (by simp [dueP, g2])⟩, by simp [intOf]; omega⟩
                · have D1 : (r.state == 0) = false := by simp [g1]
                  go_wp2_with fail
                  exact ⟨⟨n + 1, by omega, by go_num, trivial, HS.out (by simp [dueP, g1])⟩, by simp [intOf]; omega⟩
              · obtain rfl : n = It0.to.length := by omega
                have hnext : ∀ x ∈ allL (q.take (j + 1)), dueP now x = false := fun x hx => by
                  rw [allL_take q j hlt2, hI] at hx
                  have := HP2.out x
                  rw [List.take_of_length_le (l := recs It0) (by rw [recs_len]; omega)] at this
                  exact this hx
                have HN := Lib.hid hnext
                clear hnext
                go_wp2_with fail
                exact ⟨⟨j + 1, by omega, by go_num, Hq.out _, HB.out _, HN.out⟩, by simp [intOf]; omega⟩
          · obtain rfl : j = q.length := by omega
            go_wp2_with fail
            refine (qs_len hqj).mono ?_
            rintro e w' ⟨rfl, rfl⟩
            have hDD := HD.out
            have hnone : dueS q now = (0, 0, false) := due_none (by have := HP.out; rwa [List.take_length] at this)
            rw [hnone] at hDD
            subst hDD
            go_wp2_with fail
            go_ret
            exact ⟨rfl, Bj⟩
end Go.Proofs.Ytlbghgmeiajioaa
