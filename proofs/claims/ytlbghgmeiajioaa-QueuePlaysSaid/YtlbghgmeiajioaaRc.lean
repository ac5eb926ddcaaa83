/- The reference queue's New, Open and Due. -/
import Derived.Test.YtlbghgmeiajioaaRb
import Derived.Test.YtlbghgmeiajioaaIn
namespace Go.Proofs.Ytlbghgmeiajioaa
open Go.RowKit
set_option linter.unusedVariables false
set_option linter.unusedSimpArgs false

theorem rnew_eq {w : World} {a b c x y z : Int} (hx : max 0 (min a 64) = x) (hy : max 1 (min b 16) = y) (hz : max 1 (min c 1000) = z) :
    w.alloc (.cells #[.slice none 0 0, .int .i64 (max 0 (min a 64)), .int .i64 (max 1 (min b 16)), .int .i64 (max 1 (min c 1000))] 56) = w.alloc (.cells #[.slice none 0 0, .int .i64 x, .int .i64 y, .int .i64 z] 56) := by rw [hx, hy, hz]
set_option maxHeartbeats 1600000 in
theorem rnew_any (a b c : Int) (w : World) : Calls Try.prog 11 #[.int .i64 a, .int .i64 b, .int .i64 c] w fun e w' => e = .returned (.pointer (some ⟨w.heap.size, 0, none⟩)) ∧ w.alloc (.cells #[.slice none 0 0, .int .i64 (max 0 (min a 64)), .int .i64 (max 1 (min b 16)), .int .i64 (max 1 (min c 1000))] 56) = w' := by
  go_enter Try.func11, Try.ntmps11
  go_wp2
  all_goals
    go_ret
    exact ⟨rfl, rnew_eq (by omega) (by omega) (by omega)⟩

theorem open_at {it : It} {n : Nat} (hn : n < it.to.length) (h : openR it.to[n] = true) : openI it = true := by
  unfold openI
  rw [List.any_eq_true]
  exact ⟨_, List.getElem_mem hn, h⟩
theorem open_no {it : It} (h : ∀ n (hn : n < it.to.length), openR it.to[n] = false) : openI it = false := by
  unfold openI
  rw [List.any_eq_false]
  intro x hx
  obtain ⟨n, hn, rfl⟩ := List.getElem_of_mem hx
  rw [h n hn]; decide
set_option maxRecDepth 100000 in
set_option maxHeartbeats 3200000 in
theorem ropen_any (w : World) (B : Nat) (it : It) (A1 A2 : Option Addr) (c1 c2 : Nat) (h : w.ownsRow B 60 7 (.slice A1 it.to.length c1) it.to.length (it.to.flatMap Rc.cells)) (hs : it.to.length ≤ 1000) :
    Calls Try.prog 40 #[.agg (Row.cells ⟨it, .slice A1 it.to.length c1, .slice A2 it.lines.length c2⟩).toArray] w fun e w' => e = .returned (.bool (openI it)) ∧ Below w.heap.size w w' := by
  have H := Lib.hid h
  clear h
  simp only [Row.cells]
  go_enter Try.func40, Try.ntmps40
  go_wp2_with fail
  obtain ⟨o, ho⟩ : ∃ o, Obj.cells #[.int .i64 it.id, .bool it.frm.null, .string it.frm.loc, .string it.frm.dom, .slice A1 it.to.length c1, .slice A2 it.lines.length c2, .bool it.flags.head, .bool it.flags.body, .bool it.flags.bad, .int .i64 it.flags.lines, .int .i64 it.flags.hops, .int .i64 it.bytes] 51 = o := ⟨_, rfl⟩
  rw [ho]
  have k51 : (w.alloc o).cell? ⟨w.heap.size, 4, none⟩ = some (.slice A1 it.to.length c1) := by rw [← ho]; exact (Bk.new w 51 _).cell 4
  have bo : Below w.heap.size w (w.alloc o) := (Below.refl _ w).alloc (Nat.le_refl _) _
  clear ho
  go_loopw [3] (fun i wr => ∃ n : Nat, n ≤ it.to.length ∧ i = .int .i64 n ∧ wr = w.alloc o ∧ ∀ m (hm : m < it.to.length), m < n → openR it.to[m] = false) (fun i _ => it.to.length - (intOf i).toNat)
  case atStart => exact ⟨0, by omega, rfl, rfl, fun m hm h => by omega⟩
  case round =>
    obtain ⟨n, hn, rfl, rfl, hall⟩ := hrel
    have HA := Lib.hid hall
    clear hall
    by_cases hlt : n < it.to.length
    · obtain ⟨b, cap, hv, hb, hl⟩ := own_some H.out (by omega)
      simp only [Value.slice.injEq, true_and] at hv
      obtain ⟨rfl, rfl⟩ := hv
      obtain ⟨p0, p1, p2, p3, p4, p5, p6⟩ := rc_cells H.out hlt
      have d3 := (bo.cell (p := ⟨b, n * 7 + 3, none⟩) hl).trans p3
      obtain ⟨r, hr⟩ : ∃ r, it.to[n] = r := ⟨_, rfl⟩
      rw [hr] at d3
      have HR := Lib.hid hr
      have hz : (n : Int) < it.to.length := by omega
      have BO := Lib.hid bo
      clear p0 p1 p2 p3 p4 p5 p6 hr bo
      by_cases s0 : r.state = 0
      · have hyes := Lib.hid (open_at hlt (by rw [HR.out]; simp [openR, s0]))
        have D0 : (r.state == 0) = true := by simp [s0]
        go_wp2_with fail
        go_ret
        exact ⟨by rw [hyes.out]; rfl, BO.out⟩
      · have D0 : (r.state == 0) = false := by simp [s0]
        by_cases s1 : r.state = 1
        · have hyes := Lib.hid (open_at hlt (by rw [HR.out]; simp [openR, s1]))
          have D1 : (r.state == 1) = true := by simp [s1]
          go_wp2_with fail
          go_ret
          exact ⟨by rw [hyes.out]; rfl, BO.out⟩
        · have D1 : (r.state == 1) = false := by simp [s1]
          have hnx : ∀ m (hm : m < it.to.length), m < n + 1 → openR it.to[m] = false := fun m hm h => by
            rcases Nat.lt_succ_iff_lt_or_eq.1 h with h | h
            · exact HA.out m hm h
            · subst h; rw [HR.out]; simp [openR, s0, s1]
          have HN := Lib.hid hnx
          clear hnx
          go_wp2_with fail
          exact ⟨⟨n + 1, by omega, by go_num, by trivial, HN.out⟩, by simp [intOf]; omega⟩
    · obtain rfl : n = it.to.length := by omega
      have hno := Lib.hid (open_no (fun m hm => HA.out m hm hm))
      go_wp2_with fail
      go_ret
      exact ⟨by rw [hno.out]; rfl, bo⟩
set_option maxRecDepth 100000 in
set_option maxHeartbeats 3200000 in
theorem rcount_any (w : World) (B g : Nat) (v : Value) (rows : List Row) (room tries wait : Int) (h : Qm w B g 56 v rows room tries wait) (hs : Small (rows.map Row.it)) :
    Calls Try.prog 29 #[.pointer (some ⟨g, 0, none⟩)] w fun e w' => e = .returned (.int .i64 (openN (rows.map Row.it))) ∧ Below w.heap.size w w' := by
  have hl : rows.length ≤ 1000 := by have := hs.1; simpa using this
  have c0 := h.blk.cell 0
  have lg := h.blk.lt
  simp at c0
  obtain ⟨A, c, rfl⟩ := own_any h.row
  have H := Lib.hid h; have Hs := Lib.hid hs
  clear h hs
  go_enter Try.func29, Try.ntmps29
  go_wp2_with fail
  go_loopw [3, 4] (fun n i wr => ∃ k : Nat, k ≤ rows.length ∧ i = .int .i64 k ∧ n = .int .i64 (cntO rows k) ∧ Below w.heap.size w wr) (fun _ i _ => rows.length - (intOf i).toNat)
  case atStart => exact ⟨0, Nat.zero_le _, rfl, rfl, Below.refl _ _⟩
  case round =>
    obtain ⟨k, hk, rfl, rfl, hB⟩ := hrel
    have ho := cntO_le rows k
    have e0 := (hB.cell (p := ⟨g, 0, none⟩) lg).trans c0
    by_cases hlt : k < rows.length
    · obtain ⟨b, cap, he, hb, hl⟩ := own_some H.out.row (by omega)
      cases he
      have hz : (k : Int) < rows.length := by omega
      have hq := H.out.below hB
      obtain ⟨d0, d1, d2, d3, d4, d5, d6, d7, d8, d9, d10, d11⟩ := it_cells hq.row hlt
      have hto := (hq.own _ (List.getElem_mem hlt)).1
      have hlv := (hq.own _ (List.getElem_mem hlt)).2
      have hsm := (Hs.out.at_ (j := 0) hlt).2.1
      have hn1 := cntO_yes hlt
      have hn0 := cntO_no hlt
      generalize rows[k] = R at *
      obtain ⟨it, tv, lv⟩ := R
      dsimp only at hto hlv hn0 hn1 hsm d0 d1 d2 d3 d4 d5 d6 d7 d8 d9 d10 d11
      obtain ⟨A1, c1, rfl⟩ := own_any hto
      obtain ⟨A2, c2, rfl⟩ := own_any hlv
      have Hto := Lib.hid hto; have Hn0 := Lib.hid hn0; have Hn1 := Lib.hid hn1; have HB := Lib.hid hB
      clear hq hto hn0 hn1 hlv hB
      go_wp2_with fail
      have hc := ropen_any wr B it A1 A2 c1 c2 Hto.out (by omega)
      simp only [Row.cells] at hc
      refine hc.mono ?_
      clear hc
      rintro e w' ⟨rfl, hb2⟩
      have HB3 := Lib.hid (HB.out.trans (hb2.mono HB.out.size))
      clear hb2
      cases hany : it.to.any openR with
      | true =>
        rw [show openI it = true from hany]
        have hf := Hn1.out hany
        have HF := Lib.hid hf
        clear hf
        go_wp2_with fail
        exact ⟨⟨k + 1, by omega, by go_num, by rw [HF.out]; go_num, HB3.out⟩, by simp [intOf]; omega⟩
      | false =>
        rw [show openI it = false from hany]
        have hf := Hn0.out hany
        have HF := Lib.hid hf
        clear hf
        go_wp2_with fail
        exact ⟨⟨k + 1, by omega, by go_num, by rw [HF.out], HB3.out⟩, by simp [intOf]; omega⟩
    · obtain rfl : k = rows.length := by omega
      have hall := Lib.hid (cntO_all rows)
      have HB := Lib.hid hB
      clear hB
      go_wp2_with fail
      go_ret
      exact ⟨by rw [← hall.out]; rfl, HB.out⟩

set_option maxRecDepth 100000 in
set_option maxHeartbeats 4000000 in
theorem rdue_any (w : World) (B g : Nat) (v : Value) (rows : List Row) (room tries wait : Int) (h : Qm w B g 56 v rows room tries wait) (now : Int) (hs : Small (rows.map Row.it)) (hid : ∀ i (hi : i < rows.length), rows[i].it.id = (i : Int) + 1) :
    Calls Try.prog 16 #[.pointer (some ⟨g, 0, none⟩), .int .i64 now] w fun e w' => e = .returned (.tuple #[.int .i64 (dueS (rows.map Row.it) now).1, .int .i64 (dueS (rows.map Row.it) now).2.1, .bool (dueS (rows.map Row.it) now).2.2]) ∧ Below w.heap.size w w' := by
  have hl : rows.length ≤ 1000 := by have := hs.1; simpa using this
  have c0 := h.blk.cell 0
  have lg := h.blk.lt
  simp at c0
  obtain ⟨A, c, rfl⟩ := own_any h.row
  have H := Lib.hid h; have Hs := Lib.hid hs; have HID := Lib.hid hid
  clear h hs hid
  obtain ⟨q, hq⟩ : ∃ q, rows.map Row.it = q := ⟨_, rfl⟩
  have hql : q.length = rows.length := by rw [← hq]; simp
  have HQ := Lib.hid hq; have HQL := Lib.hid hql
  rw [hq]
  clear hq hql
  go_enter Try.func16, Try.ntmps16
  go_wp2_with fail
  go_loopw [7] (fun i wr => ∃ k : Nat, k ≤ rows.length ∧ i = .int .i64 k ∧ Below w.heap.size w wr ∧ ∀ x ∈ allL (q.take k), dueP now x = false) (fun i _ => rows.length - (intOf i).toNat)
  case atStart => exact ⟨0, Nat.zero_le _, rfl, Below.refl _ _, fun x hx => by simp [allL] at hx⟩
  case round =>
    obtain ⟨k, hk, rfl, hB, hpre⟩ := hrel
    have HP := Lib.hid hpre
    have e0 := (hB.cell (p := ⟨g, 0, none⟩) lg).trans c0
    clear hpre
    by_cases hlt : k < rows.length
    · obtain ⟨b, cap, he, hb, hl2⟩ := own_some H.out.row (by omega)
      cases he
      have hz : (k : Int) < rows.length := by omega
      have hkq : k < q.length := by have := HQL.out; omega
      obtain ⟨It0, hI⟩ : ∃ It0, q[k] = It0 := ⟨_, rfl⟩
      have hri : rows[k].it = It0 := by rw [← hI]; simp only [← HQ.out, List.getElem_map]
      have hij : It0.id = (k : Int) + 1 := by rw [← hri]; exact HID.out k hlt
      obtain ⟨ht, _⟩ := H.out.own _ (List.getElem_mem hlt)
      rw [hri] at ht
      obtain ⟨A1, c1, e1⟩ := own_any ht
      rw [e1] at ht
      obtain ⟨_, _, _, _, d4, _⟩ := it_cells H.out.row hlt
      rw [e1] at d4
      have t100 : It0.to.length ≤ 100 := by have := (Hs.out.at_ (j := 0) hlt).2.1; rw [hri] at this; exact this
      have HI := Lib.hid hI; have HIJ := Lib.hid hij; have Ht := Lib.hid ht
      clear hI hij ht hri e1
      have HB := Lib.hid hB
      have lb := hl2
      go_wp2_with fail
      go_loopw [8] (fun m wy => ∃ n : Nat, n ≤ It0.to.length ∧ m = .int .i64 n ∧ Below w.heap.size w wy ∧ ∀ x ∈ (recs It0).take n, dueP now x = false) (fun m _ => It0.to.length - (intOf m).toNat)
      case atStart => exact ⟨0, Nat.zero_le _, rfl, HB.out, fun x hx => by simp at hx⟩
      case round =>
        obtain ⟨n, hn, rfl, hB2, hrec⟩ := hrel
        have HR2 := Lib.hid hrec
        have f0 := (hB2.cell (p := ⟨g, 0, none⟩) lg).trans c0
        have f4 := (hB2.cell (p := ⟨b, k * 12 + 4, none⟩) lb).trans d4
        clear hrec
        by_cases hlt3 : n < It0.to.length
        · have hz3 : (n : Int) < It0.to.length := by omega
          obtain ⟨b1, cap1, hA1, hb1, hlb1⟩ := own_some Ht.out (by omega)
          simp only [Value.slice.injEq, true_and] at hA1
          obtain ⟨rfl, rfl⟩ := hA1
          obtain ⟨p0, p1, p2, p3, p4, p5, p6⟩ := rc_cells Ht.out hlt3
          obtain ⟨r, hr⟩ : ∃ r, It0.to[n] = r := ⟨_, rfl⟩
          rw [hr] at p0 p1 p2 p3 p4 p5 p6
          replace p0 := (hB2.cell (p := ⟨b1, n * 7, none⟩) hlb1).trans p0
          replace p1 := (hB2.cell (p := ⟨b1, n * 7 + 1, none⟩) hlb1).trans p1
          replace p2 := (hB2.cell (p := ⟨b1, n * 7 + 2, none⟩) hlb1).trans p2
          replace p3 := (hB2.cell (p := ⟨b1, n * 7 + 3, none⟩) hlb1).trans p3
          replace p4 := (hB2.cell (p := ⟨b1, n * 7 + 4, none⟩) hlb1).trans p4
          replace p5 := (hB2.cell (p := ⟨b1, n * 7 + 5, none⟩) hlb1).trans p5
          replace p6 := (hB2.cell (p := ⟨b1, n * 7 + 6, none⟩) hlb1).trans p6
          have HP2 : RowKit.Hid (∀ x ∈ allL (q.take k) ++ (recs It0).take n, dueP now x = false) := Lib.hid (fun x hx => by
            rcases List.mem_append.1 hx with h | h
            · exact HP.out x h
            · exact HR2.out x h)
          have Hat : RowKit.Hid (allL (q.take k) ++ (recs It0).take n ++ [((It0.id, (n : Int)), r)] <+: allL q) := Lib.hid (by
            have h1 := allL_at q k hkq (n + 1)
            have h2 := recs_take It0 n hlt3
            rw [HI.out, h2, hr, ← List.append_assoc] at h1
            exact h1)
          have HS : RowKit.Hid (dueP now ((It0.id, (n : Int)), r) = false → ∀ x ∈ (recs It0).take (n + 1), dueP now x = false) := Lib.hid (fun hf x hx => by
            rw [recs_take It0 n hlt3, hr] at hx
            rcases List.mem_append.1 hx with h | h
            · exact HR2.out x h
            · simp at h; subst h; exact hf)
          have HB2 := Lib.hid (fun o => hB2.alloc hB2.size o)
          clear hr hB2
          by_cases g1 : r.state = 0
          · have D1 : (r.state == 0) = true := by simp [g1]
            by_cases g2 : r.next ≤ now
            · have D2 : decide (r.next ≤ now) = true := decide_eq_true g2
              have hsome : dueS q now = (It0.id, (n : Int), true) := due_some Hat.out HP2.out (by simp [dueP, g1, g2])
              have HSO := Lib.hid hsome
              clear hsome
              go_wp2_with fail
              go_ret3
              exact ⟨by rw [HSO.out, HIJ.out]; rfl, HB2.out _⟩
            · have D2 : decide (r.next ≤ now) = false := decide_eq_false g2
              go_wp2_with fail
              exact ⟨⟨n + 1, by omega, by go_num, HB2.out _, HS.out (by simp [dueP, g2])⟩, by simp [intOf]; omega⟩
          · have D1 : (r.state == 0) = false := by simp [g1]
            go_wp2_with fail
            exact ⟨⟨n + 1, by omega, by go_num, HB2.out _, HS.out (by simp [dueP, g1])⟩, by simp [intOf]; omega⟩
        · obtain rfl : n = It0.to.length := by omega
          have HN : RowKit.Hid (∀ x ∈ allL (q.take (k + 1)), dueP now x = false) := Lib.hid (fun x hx => by
            rw [allL_take q k hkq, HI.out] at hx
            have h2 := HR2.out
            rw [List.take_of_length_le (l := recs It0) (by rw [recs_len]; omega)] at h2
            rcases List.mem_append.1 hx with h | h
            · exact HP.out x h
            · exact h2 x h)
          have HB2 := Lib.hid hB2
          clear hB2
          go_wp2_with fail
          exact ⟨⟨k + 1, by omega, by go_num, HB2.out, HN.out⟩, by simp [intOf]; omega⟩
    · obtain rfl : k = rows.length := by omega
      have hno : dueS q now = (0, 0, false) := due_none (by have h1 := HP.out; rwa [← HQL.out, List.take_length] at h1)
      have HNO := Lib.hid hno
      have HB := Lib.hid hB
      clear hno hB
      go_wp2_with fail
      go_ret3
      exact ⟨by rw [HNO.out]; rfl, HB.out⟩
end Go.Proofs.Ytlbghgmeiajioaa
