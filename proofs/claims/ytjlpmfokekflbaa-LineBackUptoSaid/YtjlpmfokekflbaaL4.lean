/- The law LineBack, walked. -/
import Derived.Test.YtjlpmfokekflbaaL3
import Derived.Test.YtjlpmfokekflbaaL1
namespace Go.Proofs.Ytjlpmfokekflbaa
open Go.RowKit
set_option linter.unusedVariables false
set_option linter.unusedSimpArgs false

theorem feed_print (most : Int) (l : List ByteArray) (hb : ∀ s ∈ l, bareL s.data.toList = false) : feedS most [] (printL l) = (l.map (fun s => oneF most s.data.toList), []) := by
  have key : split (printL l) = (l.map (fun s => s.data.toList), []) := by
    induction l with
    | nil => rfl
    | cons s l ih =>
      have ih' := ih fun x hx => hb x (List.mem_cons_of_mem _ hx)
      have e : printL (s :: l) = s.data.toList ++ 13 :: 10 :: printL l := by simp [printL]
      rw [e, split_line _ (hb s (List.mem_cons_self ..)), ih']
      rfl
  unfold feedS
  rw [List.nil_append, key, List.map_map]
  rfl
theorem size_le_tot {l : List ByteArray} {s : ByteArray} (h : s ∈ l) : s.size + 1 ≤ totL l := by
  unfold totL
  induction l with
  | nil => cases h
  | cons a l ih =>
    simp only [List.map_cons, List.sum_cons]
    rcases List.mem_cons.1 h with rfl | h
    · omega
    · have := ih h; omega

set_option maxRecDepth 100000 in
set_option maxHeartbeats 8000000 in
theorem back_walk (A : Option Addr) (c : Nat) (l : List ByteArray) (w : World) (hl : Rd w w.heap.size A (l.map .string)) (ht : totL l ≤ 1048576) :
    Calls Try.prog 6 #[.slice A l.length c] w fun e w' => e = .returned (.bool true) ∧ Below w.heap.size w w' := by
  have Hl := Lib.hid hl
  have hll := len_tot l
  clear hl
  go_enter Try.func6, Try.ntmps6
  go_wp2_with fail
  refine (small_any w).mono ?_
  rintro e w1 ⟨rfl, b1⟩
  go_wp2_with fail
  refine (short_any A c l 3000 w1 ((Hl.out.below b1).more b1.size) (by omega)).mono ?_
  rintro e w' ⟨rfl, rfl⟩
  cases hd : decide ((totL l : Int) ≤ 3000) with
  | false =>
    go_wp2_with fail
    refine (new_any 3000 w1).mono ?_
    rintro e w2 ⟨rfl, f2, b2⟩
    go_wp2_with fail
    go_ret
    exact ⟨rfl, b1.trans (b2.mono b1.size)⟩
  | true =>
    have htl : totL l ≤ 3000 := by have := of_decide_eq_true hd; omega
    have hln : l.length ≤ 3000 := by omega
    have HTL := Lib.hid htl
    clear hd ht htl hll
    go_wp2_with fail
    refine (new_any 3000 w1).mono ?_
    rintro e w2 ⟨rfl, f2, b2⟩
    have f2' : FS w2 (fun k => k < w.heap.size) w1.heap.size [] 3000 := f2.less (fun k hk => Nat.lt_of_lt_of_le hk b1.size)
    have F2 := Lib.hid f2'; have B2 := Lib.hid (b1.trans (b2.mono b1.size))
    obtain ⟨g, hg⟩ : ∃ g, w1.heap.size = g := ⟨_, rfl⟩
    rw [hg] at F2 ⊢
    clear f2 f2' b1 b2 hg
    go_wp2_with fail
    go_loopw [6] (fun i wx => ∃ k : Nat, k ≤ l.length ∧ i = .int .i64 (k : Int) ∧ (∀ s ∈ l.take k, bareL s.data.toList = false) ∧ wx = w2) (fun i _ => l.length - (intOf i).toNat)
    case atStart => exact ⟨0, Nat.zero_le _, rfl, by simp, rfl⟩
    case round =>
      obtain ⟨k, hk, rfl, hbk, rfl⟩ := hrel
      have HBK := Lib.hid hbk
      clear hbk
      by_cases hlt : k < l.length
      · have hz : (k : Int) < l.length := by omega
        obtain ⟨b, o, rfl, hb0, hc⟩ := Rd.at_ Hl.out (k := k) (by simpa using hlt)
        rw [List.getElem_map] at hc
        have hc' := (B2.out.cell (p := ⟨b, o + k, none⟩) hb0).trans hc
        have hsz := size_le_tot (List.getElem_mem hlt)
        have hnx : l.take (k + 1) = l.take k ++ [l[k]] := List.take_succ_eq_append_getElem hlt
        have HNX := Lib.hid hnx
        generalize l[k] = s at *
        have hs3 : s.size ≤ 3000 := by have := HTL.out; omega
        have hSL := str_len s
        clear hc hsz hnx
        go_wp2_with fail
        go_loopw [7] (fun i wx => ∃ j : Nat, j ≤ s.size ∧ i = .int .i64 (j : Int) ∧ bareL (s.data.toList.take j) = false ∧ wx = wr) (fun i _ => s.size - (intOf i).toNat)
        case atStart => exact ⟨0, Nat.zero_le _, rfl, rfl, rfl⟩
        case round =>
          obtain ⟨j, hj, rfl, hbj, rfl⟩ := hrel
          have HBJ := Lib.hid hbj
          clear hbj
          by_cases hjl : j < s.size
          · have hzj : (j : Int) < s.size := by omega
            have hw1 : wrap64 ((j : Int) + 1) = (j : Int) + 1 := by unfold wrap64; omega
            have hn := bare_next (l := s.data.toList) (k := j) (by omega)
            rw [data_at s j hjl, HBJ.out] at hn
            by_cases g1 : s[j]'hjl = 13
            · have e1 : (((s[j]'hjl).toNat : Int) == 13) = true := by rw [g1]; rfl
              clear g1 hn
              go_wp2_with fail
              go_ret
              exact ⟨rfl, B2.out⟩
            · have e1 : (((s[j]'hjl).toNat : Int) == 13) = false := beq_eq_false_iff_ne.2 (fun e => g1 (UInt8.toNat_inj.1 (by have : (13 : UInt8).toNat = 13 := rfl; omega)))
              by_cases g2 : s[j]'hjl = 10
              · have e2 : (((s[j]'hjl).toNat : Int) == 10) = true := by rw [g2]; rfl
                clear g1 g2 hn
                go_wp2_with fail
                go_ret
                exact ⟨rfl, B2.out⟩
              · have e2 : (((s[j]'hjl).toNat : Int) == 10) = false := beq_eq_false_iff_ne.2 (fun e => g2 (UInt8.toNat_inj.1 (by have : (10 : UInt8).toNat = 10 := rfl; omega)))
                rw [beq_eq_false_iff_ne.2 g1, beq_eq_false_iff_ne.2 g2] at hn
                have HN := Lib.hid hn
                clear g1 g2 hn
                go_wp2_with fail
                exact ⟨⟨j + 1, by omega, by go_num, HN.out, trivial⟩, by simp [intOf]; omega⟩
          · obtain rfl : j = s.size := by omega
            have hbs : bareL s.data.toList = false := by have := HBJ.out; rwa [← hSL, List.take_length] at this
            have hnew : ∀ x ∈ l.take (k + 1), bareL x.data.toList = false := by
              rw [HNX.out]
              intro x hx
              rcases List.mem_append.1 hx with hx | hx
              · exact HBK.out x hx
              · rw [List.mem_singleton.1 hx]; exact hbs
            have HNW := Lib.hid hnew
            clear hbs hnew
            go_wp2_with fail
            exact ⟨⟨k + 1, by omega, by go_num, HNW.out, trivial⟩, by simp [intOf]; omega⟩
      · obtain rfl : k = l.length := by omega
        have hbl : ∀ x ∈ l, bareL x.data.toList = false := by have := HBK.out; rwa [List.take_length] at this
        have hfp := feed_print 3000 l hbl
        have hsz : sizeL l ≤ 6000 := by have := size_tot l; have := HTL.out; omega
        have HFP := Lib.hid hfp; have HBL := Lib.hid hbl; have HSZ := Lib.hid hsz
        clear hbl hfp hsz
        go_wp2_with fail
        refine (print_any A c l wr ((Hl.out.below B2.out).more B2.out.size) (by have := HSZ.out; omega)).mono ?_
        rintro e w3 ⟨rfl, b3⟩
        have F3 := Lib.hid (F2.out.below b3); have B3 := Lib.hid (B2.out.trans (b3.mono B2.out.size))
        clear b3
        go_wp2_with fail
        refine (feed_any F3.out kept_nil ⟨(printL l).toArray⟩ (by have := HSZ.out; show 0 + (printL l).length ≤ _; unfold sizeL at this; omega)).mono ?_
        rintro e w4 ⟨v4, rfl, o4, f4, k4⟩
        have hpl : (⟨(printL l).toArray⟩ : ByteArray).data.toList = printL l := rfl
        rw [hpl, HFP.out] at o4 f4
        simp only [List.length_map] at o4
        obtain ⟨A4, c4, rfl⟩ := own_any o4
        have b4 := keep_to_below B3.out k4 (Nat.le_refl _) (fun k hk => hk)
        have O4 := Lib.hid o4; have F4 := Lib.hid f4; have B4 := Lib.hid b4
        clear o4 f4 k4 b4 hpl
        go_wp2_with fail
        go_loopw [9] (fun i wx => ∃ k q : Nat, k ≤ l.length ∧ i = .int .i64 (k : Int) ∧ wx = w4.drewN q) (fun i _ => l.length - (intOf i).toNat)
        case atStart => exact ⟨0, 0, Nat.zero_le _, rfl, rfl⟩
        case round =>
          obtain ⟨k, q, hk, rfl, rfl⟩ := hrel
          by_cases hkl : k < l.length
          · have hz : (k : Int) < l.length := by omega
            obtain ⟨b, o, rfl, hb0, hc⟩ := Rd.at_ Hl.out (k := k) (by simpa using hkl)
            rw [List.getElem_map] at hc
            have hc' := (B4.out.cell (p := ⟨b, o + k, none⟩) hb0).trans hc
            have hrd := own_rdn O4.out
            obtain ⟨b', o', rfl, hb', p0, p1, p2⟩ := fr_at hrd (k := k) (by simpa using hkl)
            have hone : oneF 3000 l[k].data.toList = ⟨l[k].data.toList, false, false⟩ := one_short (by rw [str_len]; have := size_le_tot (List.getElem_mem hkl); have := HTL.out; omega) (HBL.out _ (List.getElem_mem hkl))
            simp only [List.getElem_map, hone, Array.toArray_toList] at p0 p1 p2
            generalize l[k] = s at *
            clear hc hrd hone
            go_wp2_with fail
            go_quiet (fail)
            go_wp2_with fail
            exact ⟨⟨k + 1, q + nq, by omega, by go_num, by simp⟩, by simp [intOf]; omega⟩
          · obtain rfl : k = l.length := by omega
            have F5 := Lib.hid (F4.out.below (below_drewN (Below.refl _ w4) q)); have B5 := Lib.hid (below_drewN B4.out q)
            go_wp2_with fail
            refine (rest_any F5.out).mono ?_
            rintro e w' ⟨rfl, rfl⟩
            go_wp2_with fail
            go_ret
            exact ⟨rfl, B5.out⟩
end Go.Proofs.Ytjlpmfokekflbaa
