/- How lines are printed: the reference's Print; short; Same. -/
import Derived.Test.YtjlpmfokekflbaaN
import Derived.Test.YtjlpmfokekflbaaJ
import Derived.Deep.QuietTactic
import Derived.BigQuiet
namespace Go.Proofs.Ytjlpmfokekflbaa
open Go.RowKit
set_option linter.unusedVariables false

set_option maxHeartbeats 2000000 in
set_option maxRecDepth 100000 in
theorem rprint_any (A : Option Addr) (c : Nat) (l : List ByteArray) (w : World) (hl : Rd w w.heap.size A (l.map .string)) (hs : sizeL l ≤ 4000000) :
    Calls Try.prog 19 #[.slice A l.length c] w fun e w' => e = .returned (.string ⟨(printL l).toArray⟩) ∧ Below w.heap.size w w' := by
  have Hl := Lib.hid hl
  have hll : l.length ≤ 4000000 := by have := len_take l l.length (Nat.le_refl _); rw [List.take_length] at this; exact Nat.le_trans this hs
  obtain ⟨i0, hi, hz0, hz1, hz2⟩ := info_parts info5
  clear hl
  go_enter Try.func19, Try.ntmps19
  go_wp2_with fail
  go_loopw [3, 4] (fun o i wx => ∃ (k : Nat) (v : Value), k ≤ l.length ∧ o = v ∧ i = .int .i64 (k : Int) ∧ wx.ownsRow w.heap.size 5 1 v (printL (l.take k)).length (Lib.byteCells (printL (l.take k))) ∧ Below w.heap.size w wx) (fun _ i _ => l.length - (intOf i).toNat)
  case atStart => exact ⟨0, _, Nat.zero_le _, rfl, rfl, World.ownsRow_nil _ _ _ _, Below.refl _ _⟩
  case round =>
    obtain ⟨k, v, hk, rfl, rfl, hov, hbw⟩ := hrel
    have HOV := Lib.hid hov; have HBW := Lib.hid hbw
    by_cases hlt : k < l.length
    · have hz : (k : Int) < l.length := by omega
      obtain ⟨b, o, rfl, hb, hc⟩ := Rd.at_ Hl.out (k := k) (by simpa using hlt)
      rw [List.getElem_map] at hc
      have hc' := (HBW.out.cell (p := ⟨b, o + k, none⟩) hb).trans hc
      have hst := size_take hlt
      have hpt := print_take hlt
      have HST := Lib.hid hst; have HPT := Lib.hid hpt
      generalize l[k] = s at *
      obtain ⟨m, hm⟩ : ∃ m, (printL (l.take k)).length = m := ⟨_, rfl⟩
      rw [hm] at hst
      rw [hm] at hov
      have HM := Lib.hid hm
      have HV := Lib.hid hov
      have hms : m + s.size ≤ 4000000 := by omega
      have hms2 : m + s.size + 2 ≤ 4000000 := by omega
      have hm1 : m + s.size ≤ maxLen := by unfold maxLen; omega
      have hm2 : m + s.size ≤ 140737488355328 := by omega
      have hwl : w.heap.size ≤ wr.heap.size := HBW.out.size
      clear hst hpt hc hov hbw hm
      have hn1 : m + s.size + 2 ≤ maxLen := by unfold maxLen; omega
      have hn2 : (m + s.size + 2) * 1 ≤ 140737488355328 := by omega
      go_wp2_with (at_builtin; first
        | (refine Lib.wpList_append_own_string _ rfl (.tmp 11) (.tmp 15) 43 9 rfl w.heap.size 5 i0 Try.underlying43 Try.underlying9 hi hz0 hz1 hz2 _ m _ rfl HV.out s rfl hm1 hm2 hwl ?_
           intro v2 w2 own2 hg2 _
           have b2 : Below w.heap.size w w2 := HBW.out.grown hg2 hwl (fun k hk => (HV.out.lt k hk).1)
           have HO3 := Lib.hid (own2.alloc (.cells #[.int .u8 13, .int .u8 10] 5))
           have HB3 := Lib.hid (b2.alloc b2.size (.cells #[.int .u8 13, .int .u8 10] 5))
           have hfr : Rd (w2.alloc (.cells #[.int .u8 13, .int .u8 10] 5)) (w2.heap.size + 1) (some ⟨w2.heap.size, 0, none⟩) [.int .u8 13, .int .u8 10] := .inr ⟨w2.heap.size, 0, rfl, by omega, fun j u hu => by rw [(Bk.new w2 5 #[.int .u8 13, .int .u8 10]).cell]; simpa using hu⟩
           have HFR := Lib.hid hfr
           have hw4 : w.heap.size ≤ w2.heap.size + 1 := Nat.le_succ_of_le b2.size
           clear own2 hg2 b2 hfr)
        | (refine wpList_app rfl (.tmp 16) (.tmp 17) 43 rfl 5 i0 (.int .u8 0) 1 1 Try.underlying43 hi hz0 hz1 hz2 rfl (by decide) _ w.heap.size (w2.heap.size + 1) _ (m + s.size) _ rfl HO3.out (some ⟨w2.heap.size, 0, none⟩) 2 2 [.int .u8 13, .int .u8 10] rfl HFR.out rfl (by simp [Value.oneCell']) hn1 hn2 (by simpa using hw4) ?_
           intro v6 w6 own6 hg6 _))
      have e : m + s.size + 2 = (printL (l.take (k + 1))).length := by rw [HPT.out, List.length_append, HM.out, List.length_append, ← Lib.size_eq]; rfl
      have e2 : Lib.byteCells (printL (l.take k)) ++ Lib.strCells s ++ [.int .u8 13, .int .u8 10] = Lib.byteCells (printL (l.take (k + 1))) := by
        rw [HPT.out, byte_app, byte_app, str_cells, List.append_assoc]
        rfl
      rw [e, e2] at own6
      exact ⟨⟨k + 1, _, by omega, rfl, by go_num, own6, HB3.out.grown hg6 (by simpa using hw4) (fun k hk => (HO3.out.lt k hk).1)⟩, by simp [intOf]; omega⟩
    · obtain rfl : k = l.length := by omega
      rw [List.take_length] at hov
      obtain ⟨A3, c3, rfl⟩ := own_any hov
      have hcv := conv_rd wr wr.heap.size A3 (printL l).length c3 (printL l) ((own_addr hov).imp id (fun ⟨b, h⟩ => ⟨b, 0, h⟩)) (own_rd hov) rfl
      have HR := Lib.hid hcv
      clear hov hbw
      go_wp2_with fail
      go_ret
      exact ⟨rfl, HBW.out⟩
end Go.Proofs.Ytjlpmfokekflbaa
