/- What Out comes to. -/
import Derived.Test.YtcbkllecdelfeaaA
import Derived.Test.YtcbkllecdelfeaaB
namespace Go.Proofs.Ytcbkllecdelfeaa
open Go.RowKit
set_option linter.unusedVariables false

theorem info9 : (Try.prog.info? 9).map (fun i => (i.zero, i.size, i.bytes)) = some (some (.string ⟨#[]⟩), 1, 16) := by kernel_rfl

/-- append of one string onto a row of the call's own. -/
theorem app_str {ops : Array Oper} {rest : List Oper} {o : Oper} {a : Act} {w : World} {Q : Exit → Act → World → Prop} (s x : Operand) (hgd : o.guard = none)
    (ho : o.op = .call { callee := .builtin .append, args := #[s, x], argTypes := #[22, 22] })
    (base : Nat) (v : Value) (n : Nat) (xs : List Value) (hs : a.eval s = v) (hown : w.ownsRow base 9 1 v n xs) (b : Nat) (u : ByteArray) (hx : a.eval x = .slice (some ⟨b, 0, none⟩) 1 1)
    (hu : w.cell? ⟨b, 0, none⟩ = some (.string u)) (hn : n ≤ 1000000) (hbase : base ≤ w.heap.size) (H : Nat) (hH : w.heap.size = H)
    (h : ∀ g cap w', w'.ownsRow base 9 1 (.slice (some ⟨g, 0, none⟩) (n + 1) cap) (n + 1) (xs ++ [.string u]) → w.grownBy w' v.ownBlock → (v.ownBlock = some g ∨ g = H) → g < w'.heap.size →
      wpList Try.prog ops Q rest (a.put o.dst (.slice (some ⟨g, 0, none⟩) (n + 1) cap)) w') : wpList Try.prog ops Q (o :: rest) a w := by
  obtain ⟨i0, hi, hz0, hz1, hz2⟩ := info_parts info9
  refine wpList_append_lies w hgd s x 22 ho base 9 i0 (.string ⟨#[]⟩) 1 16 Try.underlying22 hi hz0 hz1 hz2 rfl (by decide) v n xs hs hown ⟨b, 0, none⟩ 1 1 [.string u] hx rfl ?_ (by simp [Value.oneCell']) (by decide) (by unfold maxLen; omega) (by omega) hbase H hH h
  intro j u' hj
  match j, hj with
  | 0, hj => simp at hj; subst hj; simpa [Addr.add] using hu

theorem below_app {B : Nat} {w wr w1 : World} {v : Value} {base n e size : Nat} {xs : List Value} (hb : Below B w wr) (hg : wr.grownBy w1 v.ownBlock) (hown : wr.ownsRow base e size v n xs) (hB : B ≤ wr.heap.size) (hbase : B ≤ base) : Below B w w1 :=
  hb.grown hg hB fun k hk => by have := (hown.lt k hk).1; omega

theorem out_snoc (ss : List ByteArray) (k : Nat) (hk : k < ss.length) : (ss.take (k + 1)).map (fun s => Value.string (outS s)) = (ss.take k).map (fun s => Value.string (outS s)) ++ [.string (outS ss[k])] := by
  rw [List.take_succ_eq_append_getElem hk, List.map_append]; rfl

theorem outL_own {w : World} {base : Nat} {v : Value} {ss : List ByteArray} {k n : Nat} (hk : k ≤ ss.length) (hlt : ¬ k < ss.length) (h : w.ownsRow base 9 1 v n ((ss.take k).map (fun s => Value.string (outS s)) ++ [.string ⟨#[46]⟩])) (hn : n = k + 1) :
    w.ownsRow base 9 1 v (ss.length + 1) ((outL ss).map .string) := by
  obtain rfl : k = ss.length := by omega
  subst hn
  rw [List.take_length] at h
  unfold outL
  rw [List.map_append, List.map_map]
  exact h

set_option maxHeartbeats 800000 in
theorem rout_any (A : Option Addr) (c : Nat) (ss : List ByteArray) (w : World) (hr : Rd w w.heap.size A (ss.map .string)) (hn : ss.length ≤ 1000) (hsz : ∀ s ∈ ss, s.size ≤ 1000000) :
    Calls Try.prog 14 #[.slice A ss.length c] w fun e w' => ∃ v, e = .returned v ∧ w'.ownsRow w.heap.size 9 1 v (ss.length + 1) ((outL ss).map .string) ∧ Below w.heap.size w w' := by
  have Hsz := Lib.hid hsz; clear hsz
  go_enter Try.func14, Try.ntmps14
  go_wp2
  go_loopw [3, 4] (fun v i wr => ∃ k : Nat, k ≤ ss.length ∧ i = .int .i64 k ∧ wr.ownsRow w.heap.size 9 1 v k ((ss.take k).map (fun s => .string (outS s))) ∧ Below w.heap.size w wr) (fun _ i _ => ss.length - (intOf i).toNat)
  case atStart => exact ⟨0, Nat.zero_le _, rfl, World.ownsRow_nil _ _ _ _, Below.refl _ _⟩
  case round =>
    obtain ⟨k, hk, rfl, hown, hbel⟩ := hrel
    obtain ⟨C, cc, rfl⟩ := own_form hown
    have hsize := hbel.size
    by_cases hlt : k < ss.length
    · have hr2 := hr.below hbel
      obtain ⟨b, o, rfl, hb, hc⟩ := hr2.at_ (k := k) (by simpa using hlt)
      simp only [List.getElem_map] at hc
      have hs0 := Hsz.out _ (List.getElem_mem hlt)
      have hsn := out_snoc ss k hlt
      generalize hS : ss[k] = S at *
      have Hsn := Lib.hid hsn; clear hS hsn
      by_cases hd : dotB S = true
      · have h0 : 0 < S.size := by
          rcases Nat.lt_or_ge 0 S.size with h | h
          · exact h
          · rw [dot_none (by omega)] at hd; cases hd
        have h1 := dot_idx h0
        rw [hd] at h1
        have Hd := Lib.hid hd; clear hd
        go_wp2_with (at_builtin; refine app_str (.tmp 25) (.tmp 31) rfl rfl w.heap.size _ k _ rfl (hown.alloc _) wr.heap.size ((⟨#[46]⟩ : ByteArray) ++ S) rfl (by simp) (by omega) (by simp; omega) (wr.heap.size + 1) (by simp) ?_; intro g cap w1 hown1 hgrow hat hlt1)
        refine ⟨⟨k + 1, by omega, by go_num, by rw [Hsn.out, out_dot Hd.out]; exact hown1, ?_⟩, by simp [intOf]; omega⟩
        exact below_app (hbel.alloc hsize _) hgrow (hown.alloc _) (by simp; omega) (Nat.le_refl _)
      · have hd' : dotB S = false := by simpa using hd
        have Hd := Lib.hid hd'; clear hd hd'
        by_cases h0 : 0 < S.size
        · have h1 := dot_idx h0
          rw [Hd.out] at h1
          go_wp2_with (at_builtin; refine app_str (.tmp 33) (.tmp 38) rfl rfl w.heap.size _ k _ rfl (hown.alloc _) wr.heap.size S rfl (by simp) (by omega) (by simp; omega) (wr.heap.size + 1) (by simp) ?_; intro g cap w1 hown1 hgrow hat hlt1)
          refine ⟨⟨k + 1, by omega, by go_num, by rw [Hsn.out, out_plain Hd.out]; exact hown1, ?_⟩, by simp [intOf]; omega⟩
          exact below_app (hbel.alloc hsize _) hgrow (hown.alloc _) (by simp; omega) (Nat.le_refl _)
        · go_wp2_with (at_builtin; refine app_str (.tmp 33) (.tmp 38) rfl rfl w.heap.size _ k _ rfl (hown.alloc _) wr.heap.size S rfl (by simp) (by omega) (by simp; omega) (wr.heap.size + 1) (by simp) ?_; intro g cap w1 hown1 hgrow hat hlt1)
          refine ⟨⟨k + 1, by omega, by go_num, by rw [Hsn.out, out_plain Hd.out]; exact hown1, ?_⟩, by simp [intOf]; omega⟩
          exact below_app (hbel.alloc hsize _) hgrow (hown.alloc _) (by simp; omega) (Nat.le_refl _)
    · go_wp2_with (at_builtin; refine app_str (.tmp 40) (.tmp 41) rfl rfl w.heap.size _ k _ rfl (hown.alloc _) wr.heap.size ⟨#[46]⟩ rfl (by simp) (by omega) (by simp; omega) (wr.heap.size + 1) (by simp) ?_; intro g cap w1 hown1 hgrow hat hlt1)
      go_ret
      exact ⟨_, rfl, outL_own hk hlt hown1 rfl, below_app (hbel.alloc hsize _) hgrow (hown.alloc _) (by simp; omega) (Nat.le_refl _)⟩
end Go.Proofs.Ytcbkllecdelfeaa
