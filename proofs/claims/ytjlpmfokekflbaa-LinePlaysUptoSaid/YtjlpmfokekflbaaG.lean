/- append of bytes, a slice's bytes as a string, slices.Clone of bytes. -/
import Derived.Test.YtjlpmfokekflbaaE
import Derived.Laws.BytesArg
import Derived.Maps.AppendAt
import Derived.Lib.SliceRun
namespace Go.Proofs.Ytjlpmfokekflbaa
open Go.RowKit
set_option linter.unusedVariables false

theorem run_app (t ty e : TypeId) (i : TypeInfo) (z : Value) (size bytes : Nat) (ht : Try.prog.underlying t = some (.slice e)) (hi : Try.prog.info? e = some i) (hz : i.zero = some z) (hsize : i.size = size) (hby : i.bytes = bytes) (hzs : z.cells.size = size) (hsz : 0 < size)
    (w : World) (base B : Nat) (v : Value) (n : Nat) (xs : List Value) (hown : w.ownsRow base e size v n xs) (A : Option Addr) (m c : Nat) (cells : List Value) (hr : Rd w B A cells) (hl : cells.length = m * size) (h1 : ∀ u ∈ cells, u.oneCell' = true)
    (h63 : n + m ≤ maxLen) (hbytes : (n + m) * bytes ≤ 140737488355328) (hbase : base ≤ w.heap.size) :
    ∃ v' w', (Builtin.append_ #[t, t] ty #[v, .slice A m c]).run Try.prog w = .ok v' w' ∧ w'.ownsRow base e size v' (n + m) (xs ++ cells) ∧ w.grownBy w' v.ownBlock ∧ (v'.ownBlock = v.ownBlock ∨ v'.ownBlock = some w.heap.size) := by
  cases A with
  | none =>
    have hc : cells = [] := by
      rcases hr with h | ⟨b, o, h, _⟩
      · exact h
      · cases h
    subst hc
    have hm : m = 0 := by
      rcases Nat.eq_zero_or_pos m with h | h
      · exact h
      · have := Nat.mul_pos h hsz
        simp at hl; omega
    subst hm
    obtain ⟨A', c', rfl⟩ := own_any hown
    refine ⟨_, w, run_append_nothing w t t ty e i ht hi A' n c' ?_ _ (Src.ofNil w ht c), by simpa using hown, ⟨rfl, rfl, rfl, Nat.le_refl _, fun _ _ _ => rfl⟩, .inl rfl⟩
    rcases hown.2 with ⟨h, h0⟩ | ⟨g', cap', cur', h, _, _, hnc, hcm, _⟩
    · omega
    · simp only [Value.slice.injEq] at h
      omega
  | some p =>
    obtain ⟨v', w', h2, h3, h4, _, h5⟩ := run_append_own_at (P := Try.prog) w base t ty e i z size bytes ht hi hz hsize hby hzs hsz v n xs hown p m c cells hl (by
      intro j u hj
      rcases hr with h | ⟨b, o, h, hb, hc⟩
      · rw [h] at hj; simp at hj
      · cases h
        rw [show (⟨b, o, none⟩ : Addr).add j = ⟨b, o + j, none⟩ by unfold Addr.add; split <;> simp_all]
        exact hc j u hj) h1 h63 hbytes hbase
    exact ⟨v', w', h2, h3, h4, h5⟩
theorem wp_app {o : Oper} {a : Act} {K : Act → World → Prop} {Q : Exit → Act → World → Prop} (s x : Operand) (t : TypeId) (ho : o.op = .call { callee := .builtin .append, args := #[s, x], argTypes := #[t, t] })
    (e : TypeId) (i : TypeInfo) (z : Value) (size bytes : Nat) (ht : Try.prog.underlying t = some (.slice e)) (hi : Try.prog.info? e = some i) (hz : i.zero = some z) (hsize : i.size = size) (hby : i.bytes = bytes) (hzs : z.cells.size = size) (hsz : 0 < size)
    (w : World) (base B : Nat) (v : Value) (n : Nat) (xs : List Value) (hs : a.eval s = v) (hown : w.ownsRow base e size v n xs) (A : Option Addr) (m c : Nat) (cells : List Value) (hx : a.eval x = .slice A m c) (hr : Rd w B A cells) (hl : cells.length = m * size) (h1 : ∀ u ∈ cells, u.oneCell' = true)
    (h63 : n + m ≤ maxLen) (hbytes : (n + m) * bytes ≤ 140737488355328) (hbase : base ≤ w.heap.size)
    (h : ∀ v' w', w'.ownsRow base e size v' (n + m) (xs ++ cells) → w.grownBy w' v.ownBlock → (v'.ownBlock = v.ownBlock ∨ v'.ownBlock = some w.heap.size) → K (a.put o.dst v') w') : Oper.wp Try.prog o a w K Q := by
  obtain ⟨v', w', hrun, h2, h3, h4⟩ := run_app t o.type e i z size bytes ht hi hz hsize hby hzs hsz w base B v n xs hown A m c cells hr hl h1 h63 hbytes hbase
  unfold Oper.wp
  simp [execOp, ho, resolve, invoke, builtin, hs, hx, hrun, Result.andThen]
  exact h v' w' h2 h3 h4
theorem wpList_app {ops : Array Oper} {rest : List Oper} {o : Oper} {a : Act} {Q : Exit → Act → World → Prop} (hgd : o.guard = none) (s x : Operand) (t : TypeId) (ho : o.op = .call { callee := .builtin .append, args := #[s, x], argTypes := #[t, t] })
    (e : TypeId) (i : TypeInfo) (z : Value) (size bytes : Nat) (ht : Try.prog.underlying t = some (.slice e)) (hi : Try.prog.info? e = some i) (hz : i.zero = some z) (hsize : i.size = size) (hby : i.bytes = bytes) (hzs : z.cells.size = size) (hsz : 0 < size)
    (w : World) (base B : Nat) (v : Value) (n : Nat) (xs : List Value) (hs : a.eval s = v) (hown : w.ownsRow base e size v n xs) (A : Option Addr) (m c : Nat) (cells : List Value) (hx : a.eval x = .slice A m c) (hr : Rd w B A cells) (hl : cells.length = m * size) (h1 : ∀ u ∈ cells, u.oneCell' = true)
    (h63 : n + m ≤ maxLen) (hbytes : (n + m) * bytes ≤ 140737488355328) (hbase : base ≤ w.heap.size)
    (h : ∀ v' w', w'.ownsRow base e size v' (n + m) (xs ++ cells) → w.grownBy w' v.ownBlock → (v'.ownBlock = v.ownBlock ∨ v'.ownBlock = some w.heap.size) → wpList Try.prog ops Q rest (a.put o.dst v') w') : wpList Try.prog ops Q (o :: rest) a w :=
  wpList_plain hgd fun _ hK => wp_app s x t ho e i z size bytes ht hi hz hsize hby hzs hsz w base B v n xs hs hown A m c cells hx hr hl h1 h63 hbytes hbase fun v' w' h2 h3 h4 => hK _ _ (h v' w' h2 h3 h4)

theorem byte_one (l : List UInt8) : ∀ u ∈ Lib.byteCells l, u.oneCell' = true := by
  intro u hu
  obtain ⟨b, _, rfl⟩ := List.mem_map.1 hu
  rfl
theorem byte_len (l : List UInt8) : (Lib.byteCells l).length = l.length := Lib.byteCells_length l
theorem byte_app (a b : List UInt8) : Lib.byteCells (a ++ b) = Lib.byteCells a ++ Lib.byteCells b := List.map_append
theorem byte_get (l : List UInt8) (i : Nat) (hi : i < l.length) : (Lib.byteCells l)[i]? = some (.int .u8 (l[i].toNat : Int)) := by
  unfold Lib.byteCells
  rw [List.getElem?_map, List.getElem?_eq_getElem hi]
  rfl
theorem str_cells (s : ByteArray) : Lib.strCells s = Lib.byteCells s.data.toList := rfl
theorem nums_of (l : List UInt8) : strOfNums (l.map fun b => (b.toNat : Int)) = ⟨l.toArray⟩ := by
  unfold strOfNums
  congr 1
  rw [List.map_map]
  have : ((fun n : Int => UInt8.ofNat n.toNat) ∘ fun b : UInt8 => (b.toNat : Int)) = id := by
    funext b
    simp
  rw [this, List.map_id]
/-- A slice's bytes as a string. -/
theorem conv_rd (w : World) (B : Nat) (A : Option Addr) (n c : Nat) (l : List UInt8) (hA : A = none ∨ ∃ b o, A = some ⟨b, o, none⟩) (hr : Rd w B A (Lib.byteCells l)) (hn : n = l.length) : (convert 43 9 (.slice A n c)).run Try.prog w = .ok (.string ⟨l.toArray⟩) w := by
  subst hn
  rcases hr with h | ⟨b, o, rfl, hb, hc⟩
  · have hl : l = [] := by
      have := byte_len l
      rw [h] at this
      exact List.eq_nil_of_length_eq_zero this.symm
    subst hl
    rcases hA with rfl | ⟨b, o, rfl⟩
    · exact run_convert_bytes_nil w 43 5 Try.underlying43 Try.underlying5 0 c 9 Try.underlying9
    · exact run_convert_bytes_arg w 43 5 Try.underlying43 Try.underlying5 b o 0 c [] rfl (fun i hi => by omega) 9 Try.underlying9
  · have := run_convert_bytes_arg w 43 5 Try.underlying43 Try.underlying5 b o l.length c (l.map fun b => (b.toNat : Int)) (by simp) (fun i hi => by
      rw [hc i _ (byte_get l i hi)]
      simp [List.getD, hi]) 9 Try.underlying9
    rw [this, nums_of]

set_option maxHeartbeats 400000 in
theorem clone_any (A : Option Addr) (c n : Nat) (l : List UInt8) (w : World) (hA : A = none ∨ ∃ b o, A = some ⟨b, o, none⟩) (hr : Rd w w.heap.size A (Lib.byteCells l)) (hn : n = l.length) (hl : l.length ≤ 140737488355328) :
    Calls Try.prog 21 #[.slice A n c] w fun e w' => ∃ v', e = .returned v' ∧ w'.ownsRow w.heap.size 5 1 v' l.length (Lib.byteCells l) ∧ Below w.heap.size w w' := by
  obtain ⟨i0, hi, hz0, hz1, hz2⟩ := info_parts info5
  rcases hA with rfl | ⟨b, o, rfl⟩
  · have hl0 : l = [] := by
      rcases hr with h | ⟨b, o, h, _⟩
      · have := byte_len l
        rw [h] at this
        exact List.eq_nil_of_length_eq_zero this.symm
      · cases h
    subst hl0
    simp at hn
    subst hn
    have hq := fun w => Lib.run_eql_slice_nil (P := Try.prog) w 43 5 none 0 c 0 0 Try.underlying43
    go_enter Try.func21, Try.ntmps21
    go_wp2
    all_goals go_ret
    exact ⟨_, rfl, World.ownsRow_nil _ _ _ _, Below.refl _ _⟩
  · have hq := fun w => Lib.run_eql_slice_nil (P := Try.prog) w 43 5 (some ⟨b, o, none⟩) n c 0 0 Try.underlying43
    have hnew : (w.alloc (.cells #[] 5)).ownsRow w.heap.size 5 1 (.slice (some ⟨w.heap.size, 0, none⟩) 0 0) 0 [] := World.ownsRow_made w #[] 0 (Nat.le_refl _) (by decide) rfl
    have Hr := Lib.hid (hr.below ((Below.refl _ w).alloc (Nat.le_refl _) (.cells #[] 5))); clear hr
    have Hn := Lib.hid hn; have Hl := Lib.hid hl; clear hn hl
    go_enter Try.func21, Try.ntmps21
    go_wp2_with (at_builtin; refine wpList_app rfl (.tmp 5) (.tmp 6) 43 rfl 5 i0 (.int .u8 0) 1 1 Try.underlying43 hi hz0 hz1 hz2 rfl (by decide) _ w.heap.size w.heap.size _ 0 [] rfl hnew (some ⟨b, o, none⟩) n c (Lib.byteCells l) rfl Hr.out (by rw [byte_len, Hn.out, Nat.mul_one]) (byte_one l) (by have := Hl.out; have := Hn.out; unfold maxLen; omega) (by have := Hl.out; have := Hn.out; omega) (by simp) ?_; intro v' w' hown1 hgrow _)
    go_ret
    have Hn' := Hn.out
    subst Hn'
    exact ⟨_, rfl, by simpa using hown1, ((Below.refl w.heap.size w).alloc (Nat.le_refl _) _).grown hgrow (by simp) (fun k hk => (hnew.lt k hk).1)⟩
end Go.Proofs.Ytjlpmfokekflbaa
