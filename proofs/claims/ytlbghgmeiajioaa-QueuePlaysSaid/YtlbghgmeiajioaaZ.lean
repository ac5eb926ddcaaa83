/- What the iterator over all recipients comes to. -/
import Derived.Test.YtlbghgmeiajioaaY
namespace Go.Proofs.Ytlbghgmeiajioaa
open Go.RowKit Go.Shelf
set_option linter.unusedVariables false

attribute [local go_sem] Oper.semAt_some

/-- Where a recipient stands, and it. -/
abbrev Pos := (Int × Int) × Rc
def recs (it : It) : List Pos := it.to.zipIdx.map fun p => ((it.id, (p.2 : Int)), p.1)
def allL (l : List It) : List Pos := l.flatMap recs
theorem recs_len (it : It) : (recs it).length = it.to.length := by simp [recs]
theorem recs_get (it : It) (k : Nat) (hk : k < it.to.length) : (recs it)[k]'(by rw [recs_len]; exact hk) = ((it.id, (k : Int)), it.to[k]) := by simp [recs]
theorem recs_take (it : It) (k : Nat) (hk : k < it.to.length) : (recs it).take (k + 1) = (recs it).take k ++ [((it.id, (k : Int)), it.to[k])] := by
  rw [List.take_succ_eq_append_getElem (by rw [recs_len]; exact hk), recs_get it k hk]
theorem allL_take (l : List It) (i : Nat) (hi : i < l.length) : allL (l.take (i + 1)) = allL (l.take i) ++ recs l[i] := by
  unfold allL
  rw [List.take_succ_eq_append_getElem hi, List.flatMap_append]
  simp
theorem allL_pre (l : List It) (i : Nat) : allL (l.take i) <+: allL l := by
  refine ⟨allL (l.drop i), ?_⟩
  unfold allL
  rw [← List.flatMap_append, List.take_append_drop]
theorem allL_at (l : List It) (i : Nat) (hi : i < l.length) (k : Nat) : allL (l.take i) ++ (recs l[i]).take k <+: allL l := by
  refine List.IsPrefix.trans ?_ (allL_pre l (i + 1))
  rw [allL_take l i hi]
  exact (List.prefix_append_right_inj _).2 (List.take_prefix _ _)
theorem allL_lt (l : List It) (i : Nat) (hi : i < l.length) (k : Nat) (hk : k < l[i].to.length) : (allL (l.take i) ++ (recs l[i]).take k).length < (allL l).length := by
  have h := (allL_at l i hi (k + 1)).length_le
  rw [recs_take l[i] k hk] at h
  simp at h ⊢
  omega

/-- Yield's arguments. -/
def encP (x : Pos) : Array Value := #[.agg #[.int .i64 x.1.1, .int .i64 x.1.2], .agg x.2.cells.toArray]

theorem own_keepsC {w w' : World} {base : Nat} {e : TypeId} {size n : Nat} {v : Value} {xs : List Value} (h : w.ownsRow base e size v n xs) (k : KeepsC w w') : w'.ownsRow base e size v n xs := by
  refine ⟨h.1, ?_⟩
  rcases h.2 with h2 | ⟨g, cap, cur, rfl, hg, hh, r⟩
  · exact .inl h2
  · exact .inr ⟨g, cap, cur, rfl, hg, k.same _ _ hh rfl, r⟩
theorem Qm.keepsC {w w' : World} {B g : Nat} {t : TypeId} {v : Value} {rows : List Row} {room tries wait : Int} (h : Qm w B g t v rows room tries wait) (k : KeepsC w w') : Qm w' B g t v rows room tries wait :=
  ⟨h.ge, h.blk.keepsC k, own_keepsC h.row k, fun r hr => ⟨own_keepsC (h.own r hr).1 k, own_keepsC (h.own r hr).2 k⟩, h.apart⟩
theorem keepsC_alloc (w : World) (o : Obj) : KeepsC w (w.alloc o) := ⟨by simp, fun k u hk _ => (Below.heap_alloc w o k (Array.getElem?_eq_some_iff.1 hk).1).trans hk⟩
theorem abides_alloc {β : Type} {B : Nat} {J : β → World → Prop} (h : AbidesFrom B J) {s : β} {W : World} (o : Obj) (hs : J s W) : J s (W.alloc o) := h s W _ none hs (World.grownBy_alloc W o none) (fun r e => by cases e)

set_option maxRecDepth 100000 in
set_option maxHeartbeats 4000000 in
theorem all_in (n : Nat) (hn : 2 ≤ n) (l g B : Nat) (v : Value) (rows : List Row) (room tries wait : Int) (J Jx : List Pos → World → Prop) (W : World) (h : Qm W B g 66 v rows room tries wait) (hs : Small (rows.map Row.it))
    (hJ : AbidesFrom W.heap.size J)
    (hY : ∀ pre x W1, J pre W1 → pre.length < (allL (rows.map Row.it)).length → YieldAt Fence.wide (n - 1) Try.prog l (encP x) W1 fun e W' =>
      (e = .returned (.bool true) ∧ J (pre ++ [x]) W' ∧ KeepsC W1 W') ∨ (e = .returned (.bool false) ∧ Jx (pre ++ [x]) W')) (h0 : J [] W) :
    CallsIn Fence.wide n Try.prog 34 #[.pointer (some ⟨g, 0, none⟩), .func (.yield l) #[] #[]] W fun e W' => (∃ v, e = .returned v) ∧
      ((∃ ys, ys = allL (rows.map Row.it) ∧ J ys W') ∨ (∃ pre, pre <+: allL (rows.map Row.it) ∧ Jx pre W')) := by
  have hl : rows.length ≤ 1000 := by have := hs.1; simpa using this
  have c0 := h.blk.cell 0
  simp at c0
  obtain ⟨A, c, rfl⟩ := own_any h.row
  have H := Lib.hid h; have Hs := Lib.hid hs; have HY := Lib.hid hY; have HJ := Lib.hid hJ
  clear h hs hY hJ
  have hn1 : 1 ≤ n := by omega
  refine callsIn_of_wp Try.func34 rfl trivial ?_ rfl
  simp only [Try.ntmps34, List.size_toArray, List.length_cons, List.length_nil, Nat.reduceAdd, Nat.reduceSub, Array.replicate_succ, Array.replicate_zero, List.push_toArray, List.append_toArray, List.nil_append, List.cons_append]
  gi_wp2
  gi_loopw [13] (fun i wr => ∃ k : Nat, k ≤ rows.length ∧ i = .int .i64 k ∧ KeepsC W wr ∧ J (allL ((rows.map Row.it).take k)) wr) (fun i _ => rows.length - (intOf i).toNat)
  case atStart => exact ⟨0, Nat.zero_le _, rfl, KeepsC.refl _, by simpa [allL] using h0⟩
  case round =>
    rename World => wo
    obtain ⟨k, hk, rfl, hkc, hj⟩ := hrel
    by_cases hlt : k < rows.length
    · obtain ⟨b, cap, he, hb, hlb⟩ := own_some H.out.row (by omega)
      cases he
      have hq := H.out.keepsC hkc
      obtain ⟨d0, d1, d2, d3, d4, d5, d6, d7, d8, d9, d10, d11⟩ := it_cells hq.row hlt
      have hto := (hq.own _ (List.getElem_mem hlt)).1
      have hlv := (hq.own _ (List.getElem_mem hlt)).2
      have hsm := (Hs.out.at_ (j := 0) hlt).2.1
      have hgo := allL_take (rows.map Row.it) k (by simpa using hlt)
      have hpre := allL_at (rows.map Row.it) k (by simpa using hlt)
      have hltn := allL_lt (rows.map Row.it) k (by simpa using hlt)
      rw [its_get hlt] at hgo hpre hltn
      generalize rows[k] = R at *
      obtain ⟨it, tv, lv⟩ := R
      dsimp only at hto hlv hsm hgo hpre hltn d0 d1 d2 d3 d4 d5 d6 d7 d8 d9 d10 d11
      obtain ⟨A1, c1, rfl⟩ := own_any hto
      obtain ⟨A2, c2, rfl⟩ := own_any hlv
      have kB := Bk.new wo 51 (Row.cells ⟨it, .slice A1 it.to.length c1, .slice A2 it.lines.length c2⟩).toArray
      have Hto := Lib.hid (own_keepsC hto (keepsC_alloc wo (.cells (Row.cells ⟨it, .slice A1 it.to.length c1, .slice A2 it.lines.length c2⟩).toArray 51)))
      have hkc2 := hkc.trans (keepsC_alloc wo (.cells (Row.cells ⟨it, .slice A1 it.to.length c1, .slice A2 it.lines.length c2⟩).toArray 51))
      have hj2 := abides_alloc HJ.out (.cells (Row.cells ⟨it, .slice A1 it.to.length c1, .slice A2 it.lines.length c2⟩).toArray 51) hj
      have Hgo := Lib.hid hgo; have Hpre := Lib.hid hpre; have Hltn := Lib.hid hltn
      clear hq hto hlv hgo hpre hltn
      simp only [Row.cells] at kB hkc2 hj2
      gi_wp2
      gi_loopw [20] (fun i wr2 => ∃ m : Nat, m ≤ it.to.length ∧ i = .int .i64 m ∧ KeepsC (wo.alloc (.cells (Row.cells ⟨it, .slice A1 it.to.length c1, .slice A2 it.lines.length c2⟩).toArray 51)) wr2 ∧ J (allL ((rows.map Row.it).take k) ++ (recs it).take m) wr2) (fun i _ => it.to.length - (intOf i).toNat)
      case atStart => exact ⟨0, Nat.zero_le _, rfl, KeepsC.refl _, by simpa using hj2⟩
      case round =>
        obtain ⟨m, hm, rfl, hkc3, hj3⟩ := hrel
        by_cases hm' : m < it.to.length
        · obtain ⟨b1, cap1, he, hb1, hlb1⟩ := own_some Hto.out (by omega)
          cases he
          obtain ⟨r0, r1, r2, r3, r4, r5, r6⟩ := rc_cells (own_keepsC Hto.out hkc3) hm'
          have kB3 := kB.keepsC hkc3
          have q0 := kB3.cell 0
          simp at q0
          have hszB := kB3.lt
          obtain ⟨fn, tmps, assign, body, hy, hR⟩ := HY.out (allL ((rows.map Row.it).take k) ++ (recs it).take m) ((it.id, (m : Int)), it.to[m]) (wr.alloc (.cells it.to[m].cells.toArray 60)) (abides_alloc HJ.out _ hj3) (Hltn.out m hm')
          rw [List.append_assoc, ← recs_take it m hm'] at hR
          have hkc4 := hkc3.trans (keepsC_alloc wr (.cells it.to[m].cells.toArray 60))
          generalize it.to[m] = r at *
          simp only [encP, Rc.cells] at hy hR hkc4
          have Hr := Lib.hid hR; have K4 := Lib.hid hkc4
          clear hR hkc4
          gi_wp2
          refine Hr.out.mono ?_
          rintro e W3 (⟨rfl, hJ3, hk3⟩ | ⟨rfl, hJx3⟩)
          · gi_wp2
            go_roundw
            case rel => exact ⟨m + 1, by omega, by go_num, K4.out.trans hk3, hJ3⟩
            case measure => simp [intOf]; omega
          · gi_wp2
            refine bodyPost_ret (results_none rfl _ _ _) rfl ?_
            exact ⟨⟨_, rfl⟩, .inr ⟨_, Hpre.out (m + 1), hJx3⟩⟩
        · gi_wp2
          go_roundw
          case rel =>
            obtain rfl : m = it.to.length := by omega
            refine ⟨k + 1, by omega, by go_num, hkc2.trans hkc3, ?_⟩
            rw [Hgo.out]
            rwa [← recs_len it, List.take_length] at hj3
          case measure => simp [intOf]; omega
    · gi_wp2
      go_end0
      obtain rfl : k = rows.length := by omega
      rw [← List.length_map (f := Row.it), List.take_length] at hj
      exact ⟨⟨_, rfl⟩, .inl ⟨_, rfl, hj⟩⟩
end Go.Proofs.Ytlbghgmeiajioaa
