/- The reference: Feed. -/
import Derived.Test.YtjlpmfokekflbaaI
import Derived.Laws.DeepStrings4
namespace Go.Proofs.Ytjlpmfokekflbaa
open Go.RowKit
set_option linter.unusedVariables false
set_option linter.unusedSimpArgs false

section
variable {ops : Array Oper} {o : Oper} {a : Act} {w : World} {K : Act → World → Prop} {Q : Exit → Act → World → Prop} {E : Prop}
theorem step_fr (s x : Operand) (hgd : o.guard = none) (ho : o.op = .call { callee := .builtin .append, args := #[s, x], argTypes := #[34, 34] })
    (base B : Nat) (v : Value) (n : Nat) (xs : List Value) (hs : a.eval s = v) (hown : w.ownsRow base 42 3 v n xs) (A : Option Addr) (c : Nat) (cells : List Value) (hx : a.eval x = .slice A 1 c) (hr : Rd w B A cells) (hl : cells.length = 3) (h1 : ∀ u ∈ cells, u.oneCell' = true) (hn : n ≤ 2000000) (hbase : base ≤ w.heap.size)
    (h : ∀ v' w', w'.ownsRow base 42 3 v' (n + 1) (xs ++ cells) → w.grownBy w' v.ownBlock → K (a.put o.dst v') w') : if Region.wanted o (yielded ops a.tmps) = true then Oper.wp Try.prog o a w K Q else E := by
  have hw : Region.wanted o (yielded ops a.tmps) = true := by simp [Region.wanted, hgd]
  rw [if_pos hw]
  obtain ⟨j0, hj, hj0, hj1, hj2⟩ := info_parts info42
  exact wp_app s x 34 ho 42 j0 zeroFr 3 24 Try.underlying34 hj hj0 hj1 hj2 rfl (by decide) w base B v n xs hs hown A 1 c cells hx hr hl h1 (by unfold maxLen; omega) (by omega) hbase (fun v' w' h2 h3 _ => h v' w' h2 h3)
end
theorem ext_list (s : ByteArray) (f a : Nat) (ha : a ≤ s.size) : (s.extract f a).data.toList = seg s.data.toList f a := by
  rw [← Lib.toList_data, Lib.extract_toList]
  unfold seg
  rw [List.drop_take]
theorem slice_str (S : ByteArray) (f a : Nat) (h1 : f ≤ a) (h2 : a ≤ S.size) (W : World) : (Instr.slice 9 (.string S) (some (.int .i64 (f : Int))) (some (.int .i64 (a : Int))) none).run Try.prog W = .ok (.string (S.extract f a)) W := by
  rw [run_slice_string_if W 9 S .i64 .i64 f a Try.underlying9, if_pos ⟨by omega, by omega⟩, if_pos ⟨by omega, by omega⟩]
  rfl
set_option maxRecDepth 100000 in
set_option maxHeartbeats 8000000 in
theorem rfeed_any (g : Nat) (inn : List UInt8) (most : Int) (s : ByteArray) (w0 : World) (h : Rf w0 g inn most) (hs : inn.length + s.size ≤ 2000000) :
    Calls Try.prog 15 #[.pointer (some ⟨g, 0, none⟩), .string s] w0 fun e w' => ∃ v', e = .returned v' ∧ w'.ownsRow w0.heap.size 42 3 v' (feedS most inn s.data.toList).1.length ((feedS most inn s.data.toList).1.flatMap Fr.cells) ∧ Rf w' g (feedS most inn s.data.toList).2 most ∧ Only w0 w' (fun k => k = g) := by
  have HR := Lib.hid h
  have c0 := h.cell 0
  have f0 := h.frozen 0
  simp at c0
  obtain ⟨S, hSe⟩ : ∃ S, (⟨inn.toArray⟩ : ByteArray) ++ s = S := ⟨_, rfl⟩
  obtain ⟨t, ht⟩ : ∃ t, inn ++ s.data.toList = t := ⟨_, rfl⟩
  have hSt : S.data.toList = t := by rw [← hSe, ← ht]; simp [ByteArray.data_append]
  have hSz : S.size = t.length := by rw [← hSt, Lib.size_eq]
  have htl : t.length ≤ 2000000 := by rw [← ht, List.length_append, str_len]; exact hs
  have HT := Lib.hid ht
  have hat := at_zero t
  have HAT := Lib.hid hat
  have HSZ := Lib.hid hSz
  have hnov : ¬ 9223372036854775807 < inn.length + s.size := by omega
  clear h ht hat hSz
  go_enter Try.func15, Try.ntmps15
  go_wp2_with fail
  go_loopw [6, 7, 8] (fun o f i wx => ∃ (done : List (List UInt8)) (fr a i0 : Nat) (v6 : Value), o = v6 ∧ f = .int .i64 (fr : Int) ∧ i = .int .i64 (i0 : Int) ∧ At t done fr a ∧ a = max i0 fr ∧ fr ≤ i0 + 1 ∧ done.length ≤ fr ∧ wx.ownsRow w0.heap.size 42 3 v6 done.length ((done.map (oneF most)).flatMap Fr.cells) ∧ Below w0.heap.size w0 wx) (fun _ _ i _ => t.length - (intOf i).toNat)
  case atStart => exact ⟨[], 0, 0, 0, _, rfl, rfl, rfl, HAT.out, rfl, by omega, Nat.le_refl _, World.ownsRow_nil _ _ _ _, Below.refl _ _⟩
  case round =>
    obtain ⟨done, fr, a, i0, v6, rfl, rfl, rfl, hAt, ha, hfi, hdl, ho5, hb5⟩ := hrel
    have hf := hAt.1
    have hf2 := hAt.2.1
    have hSz := HSZ.out
    have hz3 : (i0 : Int) ≤ 2000000 := by omega
    have hz4 : (fr : Int) ≤ 2000001 := by omega
    have hw1 : wrap64 ((i0 : Int) + 1) = (i0 : Int) + 1 := by unfold wrap64; omega
    have hw2 : wrap64 ((i0 : Int) + 2) = (i0 : Int) + 2 := by unfold wrap64; omega
    have K5 : Rf wr g inn most := HR.out.below hb5 HR.out.lt
    have HAt := Lib.hid hAt; have HO5 := Lib.hid ho5; have HB5 := Lib.hid hb5; have HK5 := Lib.hid K5; have HDF := Lib.hid (show done.length ≤ 2000000 by omega); have HDL := Lib.hid hdl
    clear hAt ho5 hb5 K5 hdl
    by_cases hl : i0 + 1 < t.length
    · have hi1 : i0 < S.size := by omega
      have hi2 : i0 + 1 < S.size := by omega
      have hz : (i0 : Int) + 1 < S.size := by omega
      have hz5 : (i0 : Int) < S.size := by omega
      by_cases hge : fr ≤ i0
      · obtain rfl : a = i0 := by omega
        have hzg : (fr : Int) ≤ a := by omega
        have g1 : S[a]'hi1 = t[a]'(by omega) := by rw [← data_at S a hi1]; simp only [hSt]
        have g2 : S[a + 1]'hi2 = t[a + 1]'hl := by rw [← data_at S (a + 1) hi2]; simp only [hSt]
        by_cases h1 : t[a]'(by omega) = 13
        · have d1 : (((S[a]'hi1).toNat : Int) == 13) = true := by rw [g1, h1]; rfl
          by_cases h2 : t[a + 1]'hl = 10
          · have d2 : (((S[a + 1]'hi2).toNat : Int) == 10) = true := by rw [g2, h2]; rfl
            have HA := Lib.hid (HAt.out.cut hl h1 h2)
            have hseg : (S.extract fr a).data.toList = seg t fr a := by rw [ext_list S fr a (by omega), hSt]
            have hsz : (S.extract fr a).size ≤ 2000000 := by rw [Lib.size_eq, hseg, seg_len (by omega)]; omega
            have hsl := fun W => slice_str S fr a hge (by omega) W
            clear h1 h2 g1 g2 hSz ha
            go_wp2_with fail
            refine wp_region_held_drew (S := fun w' : World => w'.cell? ⟨g, 1, none⟩ = some (.int .i64 most)) (by kernel_rfl) ?_ (fun hHeld => ?_)
            · exact (HK5.out.cell 1)
            refine wpAnyH_take (i := 0) (oi := { dst := some 38, op := Op.move (Operand.tmp 6), type := 34, pos := "ref.go:37", after := #[], guard := none }) (v := ?_) rfl (by kernel_rfl) (by kernel_rfl) (by kernel_rfl) (fun _ _ _ h => h) (Or.inl ⟨by rfl, ?_⟩) (by assumption) ?_
            rotate_left
            · intro wS hSw; (try dsimp only at hSw); go_simp; (try with_reducible rfl)
            try simp only [Act.put, List.setIfInBounds_toArray, List.set_cons_zero, List.set_cons_succ]
            refine wpAnyH_take (i := 1) (oi := { dst := some 39, op := Op.move (Operand.tmp 5), type := 9, pos := "ref.go:37", after := #[], guard := none }) (v := ?_) rfl (by kernel_rfl) (by kernel_rfl) (by kernel_rfl) (fun _ _ _ h => h) (Or.inl ⟨by rfl, ?_⟩) (by assumption) ?_
            rotate_left
            · intro wS hSw; (try dsimp only at hSw); go_simp; (try with_reducible rfl)
            try simp only [Act.put, List.setIfInBounds_toArray, List.set_cons_zero, List.set_cons_succ]
            refine wpAnyH_take (i := 2) (oi := { dst := some 40, op := Op.move (Operand.tmp 7), type := 3, pos := "ref.go:37", after := #[], guard := none }) (v := ?_) rfl (by kernel_rfl) (by kernel_rfl) (by kernel_rfl) (fun _ _ _ h => h) (Or.inl ⟨by rfl, ?_⟩) (by assumption) ?_
            rotate_left
            · intro wS hSw; (try dsimp only at hSw); go_simp; (try with_reducible rfl)
            try simp only [Act.put, List.setIfInBounds_toArray, List.set_cons_zero, List.set_cons_succ]
            refine wpAnyH_take (i := 3) (oi := { dst := some 41, op := Op.move (Operand.tmp 8), type := 3, pos := "ref.go:37", after := #[], guard := none }) (v := ?_) rfl (by kernel_rfl) (by kernel_rfl) (by kernel_rfl) (fun _ _ _ h => h) (Or.inl ⟨by rfl, ?_⟩) (by assumption) ?_
            rotate_left
            · intro wS hSw; (try dsimp only at hSw); go_simp; (try with_reducible rfl)
            try simp only [Act.put, List.setIfInBounds_toArray, List.set_cons_zero, List.set_cons_succ]
            refine wpAnyH_take (i := 4) (oi := { dst := some 42, op := Op.slice 9 (Operand.tmp 39) (some (Operand.tmp 40)) (some (Operand.tmp 41)) none, type := 9, pos := "ref.go:37", after := #[{ on := 1, ground := Ground.data }, { on := 2, ground := Ground.data }, { on := 3, ground := Ground.data }], guard := none }) (v := ?_) rfl (by kernel_rfl) (by kernel_rfl) (by kernel_rfl) (fun _ _ _ h => h) (Or.inl ⟨by rfl, ?_⟩) (by assumption) ?_
            rotate_left
            · intro wS hSw; (try dsimp only at hSw); go_simp; (try with_reducible rfl)
            try simp only [Act.put, List.setIfInBounds_toArray, List.set_cons_zero, List.set_cons_succ]
            refine wpAnyH_take (i := 5) (oi := { dst := some 43, op := Op.move (Operand.tmp 0), type := 28, pos := "ref.go:37", after := #[], guard := none }) (v := ?_) rfl (by kernel_rfl) (by kernel_rfl) (by kernel_rfl) (fun _ _ _ h => h) (Or.inl ⟨by rfl, ?_⟩) (by assumption) ?_
            rotate_left
            · intro wS hSw; (try dsimp only at hSw); go_simp; (try with_reducible rfl)
            try simp only [Act.put, List.setIfInBounds_toArray, List.set_cons_zero, List.set_cons_succ]
            refine wpAnyH_take (i := 6) (oi := { dst := some 44, op := Op.nilCheck (Operand.tmp 43), type := 0, pos := "ref.go:37", after := #[{ on := 5, ground := Ground.data }], guard := none }) (v := ?_) rfl (by kernel_rfl) (by kernel_rfl) (by kernel_rfl) (fun _ _ _ h => h) (Or.inl ⟨by rfl, ?_⟩) (by assumption) ?_
            rotate_left
            · intro wS hSw; (try dsimp only at hSw); go_simp; (try with_reducible rfl)
            try simp only [Act.put, List.setIfInBounds_toArray, List.set_cons_zero, List.set_cons_succ]
            refine wpAnyH_take (i := 7) (oi := { dst := some 45, op := Op.fieldAddr 32 (Operand.tmp 44) 1, type := 0, pos := "ref.go:37", after := #[{ on := 6, ground := Ground.data }], guard := none }) (v := ?_) rfl (by kernel_rfl) (by kernel_rfl) (by kernel_rfl) (fun _ _ _ h => h) (Or.inl ⟨by rfl, ?_⟩) (by assumption) ?_
            rotate_left
            · intro wS hSw; (try dsimp only at hSw); go_simp; (try with_reducible rfl)
            try simp only [Act.put, List.setIfInBounds_toArray, List.set_cons_zero, List.set_cons_succ]
            refine wpAnyH_take (i := 8) (oi := { dst := some 46, op := Op.load 3 (Operand.tmp 45), type := 3, pos := "ref.go:37", after := #[{ on := 7, ground := Ground.data }], guard := none }) (v := ?_) rfl (by kernel_rfl) (by kernel_rfl) (by kernel_rfl) (fun _ _ _ h => h) (Or.inl ⟨by rfl, ?_⟩) (by assumption) ?_
            rotate_left
            · intro wS hSw; (try dsimp only at hSw); go_simp; (try with_reducible rfl)
            try simp only [Act.put, List.setIfInBounds_toArray, List.set_cons_zero, List.set_cons_succ]
            refine wpAnyH_ready (rs := [9]) (by kernel_rfl) (by simp) ?_
            refine AllReadyH.cons (o := { dst := some 47, op := Op.call { callee := Callee.value (Operand.func 22), args := #[Operand.tmp 42, Operand.tmp 46], argTypes := #[9, 3] }, type := 42, pos := "ref.go:37", after := #[{ on := 4, ground := Ground.data }, { on := 8, ground := Ground.data }], guard := none }) rfl (fun K hK => ?_) AllReadyH.nil
            go_simp
            refine (one_any _ most _ hsz).mono ?_
            rintro e w4 ⟨rfl, b4⟩
            have hdl : (S.extract fr a).data.toList = seg t fr a := hseg
            rw [hdl]
            obtain ⟨f, hfe⟩ : ∃ f, oneF most (seg t fr a) = f := ⟨_, rfl⟩
            rw [hfe]
            have HFE := Lib.hid hfe
            clear hfe hdl
            simp only [Fr.cells]
            replace b4 : Below wr.heap.size wr w4 := (Below.refl _ wr).drew.trans b4
            have k4 := HK5.out.below b4 HK5.out.lt
            try dsimp only
            refine hK.out _ _ ?_ (fun hHeld => ?_)
            · exact (k4.cell 1)
            clear hK K
            try simp only [Act.put, List.setIfInBounds_toArray, List.set_cons_zero, List.set_cons_succ]
            have HO4 := Lib.hid ((own_below HO5.out b4).alloc (.cells #[.string ⟨f.text.toArray⟩, .bool f.long, .bool f.bare] 42))
            have HB4 := Lib.hid ((HB5.out.trans (b4.mono HB5.out.size)).alloc (Nat.le_trans HB5.out.size b4.size) (.cells #[.string ⟨f.text.toArray⟩, .bool f.long, .bool f.bare] 42))
            have k5 := k4.alloc (.cells #[.string ⟨f.text.toArray⟩, .bool f.long, .bool f.bare] 42)
            have hfr : Rd (w4.alloc (.cells #[.string ⟨f.text.toArray⟩, .bool f.long, .bool f.bare] 42)) (w4.heap.size + 1) (some ⟨w4.heap.size, 0, none⟩) [.string ⟨f.text.toArray⟩, .bool f.long, .bool f.bare] := .inr ⟨w4.heap.size, 0, rfl, by omega, fun j u hu => by rw [(Bk.new w4 42 #[.string ⟨f.text.toArray⟩, .bool f.long, .bool f.bare]).cell]; simpa using hu⟩
            have hb64 : w0.heap.size ≤ w4.heap.size + 1 := by have := HB5.out.size; have := b4.size; omega
            clear b4 k4 hHeld
            refine wpAnyH_ready (rs := [10]) (by kernel_rfl) (by simp) ?_
            refine AllReadyH.cons (o := { dst := some 48, op := Op.buildSlice 34 1 #[(0, Operand.tmp 47)], type := 34, pos := "ref.go:37", after := #[{ on := 9, ground := Ground.data }], guard := none }) rfl (fun K hK => ?_) AllReadyH.nil
            go_simp
            try dsimp only
            refine hK.out _ _ ?_ (fun hHeld => ?_)
            · exact (k5.cell 1)
            clear hK K
            try simp only [Act.put, List.setIfInBounds_toArray, List.set_cons_zero, List.set_cons_succ]
            refine wpAnyH_ready (rs := [11]) (by kernel_rfl) (by simp) ?_
            refine AllReadyH.cons (o := { dst := some 49, op := Op.call { callee := Callee.builtin Builtin.append, args := #[Operand.tmp 38, Operand.tmp 48], argTypes := #[34, 34] }, type := 34, pos := "ref.go:37", after := #[{ on := 0, ground := Ground.data }, { on := 10, ground := Ground.data }, { on := 9, ground := Ground.chain }], guard := none }) rfl (fun K hK => ?_) AllReadyH.nil
            refine step_fr (.tmp 38) (.tmp 48) rfl rfl w0.heap.size (w4.heap.size + 1) u6 done.length _ rfl HO4.out (some ⟨w4.heap.size, 0, none⟩) 1 [.string ⟨f.text.toArray⟩, .bool f.long, .bool f.bare] rfl hfr rfl (by simp [Value.oneCell']) (by have := HDF.out; omega) (by simpa using hb64) ?_
            intro v6 w6 own6 hg6
            have k6 := k5.grown hg6 (fun e => own_ne HO4.out k5 (by decide) e.symm)
            have b7 : Below w0.heap.size w0 w6 := HB4.out.grown hg6 (by simpa using hb64) (fun k hk => (HO4.out.lt k hk).1)
            try dsimp only
            refine hK.out _ _ ?_ (fun hHeld => ?_)
            · exact k6.cell 1
            clear hK K
            try simp only [Act.put, List.setIfInBounds_toArray, List.set_cons_zero, List.set_cons_succ]
            refine wpAnyH_take (i := 12) (oi := { dst := some 6, op := Op.assign (Operand.tmp 49), type := 34, pos := "ref.go:37", after := #[{ on := 11, ground := Ground.data }, { on := 11, ground := Ground.chain }, { on := 0, ground := Ground.phase }, { on := 1, ground := Ground.phase }, { on := 2, ground := Ground.phase }, { on := 3, ground := Ground.phase }, { on := 4, ground := Ground.phase }, { on := 5, ground := Ground.phase }, { on := 6, ground := Ground.phase }, { on := 7, ground := Ground.phase }, { on := 8, ground := Ground.phase }, { on := 9, ground := Ground.phase }, { on := 10, ground := Ground.phase }, { on := 11, ground := Ground.phase }], guard := none }) (v := ?_) rfl (by kernel_rfl) (by kernel_rfl) (by kernel_rfl) (fun _ _ _ h => h) (Or.inl ⟨by rfl, ?_⟩) (by assumption) ?_
            rotate_left
            · intro wS hSw; (try dsimp only at hSw); go_simp; (try with_reducible rfl)
            try simp only [Act.put, List.setIfInBounds_toArray, List.set_cons_zero, List.set_cons_succ]
            refine wpAnyH_done (by kernel_rfl) ?_ _
            go_wp2_with fail
            have own7 : w6.ownsRow w0.heap.size 42 3 v6 (done ++ [seg t fr a]).length (((done ++ [seg t fr a]).map (oneF most)).flatMap Fr.cells) := by
              rw [List.length_append, List.map_append, List.flatMap_append]
              simpa [HFE.out, Fr.cells] using own6
            exact ⟨⟨done ++ [seg t fr a], a + 2, a + 2, a + 1, _, rfl, by go_num, by go_num, HA.out, by omega, by omega, by rw [List.length_append]; have := HDL.out; simp; omega, own7, b7⟩, by simp [intOf]; omega⟩
          · have d2 : (((S[a + 1]'hi2).toNat : Int) == 10) = false := beq_eq_false_iff_ne.2 (fun e => h2 (by rw [← g2]; exact UInt8.toNat_inj.1 (by have : (10 : UInt8).toNat = 10 := rfl; omega)))
            have HA := Lib.hid (HAt.out.on hl (fun h => h2 h.2))
            clear h1 h2 g1 g2 hSz ha
            go_wp2_with fail
            exact ⟨⟨done, fr, a + 1, a + 1, _, rfl, rfl, by go_num, HA.out, by omega, by omega, HDL.out, HO5.out, HB5.out⟩, by simp [intOf]; omega⟩
        · have d1 : (((S[a]'hi1).toNat : Int) == 13) = false := beq_eq_false_iff_ne.2 (fun e => h1 (by rw [← g1]; exact UInt8.toNat_inj.1 (by have : (13 : UInt8).toNat = 13 := rfl; omega)))
          have HA := Lib.hid (HAt.out.on hl (fun h => h1 h.1))
          clear h1 g1 g2 hSz ha
          go_wp2_with fail
          exact ⟨⟨done, fr, a + 1, a + 1, _, rfl, rfl, by go_num, HA.out, by omega, by omega, HDL.out, HO5.out, HB5.out⟩, by simp [intOf]; omega⟩
      · obtain rfl : a = fr := by omega
        have hzg : ¬ ((a : Int) ≤ i0) := by omega
        have hmx : max (i0 + 1) a = a := by omega
        clear hSz ha
        go_wp2_with fail
        exact ⟨⟨done, a, a, i0 + 1, _, rfl, rfl, by go_num, HAt.out, by omega, by omega, HDL.out, HO5.out, HB5.out⟩, by simp [intOf]; omega⟩
    · have hst := HAt.out.stop (by omega)
      have hz : ¬ ((i0 : Int) + 1 < S.size) := by omega
      have hfs : fr ≤ S.size := by omega
      have hfz : (fr : Int) ≤ S.size := by omega
      have hx : (S.extract fr S.size).data.toList = t.drop fr := by rw [ext_list S fr S.size (Nat.le_refl _), hSt]; simp [seg, hSz]
      have HX := Lib.hid hx; have HST := Lib.hid hst
      have p0 := HK5.out.cell 0
      have p1 := HK5.out.frozen 0
      simp at p0
      clear hx hst hSz
      go_wp2_with fail
      go_ret
      have hfs : feedS most inn s.data.toList = (done.map (oneF most), t.drop fr) := by unfold feedS; rw [HT.out, HST.out]
      rw [hfs]
      have ou := own_set HO5.out (p := ⟨g, 0, none⟩) (own_ne HO5.out HK5.out (by decide)) (.string (S.extract fr S.size))
      refine ⟨_, rfl, by simpa using ou, ?_, Only.setCell (S := fun k => k = g) (Only.of_below HB5.out) (p := ⟨g, 0, none⟩) rfl _⟩
      have kf := HK5.out.set_ 0 (.string (S.extract fr S.size))
      have e9 : S.extract fr S.size = ⟨(t.drop fr).toArray⟩ := by rw [← HX.out]
      rw [e9] at kf ⊢
      simpa using kf
end Go.Proofs.Ytjlpmfokekflbaa
