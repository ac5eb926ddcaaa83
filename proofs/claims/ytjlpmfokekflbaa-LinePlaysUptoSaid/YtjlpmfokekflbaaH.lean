/- Feed: the program's. -/
import Derived.Test.YtjlpmfokekflbaaG
import Derived.Test.YtjlpmfokekflbaaS2
import Derived.WalkMore
import Derived.Deep.QuietTactic
import Derived.BigQuiet
namespace Go.Proofs.Ytjlpmfokekflbaa
open Go.RowKit
set_option linter.unusedVariables false

theorem own_cap {w : World} {B : Nat} {e : TypeId} {s n c : Nat} {p : Addr} {xs : List Value} (h : w.ownsRow B e s (.slice (some p) n c) n xs) : n ≤ c := by
  rcases h.2 with ⟨h1, _⟩ | ⟨g, cap, cur, hv, _, _, hnc, _⟩
  · cases h1
  · simp only [Value.slice.injEq] at hv
    omega
theorem own_le {w : World} {B : Nat} {e : TypeId} {s n c : Nat} {A : Option Addr} {xs : List Value} (h : w.ownsRow B e s (.slice A n c) n xs) : n ≤ c := by
  rcases h.2 with ⟨h1, h2⟩ | ⟨g, cap, cur, hv, _, _, hnc, _⟩
  · omega
  · simp only [Value.slice.injEq] at hv
    omega
theorem own_addr {w : World} {B : Nat} {e : TypeId} {s n c : Nat} {A : Option Addr} {xs : List Value} (h : w.ownsRow B e s (.slice A n c) n xs) : A = none ∨ ∃ b, A = some ⟨b, 0, none⟩ := by
  rcases h.2 with ⟨h1, h2⟩ | ⟨g, cap, cur, hv, _, _, hnc, _⟩
  · simp only [Value.slice.injEq] at h1
    exact .inl h1.1
  · simp only [Value.slice.injEq] at hv
    exact .inr ⟨g, hv.1⟩
theorem add_plain (b o k : Nat) : (⟨b, o, none⟩ : Addr).add k = ⟨b, o + k, none⟩ := by unfold Addr.add; split <;> simp_all
theorem Rd.part {w : World} {B b o : Nat} {xs : List Value} (h : Rd w B (some ⟨b, o, none⟩) xs) (f a : Nat) : Rd w B (some ⟨b, o + f, none⟩) ((xs.take a).drop f) := by
  rcases h with rfl | ⟨b', o', e, hb, hc⟩
  · exact .inl (by simp)
  · simp only [Option.some.injEq, Addr.mk.injEq, and_true] at e
    obtain ⟨rfl, rfl⟩ := e
    refine .inr ⟨b, o + f, rfl, hb, fun j u hu => ?_⟩
    rw [List.getElem?_drop] at hu
    rw [List.getElem?_take] at hu
    split at hu
    · have := hc (f + j) u hu
      rwa [Nat.add_assoc]
    · cases hu
theorem own_tail {w : World} {B n c : Nat} {A : Option Addr} {t : List UInt8} (h : w.ownsRow B 5 1 (.slice A n c) n (Lib.byteCells t)) (f : Nat) :
    (Option.map (fun x : Addr => x.add f) A = none ∨ ∃ b o, Option.map (fun x : Addr => x.add f) A = some ⟨b, o, none⟩) ∧ Rd w w.heap.size (Option.map (fun x : Addr => x.add f) A) (Lib.byteCells (t.drop f)) := by
  have hr := own_rd h
  have ht : t.length = n := by have := own_len h; rwa [byte_len] at this
  rcases own_addr h with rfl | ⟨b, rfl⟩
  · refine ⟨.inl rfl, .inl ?_⟩
    rcases hr with h0 | ⟨_, _, h0, _⟩
    · have := byte_len t
      rw [h0] at this
      rw [List.eq_nil_of_length_eq_zero this.symm]
      simp [Lib.byteCells]
    · cases h0
  · refine ⟨.inr ⟨b, 0 + f, by rw [Option.map_some, add_plain]⟩, ?_⟩
    rw [Option.map_some, add_plain]
    have := Rd.part hr f t.length
    rwa [show (Lib.byteCells t).take t.length = Lib.byteCells t by rw [← byte_len t, List.take_length], show (Lib.byteCells t).drop f = Lib.byteCells (t.drop f) by simp [Lib.byteCells]] at this
theorem own_seg {w : World} {B n c b : Nat} {t : List UInt8} (h : w.ownsRow B 5 1 (.slice (some ⟨b, 0, none⟩) n c) n (Lib.byteCells t)) (f a : Nat) : Rd w w.heap.size (some ⟨b, f, none⟩) (Lib.byteCells (seg t f a)) := by
  have := Rd.part (own_rd h) f a
  rw [Nat.zero_add] at this
  rwa [show ((Lib.byteCells t).take a).drop f = Lib.byteCells (seg t f a) by simp [Lib.byteCells, seg]] at this
theorem str_len (s : ByteArray) : s.data.toList.length = s.size := (Lib.size_eq s).symm
set_option maxRecDepth 100000 in
set_option maxHeartbeats 4000000 in
theorem feed_any {w : World} {P : Nat → Prop} {g : Nat} {inn : List UInt8} {most : Int} (h : FS w P g inn most) (hk : Kept inn) (s : ByteArray) (hs : inn.length + s.size ≤ 2000000) :
    Calls Try.prog 14 #[.pointer (some ⟨g, 0, none⟩), .string s] w fun e w' => ∃ v', e = .returned v' ∧ w'.ownsRow w.heap.size 42 3 v' (feedS most inn s.data.toList).1.length ((feedS most inn s.data.toList).1.flatMap Fr.cells) ∧ FS w' P g (feedS most inn s.data.toList).2 most ∧ Keep P w w' := by
  obtain ⟨v, ⟨kg, ho⟩, hP⟩ := h
  obtain ⟨i0, hi, hz0, hz1, hz2⟩ := info_parts info5
  obtain ⟨A, c, rfl⟩ := own_any ho
  have HP := Lib.hid hP; have HK := Lib.hid hk; have HO := Lib.hid ho; have KG := Lib.hid kg
  have c0 := kg.cell 0
  have f0 := kg.frozen 0
  simp at c0
  clear hP hk ho kg
  go_enter Try.func14, Try.ntmps14
  have hmx : max (0 : Int) ((inn.length : Int) - 1) = ((inn.length - 1 : Nat) : Int) := by omega
  go_wp2_with fail
  go_step3
  go_wp2_with (at_builtin; refine Lib.wpList_append_own_string _ rfl (.tmp 19) (.tmp 20) 43 9 rfl 0 5 i0 Try.underlying43 Try.underlying9 hi hz0 hz1 hz2 _ inn.length _ rfl HO.out s rfl (by unfold maxLen; omega) (by omega) (Nat.zero_le _) ?_; intro v2 w2 own2 hg2 _; obtain ⟨A2, c2, rfl⟩ := own_any own2; have k2 := KG.out.grown hg2 (fun e => own_ne HO.out KG.out (by decide) e.symm); have y0 := k2.cell 0; have y1 := k2.frozen 0; simp at y0)
  go_step3
  have hg3 : w.grownBy w2 (Value.slice A inn.length c).ownBlock := hg2
  obtain ⟨t, ht⟩ : ∃ t, inn ++ s.data.toList = t := ⟨_, rfl⟩
  have htl : inn.length + s.size = t.length := by rw [← ht, List.length_append, str_len]
  have k3 := k2.set_ 0 (.slice A2 (inn.length + s.size) c2)
  have o3 := own_set own2 (p := ⟨g, 0, none⟩) (own_ne own2 k2 (by decide)) (.slice A2 (inn.length + s.size) c2)
  rw [str_cells, ← byte_app, ht] at o3
  have on3 : Keep P w (w2.setCell ⟨g, 0, none⟩ (.slice A2 (inn.length + s.size) c2)) := ((Only.refl w (fun k => ¬ P k)).grown hg3 (fun k hk _ hp => (HP.out k hp).2.2 hk)).setCell (p := ⟨g, 0, none⟩) (fun hp => (HP.out g hp).2.1 rfl) _
  rw [htl] at k3 o3 on3 hs ⊢
  simp at k3
  have HT := Lib.hid ht
  have hat := at_start inn s.data.toList HK.out
  rw [ht] at hat
  generalize w2.setCell ⟨g, 0, none⟩ (.slice A2 t.length c2) = w3 at *
  have K3 := Lib.hid k3; have O3 := Lib.hid o3; have ON3 := Lib.hid on3; have HAT := Lib.hid hat
  have hn1 : inn.length - 1 ≤ t.length := by omega
  clear hmx hg2 hg3 own2 k2 y1 y0 htl k3 o3 on3 hat ht c0 f0 HO KG
  go_wp2_with fail
  go_loopw [5, 6, 7] (fun o f i wx => ∃ (done : List (List UInt8)) (fr a : Nat) (v5 : Value), o = v5 ∧ f = .int .i64 (fr : Int) ∧ i = .int .i64 (a : Int) ∧ At t done fr a ∧ done.length ≤ fr ∧ wx.ownsRow w3.heap.size 42 3 v5 done.length ((done.map (oneF most)).flatMap Fr.cells) ∧ Below w3.heap.size w3 wx) (fun _ _ i _ => t.length - (intOf i).toNat)
  case atStart => exact ⟨[], 0, inn.length - 1, _, rfl, rfl, rfl, HAT.out, Nat.le_refl _, World.ownsRow_nil _ _ _ _, Below.refl _ _⟩
  case round =>
    obtain ⟨done, fr, a, v5, rfl, rfl, rfl, hAt, hdl, ho5, hb5⟩ := hrel
    have K5 := K3.out.below hb5 K3.out.lt
    have O5 := own_below O3.out hb5
    have q0 := K5.cell 0
    simp at q0
    have hf := hAt.1
    have hf2 := hAt.2.1
    have hz2 : (t.length : Int) ≤ 2000000 := by omega
    have hz3 : (a : Int) ≤ 2000000 := by omega
    have hw1 : wrap64 ((a : Int) + 1) = (a : Int) + 1 := by unfold wrap64; omega
    have hw2 : wrap64 ((a : Int) + 2) = (a : Int) + 2 := by unfold wrap64; omega
    have HAt := Lib.hid hAt; have HO5 := Lib.hid ho5; have HB5 := Lib.hid hb5; have HK5 := Lib.hid K5
    have HDF := Lib.hid hdl
    clear hAt ho5 hb5 K5 hdl
    by_cases hl : a + 1 < t.length
    · obtain ⟨gA, cA, hv, _, hlt⟩ := own_some O5 (by omega)
      simp only [Value.slice.injEq, true_and] at hv
      obtain ⟨rfl, rfl⟩ := hv
      have e1 := (O5.cellAt a (by omega)).trans (byte_get t a (by omega))
      have e2 := (O5.cellAt (a + 1) (by omega)).trans (byte_get t (a + 1) hl)
      have hcap := own_cap O5
      have hcv := conv_rd wr wr.heap.size (some ⟨gA, fr, none⟩) (a - fr) (c2 - fr) (seg t fr a) (.inr ⟨gA, fr, rfl⟩) (own_seg O5 fr a) (seg_len (by omega)).symm
      clear O5
      have hz : (a : Int) + 1 < t.length := by omega
      by_cases h1 : t[a] = 13
      · have d1 : ((t[a].toNat : Int) != 13) = false := by rw [h1]; rfl
        by_cases h2 : t[a + 1] = 10
        · have d2 : ((t[a + 1].toNat : Int) != 10) = false := by rw [h2]; rfl
          have HA := Lib.hid (HAt.out.cut hl h1 h2)
          have hfc : fr < c2 := by omega
          have hfc2 : ¬ c2 = fr := by omega
          clear h1 h2
          have hsl := seg_len (t := t) (f := fr) (a := a) (by omega)
          generalize hL : seg t fr a = L at *
          go_wp2_with fail
          have hsz : (⟨L.toArray⟩ : ByteArray).size < 4294967281 := by show L.length < _; omega
          refine (framed_any g _ most ⟨L.toArray⟩ wr HK5.out hsz).mono ?_
          rintro e w4 ⟨rfl, b4⟩
          have hdl : (⟨L.toArray⟩ : ByteArray).data.toList = L := rfl
          rw [hdl]
          obtain ⟨f, hfe⟩ : ∃ f, oneF most L = f := ⟨_, rfl⟩
          rw [hfe]
          have HFE := Lib.hid hfe
          clear hfe
          simp only [Fr.cells]
          have c4 := (HK5.out.below b4 HK5.out.lt).cell 0
          simp at c4
          obtain ⟨j0, hj, hj0, hj1, hj2⟩ := info_parts info42
          have HO4 := Lib.hid ((own_below HO5.out b4).alloc (.cells #[.string ⟨f.text.toArray⟩, .bool f.long, .bool f.bare] 42))
          have HB4 := Lib.hid ((HB5.out.trans (b4.mono HB5.out.size)).alloc (Nat.le_trans HB5.out.size b4.size) (.cells #[.string ⟨f.text.toArray⟩, .bool f.long, .bool f.bare] 42))
          have hfr : Rd (w4.alloc (.cells #[.string ⟨f.text.toArray⟩, .bool f.long, .bool f.bare] 42)) (w4.heap.size + 1) (some ⟨w4.heap.size, 0, none⟩) [.string ⟨f.text.toArray⟩, .bool f.long, .bool f.bare] :=
            .inr ⟨w4.heap.size, 0, rfl, by omega, fun j u hu => by rw [(Bk.new w4 42 #[.string ⟨f.text.toArray⟩, .bool f.long, .bool f.bare]).cell]; simpa using hu⟩
          have HFR := Lib.hid hfr
          have hb64 : w3.heap.size ≤ w4.heap.size + 1 := by have := HB5.out.size; have := b4.size; omega
          have HDL : Hid (done.length ≤ 2000000) := Lib.hid (by have := HDF.out; omega)
          clear b4 hcv hdl hfr
          go_wp2_with (at_builtin; refine wpList_app rfl (.tmp 53) (.tmp 64) 34 rfl 42 j0 zeroFr 3 24 Try.underlying34 hj hj0 hj1 hj2 rfl (by decide) _ w3.heap.size (w4.heap.size + 1) _ done.length _ rfl HO4.out (some ⟨w4.heap.size, 0, none⟩) 1 1 [.string ⟨f.text.toArray⟩, .bool f.long, .bool f.bare] rfl HFR.out rfl (by simp [Value.oneCell']) (by have := HDL.out; unfold maxLen; omega) (by have := HDL.out; omega) (by simpa using hb64) ?_; intro v6 w6 own6 hg6 _)
          have own7 : w6.ownsRow w3.heap.size 42 3 v6 (done ++ [L]).length (((done ++ [L]).map (oneF most)).flatMap Fr.cells) := by
            rw [List.length_append, List.map_append, List.flatMap_append]
            simpa [HFE.out, Fr.cells] using own6
          have b7 : Below w3.heap.size w3 w6 := HB4.out.grown hg6 (by simpa using hb64) (fun k hk => (HO4.out.lt k hk).1)
          exact ⟨⟨done ++ [L], a + 2, a + 2, _, rfl, by go_num, by go_num, HA.out, by rw [List.length_append]; have := HDF.out; simp; omega, own7, b7⟩, by simp [intOf]; omega⟩
        · have d2 : ((t[a + 1].toNat : Int) != 10) = true := bne_iff_ne.2 (fun e => h2 (UInt8.toNat_inj.1 (by have : (10 : UInt8).toNat = 10 := rfl; omega)))
          have HA := Lib.hid (HAt.out.on hl (fun h => h2 h.2))
          clear h1 h2
          go_wp2_with fail
          exact ⟨⟨done, fr, a + 1, _, rfl, rfl, by go_num, HA.out, HDF.out, HO5.out, HB5.out⟩, by simp [intOf]; omega⟩
      · have d1 : ((t[a].toNat : Int) != 13) = true := bne_iff_ne.2 (fun e => h1 (UInt8.toNat_inj.1 (by have : (13 : UInt8).toNat = 13 := rfl; omega)))
        have HA := Lib.hid (HAt.out.on hl (fun h => h1 h.1))
        clear h1
        go_wp2_with fail
        exact ⟨⟨done, fr, a + 1, _, rfl, rfl, by go_num, HA.out, HDF.out, HO5.out, HB5.out⟩, by simp [intOf]; omega⟩
    · have hst := HAt.out.stop hl
      have hz : ¬ ((a : Int) + 1 < t.length) := by omega
      have hcle := own_le O5
      have hA0 := own_addr O5
      obtain ⟨hT1, hT2⟩ := own_tail O5 fr
      have HT1 := Lib.hid hT1; have HT2 := Lib.hid hT2; have HA0 := Lib.hid hA0; have HCL := Lib.hid hcle
      have HST := Lib.hid hst
      clear hT1 hT2 hA0 hcle hst O5
      have hend : ∀ (w5 : World) (v9 : Value), w5.ownsRow wr.heap.size 5 1 v9 (t.drop fr).length (Lib.byteCells (t.drop fr)) → Below wr.heap.size wr w5 → ∀ (A9 : Option Addr) (n9 c9 : Nat), v9 = .slice A9 n9 c9 →
          (w5.setCell ⟨g, 0, none⟩ v9).ownsRow w.heap.size 42 3 u5 (feedS most inn s.data.toList).1.length ((feedS most inn s.data.toList).1.flatMap Fr.cells) ∧ FS (w5.setCell ⟨g, 0, none⟩ v9) P g (feedS most inn s.data.toList).2 most ∧ Keep P w (w5.setCell ⟨g, 0, none⟩ v9) := by
        intro w5 v9 o9 b9 A9 n9 c9 e9
        have k9 := HK5.out.below b9 HK5.out.lt
        have hfs : feedS most inn s.data.toList = (done.map (oneF most), t.drop fr) := by unfold feedS; rw [HT.out, HST.out]
        rw [hfs]
        have ou := own_below HO5.out b9
        have bw3 : Below w3.heap.size w3 w5 := HB5.out.trans (b9.mono HB5.out.size)
        refine ⟨?_, ⟨v9, ⟨by simpa using k9.set_ 0 v9, own_set (own_base o9 (Nat.zero_le _)) (p := ⟨g, 0, none⟩) (own_ne o9 k9 (by decide)) _⟩, fun k hk => ?_⟩, ?_⟩
        · have := own_set (own_base ou (B := w.heap.size) ON3.out.size) (p := ⟨g, 0, none⟩) (own_ne ou k9 (by decide)) v9
          simpa using this
        · have h1 := HP.out k hk
          refine ⟨?_, h1.2.1, fun e => ?_⟩
          · have := ON3.out.size; have := bw3.size; simp; omega
          · have := (o9.lt k e).1; have := ON3.out.size; have := HB5.out.size; omega
        · exact (ON3.out.trans (Only.of_below bw3)).setCell (p := ⟨g, 0, none⟩) (fun hp => (HP.out g hp).2.1 rfl) _
      have HEND := Lib.hid hend
      clear hend
      go_wp2_with fail
      · have hd0 : t.drop fr = [] := List.drop_eq_nil_of_le (by have := HCL.out; omega)
        have HD0 := Lib.hid hd0
        clear hd0
        refine (clone_any A2 0 (t.length - fr) (t.drop fr) wr (HA0.out.imp id (fun ⟨b, h⟩ => ⟨b, 0, h⟩)) (.inl (by rw [HD0.out]; rfl)) (by simp) (by simp; omega)).mono ?_
        rintro e w5 ⟨v9, rfl, o9, b9⟩
        have k9 := HK5.out.below b9 HK5.out.lt
        have p0 := k9.cell 0
        have p1 := k9.frozen 0
        simp at p0
        obtain ⟨A9, c9, rfl⟩ := own_any o9
        have HF' := HEND.out w5 _ o9 b9 A9 _ c9 rfl
        rw [List.length_drop] at HF'
        have HF := Lib.hid HF'
        clear HF'
        clear o9 b9 k9
        go_wp2_with fail
        rw [Exit.noGoto_ret]
        go_ret
        exact ⟨_, rfl, HF.out⟩
      · refine (clone_any _ _ _ (t.drop fr) wr HT1.out HT2.out (by simp) (by simp; omega)).mono ?_
        rintro e w5 ⟨v9, rfl, o9, b9⟩
        have k9 := HK5.out.below b9 HK5.out.lt
        have p0 := k9.cell 0
        have p1 := k9.frozen 0
        simp at p0
        obtain ⟨A9, c9, rfl⟩ := own_any o9
        have HF' := HEND.out w5 _ o9 b9 A9 _ c9 rfl
        rw [List.length_drop] at HF'
        have HF := Lib.hid HF'
        clear HF'
        clear o9 b9 k9
        go_wp2_with fail
        rw [Exit.noGoto_ret]
        go_ret
        exact ⟨_, rfl, HF.out⟩
end Go.Proofs.Ytjlpmfokekflbaa
