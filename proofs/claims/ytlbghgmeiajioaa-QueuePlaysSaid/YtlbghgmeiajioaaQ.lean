/- The queue in memory. -/
import Derived.Test.YtlbghgmeiajioaaProg
import Derived.Test.YtlbghgmeiajioaaK
import Derived.Test.YtlbghgmeiajioaaM
import Derived.WalkLawsBesides
import Derived.WalkSpells
namespace Go.Proofs.Ytlbghgmeiajioaa
open Go.RowKit
set_option linter.unusedVariables false

/-- An item's two slices are rows of its own. -/
def Own (w : World) (B : Nat) (r : Row) : Prop :=
  w.ownsRow B 60 7 r.tv r.it.to.length (r.it.to.flatMap Rc.cells) ∧ w.ownsRow B 9 1 r.lv r.it.lines.length (r.it.lines.map .string)
/-- No two items have one row of recipients. -/
def Apart (rows : List Row) : Prop := ∀ i j (hi : i < rows.length) (hj : j < rows.length), i ≠ j → ∀ k, rows[i].tv.ownBlock = some k → rows[j].tv.ownBlock ≠ some k
/-- A queue in block g, of type t: v is its slice of items. -/
structure Qm (w : World) (B g : Nat) (t : TypeId) (v : Value) (rows : List Row) (room tries wait : Int) : Prop where
  ge : B ≤ g
  blk : Bk w g t #[v, .int .i64 room, .int .i64 tries, .int .i64 wait]
  row : w.ownsRow B 51 12 v rows.length (rows.flatMap Row.cells)
  own : ∀ r ∈ rows, Own w B r
  apart : Apart rows
/-- The blocks of a queue. -/
def Foot (g : Nat) (v : Value) (rows : List Row) (k : Nat) : Prop := k = g ∨ v.ownBlock = some k ∨ ∃ r ∈ rows, r.tv.ownBlock = some k ∨ r.lv.ownBlock = some k

theorem Qm.lt {w : World} {B g : Nat} {t : TypeId} {v : Value} {rows : List Row} {room tries wait : Int} (h : Qm w B g t v rows room tries wait) : ∀ k, Foot g v rows k → B ≤ k ∧ k < w.heap.size := by
  rintro k (rfl | hk | ⟨r, hr, hk | hk⟩)
  · exact ⟨h.ge, h.blk.lt⟩
  · exact h.row.lt k hk
  · exact (h.own r hr).1.lt k hk
  · exact (h.own r hr).2.lt k hk
theorem Qm.only {w w' : World} {B g : Nat} {t : TypeId} {v : Value} {rows : List Row} {room tries wait : Int} {S : Nat → Prop} (h : Qm w B g t v rows room tries wait) (ho : Only w w' S) (hs : ∀ k, Foot g v rows k → ¬ S k) : Qm w' B g t v rows room tries wait :=
  ⟨h.ge, (ho.block g h.blk.lt (hs g (.inl rfl))).trans h.blk, own_only h.row ho (fun k hk => hs k (.inr (.inl hk))),
    fun r hr => ⟨own_only (h.own r hr).1 ho (fun k hk => hs k (.inr (.inr ⟨r, hr, .inl hk⟩))), own_only (h.own r hr).2 ho (fun k hk => hs k (.inr (.inr ⟨r, hr, .inr hk⟩)))⟩, h.apart⟩
theorem Qm.below {w w' : World} {B g : Nat} {t : TypeId} {v : Value} {rows : List Row} {room tries wait : Int} (h : Qm w B g t v rows room tries wait) (hb : Below w.heap.size w w') : Qm w' B g t v rows room tries wait :=
  h.only (S := fun _ => False) (Only.of_below hb) (fun _ _ h => h)

theorem Qm.drewN {w : World} {B g : Nat} {t : TypeId} {v : Value} {rows : List Row} {room tries wait : Int} (h : Qm w B g t v rows room tries wait) (n : Nat) : Qm (w.drewN n) B g t v rows room tries wait := ⟨h.ge, h.blk, h.row, h.own, h.apart⟩
theorem Qm.drew {w : World} {B g : Nat} {t : TypeId} {v : Value} {rows : List Row} {room tries wait : Int} (h : Qm w B g t v rows room tries wait) : Qm w.drew B g t v rows room tries wait := ⟨h.ge, h.blk, h.row, h.own, h.apart⟩
/-- A row that has an element lies in a block. -/
theorem own_some {w : World} {B : Nat} {e : TypeId} {s n : Nat} {v : Value} {xs : List Value} (h : w.ownsRow B e s v n xs) (hn : 0 < n) : ∃ g cap, v = .slice (some ⟨g, 0, none⟩) n cap ∧ B ≤ g ∧ g < w.heap.size := h.form hn
theorem own_any {w : World} {B : Nat} {e : TypeId} {s n : Nat} {v : Value} {xs : List Value} (h : w.ownsRow B e s v n xs) : ∃ A c, v = .slice A n c := own_form h

/-- The recipient k of item i, with the place where it lies. -/
theorem Qm.at_ {w : World} {B g : Nat} {t : TypeId} {v : Value} {rows : List Row} {room tries wait : Int} (h : Qm w B g t v rows room tries wait) {i : Nat} (hi : i < rows.length) {j : Nat} (hj : j < 12) :
    ∃ b cap, v = .slice (some ⟨b, 0, none⟩) rows.length cap ∧ w.cell? ⟨b, i * 12 + j, none⟩ = rows[i].cells[j]? := by
  obtain ⟨b, cap, rfl, hb, hl⟩ := own_some h.row (by omega)
  exact ⟨b, cap, rfl, by rw [h.row.cellAt _ (by omega), flat_get Row.len rows i j hi hj]⟩

set_option maxHeartbeats 400000 in
theorem len_any (w : World) (B g : Nat) (v : Value) (rows : List Row) (room tries wait : Int) (h : Qm w B g 66 v rows room tries wait) :
    Calls Try.prog 27 #[.pointer (some ⟨g, 0, none⟩)] w fun e w' => e = .returned (.int .i64 rows.length) ∧ w = w' := by
  have c0 := h.blk.cell 0
  simp at c0
  obtain ⟨A, c, rfl⟩ := own_any h.row
  clear h
  go_enter Try.func27, Try.ntmps27
  go_wp2
  go_ret
  exact ⟨rfl, rfl⟩

theorem own_blk {w : World} {B : Nat} {e : TypeId} {s n g cap : Nat} {xs : List Value} (h : w.ownsRow B e s (.slice (some ⟨g, 0, none⟩) n cap) n xs) : ∃ cs, Bk w g e cs := by
  rcases h.2 with ⟨h, _⟩ | ⟨g', cap', cur, h', _, hg, _⟩
  · simp at h
  · simp only [Value.slice.injEq, Option.some.injEq, Addr.mk.injEq, and_true, true_and] at h'
    obtain ⟨rfl, rfl⟩ := h'
    exact ⟨cur, hg⟩
theorem bk_ne {w : World} {g g' : Nat} {t t' : TypeId} {cs cs' : Array Value} (h : Bk w g t cs) (h' : Bk w g' t' cs') (hne : t ≠ t') : g ≠ g' := by
  rintro rfl
  unfold Bk at h h'
  rw [h] at h'
  injection h' with h'
  injection h' with _ e
  exact hne e

/-- A store into a field of a recipient. -/
theorem Qm.write {w : World} {B g : Nat} {t : TypeId} {v : Value} {rows : List Row} {room tries wait : Int} (h : Qm w B g t v rows room tries wait) (ht : t ≠ 60) {i k : Nat} (hi : i < rows.length) (hk : k < rows[i].it.to.length) {b cap : Nat}
    (e : rows[i].tv = .slice (some ⟨b, 0, none⟩) rows[i].it.to.length cap) (j : Nat) (hj : j < 7) (u : Value) (f : Rc → Rc) (hf : (f rows[i].it.to[k]).cells = (rows[i].it.to[k]).cells.set j u) :
    Qm (w.setCell ⟨b, k * 7 + j, none⟩ u) B g t v (updR rows i k f) room tries wait := by
  have ho := (h.own _ (List.getElem_mem hi)).1
  rw [e] at ho
  obtain ⟨cs, hb⟩ := own_blk ho
  refine ⟨h.ge, h.blk.far (bk_ne h.blk hb ht) u, ?_, ?_, ?_⟩
  · rw [updR_len, updR_cells]
    exact own_set h.row (p := ⟨b, k * 7 + j, none⟩) (own_ne h.row hb (by decide)) u
  · intro r hr
    obtain ⟨n, hn, rfl⟩ := List.getElem_of_mem hr
    have hn' : n < rows.length := by rw [updR_len] at hn; exact hn
    have hb2 := (h.own _ (List.getElem_mem hn')).2
    rw [updR_get _ _ _ _ n hn hn']
    split
    · rename_i hin
      subst hin
      refine ⟨?_, own_set hb2 (p := ⟨b, k * 7 + j, none⟩) (own_ne hb2 hb (by decide)) u⟩
      have hs := (ho.stored (k * 7 + j) u).1
      have hfl := flat_set Rc.len rows[i].it.to k j hk hj (f rows[i].it.to[k]) u hf
      have hmod : rows[i].it.to.modify k f = rows[i].it.to.set k (f rows[i].it.to[k]) := by
        apply List.ext_getElem
        · simp
        · intro m h1 h2
          rw [List.getElem_modify, List.getElem_set]
          split
          · rename_i hkm; subst hkm; rfl
          · rfl
      show (w.setCell ⟨b, k * 7 + j, none⟩ u).ownsRow B 60 7 rows[i].tv (rows[i].it.to.modify k f).length ((rows[i].it.to.modify k f).flatMap Rc.cells)
      rw [hmod, hfl, List.length_set, e]
      exact hs
    · rename_i hin
      have h1 := (h.own _ (List.getElem_mem hn')).1
      refine ⟨own_set h1 (p := ⟨b, k * 7 + j, none⟩) ?_ u, own_set hb2 (p := ⟨b, k * 7 + j, none⟩) (own_ne hb2 hb (by decide)) u⟩
      exact fun hk2 => h.apart n i hn' hi (fun e => hin e.symm) b hk2 (by rw [e]; rfl)
  · intro a c ha hc hac k' hk1
    have ha' : a < rows.length := by rw [updR_len] at ha; exact ha
    have hc' : c < rows.length := by rw [updR_len] at hc; exact hc
    have e1 : ∀ (n : Nat) (hn : n < (updR rows i k f).length) (hn' : n < rows.length), (updR rows i k f)[n].tv = rows[n].tv := by
      intro n hn hn'
      rw [updR_get _ _ _ _ n hn hn']
      split <;> rfl
    rw [e1 a ha ha'] at hk1
    rw [e1 c hc hc']
    exact h.apart a c ha' hc' hac k' hk1
theorem foot_upd {g : Nat} {v : Value} {rows : List Row} {i j : Nat} {f : Rc → Rc} {k : Nat} : Foot g v (updR rows i j f) k ↔ Foot g v rows k := by
  have hmem : ∀ (P : Value → Value → Prop), (∃ r ∈ updR rows i j f, P r.tv r.lv) ↔ ∃ r ∈ rows, P r.tv r.lv := by
    intro P
    constructor
    · rintro ⟨r, hr, hp⟩
      obtain ⟨n, hn, rfl⟩ := List.getElem_of_mem hr
      have hn' : n < rows.length := by rw [updR_len] at hn; exact hn
      refine ⟨rows[n], List.getElem_mem hn', ?_⟩
      rw [updR_get _ _ _ _ n hn hn'] at hp
      split at hp <;> exact hp
    · rintro ⟨r, hr, hp⟩
      obtain ⟨n, hn, rfl⟩ := List.getElem_of_mem hr
      refine ⟨(updR rows i j f)[n]'(by rw [updR_len]; exact hn), List.getElem_mem _, ?_⟩
      rw [updR_get _ _ _ _ n (by rw [updR_len]; exact hn) hn]
      split <;> exact hp
  unfold Foot
  rw [hmem (fun tv lv => tv.ownBlock = some k ∨ lv.ownBlock = some k)]

set_option maxHeartbeats 800000 in
theorem find_yes (w : World) (B g : Nat) (v : Value) (rows : List Row) (room tries wait : Int) (h : Qm w B g 66 v rows room tries wait) (i k : Nat) (hi : i < rows.length) (hk : k < rows[i].it.to.length) (hn : rows.length ≤ 100000) (hm : rows[i].it.to.length ≤ 100000) (st : Int)
    (hst : (rows[i].it.to[k].state == st) = true) (b2 cap2 : Nat) (e2 : rows[i].tv = .slice (some ⟨b2, 0, none⟩) rows[i].it.to.length cap2) :
    Calls Try.prog 35 #[.pointer (some ⟨g, 0, none⟩), .int .i64 ((i : Int) + 1), .int .i64 k, .int .i64 st] w fun e w' => e = .returned (.pointer (some ⟨b2, k * 7, none⟩)) ∧ w = w' := by
  have c0 := h.blk.cell 0
  simp at c0
  obtain ⟨b, cap, rfl, ct⟩ := h.at_ hi (j := 4) (by decide)
  have ho := (h.own _ (List.getElem_mem hi)).1
  rw [e2] at ho
  have cs := ho.cellAt (k * 7 + 3) (by omega)
  rw [flat_get Rc.len _ k 3 hk (by decide)] at cs
  simp [Row.cells, Rc.cells, e2] at ct cs
  have E2 := Lib.hid e2
  clear h ho e2
  go_enter Try.func35, Try.ntmps35
  go_wp2
  go_ret
  exact ⟨rfl, rfl⟩

/-- Where a recipient that is hit lies, and what its cells hold. -/
theorem Qm.hit {w : World} {B g : Nat} {t : TypeId} {v : Value} {rows : List Row} {room tries wait : Int} (h : Qm w B g t v rows room tries wait) (ht : t ≠ 60) {i k : Nat} (hi : i < rows.length) (hk : k < rows[i].it.to.length) :
    ∃ b cap, rows[i].tv = .slice (some ⟨b, 0, none⟩) rows[i].it.to.length cap ∧ Foot g v rows b ∧
      w.cell? ⟨b, k * 7 + 3, none⟩ = some (.int .i64 rows[i].it.to[k].state) ∧ w.cell? ⟨b, k * 7 + 4, none⟩ = some (.int .i64 rows[i].it.to[k].tries) ∧ w.cell? ⟨b, k * 7 + 5, none⟩ = some (.int .i64 rows[i].it.to[k].next) ∧ w.cell? ⟨b, k * 7 + 6, none⟩ = some (.int .i64 rows[i].it.to[k].status) ∧
      w.frozen? ⟨b, k * 7 + 3, none⟩ = false ∧ w.frozen? ⟨b, k * 7 + 4, none⟩ = false ∧ w.frozen? ⟨b, k * 7 + 5, none⟩ = false ∧ w.frozen? ⟨b, k * 7 + 6, none⟩ = false := by
  have ho := (h.own _ (List.getElem_mem hi)).1
  obtain ⟨b2, cap2, e2, hb2, hl2⟩ := own_some ho (by omega)
  refine ⟨b2, cap2, e2, .inr (.inr ⟨_, List.getElem_mem hi, .inl (by rw [e2]; rfl)⟩), ?_⟩
  rw [e2] at ho
  refine ⟨?_, ?_, ?_, ?_, ho.frozenAt _, ho.frozenAt _, ho.frozenAt _, ho.frozenAt _⟩
  · rw [ho.cellAt _ (by omega), flat_get Rc.len _ k 3 hk (by decide)]; rfl
  · rw [ho.cellAt _ (by omega), flat_get Rc.len _ k 4 hk (by decide)]; rfl
  · rw [ho.cellAt _ (by omega), flat_get Rc.len _ k 5 hk (by decide)]; rfl
  · rw [ho.cellAt _ (by omega), flat_get Rc.len _ k 6 hk (by decide)]; rfl

theorem its_get {rows : List Row} {i : Nat} (hi : i < rows.length) : (rows.map Row.it)[i]'(by simpa using hi) = rows[i].it := List.getElem_map ..

set_option maxRecDepth 100000 in
set_option maxHeartbeats 800000 in
theorem find_no (w : World) (B g : Nat) (v : Value) (rows : List Row) (room tries wait : Int) (h : Qm w B g 66 v rows room tries wait) (id k st : Int) (hn : rows.length ≤ 100000) (hm : Miss (rows.map Row.it) id k st) :
    Calls Try.prog 35 #[.pointer (some ⟨g, 0, none⟩), .int .i64 id, .int .i64 k, .int .i64 st] w fun e w' => e = .returned (.pointer none) ∧ w = w' := by
  have c0 := h.blk.cell 0
  simp at c0
  cases hm with
  | low h1 =>
    obtain ⟨A, c, rfl⟩ := own_any h.row
    clear h
    go_enter Try.func35, Try.ntmps35
    go_wp2
    go_ret
    exact ⟨rfl, rfl⟩
  | high h1 h2 =>
    obtain ⟨A, c, rfl⟩ := own_any h.row
    rw [List.length_map] at h2
    clear h
    go_enter Try.func35, Try.ntmps35
    go_wp2
    go_ret
    exact ⟨rfl, rfl⟩
  | neg i h0 hi h1 =>
    obtain ⟨A, c, rfl⟩ := own_any h.row
    rw [List.length_map] at hi
    subst h0
    clear h
    go_enter Try.func35, Try.ntmps35
    go_wp2
    go_ret
    exact ⟨rfl, rfl⟩
  | far i h0 hi j hj h1 =>
    subst h0; subst hj
    have hi' : i < rows.length := by simpa using hi
    rw [its_get hi'] at h1
    obtain ⟨b, cap, rfl, ct⟩ := h.at_ hi' (j := 4) (by decide)
    have ho := (h.own _ (List.getElem_mem hi')).1
    obtain ⟨A2, c2, e2⟩ := own_any ho
    simp [Row.cells, e2] at ct
    clear h ho e2
    go_enter Try.func35, Try.ntmps35
    go_wp2
    go_ret
    exact ⟨rfl, rfl⟩
  | state i h0 hi j hj hl h1 =>
    subst h0; subst hj
    have hi' : i < rows.length := by simpa using hi
    simp only [its_get hi'] at h1 hl
    obtain ⟨b, cap, rfl, ct⟩ := h.at_ hi' (j := 4) (by decide)
    have ho := (h.own _ (List.getElem_mem hi')).1
    obtain ⟨b2, cap2, e2, hb2, hl2⟩ := own_some ho (by omega)
    rw [e2] at ho
    have cs := ho.cellAt (j * 7 + 3) (by omega)
    rw [flat_get Rc.len _ j 3 hl (by decide)] at cs
    simp [Row.cells, Rc.cells, e2] at ct cs
    clear h ho e2
    go_enter Try.func35, Try.ntmps35
    go_wp2
    go_ret
    exact ⟨rfl, rfl⟩
end Go.Proofs.Ytlbghgmeiajioaa
