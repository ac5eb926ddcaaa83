/- The queue in plain words: items, recipients, and what each call makes of them. No program in sight. -/
import Derived.WalkKit
namespace Go.Proofs.Ytlbghgmeiajioaa
set_option linter.unusedVariables false

structure Pth where
  null : Bool
  loc : ByteArray
  dom : ByteArray
structure Rc where
  path : Pth
  state : Int
  tries : Int
  next : Int
  status : Int
structure Fl where
  head : Bool
  body : Bool
  bad : Bool
  lines : Int
  hops : Int
structure It where
  id : Int
  frm : Pth
  to : List Rc
  lines : List ByteArray
  flags : Fl
  bytes : Int
def Pth.cells (p : Pth) : List Value := [.bool p.null, .string p.loc, .string p.dom]
def Rc.cells (r : Rc) : List Value := [.bool r.path.null, .string r.path.loc, .string r.path.dom, .int .i64 r.state, .int .i64 r.tries, .int .i64 r.next, .int .i64 r.status]
/-- An item in memory: with the values of its two slices. -/
structure Row where
  it : It
  tv : Value
  lv : Value
def Row.cells (r : Row) : List Value :=
  [.int .i64 r.it.id, .bool r.it.frm.null, .string r.it.frm.loc, .string r.it.frm.dom, r.tv, r.lv, .bool r.it.flags.head, .bool r.it.flags.body, .bool r.it.flags.bad, .int .i64 r.it.flags.lines, .int .i64 r.it.flags.hops, .int .i64 r.it.bytes]
theorem Rc.len (r : Rc) : r.cells.length = 7 := rfl
theorem Row.len (r : Row) : r.cells.length = 12 := rfl
theorem Pth.len (p : Pth) : p.cells.length = 3 := rfl

section flat
variable {α β : Type} {f : α → List β} {s : Nat}
theorem flat_len (hf : ∀ a, (f a).length = s) (l : List α) : (l.flatMap f).length = l.length * s := by
  induction l with
  | nil => simp
  | cons a l ih => simp [List.flatMap_cons, hf, ih, Nat.add_mul]; omega
theorem flat_get (hf : ∀ a, (f a).length = s) (l : List α) (i j : Nat) (hi : i < l.length) (hj : j < s) : (l.flatMap f)[i * s + j]? = (f l[i])[j]? := by
  induction l generalizing i with
  | nil => simp at hi
  | cons a l ih =>
    rw [List.flatMap_cons]
    cases i with
    | zero => rw [Nat.zero_mul, Nat.zero_add, List.getElem?_append_left (by rw [hf]; exact hj)]; rfl
    | succ i =>
      rw [List.getElem?_append_right (by rw [hf, Nat.add_mul]; omega), hf, show (i + 1) * s + j - s = i * s + j by rw [Nat.add_mul]; omega]
      exact ih i (by simpa using hi)
theorem flat_set (hf : ∀ a, (f a).length = s) (l : List α) (i j : Nat) (hi : i < l.length) (hj : j < s) (a' : α) (u : β) (h : f a' = (f l[i]).set j u) : (l.set i a').flatMap f = (l.flatMap f).set (i * s + j) u := by
  induction l generalizing i with
  | nil => simp at hi
  | cons a l ih =>
    cases i with
    | zero =>
      rw [List.set_cons_zero, List.flatMap_cons, List.flatMap_cons, Nat.zero_mul, Nat.zero_add, List.set_append_left _ _ (by rw [hf]; exact hj), h]; rfl
    | succ i =>
      rw [List.set_cons_succ, List.flatMap_cons, List.flatMap_cons, List.set_append_right _ _ (by rw [hf, Nat.add_mul]; omega), hf, show (i + 1) * s + j - s = i * s + j by rw [Nat.add_mul]; omega]
      rw [ih i (by simpa using hi) h]
end flat

def openR (r : Rc) : Bool := r.state == 0 || r.state == 1
def openI (it : It) : Bool := it.to.any openR
def openN (l : List It) : Nat := l.countP openI
theorem flat_modify {α β : Type} {f : α → List β} {g : α → α} (h : ∀ a, f (g a) = f a) (l : List α) (i : Nat) : (l.modify i g).flatMap f = l.flatMap f := by
  induction l generalizing i with
  | nil => simp
  | cons a l ih =>
    cases i with
    | zero => simp [List.flatMap_cons, h]
    | succ i => simp [List.flatMap_cons, ih]

/-- Recipient j of item i. -/
def upd (l : List It) (i j : Nat) (f : Rc → Rc) : List It := l.modify i fun it => { it with to := it.to.modify j f }
def updR (l : List Row) (i j : Nat) (f : Rc → Rc) : List Row := l.modify i fun r => { r with it := { r.it with to := r.it.to.modify j f } }
theorem updR_it (l : List Row) (i j : Nat) (f : Rc → Rc) : (updR l i j f).map Row.it = upd (l.map Row.it) i j f := by
  unfold updR upd
  apply List.ext_getElem
  · simp
  · intro n h1 h2
    simp only [List.getElem_map, List.getElem_modify]
    split <;> rfl
theorem updR_len (l : List Row) (i j : Nat) (f : Rc → Rc) : (updR l i j f).length = l.length := by simp [updR]
def Row.put (r : Row) (j : Nat) (f : Rc → Rc) : Row := { r with it := { r.it with to := r.it.to.modify j f } }
theorem updR_get (l : List Row) (i j : Nat) (f : Rc → Rc) (n : Nat) (hn : n < (updR l i j f).length) (hn' : n < l.length) : (updR l i j f)[n] = if i = n then l[n].put j f else l[n] := by
  simp only [updR, List.getElem_modify, Row.put]
theorem updR_cells (l : List Row) (i j : Nat) (f : Rc → Rc) : (updR l i j f).flatMap Row.cells = l.flatMap Row.cells :=
  flat_modify (g := fun r => { r with it := { r.it with to := r.it.to.modify j f } }) (f := Row.cells) (fun _ => rfl) l i

/-- Where a recipient in a state lies: its item, its place. -/
def Hit (l : List It) (id k st : Int) (i j : Nat) : Prop := id = i + 1 ∧ k = j ∧ ∃ (hi : i < l.length) (hj : j < l[i].to.length), (l[i].to[j].state == st) = true
def pos (l : List It) (id k st : Int) : Option (Nat × Nat) :=
  if 1 ≤ id ∧ 0 ≤ k then
    match (l[(id - 1).toNat]?).bind (fun it => it.to[k.toNat]?) with
    | some r => if r.state == st then some ((id - 1).toNat, k.toNat) else none
    | none => none
  else none
/-- Why there is none. -/
inductive Miss (l : List It) (id k st : Int) : Prop
  | low (h : id < 1)
  | high (h1 : 1 ≤ id) (h : (l.length : Int) < id)
  | neg (i : Nat) (h0 : id = i + 1) (hi : i < l.length) (h : k < 0)
  | far (i : Nat) (h0 : id = i + 1) (hi : i < l.length) (j : Nat) (hj : k = j) (h : l[i].to.length ≤ j)
  | state (i : Nat) (h0 : id = i + 1) (hi : i < l.length) (j : Nat) (hk : k = j) (hj : j < l[i].to.length) (h : (l[i].to[j].state == st) = false)
theorem pos_cases (l : List It) (id k st : Int) : (∃ i j, pos l id k st = some (i, j) ∧ Hit l id k st i j) ∨ (pos l id k st = none ∧ Miss l id k st) := by
  unfold pos
  by_cases h1 : 1 ≤ id
  · by_cases hl : (id - 1).toNat < l.length
    · by_cases h2 : 0 ≤ k
      · rw [if_pos ⟨h1, h2⟩, List.getElem?_eq_getElem hl]
        simp only [Option.bind_some]
        by_cases hk : k.toNat < l[(id - 1).toNat].to.length
        · rw [List.getElem?_eq_getElem hk]
          simp only
          by_cases hs : (l[(id - 1).toNat].to[k.toNat].state == st) = true
          · rw [if_pos hs]
            exact .inl ⟨_, _, rfl, by omega, by omega, hl, hk, hs⟩
          · rw [if_neg hs]
            exact .inr ⟨rfl, .state (id - 1).toNat (by omega) hl k.toNat (by omega) hk (by simpa using hs)⟩
        · rw [List.getElem?_eq_none (by omega)]
          exact .inr ⟨rfl, .far (id - 1).toNat (by omega) hl k.toNat (by omega) (by omega)⟩
      · rw [if_neg (by omega)]
        exact .inr ⟨rfl, .neg (id - 1).toNat (by omega) hl (by omega)⟩
    · refine .inr ⟨?_, .high h1 (by omega)⟩
      split
      · rw [List.getElem?_eq_none (by omega)]; rfl
      · rfl
  · rw [if_neg (by omega)]
    exact .inr ⟨rfl, .low (by omega)⟩

def takeS (l : List It) (id k : Int) : Bool × List It := match pos l id k 0 with
  | some (i, j) => (true, upd l i j fun r => { r with state := 1, tries := r.tries + 1 })
  | none => (false, l)
def sentS (l : List It) (id k : Int) : Bool × List It := match pos l id k 1 with
  | some (i, j) => (true, upd l i j fun r => { r with state := 2 })
  | none => (false, l)
def nullAt (l : List It) (i : Nat) : Bool := ((l[i]?).map (·.frm.null)).getD false
def triesAt (l : List It) (i j : Nat) : Int := (((l[i]?).bind (fun it => it.to[j]?)).map (·.tries)).getD 0
def closed (l : List It) (i : Nat) : Int := if nullAt l i then 4 else 3
def failS (l : List It) (id k status : Int) : Int × List It := match pos l id k 1 with
  | some (i, j) => (closed l i, upd l i j fun r => { r with state := closed l i, status := status })
  | none => (-1, l)
def clamp (now : Int) : Int := max 0 (min now 1099511627776)
def laterS (tries wait : Int) (l : List It) (id k now : Int) : Int × List It := match pos l id k 1 with
  | some (i, j) => if tries ≤ triesAt l i j then failS l id k 447 else (0, upd l i j fun r => { r with state := 0, next := clamp now + triesAt l i j * wait })
  | none => (-1, l)
end Go.Proofs.Ytlbghgmeiajioaa
