/- The abstract executor: relations, memories, the first operations. -/
import Derived.Test.YtfndgclogopdgaaGreatDoorAxA
import Derived.Below
import Derived.Laws.Sem
import Derived.WideLaws
import Derived.Lib.Bytes
import Derived.IntWalk
import Derived.Laws.StructEq

/-! AX: what abstract values and memories stand for. -/
namespace Go.AX
open Go.RowKit (Below)

@[simp] theorem bc_true {α : Type} (t f : α) : bc true t f = t := rfl
@[simp] theorem bc_false {α : Type} (t f : α) : bc false t f = f := rfl
@[simp] theorem bc_self {α : Type} (b : Bool) (t : α) : bc b t t = t := by cases b <;> rfl
@[simp] theorem oc_none {α β : Type} (n : β) (s : α → β) : oc none n s = n := rfl
@[simp] theorem oc_some {α β : Type} (a : α) (n : β) (s : α → β) : oc (some a) n s = s a := rfl
theorem bc_eq {α : Type} (b : Bool) (t f : α) : bc b t f = if b = true then t else f := by cases b <;> rfl
/-- A way that came to something. -/
theorem bc_none {α : Type} {b : Bool} {t : Option α} {x : α} (h : bc b t none = some x) : b = true ∧ t = some x := by
  cases b with
  | true => exact ⟨rfl, h⟩
  | false => exact absurd h (by simp)
theorem oc_bind {α β : Type} {o : Option α} {s : α → Option β} {x : β} (h : oc o none s = some x) : ∃ a, o = some a ∧ s a = some x := by
  cases o with
  | none => exact absurd h (by simp)
  | some a => exact ⟨a, rfl, h⟩

/-! Tries -/
section
variable {α : Type}
theorem Tr.get_leaf (k : Nat) : (Tr.leaf : Tr α).get k = none := rfl
theorem Tr.get_node (l : Tr α) (v : Option α) (r : Tr α) (k : Nat) :
    (Tr.node l v r).get k = bc (Nat.beq k 0) v (bc (Nat.beq (Nat.mod k 2) 1) (l.get (Nat.div k 2)) (r.get (Nat.sub (Nat.div k 2) 1))) := rfl
theorem Tr.setL_zero (k : Nat) (a : Option α) : Tr.setL 0 k a = .leaf := rfl
theorem Tr.setL_succ (n k : Nat) (a : Option α) : Tr.setL (n + 1) k a =
    bc (Nat.beq k 0) (.node .leaf a .leaf) (bc (Nat.beq (Nat.mod k 2) 1) (.node (Tr.setL n (Nat.div k 2) a) none .leaf) (.node .leaf none (Tr.setL n (Nat.sub (Nat.div k 2) 1) a))) := rfl
theorem Tr.set_leaf (k : Nat) (a : Option α) : (Tr.leaf : Tr α).set k a = Tr.setL (Nat.succ k) k a := rfl
theorem Tr.set_node (l : Tr α) (v : Option α) (r : Tr α) (k : Nat) (a : Option α) :
    (Tr.node l v r).set k a = bc (Nat.beq k 0) (.node l a r) (bc (Nat.beq (Nat.mod k 2) 1) (.node (l.set (Nat.div k 2) a) v r) (.node l v (r.set (Nat.sub (Nat.div k 2) 1) a))) := rfl

theorem beq_zero (k : Nat) : Nat.beq k 0 = decide (k = 0) := by cases k <;> simp [Nat.beq]
theorem beq_one (k : Nat) : Nat.beq (Nat.mod k 2) 1 = decide (k % 2 = 1) := by
  change Nat.beq (k % 2) 1 = _
  rcases Nat.mod_two_eq_zero_or_one k with h | h <;> rw [h] <;> rfl

theorem Tr.get_setL (a : Option α) : ∀ (n k j : Nat), k < n → (Tr.setL n k a).get j = if j = k then a else none := by
  intro n
  induction n with
  | zero => intro k j h; omega
  | succ n ih =>
    intro k j h
    rw [Tr.setL_succ, beq_zero, beq_one]
    by_cases hk : k = 0
    · subst hk
      simp only [decide_true, bc_true, Tr.get_node, Tr.get_leaf, beq_zero, bc_self]
      by_cases hj : j = 0 <;> simp [hj]
    · simp only [hk, decide_false, bc_false]
      change (bc (decide (k % 2 = 1)) (Tr.node (Tr.setL n (k / 2) a) none .leaf) (Tr.node .leaf none (Tr.setL n (k / 2 - 1) a))).get j = _
      by_cases h2 : k % 2 = 1
      · simp only [h2, decide_true, bc_true, Tr.get_node, Tr.get_leaf, beq_zero, beq_one]
        by_cases hj : j = 0
        · simp only [hj, decide_true, bc_true]; rw [if_neg (by omega)]
        · simp only [hj, decide_false, bc_false]
          by_cases j2 : j % 2 = 1
          · simp only [j2, decide_true, bc_true]
            change (Tr.setL n (k / 2) a).get (j / 2) = _
            rw [ih _ _ (by omega)]
            by_cases e : j = k
            · rw [if_pos (by omega), if_pos e]
            · rw [if_neg (by omega), if_neg e]
          · simp only [j2, decide_false, bc_false]; rw [if_neg (by omega)]
      · simp only [h2, decide_false, bc_false, Tr.get_node, Tr.get_leaf, beq_zero, beq_one]
        by_cases hj : j = 0
        · simp only [hj, decide_true, bc_true]; rw [if_neg (by omega)]
        · simp only [hj, decide_false, bc_false]
          by_cases j2 : j % 2 = 1
          · simp only [j2, decide_true, bc_true]; rw [if_neg (by omega)]
          · simp only [j2, decide_false, bc_false]
            change (Tr.setL n (k / 2 - 1) a).get (j / 2 - 1) = _
            rw [ih _ _ (by omega)]
            by_cases e : j = k
            · rw [if_pos (by omega), if_pos e]
            · rw [if_neg (by omega), if_neg e]

theorem Tr.get_set (a : Option α) (t : Tr α) : ∀ (k j : Nat), (t.set k a).get j = if j = k then a else t.get j := by
  induction t with
  | leaf => intro k j; rw [Tr.set_leaf, Tr.get_setL a _ _ _ (Nat.lt_succ_self k)]; simp [Tr.get_leaf]
  | node l v r ihl ihr =>
    intro k j
    rw [Tr.set_node, beq_zero, beq_one]
    by_cases hk : k = 0
    · subst hk
      simp only [decide_true, bc_true, Tr.get_node, beq_zero]
      by_cases hj : j = 0 <;> simp [hj]
    · simp only [hk, decide_false, bc_false]
      change (bc (decide (k % 2 = 1)) (Tr.node (l.set (k / 2) a) v r) (Tr.node l v (r.set (k / 2 - 1) a))).get j = _
      by_cases h2 : k % 2 = 1
      · simp only [h2, decide_true, bc_true, Tr.get_node, beq_zero, beq_one]
        by_cases hj : j = 0
        · simp only [hj, decide_true, bc_true]; rw [if_neg (by omega)]
        · simp only [hj, decide_false, bc_false]
          by_cases j2 : j % 2 = 1
          · simp only [j2, decide_true, bc_true]
            change (l.set (k / 2) a).get (j / 2) = if j = k then a else l.get (j / 2)
            rw [ihl]
            by_cases e : j = k
            · rw [if_pos (by omega), if_pos e]
            · rw [if_neg (by omega), if_neg e]
          · simp only [j2, decide_false, bc_false]; rw [if_neg (by omega)]
      · simp only [h2, decide_false, bc_false, Tr.get_node, beq_zero, beq_one]
        by_cases hj : j = 0
        · simp only [hj, decide_true, bc_true]; rw [if_neg (by omega)]
        · simp only [hj, decide_false, bc_false]
          by_cases j2 : j % 2 = 1
          · simp only [j2, decide_true, bc_true]; rw [if_neg (by omega)]
          · simp only [j2, decide_false, bc_false]
            change (r.set (k / 2 - 1) a).get (j / 2 - 1) = if j = k then a else r.get (j / 2 - 1)
            rw [ihr]
            by_cases e : j = k
            · rw [if_pos (by omega), if_pos e]
            · rw [if_neg (by omega), if_neg e]
theorem emptyT_get (n : Nat) : ∀ k, (emptyT n).get k = none := by
  induction n with
  | zero => intro k; rfl
  | succ n ih =>
    intro k
    show (Tr.node (emptyT n) none (emptyT n)).get k = none
    rw [Tr.get_node, ih, ih]
    cases Nat.beq k 0 <;> cases Nat.beq (Nat.mod k 2) 1 <;> rfl
theorem Tr.get_set_same (a : Option α) (t : Tr α) (k : Nat) : (t.set k a).get k = a := by rw [Tr.get_set, if_pos rfl]
theorem Tr.get_set_ne {a : Option α} {t : Tr α} {k j : Nat} (h : j ≠ k) : (t.set k a).get j = t.get j := by rw [Tr.get_set, if_neg h]

theorem nth_nil (k : Nat) : nth ([] : List α) k = none := rfl
theorem nth_cons (x : α) (xs : List α) (k : Nat) : nth (x :: xs) k = bc (Nat.beq k 0) (some x) (nth xs (Nat.sub k 1)) := rfl
theorem nth_eq (l : List α) : ∀ k, nth l k = l[k]? := by
  induction l with
  | nil => intro k; simp [nth_nil]
  | cons x xs ih =>
    intro k
    rw [nth_cons, ih]
    cases k with
    | zero => rfl
    | succ k => rfl
end

/-! The heap's own moves -/
section
variable (h : AH) (id : Nat) (o : Option AObj)
@[simp] theorem AH.rd_mem : (h.rd id).mem = h.mem := by cases h; simp [AH.rd]
@[simp] theorem AH.rd_next : (h.rd id).next = h.next := by cases h; simp [AH.rd]
@[simp] theorem AH.rd_R : (h.rd id).R = h.R ||| (1 <<< id) := by cases h; simp only [AH.rd, bc_self]; rfl
@[simp] theorem AH.rd_W : (h.rd id).W = h.W := by cases h; simp [AH.rd]
@[simp] theorem AH.wr_mem : (h.wr id o).mem = h.mem.set id o := by cases h; simp [AH.wr]
@[simp] theorem AH.wr_next : (h.wr id o).next = h.next := by cases h; simp [AH.wr]
@[simp] theorem AH.wr_R : (h.wr id o).R = h.R ||| (1 <<< id) := by cases h; simp only [AH.wr, bc_self]; rfl
@[simp] theorem AH.wr_W : (h.wr id o).W = h.W ||| (1 <<< id) := by cases h; simp only [AH.wr, bc_self]; rfl
@[simp] theorem AH.new_mem (x : AObj) : (h.new x).mem = h.mem.set h.next (some x) := by cases h; rfl
@[simp] theorem AH.new_next (x : AObj) : (h.new x).next = h.next + 1 := by cases h; rfl
@[simp] theorem AH.new_R (x : AObj) : (h.new x).R = h.R := by cases h; rfl
@[simp] theorem AH.new_W (x : AObj) : (h.new x).W = h.W := by cases h; rfl
end

/-- Which block an abstract number is, and how many cells that has. -/
abbrev Env := Nat → Option (Nat × Nat)

mutual
inductive VR (e : Env) : AV → Value → Prop
  | bool (b : Bool) : VR e (.bool b) (.bool b)
  | int (k : IntKind) (n : Int) : VR e (.int k n) (.int k n)
  | str (s : List UInt8) : VR e (.str s) (.string ⟨s.toArray⟩)
  | ptr (id off b t : Nat) (h : e id = some (b, t)) : VR e (.ptr id off) (.pointer (some ⟨b, off, none⟩))
  | nilp : VR e .nilp (.pointer none)
  | slc (id off len cap b t : Nat) (h : e id = some (b, t)) : VR e (.slc id off len cap) (.slice (some ⟨b, off, none⟩) len cap)
  | slcU (id off len es b t c : Nat) (h : e id = some (b, t)) (hc : len ≤ c) (ht : off + c * es = t) : VR e (.slcU id off len es) (.slice (some ⟨b, off, none⟩) len c)
  | slcE (a : Option Addr) (c : Nat) : VR e .slcE (.slice a 0 c)
  | slcO (a : Option Addr) (len c : Nat) : VR e (.slcO len) (.slice a len c)
  | slcN : VR e .slcN (.slice none 0 0)
  | map (id b t : Nat) (h : e id = some (b, t)) : VR e (.map id) (.map (some b))
  | mapN : VR e .mapN (.map none)
  | chan (id b t : Nat) (h : e id = some (b, t)) : VR e (.chan id) (.chan (some b))
  | fn (g : FuncId) (first captured : List AV) (cf cc : List Value) (h1 : VRL e first cf) (h2 : VRL e captured cc) : VR e (.fn (.func g) first captured) (.func (.func g) cf.toArray cc.toArray)
  | yield (id b t : Nat) (h : e id = some (b, t)) : VR e (.yield id) (.func (.yield b) #[] #[])
  | fnN : VR e .fnN .nilFunc
  | iface (t : TypeId) (v : AV) (cv : Value) (h : VR e v cv) : VR e (.iface t v) (.iface t cv)
  | ifaceN : VR e .ifaceN .nilIface
  | agg (cs : List AV) (ccs : List Value) (h : VRL e cs ccs) : VR e (.agg cs) (.agg ccs.toArray)
  | tup (cs : List AV) (ccs : List Value) (h : VRL e cs ccs) : VR e (.tup cs) (.tuple ccs.toArray)
  | glob (g : Nat) : VR e (.glob g) (.pointer (some ⟨g, 0, none⟩))
  | top (v : Value) : VR e .top v
inductive VRL (e : Env) : List AV → List Value → Prop
  | nil : VRL e [] []
  | cons (a : AV) (v : Value) (as : List AV) (vs : List Value) (h : VR e a v) (t : VRL e as vs) : VRL e (a :: as) (v :: vs)
end

/-- e' knows all that e knows. -/
def Env.le (e e' : Env) : Prop := ∀ id p, e id = some p → e' id = some p
theorem Env.le_refl (e : Env) : e.le e := fun _ _ h => h
theorem Env.le_trans {a b c : Env} (h : a.le b) (k : b.le c) : a.le c := fun id p hp => k id p (h id p hp)

mutual
theorem VR.mono {e e' : Env} (hl : e.le e') : ∀ {a : AV} {v : Value}, VR e a v → VR e' a v
  | _, _, .bool b => .bool b
  | _, _, .int k n => .int k n
  | _, _, .str s => .str s
  | _, _, .ptr id off b t h => .ptr id off b t (hl _ _ h)
  | _, _, .nilp => .nilp
  | _, _, .slc id off len cap b t h => .slc id off len cap b t (hl _ _ h)
  | _, _, .slcU id off len es b t c h hc ht => .slcU id off len es b t c (hl _ _ h) hc ht
  | _, _, .slcE a c => .slcE a c
  | _, _, .slcO a len c => .slcO a len c
  | _, _, .slcN => .slcN
  | _, _, .map id b t h => .map id b t (hl _ _ h)
  | _, _, .mapN => .mapN
  | _, _, .chan id b t h => .chan id b t (hl _ _ h)
  | _, _, .fn g f c cf cc h1 h2 => .fn g f c cf cc (h1.mono hl) (h2.mono hl)
  | _, _, .yield id b t h => .yield id b t (hl _ _ h)
  | _, _, .fnN => .fnN
  | _, _, .iface t v cv h => .iface t v cv (h.mono hl)
  | _, _, .ifaceN => .ifaceN
  | _, _, .agg cs ccs h => .agg cs ccs (h.mono hl)
  | _, _, .tup cs ccs h => .tup cs ccs (h.mono hl)
  | _, _, .glob g => .glob g
  | _, _, .top v => .top v
theorem VRL.mono {e e' : Env} (hl : e.le e') : ∀ {as : List AV} {vs : List Value}, VRL e as vs → VRL e' as vs
  | _, _, .nil => .nil
  | _, _, .cons a v as vs h t => .cons a v as vs (h.mono hl) (t.mono hl)
end

namespace VRL
variable {e : Env}
theorem length : ∀ {as : List AV} {vs : List Value}, VRL e as vs → as.length = vs.length
  | _, _, .nil => rfl
  | _, _, .cons _ _ _ _ _ t => by simp [t.length]
theorem append : ∀ {as bs : List AV} {vs us : List Value}, VRL e as vs → VRL e bs us → VRL e (as ++ bs) (vs ++ us)
  | _, _, _, _, .nil, h => h
  | _, _, _, _, .cons a v as vs h t, h' => .cons a v _ _ h (t.append h')
theorem take : ∀ {as : List AV} {vs : List Value} (n : Nat), VRL e as vs → VRL e (as.take n) (vs.take n)
  | _, _, 0, _ => by simp; exact .nil
  | _, _, n + 1, .nil => by simp; exact .nil
  | _, _, n + 1, .cons a v as vs h t => by simp; exact .cons a v _ _ h (t.take n)
theorem drop : ∀ {as : List AV} {vs : List Value} (n : Nat), VRL e as vs → VRL e (as.drop n) (vs.drop n)
  | _, _, 0, h => by simpa using h
  | _, _, n + 1, .nil => by simp; exact .nil
  | _, _, n + 1, .cons a v as vs h t => by simpa using t.drop n
theorem get : ∀ {as : List AV} {vs : List Value} {i : Nat} {a : AV}, VRL e as vs → as[i]? = some a → ∃ v, vs[i]? = some v ∧ VR e a v
  | _, _, _, _, .nil, h => by simp at h
  | _, _, 0, _, .cons a v as vs h t, hi => by simp at hi; subst hi; exact ⟨v, by simp, h⟩
  | _, _, i + 1, _, .cons a v as vs h t, hi => by simp at hi; obtain ⟨u, hu, hr⟩ := t.get hi; exact ⟨u, by simpa using hu, hr⟩
theorem one {a : AV} {v : Value} (h : VR e a v) : VRL e [a] [v] := .cons _ _ _ _ h .nil
end VRL

/-- A value of one cell. -/
theorem VR.cell {e : Env} {a : AV} {v : Value} (h : VR e a v) (hc : a.isCell = true) : (∀ cs, v ≠ .agg cs) ∧ (∀ cs, v ≠ .tuple cs) := by
  cases h <;> first | (simp [AV.isCell] at hc; done) | (constructor <;> intro cs hh <;> cases hh)

theorem VR.cells {e : Env} {a : AV} {v : Value} (h : VR e a v) (hc : noTop a = true) : VRL e a.cells v.cells.toList := by
  cases a with
  | agg cs => cases h with | agg _ ccs h => simpa [AV.cells, Value.cells] using h
  | top => simp [noTop] at hc
  | _ => cases h <;> (simp only [AV.cells, Value.cells]; refine VRL.one ?_; constructor <;> assumption)

end Go.AX

/-! AX: memories. -/
namespace Go.AX

variable {G : Nat → Obj → Prop}

def TR (e : Env) (tm : Tr AV) (ctm : Array Value) : Prop := ∀ i v, tm.get i = some v → ∃ cv, ctm[i]? = some cv ∧ VR e v cv

theorem TR.mono {e e' : Env} {tm : Tr AV} {ctm : Array Value} (h : TR e tm ctm) (hl : e.le e') : TR e' tm ctm :=
  fun i v hv => let ⟨cv, h1, h2⟩ := h i v hv; ⟨cv, h1, h2.mono hl⟩

structure LR (e : Env) (l : ALoop) (cl : Loop) : Prop where
  state : cl.state = l.state
  pending : cl.pending = l.pending
  fn : cl.fn = l.fn
  tmps : TR e l.tmps cl.tmps
  size : cl.tmps.size = l.n
  params : cl.params = l.params
  assign : cl.assign = l.assign
  body : cl.body = l.body
  defers : ∃ t, e l.defers = some (cl.defers, t)

inductive ERL (e : Env) : List AEntry → List MapEntry → Prop
  | nil : ERL e [] []
  | cons (a : AEntry) (c : MapEntry) (as : List AEntry) (cs : List MapEntry) (hk : VR e a.key c.key) (hv : VR e a.val c.val) (hb : c.born = a.born) (t : ERL e as cs) : ERL e (a :: as) (c :: cs)

theorem ERL.mono {e e' : Env} (hl : e.le e') {as : List AEntry} {cs : List MapEntry} (h : ERL e as cs) : ERL e' as cs := by
  induction h with
  | nil => exact .nil
  | cons a c as cs hk hv hb _ ih => exact .cons a c as cs (hk.mono hl) (hv.mono hl) hb ih

inductive ORel (e : Env) (t : Nat) : AObj → Obj → Prop
  | cells (vs : List AV) (isOpen : Bool) (cvs tail : List Value) (elem : TypeId) (fr : Nat × Nat) (h : VRL e vs cvs) (ho : isOpen = false → tail = [])
      (ht : t = cvs.length + tail.length) (hf : ∀ i, i < t → ¬ (fr.1 ≤ i ∧ i < fr.2)) : ORel e t (.cells vs isOpen) (.cells (cvs ++ tail).toArray elem fr)
  | map (es : List AEntry) (clock : Nat) (ces : List MapEntry) (h : ERL e es ces) : ORel e t (.map es clock) (.map ces.toArray clock)
  | loop (l : ALoop) (cl : Loop) (h : LR e l cl) : ORel e t (.loop l) (.loop cl)
  | deferred : ORel e t .deferred (.deferred (some []))
  | chan (cap : Nat) (buf : List AV) (cbuf : List Value) (s r : Nat) (h : VRL e buf cbuf) : ORel e t (.chan cap buf) (.chan cap cbuf.toArray false s r false)

theorem ORel.mono {e e' : Env} (hl : e.le e') {t : Nat} {o : AObj} {co : Obj} (h : ORel e t o co) : ORel e' t o co := by
  cases h with
  | cells vs isOpen cvs tail elem fr h ho ht hf => exact .cells vs isOpen cvs tail elem fr (h.mono hl) ho ht hf
  | map es clock ces h => exact .map es clock ces (h.mono hl)
  | loop l cl h => exact .loop l cl { h with tmps := h.tmps.mono hl, defers := let ⟨t, ht⟩ := h.defers; ⟨t, hl _ _ ht⟩ }
  | deferred => exact .deferred
  | chan cap buf cbuf s r h => exact .chan cap buf cbuf s r (h.mono hl)

/-- In the blocks of D lies what the abstract memory says. -/
structure Sat (e : Env) (m : Nat → Option AObj) (D : Nat → Prop) (w : World) : Prop where
  holds : ∀ id o, D id → m id = some o → ∃ b t co, e id = some (b, t) ∧ w.heap[b]? = some co ∧ ORel e t o co
  apart : ∀ i j b t u, D i → D j → (m i).isSome → (m j).isSome → e i = some (b, t) → e j = some (b, u) → i = j

/-- The blocks that stay: what lies in them; no number is theirs. -/
def Glob (G : Nat → Obj → Prop) (e : Env) (w : World) : Prop := ∀ b o, G b o → w.heap[b]? = some o ∧ ∀ id t, e id ≠ some (b, t)

/-- Ahead of a piece of a run. -/
structure Pre (G : Nat → Obj → Prop) (e : Env) (D : Nat → Prop) (h h' : AH) (w : World) : Prop where
  sat : Sat e h.mem.get D w
  lt : ∀ id, D id → id < h.next
  free : ∀ id, h.next ≤ id → id < h'.next → e id = none
  cover : ∀ id, h'.R.testBit id = true → id < h.next → D id
  size : ∀ id b t, e id = some (b, t) → b < w.heap.size
  wf : ∀ id, h.next ≤ id → h.mem.get id = none
  glob : Glob G e w

/-- Behind it. -/
structure Post (e : Env) (D : Nat → Prop) (h h' : AH) (w w' : World) (e' : Env) : Prop where
  le : e.le e'
  new : ∀ id p, e' id = some p → e id = some p ∨ (h.next ≤ id ∧ id < h'.next)
  next : h.next ≤ h'.next
  R : ∀ id, h.R.testBit id = true → h'.R.testBit id = true
  W : ∀ id, h.W.testBit id = true → h'.W.testBit id = true
  WR : ∀ id, h'.W.testBit id = true → h.W.testBit id = true ∨ h'.R.testBit id = true
  mem : ∀ id, id < h.next → h'.W.testBit id = false → h'.mem.get id = h.mem.get id
  sat : Sat e' h'.mem.get (fun id => D id ∨ (h.next ≤ id ∧ id < h'.next)) w'
  frame : ∀ b, b < w.heap.size → (∀ id t, D id → h'.W.testBit id = true → e id = some (b, t) → False) → w'.heap[b]? = w.heap[b]?
  fresh : ∀ id b t, h.next ≤ id → id < h'.next → e' id = some (b, t) → w.heap.size ≤ b ∨ ∃ a u, D a ∧ h'.W.testBit a = true ∧ e a = some (b, u)
  inside : ∀ id b t, e' id = some (b, t) → b < w'.heap.size
  size : w.heap.size ≤ w'.heap.size
  os : w'.os = w.os
  tape : w'.tape = w.tape
  output : w'.output = w.output
  wf : ∀ id, h'.next ≤ id → h'.mem.get id = none
  live : ∀ id, h'.W.testBit id = true → h.W.testBit id = true ∨ h.next ≤ id ∨ (h.mem.get id).isSome = true

theorem Sat.sub {e : Env} {m : Nat → Option AObj} {D D' : Nat → Prop} {w : World} (h : Sat e m D w) (hd : ∀ id, D' id → D id) : Sat e m D' w :=
  ⟨fun id o hi ho => h.holds id o (hd id hi) ho, fun i j b t u hi hj => h.apart i j b t u (hd i hi) (hd j hj)⟩

theorem Glob.post {e e' : Env} {D : Nat → Prop} {h h1 : AH} {w w1 : World} (hg : Glob G e w) (hq : Post e D h h1 w w1 e') : Glob G e' w1 := by
  intro b o hb
  obtain ⟨h1, h2⟩ := hg b o hb
  have hlt : b < w.heap.size := by
    rcases Nat.lt_or_ge b w.heap.size with h | h
    · exact h
    · rw [Array.getElem?_eq_none h] at h1; cases h1
  refine ⟨by rw [hq.frame b hlt (fun id t _ _ he => h2 id t he)]; exact h1, fun id t he => ?_⟩
  rcases hq.new id _ he with h3 | h3
  · exact h2 id t h3
  · rcases hq.fresh id b t h3.1 h3.2 he with h4 | ⟨x, u, _, _, h5⟩
    · omega
    · exact h2 x u h5

/-- What a piece leaves is what the next one asks. -/
theorem Pre.next {e e' : Env} {D : Nat → Prop} {h h1 h2 : AH} {w w1 : World} (hp : Pre G e D h h2 w) (hq : Post e D h h1 w w1 e') :
    Pre G e' (fun id => D id ∨ (h.next ≤ id ∧ id < h1.next)) h1 h2 w1 where
  sat := hq.sat
  lt := fun id hd => by
    rcases hd with hd | hd
    · exact Nat.lt_of_lt_of_le (hp.lt id hd) hq.next
    · exact hd.2
  free := fun id h1' h2' => by
    cases he : e' id with
    | none => rfl
    | some p =>
      rcases hq.new id p he with ho | ho
      · have := hp.free id (Nat.le_trans hq.next h1') h2'
        rw [this] at ho; cases ho
      · omega
  cover := fun id hr hlt => by
    by_cases hc : id < h.next
    · exact .inl (hp.cover id hr hc)
    · exact .inr ⟨by omega, hlt⟩
  size := hq.inside
  wf := hq.wf
  glob := hp.glob.post hq

theorem Post.trans {e e1 e2 : Env} {D : Nat → Prop} {h h1 h2 : AH} {w w1 w2 : World} (hp : Pre G e D h h2 w) (a : Post e D h h1 w w1 e1)
    (b : Post e1 (fun id => D id ∨ (h.next ≤ id ∧ id < h1.next)) h1 h2 w1 w2 e2) : Post e D h h2 w w2 e2 where
  le := Env.le_trans a.le b.le
  new := fun id p he => by
    rcases b.new id p he with h' | h'
    · rcases a.new id p h' with h'' | h''
      · exact .inl h''
      · exact .inr ⟨h''.1, Nat.lt_of_lt_of_le h''.2 b.next⟩
    · exact .inr ⟨Nat.le_trans a.next h'.1, h'.2⟩
  next := Nat.le_trans a.next b.next
  R := fun id hr => b.R id (a.R id hr)
  W := fun id hr => b.W id (a.W id hr)
  WR := fun id hr => by
    rcases b.WR id hr with h' | h'
    · rcases a.WR id h' with h'' | h''
      · exact .inl h''
      · exact .inr (b.R id h'')
    · exact .inr h'
  mem := fun id hlt hw => by
    rw [b.mem id (Nat.lt_of_lt_of_le hlt a.next) hw]
    refine a.mem id hlt ?_
    cases hh : h1.W.testBit id with
    | false => rfl
    | true => rw [b.W id hh] at hw; cases hw
  sat := b.sat.sub fun id hd => by
    rcases hd with hd | hd
    · exact .inl (.inl hd)
    · by_cases hc : id < h1.next
      · exact .inl (.inr ⟨hd.1, hc⟩)
      · exact .inr ⟨by omega, hd.2⟩
  frame := fun k hk hn => by
    rw [b.frame k (Nat.lt_of_lt_of_le hk a.size) ?_]
    · exact a.frame k hk fun id t hd hw he => hn id t hd (b.W id hw) he
    · intro id t hd hw he
      rcases hd with hd | hd
      · rcases a.new id _ he with h' | h'
        · exact hn id t hd hw h'
        · exact absurd (hp.lt id hd) (by omega)
      · rcases a.fresh id k t hd.1 hd.2 he with h' | ⟨x, u, hx, hxw, hxe⟩
        · omega
        · exact hn x u hx (b.W x hxw) hxe
  fresh := fun id k t h1' h2' he => by
    rcases b.new id _ he with hn | hn
    · by_cases hc : id < h1.next
      · rcases a.fresh id k t h1' hc hn with h' | ⟨x, u, hx, hxw, hxe⟩
        · exact .inl h'
        · exact .inr ⟨x, u, hx, b.W x hxw, hxe⟩
      · rcases a.new id _ hn with h' | h'
        · have := hp.free id h1' h2'
          rw [this] at h'; cases h'
        · omega
    · rcases b.fresh id k t hn.1 hn.2 he with h' | ⟨x, u, hx, hxw, hxe⟩
      · exact .inl (Nat.le_trans a.size h')
      · rcases hx with hx | hx
        · rcases a.new x _ hxe with h' | h'
          · exact .inr ⟨x, u, hx, hxw, h'⟩
          · exact absurd (hp.lt x hx) (by omega)
        · rcases a.fresh x k u hx.1 hx.2 hxe with h' | ⟨y, v, hy, hyw, hye⟩
          · exact .inl h'
          · exact .inr ⟨y, v, hy, b.W y hyw, hye⟩
  inside := b.inside
  size := Nat.le_trans a.size b.size
  os := b.os.trans a.os
  tape := b.tape.trans a.tape
  output := b.output.trans a.output
  wf := b.wf
  live := fun id hw => by
    rcases b.live id hw with h' | h' | h'
    · exact a.live id h'
    · exact .inr (.inl (Nat.le_trans a.next h'))
    · by_cases hlt : id < h.next
      · cases hb : h1.W.testBit id with
        | true => exact a.live id hb
        | false => rw [a.mem id hlt hb] at h'; exact .inr (.inr h')
      · exact .inr (.inl (by omega))

theorem Pre.first {e : Env} {D : Nat → Prop} {h h1 h2 : AH} {w : World} (hp : Pre G e D h h2 w) (hn : h1.next ≤ h2.next) (hr : ∀ id, h1.R.testBit id = true → h2.R.testBit id = true) :
    Pre G e D h h1 w where
  sat := hp.sat
  lt := hp.lt
  free := fun id a b => hp.free id a (Nat.lt_of_lt_of_le b hn)
  cover := fun id a b => hp.cover id (hr id a) b
  size := hp.size
  wf := hp.wf
  glob := hp.glob

/-- Nothing happens. -/
theorem Post.refl {e : Env} {D : Nat → Prop} {h h' : AH} {w : World} (hp : Pre G e D h h' w) : Post e D h h w w e where
  le := Env.le_refl e
  new := fun _ _ h => .inl h
  next := Nat.le_refl _
  R := fun _ h => h
  W := fun _ h => h
  WR := fun _ h => .inl h
  mem := fun _ _ _ => rfl
  sat := hp.sat.sub fun id hd => by rcases hd with hd | hd; exact hd; omega
  frame := fun _ _ _ => rfl
  fresh := fun id _ _ a b => by omega
  inside := hp.size
  size := Nat.le_refl _
  os := rfl
  tape := rfl
  output := rfl
  wf := hp.wf
  live := fun _ hw => .inl hw

/-- A draw. -/
theorem Post.drawn {e : Env} {D : Nat → Prop} {h h' : AH} {w w' : World} {e' : Env} (hp : Post e D h h' w w' e') (n : Nat) : Post e D h h' w { w' with drawn := n } e' :=
  { hp with sat := ⟨hp.sat.holds, hp.sat.apart⟩ }
theorem Pre.drawn {e : Env} {D : Nat → Prop} {h h' : AH} {w : World} (hp : Pre G e D h h' w) (n : Nat) : Pre G e D h h' { w with drawn := n } :=
  { hp with sat := ⟨hp.sat.holds, hp.sat.apart⟩ }
theorem Post.ofDrawn {e : Env} {D : Nat → Prop} {h h' : AH} {w w' : World} {e' : Env} {n : Nat} (hp : Post e D h h' { w with drawn := n } w' e') : Post e D h h' w w' e' :=
  { hp with }

theorem testBit_or_shift (R id j : Nat) : (R ||| (1 <<< id)).testBit j = (R.testBit j || decide (id = j)) := by
  rw [Nat.testBit_or, Nat.one_shiftLeft, Nat.testBit_two_pow]

/-- A read is noted. -/
theorem Post.rd {e : Env} {D : Nat → Prop} {h h' : AH} {w : World} (id : Nat) (hp : Pre G e D h h' w) : Post e D h (h.rd id) w w e :=
  { Post.refl hp with
    R := fun j hj => by simp only [AH.rd_R, testBit_or_shift, hj, Bool.true_or]
    W := fun j hj => by simpa using hj
    next := by simp
    WR := fun j hj => .inl (by simpa using hj)
    mem := fun j _ _ => by simp
    sat := by
      have h0 := (Post.refl hp).sat
      simpa using h0
    new := fun _ _ h => .inl h
    frame := fun _ _ _ => rfl
    fresh := fun id _ _ a b => by simp at b; omega
    live := fun j hw => .inl (by simpa using hw)
    wf := fun id hi => by simpa using hp.wf id (by simpa using hi) }

/-- A new block. -/
theorem Post.alloc {e : Env} {D : Nat → Prop} {h h' : AH} {w : World} (o : AObj) (co : Obj) (t : Nat) (hp : Pre G e D h h' w) (hn : h.next < h'.next)
    (ho : ORel e t o co) :
    ∃ e', e' h.next = some (w.heap.size, t) ∧ Post e D h (h.new o) w (w.alloc co) e' := by
  have hfree : e h.next = none := hp.free h.next (Nat.le_refl _) hn
  let e' : Env := fun id => if id = h.next then some (w.heap.size, t) else e id
  have hle : e.le e' := fun id p he => by
    have : id ≠ h.next := fun hh => by rw [hh, hfree] at he; cases he
    simp [e', this, he]
  have hnew : e' h.next = some (w.heap.size, t) := by simp [e']
  have hold : ∀ id, id ≠ h.next → e' id = e id := fun id hh => by simp [e', hh]
  have hheap : ∀ k, k < w.heap.size → (w.alloc co).heap[k]? = w.heap[k]? := fun k hk => by
    show (w.heap.push co)[k]? = _
    rw [Array.getElem?_push, if_neg (by omega)]
  have hself : (w.alloc co).heap[w.heap.size]? = some co := by
    show (w.heap.push co)[w.heap.size]? = _
    simp
  refine ⟨e', hnew, ?_⟩
  exact {
    le := hle
    new := fun id p he => by
      by_cases hh : id = h.next
      · exact .inr (by simp [hh])
      · rw [hold id hh] at he; exact .inl he
    next := by simp
    R := fun j hj => by simpa using hj
    W := fun j hj => by simpa using hj
    WR := fun j hj => .inl (by simpa using hj)
    mem := fun j hj _ => by simp only [AH.new_mem]; exact Tr.get_set_ne (by omega)
    sat := by
      constructor
      · intro id x hd hx
        by_cases hh : id = h.next
        · subst hh
          simp only [AH.new_mem, Tr.get_set_same, Option.some.injEq] at hx
          subst hx
          exact ⟨_, t, co, hnew, hself, ho.mono hle⟩
        · simp only [AH.new_mem, Tr.get_set_ne hh] at hx
          have hd' : D id := by
            rcases hd with hd | hd
            · exact hd
            · simp at hd; omega
          obtain ⟨b, u, c, h1, h2, h3⟩ := hp.sat.holds id x hd' hx
          exact ⟨b, u, c, by rw [hold id hh]; exact h1, by rw [hheap b (hp.size _ _ _ h1)]; exact h2, h3.mono hle⟩
      · intro i j b t1 t2 hi hj si sj ei ej
        have key : ∀ k, k ≠ h.next → (D k ∨ (h.next ≤ k ∧ k < (h.new o).next)) → D k := fun k hk hd => by
          rcases hd with hd | hd
          · exact hd
          · simp at hd; omega
        by_cases h1 : i = h.next <;> by_cases h2 : j = h.next
        · rw [h1, h2]
        · rw [h1, hnew] at ei; rw [hold j h2] at ej
          have := hp.size _ _ _ ej
          simp at ei; omega
        · rw [h2, hnew] at ej; rw [hold i h1] at ei
          have := hp.size _ _ _ ei
          simp at ej; omega
        · rw [hold i h1] at ei; rw [hold j h2] at ej
          simp only [AH.new_mem, Tr.get_set_ne h1] at si
          simp only [AH.new_mem, Tr.get_set_ne h2] at sj
          exact hp.sat.apart i j b t1 t2 (key i h1 hi) (key j h2 hj) si sj ei ej
    frame := fun b hb _ => hheap b hb
    fresh := fun id b t1 h1 h2 he => by
      have : id = h.next := by simp at h2; omega
      rw [this, hnew] at he
      simp at he; exact .inl (by omega)
    inside := fun id b t1 he => by
      by_cases hh : id = h.next
      · rw [hh, hnew] at he; simp at he; simp [← he.1]
      · rw [hold id hh] at he
        have := hp.size _ _ _ he
        simp; omega
    size := by simp
    os := rfl
    tape := rfl
    output := rfl
    live := fun j hw => .inl (by simpa using hw)
    wf := fun id hi => by
      simp only [AH.new_next] at hi
      simp only [AH.new_mem]; rw [Tr.get_set_ne (by omega)]; exact hp.wf id (by omega) }

/-- What is read is known. -/
theorem Pre.known {e : Env} {D : Nat → Prop} {h h' : AH} {w : World} {id : Nat} {o : AObj} (hp : Pre G e D h h' w) (hm : h.mem.get id = some o) (hr : h'.R.testBit id = true) :
    D id ∧ ∃ b t co, e id = some (b, t) ∧ w.heap[b]? = some co ∧ ORel e t o co := by
  have hlt : id < h.next := by
    rcases Nat.lt_or_ge id h.next with h1 | h1
    · exact h1
    · rw [hp.wf id h1] at hm; cases hm
  have hd := hp.cover id hr hlt
  exact ⟨hd, hp.sat.holds id o hd hm⟩

/-- A world with another object at a block. -/
def _root_.Go.World.setBlk (w : World) (b : Nat) (o : Obj) : World := { w with heap := w.heap.setIfInBounds b o }
@[simp] theorem setBlk_size (w : World) (b : Nat) (o : Obj) : (w.setBlk b o).heap.size = w.heap.size := by simp [World.setBlk]
theorem setBlk_same {w : World} {b : Nat} {o : Obj} (h : b < w.heap.size) : (w.setBlk b o).heap[b]? = some o := by
  simp [World.setBlk, h]
theorem setBlk_ne {w : World} {b k : Nat} {o : Obj} (h : k ≠ b) : (w.setBlk b o).heap[k]? = w.heap[k]? := by
  simp only [World.setBlk]; exact Array.getElem?_setIfInBounds_ne (Ne.symm h)

/-- A block is written. -/
theorem Post.write {e : Env} {D : Nat → Prop} {h h' : AH} {w : World} {id b t : Nat} {o0 o : AObj} {co : Obj} (hp : Pre G e D h h' w) (hd : D id) (hm : h.mem.get id = some o0)
    (he : e id = some (b, t)) (ho : ORel e t o co) : Post e D h (h.wr id (some o)) w (w.setBlk b co) e := by
  have hb : b < w.heap.size := hp.size _ _ _ he
  exact {
    le := Env.le_refl e
    new := fun _ _ h => .inl h
    next := by simp
    R := fun j hj => by simp only [AH.wr_R, testBit_or_shift, hj, Bool.true_or]
    W := fun j hj => by simp only [AH.wr_W, testBit_or_shift, hj, Bool.true_or]
    WR := fun j hj => by
      simp only [AH.wr_W, testBit_or_shift, Bool.or_eq_true, decide_eq_true_eq] at hj
      simp only [AH.wr_R, testBit_or_shift, Bool.or_eq_true, decide_eq_true_eq]
      rcases hj with hj | hj
      · exact .inl hj
      · exact .inr (.inr hj)
    mem := fun j _ hj => by
      simp only [AH.wr_W, testBit_or_shift, Bool.or_eq_false_iff, decide_eq_false_iff_not] at hj
      simp only [AH.wr_mem]; exact Tr.get_set_ne (fun hh => hj.2 hh.symm)
    sat := by
      constructor
      · intro j x hj hx
        have hj' : D j := by rcases hj with hj | hj; exact hj; simp at hj; omega
        by_cases hh : j = id
        · subst hh
          simp only [AH.wr_mem, Tr.get_set_same, Option.some.injEq] at hx
          subst hx
          exact ⟨b, t, co, he, setBlk_same hb, ho⟩
        · simp only [AH.wr_mem, Tr.get_set_ne hh] at hx
          obtain ⟨b', u, c, h1, h2, h3⟩ := hp.sat.holds j x hj' hx
          refine ⟨b', u, c, h1, ?_, h3⟩
          rw [setBlk_ne ?_]
          · exact h2
          · intro hbb
            subst hbb
            exact hh (hp.sat.apart j id b' u t hj' hd (by simp [hx]) (by simp [hm]) h1 he)
      · intro i j b' t1 t2 hi hj si sj ei ej
        have hi' : D i := by rcases hi with hi | hi; exact hi; simp at hi; omega
        have hj' : D j := by rcases hj with hj | hj; exact hj; simp at hj; omega
        have live : ∀ k, ((h.wr id (some o)).mem.get k).isSome → (h.mem.get k).isSome := fun k hk => by
          by_cases hh : k = id
          · subst hh; simp [hm]
          · simpa only [AH.wr_mem, Tr.get_set_ne hh] using hk
        exact hp.sat.apart i j b' t1 t2 hi' hj' (live i si) (live j sj) ei ej
    frame := fun k hk hn => by
      refine setBlk_ne fun hh => ?_
      subst hh
      exact hn id t hd (by simp [AH.wr_W]) he
    fresh := fun j _ _ a b => by simp at b; omega
    inside := fun j b' t' he' => by simpa using hp.size _ _ _ he'
    size := by simp
    os := rfl
    tape := rfl
    output := rfl
    live := fun j hj => by
      simp only [AH.wr_W, testBit_or_shift, Bool.or_eq_true, decide_eq_true_eq] at hj
      rcases hj with hj | hj
      · exact .inl hj
      · subst hj; exact .inr (.inr (by simp [hm]))
    wf := fun j hj => by
      simp only [AH.wr_next] at hj
      have := hp.lt id hd
      simp only [AH.wr_mem]; rw [Tr.get_set_ne (by omega)]; exact hp.wf j hj }

/-- A block gets another number; the old number is no more. -/
theorem Post.rename {e : Env} {D : Nat → Prop} {h h' : AH} {w : World} {id b t : Nat} {o0 o : AObj} {co : Obj} (hp : Pre G e D h h' w) (hn : h.next < h'.next) (hd : D id)
    (hm : h.mem.get id = some o0) (he : e id = some (b, t)) (ho : ORel e t o co) :
    ∃ e', e' h.next = some (b, t) ∧ Post e D h ((h.wr id none).new o) w (w.setBlk b co) e' := by
  have hb : b < w.heap.size := hp.size _ _ _ he
  have hfree : e h.next = none := hp.free h.next (Nat.le_refl _) hn
  have hlt : id < h.next := hp.lt id hd
  let e' : Env := fun j => if j = h.next then some (b, t) else e j
  have hle : e.le e' := fun j p hj => by
    have : j ≠ h.next := fun hh => by rw [hh, hfree] at hj; cases hj
    simp [e', this, hj]
  have hnew : e' h.next = some (b, t) := by simp [e']
  have hold : ∀ j, j ≠ h.next → e' j = e j := fun j hh => by simp [e', hh]
  have hget : ∀ j, ((h.wr id none).new o).mem.get j = if j = h.next then some o else if j = id then none else h.mem.get j := fun j => by
    simp only [AH.new_mem, AH.wr_next, AH.wr_mem, Tr.get_set]
  refine ⟨e', hnew, ?_⟩
  exact {
    le := hle
    new := fun j p hj => by
      by_cases hh : j = h.next
      · exact .inr (by simp [hh])
      · rw [hold j hh] at hj; exact .inl hj
    next := by simp
    R := fun j hj => by simp only [AH.new_R, AH.wr_R, testBit_or_shift, hj, Bool.true_or]
    W := fun j hj => by simp only [AH.new_W, AH.wr_W, testBit_or_shift, hj, Bool.true_or]
    WR := fun j hj => by
      simp only [AH.new_W, AH.wr_W, testBit_or_shift, Bool.or_eq_true, decide_eq_true_eq] at hj
      simp only [AH.new_R, AH.wr_R, testBit_or_shift, Bool.or_eq_true, decide_eq_true_eq]
      rcases hj with hj | hj
      · exact .inl hj
      · exact .inr (.inr hj)
    mem := fun j hj hw => by
      simp only [AH.new_W, AH.wr_W, testBit_or_shift, Bool.or_eq_false_iff, decide_eq_false_iff_not] at hw
      rw [hget, if_neg (by omega), if_neg (fun hh => hw.2 hh.symm)]
    sat := by
      constructor
      · intro j x hj hx
        rw [hget] at hx
        by_cases h1 : j = h.next
        · rw [if_pos h1, Option.some.injEq] at hx
          subst hx
          rw [h1]
          exact ⟨b, t, co, hnew, setBlk_same hb, ho.mono hle⟩
        · rw [if_neg h1] at hx
          by_cases h2 : j = id
          · rw [if_pos h2] at hx; cases hx
          · rw [if_neg h2] at hx
            have hj' : D j := by rcases hj with hj | hj; exact hj; simp at hj; omega
            obtain ⟨b', u, c, g1, g2, g3⟩ := hp.sat.holds j x hj' hx
            refine ⟨b', u, c, by rw [hold j h1]; exact g1, ?_, g3.mono hle⟩
            rw [setBlk_ne ?_]
            · exact g2
            · intro hbb
              subst hbb
              exact h2 (hp.sat.apart j id b' u t hj' hd (by simp [hx]) (by simp [hm]) g1 he)
      · intro i j b' t1 t2 hi hj si sj ei ej
        rw [hget] at si sj
        have key : ∀ k, k ≠ h.next → (D k ∨ (h.next ≤ k ∧ k < ((h.wr id none).new o).next)) → D k := fun k hk hdk => by
          rcases hdk with hdk | hdk
          · exact hdk
          · simp at hdk; omega
        by_cases h1 : i = h.next <;> by_cases h2 : j = h.next
        · rw [h1, h2]
        · exfalso
          rw [h1, hnew] at ei; rw [hold j h2] at ej
          simp only [Option.some.injEq, Prod.mk.injEq] at ei
          rw [if_neg h2] at sj
          by_cases h3 : j = id
          · rw [if_pos h3] at sj; cases sj
          · rw [if_neg h3] at sj
            exact h3 (hp.sat.apart j id b' t2 t (key j h2 hj) hd sj (by simp [hm]) ej (by rw [he, ei.1]))
        · exfalso
          rw [h2, hnew] at ej; rw [hold i h1] at ei
          simp only [Option.some.injEq, Prod.mk.injEq] at ej
          rw [if_neg h1] at si
          by_cases h3 : i = id
          · rw [if_pos h3] at si; cases si
          · rw [if_neg h3] at si
            exact h3 (hp.sat.apart i id b' t1 t (key i h1 hi) hd si (by simp [hm]) ei (by rw [he, ej.1]))
        · rw [hold i h1] at ei; rw [hold j h2] at ej
          rw [if_neg h1] at si; rw [if_neg h2] at sj
          by_cases h3 : i = id
          · rw [if_pos h3] at si; cases si
          · by_cases h4 : j = id
            · rw [if_pos h4] at sj; cases sj
            · rw [if_neg h3] at si; rw [if_neg h4] at sj
              exact hp.sat.apart i j b' t1 t2 (key i h1 hi) (key j h2 hj) si sj ei ej
    frame := fun k hk hnn => by
      refine setBlk_ne fun hh => ?_
      subst hh
      exact hnn id t hd (by simp [AH.wr_W]) he
    fresh := fun j b' t1 h1 h2 hj => by
      have : j = h.next := by simp at h2; omega
      rw [this, hnew] at hj
      simp only [Option.some.injEq, Prod.mk.injEq] at hj
      exact .inr ⟨id, t, hd, by simp [AH.wr_W], by rw [← hj.1]; exact he⟩
    inside := fun j b' t1 hj => by
      by_cases hh : j = h.next
      · rw [hh, hnew] at hj; simp only [Option.some.injEq, Prod.mk.injEq] at hj; simp; omega
      · rw [hold j hh] at hj
        have := hp.size _ _ _ hj
        simpa using this
    size := by simp
    os := rfl
    tape := rfl
    output := rfl
    live := fun j hj => by
      simp only [AH.new_W, AH.wr_W, testBit_or_shift, Bool.or_eq_true, decide_eq_true_eq] at hj
      rcases hj with hj | hj
      · exact .inl hj
      · subst hj; exact .inr (.inr (by simp [hm]))
    wf := fun j hj => by
      simp only [AH.new_next, AH.wr_next] at hj
      rw [hget, if_neg (by omega), if_neg (by omega)]; exact hp.wf j (by omega) }

/-- A number is no more. -/
theorem Post.kill {e : Env} {D : Nat → Prop} {h h' : AH} {w : World} {id b t : Nat} {o0 : AObj} {co : Obj} (hp : Pre G e D h h' w) (hd : D id)
    (hm : h.mem.get id = some o0) (he : e id = some (b, t)) : Post e D h (h.wr id none) w (w.setBlk b co) e := by
  have hb : b < w.heap.size := hp.size _ _ _ he
  exact {
    le := Env.le_refl e
    new := fun _ _ h => .inl h
    next := by simp
    R := fun j hj => by simp only [AH.wr_R, testBit_or_shift, hj, Bool.true_or]
    W := fun j hj => by simp only [AH.wr_W, testBit_or_shift, hj, Bool.true_or]
    WR := fun j hj => by
      simp only [AH.wr_W, testBit_or_shift, Bool.or_eq_true, decide_eq_true_eq] at hj
      simp only [AH.wr_R, testBit_or_shift, Bool.or_eq_true, decide_eq_true_eq]
      rcases hj with hj | hj
      · exact .inl hj
      · exact .inr (.inr hj)
    mem := fun j _ hj => by
      simp only [AH.wr_W, testBit_or_shift, Bool.or_eq_false_iff, decide_eq_false_iff_not] at hj
      simp only [AH.wr_mem]; exact Tr.get_set_ne (fun hh => hj.2 hh.symm)
    sat := by
      constructor
      · intro j x hj hx
        have hj' : D j := by rcases hj with hj | hj; exact hj; simp at hj; omega
        by_cases hh : j = id
        · subst hh
          simp only [AH.wr_mem, Tr.get_set_same] at hx
          cases hx
        · simp only [AH.wr_mem, Tr.get_set_ne hh] at hx
          obtain ⟨b', u, c, h1, h2, h3⟩ := hp.sat.holds j x hj' hx
          refine ⟨b', u, c, h1, ?_, h3⟩
          rw [setBlk_ne ?_]
          · exact h2
          · intro hbb
            subst hbb
            exact hh (hp.sat.apart j id b' u t hj' hd (by simp [hx]) (by simp [hm]) h1 he)
      · intro i j b' t1 t2 hi hj si sj ei ej
        have hi' : D i := by rcases hi with hi | hi; exact hi; simp at hi; omega
        have hj' : D j := by rcases hj with hj | hj; exact hj; simp at hj; omega
        have live : ∀ k, ((h.wr id none).mem.get k).isSome → (h.mem.get k).isSome := fun k hk => by
          by_cases hh : k = id
          · subst hh; simp only [AH.wr_mem, Tr.get_set_same] at hk; cases hk
          · simpa only [AH.wr_mem, Tr.get_set_ne hh] using hk
        exact hp.sat.apart i j b' t1 t2 hi' hj' (live i si) (live j sj) ei ej
    frame := fun k hk hn => by
      refine setBlk_ne fun hh => ?_
      subst hh
      exact hn id t hd (by simp [AH.wr_W]) he
    fresh := fun j _ _ a b => by simp at b; omega
    inside := fun j b' t' he' => by simpa using hp.size _ _ _ he'
    size := by simp
    os := rfl
    tape := rfl
    output := rfl
    live := fun j hj => by
      simp only [AH.wr_W, testBit_or_shift, Bool.or_eq_true, decide_eq_true_eq] at hj
      rcases hj with hj | hj
      · exact .inl hj
      · subst hj; exact .inr (.inr (by simp [hm]))
    wf := fun j hj => by
      simp only [AH.wr_next] at hj
      have := hp.lt id hd
      simp only [AH.wr_mem]; rw [Tr.get_set_ne (by omega)]; exact hp.wf j hj }
end Go.AX

/-! AX: the small operations. -/
namespace Go.AX

variable {P : Program}

theorem run_sizeOf {t s : Nat} (h : sz P t = some s) (w : World) : (sizeOf t).run P w = .ok s w := by
  unfold sz at h
  split at h
  · rename_i i hi; simp only [Option.some.injEq] at h; simp [sizeOf, typeInfo, hi, h]
  · cases h
theorem run_bytes {t s : Nat} (h : byt P t = some s) : ∃ i, P.info? t = some i ∧ i.bytes = s := by
  unfold byt at h
  split at h
  · rename_i i hi; exact ⟨i, hi, by simpa using h⟩
  · cases h
theorem run_typeInfo' {t : Nat} {i : TypeInfo} (h : P.info? t = some i) (w : World) : (typeInfo t).run P w = .ok i w := by simp [typeInfo, h]
theorem run_und {t : Nat} {d : TypeDesc} (h : P.underlying t = some d) (w : World) : (underlying t).run P w = .ok d w := by simp [underlying, h]
theorem run_agg {t : Nat} {g : Bool} (h : agg P t = some g) (w : World) : (isAgg t).run P w = .ok g w := by
  unfold agg at h
  split at h <;> first
    | (cases h; done)
    | (rename_i hd; simp only [Option.some.injEq] at h; subst h; simp [isAgg, underlying, hd]; done)
    | (rename_i d h1 h2 _; cases d <;> simp_all [isAgg, underlying]; done)
    | (rename_i d h1 h2; cases d <;> simp_all [isAgg, underlying]; done)

theorem abs_sound (e : Env) : ∀ (n : Nat) (v : Value) (a : AV), absF n v = some a → VR e a v := by
  intro n
  induction n with
  | zero => intro v a h; simp [absF] at h
  | succ n ih =>
    have hl : ∀ (vs : List Value) (as : List AV), absL (absF n) vs = some as → VRL e as vs := by
      intro vs
      induction vs with
      | nil => intro as h; simp only [absL, Option.some.injEq] at h; subst h; exact .nil
      | cons v vs ihv =>
        intro as h
        simp only [absL] at h
        split at h
        · cases h
        · rename_i a ha
          split at h
          · cases h
          · rename_i as' has
            simp only [Option.some.injEq] at h
            subst h
            exact .cons _ _ _ _ (ih _ _ ha) (ihv _ has)
    intro v a h
    unfold absF at h
    split at h <;> first
      | (cases h; done)
      | (simp only [Option.some.injEq] at h; subst h; constructor; done)
      | skip
    · split at h
      · rename_i cs _ as has
        simp only [Option.some.injEq] at h; subst h
        have := VR.agg (e := e) as cs.toList (hl _ _ has)
        simpa using this
      · cases h
    · split at h
      · rename_i cs _ as has
        simp only [Option.some.injEq] at h; subst h
        have := VR.tup (e := e) as cs.toList (hl _ _ has)
        simpa using this
      · cases h
    · split at h
      · rename_i t v _ a ha
        simp only [Option.some.injEq] at h; subst h
        exact .iface _ _ _ (ih _ _ ha)
      · cases h

theorem run_zero {t : Nat} {z : AV} (h : zeroA P t = some z) (e : Env) (w : World) : ∃ cz, (zeroValue t).run P w = .ok cz w ∧ VR e z cz := by
  unfold zeroA at h
  split at h
  · rename_i i hi
    split at h
    · rename_i v hv
      exact ⟨v, by simp [zeroValue, typeInfo, hi, hv], abs_sound e _ _ _ h⟩
    · cases h
  · cases h

/-! Cells -/
theorem add_addr (b off i : Nat) : (⟨b, off, none⟩ : Addr).add i = ⟨b, off + i, none⟩ := by
  unfold Addr.add
  split
  · rename_i h; subst h; rfl
  · rfl

theorem cell_at {w : World} {b : Nat} {c : Array Value} {elem : TypeId} {fr : Nat × Nat} (h : w.heap[b]? = some (.cells c elem fr)) (off : Nat) :
    w.cell? ⟨b, off, none⟩ = c[off]? := by simp [World.cell?, h]

theorem run_load_at {w : World} {b off : Nat} {c : Array Value} {elem : TypeId} {fr : Nat × Nat} {v : Value} (h : w.heap[b]? = some (.cells c elem fr)) (hv : c[off]? = some v) :
    (load ⟨b, off, none⟩).run P w = .ok v w := by
  simp [load, Sem.run, cell_at h, hv]

theorem run_loadCellsFrom {w : World} {b off : Nat} {c : Array Value} {elem : TypeId} {fr : Nat × Nat} (h : w.heap[b]? = some (.cells c elem fr)) :
    ∀ (n i : Nat) (acc : Array Value), off + i + n ≤ c.size →
      (loadCellsFrom ⟨b, off, none⟩ i n acc).run P w = .ok (acc ++ ((c.toList.drop (off + i)).take n).toArray) w := by
  intro n
  induction n with
  | zero => intro i acc _; simp [loadCellsFrom]
  | succ n ih =>
    intro i acc hle
    have hlt : off + i < c.size := by omega
    have hv : c[off + i]? = some c[off + i] := Array.getElem?_eq_getElem hlt
    simp only [loadCellsFrom, add_addr]
    rw [Sem.run_bind, run_load_at h hv]
    simp only [Result.andThen_ok]
    rw [ih (i + 1) _ (by omega)]
    have : c.toList.drop (off + i) = c[off + i] :: c.toList.drop (off + (i + 1)) := by
      rw [List.drop_eq_getElem_cons (by simpa using hlt)]
      simp [Nat.add_assoc]
    rw [this]
    simp

theorem run_loadCells {w : World} {b off n : Nat} {c : Array Value} {elem : TypeId} {fr : Nat × Nat} (h : w.heap[b]? = some (.cells c elem fr)) (hle : off + n ≤ c.size) :
    (loadCells ⟨b, off, none⟩ n).run P w = .ok ((c.toList.drop off).take n).toArray w := by
  unfold loadCells
  rw [run_loadCellsFrom h n 0 #[] (by omega)]
  simp

theorem run_loadVar_agg {t s : Nat} (hg : agg P t = some true) (hs : sz P t = some s) {w : World} {b off : Nat} {c : Array Value} {elem : TypeId} {fr : Nat × Nat}
    (h : w.heap[b]? = some (.cells c elem fr)) (hle : off + s ≤ c.size) : (loadVar t ⟨b, off, none⟩).run P w = .ok (.agg ((c.toList.drop off).take s).toArray) w := by
  unfold loadVar
  rw [Sem.run_bind, run_agg hg]
  simp only [Result.andThen_ok, if_true]
  rw [Sem.run_bind, run_sizeOf hs]
  simp only [Result.andThen_ok]
  rw [Sem.run_bind, run_loadCells h hle]
  rfl

theorem run_loadVar_one {t : Nat} (hg : agg P t = some false) {w : World} {b off : Nat} {c : Array Value} {elem : TypeId} {fr : Nat × Nat} {v : Value}
    (h : w.heap[b]? = some (.cells c elem fr)) (hv : c[off]? = some v) : (loadVar t ⟨b, off, none⟩).run P w = .ok v w := by
  unfold loadVar
  rw [Sem.run_bind, run_agg hg]
  simp only [Result.andThen_ok]
  exact run_load_at h hv

/-- Part of the cells, abstract and concrete. -/
theorem partA_loads {e : Env} {g : Bool} {s off : Nat} {vs : List AV} {cvs tail : List Value} {v : AV} (h : partA g s vs off = some v) (hr : VRL e vs cvs) {t : Nat}
    (hg : agg P t = some g) (hs : sz P t = some s) {w : World} {b : Nat} {elem : TypeId} {fr : Nat × Nat} (hb : w.heap[b]? = some (.cells (cvs ++ tail).toArray elem fr)) :
    ∃ cv, (loadVar t ⟨b, off, none⟩).run P w = .ok cv w ∧ VR e v cv := by
  unfold partA at h
  cases g with
  | true =>
    simp only [bc_true] at h
    obtain ⟨hle, h⟩ := bc_none h
    simp only [Option.some.injEq] at h
    subst h
    have hle' : off + s ≤ vs.length := by simpa using Nat.le_of_ble_eq_true hle
    have hl := hr.length
    refine ⟨_, run_loadVar_agg hg hs hb (by simp; omega), ?_⟩
    have : ((cvs ++ tail).toArray.toList.drop off).take s = (cvs.drop off).take s := by
      simp only [List.drop_append, List.take_append]
      have h1 : s - (cvs.drop off).length = 0 := by simp; omega
      rw [h1]; simp
    rw [this]
    exact .agg _ _ ((hr.drop off).take s)
  | false =>
    simp only [bc_false, nth_eq] at h
    obtain ⟨cv, h1, h2⟩ := hr.get h
    refine ⟨cv, run_loadVar_one hg hb ?_, h2⟩
    have hlt : off < cvs.length := by
      rcases Nat.lt_or_ge off cvs.length with h' | h'
      · exact h'
      · rw [List.getElem?_eq_none h'] at h1; cases h1
    simp [List.getElem?_append_left hlt, h1]

/-- 'part' of a value's cells. -/
theorem partA_part {e : Env} {g : Bool} {s off : Nat} {vs : List AV} {cvs : List Value} {v : AV} (h : partA g s vs off = some v) (hr : VRL e vs cvs) {t : Nat}
    (hg : agg P t = some g) (hs : sz P t = some s) (w : World) : ∃ cv, (part t cvs.toArray off).run P w = .ok cv w ∧ VR e v cv := by
  unfold partA at h
  unfold part
  cases g with
  | true =>
    simp only [bc_true] at h
    obtain ⟨hle, h⟩ := bc_none h
    simp only [Option.some.injEq] at h
    subst h
    refine ⟨.agg ((cvs.drop off).take s).toArray, ?_, .agg _ _ ((hr.drop off).take s)⟩
    rw [Sem.run_bind, run_agg hg]
    simp only [Result.andThen_ok, if_true]
    rw [Sem.run_bind, run_sizeOf hs]
    simp only [Result.andThen_ok, Sem.run_pure]
    congr 2
    apply Array.ext'
    simp [List.take_drop, Nat.add_comm]
  | false =>
    simp only [bc_false, nth_eq] at h
    obtain ⟨cv, h1, h2⟩ := hr.get h
    refine ⟨cv, ?_, h2⟩
    rw [Sem.run_bind, run_agg hg]
    simp [h1]

/-- A store of cells. -/
theorem run_storeCells {b off : Nat} {elem : TypeId} {fr : Nat × Nat} : ∀ (xs : List Value) (i : Nat) (w : World) (pre mid post : List Value),
    w.heap[b]? = some (.cells (pre ++ (mid ++ post)).toArray elem fr) → pre.length = off + i → mid.length = xs.length →
    (∀ x ∈ xs, (∀ cs, x ≠ .agg cs) ∧ (∀ cs, x ≠ .tuple cs)) → (∀ k, k < (pre ++ (mid ++ post)).length → ¬ (fr.1 ≤ k ∧ k < fr.2)) →
    (storeCells ⟨b, off, none⟩ xs i).run P w = .ok () (if xs = [] then w else w.setBlk b (.cells (pre ++ (xs ++ post)).toArray elem fr)) := by
  intro xs
  induction xs with
  | nil => intro i w pre mid post _ _ _ _ _; simp [storeCells]
  | cons x xs ih =>
    intro i w pre mid post hb hpre hmid hone hfr
    obtain ⟨m0, mid', rfl⟩ : ∃ m0 mid', mid = m0 :: mid' := by
      cases mid with
      | nil => simp at hmid
      | cons a l => exact ⟨a, l, rfl⟩
    simp only [List.length_cons, Nat.add_right_cancel_iff] at hmid
    have hx := hone x (by simp)
    have hcell : w.cell? ⟨b, off + i, none⟩ = some m0 := by
      rw [cell_at hb]
      simp [← hpre]
    have hfz : w.frozen? ⟨b, off + i, none⟩ = false := by
      have := hfr (off + i) (by simp [hpre])
      simp only [World.frozen?, hb]
      rw [Bool.and_eq_false_iff]
      rcases Nat.lt_or_ge (off + i) fr.1 with h | h
      · left; simpa using h
      · right; simp; omega
    have hlt : b < w.heap.size := (Array.getElem?_eq_some_iff.1 hb).1
    have hset : w.setCell ⟨b, off + i, none⟩ x = w.setBlk b (.cells (pre ++ (x :: (mid' ++ post))).toArray elem fr) := by
      simp only [World.setCell, World.setBlk]
      congr 1
      apply Array.ext
      · simp
      · intro k h1 h2
        simp only [Array.getElem_modify]
        have hbk : w.heap[b]'hlt = .cells (pre ++ (m0 :: mid' ++ post)).toArray elem fr := by
          have := (Array.getElem?_eq_some_iff.1 hb).2
          simpa using this
        by_cases hk : b = k
        · subst hk
          rw [if_pos rfl, hbk]
          simp only [Option.isSome_none, Bool.false_eq_true, if_false, Array.getElem_setIfInBounds_self]
          congr 1
          apply Array.ext'
          simp [← hpre]
        · rw [if_neg hk]
          rw [Array.getElem_setIfInBounds_ne _ hk]
    have hstep : (store ⟨b, off + i, none⟩ x).run P w = .ok () (w.setBlk b (.cells (pre ++ (x :: (mid' ++ post))).toArray elem fr)) := by
      rw [← hset]
      unfold store
      cases x with
      | agg cs => exact absurd rfl (hx.1 cs)
      | tuple cs => exact absurd rfl (hx.2 cs)
      | _ => simp [Sem.run, hcell, hfz]
    simp only [storeCells, add_addr]
    rw [Sem.run_bind, hstep]
    simp only [Result.andThen_ok]
    have hb' : (w.setBlk b (.cells (pre ++ (x :: (mid' ++ post))).toArray elem fr)).heap[b]? = some (.cells ((pre ++ [x]) ++ (mid' ++ post)).toArray elem fr) := by
      rw [setBlk_same hlt]; simp
    have := ih (i + 1) _ (pre ++ [x]) mid' post hb' (by simp [hpre]; omega) hmid (fun y hy => hone y (by simp [hy])) (fun k hk => hfr k (by simpa using hk))
    rw [this]
    congr 1
    split
    · rename_i h; subst h
      simp only [List.length_nil, List.length_eq_zero_iff] at hmid
      subst hmid
      simp
    · rw [if_neg (by simp)]
      simp [World.setBlk]
end Go.AX

/-! AX: the operations, one by one. -/
namespace Go.AX

variable {G : Nat → Obj → Prop} {P : Program} {e : Env} {D : Nat → Prop} {h h' : AH} {w : World}

/-- A piece of the model's text comes to what the abstract one says. -/
def Good (P : Program) (s : Sem Value) (e : Env) (D : Nat → Prop) (h h' : AH) (w : World) (v : AV) : Prop :=
  ∃ cv w' e', s.run P w = .ok cv w' ∧ VR e' v cv ∧ Post e D h h' w w' e'
/-- .. and the world stays. -/
def GoodP (P : Program) (s : Sem Value) (e : Env) (w : World) (v : AV) : Prop := ∃ cv, s.run P w = .ok cv w ∧ VR e v cv
/-- .. and there is no value. -/
def GoodU (P : Program) (s : Sem Unit) (e : Env) (D : Nat → Prop) (h h' : AH) (w : World) : Prop :=
  ∃ w' e', s.run P w = .ok () w' ∧ Post e D h h' w w' e'

theorem GoodP.good {s : Sem Value} {v : AV} (g : GoodP P s e w v) (hp : Pre G e D h h w) : Good P s e D h h w v :=
  let ⟨cv, h1, h2⟩ := g; ⟨cv, w, e, h1, h2, Post.refl hp⟩

theorem pureOk_some {x : Option AV} {h : AH} {r : AV × AH} (hh : pureOk x h = some r) : x = some r.1 ∧ r.2 = h := by
  unfold pureOk at hh
  split at hh
  · simp only [Option.some.injEq] at hh; subst hh; exact ⟨rfl, rfl⟩
  · cases hh

theorem bit_rd (h : AH) (id : Nat) : (h.rd id).R.testBit id = true := by simp
theorem bit_wr (h : AH) (id : Nat) (o : Option AObj) : (h.wr id o).R.testBit id = true := by simp

/-! load, store -/
theorem good_load {t : Nat} {a v : AV} {ca : Value} (hh : loadA P t a h = some (v, h')) (ha : VR e a ca) (hp : Pre G e D h h' w) :
    Good P (Instr.loadAt t ca) e D h h' w v := by
  unfold loadA at hh
  repeat (split at hh <;> try (cases hh; done))
  rename_i id off _ vs o hm _ _ g s hg hs _ x hx
  simp only [Option.some.injEq, Prod.mk.injEq] at hh
  obtain ⟨rfl, rfl⟩ := hh
  cases ha with
  | ptr _ _ b tt hb =>
    obtain ⟨hd, b', t', co, he, hw, hr⟩ := hp.known hm (bit_rd h id)
    rw [hb] at he
    simp only [Option.some.injEq, Prod.mk.injEq] at he
    obtain ⟨rfl, rfl⟩ := he
    cases hr with
    | cells _ _ cvs tail elem fr hl ho ht hf =>
      obtain ⟨cv, h1, h2⟩ := partA_loads hx hl hg hs hw
      exact ⟨cv, w, e, by simpa [Instr.loadAt, Instr.sureAddr] using h1, h2, Post.rd id hp⟩

theorem cells_len {a : AV} {v : Value} (hr : VR e a v) (hc : noTop a = true) : a.cells.length = v.cells.size := by
  have := (hr.cells hc).length
  simpa using this

theorem isCell_noTop {a : AV} (h : a.cells.all AV.isCell = true) : noTop a = true := by
  cases a <;> first | rfl | (simp [AV.cells, AV.isCell] at h)

theorem VRL.one_cell {as : List AV} {vs : List Value} (h : VRL e as vs) (hc : as.all AV.isCell = true) : ∀ x ∈ vs, (∀ cs, x ≠ .agg cs) ∧ (∀ cs, x ≠ .tuple cs) := by
  induction as generalizing vs with
  | nil => cases h; simp
  | cons a as ih =>
    cases h with
    | cons _ v _ vs h t =>
      simp only [List.all_cons, Bool.and_eq_true] at hc
      intro x hx
      simp only [List.mem_cons] at hx
      rcases hx with rfl | hx
      · exact h.cell hc.1
      · exact ih t hc.2 x hx

theorem setBlk_id {b : Nat} {o : Obj} (h : w.heap[b]? = some o) : w.setBlk b o = w := by
  obtain ⟨hlt, hv⟩ := Array.getElem?_eq_some_iff.1 h
  have : w.heap.setIfInBounds b o = w.heap := by
    apply Array.ext
    · simp
    · intro i h1 h2
      by_cases hi : b = i
      · subst hi; rw [Array.getElem_setIfInBounds_self]; exact hv.symm
      · rw [Array.getElem_setIfInBounds_ne _ hi]
  unfold World.setBlk
  rw [this]

/-- Cells stored into a block that is known. -/
theorem good_cells {id b t off : Nat} {vs vs' cs : List AV} {o : Bool} {co : Obj} {ccs : List Value} (hh : storeCellsA vs off cs = some vs') (hm : h.mem.get id = some (.cells vs o))
    (hp : Pre G e D h h' w) (hd : D id) (he : e id = some (b, t)) (hw : w.heap[b]? = some co) (hr : ORel e t (.cells vs o) co) (hc : VRL e cs ccs) :
    ∃ w', (storeCells ⟨b, off, none⟩ ccs).run P w = .ok () w' ∧ Post e D h (h.wr id (some (.cells vs' o))) w w' e := by
  unfold storeCellsA at hh
  split at hh
  · rename_i hcond
    simp only [Option.some.injEq] at hh
    subst hh
    simp only [Bool.and_eq_true] at hcond
    obtain ⟨hle, hcell⟩ := hcond
    have hle : off + cs.length ≤ vs.length := by simpa using Nat.le_of_ble_eq_true hle
    cases hr with
    | cells _ _ cvs tail elem fr hl ho ht hf =>
      have hlen := hl.length
      have hclen := hc.length
      have hsplit : cvs ++ tail = cvs.take off ++ (((cvs.drop off).take cs.length) ++ (cvs.drop (off + cs.length) ++ tail)) := by
        have h2 : cvs.drop (off + cs.length) = (cvs.drop off).drop cs.length := by rw [List.drop_drop]
        rw [h2, ← List.append_assoc ((cvs.drop off).take cs.length), List.take_append_drop, ← List.append_assoc, List.take_append_drop]
      have hb : w.heap[b]? = some (.cells (cvs.take off ++ (((cvs.drop off).take cs.length) ++ (cvs.drop (off + cs.length) ++ tail))).toArray elem fr) := by rw [← hsplit]; exact hw
      have hrun := run_storeCells (P := P) (b := b) (off := off) (elem := elem) (fr := fr) ccs 0 w _ _ _ hb (by simp; omega) (by simp; omega) (hc.one_cell hcell)
        (fun k hk => hf k (by rw [← hsplit] at hk; simp at hk; omega))
      have hnew : ORel e t (.cells (vs.take off ++ (cs ++ vs.drop (Nat.add off cs.length))) o) (.cells (cvs.take off ++ (ccs ++ (cvs.drop (off + cs.length) ++ tail))).toArray elem fr) := by
        have := ORel.cells (e := e) (t := t) (vs.take off ++ (cs ++ vs.drop (off + cs.length))) o (cvs.take off ++ (ccs ++ cvs.drop (off + cs.length))) tail elem fr
          ((hl.take off).append (hc.append (hl.drop _))) ho (by simp; omega) hf
        simpa [List.append_assoc] using this
      refine ⟨_, hrun, ?_⟩
      split
      · rename_i hnil
        subst hnil
        have h0 : cs = [] := by
          cases cs with
          | nil => rfl
          | cons _ _ => simp at hclen
        subst h0
        have hwb : w.setBlk b (.cells (cvs.take off ++ ([] ++ (cvs.drop (off + ([] : List AV).length) ++ tail))).toArray elem fr) = w := by
          have hobj : (Obj.cells (cvs.take off ++ ([] ++ (cvs.drop (off + ([] : List AV).length) ++ tail))).toArray elem fr) = .cells (cvs ++ tail).toArray elem fr := by
            simp [← List.append_assoc]
          rw [hobj]
          exact setBlk_id hw
        have := Post.write hp hd hm he hnew
        rw [hwb] at this
        exact this
      · exact Post.write hp hd hm he hnew
  · cases hh

theorem good_store {t : Nat} {a x : AV} {ca cx : Value} (hh : storeA P t a x h = some h') (ha : VR e a ca) (hx : VR e x cx) (hp : Pre G e D h h' w) :
    GoodU P (Instr.storeAt t ca cx) e D h h' w := by
  unfold storeA at hh
  repeat (split at hh <;> try (cases hh; done))
  rename_i id off _ _ vs o s hm hs _ hlen _ vs' hst
  simp only [Option.some.injEq] at hh
  subst hh
  cases ha with
  | ptr _ _ b tt hb =>
    obtain ⟨hd, b', t', co, he, hw, hr⟩ := hp.known hm (bit_wr h id _)
    rw [hb] at he
    simp only [Option.some.injEq, Prod.mk.injEq] at he
    obtain ⟨rfl, rfl⟩ := he
    have hcell : x.cells.all AV.isCell = true := by
      unfold storeCellsA at hst
      split at hst
      · rename_i hc; simp only [Bool.and_eq_true] at hc; exact hc.2
      · cases hst
    have hnt := isCell_noTop hcell
    obtain ⟨w', h1, h2⟩ := good_cells (P := P) hst hm hp hd hb hw hr (hx.cells hnt)
    refine ⟨w', e, ?_, h2⟩
    have hl := cells_len hx hnt
    have hs' : cx.cells.size = s := by rw [← hl]; simpa using hlen
    simp only [Instr.storeAt, Instr.sureAddr, Sem.run_bind, Sem.run_pure, Result.andThen_ok, storeVar]
    rw [run_sizeOf hs]
    simp [hs', h1]
end Go.AX

/-! AX: more operations. -/
namespace Go.AX

variable {G : Nat → Obj → Prop} {P : Program} {e : Env} {D : Nat → Prop} {h h' : AH} {w : World}

theorem good_newVar {t : Nat} {v x : AV} {cv : Value} (hh : newVarA v h = some (x, h')) (hv : VR e v cv) (hp : Pre G e D h h' w) :
    ∃ w' e' b tt, (newVar t cv).run P w = .ok ⟨b, 0, none⟩ w' ∧ VR e' x (.pointer (some ⟨b, 0, none⟩)) ∧ e' h.next = some (b, tt) ∧ Post e D h h' w w' e' := by
  unfold newVarA at hh
  split at hh
  · rename_i hc
    simp only [Option.some.injEq, Prod.mk.injEq] at hh
    obtain ⟨rfl, rfl⟩ := hh
    have hcl := hv.cells (isCell_noTop hc)
    have ho : ORel e v.cells.length (.cells v.cells false) (.cells cv.cells t) := by
      have := ORel.cells (e := e) (t := v.cells.length) v.cells false cv.cells.toList [] t (0, 0) hcl (fun _ => rfl) (by simp [hcl.length]) (fun i _ => by simp)
      simpa using this
    obtain ⟨e', he', hpost⟩ := Post.alloc _ (.cells cv.cells t) _ hp (by simp) ho
    refine ⟨_, e', w.heap.size, _, ?_, .ptr _ _ _ _ he', he', hpost⟩
    simp [newVar, newRow]
  · cases hh

theorem good_alloc {t : Nat} {z x : AV} (hz : zeroA P t = some z) (hh : newVarA z h = some (x, h')) (hp : Pre G e D h h' w) :
    Good P (Instr.alloc t true (.tuple #[])) e D h h' w x := by
  obtain ⟨cz, hz1, hz2⟩ := run_zero hz e w
  obtain ⟨w', e', b, tt, h1, h2, _, h3⟩ := good_newVar (P := P) (t := t) hh hz2 hp
  refine ⟨_, w', e', ?_, h2, h3⟩
  simp [Instr.alloc, hz1, h1]

theorem good_box {t : Nat} {v x : AV} {cv : Value} (hh : newVarA v h = some (x, h')) (hv : VR e v cv) (hp : Pre G e D h h' w) :
    Good P (Instr.box t cv) e D h h' w x := by
  obtain ⟨w', e', b, tt, h1, h2, _, h3⟩ := good_newVar (P := P) (t := t) hh hv hp
  exact ⟨_, w', e', by simp [Instr.box, h1], h2, h3⟩

theorem nthL {α : Type} (a : Array α) (i : Nat) : nth a.toList i = a[i]? := by rw [nth_eq]; simp

theorem goodP_fieldAddr {t f : Nat} {x v : AV} {cx : Value} (hh : fieldAddrA P t x f = some v) (hx : VR e x cx) : GoodP P (Instr.fieldAt t cx f) e w v := by
  unfold fieldAddrA at hh
  repeat (split at hh <;> try (cases hh; done))
  rename_i id off fs hu _ fd hf _ s hs _ hz
  simp only [Option.some.injEq] at hh
  subst hh
  rw [nthL] at hf
  cases hx with
  | ptr _ _ b tt hb =>
    have hs0 : s ≠ 0 := by
      intro h0; subst h0; simp [Nat.beq] at hz
    refine ⟨.pointer (some ⟨b, off + fd.offset, none⟩), ?_, .ptr _ _ _ _ hb⟩
    simp [Instr.fieldAt, run_und hu, hf, Instr.sureAddr, fieldPlace, run_sizeOf hs, hs0, add_addr]

theorem goodP_field {t f : Nat} {x v : AV} {cx : Value} (hh : fieldA P t x f = some v) (hx : VR e x cx) : GoodP P (Instr.field t cx f) e w v := by
  unfold fieldA at hh
  repeat (split at hh <;> try (cases hh; done))
  rename_i cs fs hu _ fd hf _ _ g s hg hs
  rw [nthL] at hf
  cases hx with
  | agg _ ccs hl =>
    obtain ⟨cv, h1, h2⟩ := partA_part hh hl hg hs w
    exact ⟨cv, by simp [Instr.field, run_und hu, hf, asAgg, h1], h2⟩

theorem below_some {i : AV} {len n : Nat} (hh : below? i len = some n) : ∃ k, i = .int k (.ofNat n) ∧ n < len := by
  unfold below? at hh
  repeat (split at hh <;> try (cases hh; done))
  rename_i hlt
  simp only [Option.some.injEq] at hh
  subst hh
  exact ⟨_, rfl, by simp [Nat.blt] at hlt; omega⟩

theorem atMost_some {i : AV} {len n : Nat} (hh : atMost? i len = some n) : ∃ k, i = .int k (.ofNat n) ∧ n ≤ len := by
  unfold atMost? at hh
  repeat (split at hh <;> try (cases hh; done))
  rename_i hlt
  simp only [Option.some.injEq] at hh
  subst hh
  exact ⟨_, rfl, by simpa using Nat.le_of_ble_eq_true hlt⟩

theorem goodP_indexAddr {t : Nat} {x i v : AV} {cx ci : Value} (hh : indexAddrA P t x i = some v) (hx : VR e x cx) (hi : VR e i ci) : GoodP P (Instr.indexAt t cx ci) e w v := by
  unfold indexAddrA at hh
  split at hh
  · rename_i len el id off hu
    split at hh
    · rename_i n s hn hs
      simp only [Option.some.injEq] at hh
      subst hh
      obtain ⟨k, rfl, hlt⟩ := below_some hn
      cases hi
      cases hx with
      | ptr _ _ b tt hb =>
        refine ⟨.pointer (some ⟨b, off + n * s, none⟩), ?_, .ptr _ _ _ _ hb⟩
        simp [Instr.indexAt, asIntOf, run_und hu, Instr.sureAddr, hlt, run_sizeOf hs, add_addr]
    · cases hh
  · rename_i el id off len _ hu
    split at hh
    · rename_i n s hn hs
      simp only [Option.some.injEq] at hh
      subst hh
      obtain ⟨k, rfl, hlt⟩ := below_some hn
      cases hi
      cases hx with
      | slc _ _ _ _ b tt hb =>
        refine ⟨.pointer (some ⟨b, off + n * s, none⟩), ?_, .ptr _ _ _ _ hb⟩
        simp [Instr.indexAt, asIntOf, run_und hu, hlt, run_sizeOf hs, add_addr]
    · cases hh
  · rename_i el id off len _ hu
    split at hh
    · rename_i n s hn hs
      simp only [Option.some.injEq] at hh
      subst hh
      obtain ⟨k, rfl, hlt⟩ := below_some hn
      cases hi
      cases hx with
      | slcU _ _ _ _ b tt c hb hc ht =>
        refine ⟨.pointer (some ⟨b, off + n * s, none⟩), ?_, .ptr _ _ _ _ hb⟩
        simp [Instr.indexAt, asIntOf, run_und hu, hlt, run_sizeOf hs, add_addr]
    · cases hh
  · cases hh

theorem goodP_index {t : Nat} {x i v : AV} {cx ci : Value} (hh : indexA P t x i = some v) (hx : VR e x cx) (hi : VR e i ci) : GoodP P (Instr.index t cx ci) e w v := by
  unfold indexA at hh
  split at hh
  · rename_i len el cs hu
    split at hh
    · rename_i n s g hn hs hg
      obtain ⟨k, rfl, hlt⟩ := below_some hn
      cases hi
      cases hx with
      | agg _ ccs hl =>
        obtain ⟨cv, h1, h2⟩ := partA_part hh hl hg hs w
        refine ⟨cv, ?_, h2⟩
        simp only [Instr.index, asIntOf, Sem.run_bind, Sem.run_pure, Result.andThen_ok, run_und hu]
        simp only [Int.ofNat_eq_natCast, Int.natCast_nonneg, true_and]
        rw [if_pos (by omega)]
        simp only [Sem.run_bind, run_sizeOf hs, Result.andThen_ok]
        exact h1
    · cases hh
  · rename_i s hu
    repeat (split at hh <;> try (cases hh; done))
    rename_i k n _ b hb
    simp only [Option.some.injEq] at hh
    subst hh
    cases hi
    cases hx
    rw [nth_eq] at hb
    refine ⟨.int .u8 (.ofNat b.toNat), ?_, .int _ _⟩
    have hsz : (⟨s.toArray⟩ : ByteArray)[n]? = some b := by
      obtain ⟨hlt, hv⟩ := List.getElem?_eq_some_iff.1 hb
      have : n < (⟨s.toArray⟩ : ByteArray).size := by simpa [ByteArray.size] using hlt
      rw [getElem?_pos (⟨s.toArray⟩ : ByteArray) n this]
      simp only [Option.some.injEq]
      rw [← hv]; rfl
    simp [Instr.index, asIntOf, run_und hu, hsz]
  · cases hh

theorem goodP_extract {t v : AV} {ct : Value} {i : Nat} (hh : extractA t i = some v) (ht : VR e t ct) : GoodP P (Instr.extract ct i) e w v := by
  unfold extractA at hh
  split at hh
  · rw [nth_eq] at hh
    cases ht with
    | tup _ ccs hl =>
      obtain ⟨cv, h1, h2⟩ := hl.get hh
      exact ⟨cv, by simp [Instr.extract, h1], h2⟩
  · cases hh

theorem good_len {ts : Array TypeId} {ty t : Nat} {x v : AV} {cx : Value} {rest : List Value} (ht : ts[0]? = some t) (hh : lenA P t x h = some (v, h')) (hx : VR e x cx) (hp : Pre G e D h h' w) :
    Good P (Builtin.len_ ts ty (cx :: rest).toArray) e D h h' w v := by
  unfold lenA at hh
  have hgo : (cx :: rest).toArray[0]? = some cx := by simp
  split at hh <;> first | (cases hh; done) | skip
  · rename_i hu
    simp only [Option.some.injEq, Prod.mk.injEq] at hh
    obtain ⟨rfl, rfl⟩ := hh
    cases hx
    exact (GoodP.good ⟨_, by simp [Builtin.len_, ht, run_und hu, goInt, List.size_toArray]; rfl, .int _ _⟩ hp)
  · rename_i hu
    simp only [Option.some.injEq, Prod.mk.injEq] at hh
    obtain ⟨rfl, rfl⟩ := hh
    refine (GoodP.good ⟨_, ?_, .int _ _⟩ hp)
    simp [Builtin.len_, ht, run_und hu, goInt]
  all_goals first
    | (rename_i hu
       simp only [Option.some.injEq, Prod.mk.injEq] at hh
       obtain ⟨rfl, rfl⟩ := hh
       cases hx
       exact (GoodP.good ⟨_, by simp [Builtin.len_, ht, run_und hu, goInt], .int _ _⟩ hp))
    | skip
  · rename_i _ _ id hu
    split at hh
    · rename_i es c hm
      simp only [Option.some.injEq, Prod.mk.injEq] at hh
      obtain ⟨rfl, rfl⟩ := hh
      cases hx with
      | map _ b tt hb =>
        obtain ⟨hd, b', t', co, he, hw, hr⟩ := hp.known hm (bit_rd h id)
        rw [hb] at he
        simp only [Option.some.injEq, Prod.mk.injEq] at he
        obtain ⟨rfl, rfl⟩ := he
        cases hr with
        | map _ _ ces hl =>
          have hlen : es.length = ces.length := by
            clear hw hm
            induction hl with
            | nil => rfl
            | cons _ _ _ _ _ _ _ _ ih => simp [ih]
          refine ⟨_, w, e, ?_, .int _ _, Post.rd id hp⟩
          simp [Builtin.len_, ht, run_und hu, goInt, getObj, Sem.run, hw, hlen]
    · cases hh
end Go.AX

/-! AX: integers, strings: the quick words and the model's. -/
namespace Go.AX

theorem ilt_eq (a b : Int) : ilt a b = decide (a < b) := by
  cases a with
  | ofNat a => cases b with
    | ofNat b =>
      simp only [ilt]
      rw [Bool.eq_iff_iff]; simp [Nat.blt]; omega
    | negSucc b => simp only [ilt]; rw [Bool.eq_iff_iff]; simp; omega
  | negSucc a => cases b with
    | ofNat b => simp only [ilt]; rw [Bool.eq_iff_iff]; simp; omega
    | negSucc b => simp only [ilt]; rw [Bool.eq_iff_iff]; simp [Nat.blt]; omega
theorem ieq_eq (a b : Int) : ieq a b = decide (a = b) := by
  cases a with
  | ofNat a => cases b with
    | ofNat b => simp only [ieq]; rw [Bool.eq_iff_iff]; simp; omega
    | negSucc b => simp [ieq]
  | negSucc a => cases b with
    | ofNat b => simp [ieq]
    | negSucc b => simp only [ieq]; rw [Bool.eq_iff_iff]; simp
theorem iadd_eq (a b : Int) : iadd a b = a + b := by
  cases a <;> cases b <;> rfl
theorem isub_eq (a b : Int) : isub a b = a - b := by
  cases a with
  | ofNat a => cases b with
    | ofNat b =>
      simp only [isub]
      split
      · rename_i h
        have := Nat.le_of_ble_eq_true h
        change ((Nat.sub a b : Nat) : Int) = (a : Int) - (b : Int)
        change ((a - b : Nat) : Int) = _
        omega
      · rename_i h
        have h' : ¬ b ≤ a := fun hh => by rw [Nat.ble_eq_true_of_le hh] at h; cases h
        change Int.negSucc (b - (a + 1)) = (a : Int) - (b : Int)
        omega
    | negSucc b => rfl
  | negSucc a => rfl
theorem imul_eq (a b : Int) : imul a b = a * b := by
  cases a <;> cases b <;> rfl

theorem wrap_i64 {n : Int} (h1 : -9223372036854775808 ≤ n) (h2 : n < 9223372036854775808) : IntKind.i64.wrap n = n :=
  IntWalk.i64_in n (by omega)

theorem wrapQ_eq (k : IntKind) (n : Int) : wrapQ k n = k.wrap n := by
  unfold wrapQ
  split
  · split
    · split
      · rename_i m hm
        rw [wrap_i64 (by simp only [Int.ofNat_eq_natCast]; omega) (by simp [Nat.blt] at hm; simp only [Int.ofNat_eq_natCast]; omega)]
      · rfl
    · split
      · rename_i m hm
        rw [wrap_i64 (by simp [Nat.blt] at hm; omega) (by omega)]
      · rfl
  · split
    · simp [IntKind.wrap, IntKind.bits, IntKind.signed]; rfl
    · rfl
  · split
    · simp [IntKind.wrap, IntKind.bits, IntKind.signed]; rfl
    · rfl
  · split
    · simp [IntKind.wrap, IntKind.bits, IntKind.signed]; rfl
    · rfl
  · rfl

theorem keq_eq {a b : IntKind} (h : keq a b = true) : a = b := by
  cases a <;> cases b <;> simp [keq] at h <;> rfl

theorem bytesEq_eq : ∀ (a b : List UInt8), bytesEq a b = (a == b) := by
  intro a
  induction a with
  | nil => intro b; cases b <;> simp [bytesEq]
  | cons x xs ih =>
    intro b
    cases b with
    | nil => simp [bytesEq]
    | cons y ys =>
      simp only [bytesEq]
      split
      · rename_i h
        have : x = y := UInt8.toNat_inj.1 (Nat.eq_of_beq_eq_true h)
        subst this
        rw [ih]; simp
      · rename_i h
        have : x ≠ y := fun hh => by subst hh; simp at h
        rw [Bool.eq_iff_iff]; simp [this]

theorem bytesLt_eq : ∀ (a b : List UInt8), bytesLt a b = Op.bytesLess a b := by
  intro a
  induction a with
  | nil => intro b; cases b <;> simp [bytesLt, Op.bytesLess]
  | cons x xs ih =>
    intro b
    cases b with
    | nil => simp [bytesLt, Op.bytesLess]
    | cons y ys =>
      simp only [bytesLt, Op.bytesLess]
      split
      · rename_i h
        have : x < y := by rw [UInt8.lt_iff_toNat_lt]; simp [Nat.blt] at h; omega
        simp [this]
      · rename_i h
        have hnl : ¬ x < y := fun hh => by
          rw [UInt8.lt_iff_toNat_lt] at hh
          rw [show Nat.blt x.toNat y.toNat = true by simp [Nat.blt]; omega] at h
          cases h
        split
        · rename_i h2
          have : x = y := UInt8.toNat_inj.1 (Nat.eq_of_beq_eq_true h2)
          subst this
          simp [ih]
        · rename_i h2
          have : x ≠ y := fun hh => by subst hh; simp at h2
          simp [hnl, this]

theorem toList_mk (s : List UInt8) : (⟨s.toArray⟩ : ByteArray).toList = s := by
  rw [Go.Lib.toList_data]
end Go.AX

/-! AX: operators. -/
namespace Go.AX

variable {P : Program} {e : Env} {D : Nat → Prop} {h h' : AH} {w : World}

theorem stripe (s off : Nat) {g : Bool} {t : Nat} {xs : List AV} {cxs : List Value} {a : AV} (h : partA g s xs off = some a) (hx : VRL e xs cxs) (hg : agg P t = some g) (hs : sz P t = some s) (w : World) :
    ∃ cv, (part t cxs.toArray off).run P w = .ok cv w ∧ VR e a cv := partA_part h hx hg hs w

theorem eq_sound : ∀ (n : Nat),
    (∀ (t : TypeId) (x y : AV) (b : Bool) (cx cy : Value) (d : Nat) (w : World), eqA P n t x y = some b → VR e x cx → VR e y cy → n ≤ d → (Op.equalIn d t cx cy).run P w = .ok b w) ∧
    (∀ (el : TypeId) (g : Bool) (s i len : Nat) (xs ys : List AV) (b : Bool) (cxs cys : List Value) (d : Nat) (w : World), eqArr P n el g s i len xs ys = some b → VRL e xs cxs → VRL e ys cys → n ≤ d →
      agg P el = some g → sz P el = some s → ∀ (_k : Nat → Nat), (forIn (List.range' i len) ((none, ()) : Option Bool × Unit) (fun i _ => do
        let a ← part el cxs.toArray (i * s)
        let b ← part el cys.toArray (i * s)
        let q ← Op.equalIn d el a b
        if (!q) = true then pure (ForInStep.done (some false, ())) else pure (ForInStep.yield (none, ())))).run P w = .ok (if b then (none, ()) else (some false, ())) w) ∧
    (∀ (fs : List Field) (xs ys : List AV) (b : Bool) (cxs cys : List Value) (d : Nat) (w : World), eqFs P n fs xs ys = some b → VRL e xs cxs → VRL e ys cys → n ≤ d →
      (Op.eqFields d cxs.toArray cys.toArray fs).run P w = .ok b w) := by
  intro n
  induction n with
  | zero => exact ⟨fun _ _ _ _ _ _ _ _ h => by simp [eqA] at h, fun _ _ _ _ _ _ _ _ _ _ _ _ h => by simp [eqArr] at h, fun _ _ _ _ _ _ _ _ h => by simp [eqFs] at h⟩
  | succ n ih =>
    obtain ⟨ih1, ih2, ih3⟩ := ih
    refine ⟨?_, ?_, ?_⟩
    · intro t x y b cx cy d w hh hx hy hd
      obtain ⟨d, rfl⟩ : ∃ m, d = m + 1 := ⟨d - 1, by omega⟩
      unfold eqA at hh
      split at hh
      case h_20 =>
        rename_i len el xs ys hu
        split at hh
        · rename_i s g hs hg
          cases hx with | agg _ cxs hxl => cases hy with | agg _ cys hyl =>
          have := ih2 _ _ _ _ _ _ _ _ _ _ d w hh hxl hyl (by omega) hg hs (fun i => i)
          simp only [Op.equalIn, Sem.run_bind, run_und hu, Result.andThen_ok, run_sizeOf hs]
          simp only [Std.Legacy.Range.forIn_eq_forIn_range', Std.Legacy.Range.size, Nat.sub_zero, Nat.add_one_sub_one, Nat.div_one]
          rw [this]
          cases b <;> simp
        · cases hh
      case h_21 =>
        rename_i fs xs ys hu
        split at hh
        · cases hh
        · rename_i hst
          cases hx with | agg _ cxs hxl => cases hy with | agg _ cys hyl =>
          have hf : P.fieldsOf t = fs := by simp [Program.fieldsOf, hu]
          rw [run_equalIn_struct w d t _ _ (by rw [hf]; exact hu) hst, hf]
          exact ih3 _ _ _ _ _ _ d w hh hxl hyl (by omega)
      case h_1 =>
        rename_i hu
        simp only [Option.some.injEq] at hh
        subst hh
        cases hx
        cases hy
        exact run_equalIn_bool' w d t _ _ hu
      case h_2 =>
        rename_i hu
        split at hh
        · rename_i hk
          simp only [Option.some.injEq] at hh
          subst hh
          cases hx
          cases hy
          have := keq_eq hk
          subst this
          rw [run_equalIn_int w d t _ _ _ _ hu, ieq_eq]
          congr 1
        · cases hh
      case h_3 =>
        rename_i hu
        simp only [Option.some.injEq] at hh
        subst hh
        cases hx
        cases hy
        rw [run_equalIn_string w d t _ _ hu, toList_mk, toList_mk, bytesEq_eq]
      all_goals first
        | (cases hh; done)
        | (rename_i hu
           simp only [Option.some.injEq] at hh
           subst hh
           cases hx
           cases hy
           unfold Op.equalIn
           rw [Sem.run_bind, run_und hu]
           rfl)
    · intro el g s i len xs ys b cxs cys d w hh hx hy hd hg hs k
      obtain ⟨d, rfl⟩ : ∃ m, d = m + 1 := ⟨d - 1, by omega⟩
      cases len with
      | zero =>
        simp only [eqArr, Option.some.injEq] at hh
        subst hh
        simp
      | succ len =>
        simp only [eqArr] at hh
        split at hh
        · rename_i a c ha hc
          obtain ⟨ca, h1, h2⟩ := partA_part (P := P) ha hx hg hs w
          obtain ⟨cc, h3, h4⟩ := partA_part (P := P) hc hy hg hs w
          simp only [List.range'_succ, List.forIn_cons, Sem.run_bind]
          have e1 : Nat.mul i s = i * s := rfl
          rw [e1] at h1 h3
          rw [h1]; simp only [Result.andThen_ok]
          rw [h3]; simp only [Result.andThen_ok]
          split at hh
          · rename_i hq
            rw [ih1 _ _ _ _ _ _ _ w hq h2 h4 (by omega)]
            simp only [Result.andThen_ok, Bool.not_true, Bool.false_eq_true, if_false, Sem.run_pure]
            exact ih2 _ _ _ _ _ _ _ _ _ _ _ w hh hx hy (by omega) hg hs k
          · rename_i r hne
            have hb : eqA P n el a c = some false := by
              cases hr : eqA P n el a c with
              | none => rw [hr] at hh; cases hh
              | some q => cases q with
                | true => exact absurd hr hne
                | false => rfl
            rw [hb] at hh
            simp only [Option.some.injEq] at hh
            subst hh
            rw [ih1 _ _ _ _ _ _ _ w hb h2 h4 (by omega)]
            simp
        · cases hh
    · intro fs xs ys b cxs cys d w hh hx hy hd
      cases fs with
      | nil => simp only [eqFs, Option.some.injEq] at hh; subst hh; simp [Op.eqFields]
      | cons f fs =>
        simp only [eqFs] at hh
        split at hh
        · cases hh
        · rename_i hname
          have hn : f.name ≠ "_" := by simpa using hname
          repeat (split at hh <;> try (cases hh; done))
          · rename_i _ _ s g hs hg _ _ a c ha hc _ hq
            obtain ⟨ca, h1, h2⟩ := partA_part (P := P) ha hx hg hs w
            obtain ⟨cc, h3, h4⟩ := partA_part (P := P) hc hy hg hs w
            simp only [Op.eqFields, hn, ne_eq, not_false_eq_true, if_true, Sem.run_bind, h1, h3, Result.andThen_ok]
            rw [ih1 _ _ _ _ _ _ _ w hq h2 h4 (by omega)]
            simp only [Result.andThen_ok, Bool.not_true, Bool.false_eq_true, if_false]
            exact ih3 _ _ _ _ _ _ _ w hh hx hy (by omega)
          · rename_i _ _ s g hs hg _ _ a c ha hc r hne
            obtain ⟨ca, h1, h2⟩ := partA_part (P := P) ha hx hg hs w
            obtain ⟨cc, h3, h4⟩ := partA_part (P := P) hc hy hg hs w
            have hb : eqA P n f.type a c = some false := by
              cases hr : eqA P n f.type a c with
              | none => rw [hr] at hh; cases hh
              | some q => cases q with
                | true => exact absurd hr hne
                | false => rfl
            rw [hb] at hh
            simp only [Option.some.injEq] at hh
            subst hh
            simp only [Op.eqFields, hn, ne_eq, not_false_eq_true, if_true, Sem.run_bind, h1, h3, Result.andThen_ok]
            rw [ih1 _ _ _ _ _ _ _ w hb h2 h4 (by omega)]
            simp
end Go.AX

/-! AX: operators, the model's dispatch. -/
namespace Go.AX

variable {P : Program} {e : Env} {D : Nat → Prop} {h h' : AH} {w : World}

theorem wrap_u64_lt {n : Nat} (hn : n < 18446744073709551616) : IntKind.u64.wrap (n : Int) = n := by
  simp [IntKind.wrap, IntKind.bits, IntKind.signed]; omega
theorem wrap_u32_lt {n : Nat} (hn : n < 4294967296) : IntKind.u32.wrap (n : Int) = n := by
  simp [IntKind.wrap, IntKind.bits, IntKind.signed]; omega

theorem run_bits {op : BinOp} {k : IntKind} {a b : Int} {v : AV} (hh : bitsA op k a b = some v) (w : World) : GoodP P (Op.intBits op k a b) e w v := by
  unfold bitsA at hh
  split at hh
  · split at hh
    · simp only [Option.some.injEq] at hh
      subst hh
      rename_i a b
      refine ⟨_, ?_, .int _ _⟩
      simp only [Op.intBits, Sem.run_pure]
      have h1 : (BitVec.ofInt IntKind.u64.bits (Int.ofNat a) &&& BitVec.ofInt IntKind.u64.bits (Int.ofNat b)).toNat = Nat.land (Nat.mod a 18446744073709551616) (Nat.mod b 18446744073709551616) := by
        simp only [BitVec.toNat_and]
        rfl
      rw [h1, wrap_u64_lt]
      · rfl
      · exact Nat.lt_of_le_of_lt Nat.and_le_left (Nat.mod_lt _ (by omega))
    · simp only [Option.some.injEq] at hh
      subst hh
      rename_i a b
      refine ⟨_, ?_, .int _ _⟩
      simp only [Op.intBits, Sem.run_pure]
      have h1 : (BitVec.ofInt IntKind.u32.bits (Int.ofNat a) &&& BitVec.ofInt IntKind.u32.bits (Int.ofNat b)).toNat = Nat.land (Nat.mod a 4294967296) (Nat.mod b 4294967296) := by
        simp only [BitVec.toNat_and]
        rfl
      rw [h1, wrap_u32_lt]
      · rfl
      · exact Nat.lt_of_le_of_lt Nat.and_le_left (Nat.mod_lt _ (by omega))
    · simp only [Option.some.injEq] at hh
      subst hh
      exact ⟨_, rfl, .int _ _⟩
  all_goals first
    | (cases hh; done)
    | (simp only [Option.some.injEq] at hh
       subst hh
       exact ⟨_, rfl, .int _ _⟩)

theorem not_lt' (a b : Int) : (!decide (b < a)) = decide (a ≤ b) := by rw [Bool.eq_iff_iff]; simp

theorem run_int {op : BinOp} {t : TypeId} {k : IntKind} {a b : Int} {v : AV} (h1 : op ≠ .shl) (h2 : op ≠ .shr) (hh : intOp op k a b = some v) (w : World) :
    GoodP P (binOp op t (.int k a) (.int k b)) e w v := by
  cases op with
  | shl => exact absurd rfl h1
  | shr => exact absurd rfl h2
  | add => simp only [intOp, Option.some.injEq] at hh; subst hh; exact ⟨_, by simp [binOp, Op.intArith, wrapQ_eq, iadd_eq], .int _ _⟩
  | sub => simp only [intOp, Option.some.injEq] at hh; subst hh; exact ⟨_, by simp [binOp, Op.intArith, wrapQ_eq, isub_eq], .int _ _⟩
  | mul => simp only [intOp, Option.some.injEq] at hh; subst hh; exact ⟨_, by simp [binOp, Op.intArith, wrapQ_eq, imul_eq], .int _ _⟩
  | quo =>
    simp only [intOp] at hh
    split at hh
    · cases hh
    · rename_i hz
      rw [ieq_eq] at hz
      simp only [decide_eq_false_iff_not] at hz
      simp only [Option.some.injEq] at hh; subst hh
      exact ⟨_, by simp [binOp, Op.intDiv, wrapQ_eq, hz], .int _ _⟩
  | rem =>
    simp only [intOp] at hh
    split at hh
    · cases hh
    · rename_i hz
      rw [ieq_eq] at hz
      simp only [decide_eq_false_iff_not] at hz
      simp only [Option.some.injEq] at hh; subst hh
      exact ⟨_, by simp [binOp, Op.intDiv, hz], .int _ _⟩
  | and => obtain ⟨cv, h1, h2⟩ := run_bits (P := P) (e := e) (show bitsA .and k a b = some v from hh) w; exact ⟨cv, by simpa [binOp] using h1, h2⟩
  | or => obtain ⟨cv, h1, h2⟩ := run_bits (P := P) (e := e) (show bitsA .or k a b = some v from hh) w; exact ⟨cv, by simpa [binOp] using h1, h2⟩
  | xor => obtain ⟨cv, h1, h2⟩ := run_bits (P := P) (e := e) (show bitsA .xor k a b = some v from hh) w; exact ⟨cv, by simpa [binOp] using h1, h2⟩
  | andNot => obtain ⟨cv, h1, h2⟩ := run_bits (P := P) (e := e) (show bitsA .andNot k a b = some v from hh) w; exact ⟨cv, by simpa [binOp] using h1, h2⟩
  | eql => simp only [intOp, Option.some.injEq] at hh; subst hh; exact ⟨_, by simp [binOp, Op.intCmp, ieq_eq]; rfl, .bool _⟩
  | neq => simp only [intOp, Option.some.injEq] at hh; subst hh; exact ⟨_, by simp [binOp, Op.intCmp, ieq_eq]; rfl, .bool _⟩
  | lss => simp only [intOp, Option.some.injEq] at hh; subst hh; exact ⟨_, by simp [binOp, Op.intCmp, ilt_eq], .bool _⟩
  | leq => simp only [intOp, Option.some.injEq] at hh; subst hh; exact ⟨_, by simp only [binOp, Op.intCmp, ilt_eq, not_lt']; simp, .bool _⟩
  | gtr => simp only [intOp, Option.some.injEq] at hh; subst hh; exact ⟨_, by simp [binOp, Op.intCmp, ilt_eq], .bool _⟩
  | geq => simp only [intOp, Option.some.injEq] at hh; subst hh; exact ⟨_, by simp only [binOp, Op.intCmp, ilt_eq, not_lt']; simp, .bool _⟩

theorem run_shift {op : BinOp} {k yk : IntKind} {a b : Int} {v : AV} (hh : shiftA op k a b = some v) (w : World) : GoodP P (Op.shift op k a yk b) e w v := by
  unfold shiftA at hh
  split at hh
  · cases hh
  · rename_i hb
    rw [ilt_eq] at hb
    simp only [decide_eq_false_iff_not] at hb
    have pw : ∀ n : Nat, ((Nat.pow 2 n : Nat) : Int) = 2 ^ n := fun n => by
      change ((2 ^ n : Nat) : Int) = _
      simp
    split at hh
    · simp only [Option.some.injEq] at hh; subst hh
      refine ⟨_, ?_, .int _ _⟩
      simp only [Op.shift, hb, if_false, Sem.run_pure, wrapQ_eq, imul_eq]
      rw [Int.ofNat_eq_natCast, pw]
    · split at hh
      · simp only [Option.some.injEq] at hh; subst hh
        refine ⟨_, ?_, .int _ _⟩
        simp only [Op.shift, hb, if_false, Sem.run_pure]
        rename_i m
        congr 2
        rw [← pw]
        first | exact (Int.natCast_fdiv m _) | exact (Int.natCast_fdiv m _).symm | exact (Int.ofNat_fdiv m _) | exact (Int.ofNat_fdiv m _).symm
      · simp only [Option.some.injEq] at hh; subst hh
        refine ⟨_, ?_, .int _ _⟩
        simp only [Op.shift, hb, if_false, Sem.run_pure]
    · cases hh

theorem run_str {op : BinOp} {t : TypeId} {a b : List UInt8} {v : AV} (hh : strOp op a b = some v) (w : World) :
    GoodP P (binOp op t (.string ⟨a.toArray⟩) (.string ⟨b.toArray⟩)) e w v := by
  have hs : ∀ op, binOp op t (.string ⟨a.toArray⟩) (.string ⟨b.toArray⟩) = Op.stringOp op ⟨a.toArray⟩ ⟨b.toArray⟩ := fun op => by cases op <;> rfl
  rw [hs]
  unfold Op.stringOp
  simp only [toList_mk]
  cases op with
  | add =>
    simp only [strOp] at hh
    split at hh
    · rename_i hlt
      simp only [Option.some.injEq] at hh; subst hh
      have hlt' : a.length + b.length < 9223372036854775808 := by
        have : Nat.blt (a.length + b.length) 9223372036854775808 = true := hlt
        simp [Nat.blt] at this; omega
      have hsz : (⟨a.toArray⟩ : ByteArray).size + (⟨b.toArray⟩ : ByteArray).size = a.length + b.length := by simp [ByteArray.size]
      refine ⟨.string (⟨a.toArray⟩ ++ ⟨b.toArray⟩), ?_, ?_⟩
      · simp only [hsz]
        have hmax : IntKind.i64.max = 9223372036854775807 := by decide
        rw [hmax, if_neg (by omega)]
        rfl
      · have : (⟨a.toArray⟩ ++ ⟨b.toArray⟩ : ByteArray) = ⟨(a ++ b).toArray⟩ := by
          apply ByteArray.ext
          simp
        rw [this]
        exact .str _
    · cases hh
  | eql => simp only [strOp, Option.some.injEq] at hh; subst hh; exact ⟨_, rfl, by rw [bytesEq_eq]; exact .bool _⟩
  | neq => simp only [strOp, Option.some.injEq] at hh; subst hh; exact ⟨_, rfl, by rw [bytesEq_eq]; exact .bool _⟩
  | lss => simp only [strOp, Option.some.injEq] at hh; subst hh; exact ⟨_, rfl, by rw [bytesLt_eq]; exact .bool _⟩
  | leq => simp only [strOp, Option.some.injEq] at hh; subst hh; exact ⟨_, rfl, by rw [bytesLt_eq, bytesEq_eq]; exact .bool _⟩
  | gtr => simp only [strOp, Option.some.injEq] at hh; subst hh; exact ⟨_, rfl, by rw [bytesLt_eq, bytesEq_eq]; exact .bool _⟩
  | geq => simp only [strOp, Option.some.injEq] at hh; subst hh; exact ⟨_, rfl, by rw [bytesLt_eq]; exact .bool _⟩
  | _ => simp [strOp] at hh
end Go.AX

/-! AX: operators, conversions, slices. -/
namespace Go.AX

variable {P : Program} {e : Env} {D : Nat → Prop} {h h' : AH} {w : World}

theorem guard_ok {op : BinOp} {t : TypeId} {ox oy : Operand} {cx cy : Value} (hn : ¬ (cx = .nilIface ∧ cy = .nilIface))
    (ha : ∀ ca cb, cx = .agg ca → cy = .agg cb → P.eqGuardType P.depth t = false) (w : World) : (eqGuard op t ox oy cx cy).run P w = .ok () w := by
  unfold eqGuard
  cases op <;> first
    | (simp; done)
    | (rw [if_neg (by simp)]
       split
       · exact absurd ⟨rfl, rfl⟩ hn
       · have := ha _ _ rfl rfl
         simp [this]
       · simp)

theorem nil_guard {op : BinOp} {t : TypeId} {ox oy : Operand} (hc : (isConstO ox || isConstO oy) = true) (w : World) : (eqGuard op t ox oy .nilIface .nilIface).run P w = .ok () w := by
  unfold eqGuard
  cases ox <;> cases oy <;> first
    | (simp [isConstO] at hc; done)
    | (cases op <;> simp)

theorem quiet_guard {op : BinOp} {t : TypeId} {ox oy : Operand} {x y : AV} {cx cy : Value} (hq : quietEq P t x y = true) (hx : VR e x cx) (hy : VR e y cy) (w : World) :
    (eqGuard op t ox oy cx cy).run P w = .ok () w := by
  refine guard_ok ?_ ?_ w
  · rintro ⟨rfl, rfl⟩
    cases hx <;> cases hy <;> simp [quietEq] at hq
  · rintro ca cb rfl rfl
    cases hx <;> cases hy <;> simp [quietEq] at hq
    exact hq

theorem run_eql {t : TypeId} {x y : AV} {b : Bool} {cx cy : Value} (hh : eqA P 20 t x y = some b) (hx : VR e x cx) (hy : VR e y cy) (hni : ∀ k n l m, ¬ (cx = .int k n ∧ cy = .int l m)) (hns : ∀ s u, ¬ (cx = .string s ∧ cy = .string u))
    (hc1 : ∀ k n l m, ¬ (cx = .float k n ∧ cy = .float l m)) (hc2 : ∀ k n m l i j, ¬ (cx = .complex k n m ∧ cy = .complex l i j)) (w : World) :
    (binOp .eql t cx cy).run P w = .ok (.bool b) w ∧ (binOp .neq t cx cy).run P w = .ok (.bool (!b)) w := by
  have he := (eq_sound (P := P) (e := e) 20).1 t x y b cx cy 10000 w hh hx hy (by omega)
  have key : binOp .eql t cx cy = (do pure (.bool (← Op.equal t cx cy))) ∧ binOp .neq t cx cy = (do pure (.bool (!(← Op.equal t cx cy)))) := by
    cases cx <;> first
      | exact ⟨rfl, rfl⟩
      | (cases cy <;> first
          | exact ⟨rfl, rfl⟩
          | exact absurd ⟨rfl, rfl⟩ (hni _ _ _ _)
          | exact absurd ⟨rfl, rfl⟩ (hns _ _)
          | exact absurd ⟨rfl, rfl⟩ (hc1 _ _ _ _)
          | exact absurd ⟨rfl, rfl⟩ (hc2 _ _ _ _ _ _))
  rw [key.1, key.2]
  simp [Op.equal, Op.maxDepth, he]

theorem binA_other {op : BinOp} {t : TypeId} {x y v : AV} {cx cy : Value} (hh : binA P op t x y = some v) (hx : VR e x cx) (hy : VR e y cy)
    (h1 : ∀ k a l b, ¬ (x = .int k a ∧ y = .int l b)) (h2 : ∀ a b, ¬ (x = .str a ∧ y = .str b)) {ox oy : Operand} : GoodP P (do eqGuard op t ox oy cx cy; binOp op t cx cy) e w v := by
  have hb : ∃ b, eqA P 20 t x y = some b ∧ quietEq P t x y = true ∧ ((op = .eql ∧ v = .bool b) ∨ (op = .neq ∧ v = .bool (!b))) := by
    unfold binA at hh
    split at hh
    · exact absurd ⟨rfl, rfl⟩ (h1 _ _ _ _)
    · exact absurd ⟨rfl, rfl⟩ (h2 _ _)
    · split at hh
      · split at hh
        · split at hh
          · rename_i hq _ b hb
            simp only [Option.some.injEq] at hh
            exact ⟨b, hb, hq, .inl ⟨rfl, hh.symm⟩⟩
          · cases hh
        · cases hh
      · split at hh
        · split at hh
          · rename_i hq _ b hb
            simp only [Option.some.injEq] at hh
            exact ⟨b, hb, hq, .inr ⟨rfl, hh.symm⟩⟩
          · cases hh
        · cases hh
      · cases hh
  obtain ⟨b, hb, hq, ho⟩ := hb
  have hnt1 : x ≠ .top := fun hh => by subst hh; simp [quietEq] at hq
  have hnt2 : y ≠ .top := fun hh => by subst hh; cases x <;> simp [quietEq] at hq
  have hg := fun op => quiet_guard (P := P) (op := op) (t := t) (ox := ox) (oy := oy) hq hx hy w
  have hr := run_eql (P := P) hb hx hy
    (fun k n l m hc => by obtain ⟨rfl, rfl⟩ := hc; cases hx <;> first | (cases hy <;> first | exact absurd ⟨rfl, rfl⟩ (h1 _ _ _ _) | exact hnt2 rfl) | exact hnt1 rfl)
    (fun s u hc => by obtain ⟨rfl, rfl⟩ := hc; cases hx <;> first | (cases hy <;> first | exact absurd ⟨rfl, rfl⟩ (h2 _ _) | exact hnt2 rfl) | exact hnt1 rfl)
    (fun k n l m hc => by obtain ⟨rfl, rfl⟩ := hc; cases hx; exact hnt1 rfl)
    (fun k n m l i j hc => by obtain ⟨rfl, rfl⟩ := hc; cases hx; exact hnt1 rfl) w
  rcases ho with ⟨rfl, rfl⟩ | ⟨rfl, rfl⟩
  · exact ⟨_, by rw [Sem.run_bind, hg]; exact hr.1, .bool _⟩
  · exact ⟨_, by rw [Sem.run_bind, hg]; exact hr.2, .bool _⟩

theorem binA_int {op : BinOp} {t : TypeId} {k l : IntKind} {a b : Int} {v : AV} (hh : binA P op t (.int k a) (.int l b) = some v) (w : World) : GoodP P (binOp op t (.int k a) (.int l b)) e w v := by
  unfold binA at hh
  simp only at hh
  split at hh
  · exact run_shift (yk := l) hh w
  · exact run_shift (yk := l) hh w
  · rename_i n1 n2
    split at hh
    · rename_i hk
      have := keq_eq hk
      subst this
      exact run_int (fun hc => n1 hc) (fun hc => n2 hc) hh w
    · cases hh

theorem goodP_bin {op : BinOp} {t : TypeId} {ox oy : Operand} {x y v : AV} {cx cy : Value} (hh : binOpA P op t ox oy x y = some v) (hx : VR e x cx) (hy : VR e y cy) :
    GoodP P (do eqGuard op t ox oy cx cy; binOp op t cx cy) e w v := by
  have main : binA P op t x y = some v → GoodP P (do eqGuard op t ox oy cx cy; binOp op t cx cy) e w v := by
    intro hh
    by_cases hi : ∃ k a l b, x = .int k a ∧ y = .int l b
    · obtain ⟨k, a, l, b, rfl, rfl⟩ := hi
      cases hx; cases hy
      obtain ⟨cv, h1, h2⟩ := binA_int (P := P) (e := e) hh w
      exact ⟨cv, by rw [Sem.run_bind, guard_ok (by simp) (by simp)]; exact h1, h2⟩
    · by_cases hs : ∃ a b, x = .str a ∧ y = .str b
      · obtain ⟨a, b, rfl, rfl⟩ := hs
        cases hx; cases hy
        obtain ⟨cv, h1, h2⟩ := run_str (P := P) (e := e) (t := t) (show strOp op a b = some v from hh) w
        exact ⟨cv, by rw [Sem.run_bind, guard_ok (by simp) (by simp)]; exact h1, h2⟩
      · exact binA_other hh hx hy (fun k a l b hc => hi ⟨k, a, l, b, hc⟩) (fun a b hc => hs ⟨a, b, hc⟩)
  unfold binOpA at hh
  split at hh
  · exact main hh
  · split at hh
    · rename_i hc
      split at hh
      · rename_i _ hu
        cases hx; cases hy
        have hgd := fun op => nil_guard (P := P) (op := op) (t := t) hc w
        have heq : (Op.equal t .nilIface .nilIface).run P w = .ok true w := by
          unfold Op.equal Op.maxDepth Op.equalIn
          rw [Sem.run_bind, run_und hu]
          rfl
        split at hh
        · simp only [Option.some.injEq] at hh; subst hh
          refine ⟨_, ?_, .bool _⟩
          rw [Sem.run_bind, hgd]
          have : binOp .eql t .nilIface .nilIface = (do pure (.bool (← Op.equal t .nilIface .nilIface))) := rfl
          simp [this, heq]
        · simp only [Option.some.injEq] at hh; subst hh
          refine ⟨_, ?_, .bool _⟩
          rw [Sem.run_bind, hgd]
          have : binOp .neq t .nilIface .nilIface = (do pure (.bool (!(← Op.equal t .nilIface .nilIface)))) := rfl
          simp [this, heq]
        · cases hh
      · cases hh
    · cases hh
  · exact main hh
end Go.AX

/-! AX: conversions, slices, lengths. -/
namespace Go.AX

variable {G : Nat → Obj → Prop} {P : Program} {e : Env} {D : Nat → Prop} {h h' : AH} {w : World}

theorem goodP_un {op : UnOp} {x v : AV} {cx : Value} (hh : unA op x = some v) (hx : VR e x cx) : GoodP P (Op.unary op cx) e w v := by
  unfold unA at hh
  split at hh
  · simp only [Option.some.injEq] at hh; subst hh
    cases hx
    refine ⟨_, ?_, .int _ _⟩
    simp [Op.unary, Op.intArith, wrapQ_eq, isub_eq]
  · simp only [Option.some.injEq] at hh; subst hh
    cases hx
    exact ⟨_, rfl, .bool _⟩
  · cases hx
    exact run_bits hh w
  · cases hh

theorem goodP_conv {s d : TypeId} {x v : AV} {cx : Value} (hh : convA P s d x = some v) (hx : VR e x cx) : GoodP P (convert s d cx) e w v := by
  unfold convA at hh
  split at hh
  · rename_i ds k k' n hs hd
    simp only [Option.some.injEq] at hh; subst hh
    cases hx
    refine ⟨_, ?_, .int _ _⟩
    unfold convert
    rw [Sem.run_bind, run_und hs]
    simp only [Result.andThen_ok]
    rw [Sem.run_bind, run_und hd]
    simp [Conv.intToInt, wrapQ_eq]
  · rename_i ds b hs hd
    simp only [Option.some.injEq] at hh; subst hh
    cases hx
    refine ⟨_, ?_, .str _⟩
    unfold convert
    rw [Sem.run_bind, run_und hs]
    simp only [Result.andThen_ok]
    rw [Sem.run_bind, run_und hd]
    rfl
  · cases hh

/-- The frozen mark behind the last cell. -/
theorem good_conv {s d : TypeId} {x v : AV} {cx : Value} (hh : convHA P s d x h = some (v, h')) (hx : VR e x cx) (hp : Pre G e D h h' w) : Good P (convert s d cx) e D h h' w v := by
  unfold convHA at hh
  split at hh
  · rename_i el b hs hd
    split at hh
    · rename_i hel hsz
      simp only [Option.some.injEq, Prod.mk.injEq] at hh
      obtain ⟨rfl, rfl⟩ := hh
      cases hx
      obtain ⟨cap, hcap, hq⟩ : ∃ cap, b.length ≤ cap ∧ (choose (.appendCap b.length 0 el)).run P w = .ok cap { w with drawn := w.drawn + 1 } := by
        refine ⟨_, ?_, by simp [choose, Sem.run, Question.forced]; rfl⟩
        simp [Question.cut]
      let elems : List Value := b.map fun c => .int .u8 c.toNat
      let cells : List Value := elems ++ List.replicate (cap - b.length) (.int .u8 0)
      have hlen : cells.length = cap := by simp [cells, elems]; omega
      have hr : VRL e (b.map fun c => AV.int .u8 (.ofNat c.toNat)) elems := by
        simp only [elems]
        clear hcap hq hlen hp cells elems
        induction b with
        | nil => exact .nil
        | cons c b ih => exact .cons _ _ _ _ (.int _ _) ih
      have ho : ORel e cap (.cells (b.map fun c => AV.int .u8 (.ofNat c.toNat)) true) (.cells (elems ++ List.replicate (cap - b.length) (Value.int .u8 0)).toArray el (cap, cap + 1)) :=
        .cells _ _ _ _ _ _ hr (by simp) (by simp [elems]; omega) (fun i hi => by omega)
      have hp' := hp.drawn (w.drawn + 1)
      obtain ⟨e', he', hpost⟩ := Post.alloc _ _ cap hp' (by simp) ho
      refine ⟨.slice (some ⟨w.heap.size, 0, none⟩) b.length cap, _, e', ?_, .slcU _ _ _ _ _ _ _ he' hcap (by simp), hpost.ofDrawn⟩
      unfold convert
      rw [Sem.run_bind, run_und hs]
      simp only [Result.andThen_ok]
      rw [Sem.run_bind, run_und hd]
      simp only [Result.andThen_ok]
      rw [Sem.run_bind, run_und hel]
      simp only [Result.andThen_ok, Conv.stringToBytes]
      have hsize : (⟨b.toArray⟩ : ByteArray).size = b.length := by simp [ByteArray.size]
      rw [Sem.run_bind, hsize, hq]
      simp only [Result.andThen_ok, newRow, Sem.run_bind, run_newObj, Sem.run_pure]
      have hobj : (Obj.cells (Array.map (fun c : UInt8 => Value.int IntKind.u8 ↑c.toNat) (⟨b.toArray⟩ : ByteArray).data ++ Array.replicate (cap - b.length) (Value.int IntKind.u8 0)) el) =
          Obj.cells cells.toArray el := by
        congr 1
        apply Array.ext'
        simp [cells, elems]
      rw [hobj]
      simp only [markStringish, Sem.run_bind, run_shape]
      have hshape : (({ w with drawn := w.drawn + 1 } : World).alloc (.cells cells.toArray el)).shape? w.heap.size = some (el, cap) := by
        simp [World.shape?, World.alloc, hlen]
      have hfr : (({ w with drawn := w.drawn + 1 } : World).alloc (.cells cells.toArray el)).freeze { block := w.heap.size, off := cap } 1 =
          ({ w with drawn := w.drawn + 1 } : World).alloc (.cells cells.toArray el (cap, cap + 1)) := by
        simp only [World.freeze, World.alloc]
        simp only [Nat.one_ne_zero, if_false]
        congr 1
        apply Array.ext
        · simp
        · intro i h1 h2
          simp only [Array.getElem_modify, Array.getElem_push]
          by_cases hi : w.heap.size = i
          · subst hi; simp
          · rw [if_neg hi]
            simp at h2
            have : i < w.heap.size := by omega
            simp [this]
      change ((Sem.run P (match (({ w with drawn := w.drawn + 1 } : World).alloc (.cells cells.toArray el)).shape? w.heap.size with
        | some (_, n) => freeze { block := w.heap.size, off := n } 1
        | _ => pure ()) (({ w with drawn := w.drawn + 1 } : World).alloc (.cells cells.toArray el))).andThen _) = _
      rw [hshape]
      simp only [run_freeze, Result.andThen_ok, hfr]
      rfl
    · cases hh
  · split at hh
    · rename_i v' hv
      simp only [Option.some.injEq, Prod.mk.injEq] at hh
      obtain ⟨rfl, rfl⟩ := hh
      exact (goodP_conv hv hx).good hp
    · cases hh

theorem goodP_nilCheck {x v : AV} {cx : Value} {ρ : Operand → Value} {o : Operand} {dst : Option Tmp} {ty : TypeId} {pos : String} {af : Array Edge} {gd : Option (Nat × Bool)} (hh : nilCheckA x = some v) (hx : VR e x cx) (hr : ρ o = cx) :
    ∃ cv, (execOp ρ ⟨dst, .nilCheck o, ty, pos, af, gd⟩).run P w = .ok (.value cv) w ∧ VR e v cv := by
  unfold nilCheckA at hh
  split at hh
  all_goals first
    | (cases hh; done)
    | (simp only [Option.some.injEq] at hh; subst hh
       refine ⟨cx, ?_, hx⟩
       cases hx
       simp only [execOp, hr]
       rfl)

theorem optA_some {x : Option AV} {cx : Option Value} {d m n : Nat} (hh : optA x d m = some n) (hx : ∀ a, x = some a → ∃ c, cx = some c ∧ VR e a c) (hn : x = none → cx = none) :
    (x = none ∧ cx = none ∧ n = d) ∨ (∃ k, cx = some (.int k (n : Int)) ∧ n ≤ m) := by
  unfold optA at hh
  split at hh
  · simp only [Option.some.injEq] at hh
    exact .inl ⟨rfl, hn rfl, hh.symm⟩
  · rename_i v
    obtain ⟨c, h1, h2⟩ := hx v rfl
    obtain ⟨k, rfl, hle⟩ := atMost_some hh
    cases h2
    exact .inr ⟨k, h1, hle⟩

theorem run_bound {k : IntKind} {n y : Nat} {code : BoundsCode} (hle : n ≤ y) (w : World) : (Instr.sliceBound (.int k (n : Int)) y code).run P w = .ok n w := by
  simp [Instr.sliceBound, asIntOf, hle]

/-- The two bounds of a slice. -/
theorem run_bounds {isS : Bool} {len cap : Nat} {lo hi : Option AV} {clo chi : Option Value} {l hI : Nat} (h1 : optA hi len cap = some hI) (h2 : optA lo 0 hI = some l)
    (hhi : ∀ a, hi = some a → ∃ c, chi = some c ∧ VR e a c) (hhn : hi = none → chi = none) (hlo : ∀ a, lo = some a → ∃ c, clo = some c ∧ VR e a c) (hln : lo = none → clo = none) (w : World) :
    (Instr.sliceBounds isS len cap clo chi none).run P w = .ok (l, hI, cap) w := by
  unfold Instr.sliceBounds
  simp only [Sem.run_bind, Sem.run_pure, Result.andThen_ok]
  rcases optA_some h1 hhi hhn with ⟨_, rfl, rfl⟩ | ⟨k, rfl, hle⟩
  · rcases optA_some h2 hlo hln with ⟨_, rfl, rfl⟩ | ⟨k, rfl, hle⟩
    · simp
    · simp [run_bound hle]
  · rcases optA_some h2 hlo hln with ⟨_, rfl, rfl⟩ | ⟨k', rfl, hle'⟩
    · simp [run_bound hle]
    · simp [run_bound hle, run_bound hle']
end Go.AX
