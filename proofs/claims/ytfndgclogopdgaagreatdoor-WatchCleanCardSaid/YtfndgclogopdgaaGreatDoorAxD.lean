/- The abstract executor: what it finds of a call is so of the model's run. -/
import Derived.Test.YtfndgclogopdgaaGreatDoorAxC
import Derived.AtR
import Derived.RangeFuncRecord
import Derived.RangeFuncIn
import Derived.Defers
import Derived.RangeFuncLeaves
import Derived.Orders
import Derived.Below
import Derived.Test.YtfndgclogopdgaaGreatDoorAxA
import Derived.Lib.Bytealg
import Derived.Lib.IndexMore
import Derived.Lib.AsciiSet

/-! AX: frames. -/
namespace Go.AX

variable {G : Nat → Obj → Prop} {P : Program}

inductive IR (e : Env) : Item → Item → Prop
  | code (c : Code) : IR e (.code c) (.code c)
  | inBlock (id : Nat) : IR e (.inBlock id) (.inBlock id)
  | inScope (b : Code) : IR e (.inScope b) (.inScope b)
  | inLoop (b : Code) : IR e (.inLoop b) (.inLoop b)
  | beginRound : IR e .beginRound .beginRound
  | endRangeFunc (l b t : Nat) (h : e l = some (b, t)) : IR e (.endRangeFunc l) (.endRangeFunc b)

inductive IL (e : Env) : List Item → List Item → Prop
  | nil : IL e [] []
  | cons (x y : Item) (xs ys : List Item) (h : IR e x y) (t : IL e xs ys) : IL e (x :: xs) (y :: ys)

theorem IR.mono {e e' : Env} (hl : e.le e') {x y : Item} (h : IR e x y) : IR e' x y := by
  cases h with
  | code c => exact .code c
  | inBlock id => exact .inBlock id
  | inScope b => exact .inScope b
  | inLoop b => exact .inLoop b
  | beginRound => exact .beginRound
  | endRangeFunc l b t h => exact .endRangeFunc l b t (hl _ _ h)

theorem IL.mono {e e' : Env} (hl : e.le e') {xs ys : List Item} (h : IL e xs ys) : IL e' xs ys := by
  induction h with
  | nil => exact .nil
  | cons x y xs ys h _ ih => exact .cons x y xs ys (h.mono hl) ih

theorem IL.exitTo {e : Env} {id : Nat} {xs ys : List Item} (h : IL e xs ys) :
    (exitTo id xs = none → exitTo id ys = none) ∧ ∀ k, exitTo id xs = some k → ∃ k', exitTo id ys = some k' ∧ IL e k k' := by
  induction h with
  | nil => exact ⟨fun _ => rfl, fun k hk => by simp [Go.exitTo] at hk⟩
  | cons x y xs ys h t ih =>
    cases h with
    | inBlock id' =>
      simp only [Go.exitTo]
      by_cases hid : (id' == id) = true
      · simp only [hid, if_true]; exact ⟨fun h => by simp at h, fun k hk => by simp only [Option.some.injEq] at hk; subst hk; exact ⟨_, rfl, t⟩⟩
      · simp only [hid]; exact ih
    | _ => simp only [Go.exitTo]; exact ih

theorem IL.gotoIn {e : Env} {l : Nat} {xs ys : List Item} (h : IL e xs ys) :
    (gotoIn l xs = none → gotoIn l ys = none) ∧ ∀ k, gotoIn l xs = some k → ∃ k', gotoIn l ys = some k' ∧ IL e k k' := by
  induction h with
  | nil => exact ⟨fun _ => rfl, fun k hk => by simp [Go.gotoIn] at hk⟩
  | cons x y xs ys h t ih =>
    cases h with
    | inScope b =>
      simp only [Go.gotoIn]
      cases findLabel b l with
      | some r => exact ⟨fun h => by simp at h, fun k hk => by
          simp only [Option.some.injEq] at hk; subst hk
          exact ⟨_, rfl, .cons _ _ _ _ (.code _) (.cons _ _ _ _ (.inScope _) t)⟩⟩
      | none => exact ih
    | _ => simp only [Go.gotoIn]; exact ih

inductive DR (e : Env) : ADefer → Deferred → Prop
  | call (f : FuncId) (args : List AV) (cap a : List Value) (h : VRL e args (a ++ cap)) : DR e (.call { f := f, args := args }) { target := .fn (.func f) cap.toArray, args := a.toArray }
  | collected (id b t : Nat) (h : e id = some (b, t)) : DR e (.collected id) { target := .collected b, args := #[] }

inductive DL (e : Env) : List ADefer → List Deferred → Prop
  | nil : DL e [] []
  | cons (x : ADefer) (y : Deferred) (xs : List ADefer) (ys : List Deferred) (h : DR e x y) (t : DL e xs ys) : DL e (x :: xs) (y :: ys)

theorem DR.mono {e e' : Env} (hl : e.le e') {x : ADefer} {y : Deferred} (h : DR e x y) : DR e' x y := by
  cases h with
  | call f args cap a h => exact .call f args cap a (h.mono hl)
  | collected id b t h => exact .collected id b t (hl _ _ h)
theorem DL.mono {e e' : Env} (hl : e.le e') {xs : List ADefer} {ys : List Deferred} (h : DL e xs ys) : DL e' xs ys := by
  induction h with
  | nil => exact .nil
  | cons x y xs ys h _ ih => exact .cons x y xs ys (h.mono hl) ih

inductive RR (e : Env) : Option Nat → Option Nat → Prop
  | none : RR e none none
  | some (l b t : Nat) (h : e l = some (b, t)) : RR e (some l) (some b)
theorem RR.mono {e e' : Env} (hl : e.le e') {x y : Option Nat} (h : RR e x y) : RR e' x y := by
  cases h with
  | none => exact .none
  | some l b t h => exact .some l b t (hl _ _ h)

/-- A running frame. -/
structure FR (e : Env) (fs : FS) (tm : Tr AV) (ds : List ADefer) (b : Frame) (a : Act) : Prop where
  fn : b.fn = fs.fn
  size : a.tmps.size = fs.n
  tmps : TR e tm a.tmps
  round : RR e fs.round b.roundOf
  defers : DL e ds a.defers

theorem FR.mono {e e' : Env} {fs : FS} {tm : Tr AV} {ds : List ADefer} {b : Frame} {a : Act} (h : FR e fs tm ds b a) (hl : e.le e') : FR e' fs tm ds b a :=
  ⟨h.fn, h.size, h.tmps.mono hl, h.round.mono hl, h.defers.mono hl⟩

/-- How it was come by, and what stands above. -/
def KindOK (kind : CallKind) (round : Option Nat) (cs : List Frame) : Prop :=
  kind = .normal ∨ (kind = .deferred ∧ round = none ∧ ∃ c cs', cs = c :: cs' ∧ c.mode = .returning)

/-- The frame's end. -/
def Out (P : Program) (m : Machine) (b : Frame) (cs : List Frame) (cv : Value) (w' : World) : Prop :=
  match b.roundOf with
  | none => ∃ fr, Steps P m (lone fr cs w') ∧ fr.fn = b.fn ∧ fr.kind = b.kind ∧ fr.going P w' (.returned cv)
  | some _ => ∀ c cs', cs = c :: cs' → Steps P m (lone (c.finish cv) cs' w')

theorem Out.of_steps {m m1 : Machine} {b : Frame} {cs : List Frame} {cv : Value} {w' : World} (hs : Steps P m m1) (h : Out P m1 b cs cv w') : Out P m b cs cv w' := by
  unfold Out at *
  split at h
  · obtain ⟨fr, h1, h2⟩ := h; exact ⟨fr, hs.trans h1, h2⟩
  · exact fun c cs' hc => hs.trans (h c cs' hc)

def XfOK (G : Nat → Obj → Prop) (P : Program) (xf : FS → Tr AV → List Item → List ADefer → AH → Option (AV × AH)) : Prop :=
  ∀ fs tm todo ds h v h', xf fs tm todo ds h = some (v, h') → ∀ (e : Env) (D : Nat → Prop) (b : Frame) (a : Act) (k : List Item) (cs : List Frame) (w : World),
    FR e fs tm ds b a → IL e todo k → KindOK b.kind b.roundOf cs → Pre G e D h h' w →
    ∃ cv w' e', Out P (lone (b.atR a k) cs w) b cs cv w' ∧ VR e' v cv ∧ Post e D h h' w w' e'

def CodeOK (G : Nat → Obj → Prop) (P : Program) (code : Code → List Item → FS → Tr AV → List ADefer → AH → Option (AV × AH)) : Prop :=
  ∀ c todo fs tm ds h v h', code c todo fs tm ds h = some (v, h') → ∀ (e : Env) (D : Nat → Prop) (b : Frame) (a : Act) (k : List Item) (cs : List Frame) (w : World),
    FR e fs tm ds b a → IL e todo k → KindOK b.kind b.roundOf cs → Pre G e D h h' w →
    ∃ cv w' e', Out P (lone (b.atR a (.code c :: k)) cs w) b cs cv w' ∧ VR e' v cv ∧ Post e D h h' w w' e'

def UnwindOK (G : Nat → Obj → Prop) (P : Program) (unwind : List ADefer → FS → Tr AV → AH → Option (AV × AH)) : Prop :=
  ∀ ds fs tm h v h', unwind ds fs tm h = some (v, h') → ∀ (e : Env) (D : Nat → Prop) (fr : Frame) (cs : List Frame) (w : World),
    fr.fn = fs.fn → TR e tm fr.tmps → DL e ds fr.defers → fr.mode = .returning → Pre G e D h h' w →
    ∃ cv w' e', (∃ fr', Steps P (lone fr cs w) (lone fr' cs w') ∧ fr'.fn = fr.fn ∧ fr'.kind = fr.kind ∧ fr'.going P w' (.returned cv)) ∧ VR e' v cv ∧ Post e D h h' w w' e'

/-- A call of a function of the program. -/
def CallR (P : Program) (f : FuncId) (cargs : Array Value) (w : World) (kind : CallKind) (cs : List Frame) (cv : Value) (w' : World) : Prop :=
  (callFunc f cargs).run P w = .ok (.value cv) w' ∨
  ((callFunc f cargs).run P w = .ok (.enter f cargs) w ∧
    ∃ fr, Steps P (lone (Frame.enter P f cargs kind) cs w) (lone fr cs w') ∧ fr.fn = f ∧ fr.kind = kind ∧ fr.going P w' (.returned cv))

def CallOK (G : Nat → Obj → Prop) (P : Program) (call : FuncId → List AV → AH → Option (AV × AH)) : Prop :=
  ∀ f args h v h', call f args h = some (v, h') → ∀ (e : Env) (D : Nat → Prop) (cargs : Array Value) (cs : List Frame) (w : World),
    VRL e args cargs.toList → Pre G e D h h' w →
    ∃ cv w' e', CallR P f cargs w .normal cs cv w' ∧ VR e' v cv ∧ Post e D h h' w w' e'

/-- A deferred call. -/
def CallDOK (G : Nat → Obj → Prop) (P : Program) (call : FuncId → List AV → AH → Option (AV × AH)) : Prop :=
  ∀ f args h v h', call f args h = some (v, h') → ∀ (e : Env) (D : Nat → Prop) (cargs : Array Value) (kind : CallKind) (cs : List Frame) (w : World),
    VRL e args cargs.toList → KindOK kind none cs → Pre G e D h h' w →
    ∃ cv w' e', CallR P f cargs w kind cs cv w' ∧ VR e' v cv ∧ Post e D h h' w w' e'

structure FnsOK (G : Nat → Obj → Prop) (P : Program) (t : Fns) : Prop where
  le : FnsLe t
  xf : XfOK G P t.xf
  code : CodeOK G P t.code
  unwind : UnwindOK G P t.unwind
  call : CallOK G P t.call
  callD : CallDOK G P t.callD

/-! What the frame does with an operation's result. -/
section
variable {fr : Frame} {cs : List Frame} {s : Sem Next} {w w' : World}
theorem apply_value {v : Value} (hr : s.run P w = .ok (.value v) w') : (stepG.apply P true fr cs none s w).bare = .go { frame := fr.finish v, callers := cs, status := .running, dying := none } w' := by
  simp [stepG.apply, hr]
theorem apply_skip (hr : s.run P w = .ok .skip w') : (stepG.apply P true fr cs none s w).bare = .go { frame := fr.finish undef, callers := cs, status := .running, dying := none } w' := by
  simp [stepG.apply, hr]

theorem noRecover {ro : Option Nat} (hk : KindOK fr.kind ro cs) : tryRecover fr cs = none := by
  unfold tryRecover
  rcases hk with hk | ⟨hk, _, c, cs', rfl, hm⟩
  · rw [hk]
  · rw [hk]; simp only [hm]

theorem apply_recover {ro : Option Nat} (hrec : P.follows .rangeFuncRecover = true) (hk : KindOK fr.kind ro cs) (hr : s.run P w = .ok .recover w') :
    (stepG.apply P true fr cs none s w).bare = .go { frame := fr.finish .nilIface, callers := cs, status := .running, dying := none } w' := by
  have h0 := noRecover (fr := fr) hk
  simp only [stepG.apply, if_true, Sem.runT_eq, hr, GStep.bare_after, hrec]
  cases fr.roundOf <;> simp [h0]

/-- The frame's next item is no call that waits. -/
def plainTodo (fr : Frame) : Prop := (∃ ops l k, fr.todo = .inRegion ops l :: k) ∨ (∃ l k, fr.todo = .inRangeFunc l :: k)

theorem apply_enter {f : FuncId} {args : Array Value} (hp : plainTodo fr) (hr : s.run P w = .ok (.enter f args) w') :
    (stepG.apply P true fr cs none s w).bare = .go { frame := Frame.enter P f args .normal, callers := fr :: cs, status := .running, dying := none } w' := by
  rcases hp with ⟨ops, l, k, hk⟩ | ⟨l, k, hk⟩ <;> simp [stepG.apply, hr, hk]

theorem apply_round {l : Nat} {f : FuncId} {tmps : Array Value} {as bd : Code} (hp : plainTodo fr) (hr : s.run P w = .ok (.round l f tmps as bd) w') :
    (stepG.apply P true fr cs none s w).bare = .go { frame := Frame.round l f tmps as bd .normal, callers := fr :: cs, status := .running, dying := none } w' := by
  simp [stepG.apply, hr]
end

/-- Whatever the frame does with s is the machine's next step. -/
def Does (P : Program) (m : Machine) (fr : Frame) (cs : List Frame) (s : Sem Next) (w : World) : Prop :=
  ∀ fr' cs' w', (stepG.apply P true fr cs none s w).bare = .go { frame := fr', callers := cs', status := .running, dying := none } w' → step P m = .next (lone fr' cs' w')

theorem setAll_rel {e : Env} {n : Nat} : ∀ (ps : List Tmp) (vs : List AV) (cvs : List Value) (t t' : Tr AV) (ct : Array Value), setAll ps vs t n = some t' → VRL e vs cvs → TR e t ct → ct.size = n →
    TR e t' ((ps.zip cvs).foldl (fun tmps x => tmps.setIfInBounds x.1 x.2) ct) ∧ ((ps.zip cvs).foldl (fun tmps x => tmps.setIfInBounds x.1 x.2) ct).size = n := by
  intro ps
  induction ps with
  | nil =>
    intro vs cvs t t' ct hh hv ht hs
    cases vs with
    | nil => simp only [setAll, Option.some.injEq] at hh; subst hh; exact ⟨ht, hs⟩
    | cons => simp [setAll] at hh
  | cons p ps ih =>
    intro vs cvs t t' ct hh hv ht hs
    cases hv with
    | nil => simp [setAll] at hh
    | cons v cv vs cvs hv hvs =>
      simp only [setAll] at hh
      split at hh
      · rename_i hlt
        have hlt' : p < n := by simpa [Nat.blt_eq] using hlt
        refine ih vs cvs _ t' (ct.setIfInBounds p cv) hh hvs ?_ (by simp [hs])
        intro i u hu
        by_cases hi : i = p
        · subst hi
          rw [Tr.get_set_same] at hu
          simp only [Option.some.injEq] at hu
          subst hu
          exact ⟨cv, by rw [Array.getElem?_setIfInBounds_self]; simp [hs, hlt'], hv⟩
        · rw [Tr.get_set_ne hi] at hu
          obtain ⟨cu, h1, h2⟩ := ht i u hu
          exact ⟨cu, by rw [Array.getElem?_setIfInBounds_ne (Ne.symm hi)]; exact h1, h2⟩
      · cases hh
end Go.AX

/-! AX: calls, operations of a frame. -/
namespace Go.AX

variable {G : Nat → Obj → Prop} {P : Program} {t : Fns}

theorem round_sound (T : FnsOK G P t) {e : Env} {D : Nat → Prop} {h h' : AH} {w : World} {m : Machine} {fr : Frame} {cs : List Frame} {s : Sem Next} (hdo : Does P m fr cs s w) (hpl : plainTodo fr)
    {l bl tl : Nat} {args : List AV} {cargs : Array Value} {v : AV} (hl : e l = some (bl, tl)) (ha : VRL e args cargs.toList) (hs : s.run P w = (Instr.yield bl cargs).run P w) (hh : xround t l args h = some (v, h')) (hp : Pre G e D h h' w) :
    ∃ cv w' e', Steps P m (lone (fr.finish cv) cs w') ∧ VR e' v cv ∧ Post e D h h' w w' e' := by
  unfold xround at hh
  repeat' (first | (cases hh; done) | split at hh)
  rename_i _ r hm _ hlen _ tm hset
  have hlen' : args.length = r.params.size := Nat.eq_of_beq_eq_true hlen
  have hle := T.le.xf hh
  obtain ⟨hD, b', t', co, he, hw, hr⟩ := hp.known hm (hle.R _ (bit_rd h l))
  rw [hl] at he
  simp only [Option.some.injEq, Prod.mk.injEq] at he
  obtain ⟨rfl, rfl⟩ := he
  cases hr with
  | loop _ cl hlr =>
    have hsz : cargs.size = cl.params.size := by rw [hlr.params, ← hlen', ha.length, Array.length_toList]
    rw [run_yield hw hsz] at hs
    obtain ⟨g1, g2⟩ := setAll_rel r.params.toList args cargs.toList r.tmps tm cl.tmps hset ha hlr.tmps hlr.size
    have hfold : (cl.params.zip cargs).foldl (fun tmps x => tmps.setIfInBounds x.1 x.2) cl.tmps = (r.params.toList.zip cargs.toList).foldl (fun tmps x => tmps.setIfInBounds x.1 x.2) cl.tmps := by
      rw [← Array.foldl_toList, Array.toList_zip, hlr.params]
    have p1 := hp.next (Post.rd l hp)
    let b : Frame := { (default : Frame) with fn := r.fn, kind := .normal, roundOf := some bl }
    let a : Act := { tmps := (r.params.toList.zip cargs.toList).foldl (fun tmps x => tmps.setIfInBounds x.1 x.2) cl.tmps, defers := [] }
    have hfr : FR e { fn := r.fn, n := r.n, round := some l } tm [] b a := ⟨rfl, g2, g1, .some _ _ _ hl, .nil⟩
    obtain ⟨cv, w', e', hout, hv, hpost⟩ := T.xf _ _ _ _ _ _ _ hh e _ b a [.code r.assign, .beginRound, .code r.body] (fr :: cs) w hfr
      (.cons _ _ _ _ (.code _) (.cons _ _ _ _ .beginRound (.cons _ _ _ _ (.code _) .nil))) (.inl rfl) p1
    refine ⟨cv, w', e', ?_, hv, Post.trans hp (Post.rd l hp) hpost⟩
    have hstep := hdo _ _ _ (apply_round hpl hs)
    have hframe : Frame.round bl cl.fn ((cl.params.zip cargs).foldl (fun tmps x => tmps.setIfInBounds x.1 x.2) cl.tmps) cl.assign cl.body .normal = b.atR a [.code r.assign, .beginRound, .code r.body] := by
      rw [hfold, hlr.fn, hlr.assign, hlr.body]; rfl
    refine .head hstep ?_
    have hgo : Steps P (lone (b.atR a [.code r.assign, .beginRound, .code r.body]) (fr :: cs) w) (lone (fr.finish cv) cs w') := hout fr cs rfl
    rw [← hframe] at hgo
    exact hgo

theorem goal_sound (T : FnsOK G P t) {e : Env} {D : Nat → Prop} {h h' : AH} {w : World} {m : Machine} {fr : Frame} {cs : List Frame} {s : Sem Next} (hdo : Does P m fr cs s w) (hpl : plainTodo fr)
    {f : AV} {cf : Value} {args : List AV} {cargs : Array Value} {v : AV} (hf : VR e f cf) (ha : VRL e args cargs.toList)
    (hs : s.run P w = (do let d ← Deferred.ofValue cf cargs; invoke d.target d.args : Sem Next).run P w) (hh : xgoal t (goalOf f args) h = some (v, h')) (hp : Pre G e D h h' w) :
    ∃ cv w' e', Steps P m (lone (fr.finish cv) cs w') ∧ VR e' v cv ∧ Post e D h h' w w' e' := by
  unfold goalOf at hh
  split at hh
  · rename_i g first captured
    cases hf with
    | fn _ _ _ cfl ccl h1 h2 =>
      simp only [Deferred.ofValue, Sem.run_bind, Sem.run_pure, Result.andThen_ok, invoke] at hs
      simp only [xgoal] at hh
      obtain ⟨cv, w', e', hc, hv, hpost⟩ := T.call _ _ _ _ _ hh e D (cfl.toArray ++ cargs ++ ccl.toArray) (fr :: cs) w
        (by have := h1.append (ha.append h2); simpa [List.append_assoc] using this) hp
      refine ⟨cv, w', e', ?_, hv, hpost⟩
      rcases hc with hc | ⟨hc, fr', hst, hfn, hk, hgo⟩
      · exact .one (hdo _ _ _ (apply_value (hs.trans hc)))
      · have h3 := hdo _ _ _ (apply_enter hpl (hs.trans hc))
        obtain ⟨g1, g2, fn, g3, g4⟩ := hgo
        exact .head h3 (hst.trans (.one (step_leave_returned ⟨g1, g2, hk, fn, g3, g4⟩)))
  · rename_i id
    cases hf with
    | yield _ bl tl hl =>
      simp only [Deferred.ofValue, Sem.run_bind, Sem.run_pure, Result.andThen_ok, invoke] at hs
      simp only [xgoal] at hh
      exact round_sound T hdo hpl hl ha (by simpa using hs) hh hp
  · simp [xgoal] at hh

theorem put_rel {e : Env} {n : Nat} {tm tm' : Tr AV} {a : Act} {d : Option Tmp} {v : AV} {cv : Value} (hh : put n tm d v = some tm') (ht : TR e tm a.tmps) (hs : a.tmps.size = n) (hv : VR e v cv) :
    TR e tm' (a.put d cv).tmps ∧ (a.put d cv).tmps.size = n ∧ (a.put d cv).defers = a.defers := by
  cases d with
  | none =>
    simp only [put, oc, Option.some.injEq] at hh; subst hh
    exact ⟨ht, hs, rfl⟩
  | some d =>
    simp only [put, oc] at hh
    rcases bc_get hh with ⟨hlt, hh⟩ | ⟨_, hh⟩
    · simp only [Option.some.injEq] at hh; subst hh
      have hlt' : d < n := by simpa [Nat.blt_eq] using hlt
      refine ⟨?_, by simp [Act.put, hs], rfl⟩
      intro i u hu
      by_cases hi : i = d
      · subst hi
        rw [Tr.get_set_same] at hu
        simp only [Option.some.injEq] at hu
        subst hu
        exact ⟨cv, by simp only [Act.put]; rw [Array.getElem?_setIfInBounds_self]; simp [hs, hlt'], hv⟩
      · rw [Tr.get_set_ne hi] at hu
        obtain ⟨cu, h1, h2⟩ := ht i u hu
        exact ⟨cu, by simp only [Act.put]; rw [Array.getElem?_setIfInBounds_ne (Ne.symm hi)]; exact h1, h2⟩
    · cases hh

/-- What the frame does next, told of 'GoodN'. -/
theorem good_steps {e : Env} {D : Nat → Prop} {h h' : AH} {w : World} {m : Machine} {fr : Frame} {cs : List Frame} {s : Sem Next} (hdo : Does P m fr cs s w) {ro : Option Nat} (hrec : P.follows .rangeFuncRecover = true)
    (hk : KindOK fr.kind ro cs) {v : AV} (hg : GoodN P s e D h h' w v) : ∃ cv w' e', Steps P m (lone (fr.finish cv) cs w') ∧ VR e' v cv ∧ Post e D h h' w w' e' := by
  obtain ⟨n, cv, w', e', hr, hc, hv, hpost⟩ := hg
  refine ⟨cv, w', e', ?_, hv, hpost⟩
  cases hc with
  | value => exact .one (hdo _ _ _ (apply_value hr))
  | skip => exact .one (hdo _ _ _ (apply_skip hr))
  | recover => exact .one (hdo _ _ _ (apply_recover hrec hk hr))

theorem op_sound (T : FnsOK G P t) (hrec : P.follows .rangeFuncRecover = true) {e : Env} {D : Nat → Prop} {h h' : AH} {w : World} {m : Machine} {fr : Frame} {cs : List Frame} {o : Oper} {ρ : Operand → Value}
    (hdo : Does P m fr cs (execOp ρ o) w) (hpl : plainTodo fr) {ro : Option Nat} (hk : KindOK fr.kind ro cs) {tm : Tr AV} {v : AV} (hh : xop P t o.op tm h = some (v, h'))
    (hr : ∀ x ∈ o.op.operands.toList, VR e (ev tm x) (ρ x)) (hp : Pre G e D h h' w) :
    ∃ cv w' e', Steps P m (lone (fr.finish cv) cs w') ∧ VR e' v cv ∧ Post e D h h' w w' e' := by
  have simple : simpleA P tm o.op h = some (v, h') → ∃ cv w' e', Steps P m (lone (fr.finish cv) cs w') ∧ VR e' v cv ∧ Post e D h h' w w' e' := fun hs =>
    good_steps hdo hrec hk (good_simple hs hr hp)
  unfold xop at hh
  split at hh
  · rename_i c hop
    simp only [hop, Op.operands, Call.operands] at hr
    unfold xcallO at hh
    have hexec : execOp ρ o = (do let d ← resolve ρ c o.type; invoke d.target d.args) := by
      obtain ⟨dst, op, ty, pos, af, gd⟩ := o
      simp only at hop
      subst hop
      rfl
    rw [hexec] at hdo
    split at hh
    · rename_i b hcal
      simp only [hcal] at hr
      have hargs : VRL e (evL tm c.args.toList) (c.args.map ρ).toList := by
        rw [Array.toList_map]
        exact evL_rel' _ fun x hx => hr x (by simpa using hx)
      obtain ⟨n, cv, w', e', hrun, hc, hv, hpost⟩ := good_builtin (ts := c.argTypes) (ty := o.type) (cs := c.args.map fun | .const _ => true | _ => false) hh hargs hp
      refine good_steps hdo hrec hk ⟨n, cv, w', e', ?_, hc, hv, hpost⟩
      simp only [resolve, hcal, Sem.run_bind, Sem.run_pure, Result.andThen_ok, invoke]
      exact hrun
    · rename_i f hcal
      simp only [hcal] at hr
      have hargs : VRL e (evL tm c.args.toList) (c.args.map ρ).toList := by
        rw [Array.toList_map]
        exact evL_rel' _ fun x hx => hr x (by simp at hx ⊢; exact .inr hx)
      refine goal_sound T hdo hpl (hr f (by simp)) hargs ?_ hh hp
      simp only [resolve, hcal]
    · cases hh
  · rename_i x hop
    exact simple (by rw [hop]; exact hh)
  · rename_i x hop
    exact simple (by rw [hop]; exact hh)
  · rename_i x y hop
    exact simple (by rw [hop]; exact hh)
  · rename_i hop
    exact simple (by rw [hop]; exact hh)
  · exact simple hh

section
variable {b : Frame} {a : Act} {k : List Item} {cs : List Frame} {w : World} {ops : Array Oper}
theorem does_op {i : Nat} {rest : List Nat} {o : Oper} (ho : ops[i]? = some o) (hw : Region.wanted o (yielded ops a.tmps) = true) (hd : isDefer o.op = false) :
    Does P (lone (b.atR a (.inRegion ops (i :: rest) :: k)) cs w) (b.atR a (.inRegion ops (i :: rest) :: k)) cs (execOp a.eval o) w := by
  intro fr' cs' w' hap
  refine step_lone_go ?_
  rw [stepGR_op ho hw, Oper.semAt_eq _ _ _ (fun c hc => by rw [hc] at hd; cases hd)]
  exact hap

theorem wanted_rel {e : Env} {tm : Tr AV} {o : Oper} {want : Bool} (hh : wantedA ops tm o = some want) (ht : ∀ g j oj t, o.guard = some (g, j) → ops[g]? = some oj → oj.dst = some t → ∀ v, tm.get t = some v → ∃ cv, a.tmps[t]? = some cv ∧ VR e v cv) :
    Region.wanted o (yielded ops a.tmps) = want := by
  unfold wantedA at hh
  cases hg : o.guard with
  | none =>
    rw [hg] at hh
    simp only [oc, Option.some.injEq] at hh
    subst hh
    simp [Region.wanted, hg]
  | some gj =>
    obtain ⟨g, j⟩ := gj
    rw [hg] at hh
    simp only [oc] at hh
    split at hh
    · rename_i oj hoj
      rw [nth_eq, Array.getElem?_toList] at hoj
      split at hh
      · rename_i t hdst
        split at hh
        · rename_i b hb
          simp only [Option.some.injEq] at hh
          obtain ⟨cv, h1, h2⟩ := ht g j oj t hg hoj hdst _ hb
          cases h2
          subst hh
          simp only [Region.wanted, hg, yielded, hoj, Option.bind_some, hdst, h1]
          cases b <;> cases j <;> rfl
        · rename_i hb
          simp only [Option.some.injEq] at hh
          obtain ⟨cv, h1, h2⟩ := ht g j oj t hg hoj hdst _ hb
          cases h2 with
          | tup _ ccs hl =>
            subst hh
            simp [Region.wanted, hg, yielded, hoj, hdst, h1]
        · cases hh
      · cases hh
    · cases hh
end

/-- The operations in the text's order. -/
theorem ops_sound (T : FnsOK G P t) (hrec : P.follows .rangeFuncRecover = true) {fs : FS} {ops : Array Oper} {b : Frame} {k : List Item} {cs : List Frame} (hk : KindOK b.kind b.roundOf cs) :
    ∀ (os : List Oper) (i : Nat) (tm : Tr AV) (ds : List ADefer) (h : AH) (r : Tr AV × List ADefer × AH) (e : Env) (D : Nat → Prop) (a : Act) (w : World),
      ops.toList.drop i = os → xops P t fs ops os tm ds h = some r → FR e fs tm ds b a → Pre G e D h r.2.2 w →
      ∃ a' w' e', Steps P (lone (b.atR a (.inRegion ops (List.range' i os.length) :: k)) cs w) (lone (b.atR a' (.inRegion ops [] :: k)) cs w') ∧ FR e' fs r.1 r.2.1 b a' ∧ Post e D h r.2.2 w w' e' := by
  intro os
  induction os with
  | nil =>
    intro i tm ds h r e D a w _ hh hfr hp
    simp only [xops, Option.some.injEq] at hh
    subst hh
    exact ⟨a, w, e, .refl _ _, hfr, Post.refl hp⟩
  | cons o os ih =>
    intro i tm ds h r e D a w hdrop hh hfr hp
    have hi : ops[i]? = some o := by
      rw [← Array.getElem?_toList]
      have : (ops.toList.drop i)[0]? = some o := by rw [hdrop]; rfl
      simpa using this
    have hdrop' : ops.toList.drop (i + 1) = os := by
      rw [← List.drop_drop, hdrop]; rfl
    simp only [List.length_cons, List.range'_succ]
    simp only [xops] at hh
    obtain ⟨want, hw, hh0⟩ := oc_get hh
    clear hh
    have hwant := wanted_rel (e := e) (a := a) hw (fun g j oj t _ _ _ v hv => hfr.tmps t v hv)
    have hbind : (ops[i]?).bind (·.dst) = o.dst := by rw [hi]; rfl
    rcases bc_get hh0 with ⟨hwt, hh1⟩ | ⟨hwt, hh⟩
    · subst hwt
      rcases bc_get hh1 with ⟨hdf, hh⟩ | ⟨hdf, hh⟩
      · obtain ⟨ds', hds, hh⟩ := oc_get hh
        obtain ⟨tm', hput, hh⟩ := oc_get hh
        unfold xdefer at hds
        split at hds
        · rename_i c hop
          split at hds
          · rename_i f hro hcal
            split at hds
            · rename_i g args hgoal
              simp only [Option.some.injEq] at hds
              subst hds
              have hro' : b.roundOf = none := by
                have := hfr.round
                rw [hro] at this
                generalize b.roundOf = bro at this
                cases this; rfl
              have hargs := evL_rel (e := e) (tm := tm) (ρ := a.eval) (ev_rel hfr.tmps) c.args.toList
              have hfv := ev_rel (e := e) hfr.tmps f
              unfold goalOf at hgoal
              split at hgoal
              · rename_i gf first captured hev
                simp only [Goal.func.injEq] at hgoal
                obtain ⟨rfl, rfl⟩ := hgoal
                rw [hev] at hfv
                generalize hcf : a.eval f = cf at hfv
                cases hfv with
                | fn _ _ _ cfl ccl h1 h2 =>
                  have hexec : (execOp a.eval o).run P w = .ok (.defer { target := .fn (.func gf) ccl.toArray, args := cfl.toArray ++ c.args.map a.eval }) w := by
                    obtain ⟨dst, op, ty, pos, af, gd⟩ := o
                    simp only at hop
                    subst hop
                    simp only [execOp, resolve, hcal, hcf, Deferred.ofValue, Sem.run_bind, Sem.run_pure, Result.andThen_ok]
                  have hdr : DR e (.call { f := gf, args := first ++ (evL tm c.args.toList ++ captured) }) { target := .fn (.func gf) ccl.toArray, args := cfl.toArray ++ c.args.map a.eval } := by
                    have := DR.call (e := e) gf (first ++ (evL tm c.args.toList ++ captured)) ccl (cfl ++ c.args.toList.map a.eval) (by rw [List.append_assoc]; exact h1.append (hargs.append h2))
                    have heq : (cfl ++ c.args.toList.map a.eval).toArray = cfl.toArray ++ c.args.map a.eval := by apply Array.ext'; simp
                    rw [heq] at this
                    exact this
                  have hfr0 : FR e fs tm (.call { f := gf, args := first ++ (evL tm c.args.toList ++ captured) } :: ds) b { a with defers := { target := .fn (.func gf) ccl.toArray, args := cfl.toArray ++ c.args.map a.eval } :: a.defers } :=
                    ⟨hfr.fn, hfr.size, hfr.tmps, hfr.round, .cons _ _ _ _ hdr hfr.defers⟩
                  obtain ⟨g1, g2, g3⟩ := put_rel (cv := undef) hput hfr0.tmps hfr0.size (.tup [] [] .nil)
                  obtain ⟨a', w', e', hst, hfr', hpost⟩ := ih (i + 1) tm' _ h r e D ({ a with defers := { target := .fn (.func gf) ccl.toArray, args := cfl.toArray ++ c.args.map a.eval } :: a.defers }.put o.dst undef) w hdrop' hh
                    ⟨hfr0.fn, g2, g1, hfr0.round, by rw [g3]; exact hfr0.defers⟩ hp
                  refine ⟨a', w', e', .head ?_ hst, hfr', hpost⟩
                  refine step_lone_go ?_
                  rw [stepGR_op hi hwant]
                  have hsem : o.semAt b.roundOf a.eval = execOp a.eval o := by rw [hro']; rfl
                  rw [hsem]
                  have hfin := Frame.finish_atR b { a with defers := { target := .fn (.func gf) ccl.toArray, args := cfl.toArray ++ c.args.map a.eval } :: a.defers } ops i (List.range' (i + 1) os.length) k undef
                  rw [hbind] at hfin
                  simp only [stepG.apply, if_true, Sem.runT_eq, hexec, GStep.bare_after]
                  exact congrArg (fun fr => GStep.go { frame := fr, callers := cs, status := .running, dying := none } w) hfin
              · cases hgoal
              · cases hgoal
            · cases hds
          · cases hds
        · cases hds
      · obtain ⟨r1, hop, hh⟩ := oc_get hh
        obtain ⟨tm', hput, hh⟩ := oc_get hh
        have hle2 := mono_ops T.le hh
        have hpl : plainTodo (b.atR a (.inRegion ops (i :: List.range' (i + 1) os.length) :: k)) := .inl ⟨_, _, _, rfl⟩
        obtain ⟨cv, w1, e1, hst, hv, hpost⟩ := op_sound T hrec (does_op (cs := cs) (w := w) (b := b) (k := k) (rest := List.range' (i + 1) os.length) hi hwant hdf) hpl (ro := b.roundOf) hk hop (fun x _ => ev_rel hfr.tmps x) (hp.le hle2)
        obtain ⟨g1, g2, g3⟩ := put_rel (cv := cv) hput (hfr.tmps.mono hpost.le) hfr.size hv
        obtain ⟨a', w', e', hst2, hfr', hpost2⟩ := ih (i + 1) tm' ds r1.2 r e1 _ (a.put o.dst cv) w1 hdrop' hh
          ⟨hfr.fn, g2, g1, hfr.round.mono hpost.le, by rw [g3]; exact hfr.defers.mono hpost.le⟩ (hp.next hpost)
        refine ⟨a', w', e', ?_, hfr', Post.trans hp hpost hpost2⟩
        rw [Frame.finish_atR, hbind] at hst
        exact hst.trans hst2
    · subst hwt
      obtain ⟨tm', hput, hh⟩ := oc_get hh
      obtain ⟨g1, g2, g3⟩ := put_rel (cv := undef) hput hfr.tmps hfr.size (.tup [] [] .nil)
      obtain ⟨a', w', e', hst2, hfr', hpost2⟩ := ih (i + 1) tm' ds h r e D (a.put o.dst undef) w hdrop' hh
        ⟨hfr.fn, g2, g1, hfr.round, by rw [g3]; exact hfr.defers⟩ hp
      refine ⟨a', w', e', .head ?_ hst2, hfr', hpost2⟩
      have := stepR_op_skip (P := P) (b := b) (a := a) (k := k) (cs := cs) (w := w) (ops := ops) (i := i) (rest := List.range' (i + 1) os.length) (by simp [hi, hwant])
      rw [hbind] at this
      exact this
end Go.AX

/-! AX: frames, whole. -/
namespace Go.AX

variable {G : Nat → Obj → Prop} {P : Program} {t : Fns}

theorem load_var {ty : Nat} {a v : AV} {ca : Value} {e : Env} {D : Nat → Prop} {h h' : AH} {w : World} (hh : loadA P ty a h = some (v, h')) (ha : VR e a ca) (hp : Pre G e D h h' w) :
    ∃ ad cv, ca = .pointer (some ad) ∧ (loadVar ty ad).run P w = .ok cv w ∧ VR e v cv ∧ Post e D h h' w w e := by
  unfold loadA at hh
  repeat' (first | (cases hh; done) | split at hh)
  rename_i id off _ vs o hm _ _ g s hg hs _ x hx
  simp only [Option.some.injEq, Prod.mk.injEq] at hh
  obtain ⟨rfl, rfl⟩ := hh
  cases ha with
  | ptr _ _ b tt hb =>
    obtain ⟨hd, b', t', co, he, hw, hr⟩ := hp.known hm (bit_rd h id)
    rw [hb] at he
    simp only [Option.some.injEq, Prod.mk.injEq] at he
    obtain ⟨rfl, rfl⟩ := he
    cases hr with
    | cells _ _ cvs tail elem fr hl ho ht hf =>
      obtain ⟨cv, h1, h2⟩ := partA_loads hx hl hg hs hw
      exact ⟨_, cv, rfl, h1, h2, Post.rd id hp⟩

theorem resultsL_sound {tm : Tr AV} {ctm : Array Value} {g : ResultVar → Sem Value} (q1 : ∀ t, g (.tmp t) = pure (ctm.getD t undef)) (q2 : ∀ a t, g (.cell a t) = (do loadVar t (← asAddr (ctm.getD a undef)))) : ∀ (rs : List ResultVar) (e : Env) (D : Nat → Prop) (h h' : AH) (w : World) (vs : List AV), xresultsL P rs tm h = some (vs, h') → TR e tm ctm → Pre G e D h h' w →
    ∃ cvs, (rs.mapM g).run P w = .ok cvs w ∧ VRL e vs cvs ∧ Post e D h h' w w e := by
  intro rs
  induction rs with
  | nil =>
    intro e D h h' w vs hh ht hp
    simp only [xresultsL, Option.some.injEq, Prod.mk.injEq] at hh
    obtain ⟨rfl, rfl⟩ := hh
    exact ⟨[], by simp, .nil, Post.refl hp⟩
  | cons r rs ih =>
    intro e D h h' w vs hh ht hp
    simp only [xresultsL] at hh
    split at hh
    · rename_i v h1 hr
      split at hh
      · rename_i vs2 h2 hrs
        simp only [Option.some.injEq, Prod.mk.injEq] at hh
        obtain ⟨rfl, rfl⟩ := hh
        have hle2 : h1.Le h2 := mono_resultsL _ _ _ _ hrs
        unfold xresult1 at hr
        split at hr
        · rename_i tt
          split at hr
          · rename_i v' hv'
            simp only [Option.some.injEq, Prod.mk.injEq] at hr
            obtain ⟨rfl, rfl⟩ := hr
            obtain ⟨cv, g1, g2⟩ := ht tt _ hv'
            obtain ⟨cvs, g3, g4, g5⟩ := ih e D h h2 w vs2 hrs ht hp
            refine ⟨cv :: cvs, ?_, .cons _ _ _ _ g2 g4, g5⟩
            have hg : ctm.getD tt undef = cv := by rw [Array.getD_eq_getD_getElem?, g1]; rfl
            simp only [List.mapM_cons, q1, Sem.run_bind, Sem.run_pure, Result.andThen_ok, hg, g3]
          · cases hr
        · rename_i at' tt
          split at hr
          · rename_i x hx
            obtain ⟨cx, g1, g2⟩ := ht at' _ hx
            obtain ⟨ad, cv, rfl, g3, g4, post1⟩ := load_var hr g2 (hp.le hle2)
            obtain ⟨cvs, g5, g6, post2⟩ := ih e _ h1 h2 w vs2 hrs ht (hp.next post1)
            refine ⟨cv :: cvs, ?_, .cons _ _ _ _ g4 g6, Post.trans hp post1 post2⟩
            have hg : ctm.getD at' undef = .pointer (some ad) := by rw [Array.getD_eq_getD_getElem?, g1]; rfl
            have hga : asAddr (ctm.getD at' undef) = pure ad := by rw [hg]; rfl
            simp only [List.mapM_cons, q2, Sem.run_bind, Sem.run_pure, Result.andThen_ok, hga, g3, g5]
          · cases hr
      · cases hh
    · cases hh

def resF (ctm : Array Value) : ResultVar → Sem Value
  | .tmp t => pure (ctm.getD t undef)
  | .cell a t => do loadVar t (← asAddr (ctm.getD a undef))

theorem results_eq (fn : Func) (ctm : Array Value) : results fn ctm = (do let vs ← fn.results.mapM (resF ctm); pure (if h : vs.size = 1 then vs[0] else .tuple vs)) := by
  unfold results
  congr 1

theorem results_sound {fn : Func} {tm : Tr AV} {ctm : Array Value} {e : Env} {D : Nat → Prop} {h h' : AH} {w : World} {v : AV} (hh : xresults P fn.results.toList tm h = some (v, h')) (ht : TR e tm ctm) (hp : Pre G e D h h' w) :
    ∃ cv, (results fn ctm).run P w = .ok cv w ∧ VR e v cv ∧ Post e D h h' w w e := by
  unfold xresults at hh
  have key : ∀ vs, xresultsL P fn.results.toList tm h = some (vs, h') → ∃ cvs, VRL e vs cvs ∧ Post e D h h' w w e ∧ (results fn ctm).run P w = .ok (if h : cvs.toArray.size = 1 then cvs.toArray[0] else .tuple cvs.toArray) w := by
    intro vs hvs
    obtain ⟨cvs, h1, h2, h3⟩ := resultsL_sound (P := P) (ctm := ctm) (g := resF ctm) (fun _ => rfl) (fun _ _ => rfl) _ e D h h' w vs hvs ht hp
    refine ⟨cvs, h2, h3, ?_⟩
    rw [results_eq, Sem.run_bind, Array.mapM_eq_mapM_toList, map_eq_pure_bind, Sem.run_bind]
    rw [h1]
    simp only [Result.andThen_ok, Sem.run_pure]
  split at hh
  · rename_i v' h1 hk
    simp only [Option.some.injEq, Prod.mk.injEq] at hh
    obtain ⟨rfl, rfl⟩ := hh
    obtain ⟨cvs, g1, g2, g3⟩ := key _ hk
    cases g1 with
    | cons _ cv _ cvs hv hvs =>
      cases hvs
      exact ⟨cv, by rw [g3]; rfl, hv, g2⟩
  · rename_i vs h1 hne hk
    simp only [Option.some.injEq, Prod.mk.injEq] at hh
    obtain ⟨rfl, rfl⟩ := hh
    obtain ⟨cvs, g1, g2, g3⟩ := key _ hk
    refine ⟨_, g3, ?_, g2⟩
    rw [dif_neg]
    · exact .tup _ _ g1
    · intro hsz
      cases g1 with
      | nil => simp at hsz
      | cons a cv as cvs hv hvs =>
        cases hvs with
        | nil => exact hne _ rfl
        | cons _ _ _ _ _ _ => simp at hsz
  · cases hh

theorem LR.state' {e : Env} {l : ALoop} {cl : Loop} (h : LR e l cl) (s : LoopState) (p : Option Code) : LR e { l with state := s, pending := p } { cl with state := s, pending := p } :=
  { h with state := rfl, pending := rfl }

theorem leave_sound (T : FnsOK G P t) {jump : Option Code} {fs : FS} {tm : Tr AV} {ds : List ADefer} {e : Env} {D : Nat → Prop} {h h' : AH} {w : World} {v : AV} (hh : xleave t jump fs tm ds h = some (v, h'))
    {b : Frame} {a : Act} {cs : List Frame} {m : Machine} (hfr : FR e fs tm ds b a) (hp : Pre G e D h h' w)
    (hret : b.roundOf = none → (jump = none ∨ jump = some .ret) → ∃ todo, step P m = .next (lone { b.atR a todo with mode := .returning } cs w))
    (hround : ∀ l, b.roundOf = some l → ∀ cv w', (Instr.endRound l jump).run P w = .ok cv w' → ∀ c cs', cs = c :: cs' → step P m = .next (lone (c.finish cv) cs' w')) :
    ∃ cv w' e', Out P m b cs cv w' ∧ VR e' v cv ∧ Post e D h h' w w' e' := by
  have hrr := hfr.round
  unfold xleave at hh
  split at hh
  · rename_i l hl
    rw [hl] at hrr
    generalize hbr : b.roundOf = br at hrr
    cases hrr with
    | some _ bl tl he =>
      split at hh
      · rename_i r hm
        have key : ∀ (s : LoopState) (p : Option Code), h' = h.wr l (some (.loop { r with state := s, pending := p })) → ∃ cl, w.heap[bl]? = some (.loop cl) ∧
            Post e D h h' w (w.setBlk bl (.loop { cl with state := s, pending := p })) e := by
          intro s p hs
          subst hs
          obtain ⟨hD, b', t', co, he', hw, hr⟩ := hp.known hm (bit_wr h l _)
          rw [he] at he'
          simp only [Option.some.injEq, Prod.mk.injEq] at he'
          obtain ⟨rfl, rfl⟩ := he'
          cases hr with
          | loop _ cl hlr => exact ⟨cl, hw, Post.write hp hD hm he (.loop _ _ (hlr.state' s p))⟩
        split at hh
        · simp only [Option.some.injEq, Prod.mk.injEq] at hh
          obtain ⟨rfl, hh⟩ := hh
          obtain ⟨cl, hw, hpost⟩ := key .ready none hh.symm
          refine ⟨.bool true, _, e, ?_, .bool _, hpost⟩
          unfold Out
          rw [hbr]
          intro c cs' hc
          exact .one (hround bl hbr _ _ (run_endRound none hw) c cs' hc)
        · rename_i c0
          simp only [Option.some.injEq, Prod.mk.injEq] at hh
          obtain ⟨rfl, hh⟩ := hh
          obtain ⟨cl, hw, hpost⟩ := key .done (some c0) hh.symm
          refine ⟨.bool false, _, e, ?_, .bool _, hpost⟩
          unfold Out
          rw [hbr]
          intro c cs' hc
          exact .one (hround bl hbr _ _ (run_endRound (some c0) hw) c cs' hc)
      · cases hh
  · rename_i hl
    rw [hl] at hrr
    have hbr : b.roundOf = none := by
      generalize hbr : b.roundOf = br at hrr
      cases hrr; rfl
    have main : (jump = none ∨ jump = some .ret) → t.unwind ds fs tm h = some (v, h') → ∃ cv w' e', Out P m b cs cv w' ∧ VR e' v cv ∧ Post e D h h' w w' e' := by
      intro hj hh
      obtain ⟨todo, hst⟩ := hret hbr hj
      obtain ⟨cv, w', e', ⟨fr', g1, g2, g3, g4⟩, hv, hpost⟩ := T.unwind _ _ _ _ _ _ hh e D { b.atR a todo with mode := .returning } cs w hfr.fn hfr.tmps hfr.defers rfl hp
      refine ⟨cv, w', e', ?_, hv, hpost⟩
      unfold Out
      rw [hbr]
      exact ⟨fr', .head hst g1, g2, g3, g4⟩
    split at hh
    · exact main (.inl rfl) hh
    · exact main (.inr rfl) hh
    · cases hh

theorem step_defer_value {fr : Frame} {cs : List Frame} {w w' : World} {d : Deferred} {ds : List Deferred} {fv : Fn} {cap : Array Value} {v : Value} (hm : fr.mode = .returning) (hd : fr.defers = d :: ds) (ht : d.target = .fn fv cap)
    (hi : (invoke d.target d.args).run P w = .ok (.value v) w') : step P (lone fr cs w) = .next (lone { fr with defers := ds } cs w') := by
  obtain ⟨t, a⟩ := d
  simp only at ht hi
  subst ht
  refine step_lone_go ?_
  simp [stepG, unwind, callDeferred, hm, hd, hi]

theorem unwind_sound (T : FnsOK G P t) : UnwindOK G P (xunwind P t) := by
  intro ds fs tm h v h' hh e D fr cs w hfn htm hds hmode hp
  unfold xunwind at hh
  split at hh
  · generalize hfd : fr.defers = fd at hds
    cases hds
    split at hh
    rename_i f n r
    split at hh
    · rename_i fn hf
      obtain ⟨cv, g1, g2, g3⟩ := results_sound hh htm hp
      exact ⟨cv, w, e, ⟨fr, .refl _ _, rfl, rfl, hmode, hfd, fn, by rw [hfn]; exact hf, g1⟩, g2, g3⟩
    · cases hh
  · rename_i id ds'
    generalize hfd : fr.defers = fd at hds
    cases hds with
    | cons _ y _ ys hy hys =>
      cases hy with
      | collected _ bl tl he =>
        split at hh
        · rename_i hm
          have hle := T.le.unwind hh
          obtain ⟨hD, b', t', co, he', hw, hr⟩ := hp.known hm (hle.R _ (bit_wr h id none))
          rw [he] at he'
          simp only [Option.some.injEq, Prod.mk.injEq] at he'
          obtain ⟨rfl, rfl⟩ := he'
          cases hr
          have post1 := Post.kill (co := .deferred none) (hp.le hle) hD hm he
          have p1 := hp.next post1
          have hst := step_collected (P := P) (cs := cs) (w := w) (by rw [hmode]; intro h; cases h) hfd rfl (run_takeDeferred hw)
          obtain ⟨cv, w', e', ⟨fr', g1, g2, g3, g4⟩, hv, hpost⟩ := T.unwind _ _ _ _ _ _ hh e _ { fr with defers := ys } cs _ hfn htm hys hmode p1
          exact ⟨cv, w', e', ⟨fr', .head hst g1, g2, g3, g4⟩, hv, Post.trans hp post1 hpost⟩
        · cases hh
  · rename_i d ds'
    generalize hfd : fr.defers = fd at hds
    cases hds with
    | cons _ y _ ys hy hys =>
      cases hy with
      | call f args cap ca hl =>
        split at hh
        · rename_i v1 h1 hcall
          have hle := T.le.unwind hh
          obtain ⟨cv1, w1, e1, hc, hv1, post1⟩ := T.callD _ _ _ _ _ hcall e D (ca.toArray ++ cap.toArray) .deferred ({ fr with defers := ys } :: cs) w (by simpa using hl) (.inr ⟨rfl, rfl, _, _, rfl, hmode⟩) (hp.le hle)
          obtain ⟨cv, w', e', ⟨fr', g1, g2, g3, g4⟩, hv, hpost⟩ := T.unwind _ _ _ _ _ _ hh e1 _ { fr with defers := ys } cs w1 hfn (htm.mono post1.le) (hys.mono post1.le) hmode (hp.next post1)
          refine ⟨cv, w', e', ⟨fr', ?_, g2, g3, g4⟩, hv, Post.trans hp post1 hpost⟩
          rcases hc with hc | ⟨hc, fr1, hst, hfn1, hk1, hgo⟩
          · exact .head (step_defer_value hmode hfd rfl (by simp only [invoke]; exact hc)) g1
          · refine .head (step_defer (by rw [hmode]; intro h; cases h) hfd rfl (by simp only [invoke]; exact hc)) ?_
            refine hst.trans (.head (step_going_returned hk1 hgo) ?_)
            have : settle ({ fr with defers := ys } : Frame).mode = .returning := by
              show settle fr.mode = _
              rw [hmode]; rfl
            rw [this]
            have hsame : ({ ({ fr with defers := ys } : Frame) with mode := .returning } : Frame) = { fr with defers := ys } := by
              cases fr; simp_all
            rw [hsame]
            exact g1
        · cases hh
end Go.AX

/-! AX: code. -/
namespace Go.AX

variable {G : Nat → Obj → Prop} {P : Program} {t : Fns}

def DrawOK (G : Nat → Obj → Prop) (P : Program) (t : Fns) : Prop :=
  ∀ fs ops tm h tm' h', xdraw P t fs ops ops.toList 0 [] tm h.clean h.R h.W = some (tm', h') →
    ∀ (e : Env) (D : Nat → Prop) (b : Frame) (a : Act) (ds : List ADefer) (k : List Item) (cs : List Frame) (w : World) (id : Nat), FR e fs tm ds b a → KindOK b.kind b.roundOf cs → Pre G e D h h' w →
    ∃ a' w' e', Steps P (lone (b.atR a (.code (.region id ops true) :: k)) cs w) (lone (b.atR a' k) cs w') ∧ FR e' fs tm' ds b a' ∧ Post e D h h' w w' e'

/-- Steps that change nothing ahead of a frame's run. -/
theorem out_step {e : Env} {D : Nat → Prop} {h h' : AH} {w : World} {v : AV} {m m1 : Machine} {b : Frame} {cs : List Frame} (hs : step P m = .next m1)
    (hh : ∃ cv w' e', Out P m1 b cs cv w' ∧ VR e' v cv ∧ Post e D h h' w w' e') : ∃ cv w' e', Out P m b cs cv w' ∧ VR e' v cv ∧ Post e D h h' w w' e' :=
  let ⟨cv, w', e', h1, h2, h3⟩ := hh
  ⟨cv, w', e', .of_steps (.one hs) h1, h2, h3⟩

theorem out_steps {e e1 : Env} {D : Nat → Prop} {h h1 h' : AH} {w w1 : World} {v : AV} {m m1 : Machine} {b : Frame} {cs : List Frame} (hp : Pre G e D h h' w) (hs : Steps P m m1) (post : Post e D h h1 w w1 e1)
    (hh : Pre G e1 (fun id => D id ∨ (h.next ≤ id ∧ id < h1.next)) h1 h' w1 → ∃ cv w' e', Out P m1 b cs cv w' ∧ VR e' v cv ∧ Post e1 (fun id => D id ∨ (h.next ≤ id ∧ id < h1.next)) h1 h' w1 w' e') :
    ∃ cv w' e', Out P m b cs cv w' ∧ VR e' v cv ∧ Post e D h h' w w' e' :=
  let ⟨cv, w', e', h1, h2, h3⟩ := hh (hp.next post)
  ⟨cv, w', e', .of_steps hs h1, h2, Post.trans hp post h3⟩

theorem exitTo_round {id : Nat} {k : List Item} {b : Frame} {a : Act} {cs : List Frame} {w : World} (hx : exitTo id k = none) {l : Nat} (hb : b.roundOf = some l) (hk : b.kind = .normal) :
    ∀ cv w', (Instr.endRound l (some (.exit id))).run P w = .ok cv w' → ∀ c cs', cs = c :: cs' → step P (lone (b.atR a (.code (.exit id) :: k)) cs w) = .next (lone (c.finish cv) cs' w') := by
  intro cv w' hr c cs' hc
  subst hc
  exact stepR_round_exit hb hk hx hr

theorem kind_round {b : Frame} {cs : List Frame} {l : Nat} (hk : KindOK b.kind b.roundOf cs) (hb : b.roundOf = some l) : b.kind = .normal := by
  rcases hk with hk | ⟨_, hk, _⟩
  · exact hk
  · rw [hb] at hk; cases hk

theorem step_scope {b : Frame} {a : Act} {k : List Item} {cs : List Frame} {w : World} {c : Code} :
    step P (lone (b.atR a (.code (.scope c) :: k)) cs w) = .next (lone (b.atR a (.code c :: .inScope c :: k)) cs w) :=
  step_lone_go (by simp [stepG, stepG.exec, Frame.atR])
theorem step_inScope {b : Frame} {a : Act} {k : List Item} {cs : List Frame} {w : World} {c : Code} :
    step P (lone (b.atR a (.inScope c :: k)) cs w) = .next (lone (b.atR a k) cs w) :=
  step_lone_go (by simp [stepG, stepG.exec, Frame.atR])

/-- The machine at the head of a range over a function. -/
theorem does_range {b : Frame} {a : Act} {k : List Item} {cs : List Frame} {w w₁ : World} {g : Operand} {ps : Array Tmp} {assign body : Code} {l : Nat} {mark : List Deferred}
    (he : (Instr.enterLoop b.fn a.tmps ps assign body b.roundOf).run P w = .ok (l, mark) w₁) :
    Does P (lone (b.atR a (.code (.rangeFunc g ps assign body) :: k)) cs w) (b.atR { a with defers := mark ++ a.defers } (.inRangeFunc l :: k)) cs
      (do let d ← resolve a.eval (rangeCall g l) 0; invoke d.target d.args) w₁ := by
  intro fr' cs' w' hap
  refine step_lone_go ?_
  have hev : (b.atR { a with defers := mark ++ a.defers } (.inRangeFunc l :: k)).eval = a.eval := Frame.eval_atR b { a with defers := mark ++ a.defers } (.inRangeFunc l :: k)
  simp only [Frame.atR] at hev hap
  simp only [stepG, stepG.exec, Frame.atR, Sem.runT_eq, he, GStep.bare_after, hev]
  exact hap

theorem code_sound (T : FnsOK G P t) (hrec : P.follows .rangeFuncRecover = true) (hdraw : DrawOK G P t) : CodeOK G P (xcode P t) := by
  intro c todo fs tm ds h v h' hh e D b a k cs w hfr hk hkind hp
  unfold xcode at hh
  have leave : ∀ (j : Code), (j = .ret ∨ (∃ id, j = .exit id ∧ exitTo id k = none) ∨ (∃ l, j = .goto l ∧ gotoIn l k = none)) → xleave t (some j) fs tm ds h = some (v, h') →
      ∃ cv w' e', Out P (lone (b.atR a (.code j :: k)) cs w) b cs cv w' ∧ VR e' v cv ∧ Post e D h h' w w' e' := by
    intro j hj hl
    refine leave_sound T hl hfr hp ?_ ?_
    · intro hb hjr
      rcases hjr with hjr | hjr
      · cases hjr
      · simp only [Option.some.injEq] at hjr
        subst hjr
        exact ⟨_, stepR_ret hb⟩
    · intro l hb cv w' hr c cs' hc
      have hkn := kind_round hkind hb
      rcases hj with rfl | ⟨id, rfl, hx⟩ | ⟨id, rfl, hx⟩
      · subst hc; exact stepR_round_ret hb hkn hr
      · subst hc; exact stepR_round_exit hb hkn hx hr
      · subst hc; exact stepR_round_goto hb hkn hx hr
  cases c <;> simp only at hh
  case skip => exact out_step stepR_skip (T.xf _ _ _ _ _ _ _ hh e D b a k cs w hfr hk hkind hp)
  case label l => exact out_step stepR_label (T.xf _ _ _ _ _ _ _ hh e D b a k cs w hfr hk hkind hp)
  case seq x y => exact out_step stepR_seq (T.code _ _ _ _ _ _ _ _ hh e D b a (.code y :: k) cs w hfr (.cons _ _ _ _ (.code y) hk) hkind hp)
  case cond c x y =>
    split at hh
    · rename_i wb hev
      have hc := ev_rel (e := e) hfr.tmps c
      rw [hev] at hc
      generalize hcc : a.eval c = cc at hc
      cases hc
      refine out_step (stepR_cond hcc) ?_
      rcases bc_get hh with ⟨rfl, hh⟩ | ⟨rfl, hh⟩
      · exact T.code _ _ _ _ _ _ _ _ hh e D b a k cs w hfr hk hkind hp
      · exact T.code _ _ _ _ _ _ _ _ hh e D b a k cs w hfr hk hkind hp
    · cases hh
  case block id x => exact out_step stepR_block (T.code _ _ _ _ _ _ _ _ hh e D b a (.inBlock id :: k) cs w hfr (.cons _ _ _ _ (.inBlock id) hk) hkind hp)
  case loop x => exact out_step stepR_loop (T.code _ _ _ _ _ _ _ _ hh e D b a (.inLoop x :: k) cs w hfr (.cons _ _ _ _ (.inLoop x) hk) hkind hp)
  case scope x => exact out_step step_scope (T.code _ _ _ _ _ _ _ _ hh e D b a (.inScope x :: k) cs w hfr (.cons _ _ _ _ (.inScope x) hk) hkind hp)
  case exit id =>
    split at hh
    · rename_i k1 hx
      obtain ⟨k2, g1, g2⟩ := hk.exitTo.2 _ hx
      exact out_step (stepR_exit g1) (T.xf _ _ _ _ _ _ _ hh e D b a k2 cs w hfr g2 hkind hp)
    · rename_i hx
      exact leave _ (.inr (.inl ⟨id, rfl, hk.exitTo.1 hx⟩)) hh
  case goto l =>
    split at hh
    · rename_i k1 hx
      obtain ⟨k2, g1, g2⟩ := hk.gotoIn.2 _ hx
      exact out_step (stepR_goto g1) (T.xf _ _ _ _ _ _ _ hh e D b a k2 cs w hfr g2 hkind hp)
    · rename_i hx
      exact leave _ (.inr (.inr ⟨l, rfl, hk.gotoIn.1 hx⟩)) hh
  case ret => exact leave _ (.inl rfl) hh
  case region id ops draw =>
    rcases bc_get hh with ⟨rfl, hh⟩ | ⟨rfl, hh⟩
    · obtain ⟨r, hr, hh⟩ := oc_get hh
      obtain ⟨a', w1, e1, hst, hfr', post1⟩ := hdraw _ _ _ _ r.1 r.2 hr e D b a ds k cs w id hfr hkind (hp.le (T.le.xf hh))
      exact out_steps hp hst post1 fun p1 => T.xf _ _ _ _ _ _ _ hh e1 _ b a' k cs w1 hfr' (hk.mono post1.le) hkind p1
    · obtain ⟨r, hr, hh⟩ := oc_get hh
      obtain ⟨a', w1, e1, hst, hfr', post1⟩ := ops_sound T hrec hkind ops.toList 0 tm ds h r e D a w rfl hr hfr (hp.le (T.le.xf hh)) (k := k)
      refine out_steps hp ?_ post1 fun p1 => T.xf _ _ _ _ _ _ _ hh e1 _ b a' k cs w1 hfr' (hk.mono post1.le) hkind p1
      refine .head stepR_region ?_
      have hrange : List.range ops.size = List.range' 0 ops.toList.length := by rw [List.range_eq_range', Array.length_toList]
      rw [hrange]
      exact hst.trans (.one stepR_region_end)
  case rangeFunc g ps assign body =>
    unfold xrange at hh
    split at hh
    · cases hh
    · rename_i hro
      split at hh
      · rename_i v1 h1 hg
        have hb : b.roundOf = none := by
          have := hfr.round
          rw [hro] at this
          generalize b.roundOf = br at this
          cases this; rfl
        have hle1 := mono_goal T.le hg
        have hle2 := T.le.xf hh
        -- the two blocks
        obtain ⟨e1, he1, post1⟩ := Post.alloc .deferred (.deferred (some [])) 0 (hp.le ((AH.Le.new _ _).trans (hle1.trans hle2)) : Pre G e D h (h.new .deferred) w) (by simp) .deferred
        have p1 := hp.next post1
        let al : ALoop := { state := .ready, pending := none, fn := fs.fn, tmps := tm, n := fs.n, params := ps, assign := assign, body := body, defers := h.next }
        let cl : Loop := { state := .ready, pending := none, fn := b.fn, tmps := a.tmps, params := ps, assign := assign, body := body, defers := w.heap.size }
        have hlr : LR e1 al cl := ⟨rfl, rfl, hfr.fn, hfr.tmps.mono post1.le, hfr.size, rfl, rfl, rfl, ⟨0, he1⟩⟩
        obtain ⟨e2, he2, post2⟩ := Post.alloc (.loop al) (.loop cl) 0 (p1.le (hle1.trans hle2) : Pre G e1 _ (h.new .deferred) ((h.new .deferred).new (.loop al)) _) (by simp) (.loop _ _ hlr)
        have p2 := p1.next post2
        have henter : (Instr.enterLoop b.fn a.tmps ps assign body b.roundOf).run P w = .ok (w.heap.size + 1, [{ target := .collected w.heap.size, args := #[] }]) ((w.alloc (.deferred (some []))).alloc (.loop cl)) := by
          rw [hb]; exact run_enterLoop_outer b.fn a.tmps ps assign body
        have hdoes := does_range (P := P) (k := k) (cs := cs) (g := g) henter
        have hy : VR e2 (.yield (h.next + 1)) (.func (.yield (w.heap.size + 1)) #[] #[]) := by
          refine .yield _ _ _ (?_ : e2 (h.next + 1) = some (w.heap.size + 1, 0))
          rw [show h.next + 1 = (h.new .deferred).next by simp, he2]
          simp
        have hle02 := Env.le_trans post1.le post2.le
        obtain ⟨cv, w3, e3, hst, hv, post3⟩ := goal_sound T hdoes (.inr ⟨_, _, rfl⟩) ((ev_rel (e := e2) (hfr.tmps.mono hle02)) g) (args := [.yield (h.next + 1)]) (cargs := #[.func (.yield (w.heap.size + 1)) #[] #[]])
          (VRL.one hy) (by simp only [resolve, List.map_toArray, List.map_cons, List.map_nil, Act.eval]) hg (p2.le hle2)
        have hle13 := Env.le_trans hle02 post3.le
        have hfr' : FR e3 fs tm (.collected h.next :: ds) b { a with defers := [{ target := .collected w.heap.size, args := #[] }] ++ a.defers } :=
          ⟨hfr.fn, hfr.size, hfr.tmps.mono hle13, hfr.round.mono hle13, .cons _ _ _ _ (.collected _ _ 0 (post3.le _ _ (post2.le _ _ he1))) (hfr.defers.mono hle13)⟩
        obtain ⟨cv', w', e', hout, hv', hpost⟩ := T.xf _ _ _ _ _ _ _ hh e3 _ b { a with defers := [{ target := .collected w.heap.size, args := #[] }] ++ a.defers } (.endRangeFunc (w.heap.size + 1) :: k) cs w3 hfr'
          (.cons _ _ _ _ (.endRangeFunc _ _ 0 (post3.le _ _ (by rw [show Nat.add h.next 1 = (h.new .deferred).next by simp, he2]; simp))) (hk.mono hle13)) hkind (p2.next post3)
        refine ⟨cv', w', e', .of_steps ?_ hout, hv', Post.trans hp post1 (Post.trans p1 post2 (Post.trans p2 post3 hpost))⟩
        rw [finish_atR_inRangeFunc] at hst
        exact hst
      · cases hh
  case refuse => cases hh

theorem xf_sound (T : FnsOK G P t) : XfOK G P (xfr t) := by
  intro fs tm todo ds h v h' hh e D b a k cs w hfr hk hkind hp
  unfold xfr at hh
  split at hh
  · cases hk
    refine leave_sound T hh hfr hp (fun hb _ => ⟨_, stepR_end hb⟩) ?_
    intro l hb cv w' hr c cs' hc
    subst hc
    exact stepR_round_end hb (kind_round hkind hb) hr
  · rename_i it k0
    cases hk with
    | cons _ y _ ys hy hys =>
      cases hy with
      | inBlock id => exact out_step stepR_inBlock (T.xf _ _ _ _ _ _ _ hh e D b a ys cs w hfr hys hkind hp)
      | inScope c => exact out_step step_inScope (T.xf _ _ _ _ _ _ _ hh e D b a ys cs w hfr hys hkind hp)
      | inLoop c => exact out_step stepR_inLoop (T.code _ _ _ _ _ _ _ _ hh e D b a (.inLoop c :: ys) cs w hfr (.cons _ _ _ _ (.inLoop c) hys) hkind hp)
      | code c => exact T.code _ _ _ _ _ _ _ _ hh e D b a ys cs w hfr hys hkind hp
      | endRangeFunc l bl tl hl =>
        simp only at hh
        split at hh
        · rename_i r hm
          have hnb : r.state ≠ .busy := by
            intro hb
            rw [hb] at hh
            cases hh
          have hh' : (match r.pending with
            | some c => t.code c k0 fs tm ds (h.wr l (some (.loop { r with state := .exhausted })))
            | none => t.xf fs tm k0 ds (h.wr l (some (.loop { r with state := .exhausted })))) = some (v, h') := by
            cases hst : r.state <;> rw [hst] at hh <;> first | exact hh | exact absurd hst hnb
          have hle : (h.wr l (some (.loop { r with state := .exhausted }))).Le h' := by
            split at hh'
            · exact T.le.code hh'
            · exact T.le.xf hh'
          obtain ⟨hD, b', t', co, he', hw, hr⟩ := hp.known hm (hle.R _ (bit_wr h l _))
          rw [hl] at he'
          simp only [Option.some.injEq, Prod.mk.injEq] at he'
          obtain ⟨rfl, rfl⟩ := he'
          cases hr with
          | loop _ cl hlr =>
            have post1 := Post.write (hp.le hle) hD hm hl (.loop _ _ (show LR e { r with state := .exhausted } { cl with state := .exhausted } from { hlr with state := rfl }))
            have hst := stepR_endRangeFunc (P := P) (b := b) (a := a) (k := ys) (cs := cs) (run_endLoop hw (by rw [hlr.state]; exact hnb))
            have p1 := hp.next post1
            split at hh'
            · rename_i c hpend
              have hitems : (cl.pending.map Item.code).toList ++ ys = .code c :: ys := by rw [hlr.pending, hpend]; rfl
              rw [hitems] at hst
              exact out_steps hp (.one hst) post1 fun p1 => T.code _ _ _ _ _ _ _ _ hh' e _ b a ys cs _ hfr hys hkind p1
            · rename_i hpend
              have hitems : (cl.pending.map Item.code).toList ++ ys = ys := by rw [hlr.pending, hpend]; rfl
              rw [hitems] at hst
              exact out_steps hp (.one hst) post1 fun p1 => T.xf _ _ _ _ _ _ _ hh' e _ b a ys cs _ hfr hys hkind p1
        · cases hh
      | beginRound =>
        simp only at hh
        split at hh
        · rename_i l hro
          split at hh
          · rename_i r hm
            split at hh
            · rename_i hrs
              have hrr := hfr.round
              rw [hro] at hrr
              generalize hbr : b.roundOf = br at hrr
              cases hrr with
              | some _ bl tl hl =>
                have hle := T.le.xf hh
                obtain ⟨hD, b', t', co, he', hw, hr⟩ := hp.known hm (hle.R _ (bit_wr h l _))
                rw [hl] at he'
                simp only [Option.some.injEq, Prod.mk.injEq] at he'
                obtain ⟨rfl, rfl⟩ := he'
                cases hr with
                | loop _ cl hlr =>
                  have post1 := Post.write (hp.le hle) hD hm hl (.loop _ _ (show LR e { r with state := .busy } { cl with state := .busy } from { hlr with state := rfl }))
                  have hst := stepR_beginRound (P := P) (b := b) (a := a) (k := ys) (cs := cs) hbr (run_beginRound hw (by rw [hlr.state]; exact hrs))
                  exact out_steps hp (.one hst) post1 fun p1 => T.xf _ _ _ _ _ _ _ hh e _ b a ys cs _ hfr hys hkind p1
            · cases hh
          · cases hh
        · cases hh

/-- What stands for a function's run. -/
def HookOK (G : Nat → Obj → Prop) (P : Program) (H : FuncId → List AV → AH → Option (AV × AH)) : Prop := CallOK G P H ∧ ∀ {f args h v h'}, H f args h = some (v, h') → h.Le h'

/-- The functions with bodies are entered. -/
def EntersOK (P : Program) : Prop := ∀ f fn c, P.funcs[f]? = some fn → fn.body = some c → ∀ args w, (callFunc f args).run P w = .ok (.enter f args) w

theorem argTr_rel {e : Env} : ∀ (args : List AV) (i : Nat) (t : Tr AV) (pre cargs post : List Value), pre.length = i → VRL e args cargs → (∀ j v, t.get j = some v → ∃ cv, pre[j]? = some cv ∧ VR e v cv) →
    TR e (argTr i args t) (pre ++ cargs ++ post).toArray := by
  intro args
  induction args with
  | nil =>
    intro i t pre cargs post hi hv ht
    cases hv
    intro j v hj
    obtain ⟨cv, h1, h2⟩ := ht j v hj
    refine ⟨cv, ?_, h2⟩
    obtain ⟨hlt, _⟩ := List.getElem?_eq_some_iff.1 h1
    rw [List.getElem?_toArray, List.append_assoc, List.getElem?_append_left hlt]
    exact h1
  | cons x xs ih =>
    intro i t pre cargs post hi hv ht
    cases hv with
    | cons _ cx _ cxs hx hxs =>
      have := ih (Nat.succ i) (t.set i (some x)) (pre ++ [cx]) cxs post (by simp [hi]) hxs (by
        intro j v hj
        by_cases hji : j = i
        · subst hji
          rw [Tr.get_set_same] at hj
          simp only [Option.some.injEq] at hj
          subst hj
          refine ⟨cx, ?_, hx⟩
          rw [List.getElem?_append_right (by omega), hi]
          simp
        · rw [Tr.get_set_ne hji] at hj
          obtain ⟨cv, h1, h2⟩ := ht j v hj
          obtain ⟨hlt, _⟩ := List.getElem?_eq_some_iff.1 h1
          exact ⟨cv, by rw [List.getElem?_append_left hlt]; exact h1, h2⟩)
      simpa [argTr, List.append_assoc] using this

theorem body_sound (T : FnsOK G P t) (hent : EntersOK P) : CallDOK G P (xcall P (fun _ _ _ => none) t) := by
  intro f args h v h' hh e D cargs kind cs w ha hkind hp
  unfold xcall at hh
  split at hh
  · rename_i hr; cases hr
  · split at hh
    · rename_i fn hf
      split at hh
      · rename_i c hc
        let b : Frame := { (default : Frame) with fn := f, kind := kind, roundOf := none }
        let a : Act := { tmps := cargs ++ Array.replicate (fn.ntmps - cargs.size) undef, defers := [] }
        have hsz : cargs.size = args.length := by rw [ha.length, Array.length_toList]
        have htr : TR e (argTr 0 args (emptyT (Nat.log2 (max args.length fn.ntmps) + 1))) a.tmps := by
          have := argTr_rel args 0 (emptyT (Nat.log2 (max args.length fn.ntmps) + 1)) [] cargs.toList (List.replicate (fn.ntmps - cargs.size) undef) rfl ha (fun j v hj => by rw [emptyT_get] at hj; cases hj)
          have heq : ([] ++ cargs.toList ++ List.replicate (fn.ntmps - cargs.size) undef).toArray = a.tmps := by apply Array.ext'; simp [a]
          rw [heq] at this
          exact this
        have hfr : FR e { fn := f, n := max args.length fn.ntmps, round := none } (argTr 0 args (emptyT (Nat.log2 (max args.length fn.ntmps) + 1))) [] b a :=
          ⟨rfl, by simp [a, hsz]; omega, htr, .none, .nil⟩
        obtain ⟨cv, w', e', hout, hv, hpost⟩ := T.code _ _ _ _ _ _ _ _ hh e D b a [] cs w hfr .nil hkind hp
        refine ⟨cv, w', e', .inr ⟨hent f fn c hf hc cargs w, ?_⟩, hv, hpost⟩
        have hframe : Frame.enter P f cargs kind = b.atR a [.code c] := by simp [Frame.enter, Frame.atR, hf, hc, b, a]
        rw [hframe]
        exact hout
      · cases hh
    · cases hh

theorem call_sound {H : FuncId → List AV → AH → Option (AV × AH)} (T : FnsOK G P t) (hH : HookOK G P H) (hent : EntersOK P) : CallOK G P (xcall P H t) := by
  intro f args h v h' hh e D cargs cs w ha hp
  by_cases hr : ∃ r, H f args h = some r
  · obtain ⟨r, hr⟩ := hr
    unfold xcall at hh
    rw [hr] at hh
    simp only [Option.some.injEq] at hh
    subst hh
    exact hH.1 _ _ _ _ _ hr e D cargs cs w ha hp
  · have hn : H f args h = none := by
      cases hx : H f args h with
      | none => rfl
      | some r => exact absurd ⟨r, hx⟩ hr
    have : xcall P H t f args h = xcall P (fun _ _ _ => none) t f args h := by unfold xcall; rw [hn]
    rw [this] at hh
    exact body_sound T hent _ _ _ _ _ hh e D cargs .normal cs w ha (.inl rfl) hp
end Go.AX

/-! AX: regions that draw: the text's order taken apart. -/
namespace Go.AX

variable {P : Program} {t : Fns}

structure Stp where
  o : Oper
  bf : Nat
  want : Bool
  h : AH
  r : AV × AH
  tm : Tr AV
  tm' : Tr AV

def Stp.wr (s : Stp) (x : Nat) : Prop := s.r.2.W.testBit x = true ∨ (s.h.next ≤ x ∧ x < s.r.2.next)
def Stp.rd (s : Stp) (x : Nat) : Prop := s.r.2.R.testBit x = true
def Stp.tw (s : Stp) (y : Nat) : Prop := s.o.dst = some y
def Stp.tr (ops : Array Oper) (s : Stp) (y : Nat) : Prop := Operand.tmp y ∈ s.o.op.operands.toList ∨ ∃ g j oj, s.o.guard = some (g, j) ∧ ops[g]? = some oj ∧ oj.dst = some y
def Stp.new (s : Stp) (x : Nat) : Prop := s.h.next ≤ x ∧ x < s.r.2.next
noncomputable def Stp.foot (P : Program) (ops : Array Oper) (s : Stp) : Foot := footOf P ops s.o s.bf s.h s.r.2

/-- The two do not meet. -/
structure Sep (ops : Array Oper) (a b : Stp) : Prop where
  m1 : ∀ x, a.wr x → ¬ b.rd x
  m2 : ∀ x, a.wr x → ¬ b.wr x
  m3 : ∀ x, b.wr x → ¬ a.rd x
  t1 : ∀ y, a.tw y → ¬ b.tr ops y
  t2 : ∀ y, a.tw y → ¬ b.tw y
  t3 : ∀ y, b.tw y → ¬ a.tr ops y

inductive Ch (P : Program) (t : Fns) (n : Nat) (ops : Array Oper) : List Oper → Nat → List Foot → Tr AV → AH → List Stp → Tr AV → AH → Prop
  | nil (i : Nat) (feet : List Foot) (tm : Tr AV) (h : AH) : Ch P t n ops [] i feet tm h [] tm h
  | cons (os : List Oper) (i : Nat) (feet : List Foot) (s : Stp) (L : List Stp) (tmE : Tr AV) (hE : AH) (hb : beforeOf feet i s.o = some s.bf) (hd : isDefer s.o.op = false)
      (hw : wantedA ops s.tm s.o = some s.want) (hop : s.want = true → xop P t s.o.op s.tm s.h = some s.r) (hno : s.want = false → s.r = (.tup [], s.h))
      (hap : apartAll (s.foot P ops) i feet = true) (hput : put n s.tm s.o.dst s.r.1 = some s.tm') (hc : s.h.R = 0 ∧ s.h.W = 0)
      (tl : Ch P t n ops os (i + 1) (s.foot P ops :: feet) s.tm' s.r.2.clean L tmE hE) : Ch P t n ops (s.o :: os) i feet s.tm s.h (s :: L) tmE hE

theorem draw_ch {fs : FS} {ops : Array Oper} : ∀ {os : List Oper} {i : Nat} {feet : List Foot} {tm : Tr AV} {h : AH} {R W : Nat} {r : Tr AV × AH}, xdraw P t fs ops os i feet tm h R W = some r → h.R = 0 ∧ h.W = 0 →
    ∃ L hE, Ch P t fs.n ops os i feet tm h L r.1 hE ∧ r.2.mem = hE.mem ∧ r.2.next = hE.next ∧ (∀ x, r.2.R.testBit x = true ↔ R.testBit x = true ∨ ∃ s ∈ L, s.r.2.R.testBit x = true) ∧
      (∀ x, r.2.W.testBit x = true ↔ W.testBit x = true ∨ ∃ s ∈ L, s.r.2.W.testBit x = true)
  | [], i, feet, tm, h, R, W, r, hh, hc => by
    simp only [xdraw, Option.some.injEq] at hh
    subst hh
    exact ⟨[], h, .nil _ _ _ _, by simp, by simp, by simp, by simp⟩
  | o :: os, i, feet, tm, h, R, W, r, hh, hc => by
    simp only [xdraw] at hh
    obtain ⟨bf, hb, hh⟩ := oc_get hh
    rcases bc_get hh with ⟨_, hh⟩ | ⟨hd, hh⟩
    · cases hh
    · obtain ⟨r1, h1, hh⟩ := oc_get hh
      obtain ⟨want, hw, h1⟩ := oc_get h1
      rcases bc_get hh with ⟨hap, hh⟩ | ⟨_, hh⟩
      · obtain ⟨tm', hput, hh⟩ := oc_get hh
        obtain ⟨L, hE, c1, c2, c3, c4, c5⟩ := draw_ch hh (by simp)
        refine ⟨⟨o, bf, want, h, r1, tm, tm'⟩ :: L, hE, ?_, c2, c3, fun x => ?_, fun x => ?_⟩
        · refine Ch.cons os i feet ⟨o, bf, want, h, r1, tm, tm'⟩ L r.1 hE hb hd hw ?_ ?_ hap hput hc c1
          · intro hwt
            simp only at hwt
            subst hwt
            exact h1
          · intro hwt
            simp only at hwt
            subst hwt
            simp only [bc, Option.some.injEq] at h1
            exact h1.symm
        · rw [c4]
          have : (Nat.lor R r1.2.R).testBit x = (R.testBit x || r1.2.R.testBit x) := Nat.testBit_or ..
          rw [this]
          simp [or_assoc]
        · rw [c5]
          have : (Nat.lor W r1.2.W).testBit x = (W.testBit x || r1.2.W.testBit x) := Nat.testBit_or ..
          rw [this]
          simp [or_assoc]
      · cases hh

/-! Feet -/
theorem land_zero {a b : Nat} (h : Nat.beq (Nat.land a b) 0 = true) (x : Nat) (ha : a.testBit x = true) (hb : b.testBit x = true) : False := by
  have h0 : a &&& b = 0 := Nat.eq_of_beq_eq_true h
  have : (a &&& b).testBit x = true := by rw [Nat.testBit_and, ha, hb]; rfl
  rw [h0] at this
  simp at this

theorem bit_range {a b x : Nat} (h1 : a ≤ x) (h2 : x < b) : (range1 a b).testBit x = true := by
  unfold range1
  show (((1 <<< b) - (1 <<< a)).testBit x) = true
  rw [Nat.one_shiftLeft, Nat.one_shiftLeft]
  obtain ⟨d, rfl⟩ : ∃ d, b = a + d := ⟨b - a, by omega⟩
  have : 2 ^ (a + d) - 2 ^ a = (2 ^ d - 1) * 2 ^ a := by rw [Nat.sub_mul, ← Nat.pow_add, Nat.one_mul, Nat.add_comm d a]
  rw [this, Nat.testBit_mul_two_pow]
  simp only [decide_eq_true h1, Bool.true_and]
  rw [Nat.testBit_two_pow_sub_one]
  simp; omega

theorem quiet_pure {x : Option AV} {h : AH} {r : AV × AH} (hh : pureOk x h = some r) : r.2.W = h.W ∧ r.2.next = h.next := by
  unfold pureOk at hh
  split at hh
  · simp only [Option.some.injEq] at hh; subst hh; exact ⟨rfl, rfl⟩
  · cases hh
theorem quiet_load {ty : TypeId} {a : AV} {h : AH} {r : AV × AH} (hh : loadA P ty a h = some r) : r.2.W = h.W ∧ r.2.next = h.next := by
  unfold loadA at hh
  repeat' (first | (cases hh; done) | split at hh)
  simp only [Option.some.injEq] at hh; subst hh; exact ⟨by simp, by simp⟩
theorem quiet_lookup {ty : TypeId} {m k : AV} {ok : Bool} {h : AH} {r : AV × AH} (hh : lookupA P ty m k ok h = some r) : r.2.W = h.W ∧ r.2.next = h.next := by
  unfold lookupA at hh
  repeat' (first | (cases hh; done) | split at hh)
  all_goals (simp only [Option.some.injEq] at hh; subst hh; exact ⟨by simp, by simp⟩)
theorem quiet_len {ty : TypeId} {x : AV} {h : AH} {r : AV × AH} (hh : lenA P ty x h = some r) : r.2.W = h.W ∧ r.2.next = h.next := by
  unfold lenA at hh
  repeat' (first | (cases hh; done) | split at hh)
  all_goals (simp only [Option.some.injEq] at hh; subst hh; exact ⟨by simp, by simp⟩)
theorem quiet_conv {s d : TypeId} {x : AV} {h : AH} {r : AV × AH} (hq : (match P.underlying s with | some .string => false | some _ => true | none => false) = true) (hh : convHA P s d x h = some r) : r.2.W = h.W ∧ r.2.next = h.next := by
  unfold convHA at hh
  split at hh
  · rename_i h1 _; rw [h1] at hq; cases hq
  · split at hh
    · simp only [Option.some.injEq] at hh; subst hh; exact ⟨rfl, rfl⟩
    · cases hh
theorem quiet_simple {o : Op} {tm : Tr AV} {h : AH} {r : AV × AH} (hq : quietOp P o = true) (hh : simpleA P tm o h = some r) : r.2.W = h.W ∧ r.2.next = h.next := by
  cases o <;> simp only [quietOp, Bool.false_eq_true] at hq <;> simp only [simpleA] at hh
  case move => simp only [Option.some.injEq] at hh; subst hh; exact ⟨rfl, rfl⟩
  case assign => simp only [Option.some.injEq] at hh; subst hh; exact ⟨rfl, rfl⟩
  case load => exact quiet_load hh
  case lookup => exact quiet_lookup hh
  case convert => exact quiet_conv hq hh
  case pick => (repeat' (first | (cases hh; done) | split at hh)) <;> (simp only [Option.some.injEq] at hh; subst hh; exact ⟨rfl, rfl⟩)
  case makeInterface => (repeat' (first | (cases hh; done) | split at hh)) <;> (simp only [Option.some.injEq] at hh; subst hh; exact ⟨rfl, rfl⟩)
  case slice ty x lo hi mx =>
    cases mx with
    | none => exact quiet_pure hh
    | some _ => cases hh
  all_goals first | exact quiet_pure hh | cases hh
theorem quiet_op {t : Fns} {o : Op} {tm : Tr AV} {h : AH} {r : AV × AH} (hq : quietOp P o = true) (hh : xop P t o tm h = some r) : r.2.W = h.W ∧ r.2.next = h.next := by
  unfold xop at hh
  split at hh
  · rename_i c
    simp only [quietOp] at hq
    unfold xcallO at hh
    split at hh
    · rename_i b hb
      rw [hb] at hq
      unfold builtinA at hh
      split at hh <;> first
        | exact quiet_len hh
        | exact quiet_pure hh
        | (simp at hq; done)
        | cases hh
    · rename_i hb; rw [hb] at hq; simp at hq
    · rename_i hb; rw [hb] at hq; simp at hq
  · simp only [Option.some.injEq] at hh; subst hh; exact ⟨rfl, rfl⟩
  · simp only [Option.some.injEq] at hh; subst hh; exact ⟨rfl, rfl⟩
  · exact quiet_load hh
  · exact quiet_pure hh
  · exact quiet_simple hq hh

theorem mw_bit {ops : Array Oper} {s : Stp} {x : Nat} (hq : quietOp P s.o.op = true → ∀ x, ¬ s.wr x) (h : s.wr x) : (s.foot P ops).mw.testBit x = true := by
  have hnq : quietOp P s.o.op = false := by
    cases hb : quietOp P s.o.op with
    | false => rfl
    | true => exact absurd h (hq hb x)
  show (bc (quietOp P s.o.op) 0 (Nat.lor s.r.2.W (range1 s.h.next s.r.2.next))).testBit x = true
  rw [hnq]
  show (s.r.2.W ||| range1 s.h.next s.r.2.next).testBit x = true
  rw [Nat.testBit_or]
  rcases h with h | ⟨h1, h2⟩
  · rw [h]; rfl
  · rw [bit_range h1 h2, Bool.or_true]

theorem obits_bit {y : Nat} : ∀ {xs : List Operand}, Operand.tmp y ∈ xs → (obits xs).testBit y = true
  | x :: xs, h => by
    show (obit x ||| obits xs).testBit y = true
    rw [Nat.testBit_or]
    rcases List.mem_cons.1 h with rfl | h
    · simp [obit, Nat.one_shiftLeft]
    · rw [obits_bit h, Bool.or_true]

theorem tr_bit {ops : Array Oper} {s : Stp} {y : Nat} (h : s.tr ops y) : (s.foot P ops).tr.testBit y = true := by
  show (obits s.o.op.operands.toList ||| gbit ops s.o).testBit y = true
  rw [Nat.testBit_or]
  rcases h with h | ⟨g, j, oj, h1, h2, h3⟩
  · rw [obits_bit h]; rfl
  · have : (gbit ops s.o).testBit y = true := by
      unfold gbit
      rw [h1]
      simp only [nth_eq, Array.getElem?_toList, h2, h3, tbit]
      simp [Nat.one_shiftLeft]
    rw [this, Bool.or_true]

theorem tw_bit {ops : Array Oper} {s : Stp} {y : Nat} (h : s.tw y) : (s.foot P ops).tw.testBit y = true := by
  show (tbit s.o.dst).testBit y = true
  rw [show s.o.dst = some y from h]
  simp [tbit, Nat.one_shiftLeft]

theorem land_zeroZ {a b : Nat} (h : landZ a b = true) (x : Nat) (ha : a.testBit x = true) (hb : b.testBit x = true) : False := by
  unfold landZ at h
  cases h0 : Nat.beq a 0 with
  | true =>
    have := Nat.eq_of_beq_eq_true h0
    subst this
    simp at ha
  | false =>
    rw [h0] at h
    exact land_zero h x ha hb

theorem sep_of {ops : Array Oper} {a b : Stp} (qa : quietOp P a.o.op = true → ∀ x, ¬ a.wr x) (qb : quietOp P b.o.op = true → ∀ x, ¬ b.wr x) (h : clash (a.foot P ops) (b.foot P ops) = false) : Sep ops a b := by
  unfold clash at h
  simp only [Bool.not_eq_false', Bool.and_eq_true] at h
  obtain ⟨⟨⟨h1, h2⟩, h3⟩, h4⟩ := h
  have or1 : ∀ {p q x : Nat}, p.testBit x = true → (Nat.lor p q).testBit x = true := fun {p q x} h => by
    show (p ||| q).testBit x = true
    rw [Nat.testBit_or, h]; rfl
  have or2 : ∀ {p q x : Nat}, q.testBit x = true → (Nat.lor p q).testBit x = true := fun {p q x} h => by
    show (p ||| q).testBit x = true
    rw [Nat.testBit_or, h, Bool.or_true]
  exact {
    m1 := fun x ha hb => land_zeroZ h3 x (mw_bit qa ha) (or1 hb)
    m2 := fun x ha hb => land_zeroZ h3 x (mw_bit qa ha) (or2 (mw_bit qb hb))
    m3 := fun x hb ha => land_zeroZ h4 x (mw_bit qb hb) ha
    t1 := fun y ha hb => land_zero h1 y (tw_bit ha) (or1 (tr_bit hb))
    t2 := fun y ha hb => land_zero h1 y (tw_bit ha) (or2 (tw_bit hb))
    t3 := fun y hb ha => land_zero h2 y (tw_bit hb) (tr_bit ha) }

theorem apartAll_get {f : Foot} : ∀ (i : Nat) (feet : List Foot), apartAll f i feet = true → feet.length = i → ∀ j g, j < i → feet.reverse[j]? = some g → f.before.testBit j = true ∨ clash g f = false
  | _, [], _, hl, j, g, hj, hg => by simp at hg
  | 0, _ :: _, h, hl, j, g, hj, hg => by simp at hl
  | i + 1, g0 :: gs, h, hl, j, g, hj, hg => by
    simp only [List.length_cons, Nat.add_right_cancel_iff] at hl
    have rest : apartAll f i gs = true → f.before.testBit j = true ∨ clash g f = false ∨ j = i := fun hr => by
      by_cases hji : j = i
      · exact .inr (.inr hji)
      · rcases apartAll_get i gs hr hl j g (by omega) (by
          rw [List.reverse_cons, List.getElem?_append_left (by simp; omega)] at hg
          exact hg) with h1 | h1
        · exact .inl h1
        · exact .inr (.inl h1)
    have hlast : j = i → g = g0 := fun hji => by
      subst hji
      rw [List.reverse_cons, List.getElem?_append_right (by simp; omega)] at hg
      simp [hl] at hg
      exact hg.symm
    simp only [apartAll] at h
    split at h
    · rename_i hb
      rcases rest h with h1 | h1 | h1
      · exact .inl h1
      · exact .inr h1
      · refine .inl ?_
        subst h1
        have := Nat.eq_of_beq_eq_true hb
        show (f.before.testBit j) = true
        rw [Nat.testBit, bne_iff_ne]
        have h2 : 1 &&& f.before >>> j = f.before >>> j &&& 1 := Nat.and_comm _ _
        rw [h2]
        have h3 : f.before >>> j &&& 1 = 1 := this
        rw [h3]; decide
    · split at h
      · cases h
      · rename_i hc
        rcases rest h with h1 | h1 | h1
        · exact .inl h1
        · exact .inr h1
        · exact .inr (by rw [hlast h1]; exact hc)

theorem before_nth : ∀ (fs : List Foot) (c i : Nat) (f : Foot), fs.length = c → beforeOf.nth fs c i = some f → i < c ∧ fs.reverse[i]? = some f
  | [], c, i, f, hl, h => by simp [beforeOf.nth] at h
  | g :: fs, c, i, f, hl, h => by
    simp only [List.length_cons] at hl
    simp only [beforeOf.nth] at h
    split at h
    · rename_i hb
      have := Nat.eq_of_beq_eq_true hb
      simp only [Option.some.injEq] at h
      subst h
      refine ⟨by omega, ?_⟩
      rw [List.reverse_cons, List.getElem?_append_right (by simp; omega)]
      have : i - fs.reverse.length = 0 := by simp; omega
      rw [this]; rfl
    · obtain ⟨h1, h2⟩ := before_nth fs (Nat.sub c 1) i f (by simp; omega) h
      simp only [Nat.sub_eq] at h1
      refine ⟨by omega, ?_⟩
      rw [List.reverse_cons, List.getElem?_append_left (by simp; omega)]
      exact h2

theorem before_go {feet : List Foot} {c : Nat} (hl : feet.length = c) : ∀ (es : List Edge) (acc bf : Nat), beforeOf.go feet c es acc = some bf →
    (∀ e ∈ es, Region.binds .any e = true → e.on < c) ∧ ∀ i, bf.testBit i = true → acc.testBit i = true ∨ ∃ e ∈ es, Region.binds .any e = true ∧ (i = e.on ∨ ∃ f, feet.reverse[e.on]? = some f ∧ f.before.testBit i = true)
  | [], acc, bf, h => by
    simp only [beforeOf.go, Option.some.injEq] at h
    subst h
    exact ⟨by simp, fun i hi => .inl hi⟩
  | e :: es, acc, bf, h => by
    simp only [beforeOf.go] at h
    split at h
    · rename_i hb
      obtain ⟨h1, h2⟩ := before_go hl es acc bf h
      refine ⟨fun e' he hb' => ?_, fun i hi => ?_⟩
      · rcases List.mem_cons.1 he with rfl | he
        · rw [hb] at hb'; cases hb'
        · exact h1 e' he hb'
      · rcases h2 i hi with h3 | ⟨e', he, h3⟩
        · exact .inl h3
        · exact .inr ⟨e', List.mem_cons_of_mem _ he, h3⟩
    · rename_i hb
      split at h
      · rename_i f hf
        obtain ⟨h1, h2⟩ := before_go hl es _ bf h
        obtain ⟨g1, g2⟩ := before_nth feet c e.on f hl hf
        refine ⟨fun e' he hb' => ?_, fun i hi => ?_⟩
        · rcases List.mem_cons.1 he with rfl | he
          · exact g1
          · exact h1 e' he hb'
        · rcases h2 i hi with h3 | ⟨e', he, h3⟩
          · have h4 : (acc ||| (1 <<< e.on) ||| f.before).testBit i = true := h3
            rw [Nat.testBit_or, Nat.testBit_or, Nat.one_shiftLeft, Nat.testBit_two_pow] at h4
            simp only [Bool.or_eq_true, decide_eq_true_eq] at h4
            rcases h4 with (h4 | h4) | h4
            · exact .inl h4
            · exact .inr ⟨e, by simp, hb, .inl h4.symm⟩
            · exact .inr ⟨e, by simp, hb, .inr ⟨f, g2, h4⟩⟩
          · exact .inr ⟨e', List.mem_cons_of_mem _ he, h3⟩
      · cases h
end Go.AX

/-! AX: regions that draw: what the text's order tells. -/
namespace Go.AX

variable {P : Program} {t : Fns} {n : Nat} {ops : Array Oper}

/-- What one step of the text's order is. -/
structure At (P : Program) (t : Fns) (n : Nat) (ops : Array Oper) (L : List Stp) (k : Nat) (s : Stp) : Prop where
  op : ops[k]? = some s.o
  hb : beforeOf ((L.take k).map (·.foot P ops)).reverse k s.o = some s.bf
  hd : isDefer s.o.op = false
  hw : wantedA ops s.tm s.o = some s.want
  hop : s.want = true → xop P t s.o.op s.tm s.h = some s.r
  hno : s.want = false → s.r = (.tup [], s.h)
  hap : apartAll (s.foot P ops) k ((L.take k).map (·.foot P ops)).reverse = true
  hput : put n s.tm s.o.dst s.r.1 = some s.tm'
  hc : s.h.R = 0 ∧ s.h.W = 0

theorem Ch.at' {os : List Oper} {i : Nat} {feet : List Foot} {tm tmE : Tr AV} {h hE : AH} {L : List Stp} (c : Ch P t n ops os i feet tm h L tmE hE) :
    ∀ k s, L[k]? = some s → os[k]? = some s.o ∧ beforeOf (((L.take k).map (·.foot P ops)).reverse ++ feet) (i + k) s.o = some s.bf ∧ apartAll (s.foot P ops) (i + k) (((L.take k).map (·.foot P ops)).reverse ++ feet) = true ∧
      isDefer s.o.op = false ∧ wantedA ops s.tm s.o = some s.want ∧ (s.want = true → xop P t s.o.op s.tm s.h = some s.r) ∧ (s.want = false → s.r = (.tup [], s.h)) ∧ put n s.tm s.o.dst s.r.1 = some s.tm' ∧ (s.h.R = 0 ∧ s.h.W = 0) := by
  induction c with
  | nil => intro k s hk; simp at hk
  | cons os i feet s0 L tmE hE hb hd hw hop hno hap hput hc tl ih =>
    intro k s hk
    cases k with
    | zero =>
      simp only [List.getElem?_cons_zero, Option.some.injEq] at hk
      subst hk
      exact ⟨rfl, by simpa using hb, by simpa using hap, hd, hw, hop, hno, hput, hc⟩
    | succ k =>
      simp only [List.getElem?_cons_succ] at hk
      obtain ⟨h1, h2, h3, h4⟩ := ih k s hk
      refine ⟨by simpa using h1, ?_, ?_, h4⟩
      · rw [Nat.add_assoc, Nat.add_comm 1 k] at h2
        simpa [List.append_assoc] using h2
      · rw [Nat.add_assoc, Nat.add_comm 1 k] at h3
        simpa [List.append_assoc] using h3

theorem Ch.at {tm tmE : Tr AV} {h hE : AH} {L : List Stp} (c : Ch P t n ops ops.toList 0 [] tm h L tmE hE) (k : Nat) (s : Stp) (hk : L[k]? = some s) : At P t n ops L k s := by
  obtain ⟨h1, h2, h3, h4, h5, h6, h7, h8, h9⟩ := c.at' k s hk
  exact { op := by simpa using h1, hb := by simpa using h2, hd := h4, hw := h5, hop := h6, hno := h7, hap := by simpa using h3, hc := h9, hput := h8 }

theorem Ch.length {os : List Oper} {i : Nat} {feet : List Foot} {tm tmE : Tr AV} {h hE : AH} {L : List Stp} (c : Ch P t n ops os i feet tm h L tmE hE) : L.length = os.length := by
  induction c with
  | nil => rfl
  | cons os i feet s0 L tmE hE hb hd hw hop hno hap hput hc tl ih => simp [ih]

theorem foots_get {L : List Stp} {k j : Nat} {s : Stp} (hj : j < k) (hs : L[j]? = some s) : ((L.take k).map (·.foot P ops))[j]? = some (s.foot P ops) := by
  rw [List.getElem?_map, List.getElem?_take, if_pos hj, hs]; rfl

/-- Two that no edge orders do not meet. -/
theorem At.quiet {L : List Stp} {k : Nat} {s : Stp} (A : At P t n ops L k s) (hq : quietOp P s.o.op = true) (x : Nat) : ¬ s.wr x := by
  have h2 : s.r.2.W = s.h.W ∧ s.r.2.next = s.h.next := by
    cases hw : s.want with
    | true => exact quiet_op hq (A.hop hw)
    | false => rw [A.hno hw]; exact ⟨rfl, rfl⟩
  rintro (h | ⟨h1, h3⟩)
  · rw [h2.1, A.hc.2] at h; simp at h
  · rw [h2.2] at h3; omega

theorem At.sep {L : List Stp} {k j : Nat} {s sj : Stp} (A : At P t n ops L k s) (Aj : At P t n ops L j sj) (hk : L[k]? = some s) (hj : j < k) (hsj : L[j]? = some sj) : s.bf.testBit j = true ∨ Sep ops sj s := by
  have hlen : k ≤ L.length := by
    obtain ⟨h, _⟩ := List.getElem?_eq_some_iff.1 hk; omega
  rcases apartAll_get k _ A.hap (by simp; omega) j (sj.foot P ops) hj (by rw [List.reverse_reverse]; exact foots_get hj hsj) with h | h
  · exact .inl h
  · exact .inr (sep_of Aj.quiet A.quiet h)

theorem At.before {L : List Stp} {k : Nat} {s : Stp} (A : At P t n ops L k s) (hk : L[k]? = some s) :
    (∀ e ∈ s.o.after.toList, Region.binds .any e = true → e.on < k) ∧
    ∀ i, s.bf.testBit i = true → ∃ e ∈ s.o.after.toList, Region.binds .any e = true ∧ (i = e.on ∨ ∃ se, L[e.on]? = some se ∧ se.bf.testBit i = true) := by
  have hlen : k ≤ L.length := by
    obtain ⟨h, _⟩ := List.getElem?_eq_some_iff.1 hk; omega
  have hb := A.hb
  unfold beforeOf at hb
  obtain ⟨h1, h2⟩ := before_go (c := k) (by simp; omega) _ _ _ hb
  refine ⟨h1, fun i hi => ?_⟩
  rcases h2 i hi with h3 | ⟨e, he, hbd, h3⟩
  · simp at h3
  · refine ⟨e, he, hbd, h3.imp id ?_⟩
    rintro ⟨f, hf, hfi⟩
    rw [List.reverse_reverse, List.getElem?_map, List.getElem?_take] at hf
    have hlt := h1 e he hbd
    rw [if_pos hlt] at hf
    cases hse : L[e.on]? with
    | none => rw [hse] at hf; simp at hf
    | some se =>
      rw [hse] at hf
      simp only [Option.map_some, Option.some.injEq] at hf
      exact ⟨se, rfl, by rw [← hf] at hfi; exact hfi⟩

/-- What a step leaves alone. -/
structure AF (s : Stp) : Prop where
  next : s.h.next ≤ s.r.2.next
  mem : ∀ id, id < s.h.next → s.r.2.W.testBit id = false → s.r.2.mem.get id = s.h.mem.get id
  wf0 : ∀ id, s.h.next ≤ id → s.h.mem.get id = none
  wf : ∀ id, s.r.2.next ≤ id → s.r.2.mem.get id = none
  live : ∀ id, s.r.2.W.testBit id = true → s.h.next ≤ id ∨ (s.h.mem.get id).isSome = true
  wr : ∀ id, s.r.2.W.testBit id = true → s.r.2.R.testBit id = true

theorem AF.other {s : Stp} (a : AF s) {x : Nat} (h : ¬ s.wr x) : s.r.2.mem.get x = s.h.mem.get x := by
  by_cases hx : x < s.h.next
  · refine a.mem x hx ?_
    cases hw : s.r.2.W.testBit x with
    | false => rfl
    | true => exact absurd (.inl hw) h
  · by_cases hx2 : x < s.r.2.next
    · exact absurd (.inr ⟨by omega, hx2⟩) h
    · rw [a.wf x (by omega), a.wf0 x (by omega)]

/-- The chain's own order. -/
theorem Ch.order {os : List Oper} {i : Nat} {feet : List Foot} {tm tmE : Tr AV} {h hE : AH} {L : List Stp} (c : Ch P t n ops os i feet tm h L tmE hE) (af : ∀ s ∈ L, AF s) :
    h.next ≤ hE.next ∧ (∀ (k : Nat) (s : Stp), L[k]? = some s → h.next ≤ s.h.next ∧ s.r.2.next ≤ hE.next) ∧ (∀ (j k : Nat) (s s' : Stp), L[j]? = some s → L[k]? = some s' → j < k → s.r.2.next ≤ s'.h.next) ∧
    (∀ (k : Nat) (s : Stp) (x : Nat), L[k]? = some s → h.next ≤ x → x < s.h.next → ∃ j : Nat, ∃ s' : Stp, j < k ∧ L[j]? = some s' ∧ s'.new x) ∧ (∀ x : Nat, h.next ≤ x → x < hE.next → ∃ j : Nat, ∃ s' : Stp, L[j]? = some s' ∧ s'.new x) := by
  induction c with
  | nil => exact ⟨Nat.le_refl _, by simp, by simp, by simp, fun x h1 h2 => by omega⟩
  | cons os i feet s0 L tmE hE hb hd hw hop hno hap hput hc tl ih =>
    obtain ⟨h1, h2, h3, h4, h5⟩ := ih (fun s hs => af s (List.mem_cons_of_mem _ hs))
    have a0 := af s0 (by simp)
    simp only [AH.clean_next] at h1 h2 h4 h5
    have hn := a0.next
    refine ⟨by omega, ?_, ?_, ?_, ?_⟩
    · intro k s hk
      cases k with
      | zero =>
        simp only [List.getElem?_cons_zero, Option.some.injEq] at hk
        subst hk
        exact ⟨Nat.le_refl _, h1⟩
      | succ k =>
        obtain ⟨g1, g2⟩ := h2 k s (by simpa using hk)
        exact ⟨by omega, g2⟩
    · intro j k s s' hj hk hjk
      cases k with
      | zero => omega
      | succ k =>
        simp only [List.getElem?_cons_succ] at hk
        cases j with
        | zero =>
          simp only [List.getElem?_cons_zero, Option.some.injEq] at hj
          subst hj
          exact (h2 k s' hk).1
        | succ j =>
          simp only [List.getElem?_cons_succ] at hj
          exact h3 j k s s' hj hk (by omega)
    · intro k s x hk hx1 hx2
      cases k with
      | zero =>
        simp only [List.getElem?_cons_zero, Option.some.injEq] at hk
        subst hk
        omega
      | succ k =>
        simp only [List.getElem?_cons_succ] at hk
        by_cases hx : x < s0.r.2.next
        · exact ⟨0, s0, by omega, rfl, hx1, hx⟩
        · obtain ⟨j, s', g1, g2, g3⟩ := h4 k s x hk (by omega) hx2
          exact ⟨j + 1, s', by omega, by simpa using g2, g3⟩
    · intro x hx1 hx2
      by_cases hx : x < s0.r.2.next
      · exact ⟨0, s0, rfl, hx1, hx⟩
      · obtain ⟨j, s', g2, g3⟩ := h5 x (by omega) hx2
        exact ⟨j + 1, s', by simpa using g2, g3⟩

theorem Ch.ends {os : List Oper} {i : Nat} {feet : List Foot} {tm tmE : Tr AV} {h hE : AH} {L : List Stp} (c : Ch P t n ops os i feet tm h L tmE hE) (af : ∀ s ∈ L, AF s) (hwf : ∀ id, h.next ≤ id → h.mem.get id = none) :
    (∀ id, hE.next ≤ id → hE.mem.get id = none) ∧ (∀ s ∈ L, ∀ id, s.r.2.W.testBit id = true → h.next ≤ id ∨ (h.mem.get id).isSome = true) := by
  induction c with
  | nil => exact ⟨hwf, by simp⟩
  | cons os i feet s0 L tmE hE hb hd hw hop hno hap hput hc tl ih =>
    have a0 := af s0 (by simp)
    obtain ⟨h1, h2⟩ := ih (fun s hs => af s (List.mem_cons_of_mem _ hs)) (by simpa using a0.wf)
    refine ⟨h1, fun s hs id hid => ?_⟩
    rcases List.mem_cons.1 hs with rfl | hs
    · exact a0.live id hid
    · rcases h2 s hs id hid with h3 | h3
      · simp only [AH.clean_next] at h3
        exact .inl (Nat.le_trans a0.next h3)
      · simp only [AH.clean_mem] at h3
        by_cases hlt : id < s0.h.next
        · cases hw0 : s0.r.2.W.testBit id with
          | true => exact a0.live id hw0
          | false => rw [a0.mem id hlt hw0] at h3; exact .inr h3
        · exact .inl (by omega)

/-! The last that wrote. -/
open Classical in
noncomputable def lw {β : Type} (S : Nat → Bool) (wrs : Stp → Nat → Prop) (val : Stp → Nat → β) : Nat → List Stp → (Nat → β) → Nat → β
  | _, [], m, x => m x
  | i, s :: L, m, x => lw S wrs val (i + 1) L (fun y => if S i = true ∧ wrs s y then val s y else m y) x

section
variable {β : Type} {wrs : Stp → Nat → Prop} {val : Stp → Nat → β}

theorem lw_congr {S S' : Nat → Bool} {x : Nat} : ∀ (L : List Stp) (i : Nat) (m m' : Nat → β), m x = m' x → (∀ k s, L[k]? = some s → wrs s x → S (i + k) = S' (i + k)) → lw S wrs val i L m x = lw S' wrs val i L m' x
  | [], i, m, m', hm, _ => hm
  | s :: L, i, m, m', hm, hs => by
    simp only [lw]
    refine lw_congr L (i + 1) _ _ ?_ (fun k s' hk hw => by
      have := hs (k + 1) s' (by simpa using hk) hw
      rw [show i + (k + 1) = i + 1 + k by omega] at this
      exact this)
    by_cases hw : wrs s x
    · have := hs 0 s rfl hw
      simp only [Nat.add_zero] at this
      rw [hm, this]
    · simp only [hw, and_false, if_false, hm]

theorem lw_none {S : Nat → Bool} {x : Nat} : ∀ (L : List Stp) (i : Nat) (m : Nat → β), (∀ k s, L[k]? = some s → wrs s x → S (i + k) = false) → lw S wrs val i L m x = m x
  | [], i, m, _ => rfl
  | s :: L, i, m, hs => by
    simp only [lw]
    rw [lw_none L (i + 1) _ (fun k s' hk hw => by
      have := hs (k + 1) s' (by simpa using hk) hw
      rw [show i + (k + 1) = i + 1 + k by omega] at this
      exact this)]
    by_cases hw : wrs s x
    · have := hs 0 s rfl hw
      simp only [Nat.add_zero] at this
      simp [this]
    · simp [hw]

theorem lw_append {S : Nat → Bool} {x : Nat} : ∀ (L1 L2 : List Stp) (i : Nat) (m : Nat → β), lw S wrs val i (L1 ++ L2) m x = lw S wrs val (i + L1.length) L2 (lw S wrs val i L1 m) x
  | [], L2, i, m => rfl
  | s :: L1, L2, i, m => by
    simp only [List.cons_append, lw, List.length_cons]
    rw [lw_append L1 L2 (i + 1)]
    rw [show i + 1 + L1.length = i + (L1.length + 1) by omega]

/-- Who writes last, wins. -/
theorem lw_at {S : Nat → Bool} {x : Nat} {L : List Stp} {k : Nat} {s : Stp} {m : Nat → β} (hk : L[k]? = some s) (hS : S k = true) (hw : wrs s x) (hafter : ∀ j s', L[j]? = some s' → k < j → wrs s' x → S j = false) :
    lw S wrs val 0 L m x = val s x := by
  obtain ⟨hlt, hv⟩ := List.getElem?_eq_some_iff.1 hk
  have hsplit : L = L.take k ++ s :: L.drop (k + 1) := by rw [← hv, List.getElem_cons_drop, List.take_append_drop]
  rw [hsplit, lw_append]
  have hl : 0 + (L.take k).length = k := by simp; omega
  rw [hl]
  simp only [lw]
  rw [lw_none]
  · simp [hS, hw]
  · intro j s' hj hw'
    exact hafter (k + 1 + j) s' (by rw [← List.getElem?_drop]; exact hj) (by omega) hw'

/-- Only those ahead of the k-th count. -/
theorem lw_upto {S : Nat → Bool} {x : Nat} {L : List Stp} {k : Nat} {m : Nat → β} (hafter : ∀ j s', L[j]? = some s' → k ≤ j → wrs s' x → S j = false) (hbefore : ∀ j s', L[j]? = some s' → j < k → wrs s' x → S j = true) (hkl : k ≤ L.length) :
    lw S wrs val 0 L m x = lw (fun _ => true) wrs val 0 (L.take k) m x := by
  have hsplit : L = L.take k ++ L.drop k := by rw [List.take_append_drop]
  rw [hsplit, lw_append]
  have hl : 0 + (L.take k).length = k := by simp; omega
  rw [hl, lw_none]
  · have htt : List.take k (List.take k L ++ List.drop k L) = L.take k := by rw [List.take_append_drop]
    rw [htt]
    refine lw_congr _ _ _ _ rfl (fun j s' hj hw => ?_)
    rw [List.getElem?_take] at hj
    split at hj
    · rename_i hjk
      simpa using hbefore j s' hj hjk hw
    · cases hj
  · intro j s' hj hw
    exact hafter (k + j) s' (by rw [← List.getElem?_drop]; exact hj) (by omega) hw
end

theorem Ch.memAt {os : List Oper} {i : Nat} {feet : List Foot} {tm tmE : Tr AV} {h hE : AH} {L : List Stp} (c : Ch P t n ops os i feet tm h L tmE hE) (af : ∀ s ∈ L, AF s) (i0 : Nat) :
    (∀ (k : Nat) (s : Stp) (x : Nat), L[k]? = some s → lw (fun _ => true) Stp.wr (fun (s : Stp) x => s.r.2.mem.get x) i0 (L.take k) h.mem.get x = s.h.mem.get x) ∧ (∀ x, lw (fun _ => true) Stp.wr (fun (s : Stp) x => s.r.2.mem.get x) i0 L h.mem.get x = hE.mem.get x) := by
  induction c generalizing i0 with
  | nil => exact ⟨by simp, fun x => rfl⟩
  | cons os i feet s0 L tmE hE hb hd hw hop hno hap hput hc tl ih =>
    obtain ⟨h1, h2⟩ := ih (fun s hs => af s (List.mem_cons_of_mem _ hs)) (i0 + 1)
    have a0 := af s0 (by simp)
    have hstep : ∀ x, (open Classical in if (fun _ => true) i0 = true ∧ s0.wr x then s0.r.2.mem.get x else s0.h.mem.get x) = s0.r.2.clean.mem.get x := by
      intro x
      simp only [AH.clean_mem, true_and]
      split
      · rfl
      · rename_i hnw; exact (a0.other (fun hc => hnw ⟨rfl, hc⟩)).symm
    constructor
    · intro k s x hk
      cases k with
      | zero =>
        simp only [List.getElem?_cons_zero, Option.some.injEq] at hk
        subst hk
        rfl
      | succ k =>
        simp only [List.getElem?_cons_succ] at hk
        simp only [List.take_succ_cons, lw]
        rw [← h1 k s x hk]
        exact lw_congr _ _ _ _ (hstep x) (fun _ _ _ _ => rfl)
    · intro x
      simp only [lw]
      rw [← h2 x]
      exact lw_congr _ _ _ _ (hstep x) (fun _ _ _ _ => rfl)

theorem put_get {n : Nat} {tm tm' : Tr AV} {d : Option Tmp} {v : AV} (h : put n tm d v = some tm') (y : Nat) : tm'.get y = if d = some y then some v else tm.get y := by
  cases d with
  | none => simp only [put, oc, Option.some.injEq] at h; subst h; simp
  | some d =>
    simp only [put, oc] at h
    rcases bc_get h with ⟨_, h⟩ | ⟨_, h⟩
    · simp only [Option.some.injEq] at h; subst h
      rw [Tr.get_set]
      by_cases hy : y = d
      · subst hy; simp
      · rw [if_neg hy, if_neg (fun hc => hy (by simpa using hc.symm))]
    · cases h

theorem Ch.tmAt {os : List Oper} {i : Nat} {feet : List Foot} {tm tmE : Tr AV} {h hE : AH} {L : List Stp} (c : Ch P t n ops os i feet tm h L tmE hE) (i0 : Nat) :
    (∀ (k : Nat) (s : Stp) (x : Nat), L[k]? = some s → lw (fun _ => true) Stp.tw (fun (s : Stp) _ => some s.r.1) i0 (L.take k) tm.get x = s.tm.get x) ∧ (∀ x, lw (fun _ => true) Stp.tw (fun (s : Stp) _ => some s.r.1) i0 L tm.get x = tmE.get x) := by
  induction c generalizing i0 with
  | nil => exact ⟨by simp, fun x => rfl⟩
  | cons os i feet s0 L tmE hE hb hd hw hop hno hap hput hc tl ih =>
    obtain ⟨h1, h2⟩ := ih (i0 + 1)
    have hstep : ∀ x, (open Classical in if (fun _ => true) i0 = true ∧ s0.tw x then some s0.r.1 else s0.tm.get x) = s0.tm'.get x := by
      intro x
      rw [put_get hput]
      simp only [true_and, Stp.tw]
    constructor
    · intro k s x hk
      cases k with
      | zero =>
        simp only [List.getElem?_cons_zero, Option.some.injEq] at hk
        subst hk
        rfl
      | succ k =>
        simp only [List.getElem?_cons_succ] at hk
        simp only [List.take_succ_cons, lw]
        rw [← h1 k s x hk]
        exact lw_congr _ _ _ _ (hstep x) (fun _ _ _ _ => rfl)
    · intro x
      simp only [lw]
      rw [← h2 x]
      exact lw_congr _ _ _ _ (hstep x) (fun _ _ _ _ => rfl)
end Go.AX

/-! AX: regions that draw: any order. -/
namespace Go.AX

variable {G : Nat → Obj → Prop} {P : Program} {t : Fns}

theorem Pre.clean {e : Env} {D : Nat → Prop} {h hF : AH} {w : World} (hp : Pre G e D h hF w) : Pre G e D h.clean hF w where
  sat := by simpa using hp.sat
  lt := by simpa using hp.lt
  free := by simpa using hp.free
  cover := by simpa using hp.cover
  size := hp.size
  wf := by simpa using hp.wf
  glob := hp.glob

theorem Ch.nexts (T : FnsLe t) {n : Nat} {ops : Array Oper} {os : List Oper} {i : Nat} {feet : List Foot} {tm tmE : Tr AV} {h hE : AH} {L : List Stp} (c : Ch P t n ops os i feet tm h L tmE hE) :
    h.next ≤ hE.next ∧ ∀ s ∈ L, s.r.2.next ≤ hE.next := by
  induction c with
  | nil => exact ⟨Nat.le_refl _, by simp⟩
  | cons os i feet s0 L tmE hE hb hd hw hop hno hap hput hc tl ih =>
    obtain ⟨h1, h2⟩ := ih
    simp only [AH.clean_next] at h1
    have hle : s0.h.next ≤ s0.r.2.next := by
      cases hwt : s0.want with
      | true => exact (mono_op T (v := s0.r.1) (h' := s0.r.2) (hop hwt)).next
      | false => rw [hno hwt]; exact Nat.le_refl _
    refine ⟨by omega, fun s hs => ?_⟩
    rcases List.mem_cons.1 hs with rfl | hs
    · exact h1
    · exact h2 s hs

/-- One step of a region, wherever it comes. -/
theorem one_step (T : FnsOK G P t) (hrec : P.follows .rangeFuncRecover = true) {ops : Array Oper} {b : Frame} {k : List Item} {cs : List Frame} (hk : KindOK b.kind b.roundOf cs) {i : Nat} {rest : List Nat} {s : Stp}
    (hi : ops[i]? = some s.o) (hd : isDefer s.o.op = false) (hw : wantedA ops s.tm s.o = some s.want) (hop : s.want = true → xop P t s.o.op s.tm s.h = some s.r) (hno : s.want = false → s.r = (.tup [], s.h))
    {e : Env} {D : Nat → Prop} {a : Act} {w : World} (htm : ∀ y v, s.tr ops y → s.tm.get y = some v → ∃ cv, a.tmps[y]? = some cv ∧ VR e v cv) (hp : Pre G e D s.h s.r.2 w) :
    ∃ cv w' e', Steps P (lone (b.atR a (.inRegion ops (i :: rest) :: k)) cs w) (lone (b.atR (a.put s.o.dst cv) (.inRegion ops rest :: k)) cs w') ∧ VR e' s.r.1 cv ∧ Post e D s.h s.r.2 w w' e' := by
  have hwant := wanted_rel (e := e) (a := a) hw (fun g j oj y hg ho hy v hv => htm y v (.inr ⟨g, j, oj, hg, ho, hy⟩) hv)
  have hbind : (ops[i]?).bind (·.dst) = s.o.dst := by rw [hi]; rfl
  cases hwt : s.want with
  | true =>
    rw [hwt] at hwant
    have hpl : plainTodo (b.atR a (.inRegion ops (i :: rest) :: k)) := .inl ⟨_, _, _, rfl⟩
    obtain ⟨cv, w1, e1, hst, hv, hpost⟩ := op_sound T hrec (does_op (cs := cs) (w := w) (b := b) (k := k) (rest := rest) hi hwant hd) hpl (ro := b.roundOf) hk (hop hwt) (v := s.r.1) (h' := s.r.2) (fun x hx => by
      cases x with
      | tmp y =>
        simp only [ev]
        cases hg : s.tm.get y with
        | none => exact .top _
        | some v =>
          obtain ⟨cv, h1, h2⟩ := htm y v (.inl hx) hg
          simp only [oc, Act.eval, Array.getD_eq_getD_getElem?, h1]
          exact h2
      | const v => 
        simp only [ev]
        cases hg : abs v with
        | none => exact .top _
        | some a => exact abs_sound e _ _ _ hg
      | global g => exact .glob g
      | func f => exact .fn f [] [] [] [] .nil .nil) hp
    refine ⟨cv, w1, e1, ?_, hv, hpost⟩
    rw [Frame.finish_atR, hbind] at hst
    exact hst
  | false =>
    rw [hwt] at hwant
    have hr := hno hwt
    refine ⟨undef, w, e, ?_, by rw [hr]; exact .tup [] [] .nil, ?_⟩
    · have := stepR_op_skip (P := P) (b := b) (a := a) (k := k) (cs := cs) (w := w) (ops := ops) (i := i) (rest := rest) (by simp [hi, hwant])
      rw [hbind] at this
      exact .one this
    · rw [hr] at hp ⊢
      exact Post.refl hp

theorem text_af (T : FnsOK G P t) (hrec : P.follows .rangeFuncRecover = true) {fs : FS} {ops : Array Oper} {ds : List ADefer} {b : Frame} {k : List Item} {cs : List Frame} (hk : KindOK b.kind b.roundOf cs)
    {os : List Oper} {i : Nat} {feet : List Foot} {tm tmE : Tr AV} {h hE : AH} {L : List Stp} (c : Ch P t fs.n ops os i feet tm h L tmE hE) :
    ∀ (e : Env) (D : Nat → Prop) (a : Act) (w : World) (hF : AH), ops.toList.drop i = os → FR e fs tm ds b a → Pre G e D h hF w → (∀ s ∈ L, ∀ x, s.r.2.R.testBit x = true → hF.R.testBit x = true) → (∀ s ∈ L, s.r.2.next ≤ hF.next) →
      ∀ s ∈ L, AF s := by
  induction c with
  | nil => intro e D a w hF _ _ _ _ _ s hs; cases hs
  | cons os i feet s0 L tmE hE hb hd hw hop hno hap hput hc tl ih =>
    intro e D a w hF hdrop hfr hp hR hN s hs
    have hi : ops[i]? = some s0.o := by
      rw [← Array.getElem?_toList]
      have : (ops.toList.drop i)[0]? = some s0.o := by rw [hdrop]; rfl
      simpa using this
    have hdrop' : ops.toList.drop (i + 1) = os := by rw [← List.drop_drop, hdrop]; rfl
    have hp0 : Pre G e D s0.h s0.r.2 w := hp.first (hN s0 (by simp)) (hR s0 (by simp))
    obtain ⟨cv, w1, e1, _, hv, hpost⟩ := one_step T hrec (k := k) hk (rest := []) hi hd hw hop hno (fun y v _ hv => hfr.tmps y v hv) hp0
    rcases List.mem_cons.1 hs with rfl | hs
    · exact {
        next := hpost.next
        mem := hpost.mem
        wf0 := hp.wf
        wf := hpost.wf
        live := fun id hid => by
          rcases hpost.live id hid with h1 | h1
          · rw [hc.2] at h1; simp at h1
          · exact h1
        wr := fun id hid => by
          rcases hpost.WR id hid with h1 | h1
          · rw [hc.2] at h1; simp at h1
          · exact h1 }
    · obtain ⟨g1, g2, g3⟩ := put_rel (cv := cv) hput (hfr.tmps.mono hpost.le) hfr.size hv
      exact ih e1 _ (a.put s0.o.dst cv) w1 hF hdrop' ⟨hfr.fn, g2, g1, hfr.round.mono hpost.le, by rw [g3]; exact hfr.defers.mono hpost.le⟩ (hp.next hpost).clean
        (fun s hs => hR s (List.mem_cons_of_mem _ hs)) (fun s hs => hN s (List.mem_cons_of_mem _ hs)) s hs

/-! Any order -/
section
variable (ops : Array Oper) (fs : FS) (b : Frame) (ds : List ADefer) (L : List Stp) (h h' : AH) (tm : Tr AV) (e : Env) (D : Nat → Prop) (a : Act) (w : World)

noncomputable def mAt (S : Nat → Bool) : Nat → Option AObj := lw S Stp.wr (fun (s : Stp) x => s.r.2.mem.get x) 0 L h.mem.get
noncomputable def tAt (S : Nat → Bool) : Nat → Option AV := lw S Stp.tw (fun (s : Stp) _ => some s.r.1) 0 L tm.get
def DAt (S : Nat → Bool) (x : Nat) : Prop := D x ∨ ∃ i s, S i = true ∧ L[i]? = some s ∧ s.new x

/-- What is so when those of S have run. -/
structure Inv (G : Nat → Obj → Prop) (S : Nat → Bool) (eS : Env) (aS : Act) (wS : World) : Prop where
  tmp : ∀ y v, tAt L tm S y = some v → ∃ cv, aS.tmps[y]? = some cv ∧ VR eS v cv
  tsize : aS.tmps.size = fs.n
  defers : aS.defers = a.defers
  sat : Sat eS (mAt L h S) (DAt L D S) wS
  le : e.le eS
  new : ∀ x p, eS x = some p → e x = some p ∨ ∃ i s, S i = true ∧ L[i]? = some s ∧ s.new x
  inside : ∀ x b t, eS x = some (b, t) → b < wS.heap.size
  size : w.heap.size ≤ wS.heap.size
  os : wS.os = w.os
  tape : wS.tape = w.tape
  output : wS.output = w.output
  frame : ∀ b, b < w.heap.size → (∀ id t, D id → h'.W.testBit id = true → e id = some (b, t) → False) → wS.heap[b]? = w.heap[b]?
  fresh : ∀ x b t i s, S i = true → L[i]? = some s → s.new x → eS x = some (b, t) → w.heap.size ≤ b ∨ ∃ y u, D y ∧ h'.W.testBit y = true ∧ e y = some (b, u)
  closed : ∀ j sj, S j = true → L[j]? = some sj → ∀ i, sj.bf.testBit i = true → S i = true
  glob : Glob G eS wS

/-- What is so of the region, told once. -/
structure Facts (G : Nat → Obj → Prop) (P : Program) (t : Fns) (hE : AH) (tmE : Tr AV) : Prop where
  at' : ∀ k s, L[k]? = some s → At P t fs.n ops L k s
  af : ∀ s ∈ L, AF s
  order : h.next ≤ hE.next ∧ (∀ (k : Nat) (s : Stp), L[k]? = some s → h.next ≤ s.h.next ∧ s.r.2.next ≤ hE.next) ∧ (∀ (j k : Nat) (s s' : Stp), L[j]? = some s → L[k]? = some s' → j < k → s.r.2.next ≤ s'.h.next) ∧
    (∀ (k : Nat) (s : Stp) (x : Nat), L[k]? = some s → h.next ≤ x → x < s.h.next → ∃ j : Nat, ∃ s' : Stp, j < k ∧ L[j]? = some s' ∧ s'.new x) ∧ (∀ x : Nat, h.next ≤ x → x < hE.next → ∃ j : Nat, ∃ s' : Stp, L[j]? = some s' ∧ s'.new x)
  mem : (∀ (k : Nat) (s : Stp) (x : Nat), L[k]? = some s → lw (fun _ => true) Stp.wr (fun (s : Stp) x => s.r.2.mem.get x) 0 (L.take k) h.mem.get x = s.h.mem.get x)
  tms : (∀ (k : Nat) (s : Stp) (x : Nat), L[k]? = some s → lw (fun _ => true) Stp.tw (fun (s : Stp) _ => some s.r.1) 0 (L.take k) tm.get x = s.tm.get x)
  R : ∀ s ∈ L, ∀ x, s.r.2.R.testBit x = true → h'.R.testBit x = true
  W : ∀ s ∈ L, ∀ x, s.r.2.W.testBit x = true → h'.W.testBit x = true
  pre : Pre G e D h h' w
  next : h'.next = hE.next
end

section
variable {ops : Array Oper} {fs : FS} {b : Frame} {L : List Stp} {h h' hE : AH} {tm tmE : Tr AV} {e : Env} {D : Nat → Prop} {a : Act} {w : World}
variable {S : Nat → Bool} {eS : Env} {aS : Act} {wS : World}

/-- The ready one's own edges are paid. -/
theorem ready_before (F : Facts ops fs L h h' tm e D w G P t hE tmE) (I : Inv fs L h h' tm e D a w G S eS aS wS) {k : Nat} {s : Stp} (hk : L[k]? = some s) (hrd : ∀ ed ∈ s.o.after.toList, Region.binds .any ed = true → S ed.on = true) :
    ∀ i, s.bf.testBit i = true → S i = true := by
  intro i hi
  obtain ⟨ed, h1, h2, h3⟩ := ((F.at' k s hk).before hk).2 i hi
  rcases h3 with rfl | ⟨se, h4, h5⟩
  · exact hrd ed h1 h2
  · exact I.closed ed.on se (hrd ed h1 h2) h4 i h5

/-- Of two that meet, the earlier is paid when the later is. -/
theorem earlier_first (F : Facts ops fs L h h' tm e D w G P t hE tmE) {k j : Nat} {s sj : Stp} (hk : L[k]? = some s) (hj : L[j]? = some sj) (hlt : j < k) (hmeet : ¬ Sep ops sj s) : s.bf.testBit j = true :=
  ((F.at' k s hk).sep (F.at' j sj hj) hk hlt hj).resolve_right hmeet

variable {k : Nat} {s : Stp}

/-- What the ready one reads is what it was in the text's order. -/
theorem read_same (F : Facts ops fs L h h' tm e D w G P t hE tmE) (I : Inv fs L h h' tm e D a w G S eS aS wS) (hk : L[k]? = some s) (hS : S k = false) (hrd : ∀ ed ∈ s.o.after.toList, Region.binds .any ed = true → S ed.on = true)
    {x : Nat} (hx : s.rd x) : mAt L h S x = s.h.mem.get x := by
  obtain ⟨hlt, _⟩ := List.getElem?_eq_some_iff.1 hk
  have hb := ready_before F I hk hrd
  rw [← F.mem k s x hk]
  unfold mAt
  refine lw_upto ?_ ?_ (by omega)
  · intro j sj hj hkj hw
    cases hSj : S j with
    | false => rfl
    | true =>
      exfalso
      by_cases hjk : j = k
      · subst hjk; rw [hS] at hSj; cases hSj
      · have := earlier_first F hj hk (by omega) (fun sep => sep.m3 x hw hx)
        rw [I.closed j sj hSj hj k this] at hS
        cases hS
  · intro j sj hj hjk hw
    exact hb j (earlier_first F hk hj hjk (fun sep => sep.m1 x hw hx))

theorem tread_same (F : Facts ops fs L h h' tm e D w G P t hE tmE) (I : Inv fs L h h' tm e D a w G S eS aS wS) (hk : L[k]? = some s) (hS : S k = false) (hrd : ∀ ed ∈ s.o.after.toList, Region.binds .any ed = true → S ed.on = true)
    {y : Nat} (hy : s.tr ops y) : tAt L tm S y = s.tm.get y := by
  obtain ⟨hlt, _⟩ := List.getElem?_eq_some_iff.1 hk
  have hb := ready_before F I hk hrd
  rw [← F.tms k s y hk]
  unfold tAt
  refine lw_upto ?_ ?_ (by omega)
  · intro j sj hj hkj hw
    cases hSj : S j with
    | false => rfl
    | true =>
      exfalso
      by_cases hjk : j = k
      · subst hjk; rw [hS] at hSj; cases hSj
      · have := earlier_first F hj hk (by omega) (fun sep => sep.t3 y hw hy)
        rw [I.closed j sj hSj hj k this] at hS
        cases hS
  · intro j sj hj hjk hw
    exact hb j (earlier_first F hk hj hjk (fun sep => sep.t1 y hw hy))

/-- S and one more. -/
def more (S : Nat → Bool) (k : Nat) (i : Nat) : Bool := S i || decide (i = k)

theorem write_new (F : Facts ops fs L h h' tm e D w G P t hE tmE) (I : Inv fs L h h' tm e D a w G S eS aS wS) (hk : L[k]? = some s) (hS : S k = false) {x : Nat} (hx : s.wr x) : mAt L h (more S k) x = s.r.2.mem.get x := by
  unfold mAt
  refine lw_at (val := fun (s : Stp) x => s.r.2.mem.get x) hk (by simp [more]) hx ?_
  intro j sj hj hkj hw
  simp only [more, Bool.or_eq_false_iff, decide_eq_false_iff_not]
  refine ⟨?_, by omega⟩
  cases hSj : S j with
  | false => rfl
  | true =>
    have := earlier_first F hj hk hkj (fun sep => sep.m2 x hx hw)
    rw [I.closed j sj hSj hj k this] at hS
    cases hS
theorem write_old (hk : L[k]? = some s) {x : Nat} (hx : ¬ s.wr x) : mAt L h (more S k) x = mAt L h S x := by
  unfold mAt
  refine lw_congr L 0 _ _ rfl (fun j sj hj hw => ?_)
  simp only [Nat.zero_add, more]
  by_cases hjk : j = k
  · subst hjk; rw [hk] at hj; simp only [Option.some.injEq] at hj; subst hj; exact absurd hw hx
  · simp [hjk]
theorem twrite_new (F : Facts ops fs L h h' tm e D w G P t hE tmE) (I : Inv fs L h h' tm e D a w G S eS aS wS) (hk : L[k]? = some s) (hS : S k = false) {y : Nat} (hy : s.tw y) : tAt L tm (more S k) y = some s.r.1 := by
  unfold tAt
  refine lw_at (val := fun (s : Stp) _ => some s.r.1) hk (by simp [more]) hy ?_
  intro j sj hj hkj hw
  simp only [more, Bool.or_eq_false_iff, decide_eq_false_iff_not]
  refine ⟨?_, by omega⟩
  cases hSj : S j with
  | false => rfl
  | true =>
    have := earlier_first F hj hk hkj (fun sep => sep.t2 y hy hw)
    rw [I.closed j sj hSj hj k this] at hS
    cases hS
theorem twrite_old (hk : L[k]? = some s) {y : Nat} (hy : ¬ s.tw y) : tAt L tm (more S k) y = tAt L tm S y := by
  unfold tAt
  refine lw_congr L 0 _ _ rfl (fun j sj hj hw => ?_)
  simp only [Nat.zero_add, more]
  by_cases hjk : j = k
  · subst hjk; rw [hk] at hj; simp only [Option.some.injEq] at hj; subst hj; exact absurd hw hy
  · simp [hjk]
end
end Go.AX

/-! AX: regions that draw: the step, the whole. -/
namespace Go.AX

variable {G : Nat → Obj → Prop} {P : Program} {t : Fns}

section
variable {ops : Array Oper} {fs : FS} {b : Frame} {L : List Stp} {h h' hE : AH} {tm tmE : Tr AV} {e : Env} {D : Nat → Prop} {a : Act} {w : World}
variable {S : Nat → Bool} {eS : Env} {aS : Act} {wS : World} {k : Nat} {s : Stp}

/-- What the ready one may lean on. -/
def DOp (L : List Stp) (h : AH) (D : Nat → Prop) (S : Nat → Bool) (s : Stp) (x : Nat) : Prop := DAt L D S x ∧ x < s.h.next ∧ mAt L h S x = s.h.mem.get x

theorem new_disjoint (F : Facts ops fs L h h' tm e D w G P t hE tmE) {i j : Nat} {si sj : Stp} (hi : L[i]? = some si) (hj : L[j]? = some sj) {x : Nat} (h1 : si.new x) (h2 : sj.new x) : i = j := by
  obtain ⟨_, _, o, _, _⟩ := F.order
  rcases Nat.lt_trichotomy i j with hlt | heq | hgt
  · have := o i j si sj hi hj hlt
    have := h1.2; have := h2.1; omega
  · exact heq
  · have := o j i sj si hj hi hgt
    have := h2.2; have := h1.1; omega

theorem new_ge (F : Facts ops fs L h h' tm e D w G P t hE tmE) (hk : L[k]? = some s) {x : Nat} (hx : s.new x) : h.next ≤ x ∧ x < h'.next := by
  obtain ⟨_, o, _, _, _⟩ := F.order
  obtain ⟨o1, o2⟩ := o k s hk
  have := hx.1; have := hx.2
  rw [F.next]
  omega

theorem mem_of {α : Type} {l : List α} {i : Nat} {x : α} (h : l[i]? = some x) : x ∈ l := List.mem_of_getElem? h

theorem op_pre (F : Facts ops fs L h h' tm e D w G P t hE tmE) (I : Inv fs L h h' tm e D a w G S eS aS wS) (hk : L[k]? = some s) (hS : S k = false) (hrd : ∀ ed ∈ s.o.after.toList, Region.binds .any ed = true → S ed.on = true) :
    Pre G eS (DOp L h D S s) s.h s.r.2 wS where
  sat := by
    constructor
    · intro id o hd hm
      exact I.sat.holds id o hd.1 (by rw [hd.2.2]; exact hm)
    · intro i j b' t1 t2 hi hj si sj ei ej
      exact I.sat.apart i j b' t1 t2 hi.1 hj.1 (by rw [hi.2.2]; exact si) (by rw [hj.2.2]; exact sj) ei ej
  lt := fun id hd => hd.2.1
  free := fun id h1 h2 => by
    cases he : eS id with
    | none => rfl
    | some p =>
      exfalso
      have hnew : s.new id := ⟨h1, h2⟩
      obtain ⟨g1, g2⟩ := new_ge F hk hnew
      rcases I.new id p he with h3 | ⟨i, si, h3, h4, h5⟩
      · rw [F.pre.free id g1 g2] at h3; cases h3
      · have := new_disjoint F hk h4 hnew h5
        subst this
        rw [hS] at h3; cases h3
  cover := fun id hr hlt => by
    refine ⟨?_, hlt, read_same F I hk hS hrd hr⟩
    by_cases hid : id < h.next
    · exact .inl (F.pre.cover id (F.R s (mem_of hk) id hr) hid)
    · obtain ⟨_, _, _, o, _⟩ := F.order
      obtain ⟨j, sj, hj1, hj2, hj3⟩ := o k s id hk (by omega) hlt
      exact .inr ⟨j, sj, ready_before F I hk hrd j (earlier_first F hk hj2 hj1 (fun sep => sep.m1 id (.inr hj3) hr)), hj2, hj3⟩
  size := I.inside
  wf := (F.af s (mem_of hk)).wf0
  glob := I.glob

theorem live_at (F : Facts ops fs L h h' tm e D w G P t hE tmE) (hk : L[k]? = some s) {x : Nat} (hd : DOp L h D S s x) (hw : s.r.2.W.testBit x = true) : (mAt L h S x).isSome = true := by
  rcases (F.af s (mem_of hk)).live x hw with h1 | h1
  · have := hd.2.1; omega
  · rw [hd.2.2]; exact h1

theorem inv_step (F : Facts ops fs L h h' tm e D w G P t hE tmE) (I : Inv fs L h h' tm e D a w G S eS aS wS) (hk : L[k]? = some s) (hS : S k = false) (hrd : ∀ ed ∈ s.o.after.toList, Region.binds .any ed = true → S ed.on = true)
    {cv : Value} {w1 : World} {e1 : Env} (hv : VR e1 s.r.1 cv) (hpost : Post eS (DOp L h D S s) s.h s.r.2 wS w1 e1) :
    Inv fs L h h' tm e D a w G (more S k) e1 (aS.put s.o.dst cv) w1 := by
  have hp := op_pre F I hk hS hrd
  have haf := F.af s (mem_of hk)
  have hput := (F.at' k s hk).hput
  -- the sets
  have dat : ∀ x, DAt L D (more S k) x → DAt L D S x ∨ s.new x := by
    intro x hx
    rcases hx with hx | ⟨i, si, h1, h2, h3⟩
    · exact .inl (.inl hx)
    · simp only [more, Bool.or_eq_true, decide_eq_true_eq] at h1
      rcases h1 with h1 | h1
      · exact .inl (.inr ⟨i, si, h1, h2, h3⟩)
      · subst h1; rw [hk] at h2; simp only [Option.some.injEq] at h2; subst h2; exact .inr h3
  have wdat : ∀ x, DAt L D (more S k) x → s.wr x → (mAt L h (more S k) x).isSome = true → DOp L h D S s x ∨ s.new x := by
    intro x hx hw hsome
    rcases hw with hw | hw
    · by_cases hlt : x < s.h.next
      · exact .inl (hp.cover x (haf.wr x hw) hlt)
      · by_cases hlt2 : x < s.r.2.next
        · exact .inr ⟨by omega, hlt2⟩
        · rw [write_new F I hk hS (.inl hw), haf.wf x (by omega)] at hsome
          cases hsome
    · exact .inr hw
  have odat : ∀ x, DAt L D (more S k) x → ¬ s.wr x → DAt L D S x := by
    intro x hx hw
    rcases dat x hx with h1 | h1
    · exact h1
    · exact absurd (.inr h1) hw
  have keep : ∀ x, DAt L D S x → (mAt L h S x).isSome = true → ¬ s.wr x → ∀ b' t', eS x = some (b', t') → w1.heap[b']? = wS.heap[b']? := by
    intro x hx hsome hw b' t' he
    refine hpost.frame b' (I.inside x b' t' he) ?_
    intro y u hy hyw hye
    have := I.sat.apart y x b' u t' hy.1 hx (live_at F hk hy hyw) hsome hye he
    subst this
    exact hw (.inl hyw)
  have freeR : ∀ x p, s.new x → eS x = some p → False := fun x p hx he => by
    rw [hp.free x hx.1 hx.2] at he; cases he
  refine {
    tmp := ?_
    tsize := ?_
    defers := ?_
    sat := ⟨?_, ?_⟩
    le := Env.le_trans I.le hpost.le
    new := ?_
    inside := hpost.inside
    size := Nat.le_trans I.size hpost.size
    os := hpost.os.trans I.os
    tape := hpost.tape.trans I.tape
    output := hpost.output.trans I.output
    frame := ?_
    fresh := ?_
    closed := ?_
    glob := I.glob.post hpost }
  · intro y v hy
    by_cases htw : s.tw y
    · rw [twrite_new F I hk hS htw] at hy
      simp only [Option.some.injEq] at hy
      subst hy
      have hdst : s.o.dst = some y := htw
      rw [hdst] at hput ⊢
      simp only [put, oc] at hput
      rcases bc_get hput with ⟨hlt, _⟩ | ⟨_, hput⟩
      · have hlt' : y < fs.n := by simpa [Nat.blt_eq] using hlt
        exact ⟨cv, by simp only [Act.put]; rw [Array.getElem?_setIfInBounds_self]; simp [I.tsize, hlt'], hv⟩
      · cases hput
    · rw [twrite_old hk htw] at hy
      obtain ⟨cu, h1, h2⟩ := I.tmp y v hy
      refine ⟨cu, ?_, h2.mono hpost.le⟩
      cases hdst : s.o.dst with
      | none => exact h1
      | some d =>
        have hne : d ≠ y := fun heq => htw (by rw [← heq]; exact hdst)
        simp only [Act.put]
        rw [Array.getElem?_setIfInBounds_ne hne]
        exact h1
  · cases s.o.dst <;> simp [Act.put, I.tsize]
  · cases s.o.dst <;> simp [Act.put, I.defers]
  · intro x o hx hm
    by_cases hw : s.wr x
    · have hd := wdat x hx hw (by rw [hm]; rfl)
      rw [write_new F I hk hS hw] at hm
      exact hpost.sat.holds x o hd hm
    · rw [write_old hk hw] at hm
      have hx' := odat x hx hw
      obtain ⟨b', t', co, h1, h2, h3⟩ := I.sat.holds x o hx' hm
      refine ⟨b', t', co, hpost.le _ _ h1, ?_, h3.mono hpost.le⟩
      rw [keep x hx' (by rw [hm]; rfl) hw b' t' h1]
      exact h2
  · intro x y b' t1 t2 hx hy sx sy ex ey
    -- an old one that is not written, and a written one, lie apart
    have mixed : ∀ (x y : Nat) (t1 t2 : Nat), DAt L D (more S k) x → DAt L D (more S k) y → (mAt L h (more S k) x).isSome = true → (mAt L h (more S k) y).isSome = true → e1 x = some (b', t1) → e1 y = some (b', t2) → s.wr x → ¬ s.wr y → False := by
      intro x y t1 t2 hx hy sx sy ex ey hwx hwy
      have hy' := odat y hy hwy
      rw [write_old hk hwy] at sy
      obtain ⟨oy, hoy⟩ := Option.isSome_iff_exists.1 sy
      obtain ⟨by', ty', coy, g1, g2, _⟩ := I.sat.holds y oy hy' hoy
      have := hpost.le _ _ g1
      rw [this] at ey
      simp only [Option.some.injEq, Prod.mk.injEq] at ey
      obtain ⟨rfl, rfl⟩ := ey
      rcases wdat x hx hwx sx with hd | hd
      · rcases hwx with hw | hw
        · rcases hpost.new x _ ex with h1 | h1
          · have := I.sat.apart x y _ t1 _ hd.1 hy' (live_at F hk hd hw) sy h1 g1
            subst this
            exact hwy (.inl hw)
          · have := hd.2.1; omega
        · have := hd.2.1; have := hw.1; omega
      · rcases hpost.fresh x _ t1 hd.1 hd.2 ex with h1 | ⟨z, u, hz, hzw, hze⟩
        · have := I.inside y _ _ g1; omega
        · have := I.sat.apart z y _ u _ hz.1 hy' (live_at F hk hz hzw) sy hze g1
          subst this
          exact hwy (.inl hzw)
    by_cases hwx : s.wr x <;> by_cases hwy : s.wr y
    · have dx := wdat x hx hwx sx
      have dy := wdat y hy hwy sy
      rw [write_new F I hk hS hwx] at sx
      rw [write_new F I hk hS hwy] at sy
      exact hpost.sat.apart x y b' t1 t2 dx dy sx sy ex ey
    · exact (mixed x y t1 t2 hx hy sx sy ex ey hwx hwy).elim
    · exact (mixed y x t2 t1 hy hx sy sx ey ex hwy hwx).elim
    · have hx' := odat x hx hwx
      have hy' := odat y hy hwy
      rw [write_old hk hwx] at sx
      rw [write_old hk hwy] at sy
      obtain ⟨ox, hox⟩ := Option.isSome_iff_exists.1 sx
      obtain ⟨oy, hoy⟩ := Option.isSome_iff_exists.1 sy
      obtain ⟨bx, tx, cox, g1, _, _⟩ := I.sat.holds x ox hx' hox
      obtain ⟨by', ty, coy, g2, _, _⟩ := I.sat.holds y oy hy' hoy
      have q1 := hpost.le _ _ g1
      have q2 := hpost.le _ _ g2
      rw [q1] at ex; rw [q2] at ey
      simp only [Option.some.injEq, Prod.mk.injEq] at ex ey
      obtain ⟨rfl, rfl⟩ := ex
      obtain ⟨rfl, rfl⟩ := ey
      exact I.sat.apart x y _ _ _ hx' hy' sx sy g1 g2
  · intro x p he
    rcases hpost.new x p he with h1 | h1
    · rcases I.new x p h1 with h2 | ⟨i, si, h2, h3, h4⟩
      · exact .inl h2
      · exact .inr ⟨i, si, by simp [more, h2], h3, h4⟩
    · exact .inr ⟨k, s, by simp [more], hk, h1⟩
  · intro b' hb' hno
    rw [hpost.frame b' (Nat.lt_of_lt_of_le hb' I.size) ?_]
    · exact I.frame b' hb' hno
    · intro y u hy hyw hye
      have hW := F.W s (mem_of hk) y hyw
      rcases I.new y _ hye with h1 | ⟨i, si, h1, h2, h3⟩
      · rcases hy.1 with h2 | ⟨i, si, h2, h3, h4⟩
        · exact hno y u h2 hW h1
        · obtain ⟨g1, g2⟩ := new_ge F h3 h4
          rw [F.pre.free y g1 g2] at h1; cases h1
      · rcases I.fresh y b' u i si h1 h2 h3 hye with h4 | ⟨z, u', h4, h5, h6⟩
        · omega
        · exact hno z u' h4 h5 h6
  · intro x b' t' i si h1 h2 h3 he
    rcases hpost.new x _ he with h4 | h4
    · simp only [more, Bool.or_eq_true, decide_eq_true_eq] at h1
      rcases h1 with h1 | h1
      · exact I.fresh x b' t' i si h1 h2 h3 h4
      · subst h1
        rw [hk] at h2; simp only [Option.some.injEq] at h2; subst h2
        exact (freeR x _ h3 h4).elim
    · rcases hpost.fresh x b' t' h4.1 h4.2 he with h5 | ⟨z, u, hz, hzw, hze⟩
      · exact .inl (Nat.le_trans I.size h5)
      · have hW := F.W s (mem_of hk) z hzw
        rcases I.new z _ hze with h6 | ⟨j, sj, h6, h7, h8⟩
        · rcases hz.1 with h7 | ⟨j, sj, h7, h8, h9⟩
          · exact .inr ⟨z, u, h7, hW, h6⟩
          · obtain ⟨g1, g2⟩ := new_ge F h8 h9
            rw [F.pre.free z g1 g2] at h6; cases h6
        · exact I.fresh z b' u j sj h6 h7 h8 hze
  · intro j sj h1 h2 i hi
    simp only [more, Bool.or_eq_true, decide_eq_true_eq] at h1 ⊢
    rcases h1 with h1 | h1
    · exact .inl (I.closed j sj h1 h2 i hi)
    · subst h1
      rw [hk] at h2; simp only [Option.some.injEq] at h2; subst h2
      exact .inl (ready_before F I hk hrd i hi)

theorem inv_start (F : Facts ops fs L h h' tm e D w G P t hE tmE) {ds : List ADefer} {b : Frame} (hfr : FR e fs tm ds b a) {w0 : World} (hw : ∃ n, w0 = { w with drawn := n }) : Inv fs L h h' tm e D a w G (fun _ => false) e a w0 := by
  obtain ⟨n0, rfl⟩ := hw
  have hm : ∀ x, mAt L h (fun _ => false) x = h.mem.get x := fun x => lw_none _ _ _ (fun _ _ _ _ => rfl)
  have ht : ∀ x, tAt L tm (fun _ => false) x = tm.get x := fun x => lw_none _ _ _ (fun _ _ _ _ => rfl)
  have hD : ∀ x, DAt L D (fun _ => false) x → D x := by
    intro x hx
    rcases hx with hx | ⟨i, s, h1, _⟩
    · exact hx
    · cases h1
  exact {
    tmp := fun y v hy => hfr.tmps y v (by rw [← ht]; exact hy)
    tsize := hfr.size
    defers := rfl
    sat := ⟨fun id o hd hmm => F.pre.sat.holds id o (hD id hd) (by rw [← hm]; exact hmm), fun i j b' t1 t2 hi hj si sj ei ej => F.pre.sat.apart i j b' t1 t2 (hD i hi) (hD j hj) (by rw [← hm]; exact si) (by rw [← hm]; exact sj) ei ej⟩
    le := Env.le_refl e
    new := fun _ _ h => .inl h
    inside := F.pre.size
    size := Nat.le_refl _
    os := rfl
    tape := rfl
    output := rfl
    frame := fun _ _ _ => rfl
    fresh := fun _ _ _ _ _ h1 => by cases h1
    closed := fun _ _ h1 => by cases h1
    glob := F.pre.glob }

theorem Inv.congr {S' : Nat → Bool} (I : Inv fs L h h' tm e D a w G S eS aS wS) (hs : ∀ i, i < L.length → S i = S' i) (hcl : ∀ j sj, S' j = true → L[j]? = some sj → ∀ i, sj.bf.testBit i = true → S' i = true) : Inv fs L h h' tm e D a w G S' eS aS wS := by
  have hlt : ∀ i s, L[i]? = some s → S i = S' i := fun i s hi => hs i (List.getElem?_eq_some_iff.1 hi).1
  have hm : mAt L h S' = mAt L h S := funext fun x => lw_congr L 0 _ _ rfl (fun j s hj _ => by simpa using (hlt j s hj).symm)
  have ht : tAt L tm S' = tAt L tm S := funext fun x => lw_congr L 0 _ _ rfl (fun j s hj _ => by simpa using (hlt j s hj).symm)
  have hD : DAt L D S' = DAt L D S := funext fun x => propext ⟨fun hx => hx.imp id fun ⟨i, s, h1, h2, h3⟩ => ⟨i, s, by rw [hlt i s h2]; exact h1, h2, h3⟩, fun hx => hx.imp id fun ⟨i, s, h1, h2, h3⟩ => ⟨i, s, by rw [← hlt i s h2]; exact h1, h2, h3⟩⟩
  exact { I with
    tmp := by rw [ht]; exact I.tmp
    sat := by rw [hm, hD]; exact I.sat
    new := fun x p he => (I.new x p he).imp id fun ⟨i, s, h1, h2, h3⟩ => ⟨i, s, by rw [← hlt i s h2]; exact h1, h2, h3⟩
    fresh := fun x b' t' i s h1 h2 h3 he => I.fresh x b' t' i s (by rw [hlt i s h2]; exact h1) h2 h3 he
    closed := hcl }
end
end Go.AX

/-! AX: regions that draw: to the end. -/
namespace Go.AX

variable {G : Nat → Obj → Prop} {P : Program} {t : Fns}

section
variable {ops : Array Oper} {fs : FS} {b : Frame} {L : List Stp} {h h' hE : AH} {tm tmE : Tr AV} {e : Env} {D : Nat → Prop} {a : Act} {w : World}

theorem all_listed (F : Facts ops fs L h h' tm e D w G P t hE tmE) (hlen : L.length = ops.size) {listed : Array Bool} (hsz : listed.size = ops.size) (hr : Region.ready .any ops listed = []) : ∀ i, i < ops.size → listed.getD i false = true := by
  intro i
  induction i using Nat.strongRecOn with
  | ind i ih =>
    intro hi
    cases hl : listed.getD i false with
    | true => rfl
    | false =>
      exfalso
      have hs : L[i]? = some (L[i]'(by omega)) := List.getElem?_eq_getElem _
      have A := F.at' i _ hs
      have hmem : i ∈ Region.ready .any ops listed := by
        rw [mem_ready]
        refine ⟨?_, _, A.op, ?_⟩
        · have h1 : listed[i]? = some listed[i] := Array.getElem?_eq_getElem (by omega)
          rw [Array.getD_eq_getD_getElem?, h1] at hl ⊢
          exact hl
        · intro ed hed hb
          have := (A.before hs).1 ed (by simpa using hed) hb
          exact ih ed.on this (by omega)
      rw [hr] at hmem
      cases hmem

theorem go_sound (T : FnsOK G P t) (hrec : P.follows .rangeFuncRecover = true) (F : Facts ops fs L h h' tm e D w G P t hE tmE) (hlen : L.length = ops.size) {k : List Item} {cs : List Frame} (hk : KindOK b.kind b.roundOf cs) :
    ∀ (fuel tt : Nat) (listed : Array Bool) (eS : Env) (aS : Act) (wS : World), listed.size = ops.size → ops.size ≤ fuel + listed.toList.count true → Inv fs L h h' tm e D a w G (fun i => listed.getD i false) eS aS wS →
      ∃ a' w' e', Steps P (lone (b.atR aS (.inRegion ops (Region.linearise.go .any ops fuel tt listed []) :: k)) cs wS) (lone (b.atR a' (.inRegion ops [] :: k)) cs w') ∧ Inv fs L h h' tm e D a w G (fun _ => true) e' a' w' := by
  intro fuel
  induction fuel with
  | zero =>
    intro tt listed eS aS wS hsz hcnt I
    have hall : ∀ x ∈ listed.toList, true = x := by
      rw [← List.count_eq_length]
      have := List.count_le_length (a := true) (l := listed.toList)
      simp only [Array.length_toList] at this ⊢
      omega
    refine ⟨aS, wS, eS, .refl _ _, I.congr (fun i hi => ?_) (fun _ _ _ _ _ _ => rfl)⟩
    have h1 : listed[i]? = some listed[i] := Array.getElem?_eq_getElem (by omega)
    rw [Array.getD_eq_getD_getElem?, h1]
    exact (hall _ (Array.mem_toList_iff.2 (Array.getElem_mem _))).symm
  | succ fuel ih =>
    intro tt listed eS aS wS hsz hcnt I
    simp only [Region.linearise.go]
    change ∃ a' w' e', Steps P (lone (b.atR aS (.inRegion ops (match (Region.ready .any ops listed)[tt % (Region.ready .any ops listed).length]? with
      | some i => Region.linearise.go .any ops fuel (tt / (Region.ready .any ops listed).length) (listed.setIfInBounds i true) [i]
      | none => [].reverse) :: k)) cs wS) _ ∧ _
    cases hi : (Region.ready .any ops listed)[tt % (Region.ready .any ops listed).length]? with
    | none =>
      have hnil : Region.ready .any ops listed = [] := by
        cases hr : Region.ready .any ops listed with
        | nil => rfl
        | cons x xs =>
          rw [hr] at hi
          have hlt : tt % (x :: xs).length < (x :: xs).length := Nat.mod_lt _ (by simp)
          simp at hi
          simp at hlt
          omega
      have hall := all_listed F hlen hsz hnil
      exact ⟨aS, wS, eS, .refl _ _, I.congr (fun i hi => hall i (by omega)) (fun _ _ _ _ _ _ => rfl)⟩
    | some i =>
      have hmem := List.mem_of_getElem? hi
      rw [mem_ready] at hmem
      obtain ⟨hun, o, ho, hed⟩ := hmem
      have hilt : i < ops.size := (Array.getElem?_eq_some_iff.1 ho).1
      have hs : L[i]? = some (L[i]'(by omega)) := List.getElem?_eq_getElem _
      generalize hsi : L[i]'(by omega) = s at hs
      have A := F.at' i s hs
      have hso : o = s.o := by rw [A.op] at ho; simpa using ho.symm
      subst hso
      have hli : listed[i]? = some listed[i] := Array.getElem?_eq_getElem (by omega)
      have hun' : listed.getD i false = false := by
        rw [Array.getD_eq_getD_getElem?, hli] at hun ⊢
        exact hun
      have hrd : ∀ ed ∈ s.o.after.toList, Region.binds .any ed = true → (fun i => listed.getD i false) ed.on = true := fun ed h1 h2 => hed ed (by simpa using h1) h2
      simp only []
      rw [linearise_go_acc, List.reverse_singleton, List.singleton_append]
      obtain ⟨cv, w1, e1, hst, hv, hpost⟩ := one_step T hrec (k := k) hk (rest := Region.linearise.go .any ops fuel (tt / (Region.ready .any ops listed).length) (listed.setIfInBounds i true) []) A.op A.hd A.hw A.hop A.hno
        (e := eS) (D := DOp L h D (fun i => listed.getD i false) s) (a := aS) (w := wS)
        (fun y v hy hv => I.tmp y v (by rw [tread_same F I hs hun' hrd hy]; exact hv)) (op_pre F I hs hun' hrd)
      have I1 := inv_step F I hs hun' hrd hv hpost
      have hset : ∀ j, more (fun i => listed.getD i false) i j = true → (listed.setIfInBounds i true).getD j false = true := by
        intro j hj
        simp only [more, Bool.or_eq_true, decide_eq_true_eq] at hj
        rcases hj with hj | rfl
        · exact getD_set_true hj
        · rw [Array.getD_eq_getD_getElem?, Array.getElem?_setIfInBounds_self]
          simp [hsz, hilt]
      have hback : ∀ j, (listed.setIfInBounds i true).getD j false = true → more (fun i => listed.getD i false) i j = true := by
        intro j hj
        simp only [more, Bool.or_eq_true, decide_eq_true_eq]
        by_cases hji : j = i
        · exact .inr hji
        · rw [getD_set_ne false (Ne.symm hji)] at hj; exact .inl hj
      have heq : ∀ j, more (fun i => listed.getD i false) i j = (listed.setIfInBounds i true).getD j false := by
        intro j
        cases h1 : more (fun i => listed.getD i false) i j with
        | true => exact (hset j h1).symm
        | false =>
          cases h2 : (listed.setIfInBounds i true).getD j false with
          | true => rw [hback j h2] at h1; cases h1
          | false => rfl
      have I2 : Inv fs L h h' tm e D a w G (fun j => (listed.setIfInBounds i true).getD j false) e1 (aS.put s.o.dst cv) w1 :=
        I1.congr (fun j _ => heq j) (fun j sj h1 h2 i' hi' => by rw [← heq] at h1 ⊢; exact I1.closed j sj h1 h2 i' hi')
      obtain ⟨a', w', e', hst2, I3⟩ := ih (tt / (Region.ready .any ops listed).length) (listed.setIfInBounds i true) e1 (aS.put s.o.dst cv) w1 (by simpa using hsz) (by
        rw [Array.toList_setIfInBounds, List.count_set (by simpa [hsz] using hilt)]
        have hb : (listed.toList[i]'(by simpa [hsz] using hilt)) = false := by
          rw [Array.getElem_toList]
          have : listed.getD i false = listed[i] := by rw [Array.getD_eq_getD_getElem?, hli]; rfl
          rw [← this, hun']
        rw [hb]
        have hz : (if (false == true) = true then 1 else 0 : Nat) = 0 := rfl
        have ho : (if (true == true) = true then 1 else 0 : Nat) = 1 := rfl
        rw [hz, ho]
        omega) I2
      exact ⟨a', w', e', hst.trans hst2, I3⟩
end

theorem draw_sound (T : FnsOK G P t) (hrec : P.follows .rangeFuncRecover = true) (hmix : P.follows .mixedOrders = true) : DrawOK G P t := by
  intro fs ops tm h tm' h' hh e D b a ds k cs w id hfr hk hp
  obtain ⟨L, hE, c, c2, c3, c4, c5⟩ := draw_ch hh (by simp)
  simp only at c c2 c3 c4 c5
  have hlen : L.length = ops.size := by rw [c.length]; simp
  have hR : ∀ s ∈ L, ∀ x, s.r.2.R.testBit x = true → h'.R.testBit x = true := fun s hs x hx => (c4 x).2 (.inr ⟨s, hs, hx⟩)
  have hW : ∀ s ∈ L, ∀ x, s.r.2.W.testBit x = true → h'.W.testBit x = true := fun s hs x hx => (c5 x).2 (.inr ⟨s, hs, hx⟩)
  have hN : ∀ s ∈ L, s.r.2.next ≤ h'.next := fun s hs => by rw [c3]; exact (c.nexts T.le).2 s hs
  have hpc : Pre G e D h.clean h' w := hp.clean
  have haf := text_af T hrec (k := k) hk c e D a w h' rfl hfr hpc hR hN
  have F : Facts ops fs L h.clean h' tm e D w G P t hE tm' := {
    at' := c.at
    af := haf
    order := c.order haf
    mem := (c.memAt haf 0).1
    tms := (c.tmAt 0).1
    R := hR
    W := hW
    pre := hpc
    next := c3 }
  have I0 := inv_start F hfr (w0 := { w with drawn := w.drawn + 1 }) ⟨_, rfl⟩
  have hrep : ∀ i, (Array.replicate ops.size false).getD i false = false := by
    intro i
    rw [Array.getD_eq_getD_getElem?, Array.getElem?_replicate]
    split <;> rfl
  have I1 : Inv fs L h.clean h' tm e D a w G (fun i => (Array.replicate ops.size false).getD i false) e a { w with drawn := w.drawn + 1 } :=
    I0.congr (fun i _ => (hrep i).symm) (fun j sj h1 => by rw [hrep] at h1; cases h1)
  obtain ⟨a', w', e', hst, I⟩ := go_sound T hrec F hlen (b := b) (k := k) (cs := cs) hk ops.size (w.tape w.drawn (.order b.fn id)) (Array.replicate ops.size false) e a { w with drawn := w.drawn + 1 } (by simp) (by omega) I1
  have hmem : ∀ x, mAt L h.clean (fun _ => true) x = hE.mem.get x := (c.memAt haf 0).2
  have htms : ∀ x, tAt L tm (fun _ => true) x = tm'.get x := (c.tmAt 0).2
  have hends := c.ends haf hpc.wf
  obtain ⟨o1, o2, o3, o4, o5⟩ := c.order haf
  simp only [AH.clean_next] at o1 o2 o4 o5
  have hnew : ∀ x, (∃ i s, (fun _ : Nat => true) i = true ∧ L[i]? = some s ∧ s.new x) ↔ (h.next ≤ x ∧ x < h'.next) := by
    intro x
    constructor
    · rintro ⟨i, s, _, h1, h2⟩
      have := new_ge F h1 h2
      simpa using this
    · rintro ⟨h1, h2⟩
      rw [c3] at h2
      obtain ⟨j, s, g1, g2⟩ := o5 x h1 h2
      exact ⟨j, s, rfl, g1, g2⟩
  have hDAt : ∀ x, DAt L D (fun _ => true) x ↔ (D x ∨ (h.next ≤ x ∧ x < h'.next)) := fun x => by
    unfold DAt
    rw [hnew x]
  refine ⟨a', w', e', ?_, ?_, ?_⟩
  · have hsch : Region.schedule (P.follows .mixedOrders) ops (w.tape w.drawn (.order b.fn id)) = Region.linearise.go .any ops ops.size (w.tape w.drawn (.order b.fn id)) (Array.replicate ops.size false) [] := by
      simp only [Region.schedule, hmix, Bool.true_or, if_true, Region.linearise]
    refine .head stepR_region_draw ?_
    rw [hsch]
    exact hst.trans (.one stepR_region_end)
  · exact ⟨hfr.fn, I.tsize, fun i v hv => I.tmp i v (by rw [htms]; exact hv), hfr.round.mono I.le, by rw [I.defers]; exact hfr.defers.mono I.le⟩
  · exact {
      le := I.le
      new := fun x p he => (I.new x p he).imp (fun z => z) fun hx => (hnew x).1 hx
      next := by rw [c3]; exact o1
      R := fun x hx => (c4 x).2 (.inl hx)
      W := fun x hx => (c5 x).2 (.inl hx)
      WR := fun x hx => by
        rcases (c5 x).1 hx with h1 | ⟨s, hs, h1⟩
        · exact .inl h1
        · exact .inr ((c4 x).2 (.inr ⟨s, hs, (haf s hs).wr x h1⟩))
      mem := fun x hx hw => by
        rw [c2, ← hmem x]
        unfold mAt
        rw [lw_none]
        · simp
        · intro j s hj hwr
          exfalso
          rcases hwr with h1 | h1
          · have := (c5 x).2 (.inr ⟨s, mem_of hj, h1⟩)
            rw [this] at hw; cases hw
          · have := (o2 j s hj).1; have := h1.1; omega
      sat := by
        constructor
        · intro x o hd hm
          exact I.sat.holds x o ((hDAt x).2 hd) (by rw [hmem, ← c2]; exact hm)
        · intro i j b' t1 t2 hi hj si sj ei ej
          exact I.sat.apart i j b' t1 t2 ((hDAt i).2 hi) ((hDAt j).2 hj) (by rw [hmem, ← c2]; exact si) (by rw [hmem, ← c2]; exact sj) ei ej
      frame := I.frame
      fresh := fun x b' t' h1 h2 he => by
        obtain ⟨j, s, _, g1, g2⟩ := (hnew x).2 ⟨h1, h2⟩
        exact I.fresh x b' t' j s rfl g1 g2 he
      inside := I.inside
      size := I.size
      os := I.os
      tape := I.tape
      output := I.output
      wf := fun x hx => by rw [c2]; exact hends.1 x (by rw [← c3]; exact hx)
      live := fun x hx => by
        rcases (c5 x).1 hx with h1 | ⟨s, hs, h1⟩
        · exact .inl h1
        · have := hends.2 s hs x h1
          simp only [AH.clean_next, AH.clean_mem] at this
          exact .inr this }

/-- The whole: every depth. -/
theorem fns_ok {H : FuncId → List AV → AH → Option (AV × AH)} (hH : HookOK G P H) (hent : EntersOK P) (hrec : P.follows .rangeFuncRecover = true) (hmix : P.follows .mixedOrders = true) : ∀ n, FnsOK G P (tower P H n)
  | 0 => { le := tower_le hH.2 0, xf := (by intro _ _ _ _ _ _ _ hh; cases hh), code := (by intro _ _ _ _ _ _ _ _ hh; cases hh), unwind := (by intro _ _ _ _ _ _ hh; cases hh), call := (by intro _ _ _ _ _ hh; cases hh), callD := (by intro _ _ _ _ _ hh; cases hh) }
  | n + 1 => by
    have T := fns_ok hH hent hrec hmix n
    exact { le := tower_le hH.2 (n + 1), xf := xf_sound T, code := code_sound T hrec (draw_sound T hrec hmix), unwind := unwind_sound T, call := call_sound T hH hent, callD := body_sound T hent }

noncomputable def h0 : AH := ⟨.leaf, 0, 0, 0⟩

/-- A call that the executor carries out. -/
theorem calls_exec {H : FuncId → List AV → AH → Option (AV × AH)} (hH : HookOK G P H) (hent : EntersOK P) (hrec : P.follows .rangeFuncRecover = true) (hmix : P.follows .mixedOrders = true) {n : Nat} {f : FuncId} {fn : Func} {c : Code}
    (hf : P.funcs[f]? = some fn) (hc : fn.body = some c) {args : List AV} {cargs : Array Value} {v : AV} {h' : AH} (hx : (tower P H n).call f args h0 = some (v, h')) (ha : VRL (fun _ => none) args cargs.toList) (w : World)
    (hG : ∀ b o, G b o → w.heap[b]? = some o) :
    Calls P f cargs w fun e w' => (∃ cv e', e = .returned cv ∧ VR e' v cv) ∧ RowKit.Below w.heap.size w w' := by
  intro cs
  have T := fns_ok hH hent hrec hmix n
  have hp : Pre G (fun _ => none) (fun _ => False) h0 h' w := {
    sat := ⟨fun _ _ h => h.elim, fun _ _ _ _ _ h => h.elim⟩
    lt := fun _ h => h.elim
    free := fun _ _ _ => rfl
    cover := fun id _ h => absurd h (Nat.not_lt_zero _)
    size := fun _ _ _ h => by cases h
    wf := fun id _ => by simp [h0, Tr.get_leaf]
    glob := fun b o hb => ⟨hG b o hb, fun _ _ h => by cases h⟩ }
  obtain ⟨cv, w', e', hcr, hv, hpost⟩ := T.call _ _ _ _ _ hx (fun _ => none) (fun _ => False) cargs cs w ha hp
  rcases hcr with hcr | ⟨_, fr, hst, hfn, hk, g1, g2, fn', g3, g4⟩
  · rw [hent f fn c hf hc] at hcr; cases hcr
  · exact ⟨.returned cv, w', fr, ⟨⟨cv, e', rfl, hv⟩, hpost.os, hpost.tape, hpost.output, hpost.size, fun b hb => hpost.frame b hb (fun _ _ h => h.elim)⟩, hst, hfn, g1, g2, hk, fn', g3, g4⟩

/-- A call that the executor finds to come to true, comes to true, and all that lay stays. -/
theorem calls_true {H : FuncId → List AV → AH → Option (AV × AH)} (hH : HookOK G P H) (hent : EntersOK P) (hrec : P.follows .rangeFuncRecover = true) (hmix : P.follows .mixedOrders = true) {n : Nat} {f : FuncId} {fn : Func} {c : Code}
    (hf : P.funcs[f]? = some fn) (hc : fn.body = some c) {args : List AV} {cargs : Array Value} {h' : AH} (hx : (tower P H n).call f args h0 = some (.bool true, h')) (ha : VRL (fun _ => none) args cargs.toList) (w : World)
    (hG : ∀ b o, G b o → w.heap[b]? = some o) : Calls P f cargs w fun e w' => e = .returned (.bool true) ∧ RowKit.Below w.heap.size w w' :=
  (calls_exec hH hent hrec hmix hf hc hx ha w hG).mono fun e w' ⟨⟨cv, e', h1, h2⟩, h3⟩ => by
    cases h2
    exact ⟨h1, h3⟩
end Go.AX

/-! AX: the four stand-ins do what the library's functions do: plain laws. -/
namespace Go.AX

theorem isPre_eq : ∀ (a b : List UInt8), isPre a b = a.isPrefixOf b
  | [], _ => by simp [isPre]
  | _ :: _, [] => by simp [isPre]
  | a :: x, b :: y => by
    have h : Nat.beq a.toNat b.toNat = (a == b) := by
      by_cases hab : a = b
      · subst hab; simp
      · have : a.toNat ≠ b.toNat := fun hc => hab (UInt8.toNat_inj.1 hc)
        rw [beq_false_of_ne hab]
        cases h : Nat.beq a.toNat b.toNat with
        | false => rfl
        | true => exact absurd (Nat.eq_of_beq_eq_true h) this
    simp only [isPre, h, List.isPrefixOf]
    cases (a == b) with
    | true => simp [isPre_eq x y]
    | false => rfl

theorem containsL_eq (t : List UInt8) : ∀ s : List UInt8, containsL s t = Lib.contains s t
  | [] => by
    simp only [containsL, isPre_eq, Lib.contains, Lib.index]
    cases t <;> simp
  | b :: l => by
    have ih := containsL_eq t l
    simp only [Lib.contains] at ih
    have hge := Lib.index_ge l t
    simp only [containsL, isPre_eq, Lib.contains, Lib.index]
    by_cases hp : t.isPrefixOf (b :: l) = true
    · simp only [hp, if_true]; simp
    · simp only [Bool.not_eq_true] at hp
      simp only [hp, Bool.false_eq_true, if_false, ih]
      by_cases h1 : Lib.index l t = -1
      · simp [h1]
      · have : (Lib.index l t == -1) = false := beq_false_of_ne h1
        simp only [this, Bool.false_eq_true, if_false, decide_eq_decide]
        omega

theorem idxByte_eq {n : Nat} (hn : n < 256) : ∀ (l : List UInt8) (i : Nat), idxByte l n i = if Lib.indexByte l n.toUInt8 = -1 then -1 else Lib.indexByte l n.toUInt8 + i
  | [], i => by simp [idxByte, Lib.indexByte]
  | b :: l, i => by
    have ih := idxByte_eq hn l (i + 1)
    have hge := Lib.indexByte_ge l n.toUInt8
    have hc : n.toUInt8.toNat = n := by simp [Nat.toUInt8]; omega
    have h : Nat.beq b.toNat n = (b == n.toUInt8) := by
      by_cases hab : b = n.toUInt8
      · rw [hab, hc]; simp
      · have : b.toNat ≠ n := fun he => hab (UInt8.toNat_inj.1 (by rw [hc]; exact he))
        rw [beq_false_of_ne hab]
        cases h : Nat.beq b.toNat n with
        | false => rfl
        | true => exact absurd (Nat.eq_of_beq_eq_true h) this
    simp only [idxByte, h, Lib.indexByte, ih]
    by_cases hp : (b == n.toUInt8) = true
    · simp only [hp, if_true]; simp
    · simp only [Bool.not_eq_true] at hp
      simp only [hp, Bool.false_eq_true, if_false]
      by_cases h1 : Lib.indexByte l n.toUInt8 = -1
      · simp [h1]
      · have : (Lib.indexByte l n.toUInt8 == -1) = false := beq_false_of_ne h1
        simp only [this, Bool.false_eq_true, if_false, h1]
        rw [if_neg (by omega)]
        simp only [Int.natCast_add, Int.natCast_one]
        omega

theorem mask_bit : ∀ (l : List UInt8) (x : UInt8), (maskA l).testBit x.toNat = l.contains x
  | [], x => by simp [maskA]
  | b :: l, x => by
    show ((1 <<< b.toNat) ||| maskA l).testBit x.toNat = _
    rw [Nat.testBit_or, mask_bit l x, Nat.one_shiftLeft, Nat.testBit_two_pow, List.contains_cons]
    congr 1
    by_cases h : b = x
    · subst h; simp
    · have : b.toNat ≠ x.toNat := fun hc => h (UInt8.toNat_inj.1 hc)
      rw [decide_eq_false this]
      exact (beq_false_of_ne (Ne.symm h)).symm

theorem land_bit (m i : Nat) : Nat.beq (Nat.land (Nat.shiftRight m i) 1) 1 = m.testBit i := by
  have h1 : Nat.land (Nat.shiftRight m i) 1 = (m >>> i) &&& 1 := rfl
  rw [h1, Nat.and_one_is_mod, Nat.testBit_eq_decide_div_mod_eq, Nat.shiftRight_eq_div_pow]
  by_cases h : m / 2 ^ i % 2 = 1
  · rw [h]; simp
  · rw [decide_eq_false h]
    cases hb : Nat.beq (m / 2 ^ i % 2) 1 with
    | false => rfl
    | true => exact absurd (Nat.eq_of_beq_eq_true hb) h

theorem bits_get (m : Nat) : ∀ (n i k : Nat), k < n → (bitsFrom m n i)[k]? = some (.bool (m.testBit (i + k)))
  | n + 1, i, 0, _ => by
    show ((AV.bool (Nat.beq (Nat.land (Nat.shiftRight m i) 1) 1)) :: bitsFrom m n (Nat.add i 1))[0]? = _
    rw [land_bit]; rfl
  | n + 1, i, k + 1, h => by
    show ((AV.bool (Nat.beq (Nat.land (Nat.shiftRight m i) 1) 1)) :: bitsFrom m n (Nat.add i 1))[k + 1]? = _
    rw [List.getElem?_cons_succ, bits_get m n _ k (by omega)]
    simp only [Nat.add_eq]
    rw [show i + 1 + k = i + (k + 1) by omega]
theorem bits_length (m : Nat) : ∀ (n i : Nat), (bitsFrom m n i).length = n
  | 0, _ => rfl
  | n + 1, i => by
    show ((AV.bool (Nat.beq (Nat.land (Nat.shiftRight m i) 1) 1)) :: bitsFrom m n (Nat.add i 1)).length = _
    rw [List.length_cons, bits_length m n]

theorem VRL.of_get {e : Env} : ∀ (as : List AV) (vs : List Value), as.length = vs.length → (∀ (i : Nat) a v, as[i]? = some a → vs[i]? = some v → VR e a v) → VRL e as vs
  | [], [], _, _ => .nil
  | [], _ :: _, h, _ => by simp at h
  | _ :: _, [], h, _ => by simp at h
  | a :: as, v :: vs, h, hg => .cons _ _ _ _ (hg 0 a v rfl rfl) (VRL.of_get as vs (by simpa using h) fun i x y hx hy => hg (i + 1) x y (by simpa using hx) (by simpa using hy))

theorem set_rel (e : Env) (l : List UInt8) : VRL e (bitsFrom (maskA l) 256 0) (Lib.setCells l).toList := by
  have hsz : (Lib.setCells l).size = 256 := by
    unfold Lib.setCells
    have : ∀ (l : List UInt8) (a : Array Value), (l.foldl (fun a c => a.setIfInBounds c.toNat (.bool true)) a).size = a.size := by
      intro l
      induction l with
      | nil => intro a; rfl
      | cons c l ih => intro a; rw [List.foldl_cons, ih]; simp
    rw [this]; simp
  refine VRL.of_get _ _ (by rw [bits_length, Array.length_toList, hsz]) ?_
  intro i a v ha hv
  have hi : i < 256 := by
    have := (List.getElem?_eq_some_iff.1 ha).1
    rwa [bits_length] at this
  rw [bits_get _ _ _ _ hi, Nat.zero_add] at ha
  simp only [Option.some.injEq] at ha
  subst ha
  have hx : i.toUInt8.toNat = i := by simp [Nat.toUInt8]; omega
  have hcell := Lib.fold_at l (Array.replicate 256 (.bool false)) false i.toUInt8 (by rw [Array.getElem?_replicate, hx, if_pos hi])
  rw [Bool.false_or, hx] at hcell
  rw [Array.getElem?_toList] at hv
  have : (Lib.setCells l)[i]? = some (.bool (l.contains i.toUInt8)) := hcell
  rw [this] at hv
  simp only [Option.some.injEq] at hv
  subst hv
  have hm := mask_bit l i.toUInt8
  rw [hx] at hm
  rw [hm]
  exact .bool _

theorem allAscii_spec : ∀ (l : List UInt8), allAscii l = true → ∀ (j : Nat) b, l[j]? = some b → b.toNat < 128
  | [], _, j, b, h => by simp at h
  | x :: l, h, j, b, hj => by
    simp only [allAscii] at h
    cases hb : Nat.blt x.toNat 128 with
    | false => rw [hb] at h; cases h
    | true =>
      rw [hb] at h
      cases j with
      | zero => simp only [List.getElem?_cons_zero, Option.some.injEq] at hj; subst hj; simpa [Nat.blt_eq] using hb
      | succ j => exact allAscii_spec l h j b (by simpa using hj)

/-- The world grew, and nothing that lay has turned. -/
theorem Post.below {G : Nat → Obj → Prop} {e : Env} {D : Nat → Prop} {h h' : AH} {w w' : World} (hp : Pre G e D h h' w) (hb : RowKit.Below w.heap.size w w') : Post e D h h w w' e :=
  { Post.refl hp with
    sat := by
      have h0 := (Post.refl hp).sat
      exact ⟨fun id o hd hm => by
        obtain ⟨b, t, co, h1, h2, h3⟩ := h0.holds id o hd hm
        exact ⟨b, t, co, h1, by rw [hb.block b (hp.size _ _ _ h1)]; exact h2, h3⟩, h0.apart⟩
    frame := fun b hlt _ => hb.block b hlt
    fresh := fun id _ _ a b => by omega
    inside := fun id b t he => Nat.lt_of_lt_of_le (hp.size id b t he) hb.size
    size := hb.size
    os := hb.os
    tape := hb.tape
    output := hb.output }

theorem callR_of {P : Program} {f : FuncId} {cargs : Array Value} {w : World} {R : Ending → World → Prop} (hc : Calls P f cargs w R) (hen : (callFunc f cargs).run P w = .ok (.enter f cargs) w) {Q : Value → World → Prop}
    (hR : ∀ e w', R e w' → ∃ cv, e = .returned cv ∧ Q cv w') (cs : List Frame) : ∃ cv w', CallR P f cargs w .normal cs cv w' ∧ Q cv w' := by
  obtain ⟨e, w', fr, hr, hco, hfn, hl⟩ := hc cs
  obtain ⟨cv, rfl, hq⟩ := hR e w' hr
  obtain ⟨g1, g2, g3, fn, g4, g5⟩ := hl
  exact ⟨cv, w', .inr ⟨hen, fr, hco, hfn, g3, g1, g2, fn, g4, g5⟩, hq⟩

/-- One call without arguments, known to come to true. -/
noncomputable def hookT (k : Nat) (f : FuncId) (args : List AV) (h : AH) : Option (AV × AH) :=
  bc (Nat.beq f k) (match args with
    | [] => some (.bool true, h)
    | _ => none) none

theorem hookT_ok {G : Nat → Obj → Prop} {P : Program} {k : Nat} (hent : ∀ args w, (callFunc k args).run P w = .ok (.enter k args) w)
    (hc : ∀ w : World, (∀ b o, G b o → w.heap[b]? = some o) → Calls P k #[] w fun e w' => e = .returned (.bool true) ∧ RowKit.Below w.heap.size w w') : HookOK G P (hookT k) := by
  constructor
  · intro f args h v h' hh e D cargs cs w ha hp
    unfold hookT at hh
    rcases bc_get hh with ⟨hf, hh1⟩ | ⟨_, hh1⟩
    · clear hh
      have hf' : f = k := Nat.eq_of_beq_eq_true hf
      subst hf'
      split at hh1
      · simp only [Option.some.injEq, Prod.mk.injEq] at hh1
        obtain ⟨rfl, rfl⟩ := hh1
        have h0 : cargs = #[] := by
          obtain ⟨l⟩ := cargs
          cases ha
          rfl
        subst h0
        obtain ⟨cv, w', hcr, rfl, hb⟩ := callR_of (hc w (fun b o hb => (hp.glob b o hb).1)) (hent #[] w) (Q := fun cv w' => cv = .bool true ∧ RowKit.Below w.heap.size w w') (fun e w' hr => ⟨_, hr.1, rfl, hr.2⟩) cs
        exact ⟨_, w', e, hcr, .bool _, Post.below hp hb⟩
      · cases hh1
    · cases hh1
  · intro f args h v h' hh
    unfold hookT at hh
    rcases bc_get hh with ⟨_, hh⟩ | ⟨_, hh⟩
    · split at hh
      · simp only [Option.some.injEq, Prod.mk.injEq] at hh
        rw [← hh.2]; exact AH.Le.refl h
      · cases hh
    · cases hh
end Go.AX
