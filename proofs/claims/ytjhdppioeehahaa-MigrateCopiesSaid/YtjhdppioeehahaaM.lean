/- A symbolic machine: the code of a Go function as a tree of steps over named blocks of memory, and the proof that the tree tells what the model does. No condition. -/
import Derived.Below
import Derived.Tactics
import Derived.Tactics2
import Derived.WalkKit
import Derived.Deep.Quiet
import Derived.Deep.LoopGhost
import Derived.Deep.Draws
import Derived.RowKit
import Derived.Maps.AppendAt
import Derived.Laws.MakeOwn
import Derived.Laws.OwnMore
import Derived.KernelRfl
namespace Go.Proofs.YtjhdppioeehahaaM
open Go Go.RowKit

/-! ### Frames -/
abbrev Fr := Nat → Value
def upd (fr : Fr) (d : Nat) (v : Value) : Fr := fun i => bif Nat.beq i d then v else fr i
theorem upd_at (fr : Fr) (d : Nat) (v : Value) (i : Nat) : upd fr d v i = bif Nat.beq i d then v else fr i := rfl
theorem beq_no {i d : Nat} (h : ¬ i = d) : Nat.beq i d = false := by rw [← Bool.not_eq_true, Nat.beq_eq]; exact h
theorem beq_yes (i : Nat) : Nat.beq i i = true := by rw [Nat.beq_eq]
def putF (N : Nat) (fr : Fr) (d : Option Nat) (v : Value) : Fr := match d with
  | some d => bif Nat.blt d N then upd fr d v else fr
  | none => fr
def evF (fr : Fr) : Operand → Value
  | .tmp t => fr t
  | .const v => v
  | .global g => .pointer (some ⟨g, 0, none⟩)
  | .func f => .func (.func f) #[] #[]
def litF (c : Operand) (b : Bool) (fr : Fr) : Fr := match c with
  | .tmp t => upd fr t (.bool b)
  | _ => fr
structure RF (N : Nat) (fr : Fr) (a : Act) : Prop where
  sz : a.tmps.size = N
  at_ : ∀ i, a.tmps.getD i undef = fr i
  df : a.defers = []
theorem RF.ev {N : Nat} {fr : Fr} {a : Act} (h : RF N fr a) (x : Operand) : a.eval x = evF fr x := by
  cases x with
  | tmp t => exact h.at_ t
  | _ => rfl
theorem RF.eval {N : Nat} {fr : Fr} {a : Act} (h : RF N fr a) : a.eval = evF fr := funext h.ev
theorem RF.put {N : Nat} {fr : Fr} {a : Act} (h : RF N fr a) (d : Option Nat) (v : Value) : RF N (putF N fr d v) (a.put d v) := by
  cases d with
  | none => exact h
  | some d =>
    refine ⟨by simp [Act.put, h.sz], fun i => ?_, by simpa [Act.put] using h.df⟩
    have hi := h.at_ i
    have hs := h.sz
    simp only [Act.put, putF, Array.getD_eq_getD_getElem?] at hi ⊢
    by_cases hd : d < N
    · have : Nat.blt d N = true := by simp [Nat.blt_eq, hd]
      rw [this]
      simp only [cond_true, upd_at]
      by_cases hid : i = d
      · subst hid; simp [hs, hd]
      · rw [beq_no hid]
        simp only [cond_false]
        rw [Array.getElem?_setIfInBounds_ne (Ne.symm hid)]
        exact hi
    · have : Nat.blt d N = false := by rw [← Bool.not_eq_true, Nat.blt_eq]; exact hd
      rw [this]
      simp only [cond_false]
      rw [Array.setIfInBounds_eq_of_size_le (by omega)]
      exact hi
theorem RF.same {N : Nat} {fr fr' : Fr} {a : Act} (h : RF N fr a) (he : ∀ i, fr' i = fr i) : RF N fr' a := by
  have : fr' = fr := funext he
  rw [this]; exact h
theorem upd_same {fr : Fr} {t : Nat} {v : Value} (h : fr t = v) : upd fr t v = fr := by
  funext i
  unfold upd
  by_cases hi : i = t
  · subst hi; simp [h]
  · simp [beq_no hi]
theorem litF_same {fr : Fr} {c : Operand} {b : Bool} (h : evF fr c = .bool b) : litF c b fr = fr := by
  cases c with
  | tmp t => exact upd_same h
  | _ => rfl

/-! ### Memory -/
structure St where
  ro : Addr → Option Value
  H : Nat → Option Obj
structure SH (w0 : World) (S : St) (w : World) : Prop where
  below : Below w0.heap.size w0 w
  ro : ∀ a v, S.ro a = some v → w.cell? a = some v ∧ S.H a.block = none
  h : ∀ b o, S.H b = some o → w.heap[b]? = some o ∧ w0.heap.size ≤ b
/-- S knows no less than S'. -/
def Le (S S' : St) : Prop := ∀ w0 w, SH w0 S w → SH w0 S' w
theorem Le.refl (S : St) : Le S S := fun _ _ h => h
theorem Le.trans {S S1 S2 : St} (h : Le S S1) (k : Le S1 S2) : Le S S2 := fun _ _ h0 => k _ _ (h _ _ h0)
def St.put (S : St) (b : Nat) (o : Obj) : St := { S with H := fun x => if x = b then some o else S.H x }
def St.del (S : St) (b : Nat) : St := { S with H := fun x => if x = b then none else S.H x }
/-- A block of which S says nothing. -/
def Fresh (S : St) (b : Nat) : Prop := S.H b = none ∧ ∀ o s, S.ro ⟨b, o, s⟩ = none
theorem SH.drew {w0 w : World} {S : St} (h : SH w0 S w) : SH w0 S { w with drawn := w.drawn + 1 } :=
  ⟨⟨h.below.os, h.below.tape, h.below.output, h.below.size, h.below.block⟩, h.ro, h.h⟩
theorem SH.lt {w0 w : World} {S : St} {b : Nat} {o : Obj} (h : SH w0 S w) (hb : S.H b = some o) : b < w.heap.size := by
  have := (h.h b o hb).1
  rcases Nat.lt_or_ge b w.heap.size with h1 | h1
  · exact h1
  · rw [Array.getElem?_eq_none h1] at this; cases this

/-! ### Triples of the model's own computations -/
def OpT {α : Type} (P : Program) (s : Sem α) (S : St) (K : α → St → Prop) : Prop :=
  ∀ w0 w, SH w0 S w → ∃ v w' S', s.run P w = .ok v w' ∧ SH w0 S' w' ∧ K v S'
theorem OpT.mono {α : Type} {P : Program} {s : Sem α} {S : St} {K K' : α → St → Prop} (h : OpT P s S K) (hk : ∀ v S', K v S' → K' v S') : OpT P s S K' :=
  fun w0 w hw => let ⟨v, w', S', h1, h2, h3⟩ := h w0 w hw; ⟨v, w', S', h1, h2, hk _ _ h3⟩
theorem OpT.le {α : Type} {P : Program} {s : Sem α} {S S1 : St} {K : α → St → Prop} (hl : Le S S1) (h : OpT P s S1 K) : OpT P s S K :=
  fun w0 w hw => h w0 w (hl w0 w hw)
theorem OpT.pure_ {α : Type} {P : Program} {v : α} {S : St} {K : α → St → Prop} (h : K v S) : OpT P (Sem.pure v) S K :=
  fun _ w hw => ⟨v, w, S, rfl, hw, h⟩
theorem OpT.of_run {α : Type} {P : Program} {s : Sem α} {v : α} {S : St} {K : α → St → Prop} (hr : ∀ w0 w, SH w0 S w → s.run P w = .ok v w) (h : K v S) : OpT P s S K :=
  fun w0 w hw => ⟨v, w, S, hr w0 w hw, hw, h⟩
/-- A function with a body. -/
def Plain (P : Program) (f : FuncId) : Prop := ∃ fn, P.funcs[f]? = some fn ∧ fn.body.isNone = false ∧ (fn.name == "runtime.NumGoroutine") = false
/-- A call: whatever the world that S tells of, it returns a value and a memory of which Post holds. -/
def HC (P : Program) (f : FuncId) (args : Array Value) (S : St) (Post : Value → St → Prop) : Prop :=
  Plain P f ∧ ∀ w0 w, SH w0 S w → Calls P f args w fun e w' => ∃ v S', e = .returned v ∧ SH w0 S' w' ∧ Post v S'
theorem HC.mono {P : Program} {f : FuncId} {args : Array Value} {S : St} {Post Post' : Value → St → Prop} (h : HC P f args S Post) (hk : ∀ v S', Post v S' → Post' v S') : HC P f args S Post' :=
  ⟨h.1, fun w0 w hw => (h.2 w0 w hw).mono fun _ _ ⟨v, S', h1, h2, h3⟩ => ⟨v, S', h1, h2, hk _ _ h3⟩⟩
theorem HC.le {P : Program} {f : FuncId} {args : Array Value} {S S1 : St} {Post : Value → St → Prop} (hl : Le S S1) (h : HC P f args S1 Post) : HC P f args S Post :=
  ⟨h.1, fun w0 w hw => h.2 w0 w (hl w0 w hw)⟩

/-! ### Trees -/
/-- The computations on memory, by name. -/
inductive Tag where
  | load (t : TypeId) (a : Value)
  | store (t : TypeId) (a v : Value)
  | alloc (e : TypeId)
  | box (e : TypeId) (v : Value)
  | build (t : TypeId) (ps : List (Nat × Value))
  | buildSlice (t : TypeId) (n : Nat) (ps : List (Nat × Value))
  | makeSlice (t : TypeId) (l c : Value)
  | slice (t : TypeId) (x : Value) (lo hi mx : Option Value)
  | field (t : TypeId) (x : Value) (i : Nat)
  | index (t : TypeId) (x i : Value)
  | append (ts : Array TypeId) (ty : TypeId) (args : List Value)
  | copy (ts : Array TypeId) (ty : TypeId) (args : List Value)
  | other (s : Sem Value)
def semOf : Tag → Sem Value
  | .load t a => Instr.loadAt t a
  | .store t a v => do Instr.storeAt t a v; pure undef
  | .alloc e => Instr.alloc e true (.tuple #[])
  | .box e v => Instr.box e v
  | .build t ps => Instr.build t ps.toArray
  | .buildSlice t n ps => Instr.buildSlice t n ps.toArray
  | .makeSlice t l c => Instr.makeSlice t l c
  | .slice t x lo hi mx => Instr.sliceAt t x lo hi mx
  | .field t x i => Instr.field t x i
  | .index t x i => Instr.index t x i
  | .append ts ty args => Builtin.append_ ts ty args.toArray
  | .copy ts ty args => Builtin.copy_ ts ty args.toArray
  | .other s => s
inductive Ex where
  | normal
  | exit (id : Nat)
  | ret
def Ex.toExit : Ex → Exit
  | .normal => .normal
  | .exit id => .exit id
  | .ret => .ret
inductive T where
  | done (e : Ex) (fr : Fr)
  | fail
  | check (c : Prop) (t : T)
  | ite (b : Bool) (x y : T)
  | num (e : Int) (k : Int → T)
  | sem (g : Tag) (k : Value → T)
  | call (f : FuncId) (args : Array Value) (k : Value → T)
  | draw (ops : Array Oper) (fr : Fr)
  | bind (t : T) (k : Ex → Fr → T)
  | loop (body : Fr → T) (fr : Fr)
abbrev PostT := Ex → Fr → St → Prop
/-- A region whose order is drawn, as a whole. -/
def DrawT (P : Program) (N : Nat) (ops : Array Oper) (fr : Fr) (S : St) (Q : PostT) : Prop :=
  ∀ id w0 w a, SH w0 S w → RF N fr a → (Code.region id ops true).wp P (fun e a' w' => ∃ fr' S', e = .normal ∧ Q .normal fr' S' ∧ RF N fr' a' ∧ SH w0 S' w') a w
def wpT (P : Program) (N : Nat) : T → St → PostT → Prop
  | .done e fr, S, Q => ∃ S1, Le S S1 ∧ Q e fr S1
  | .fail, _, _ => False
  | .check c t, S, Q => c ∧ wpT P N t S Q
  | .ite b x y, S, Q => (b = true → wpT P N x S Q) ∧ (b = false → wpT P N y S Q)
  | .num e k, S, Q => wpT P N (k e) S Q
  | .sem g k, S, Q => OpT P (semOf g) S fun v S' => wpT P N (k v) S' Q
  | .call f args k, S, Q => HC P f args S fun v S' => wpT P N (k v) S' Q
  | .draw ops fr, S, Q => DrawT P N ops fr S Q
  | .bind t k, S, Q => wpT P N t S fun e fr S' => wpT P N (k e fr) S' Q
  | .loop body fr, S, Q => ∃ I : Nat → Fr → St → Prop, (∃ n S1, Le S S1 ∧ I n fr S1) ∧ ∀ n fr S, I n fr S → wpT P N (body fr) S fun e fr' S' =>
      match e with
      | .normal => ∃ m, m < n ∧ I m fr' S'
      | e => Q e fr' S'
theorem wpT_mono {P : Program} {N : Nat} : ∀ (t : T) {S : St} {Q Q' : PostT}, (∀ e fr S, Q e fr S → Q' e fr S) → wpT P N t S Q → wpT P N t S Q'
  | .done _ _, _, _, _, h, ⟨S1, hl, h1⟩ => ⟨S1, hl, h _ _ _ h1⟩
  | .fail, _, _, _, _, h1 => h1
  | .check _ t, _, _, _, h, h1 => ⟨h1.1, wpT_mono t h h1.2⟩
  | .ite _ x y, _, _, _, h, h1 => ⟨fun hb => wpT_mono x h (h1.1 hb), fun hb => wpT_mono y h (h1.2 hb)⟩
  | .num e k, _, _, _, h, h1 => wpT_mono (k e) h h1
  | .sem _ k, _, _, _, h, h1 => OpT.mono h1 fun v _ h2 => wpT_mono (k v) h h2
  | .call _ _ k, _, _, _, h, h1 => HC.mono h1 fun v _ h2 => wpT_mono (k v) h h2
  | .draw _ _, _, _, _, h, h1 => fun id w0 w a hw hr => Code.wp_mono (fun _ _ _ ⟨fr', S', he, hq, h2, h3⟩ => ⟨fr', S', he, h _ _ _ hq, h2, h3⟩) (h1 id w0 w a hw hr)
  | .bind t k, _, _, _, h, h1 => wpT_mono t (fun e fr _ h2 => wpT_mono (k e fr) h h2) h1
  | .loop body _, _, _, _, h, ⟨I, h0, hI⟩ => ⟨I, h0, fun n fr S hi => wpT_mono (body fr) (fun e _ _ h2 => by
      cases e with
      | normal => exact h2
      | exit id => exact h _ _ _ h2
      | ret => exact h _ _ _ h2) (hI n fr S hi)⟩

theorem wpT_le {P : Program} {N : Nat} : ∀ (t : T) {S S1 : St} {Q : PostT}, Le S S1 → wpT P N t S1 Q → wpT P N t S Q
  | .done _ _, _, _, _, hl, ⟨S2, h2, h1⟩ => ⟨S2, hl.trans h2, h1⟩
  | .fail, _, _, _, _, h1 => h1
  | .check _ t, _, _, _, hl, h1 => ⟨h1.1, wpT_le t hl h1.2⟩
  | .ite _ x y, _, _, _, hl, h1 => ⟨fun hb => wpT_le x hl (h1.1 hb), fun hb => wpT_le y hl (h1.2 hb)⟩
  | .num e k, _, _, _, hl, h1 => wpT_le (k e) hl h1
  | .sem _ _, _, _, _, hl, h1 => OpT.le hl h1
  | .call _ _ _, _, _, _, hl, h1 => HC.le hl h1
  | .draw _ _, _, _, _, hl, h1 => fun id w0 w a hw hr => h1 id w0 w a (hl w0 w hw) hr
  | .bind t _, _, _, _, hl, h1 => wpT_le t hl h1
  | .loop _ _, _, _, _, hl, ⟨I, ⟨n, S2, h2, h0⟩, hI⟩ => ⟨I, ⟨n, S2, hl.trans h2, h0⟩, hI⟩

/-! ### What the trees need to know of the types -/
/-- A table: number and what is told of it. -/
def assoc {α : Type} : List (Nat × α) → Nat → Option α
  | [], _ => none
  | (k, v) :: l, t => bif Nat.beq k t then some v else assoc l t
theorem assoc_mem {α : Type} : ∀ {l : List (Nat × α)} {t : Nat} {v : α}, assoc l t = some v → (t, v) ∈ l
  | (k, u) :: l, t, v, h => by
    unfold assoc at h
    by_cases hk : k = t
    · subst hk
      rw [beq_yes] at h
      simp only [cond_true, Option.some.injEq] at h
      subst h
      exact List.mem_cons_self
    · rw [beq_no hk] at h
      exact List.mem_cons_of_mem _ (assoc_mem h)
theorem fm {α : Type} {p : α → Prop} {a : α} {l : List α} (h : p a) (hl : ∀ x ∈ l, p x) : ∀ x ∈ a :: l, p x := List.forall_mem_cons.2 ⟨h, hl⟩
theorem fnil {α : Type} {p : α → Prop} : ∀ x ∈ ([] : List α), p x := fun _ h => by cases h
theorem fapp {α : Type} {p : α → Prop} {l l' : List α} (h : ∀ x ∈ l, p x) (h' : ∀ x ∈ l', p x) : ∀ x ∈ l ++ l', p x := fun x hx => (List.mem_append.1 hx).elim (h x) (h' x)

def plainDesc : TypeDesc → Bool
  | .struct _ | .array _ _ => false
  | _ => true
def fieldsOf (P : Program) (t : Nat) : Option (List (Nat × Option Nat)) := match P.underlying t with
  | some (.struct fs) => some (fs.toList.map fun f => (f.offset, (P.info? f.type).map (·.size)))
  | _ => none
def F_pl (P : Program) (t : Nat) (l : List (Nat × Nat)) : Prop := fieldsOf P t = some (l.map fun x => (x.1, some x.2))
def F_el (P : Program) (t : Nat) (x : Nat × Nat) : Prop := (P.underlying t, (P.info? x.1).map (·.size)) = (some (.slice x.1), some x.2)
def arOf (P : Program) (t : Nat) : Option (Bool × Nat × Option Nat) := match P.underlying t with
  | some (.array n e) => some (Nat.ble 2 n, n, (P.info? e).map (·.size))
  | _ => none
def F_ar (P : Program) (t : Nat) (x : Nat × Nat) : Prop := arOf P t = some (true, x.1, some x.2)
def F_ik (P : Program) (t : Nat) (k : IntKind) : Prop := P.underlying t = some (.int k)
def F_st (P : Program) (t : Nat) (_ : Unit) : Prop := P.underlying t = some .string
def F_sc (P : Program) (t : Nat) (_ : Unit) : Prop := ((P.underlying t).map plainDesc, (P.info? t).map (·.size)) = (some true, some 1)
def F_ag (P : Program) (t : Nat) (n : Nat) : Prop := ((P.underlying t).map plainDesc, (P.info? t).map (·.size)) = (some false, some n)
def F_inf (P : Program) (t : Nat) (x : Value × Nat × Nat) : Prop := (P.info? t).map (fun i => (i.zero, i.size, i.bytes)) = some (some x.1, x.2.1, x.2.2)

structure TT where
  fo : Nat → Nat → Option Nat                    -- a struct type's field: its cell
  el : Nat → Option (Nat × Nat)                  -- a slice type: its element type, and how many cells an element has
  ar : Nat → Option (Nat × Nat)                  -- an array type: its length, and how many cells an element has
  ik : Nat → Option IntKind                      -- an integer type
  st : Nat → Bool                                -- a string type
  sc : Nat → Bool                                -- a type of one cell: no struct, no array
  ag : Nat → Option Nat                          -- a struct or an array: its cells
  inf : Nat → Option (Value × Nat × Nat)         -- a type's zero value, its cells, its bytes
  pl : Nat → Option (List (Nat × Nat))           -- a struct type's fields: where they begin, how many cells they have
structure TT.Ok (P : Program) (tt : TT) : Prop where
  fo : ∀ s i o, tt.fo s i = some o → ∃ fs f k, P.underlying s = some (.struct fs) ∧ fs[i]? = some f ∧ f.offset = o ∧ P.info? f.type = some k ∧ k.size ≠ 0
  el : ∀ t e n, tt.el t = some (e, n) → P.underlying t = some (.slice e) ∧ ∃ k, P.info? e = some k ∧ k.size = n
  ar : ∀ t n c, tt.ar t = some (n, c) → 2 ≤ n ∧ ∃ e k, P.underlying t = some (.array n e) ∧ P.info? e = some k ∧ k.size = c
  ik : ∀ t k, tt.ik t = some k → P.underlying t = some (.int k)
  st : ∀ t, tt.st t = true → P.underlying t = some .string
  sc : ∀ t, tt.sc t = true → (∃ d, P.underlying t = some d ∧ plainDesc d = true) ∧ ∃ k, P.info? t = some k ∧ k.size = 1
  ag : ∀ t n, tt.ag t = some n → (∃ d, P.underlying t = some d ∧ plainDesc d = false) ∧ ∃ k, P.info? t = some k ∧ k.size = n
  inf : ∀ t z n b, tt.inf t = some (z, n, b) → ∃ k, P.info? t = some k ∧ k.zero = some z ∧ k.size = n ∧ k.bytes = b
  pl : ∀ t l, tt.pl t = some l → ∃ fs, P.underlying t = some (.struct fs) ∧ fs.toList.map (fun f => (f.offset, (P.info? f.type).map (·.size))) = l.map fun x => (x.1, some x.2)
structure TTD where
  pl : List (Nat × List (Nat × Nat))
  el : List (Nat × (Nat × Nat))
  ar : List (Nat × (Nat × Nat))
  ik : List (Nat × IntKind)
  st : List (Nat × Unit)
  sc : List (Nat × Unit)
  ag : List (Nat × Nat)
  inf : List (Nat × (Value × Nat × Nat))
def TT.of (D : TTD) : TT where
  fo s i := match assoc D.pl s with
    | some l => match l[i]? with
      | some (o, n) => bif Nat.beq n 0 then none else some o
      | none => none
    | none => none
  el := assoc D.el
  ar := assoc D.ar
  ik := assoc D.ik
  st t := (assoc D.st t).isSome
  sc t := (assoc D.sc t).isSome
  ag := assoc D.ag
  inf := assoc D.inf
  pl := assoc D.pl
structure TTD.Ok (P : Program) (D : TTD) : Prop where
  pl : ∀ x ∈ D.pl, F_pl P x.1 x.2
  el : ∀ x ∈ D.el, F_el P x.1 x.2
  ar : ∀ x ∈ D.ar, F_ar P x.1 x.2
  ik : ∀ x ∈ D.ik, F_ik P x.1 x.2
  st : ∀ x ∈ D.st, F_st P x.1 x.2
  sc : ∀ x ∈ D.sc, F_sc P x.1 x.2
  ag : ∀ x ∈ D.ag, F_ag P x.1 x.2
  inf : ∀ x ∈ D.inf, F_inf P x.1 x.2
theorem F_pl.out {P : Program} {t : Nat} {l : List (Nat × Nat)} (h : F_pl P t l) : ∃ fs, P.underlying t = some (.struct fs) ∧ fs.toList.map (fun f => (f.offset, (P.info? f.type).map (·.size))) = l.map fun x => (x.1, some x.2) := by
  unfold F_pl fieldsOf at h
  split at h
  · rename_i fs hfs
    exact ⟨fs, hfs, Option.some.inj h⟩
  · cases h
theorem TT.of_ok {P : Program} {D : TTD} (h : D.Ok P) : (TT.of D).Ok P where
  fo s i o ho := by
    simp only [TT.of] at ho
    split at ho
    · rename_i l hl
      split at ho
      · rename_i o' n hi
        obtain ⟨fs, hfs, hm⟩ := (h.pl _ (assoc_mem hl)).out
        have hlen : fs.toList.length = l.length := by have := congrArg List.length hm; simpa using this
        have hil : i < fs.toList.length := by rw [hlen]; exact (List.getElem?_eq_some_iff.1 hi).1
        have hget := congrArg (fun z => z[i]?) hm
        simp only [List.getElem?_map, hi, List.getElem?_eq_getElem hil, Option.map_some, Option.some.injEq, Prod.mk.injEq] at hget
        obtain ⟨h1, h2⟩ := hget
        obtain ⟨k, hk, hkn⟩ := Option.map_eq_some_iff.1 h2
        cases hn : Nat.beq n 0 with
        | true => rw [hn] at ho; cases ho
        | false =>
          rw [hn] at ho
          simp only [cond_false, Option.some.injEq] at ho
          refine ⟨fs, fs.toList[i], k, hfs, ?_, h1.trans ho, hk, ?_⟩
          · rw [← Array.getElem?_toList, List.getElem?_eq_getElem hil]
          · rw [hkn]; rintro rfl; rw [beq_yes] at hn; cases hn
      · cases ho
    · cases ho
  el t e n ht := by
    have := h.el _ (assoc_mem ht)
    simp only [F_el, Prod.mk.injEq] at this
    exact ⟨this.1, Option.map_eq_some_iff.1 this.2⟩
  ar t n c ht := by
    have := h.ar _ (assoc_mem ht)
    unfold F_ar arOf at this
    split at this
    · rename_i n' e he
      simp only [Option.some.injEq, Prod.mk.injEq] at this
      obtain ⟨h1, rfl, h3⟩ := this
      obtain ⟨k, hk⟩ := Option.map_eq_some_iff.1 h3
      exact ⟨Nat.le_of_ble_eq_true h1, e, k, he, hk⟩
    · cases this
  ik t k ht := h.ik _ (assoc_mem ht)
  st t ht := by
    obtain ⟨u, hu⟩ := Option.isSome_iff_exists.1 ht
    exact h.st _ (assoc_mem hu)
  sc t ht := by
    obtain ⟨u, hu⟩ := Option.isSome_iff_exists.1 ht
    have := h.sc _ (assoc_mem hu)
    simp only [F_sc, Prod.mk.injEq] at this
    exact ⟨Option.map_eq_some_iff.1 this.1, Option.map_eq_some_iff.1 this.2⟩
  ag t n ht := by
    have := h.ag _ (assoc_mem ht)
    simp only [F_ag, Prod.mk.injEq] at this
    exact ⟨Option.map_eq_some_iff.1 this.1, Option.map_eq_some_iff.1 this.2⟩
  inf t z n b ht := by
    have := h.inf _ (assoc_mem ht)
    simp only [F_inf] at this
    obtain ⟨k, hk, he⟩ := Option.map_eq_some_iff.1 this
    simp only [Prod.mk.injEq] at he
    exact ⟨k, hk, he.1, he.2.1, he.2.2⟩
  pl t l ht := (h.pl _ (assoc_mem ht)).out

/-! ### The code as a tree -/
def minV (x y : Value) : Option Value := match x, y with
  | .int k a, .int _ b => some (.int k (if b < a then b else a))
  | _, _ => none
def maxV (x y : Value) : Option Value := match x, y with
  | .int k a, .int _ b => some (.int k (if a < b then b else a))
  | _, _ => none
def semV (s : Sem Next) : Sem Value := do
  match ← s with
  | .value v => pure v
  | .skip => pure undef
  | _ => stuck ""
def intBin (op : BinOp) (kd : IntKind) (a b : Int) (other : T) (k : Value → T) : T :=
  match op with
  | .add => .num (kd.wrap (a + b)) fun n => k (.int kd n)
  | .sub => .num (kd.wrap (a - b)) fun n => k (.int kd n)
  | .mul => .num (kd.wrap (a * b)) fun n => k (.int kd n)
  | .quo => .check (b ≠ 0) (.num (kd.wrap (a.tdiv b)) fun n => k (.int kd n))
  | .rem => .check (b ≠ 0) (.num (a.tmod b) fun n => k (.int kd n))
  | .eql => k (.bool (decide (a = b)))
  | .neq => k (.bool (!decide (a = b)))
  | .lss => k (.bool (decide (a < b)))
  | .leq => k (.bool (decide (a ≤ b)))
  | .gtr => k (.bool (decide (b < a)))
  | .geq => k (.bool (decide (b ≤ a)))
  | _ => other
def denBin (op : BinOp) (x y : Value) (other : T) (k : Value → T) : T :=
  match op, x, y with
  | .shl, .int kd a, .int _ b => .check (0 ≤ b) (.num (kd.wrap (a * 2 ^ min b.toNat kd.bits)) fun n => k (.int kd n))
  | .shr, .int kd a, .int _ b => .check (0 ≤ b) (.num (a.fdiv (2 ^ min b.toNat kd.bits)) fun n => k (.int kd n))
  | op, .int kd a, .int kd' b => if kd = kd' then intBin op kd a b other k else .fail
  | _, _, _ => other
def denCall (tt : TT) (o : Oper) (fr : Fr) (c : Call) (k : Value → T) : T :=
  match c.callee with
  | .value f =>
    match evF fr f with
    | .func (.func g) first captured => .call g (first.toList ++ c.args.toList.map (evF fr) ++ captured.toList).toArray k
    | _ => .fail
  | .builtin .len =>
    match c.args.toList, c.argTypes.toList with
    | [x], [t] =>
      match evF fr x with
      | .slice _ n _ => match tt.el t with
        | some _ => k (.int .i64 n)
        | none => .fail
      | .string s => bif tt.st t then k (.int .i64 s.size) else .fail
      | _ => .sem (.other (semV (execOp (evF fr) o))) k
    | _, _ => .fail
  | .builtin .append => .sem (.append c.argTypes o.type (c.args.toList.map (evF fr))) k
  | .builtin .copy => .sem (.copy c.argTypes o.type (c.args.toList.map (evF fr))) k
  | .builtin .min =>
    match c.args.toList with
    | [x, y] => match minV (evF fr x) (evF fr y) with
      | some v => k v
      | none => .fail
    | _ => .fail
  | .builtin .max =>
    match c.args.toList with
    | [x, y] => match maxV (evF fr x) (evF fr y) with
      | some v => k v
      | none => .fail
    | _ => .fail
  | _ => .sem (.other (semV (execOp (evF fr) o))) k
def denOp (tt : TT) (o : Oper) (fr : Fr) (k : Value → T) : T :=
  match o.op with
  | .move x => k (evF fr x)
  | .assign x => k (evF fr x)
  | .pick c a b =>
    match evF fr c with
    | .bool p =>
      match evF fr a, evF fr b with
      | .bool x, .bool y => k (.bool (bif p then x else y))
      | x, y => .ite p (k x) (k y)
    | _ => .fail
  | .nilCheck x =>
    match evF fr x with
    | .pointer (some a) => k (.pointer (some a))
    | _ => .sem (.other (semV (execOp (evF fr) o))) k
  | .binOp op _ x y _ => denBin op (evF fr x) (evF fr y) (.sem (.other (semV (execOp (evF fr) o))) k) k
  | .unOp op _ x =>
    match op, evF fr x with
    | .not, .bool b => k (.bool (!b))
    | .neg, .int kd n => .num (kd.wrap (0 - n)) fun n => k (.int kd n)
    | _, _ => .sem (.other (semV (execOp (evF fr) o))) k
  | .convert s d x =>
    match tt.ik s, tt.ik d, evF fr x with
    | some _, some kd, .int _ n => .num (kd.wrap n) fun n => k (.int kd n)
    | _, _, _ => .sem (.other (semV (execOp (evF fr) o))) k
  | .fieldAddr s x f =>
    match tt.fo s f, evF fr x with
    | some i, .pointer (some a) => k (.pointer (some (a.add i)))
    | _, _ => .fail
  | .indexAddr t x i =>
    match evF fr x, evF fr i with
    | .slice (some a) n _, .int _ j =>
      match tt.el t with
      | some (_, sz) => .check (0 ≤ j ∧ j < n) (k (.pointer (some (a.add (j.toNat * sz)))))
      | none => .fail
    | .pointer (some a), .int _ j =>
      match tt.ar t with
      | some (n, sz) => .check (0 ≤ j ∧ j < n) (k (.pointer (some (a.add (j.toNat * sz)))))
      | none => .fail
    | _, _ => .fail
  | .extract x i =>
    match evF fr x with
    | .tuple vs => match vs[i]? with
      | some v => k v
      | none => .fail
    | _ => .fail
  | .makeFunc fn first captured => k (.func fn (first.toList.map (evF fr)).toArray (captured.toList.map (evF fr)).toArray)
  | .load t x => .sem (.load t (evF fr x)) k
  | .store t x v => .sem (.store t (evF fr x) (evF fr v)) k
  | .alloc e => .sem (.alloc e) k
  | .box e x => .sem (.box e (evF fr x)) k
  | .build t ps => .sem (.build t (ps.toList.map fun x => (x.1, evF fr x.2))) k
  | .buildSlice t n ps => .sem (.buildSlice t n (ps.toList.map fun x => (x.1, evF fr x.2))) k
  | .makeSlice t l c => .sem (.makeSlice t (evF fr l) (evF fr c)) k
  | .slice t x lo hi mx => .sem (.slice t (evF fr x) (lo.map (evF fr)) (hi.map (evF fr)) (mx.map (evF fr))) k
  | .field t x i => .sem (.field t (evF fr x) i) k
  | .index t x i => .sem (.index t (evF fr x) (evF fr i)) k
  | .call c => denCall tt o fr c k
  | _ => .sem (.other (semV (execOp (evF fr) o))) k
def denOps (tt : TT) (N : Nat) (all : Array Oper) : List Oper → Fr → T
  | [], fr => .done .normal fr
  | o :: rest, fr =>
    match o.guard with
    | none => denOp tt o fr fun v => denOps tt N all rest (putF N fr o.dst v)
    | some (j, want) =>
      match (all[j]?).bind (·.dst) with
      | none => .fail
      | some d =>
        bif Nat.blt d N then
          match fr d with
          | .bool b => .ite b
              (bif want then denOp tt o (upd fr d (.bool true)) fun v => denOps tt N all rest (putF N (upd fr d (.bool true)) o.dst v) else denOps tt N all rest (putF N (upd fr d (.bool true)) o.dst undef))
              (bif want then denOps tt N all rest (putF N (upd fr d (.bool false)) o.dst undef) else denOp tt o (upd fr d (.bool false)) fun v => denOps tt N all rest (putF N (upd fr d (.bool false)) o.dst v))
          | _ => denOps tt N all rest (putF N fr o.dst undef)
        else .fail
def denCode (tt : TT) (N : Nat) : Code → Fr → T
  | .skip, fr => .done .normal fr
  | .region _ ops d, fr => bif d then .draw ops fr else denOps tt N ops ops.toList fr
  | .seq a b, fr => .bind (denCode tt N a fr) fun e fr' => match e with
    | .normal => denCode tt N b fr'
    | e => .done e fr'
  | .cond c x y, fr =>
    match evF fr c with
    | .bool b => .ite b (denCode tt N x (litF c true fr)) (denCode tt N y (litF c false fr))
    | _ => .fail
  | .block id c, fr => .bind (denCode tt N c fr) fun e fr' => match e with
    | .exit j => bif Nat.beq j id then .done .normal fr' else .done (.exit j) fr'
    | e => .done e fr'
  | .loop c, fr => .loop (fun fr' => denCode tt N c fr') fr
  | .exit id, fr => .done (.exit id) fr
  | .ret, fr => .done .ret fr
  | _, _ => .fail

/-! ### The tree tells what the model does -/
theorem semV_run {P : Program} {s : Sem Next} {w w' : World} {v : Value} (h : (semV s).run P w = .ok v w') : s.run P w = .ok (.value v) w' ∨ (s.run P w = .ok .skip w' ∧ v = undef) := by
  unfold semV at h
  simp only [Sem.run_bind] at h
  cases hs : s.run P w with
  | halt x w1 => rw [hs] at h; simp [Result.andThen] at h
  | ok n w1 =>
    rw [hs] at h
    cases n <;> simp [Result.andThen, stuck] at h
    · obtain ⟨rfl, rfl⟩ := h; exact .inl rfl
    · obtain ⟨rfl, rfl⟩ := h; exact .inr ⟨rfl, rfl⟩

section
variable {P : Program} {tt : TT} {N : Nat}

theorem callFunc_run {f : FuncId} (h : Plain P f) (args : Array Value) (w : World) : (callFunc f args).run P w = .ok (.enter f args) w := by
  obtain ⟨fn, h1, h2, h3⟩ := h
  have h2' : ¬ fn.body = none := by intro h0; rw [h0] at h2; cases h2
  have h3' : ¬ fn.name = "runtime.NumGoroutine" := by simpa using h3
  simp [callFunc, program, Sem.run_bind, Sem.run, Result.andThen, h1, h2', h3']

theorem underlying_run {t : TypeId} {d : TypeDesc} (h : P.underlying t = some d) (w : World) : (underlying t).run P w = .ok d w := by
  simp [underlying, program, Sem.run_bind, Sem.run, Result.andThen, h]
theorem sizeOf_run {t : TypeId} {k : TypeInfo} (h : P.info? t = some k) (w : World) : (sizeOf t).run P w = .ok k.size w := by
  simp [sizeOf, typeInfo, program, Sem.run_bind, Sem.run, Result.andThen, h]

/-- The forms that an operation's tree has. -/
inductive Shape (P : Program) (o : Oper) (fr : Fr) (k : Value → T) : T → Prop
  | val (v : Value) (hr : ∀ w, (execOp (evF fr) o).run P w = .ok (.value v) w) : Shape P o fr k (k v)
  | chk (c : Prop) (v : Value) (hr : c → ∀ w, (execOp (evF fr) o).run P w = .ok (.value v) w) : Shape P o fr k (.check c (k v))
  | num (e : Int) (f : Int → Value) (hr : ∀ w, (execOp (evF fr) o).run P w = .ok (.value (f e)) w) : Shape P o fr k (.num e fun n => k (f n))
  | nchk (c : Prop) (e : Int) (f : Int → Value) (hr : c → ∀ w, (execOp (evF fr) o).run P w = .ok (.value (f e)) w) : Shape P o fr k (.check c (.num e fun n => k (f n)))
  | ite (p : Bool) (x y : Value) (hr : ∀ w, (execOp (evF fr) o).run P w = .ok (.value (if p then x else y)) w) : Shape P o fr k (.ite p (k x) (k y))
  | sem (g : Tag) (hr : ∀ w v w', (semOf g).run P w = .ok v w' → (execOp (evF fr) o).run P w = .ok (.value v) w' ∨ ((execOp (evF fr) o).run P w = .ok .skip w' ∧ v = undef)) : Shape P o fr k (.sem g k)
  | call (g : FuncId) (args : Array Value) (hr : Plain P g → ∀ w, (execOp (evF fr) o).run P w = .ok (.enter g args) w) : Shape P o fr k (.call g args k)
  | fail : Shape P o fr k .fail
theorem shape_run {o : Oper} {fr : Fr} {k : Value → T} {g : Tag} (he : ∀ w, (execOp (evF fr) o).run P w = (do pure (Next.value (← semOf g)) : Sem Next).run P w) : Shape P o fr k (.sem g k) :=
  .sem _ fun w v w' h => .inl (by rw [he]; simp only [Sem.run_bind, h, Result.andThen, Sem.run_pure])
theorem shape_semV {o : Oper} {fr : Fr} {k : Value → T} : Shape P o fr k (.sem (.other (semV (execOp (evF fr) o))) k) := .sem _ fun _ _ _ h => semV_run h
/-- An operation whose model is 'do pure (.value (← s))'. -/
theorem shape_sem {o : Oper} {fr : Fr} {k : Value → T} {g : Tag} (he : execOp (evF fr) o = (do pure (.value (← semOf g)))) : Shape P o fr k (.sem g k) :=
  .sem _ fun w v w' h => .inl (by rw [he]; simp only [Sem.run_bind, h, Result.andThen, Sem.run_pure])

theorem denBin_shape {o : Oper} {op : BinOp} {t t' : TypeId} {x y : Operand} {fr : Fr} {k : Value → T} (ho : o.op = .binOp op t x y t') :
    Shape P o fr k (denBin op (evF fr x) (evF fr y) (.sem (.other (semV (execOp (evF fr) o))) k) k) := by
  have key : ∀ v : Value, (binOp op t (evF fr x) (evF fr y) = pure v) → (∃ kd a kd' b, evF fr x = .int kd a ∧ evF fr y = .int kd' b) → ∀ w, (execOp (evF fr) o).run P w = .ok (.value v) w := by
    intro v hb hxy w
    obtain ⟨kd, a, kd', b, hx, hy⟩ := hxy
    unfold execOp
    simp only [ho]
    rw [hb]
    have : eqGuard op t x y (evF fr x) (evF fr y) = pure () := by
      rw [hx, hy]; unfold eqGuard; cases op <;> rfl
    rw [this]
    rfl
  generalize hx : evF fr x = X at key
  generalize hy : evF fr y = Y at key
  unfold denBin
  split
  · refine .nchk _ _ (fun n => .int _ n) fun h1 => key _ ?_ ⟨_, _, _, _, rfl, rfl⟩
    simp only [binOp, Op.shift]
    rw [if_neg (by omega)]
  · refine .nchk _ _ (fun n => .int _ n) fun h1 => key _ ?_ ⟨_, _, _, _, rfl, rfl⟩
    simp only [binOp, Op.shift]
    rw [if_neg (by omega)]
  · rename_i op' kd a kd' b hn1 hn2
    split
    · rename_i hkd
      subst hkd
      unfold intBin
      cases op <;> first
        | exact absurd rfl (hn1 _ _ _ _ rfl rfl)
        | exact absurd rfl (hn2 _ _ _ _ rfl rfl)
        | (refine .num _ (fun n => .int _ n) (key _ ?_ ⟨_, _, _, _, rfl, rfl⟩); simp [binOp, Op.intArith]; done)
        | (refine .val _ (key _ ?_ ⟨_, _, _, _, rfl, rfl⟩); simp [binOp, Op.intCmp]; done)
        | (refine .val _ (key _ ?_ ⟨_, _, _, _, rfl, rfl⟩); simp only [binOp, Op.intCmp, ne_eq, not_true_eq_false, if_false]; rfl)
        | (refine .nchk _ _ (fun n => .int _ n) fun h1 => key _ ?_ ⟨_, _, _, _, rfl, rfl⟩; simp only [binOp, Op.intDiv, ne_eq, not_true_eq_false, if_false]; rw [if_neg h1])
        | exact shape_semV
    · exact .fail
  · exact shape_semV

theorem denCall_shape (htt : tt.Ok P) {o : Oper} {c : Call} {fr : Fr} {k : Value → T} (ho : o.op = .call c) : Shape P o fr k (denCall tt o fr c k) := by
  unfold denCall
  split
  · rename_i f hc
    split
    · rename_i g first captured hf
      refine .call _ _ fun hp w => ?_
      unfold execOp
      simp only [ho, resolve, hc, hf, Deferred.ofValue, Sem.run_bind, Sem.run_pure, Result.andThen_ok, invoke]
      rw [show (first.toList ++ c.args.toList.map (evF fr) ++ captured.toList).toArray = first ++ c.args.map (evF fr) ++ captured from by apply Array.toList_inj.1; simp]
      exact callFunc_run hp _ w
    · exact .fail
  · rename_i hc
    split
    · rename_i x t hx ht
      have hax : c.args = #[x] := by rw [← Array.toList_inj]; exact hx
      have hat : c.argTypes = #[t] := by rw [← Array.toList_inj]; exact ht
      split
      · rename_i ad n cp hv
        split
        · rename_i en hel
          obtain ⟨hu, _⟩ := htt.el t en.1 en.2 hel
          refine .val (.int .i64 n) (fun w => ?_)
          unfold execOp
          simp only [ho, resolve, hc, hax, hat, List.map_toArray, List.map_cons, List.map_nil, hv, Sem.run_bind, Sem.run_pure, Result.andThen_ok, invoke, builtin, Builtin.len_]
          simp [underlying_run hu, goInt]
        · exact .fail
      · rename_i s hv
        cases hst : tt.st t with
        | false => exact .fail
        | true =>
          have hu := htt.st t hst
          refine .val (.int .i64 s.size) (fun w => ?_)
          unfold execOp
          simp only [ho, resolve, hc, hax, hat, List.map_toArray, List.map_cons, List.map_nil, hv, Sem.run_bind, Sem.run_pure, Result.andThen_ok, invoke, builtin, Builtin.len_]
          simp [underlying_run hu, goInt]
      · exact shape_semV
    · exact .fail
  · rename_i hc
    have hm : (c.args.toList.map (evF fr)).toArray = c.args.map (evF fr) := by apply Array.toList_inj.1; simp
    exact shape_run (fun w => by unfold execOp; simp only [ho, resolve, hc, Sem.run_bind, Sem.run_pure, Result.andThen_ok, invoke, builtin, semOf, hm])
  · rename_i hc
    have hm : (c.args.toList.map (evF fr)).toArray = c.args.map (evF fr) := by apply Array.toList_inj.1; simp
    exact shape_run (fun w => by unfold execOp; simp only [ho, resolve, hc, Sem.run_bind, Sem.run_pure, Result.andThen_ok, invoke, builtin, semOf, hm])
  · rename_i hc
    split
    · rename_i x y hx
      have hax : c.args = #[x, y] := by rw [← Array.toList_inj]; exact hx
      split
      · rename_i v hv
        unfold minV at hv
        split at hv
        · rename_i kd a kd' b hx hy
          injection hv with hv
          subst hv
          refine .val _ (fun w => ?_)
          unfold execOp
          simp only [ho, resolve, hc, hax, List.map_toArray, List.map_cons, List.map_nil, hx, hy, Sem.run_bind, Sem.run_pure, Result.andThen_ok, invoke, builtin, Builtin.min_, List.foldlM_cons, List.foldlM_nil, Builtin.min2]
        · cases hv
      · exact .fail
    · exact .fail
  · rename_i hc
    split
    · rename_i x y hx
      have hax : c.args = #[x, y] := by rw [← Array.toList_inj]; exact hx
      split
      · rename_i v hv
        unfold maxV at hv
        split at hv
        · rename_i kd a kd' b hx hy
          injection hv with hv
          subst hv
          refine .val _ (fun w => ?_)
          unfold execOp
          simp only [ho, resolve, hc, hax, List.map_toArray, List.map_cons, List.map_nil, hx, hy, Sem.run_bind, Sem.run_pure, Result.andThen_ok, invoke, builtin, Builtin.max_, List.foldlM_cons, List.foldlM_nil, Builtin.max2]
        · cases hv
      · exact .fail
    · exact .fail
  · exact shape_semV

theorem denOp_shape (htt : tt.Ok P) (o : Oper) (fr : Fr) (k : Value → T) : Shape P o fr k (denOp tt o fr k) := by
  unfold denOp
  split
  · rename_i x ho
    exact .val _ (fun w => by unfold execOp; simp only [ho]; rfl)
  · rename_i x ho
    exact .val _ (fun w => by unfold execOp; simp only [ho]; rfl)
  · rename_i c x y ho
    have hrun : ∀ (p : Bool), evF fr c = .bool p → ∀ w : World, (execOp (evF fr) o).run P w = .ok (.value (if p then evF fr x else evF fr y)) w := by
      intro p hp w
      unfold execOp
      simp only [ho, hp, asBool, Sem.run_bind, Sem.run_pure, Result.andThen_ok]
    split
    · rename_i p hp
      split
      · rename_i u v hu hv
        refine .val _ (fun w => (hrun p hp w).trans ?_)
        rw [hu, hv]; cases p <;> rfl
      · exact .ite p _ _ (hrun p hp)
    · exact .fail
  · rename_i x ho
    split
    · rename_i a hx
      exact .val _ (fun w => by unfold execOp; simp only [ho, hx]; rfl)
    · exact shape_semV
  · rename_i op t x y t' ho
    exact denBin_shape ho
  · rename_i op t x ho
    split
    · rename_i b hx
      exact .val _ (fun w => by unfold execOp; simp only [ho, hx, Op.unary, Sem.run_bind, Sem.run_pure, Result.andThen_ok])
    · rename_i kd n hx
      exact .num _ (fun n => .int kd n) (fun w => by unfold execOp; simp only [ho, hx, Op.unary, Op.intArith, Sem.run_bind, Sem.run_pure, Result.andThen_ok])
    · exact shape_semV
  · rename_i s d x ho
    split
    · rename_i ks kd kd' n hs hd hx
      have hu := htt.ik d kd hd
      have hus := htt.ik s ks hs
      refine .num (kd.wrap n) (fun n => .int kd n) (fun w => ?_)
      unfold execOp
      simp only [ho, hx, Sem.run_bind, convert, underlying_run hu, underlying_run hus, Result.andThen_ok, Conv.intToInt, Sem.run_pure]
    · exact shape_semV
  · rename_i s x f ho
    split
    · rename_i i a hf hx
      obtain ⟨fs, fd, kk, hu, hfd, hoff, hk, hsz⟩ := htt.fo s f i hf
      refine .val (.pointer (some (a.add i))) (fun w => ?_)
      unfold execOp
      simp only [ho, hx, Instr.fieldAt, Sem.run_bind, underlying_run hu, Result.andThen_ok, hfd, Instr.sureAddr, Sem.run_pure, fieldPlace, sizeOf_run hk, hsz, if_false, hoff]
    · exact .fail
  · rename_i t x i ho
    split
    · rename_i a n cp kd j hx hi
      split
      · rename_i e sz hel
        obtain ⟨hu, kk, hk, hsz⟩ := htt.el t e sz hel
        refine .chk _ (.pointer (some (a.add (j.toNat * sz)))) (fun hj w => ?_)
        unfold execOp
        simp only [ho, hx, hi, Instr.indexAt, asIntOf, Sem.run_bind, underlying_run hu, Result.andThen_ok, Sem.run_pure]
        rw [if_pos hj]
        simp only [Sem.run_bind, sizeOf_run hk, Result.andThen_ok, Sem.run_pure, hsz]
      · exact .fail
    · rename_i a kd j hx hi
      split
      · rename_i n sz hel
        obtain ⟨hn2, e, kk, hu, hk, hsz⟩ := htt.ar t n sz hel
        refine .chk _ (.pointer (some (a.add (j.toNat * sz)))) (fun hj w => ?_)
        unfold execOp
        simp only [ho, hx, hi, Instr.indexAt, asIntOf, Instr.sureAddr, Sem.run_bind, underlying_run hu, Result.andThen_ok, Sem.run_pure]
        rw [if_pos hj]
        simp only [Sem.run_bind, sizeOf_run hk, Result.andThen_ok, Sem.run_pure, hsz]
      · exact .fail
    · exact .fail
  · rename_i x i ho
    split
    · rename_i vs hx
      split
      · rename_i v hv
        exact .val _ (fun w => by unfold execOp; simp only [ho, hx, Instr.extract, hv, Sem.run_bind, Sem.run_pure, Result.andThen_ok])
      · exact .fail
    · exact .fail
  · rename_i fn first captured ho
    have hm : ∀ l : Array Operand, (l.toList.map (evF fr)).toArray = l.map (evF fr) := fun l => by apply Array.toList_inj.1; simp
    rw [hm, hm]
    exact .val _ (fun w => by unfold execOp; simp only [ho, Instr.makeFunc, Sem.run_bind, Sem.run_pure, Result.andThen_ok])
  · rename_i t x ho
    exact shape_sem (by unfold execOp; simp only [ho, semOf])
  · rename_i t x v ho
    refine .sem _ fun w v' w' hr => .inr ?_
    unfold execOp
    simp only [ho]
    simp only [semOf, Sem.run_bind] at hr ⊢
    cases hst : (Instr.storeAt t (evF fr x) (evF fr v)).run P w with
    | halt x w1 => rw [hst] at hr; simp [Result.andThen] at hr
    | ok u w1 =>
      rw [hst] at hr
      simp only [Result.andThen_ok, Sem.run_pure, Result.ok.injEq] at hr
      obtain ⟨rfl, rfl⟩ := hr
      exact ⟨by simp only [Result.andThen_ok, Sem.run_pure], rfl⟩
  · rename_i e ho
    exact shape_sem (by unfold execOp; simp only [ho, semOf])
  · rename_i e x ho
    exact shape_sem (by unfold execOp; simp only [ho, semOf])
  · rename_i t ps ho
    have hm : (ps.toList.map fun x => (x.1, evF fr x.2)).toArray = ps.map (fun x => (x.1, evF fr x.2)) := by apply Array.toList_inj.1; simp
    exact shape_sem (by unfold execOp; simp only [ho, semOf, hm])
  · rename_i t n ps ho
    have hm : (ps.toList.map fun x => (x.1, evF fr x.2)).toArray = ps.map (fun x => (x.1, evF fr x.2)) := by apply Array.toList_inj.1; simp
    exact shape_sem (by unfold execOp; simp only [ho, semOf, hm])
  · rename_i ho
    exact shape_sem (by unfold execOp; simp only [ho, semOf])
  · rename_i ho
    exact shape_sem (by unfold execOp; simp only [ho, semOf])
  · rename_i ho
    exact shape_sem (by unfold execOp; simp only [ho, semOf])
  · rename_i ho
    exact shape_sem (by unfold execOp; simp only [ho, semOf])
  · rename_i c ho
    exact denCall_shape htt ho
  · exact shape_semV

/-- An operation's tree tells what the operation does. -/
theorem denOp_sound (htt : tt.Ok P) {o : Oper} {fr : Fr} {S : St} {Q : PostT} {k : Value → T} (h : wpT P N (denOp tt o fr k) S Q) :
    ∀ w0 w a next Qx, SH w0 S w → RF N fr a → (∀ v w' S', SH w0 S' w' → wpT P N (k v) S' Q → next (a.put o.dst v) w') → o.wp P a w next Qx := by
  intro w0 w a next Qx hw hf hn
  have hs := denOp_shape htt o fr k
  generalize denOp tt o fr k = t at h hs
  unfold Oper.wp
  rw [hf.eval]
  cases hs with
  | val v hr => rw [hr w]; exact hn v w S hw h
  | chk c v hr => rw [hr h.1 w]; exact hn v w S hw h.2
  | num e f hr => rw [hr w]; exact hn _ w S hw h
  | nchk c e f hr => rw [hr h.1 w]; exact hn _ w S hw h.2
  | ite p x y hr =>
    rw [hr w]
    cases p with
    | true => exact hn x w S hw (h.1 rfl)
    | false => exact hn y w S hw (h.2 rfl)
  | sem s hr =>
    obtain ⟨v, w', S', h1, hw', hk⟩ := h w0 w hw
    rcases hr w v w' h1 with h2 | ⟨h2, hv⟩
    · rw [h2]; exact hn _ w' S' hw' hk
    · rw [h2]; subst hv; exact hn _ w' S' hw' hk
  | call g args hr =>
    obtain ⟨hp, hcall⟩ := h
    rw [hr hp w]
    refine (hcall w0 w hw).mono ?_
    rintro e w' ⟨v, S', rfl, hw', hk⟩
    exact hn v w' S' hw' hk
  | fail => exact h.elim

/-! ### Quiet trees: nothing is changed, and each operation has one value -/
def wpQ (P : Program) (S : St) (Q : Fr → Prop) : T → Prop
  | .done e fr => e = .normal ∧ Q fr
  | .check c t => c ∧ wpQ P S Q t
  | .ite b x y => (b = true → wpQ P S Q x) ∧ (b = false → wpQ P S Q y)
  | .num e k => wpQ P S Q (k e)
  | .sem g k => ∃ v, (∀ w0 w, SH w0 S w → (semOf g).run P w = .ok v w) ∧ wpQ P S Q (k v)
  | .call f args k => ∃ v, HC P f args S (fun r S' => r = v ∧ S' = S) ∧ wpQ P S Q (k v)
  | _ => False
theorem denOp_quiet (htt : tt.Ok P) {o : Oper} {fr : Fr} {S : St} {Q : Fr → Prop} {k : Value → T} (h : wpQ P S Q (denOp tt o fr k)) :
    ∀ w0 a (next : Act → Prop), RF N fr a → (∀ v, wpQ P S Q (k v) → next (a.put o.dst v)) → o.quiet P a (SH w0 S) next := by
  intro w0 a next hf hn
  have hs := denOp_shape htt o fr k
  generalize denOp tt o fr k = t at h hs
  unfold Oper.quiet Oper.quietAt
  rw [hf.eval]
  cases hs with
  | val v hr => exact ⟨v, fun w hw => by rw [hr w]; exact ⟨rfl, rfl⟩, hn v h⟩
  | chk c v hr => exact ⟨v, fun w hw => by rw [hr h.1 w]; exact ⟨rfl, rfl⟩, hn v h.2⟩
  | num e f hr => exact ⟨f e, fun w hw => by rw [hr w]; exact ⟨rfl, rfl⟩, hn _ h⟩
  | nchk c e f hr => exact ⟨f e, fun w hw => by rw [hr h.1 w]; exact ⟨rfl, rfl⟩, hn _ h.2⟩
  | ite p x y hr =>
    cases p with
    | true => exact ⟨x, fun w hw => by rw [hr w]; exact ⟨rfl, rfl⟩, hn x (h.1 rfl)⟩
    | false => exact ⟨y, fun w hw => by rw [hr w]; exact ⟨rfl, rfl⟩, hn y (h.2 rfl)⟩
  | sem s hr =>
    obtain ⟨v, h1, hk⟩ := h
    refine ⟨v, fun w hw => ?_, hn v hk⟩
    rcases hr w v w (h1 w0 w hw) with h2 | ⟨h2, hv⟩
    · rw [h2]; exact ⟨rfl, rfl⟩
    · rw [h2]; exact ⟨rfl, hv⟩
  | call g args hr =>
    obtain ⟨v, ⟨hp, hcall⟩, hk⟩ := h
    refine ⟨v, fun w hw => ?_, hn v hk⟩
    rw [hr hp w]
    refine ⟨rfl, (hcall w0 w hw).mono ?_⟩
    rintro e w' ⟨v', S', rfl, hw', rfl, rfl⟩
    exact ⟨rfl, hw'⟩
  | fail => exact h.elim

/-- The guard of an operation, as the tree has it. -/
theorem wanted_guard {all : Array Oper} {o : Oper} {fr : Fr} {a : Act} {j d : Nat} {want b : Bool} (hf : RF N fr a) (hg : o.guard = some (j, want)) (hd : (all[j]?).bind (·.dst) = some d) (hlt : d < N) (hb : fr d = .bool b) :
    Region.wanted o (yielded all a.tmps) = (b == want) := by
  have hy : yielded all a.tmps j = some b := by
    have h1 := hf.at_ d
    rw [Array.getD_eq_getD_getElem?] at h1
    have h2 : a.tmps[d]? = some (.bool b) := by
      rw [Array.getElem?_eq_getElem (by rw [hf.sz]; exact hlt)] at h1 ⊢
      simp only [Option.getD_some] at h1
      rw [h1, hb]
    unfold yielded
    rw [hd]
    simp only [Option.bind_some, h2]
  simp [Region.wanted, hg, hy]

theorem wanted_none {all : Array Oper} {o : Oper} {fr : Fr} {a : Act} {j d : Nat} {want : Bool} (hf : RF N fr a) (hg : o.guard = some (j, want)) (hd : (all[j]?).bind (·.dst) = some d) (hlt : d < N) (hb : ∀ b, fr d = .bool b → False) :
    Region.wanted o (yielded all a.tmps) = false := by
  have hy : yielded all a.tmps j = none := by
    have h1 := hf.at_ d
    rw [Array.getD_eq_getD_getElem?] at h1
    have h2 : a.tmps[d]? = some (fr d) := by
      rw [Array.getElem?_eq_getElem (by rw [hf.sz]; exact hlt)] at h1 ⊢
      simp only [Option.getD_some] at h1
      rw [h1]
    unfold yielded
    rw [hd]
    simp only [Option.bind_some, h2]
    split
    · rename_i b hq
      injection hq with hq
      exact (hb _ hq).elim
    · rfl
  simp [Region.wanted, hg, hy]

theorem denOps_quiet (htt : tt.Ok P) (all : Array Oper) (w0 : World) : ∀ (l : List Oper) {fr : Fr} {S : St} {Q : Fr → Prop} {a : Act}, wpQ P S Q (denOps tt N all l fr) → RF N fr a →
    wpQuiet P all (SH w0 S) (fun a' => ∃ fr', Q fr' ∧ RF N fr' a') l a
  | [], fr, S, Q, a, h, hf => ⟨fr, h.2, hf⟩
  | o :: rest, fr, S, Q, a, h, hf => by
    have run : ∀ {fr : Fr} {a : Act}, RF N fr a → wpQ P S Q (denOp tt o fr fun v => denOps tt N all rest (putF N fr o.dst v)) → o.quiet P a (SH w0 S) (wpQuiet P all (SH w0 S) (fun a' => ∃ fr', Q fr' ∧ RF N fr' a') rest) := by
      intro fr a hf h
      exact denOp_quiet htt h w0 a _ hf fun v hk => denOps_quiet htt all w0 rest hk (hf.put o.dst v)
    unfold denOps at h
    unfold wpQuiet
    split at h
    · rename_i hg
      rw [if_pos (by simp [Region.wanted, hg])]
      exact run hf h
    · rename_i j want hg
      split at h
      · exact h.elim
      · rename_i d hd
        cases hdN : Nat.blt d N with
        | false => rw [hdN] at h; exact h.elim
        | true =>
          rw [hdN] at h
          simp only [cond_true] at h
          have hlt : d < N := by simpa [Nat.blt_eq] using hdN
          split at h
          · rename_i b hb
            rw [wanted_guard hf hg hd hlt hb]
            have hfr : upd fr d (.bool b) = fr := upd_same hb
            cases b <;> cases want <;> simp only [beq_self_eq_true, if_true, Bool.false_eq_true, if_false, show (false == true) = false from rfl, show (true == false) = false from rfl]
            · have h2 := h.2 rfl
              rw [hfr] at h2
              exact run hf h2
            · have h2 := h.2 rfl
              rw [hfr] at h2
              exact denOps_quiet htt all w0 rest h2 (hf.put o.dst undef)
            · have h2 := h.1 rfl
              rw [hfr] at h2
              exact denOps_quiet htt all w0 rest h2 (hf.put o.dst undef)
            · have h2 := h.1 rfl
              rw [hfr] at h2
              exact run hf h2
          · rename_i hb
            rw [wanted_none hf hg hd hlt hb]
            simp only [Bool.false_eq_true, if_false]
            exact denOps_quiet htt all w0 rest h (hf.put o.dst undef)
theorem wpQuiet_mono {ops : Array Oper} {C : World → Prop} {Q Q' : Act → Prop} (hq : ∀ a, Q a → Q' a) : ∀ (l : List Oper) {a : Act}, wpQuiet P ops C Q l a → wpQuiet P ops C Q' l a
  | [], _, h => hq _ h
  | o :: rest, a, h => by
    unfold wpQuiet at h ⊢
    split
    · rename_i hw
      rw [if_pos hw] at h
      exact Oper.quiet_mono (fun a ha => wpQuiet_mono hq rest ha) h
    · rename_i hw
      rw [if_neg hw] at h
      exact wpQuiet_mono hq rest h
theorem draw_quiet (htt : tt.Ok P) (hm : P.follows .mixedOrders = true) {ops : Array Oper} {fr : Fr} {S : St} {Q : PostT} (hB : Region.lexB .any ops = true) (h : wpQ P S (fun fr' => Q .normal fr' S) (denOps tt N ops ops.toList fr)) : DrawT P N ops fr S Q := by
  intro id w0 w a hw hf
  refine wp_region_quiet (C := SH w0 S) hm hB hw.drew ?_
  refine wpQuiet_mono ?_ ops.toList (denOps_quiet htt ops w0 ops.toList h hf)
  rintro a' ⟨fr', hq, hf'⟩ w' hw'
  exact ⟨fr', S, rfl, hq, hf', hw'⟩

/-- What stands behind a piece of code. -/
def PostW (N : Nat) (w0 : World) (Q : PostT) : Exit → Act → World → Prop :=
  fun e a' w' => ∃ e' fr' S', e = Ex.toExit e' ∧ Q e' fr' S' ∧ RF N fr' a' ∧ SH w0 S' w'

theorem done_out {w0 w : World} {e : Ex} {fr : Fr} {S : St} {Q : PostT} {a : Act} (h : wpT P N (.done e fr) S Q) (hw : SH w0 S w) (hf : RF N fr a) : PostW N w0 Q e.toExit a w :=
  let ⟨S1, hl, h⟩ := h
  ⟨e, fr, S1, rfl, h, hf, hl w0 w hw⟩

theorem denOps_sound (htt : tt.Ok P) (all : Array Oper) (w0 : World) : ∀ (l : List Oper) {fr : Fr} {S : St} {Q : PostT} {w : World} {a : Act}, wpT P N (denOps tt N all l fr) S Q → SH w0 S w → RF N fr a →
    wpList P all (PostW N w0 Q) l a w
  | [], fr, S, Q, w, a, ⟨S1, hl, h⟩, hw, hf => ⟨.normal, fr, S1, rfl, h, hf, hl w0 w hw⟩
  | o :: rest, fr, S, Q, w, a, h, hw, hf => by
    have run : ∀ {fr : Fr} {a : Act}, RF N fr a → wpT P N (denOp tt o fr fun v => denOps tt N all rest (putF N fr o.dst v)) S Q → o.wp P a w (wpList P all (PostW N w0 Q) rest) (PostW N w0 Q) := by
      intro fr a hf h
      exact denOp_sound htt h w0 w a _ _ hw hf fun v w' S' hw' hk => denOps_sound htt all w0 rest hk hw' (hf.put o.dst v)
    unfold denOps at h
    unfold wpList
    split at h
    · rename_i hg
      rw [if_pos (by simp [Region.wanted, hg])]
      exact .inl (run hf h)
    · rename_i j want hg
      split at h
      · exact h.elim
      · rename_i d hd
        cases hdN : Nat.blt d N with
        | false => rw [hdN] at h; exact h.elim
        | true =>
          rw [hdN] at h
          simp only [cond_true] at h
          have hlt : d < N := by simpa [Nat.blt_eq] using hdN
          split at h
          · rename_i b hb
            have hw1 := wanted_guard hf hg hd hlt hb
            rw [hw1]
            have hfr : upd fr d (.bool b) = fr := upd_same hb
            cases b <;> cases want <;> simp only [beq_self_eq_true, if_true, Bool.false_eq_true, if_false, show (false == true) = false from rfl, show (true == false) = false from rfl]
            · have h2 := h.2 rfl
              rw [hfr] at h2
              exact .inl (run hf h2)
            · have h2 := h.2 rfl
              rw [hfr] at h2
              exact denOps_sound htt all w0 rest h2 hw (hf.put o.dst undef)
            · have h2 := h.1 rfl
              rw [hfr] at h2
              exact denOps_sound htt all w0 rest h2 hw (hf.put o.dst undef)
            · have h2 := h.1 rfl
              rw [hfr] at h2
              exact .inl (run hf h2)
          · rename_i hb
            rw [wanted_none hf hg hd hlt hb]
            simp only [Bool.false_eq_true, if_false]
            exact denOps_sound htt all w0 rest h hw (hf.put o.dst undef)

theorem denCode_sound (htt : tt.Ok P) (w0 : World) : ∀ (c : Code) {fr : Fr} {S : St} {Q : PostT} {w : World} {a : Act}, wpT P N (denCode tt N c fr) S Q → SH w0 S w → RF N fr a → c.wp P (PostW N w0 Q) a w
  | .skip, fr, S, Q, w, a, ⟨S1, hl, h⟩, hw, hf => wp_skip ⟨.normal, fr, S1, rfl, h, hf, hl w0 w hw⟩
  | .region id ops d, fr, S, Q, w, a, h, hw, hf => by
    cases d with
    | false => exact wp_region_list (denOps_sound htt ops w0 ops.toList h hw hf)
    | true =>
      refine Code.wp_mono ?_ (h id w0 w a hw hf)
      rintro e a' w' ⟨fr', S', rfl, hq, hf', hw'⟩
      exact ⟨.normal, fr', S', rfl, hq, hf', hw'⟩
  | .seq x y, fr, S, Q, w, a, h, hw, hf => by
    refine wp_seq (Code.wp_mono ?_ (denCode_sound htt w0 x h hw hf))
    rintro e a' w' ⟨e', fr', S', rfl, hq, hf', hw'⟩
    cases e' with
    | normal => exact denCode_sound htt w0 y hq hw' hf'
    | exit id => exact done_out (e := .exit id) hq hw' hf'
    | ret => exact done_out (e := .ret) hq hw' hf'
  | .cond c x y, fr, S, Q, w, a, h, hw, hf => by
    unfold denCode at h
    split at h
    · rename_i b hb
      have hl : litF c b fr = fr := litF_same hb
      cases b with
      | true =>
        have h2 := h.1 rfl
        rw [hl] at h2
        exact wp_cond_true (by rw [hf.ev, hb]) (denCode_sound htt w0 x h2 hw hf)
      | false =>
        have h2 := h.2 rfl
        rw [hl] at h2
        exact wp_cond_false (by rw [hf.ev, hb]) (denCode_sound htt w0 y h2 hw hf)
    · exact h.elim
  | .block id c, fr, S, Q, w, a, h, hw, hf => by
    refine wp_block (Code.wp_mono ?_ (denCode_sound htt w0 c h hw hf))
    rintro e a' w' ⟨e', fr', S', rfl, hq, hf', hw'⟩
    cases e' with
    | normal => exact done_out (e := .normal) hq hw' hf'
    | exit j =>
      show (if j = id then PostW N w0 Q Exit.normal a' w' else PostW N w0 Q (Exit.exit j) a' w')
      by_cases hj : j = id
      · have : Nat.beq j id = true := by subst hj; exact beq_yes _
        simp only [this, cond_true] at hq
        rw [if_pos hj]
        exact done_out (e := .normal) hq hw' hf'
      · have : Nat.beq j id = false := beq_no hj
        simp only [this, cond_false] at hq
        rw [if_neg hj]
        exact done_out (e := .exit j) hq hw' hf'
    | ret => exact done_out (e := .ret) hq hw' hf'
  | .loop c, fr, S, Q, w, a, ⟨I, ⟨n0, S1, hl, h0⟩, hI⟩, hw, hf => by
    refine wp_loop_ghost (fun n a w => ∃ fr S, I n fr S ∧ RF N fr a ∧ SH w0 S w) n0 ⟨fr, S1, h0, hf, hl w0 w hw⟩ ?_
    rintro n a w ⟨fr, S, hi, hf, hw⟩
    refine Code.wp_mono ?_ (denCode_sound htt w0 c (hI n fr S hi) hw hf)
    rintro e a' w' ⟨e', fr', S', rfl, hq, hf', hw'⟩
    cases e' with
    | normal =>
      obtain ⟨m, hm, hi'⟩ := hq
      exact ⟨m, hm, fr', S', hi', hf', hw'⟩
    | exit id => exact ⟨.exit id, fr', S', rfl, hq, hf', hw'⟩
    | ret => exact ⟨.ret, fr', S', rfl, hq, hf', hw'⟩
  | .exit id, fr, S, Q, w, a, ⟨S1, hl, h⟩, hw, hf => wp_exit ⟨.exit id, fr, S1, rfl, h, hf, hl w0 w hw⟩
  | .ret, fr, S, Q, w, a, ⟨S1, hl, h⟩, hw, hf => wp_ret ⟨.ret, fr, S1, rfl, h, hf, hl w0 w hw⟩
  | .rangeFunc .., _, _, _, _, _, h, _, _ => h.elim
  | .scope _, _, _, _, _, _, h, _, _ => h.elim
  | .label _, _, _, _, _, _, h, _, _ => h.elim
  | .goto _, _, _, _, _, _, h, _, _ => h.elim
  | .refuse _, _, _, _, _, _, h, _, _ => h.elim

/-! ### A function -/
def resF (rs : Array ResultVar) (fr : Fr) : Sem Value := do
  let vs ← rs.mapM fun
    | .tmp t => pure (fr t)
    | .cell a t => do loadVar t (← asAddr (fr a))
  pure (if h : vs.size = 1 then vs[0] else .tuple vs)
def ResT (P : Program) (s : Sem Value) (S : St) (Post : Value → St → Prop) : Prop := ∀ w0 w, SH w0 S w → ∃ v S', s.run P w = .ok v w ∧ SH w0 S' w ∧ Post v S'
/-- What is asked where a function ends. -/
def RetQ (P : Program) (rs : Array ResultVar) (Post : Value → St → Prop) : PostT := fun e fr S => match e with
  | .exit _ => False
  | _ => ResT P (resF rs fr) S Post
def fr0 (args : List Value) : Fr := fun i => args.getD i undef
theorem HC.intro {f : FuncId} {fn : Func} {c : Code} {args : List Value} {S : St} {Post : Value → St → Prop} (htt : tt.Ok P) (hf : P.funcs[f]? = some fn) (hb : fn.body = some c) (hn : (fn.name == "runtime.NumGoroutine") = false)
    (hN : fn.ntmps = N) (ha : args.length ≤ N) (h : wpT P N (denCode tt N c (fr0 args)) S (RetQ P fn.results Post)) : HC P f args.toArray S Post := by
  refine ⟨⟨fn, hf, by simp [hb], hn⟩, fun w0 w hw => calls_of_wp hf hb ?_⟩
  have hf0 : RF N (fr0 args) { tmps := args.toArray ++ Array.replicate (fn.ntmps - args.toArray.size) undef, defers := [] } := by
    refine ⟨by simp; omega, fun i => ?_, rfl⟩
    simp only [fr0, Array.getD_eq_getD_getElem?, List.getD_eq_getElem?_getD, Array.getElem?_append, Array.getElem?_replicate]
    by_cases hi : i < args.length
    · simp [hi]
    · have : args[i]? = none := List.getElem?_eq_none (by omega)
      simp only [List.size_toArray, hi, if_false, this, Option.getD_none]
      split <;> rfl
  refine Code.wp_mono ?_ (denCode_sound htt w0 c h hw hf0)
  rintro e a' w' ⟨e', fr', S', rfl, hq, hf', hw'⟩
  have hres : results fn a'.tmps = resF fn.results fr' := by
    unfold results resF
    simp only [hf'.at_]
    rfl
  cases e' with
  | exit id => exact hq.elim
  | normal =>
    obtain ⟨v, S1, hr, hw1, hp⟩ := hq w0 w' hw'
    exact bodyPost_end (by rw [hres]; exact hr) hf'.df ⟨v, S1, rfl, hw1, hp⟩
  | ret =>
    obtain ⟨v, S1, hr, hw1, hp⟩ := hq w0 w' hw'
    exact bodyPost_ret (by rw [hres]; exact hr) hf'.df ⟨v, S1, rfl, hw1, hp⟩
end

/-! ## The machine's rules: what each operation on memory does, step by step. -/

section
variable {P : Program} {tt : TT} {N : Nat} {S S1 S' : St} {Q : PostT} {k : Value → T}

/-! ### Steps without memory -/
theorem r_bind {t : T} {k : Ex → Fr → T} (h : wpT P N t S fun e fr S' => wpT P N (k e fr) S' Q) : wpT P N (.bind t k) S Q := h
theorem r_cut {t : T} {k : Ex → Fr → T} (M : PostT) (h : wpT P N t S M) (h' : ∀ e fr S', M e fr S' → wpT P N (k e fr) S' Q) : wpT P N (.bind t k) S Q := wpT_mono t h' h
/-- Only the named slots are kept. -/
def updL : List (Nat × Value) → Fr → Fr
  | [], fr => fr
  | p :: L, fr => upd (updL L fr) p.1 p.2
def okL (fr : Fr) : List (Nat × Value) → Prop
  | [] => True
  | p :: L => fr p.1 = p.2 ∧ okL fr L
theorem updL_same {fr : Fr} : ∀ (L : List (Nat × Value)), okL fr L → updL L fr = fr
  | [], _ => rfl
  | p :: L, h => by
    unfold updL
    rw [updL_same L h.2]
    exact upd_same h.1
theorem r_keep {e : Ex} {fr : Fr} (L : List (Nat × Value)) (hL : okL fr L) (h : ∀ fr', Q e (updL L fr') S) : wpT P N (.done e fr) S Q := ⟨S, Le.refl S, by have := h fr; rw [updL_same L hL] at this; exact this⟩
theorem r_mid {t : T} (M : PostT) (h : wpT P N t S M) (h' : ∀ e fr S', M e fr S' → Q e fr S') : wpT P N t S Q := wpT_mono t h' h
theorem r_mid1 {t : T} {k : Ex → Fr → T} (M : PostT) (h : wpT P N t S fun e fr S' => wpT P N (k e fr) S' M) (h' : ∀ e fr S', M e fr S' → Q e fr S') : wpT P N t S fun e fr S' => wpT P N (k e fr) S' Q := wpT_mono t (fun e fr _ h => wpT_mono (k e fr) h' h) h
theorem slot {fr : Fr} {t : Nat} {v : Value} (h : fr t = v) : fr = upd fr t v := (upd_same h).symm
theorem r_done {e : Ex} {fr : Fr} (h : Q e fr S) : wpT P N (.done e fr) S Q := ⟨S, Le.refl S, h⟩
theorem r_done_le {e : Ex} {fr : Fr} (hl : Le S S1) (h : Q e fr S1) : wpT P N (.done e fr) S Q := ⟨S1, hl, h⟩
theorem r_le {t : T} (hl : Le S S1) (h : wpT P N t S1 Q) : wpT P N t S Q := wpT_le t hl h
theorem r_check {c : Prop} {t : T} (hc : c) (h : wpT P N t S Q) : wpT P N (.check c t) S Q := ⟨hc, h⟩
theorem r_num {e e' : Int} {k : Int → T} (he : e = e') (h : wpT P N (k e') S Q) : wpT P N (.num e k) S Q := by rw [← he] at h; exact h
theorem wrap_in {n : Int} (h : -9223372036854775808 ≤ n ∧ n ≤ 9223372036854775807) : IntKind.i64.wrap n = n := IntWalk.i64_in n h
theorem r_T {b : Bool} {x y : T} (hb : b = true) (h : wpT P N x S Q) : wpT P N (.ite b x y) S Q := ⟨fun _ => h, fun h0 => absurd (hb.symm.trans h0) (by decide)⟩
theorem r_F {b : Bool} {x y : T} (hb : b = false) (h : wpT P N y S Q) : wpT P N (.ite b x y) S Q := ⟨fun h0 => absurd (hb.symm.trans h0) (by decide), fun _ => h⟩
theorem r_ite {b : Bool} {x y : T} (hx : b = true → wpT P N x S Q) (hy : b = false → wpT P N y S Q) : wpT P N (.ite b x y) S Q := ⟨hx, hy⟩
theorem r_if {c : Prop} [Decidable c] {x y : T} (hx : c → wpT P N x S Q) (hy : ¬ c → wpT P N y S Q) : wpT P N (.ite (decide c) x y) S Q := ⟨fun h => hx (of_decide_eq_true h), fun h => hy (of_decide_eq_false h)⟩
theorem r_ifn {c : Prop} [Decidable c] {x y : T} (hx : ¬ c → wpT P N x S Q) (hy : c → wpT P N y S Q) : wpT P N (.ite (!decide c) x y) S Q := ⟨fun h => hx (by simpa using h), fun h => hy (by simpa using h)⟩
theorem r_call {f : FuncId} {args : Array Value} {Post : Value → St → Prop} (h : HC P f args S Post) (hk : ∀ v S', Post v S' → wpT P N (k v) S' Q) : wpT P N (.call f args k) S Q := HC.mono h hk
theorem r_loop {body : Fr → T} {fr : Fr} (I : Nat → Fr → St → Prop) (n : Nat) (h0 : I n fr S) (hI : ∀ n fr S, I n fr S → wpT P N (body fr) S fun e fr' S' =>
      match e with
      | .normal => ∃ m, m < n ∧ I m fr' S'
      | e => Q e fr' S') : wpT P N (.loop body fr) S Q := ⟨I, ⟨n, S, Le.refl S, h0⟩, hI⟩
theorem r_loop_le {body : Fr → T} {fr : Fr} (I : Nat → Fr → St → Prop) (n : Nat) (hl : Le S S1) (h0 : I n fr S1) (hI : ∀ n fr S, I n fr S → wpT P N (body fr) S fun e fr' S' =>
      match e with
      | .normal => ∃ m, m < n ∧ I m fr' S'
      | e => Q e fr' S') : wpT P N (.loop body fr) S Q := ⟨I, ⟨n, S1, hl, h0⟩, hI⟩
theorem r_quiet (htt : tt.Ok P) (hm : P.follows .mixedOrders = true) {ops : Array Oper} {fr : Fr} (hB : Region.lexB .any ops = true) (h : wpQ P S (fun fr' => Q .normal fr' S) (denOps tt N ops ops.toList fr)) : wpT P N (.draw ops fr) S Q := draw_quiet htt hm hB h
theorem r_sem {g : Tag} {v : Value} (hr : ∀ w0 w, SH w0 S w → (semOf g).run P w = .ok v w) (h : wpT P N (k v) S Q) : wpT P N (.sem g k) S Q := OpT.of_run hr h

/-! ### What is forgotten -/
/-- S1 knows some of what S knows. -/
structure Sub (S S1 : St) : Prop where
  h : ∀ x o, S1.H x = some o → S.H x = some o
  ro : ∀ a v, S1.ro a = some v → S.ro a = some v
theorem Sub.gone {b : Nat} (h : Sub S S1) (hb : S.H b = none) : S1.H b = none := by
  cases hx : S1.H b with
  | none => rfl
  | some o => have := h.h _ _ hx; rw [hb] at this; cases this
theorem Sub.le (h : Sub S S1) : Le S S1 := fun _ _ hw => ⟨hw.below, fun a v ha => ⟨(hw.ro a v (h.ro a v ha)).1, h.gone (hw.ro a v (h.ro a v ha)).2⟩, fun b o hb => hw.h b o (h.h b o hb)⟩
theorem Sub.refl (S : St) : Sub S S := ⟨fun _ _ h => h, fun _ _ h => h⟩
theorem Sub.trans {S2 : St} (h : Sub S S1) (h' : Sub S1 S2) : Sub S S2 := ⟨fun x o hx => h.h x o (h'.h x o hx), fun a v ha => h.ro a v (h'.ro a v ha)⟩
theorem Sub.drop {b : Nat} {o : Obj} (hf : S1.H b = none) (h : Sub S S1) : Sub (S.put b o) S1 := ⟨fun x o' hx => by
  have hne : x ≠ b := by rintro rfl; rw [hf] at hx; cases hx
  simp only [St.put, hne, if_false]
  exact h.h x o' hx, h.ro⟩
theorem Sub.both {b : Nat} {o : Obj} (h : Sub S S1) : Sub (S.put b o) (S1.put b o) := ⟨fun x o' hx => by
  simp only [St.put] at hx ⊢
  split at hx
  · rename_i he; rw [if_pos he]; exact hx
  · rename_i he; rw [if_neg he]; exact h.h x o' hx, h.ro⟩
/-- A block that is known anyway. -/
theorem Sub.has {b : Nat} {o : Obj} (hb : S.H b = some o) (h : Sub S S1) : Sub S (S1.put b o) := ⟨fun x o' hx => by
  simp only [St.put] at hx
  split at hx
  · rename_i he; injection hx with hx; subst hx; subst he; exact hb
  · exact h.h x o' hx, h.ro⟩
theorem put_same (S : St) (b : Nat) (o : Obj) : (S.put b o).H b = some o := by simp [St.put]
theorem put_ne {b x : Nat} {o : Obj} (h : x ≠ b) : (S.put b o).H x = S.H x := by simp [St.put, h]
theorem put_old {b x : Nat} {o o' : Obj} (hf : Fresh S b) (hx : S.H x = some o') : (S.put b o).H x = some o' := by
  have hne : x ≠ b := by rintro rfl; rw [hf.1] at hx; cases hx
  rw [put_ne hne]; exact hx
theorem put_put (S : St) (b : Nat) (o o' : Obj) : (S.put b o).put b o' = S.put b o' := by
  unfold St.put
  congr 1
  funext x
  by_cases hx : x = b <;> simp [hx]
theorem put_comm (S : St) {b c : Nat} (o o' : Obj) (h : b ≠ c) : (S.put b o).put c o' = (S.put c o').put b o := by
  unfold St.put
  congr 1
  funext x
  by_cases hx : x = b
  · subst hx; simp [h]
  · simp [hx]
theorem ne_of_fresh {b x : Nat} {o : Obj} (hf : Fresh S b) (hx : S.H x = some o) : x ≠ b := by rintro rfl; rw [hf.1] at hx; cases hx
theorem Fresh.of_put {b c : Nat} {o : Obj} (h : Fresh (S.put c o) b) : Fresh S b ∧ c ≠ b := by
  obtain ⟨h1, h2⟩ := h
  by_cases hb : b = c
  · subst hb; rw [put_same] at h1; cases h1
  · exact ⟨⟨by rw [put_ne hb] at h1; exact h1, h2⟩, fun e => hb e.symm⟩
theorem Fresh.put {b c : Nat} {o : Obj} (h : Fresh S b) (hn : c ≠ b) : Fresh (S.put c o) b := ⟨by rw [put_ne (fun e => hn e.symm)]; exact h.1, h.2⟩
theorem Fresh.mono {b : Nat} (h : Fresh S b) (hs : Sub S S1) : Fresh S1 b := by
  refine ⟨hs.gone h.1, fun o s => ?_⟩
  cases hx : S1.ro ⟨b, o, s⟩ with
  | none => rfl
  | some v => have := hs.ro _ _ hx; rw [h.2] at this; cases this

/-- S1 knows some of what S knows, but for the blocks X. -/
structure SubX (X : List Nat) (S S1 : St) : Prop where
  h : ∀ x o, x ∉ X → S1.H x = some o → S.H x = some o
  ro : ∀ a v, S1.ro a = some v → S.ro a = some v
theorem SubX.refl (X : List Nat) (S : St) : SubX X S S := ⟨fun _ _ _ h => h, fun _ _ h => h⟩
theorem SubX.drop {X : List Nat} {b : Nat} {o : Obj} (hf : S1.H b = none) (h : SubX X S S1) : SubX X (S.put b o) S1 := ⟨fun x o' hX hx => by
  have hne : x ≠ b := by rintro rfl; rw [hf] at hx; cases hx
  rw [put_ne hne]
  exact h.h x o' hX hx, h.ro⟩
theorem SubX.ex {X : List Nat} {b : Nat} {o : Obj} (hf : b ∈ X) (h : SubX X S S1) : SubX X (S.put b o) S1 := ⟨fun x o' hX hx => by
  have hne : x ≠ b := by rintro rfl; exact hX hf
  rw [put_ne hne]
  exact h.h x o' hX hx, h.ro⟩
theorem SubX.has {X : List Nat} {b : Nat} {o : Obj} (hb : S.H b = some o) (h : SubX (b :: X) S S1) : SubX X S (S1.put b o) := ⟨fun x o' hX hx => by
  by_cases hxb : x = b
  · subst hxb; rw [put_same] at hx; rw [← hx]; exact hb
  · rw [put_ne hxb] at hx; exact h.h x o' (by simp [hxb, hX]) hx, h.ro⟩
theorem SubX.sub (h : SubX [] S S1) : Sub S S1 := ⟨fun x o hx => h.h x o (by simp) hx, h.ro⟩
theorem SubX.le (h : SubX [] S S1) : Le S S1 := h.sub.le
theorem SubX.of {X : List Nat} (h : Sub S S1) : SubX X S S1 := ⟨fun x o _ hx => h.h x o hx, h.ro⟩
theorem SubX.trans {X : List Nat} {S2 : St} (h : Sub S S1) (h' : SubX X S1 S2) : SubX X S S2 := ⟨fun x o hX hx => h.h x o (h'.h x o hX hx), fun a v ha => h.ro a v (h'.ro a v ha)⟩
theorem Fresh.non {b : Nat} (h : Fresh S b) : S.H b = none := h.1
theorem put_ne1 {b c : Nat} {o x : Obj} (hn : c ≠ b) (h : S.H c = some x) : (S.put b o).H c = some x := by rw [put_ne hn]; exact h
theorem put_ne2 {b c : Nat} {o x : Obj} (hn : b ≠ c) (h : S.H c = some x) : (S.put b o).H c = some x := by rw [put_ne (Ne.symm hn)]; exact h
theorem put_base {S0 : St} {b g : Nat} {o o0 x : Obj} (hf : Fresh S0 b) (hg : S0.H g = some o0) (h : S.H g = some x) : (S.put b o).H g = some x := by rw [put_ne (ne_of_fresh hf hg)]; exact h

/-! ### Memory itself -/
theorem SH.set {w0 w : World} {b : Nat} {o o' : Obj} (hw : SH w0 S w) (hb : S.H b = some o) : SH w0 (S.put b o') { w with heap := w.heap.setIfInBounds b o' } := by
  have hlt := hw.lt hb
  have hge := (hw.h b o hb).2
  refine ⟨⟨hw.below.os, hw.below.tape, hw.below.output, by simpa using hw.below.size, fun i hi => ?_⟩, fun a v ha => ?_, fun x o1 hx => ?_⟩
  · show (w.heap.setIfInBounds b o')[i]? = _
    rw [Array.getElem?_setIfInBounds_ne (by omega)]
    exact hw.below.block i hi
  · obtain ⟨h1, h2⟩ := hw.ro a v ha
    have hne : a.block ≠ b := by rintro he; rw [he, hb] at h2; cases h2
    refine ⟨?_, by rw [put_ne hne]; exact h2⟩
    rw [← h1]
    exact World.cell?_of_block (by show (w.heap.setIfInBounds b o')[a.block]? = _; rw [Array.getElem?_setIfInBounds_ne (Ne.symm hne)])
  · by_cases he : x = b
    · subst he
      rw [put_same] at hx
      injection hx with hx
      subst hx
      exact ⟨by show (w.heap.setIfInBounds x o')[x]? = _; simp [hlt], hge⟩
    · rw [put_ne he] at hx
      obtain ⟨h1, h2⟩ := hw.h x o1 hx
      exact ⟨by show (w.heap.setIfInBounds b o')[x]? = _; rw [Array.getElem?_setIfInBounds_ne (Ne.symm he)]; exact h1, h2⟩
theorem SH.fresh {w0 w : World} (hw : SH w0 S w) {b : Nat} (hb : w.heap.size ≤ b) : Fresh S b := by
  refine ⟨?_, fun o s => ?_⟩
  · cases hx : S.H b with
    | none => rfl
    | some o => have := hw.lt hx; omega
  · cases hx : S.ro ⟨b, o, s⟩ with
    | none => rfl
    | some v => have := World.block_lt_of_cell? w _ (hw.ro _ v hx).1; simp at this; omega
theorem SH.new {w0 w : World} (hw : SH w0 S w) (o : Obj) : SH w0 (S.put w.heap.size o) (w.alloc o) := by
  refine ⟨hw.below.alloc hw.below.size o, fun a v ha => ?_, fun x o1 hx => ?_⟩
  · obtain ⟨h1, h2⟩ := hw.ro a v ha
    have hlt := World.block_lt_of_cell? w _ h1
    refine ⟨?_, by rw [put_ne (by omega)]; exact h2⟩
    rw [← h1]
    exact World.cell?_alloc_lt w o a hlt
  · by_cases he : x = w.heap.size
    · subst he
      rw [put_same] at hx
      injection hx with hx
      subst hx
      exact ⟨heap_alloc_new w o, hw.below.size⟩
    · rw [put_ne he] at hx
      obtain ⟨h1, h2⟩ := hw.h x o1 hx
      have hlt := hw.lt hx
      exact ⟨(Below.heap_alloc w o x hlt).trans h1, h2⟩
theorem SH.cell {w0 w : World} {b off : Nat} {cs : Array Value} {ty : Nat} {fz : Nat × Nat} {v : Value} (hw : SH w0 S w) (hb : S.H b = some (.cells cs ty fz)) (hv : cs[off]? = some v) : w.cell? ⟨b, off, none⟩ = some v := by
  have := (hw.h b _ hb).1
  simp [World.cell?, this, hv]
theorem SH.frozen {w0 w : World} {b off : Nat} {cs : Array Value} {ty : Nat} (hw : SH w0 S w) (hb : S.H b = some (.cells cs ty (0, 0))) : w.frozen? ⟨b, off, none⟩ = false := by
  have := (hw.h b _ hb).1
  simp [World.frozen?, this]
/-- A cell that may be read. -/
def St.cell (S : St) (a : Addr) : Option Value := match S.H a.block with
  | some (.cells c _ _) => if a.spot.isSome then none else c[a.off]?
  | some _ => none
  | none => S.ro a
theorem SH.cell_ {w0 w : World} {a : Addr} {v : Value} (hw : SH w0 S w) (h : S.cell a = some v) : w.cell? a = some v := by
  unfold St.cell at h
  split at h
  · rename_i c ty fz hb
    have := (hw.h _ _ hb).1
    simp only [World.cell?, this]
    exact h
  · cases h
  · exact (hw.ro a v h).1
theorem cell_ro {a : Addr} {v : Value} {w0 w : World} (hw : SH w0 S w) (h : S.ro a = some v) : S.cell a = some v := by
  unfold St.cell
  rw [(hw.ro a v h).2]
  exact h

/-! ### Loads -/
theorem isAgg_run (htt : tt.Ok P) {t : TypeId} (hs : tt.sc t = true) (w : World) : (isAgg t).run P w = .ok false w := by
  obtain ⟨⟨d, hd, hp⟩, _⟩ := htt.sc t hs
  unfold isAgg
  simp only [Sem.run_bind, underlying_run hd, Result.andThen_ok]
  cases d <;> simp_all [plainDesc]
theorem isAgg_run' (htt : tt.Ok P) {t n : Nat} (hs : tt.ag t = some n) (w : World) : (isAgg t).run P w = .ok true w := by
  obtain ⟨⟨d, hd, hp⟩, _⟩ := htt.ag t n hs
  unfold isAgg
  simp only [Sem.run_bind, underlying_run hd, Result.andThen_ok]
  cases d <;> simp_all [plainDesc]
theorem run_load_sc (htt : tt.Ok P) {t : TypeId} (hs : tt.sc t = true) {w : World} {a : Addr} {v : Value} (hc : w.cell? a = some v) : (Instr.loadAt t (.pointer (some a))).run P w = .ok v w := by
  unfold Instr.loadAt loadVar
  simp only [Instr.sureAddr, Sem.run_bind, Sem.run_pure, Result.andThen_ok, isAgg_run htt hs, Bool.false_eq_true, if_false]
  simp [load, Sem.run, hc]
theorem loadCellsFrom_run {w : World} {a : Addr} : ∀ (vs : List Value) (i : Nat) (acc : Array Value), (∀ j u, vs[j]? = some u → w.cell? (a.add (i + j)) = some u) → (loadCellsFrom a i vs.length acc).run P w = .ok (acc ++ vs.toArray) w
  | [], i, acc, _ => by simp [loadCellsFrom]
  | v :: vs, i, acc, h => by
    have h0 := h 0 v rfl
    rw [Nat.add_zero] at h0
    simp only [List.length_cons, loadCellsFrom, Sem.run_bind]
    have : (load (a.add i)).run P w = .ok v w := by simp [load, Sem.run, h0]
    rw [this]
    simp only [Result.andThen_ok]
    rw [loadCellsFrom_run vs (i + 1) (acc.push v) (fun j u hj => by have := h (j + 1) u (by simpa using hj); rw [show i + 1 + j = i + (j + 1) by omega]; exact this)]
    simp
theorem run_load_ag (htt : tt.Ok P) {t n : Nat} (hs : tt.ag t = some n) {w : World} {a : Addr} {vs : List Value} (hl : vs.length = n) (hc : ∀ j u, vs[j]? = some u → w.cell? (a.add j) = some u) : (loadVar t a).run P w = .ok (.agg vs.toArray) w := by
  obtain ⟨_, ki, hki, hkn⟩ := htt.ag t n hs
  unfold loadVar
  simp only [Sem.run_bind, Sem.run_pure, Result.andThen_ok, isAgg_run' htt hs, if_true, sizeOf_run hki, loadCells]
  rw [hkn, ← hl, loadCellsFrom_run vs 0 #[] (fun j u hj => by rw [Nat.zero_add]; exact hc j u hj)]
  simp
theorem r_load (htt : tt.Ok P) {t b off : Nat} {cs : Array Value} {ty : Nat} {fz : Nat × Nat} {v : Value} (hs : tt.sc t = true) (hb : S.H b = some (.cells cs ty fz)) (hv : cs[off]? = some v) (h : wpT P N (k v) S Q) :
    wpT P N (.sem (.load t (.pointer (some ⟨b, off, none⟩))) k) S Q := r_sem (fun _ _ hw => run_load_sc htt hs (hw.cell hb hv)) h
theorem r_load_ro (htt : tt.Ok P) {t : Nat} {a : Addr} {v : Value} (hs : tt.sc t = true) (hv : S.ro a = some v) (h : wpT P N (k v) S Q) :
    wpT P N (.sem (.load t (.pointer (some a))) k) S Q := r_sem (fun _ _ hw => run_load_sc htt hs (hw.ro a v hv).1) h
theorem add_plain (g o j : Nat) : (⟨g, o, none⟩ : Addr).add j = ⟨g, o + j, none⟩ := by unfold Addr.add; split <;> simp_all
theorem r_loads (htt : tt.Ok P) {t n b off : Nat} {cs : Array Value} {ty : Nat} {fz : Nat × Nat} {vs : List Value} (hs : tt.ag t = some n) (hb : S.H b = some (.cells cs ty fz)) (hv : (cs.toList.drop off).take n = vs) (hl : vs.length = n) (h : wpT P N (k (.agg vs.toArray)) S Q) :
    wpT P N (.sem (.load t (.pointer (some ⟨b, off, none⟩))) k) S Q := by
  refine r_sem (fun _ w hw => ?_) h
  simp only [semOf]
  unfold Instr.loadAt
  simp only [Instr.sureAddr, Sem.run_bind, Sem.run_pure, Result.andThen_ok]
  refine run_load_ag htt hs hl fun j u hj => ?_
  rw [add_plain]
  refine hw.cell hb ?_
  rw [← hv, List.getElem?_take] at hj
  split at hj
  · rw [List.getElem?_drop] at hj
    rw [← Array.getElem?_toList]; exact hj
  · cases hj
theorem r_loads_ro (htt : tt.Ok P) {t n : Nat} {a : Addr} {vs : List Value} (hs : tt.ag t = some n) (hl : vs.length = n) (hv : ∀ j u, vs[j]? = some u → S.ro (a.add j) = some u) (h : wpT P N (k (.agg vs.toArray)) S Q) :
    wpT P N (.sem (.load t (.pointer (some a))) k) S Q := by
  refine r_sem (fun _ w hw => ?_) h
  simp only [semOf]
  unfold Instr.loadAt
  simp only [Instr.sureAddr, Sem.run_bind, Sem.run_pure, Result.andThen_ok]
  exact run_load_ag htt hs hl fun j u hj => (hw.ro _ _ (hv j u hj)).1

/-! ### New blocks -/
theorem opT_new {s : Sem Value} {val : Nat → Value} {o : Obj} {K : Value → St → Prop} (hr : ∀ w : World, s.run P w = .ok (val w.heap.size) (w.alloc o)) (h : ∀ b, Fresh S b → K (val b) (S.put b o)) : OpT P s S K :=
  fun _ w hw => ⟨_, _, _, hr w, hw.new o, h _ (hw.fresh (Nat.le_refl _))⟩
theorem run_newVar (t : TypeId) (v : Value) (w : World) : (newVar t v).run P w = .ok ⟨w.heap.size, 0, none⟩ (w.alloc (.cells v.cells t)) := by
  rfl
theorem r_alloc (htt : tt.Ok P) {e n b' : Nat} {z : Value} (hz : tt.inf e = some (z, n, b')) (h : ∀ b, Fresh S b → wpT P N (k (.pointer (some ⟨b, 0, none⟩))) (S.put b (.cells z.cells e (0, 0))) Q) :
    wpT P N (.sem (.alloc e) k) S Q := by
  obtain ⟨ki, hki, hkz, _⟩ := htt.inf e z n b' hz
  refine opT_new (val := fun b => .pointer (some ⟨b, 0, none⟩)) (fun w => ?_) h
  have hzv : (zeroValue e).run P w = .ok z w := by simp [zeroValue, typeInfo, program, Sem.run_bind, Sem.run, Result.andThen, hki, hkz]
  simp only [semOf]
  unfold Instr.alloc
  simp only [Sem.run_bind, hzv, Result.andThen_ok, run_newVar, Sem.run_pure]
theorem r_box {e : Nat} {v : Value} (h : ∀ b, Fresh S b → wpT P N (k (.pointer (some ⟨b, 0, none⟩))) (S.put b (.cells v.cells e (0, 0))) Q) :
    wpT P N (.sem (.box e v) k) S Q := by
  refine opT_new (val := fun b => .pointer (some ⟨b, 0, none⟩)) (fun w => ?_) h
  simp only [semOf]
  unfold Instr.box
  simp only [Sem.run_bind, Result.andThen_ok, run_newVar, Sem.run_pure]

/-! ### Stores -/
def setL (cs : Array Value) (off : Nat) (vs : List Value) : Array Value := (cs.toList.take off ++ vs ++ cs.toList.drop (off + vs.length)).toArray
theorem take_set_succ {α : Type} (v : α) : ∀ (l : List α) (i : Nat), i < l.length → (l.set i v).take (i + 1) = l.take i ++ [v]
  | [], i, h => by simp at h
  | a :: l, 0, _ => by simp
  | a :: l, i + 1, h => by simp only [List.set_cons_succ, List.take_succ_cons, List.cons_append]; rw [take_set_succ v l i (by simpa using h)]
theorem storeCells_run : ∀ (vs : List Value) (i : Nat) {w : World} {b off ty : Nat} {cs : Array Value}, w.heap[b]? = some (.cells cs ty (0, 0)) → off + i + vs.length ≤ cs.size → (∀ v ∈ vs, v.oneCell' = true) →
    (storeCells ⟨b, off, none⟩ vs i).run P w = .ok () { w with heap := w.heap.setIfInBounds b (.cells (setL cs (off + i) vs) ty (0, 0)) }
  | [], i, w, b, off, ty, cs, hb, hl, h1 => by
    have hlt : b < w.heap.size := (Array.getElem?_eq_some_iff.1 hb).1
    have he : setL cs (off + i) [] = cs := by simp [setL]
    rw [he]
    simp only [storeCells, Sem.run_pure]
    congr 1
    have : w.heap.setIfInBounds b (.cells cs ty (0, 0)) = w.heap := by
      apply Array.ext_getElem?
      intro j
      by_cases hj : j = b
      · subst hj; rw [hb]; simp [hlt]
      · rw [Array.getElem?_setIfInBounds_ne (Ne.symm hj)]
    rw [this]
  | v :: vs, i, w, b, off, ty, cs, hb, hl, h1 => by
    have hlt : b < w.heap.size := (Array.getElem?_eq_some_iff.1 hb).1
    simp only [List.length_cons] at hl
    have hv := h1 v List.mem_cons_self
    have hoff : off + i < cs.size := by omega
    have hcell : w.cell? ⟨b, off + i, none⟩ = some cs[off + i] := by simp [World.cell?, hb, hoff]
    have hfz : w.frozen? ⟨b, off + i, none⟩ = false := by simp [World.frozen?, hb]
    have hset : w.setCell ⟨b, off + i, none⟩ v = { w with heap := w.heap.setIfInBounds b (.cells (cs.setIfInBounds (off + i) v) ty (0, 0)) } := by
      unfold World.setCell
      congr 1
      apply Array.ext_getElem?
      intro j
      rw [Array.getElem?_modify]
      by_cases hj : b = j
      · subst hj; rw [if_pos rfl, hb]; simp [hlt]
      · rw [if_neg hj, Array.getElem?_setIfInBounds_ne hj]
    simp only [storeCells, Sem.run_bind, add_plain]
    rw [run_store P w _ v _ hv, hcell]
    simp only [hfz, Bool.false_eq_true, if_false, Result.andThen_ok, hset]
    rw [storeCells_run vs (i + 1) (cs := cs.setIfInBounds (off + i) v) (ty := ty) (by simp [hlt]) (by simp; omega) (fun u hu => h1 u (List.mem_cons_of_mem _ hu))]
    congr 1
    have hcs : setL (cs.setIfInBounds (off + i) v) (off + (i + 1)) vs = setL cs (off + i) (v :: vs) := by
      unfold setL
      congr 1
      simp only [Array.toList_setIfInBounds, List.length_cons]
      have hlen : off + i < cs.toList.length := by simpa using hoff
      rw [show off + (i + 1) = off + i + 1 by omega, take_set_succ v _ _ hlen, List.drop_set_of_lt (by omega)]
      rw [show off + i + 1 + vs.length = off + i + (vs.length + 1) by omega]
      simp
    rw [hcs]
    simp only [Array.setIfInBounds_setIfInBounds]
theorem run_storeAt {t b off n : Nat} {ki : TypeInfo} {v : Value} {w : World} {cs : Array Value} {ty : Nat} (hki : P.info? t = some ki) (hn : ki.size = n) (hvn : v.cells.size = n) (h1 : ∀ u ∈ v.cells.toList, u.oneCell' = true)
    (hb : w.heap[b]? = some (.cells cs ty (0, 0))) (hl : off + n ≤ cs.size) :
    (Instr.storeAt t (.pointer (some ⟨b, off, none⟩)) v).run P w = .ok () { w with heap := w.heap.setIfInBounds b (.cells (setL cs off v.cells.toList) ty (0, 0)) } := by
  unfold Instr.storeAt storeVar
  simp only [Instr.sureAddr, Sem.run_bind, Sem.run_pure, Result.andThen_ok, sizeOf_run hki]
  rw [if_neg (by rw [hn, hvn]; simp)]
  exact storeCells_run v.cells.toList 0 hb (by simpa [hvn] using hl) h1

theorem cells_one {v : Value} (hv : v.oneCell' = true) : v.cells = #[v] := by cases v <;> first | rfl | cases hv
theorem setL_one {cs : Array Value} {off : Nat} {v : Value} (h : off < cs.size) : setL cs off [v] = cs.setIfInBounds off v := by
  apply Array.toList_inj.1
  simp only [setL, Array.toList_setIfInBounds, List.length_singleton]
  rw [← take_set_succ v _ _ (by simpa using h), ← List.drop_set_of_lt (i := off) (j := off + 1) (by omega) (l := cs.toList) (a := v)]
  exact List.take_append_drop _ _
theorem r_store (htt : tt.Ok P) {t b off : Nat} {cs : Array Value} {ty : Nat} {v : Value} (hs : tt.sc t = true) (hb : S.H b = some (.cells cs ty (0, 0))) (hv : v.oneCell' = true) (hl : Nat.blt off cs.size = true)
    (h : wpT P N (k undef) (S.put b (.cells (cs.setIfInBounds off v) ty (0, 0))) Q) : wpT P N (.sem (.store t (.pointer (some ⟨b, off, none⟩)) v) k) S Q := by
  intro w0 w hw
  obtain ⟨_, ki, hki, hkn⟩ := htt.sc t hs
  have hlt : off < cs.size := by simpa [Nat.blt_eq] using hl
  have hc := cells_one hv
  refine ⟨undef, _, _, ?_, hw.set hb, h⟩
  simp only [semOf, Sem.run_bind]
  rw [run_storeAt hki hkn (by rw [hc]; rfl) (by rw [hc]; simpa using hv) (hw.h b _ hb).1 (by omega), hc]
  simp only [Result.andThen_ok, Sem.run_pure]
  rw [setL_one hlt]
theorem r_stores (htt : tt.Ok P) {t n b off : Nat} {cs : Array Value} {ty : Nat} {vs : Array Value} (hs : tt.ag t = some n) (hb : S.H b = some (.cells cs ty (0, 0))) (hn : vs.size = n) (hv : vs.toList.all (·.oneCell') = true) (hl : Nat.ble (off + n) cs.size = true)
    (h : wpT P N (k undef) (S.put b (.cells (setL cs off vs.toList) ty (0, 0))) Q) : wpT P N (.sem (.store t (.pointer (some ⟨b, off, none⟩)) (.agg vs)) k) S Q := by
  intro w0 w hw
  obtain ⟨_, ki, hki, hkn⟩ := htt.ag t n hs
  refine ⟨undef, _, _, ?_, hw.set hb, h⟩
  simp only [semOf, Sem.run_bind]
  rw [run_storeAt hki hkn (v := .agg vs) hn (fun u hu => List.all_eq_true.1 hv u hu) (hw.h b _ hb).1 (Nat.le_of_ble_eq_true hl)]
  simp only [Result.andThen_ok, Sem.run_pure, Value.cells]

/-! ### Structs and rows that are written out -/
def fillL (pl : Nat → Option (Nat × Nat)) (cells : List Value) : List (Nat × Value) → Option (List Value)
  | [] => some cells
  | (i, v) :: rest => match pl i with
    | some (off, size) => bif Nat.beq v.cells.size size && Nat.ble (off + size) cells.length then fillL pl (cells.take off ++ v.cells.toList ++ cells.drop (off + size)) rest else none
    | none => none
theorem fold_set (off : Nat) : ∀ (vs : List Value) (i : Nat) (cells : Array Value), off + i + vs.length ≤ cells.size → (vs.zipIdx i).foldl (fun cs (x : Value × Nat) => cs.setIfInBounds (off + x.2) x.1) cells = setL cells (off + i) vs
  | [], i, cells, _ => by simp [setL]
  | v :: vs, i, cells, h => by
    simp only [List.length_cons] at h
    simp only [List.zipIdx_cons, List.foldl_cons]
    rw [fold_set off vs (i + 1) _ (by simp; omega)]
    unfold setL
    congr 1
    simp only [Array.toList_setIfInBounds, List.length_cons]
    have hlen : off + i < cells.toList.length := by simp; omega
    rw [show off + (i + 1) = off + i + 1 by omega, take_set_succ v _ _ hlen, List.drop_set_of_lt (by omega)]
    rw [show off + i + 1 + vs.length = off + i + (vs.length + 1) by omega]
    simp
theorem fill_of : ∀ (parts : List (Nat × Value)) {pl : Nat → Option (Nat × Nat)} {cells : List Value} {cs : List Value}, fillL pl cells parts = some cs → Instr.fill pl cells.toArray parts = some cs.toArray
  | [], pl, cells, cs, h => by
    simp only [fillL, Option.some.injEq] at h
    subst h
    rfl
  | (i, v) :: rest, pl, cells, cs, h => by
    unfold fillL at h
    unfold Instr.fill
    split at h
    · rename_i off size hpl
      rw [hpl]
      cases hc : (Nat.beq v.cells.size size && Nat.ble (off + size) cells.length) with
      | false => rw [hc] at h; cases h
      | true =>
        rw [hc] at h
        simp only [cond_true] at h
        rw [Bool.and_eq_true, Nat.beq_eq] at hc
        have h2 := Nat.le_of_ble_eq_true hc.2
        have h1 := hc.1
        simp only
        rw [if_neg (by rw [h1]; simp; omega)]
        have hf : v.cells.zipIdx.foldl (fun cs x => cs.setIfInBounds (off + x.2) x.1) cells.toArray = (cells.take off ++ v.cells.toList ++ cells.drop (off + size)).toArray := by
          have := fold_set off v.cells.toList 0 cells.toArray (by simp [h1]; omega)
          rw [← Array.foldl_toList, Array.toList_zipIdx]
          rw [this]
          simp [setL, h1]
        exact (congrArg (fun z => Instr.fill pl z rest) hf).trans (fill_of rest h)
    · cases h
theorem r_build (htt : tt.Ok P) {t n b : Nat} {z : Value} {l : List (Nat × Nat)} {ps : List (Nat × Value)} {cs : List Value} (hz : tt.inf t = some (z, n, b)) (hp : tt.pl t = some l) (hf : fillL (l[·]?) z.cells.toList ps = some cs)
    (h : wpT P N (k (.agg cs.toArray)) S Q) : wpT P N (.sem (.build t ps) k) S Q := by
  obtain ⟨ki, hki, hkz, _⟩ := htt.inf t z n b hz
  obtain ⟨fs, hfs, hm⟩ := htt.pl t l hp
  refine r_sem (fun _ w hw => ?_) h
  have hzv : (zeroValue t).run P w = .ok z w := by simp [zeroValue, typeInfo, program, Sem.run_bind, Sem.run, Result.andThen, hki, hkz]
  have hpl : ∀ (fl : List Field) (l : List (Nat × Nat)), fl.map (fun f => (f.offset, (P.info? f.type).map (·.size))) = l.map (fun x => (x.1, some x.2)) →
      (fl.mapM fun f => (do pure (f.offset, ← sizeOf f.type) : Sem (Nat × Nat))).run P w = .ok l w := by
    intro fl
    induction fl with
    | nil => intro l hl; cases l with
      | nil => rfl
      | cons x l => simp at hl
    | cons f fl ih =>
      intro l hl
      cases l with
      | nil => simp at hl
      | cons x l =>
        simp only [List.map_cons, List.cons.injEq, Prod.mk.injEq] at hl
        obtain ⟨⟨h1, h2⟩, h3⟩ := hl
        obtain ⟨kf, hkf, hks⟩ := Option.map_eq_some_iff.1 h2
        simp only [List.mapM_cons, Sem.run_bind, sizeOf_run hkf, Result.andThen_ok, Sem.run_pure, ih l h3, h1, hks]
  have hpa : (fs.mapM fun f => (do pure (f.offset, ← sizeOf f.type) : Sem (Nat × Nat))).run P w = .ok l.toArray w := by
    rw [← Array.toArray_toList (xs := fs), List.mapM_toArray]
    rw [show (List.toArray <$> (fs.toList.mapM fun f => (do pure (f.offset, ← sizeOf f.type) : Sem (Nat × Nat)))) = (do let x ← fs.toList.mapM fun f => (do pure (f.offset, ← sizeOf f.type) : Sem (Nat × Nat)); pure x.toArray) from rfl]
    simp only [Sem.run_bind, hpl _ _ hm, Result.andThen_ok, Sem.run_pure]
  simp only [semOf]
  unfold Instr.build
  simp only [Sem.run_bind, hzv, Result.andThen_ok, underlying_run hfs, hpa]
  have := fill_of ps hf
  simp only [List.getElem?_toArray]
  rw [Array.toArray_toList] at this
  rw [this]
  rfl
theorem r_buildSlice (htt : tt.Ok P) {t e sz n b' len : Nat} {z : Value} {ps : List (Nat × Value)} {cs : List Value} (he : tt.el t = some (e, sz)) (hz : tt.inf e = some (z, n, b')) (hl : Nat.ble (len * sz) 1000 = true)
    (hf : fillL (fun i => some (i * sz, sz)) ((List.range (len * sz)).map fun i => z.cells[i % z.cells.size]!) ps = some cs)
    (h : ∀ b, Fresh S b → wpT P N (k (.slice (some ⟨b, 0, none⟩) len len)) (S.put b (.cells cs.toArray e (0, 0))) Q) : wpT P N (.sem (.buildSlice t len ps) k) S Q := by
  obtain ⟨ki, hki, hkz, _⟩ := htt.inf e z n b' hz
  obtain ⟨hu, ks, hks, hkn⟩ := htt.el t e sz he
  have hle := Nat.le_of_ble_eq_true hl
  refine opT_new (val := fun b => .slice (some ⟨b, 0, none⟩) len len) (fun w => ?_) h
  have hzv : (zeroValue e).run P w = .ok z w := by simp [zeroValue, typeInfo, program, Sem.run_bind, Sem.run, Result.andThen, hki, hkz]
  simp only [semOf]
  unfold Instr.buildSlice
  simp only [Sem.run_bind, underlying_run hu, sizeOf_run hks, Result.andThen_ok, hkn]
  rw [if_neg (by omega)]
  have hfl := fill_of ps hf
  by_cases h0 : len * sz = 0
  · rw [if_pos h0]
    have hcells : (Array.range (len * sz)).map (fun i => (#[] : Array Value)[i % (#[] : Array Value).size]!) = ((List.range (len * sz)).map fun i => z.cells[i % z.cells.size]!).toArray := by rw [h0]; simp
    simp only [Sem.run_bind, Sem.run_pure, Result.andThen_ok, hcells, hfl]
    rfl
  · rw [if_neg h0]
    have hcells : (Array.range (len * sz)).map (fun i => z.cells[i % z.cells.size]!) = ((List.range (len * sz)).map fun i => z.cells[i % z.cells.size]!).toArray := by
      apply Array.toList_inj.1
      simp
    simp only [Sem.run_bind, hzv, Sem.run_pure, Result.andThen_ok, hcells, hfl]
    rfl
theorem r_make (htt : tt.Ok P) {t e sz n b' : Nat} {z : Value} {kl kc : IntKind} {l c : Int} (he : tt.el t = some (e, sz)) (hz : tt.inf e = some (z, n, b')) (h0 : 0 ≤ l) (hlc : l ≤ c) (hb : (b' : Int) * c ≤ 281474976710656) (hc : c.toNat * sz ≤ 16777216) (h63 : c ≤ 9223372036854775807)
    (h : ∀ b, Fresh S b → wpT P N (k (.slice (some ⟨b, 0, none⟩) l.toNat c.toNat)) (S.put b (.cells (madeCells z.cells (c.toNat * sz)) e (0, 0))) Q) : wpT P N (.sem (.makeSlice t (.int kl l) (.int kc c)) k) S Q := by
  obtain ⟨ki, hki, hkz, hks, hkb⟩ := htt.inf e z n b' hz
  obtain ⟨hu, ks, hks', hkn⟩ := htt.el t e sz he
  rw [hki] at hks'
  injection hks' with hks'
  subst hks'
  subst hkn
  refine opT_new (val := fun b => .slice (some ⟨b, 0, none⟩) l.toNat c.toNat) (fun w => ?_) h
  exact run_makeSlice (w := w) t e ki z hu hki hkz kl kc l c h0 hlc hc (by rw [hkb]; exact hb) h63
theorem made_one (z : Value) (n : Nat) : madeCells #[z] n = Array.replicate n z := by
  apply Array.toList_inj.1
  unfold madeCells
  rw [Array.toList_map, Array.toList_replicate, Array.toList_range]
  apply List.ext_getElem?
  intro i
  by_cases hi : i < n
  · simp [hi, Nat.mod_one]
  · simp [hi]

/-! ### Rows that grow -/
/-- v is a row of the memory's own: its n elements are the cells xs; but for its block the memory is S0. -/
def Own (S S0 : St) (e sz : Nat) (v : Value) (n : Nat) (xs : List Value) : Prop :=
  xs.length = n * sz ∧ ((v = .slice none 0 0 ∧ n = 0 ∧ S = S0) ∨
    ∃ b cap cur, v = .slice (some ⟨b, 0, none⟩) n cap ∧ S = S0.put b (.cells cur e (0, 0)) ∧ Fresh S0 b ∧ n ≤ cap ∧ cap ≤ maxLen ∧ cur.size = cap * sz ∧ cur.toList.take (n * sz) = xs)
theorem Own.nil (S : St) (e sz : Nat) : Own S S e sz (.slice none 0 0) 0 [] := ⟨by simp, .inl ⟨rfl, rfl, rfl⟩⟩
theorem Own.made {b n e sz : Nat} {cs : Array Value} (hf : Fresh S b) (hc : cs.size = n * sz) (hn : n ≤ maxLen) : Own (S.put b (.cells cs e (0, 0))) S e sz (.slice (some ⟨b, 0, none⟩) n n) n cs.toList :=
  ⟨by simp [hc], .inr ⟨b, n, cs, rfl, rfl, hf, Nat.le_refl _, hn, hc, by rw [List.take_of_length_le (by simp [hc])]⟩⟩
theorem Own.sub {S0 : St} {e sz n : Nat} {v : Value} {xs : List Value} (h : Own S S0 e sz v n xs) : Sub S S0 := by
  obtain ⟨_, ⟨_, _, rfl⟩ | ⟨b, cap, cur, _, rfl, hf, _⟩⟩ := h
  · exact Sub.refl _
  · exact Sub.drop hf.1 (Sub.refl _)
/-- The memory beside the row may be another one. -/
theorem Own.rebase {S0 S2 : St} {e sz n : Nat} {v : Value} {xs : List Value} (h : Own S S0 e sz v n xs) (hs : Sub S0 S2) : ∃ S3, Sub S S3 ∧ Own S3 S2 e sz v n xs := by
  obtain ⟨hx, ⟨hv, hn, rfl⟩ | ⟨b, cap, cur, hv, rfl, hf, hr⟩⟩ := h
  · exact ⟨S2, hs, hx, .inl ⟨hv, hn, rfl⟩⟩
  · exact ⟨S2.put b (.cells cur e (0, 0)), hs.both, hx, .inr ⟨b, cap, cur, hv, rfl, hf.mono hs, hr⟩⟩
theorem Own.ro {S0 : St} {e sz n : Nat} {v : Value} {xs : List Value} (h : Own S S0 e sz v n xs) : S.ro = S0.ro := by
  obtain ⟨_, ⟨_, _, rfl⟩ | ⟨b, cap, cur, _, rfl, _⟩⟩ := h
  · rfl
  · rfl
theorem Own.slice {S0 : St} {e sz n : Nat} {v : Value} {xs : List Value} (h : Own S S0 e sz v n xs) : ∃ A c, v = .slice A n c := by
  obtain ⟨_, ⟨rfl, rfl, _⟩ | ⟨b, cap, cur, rfl, _⟩⟩ := h
  · exact ⟨none, 0, rfl⟩
  · exact ⟨_, cap, rfl⟩
theorem Own.get {S0 : St} {e sz n x : Nat} {v : Value} {xs : List Value} {o : Obj} (h : Own S S0 e sz v n xs) (hx : S0.H x = some o) : S.H x = some o := h.sub.h x o hx
theorem Own.fresh {S0 : St} {e sz n b : Nat} {v : Value} {xs : List Value} (h : Own S S0 e sz v n xs) (hb : Fresh S b) : Fresh S0 b := hb.mono h.sub
theorem Own.put_new {S0 : St} {e sz n x : Nat} {v : Value} {xs : List Value} {o : Obj} (hx : Fresh S x) (h : Own S S0 e sz v n xs) : Own (S.put x o) (S0.put x o) e sz v n xs := by
  obtain ⟨hl, ⟨hv, hn, rfl⟩ | ⟨b, cap, cur, hv, rfl, hf, hr⟩⟩ := h
  · exact ⟨hl, .inl ⟨hv, hn, rfl⟩⟩
  · obtain ⟨hx1, hx2⟩ := hx.of_put
    exact ⟨hl, .inr ⟨b, cap, cur, hv, put_comm _ _ _ hx2, hf.put (Ne.symm hx2), hr⟩⟩
theorem Own.put_known {S0 : St} {e sz n x : Nat} {v : Value} {xs : List Value} {o o0 : Obj} (hx : S0.H x = some o0) (h : Own S S0 e sz v n xs) : Own (S.put x o) (S0.put x o) e sz v n xs := by
  obtain ⟨hl, ⟨hv, hn, rfl⟩ | ⟨b, cap, cur, hv, rfl, hf, hr⟩⟩ := h
  · exact ⟨hl, .inl ⟨hv, hn, rfl⟩⟩
  · have hxb := ne_of_fresh hf hx
    exact ⟨hl, .inr ⟨b, cap, cur, hv, put_comm _ _ _ (Ne.symm hxb), hf.put hxb, hr⟩⟩
theorem SH.owns {w0 w : World} {S0 : St} {e sz n : Nat} {v : Value} {xs : List Value} (hw : SH w0 S w) (h : Own S S0 e sz v n xs) : w.ownsRow w0.heap.size e sz v n xs := by
  obtain ⟨hx, ⟨hv, hn, _⟩ | ⟨b, cap, cur, hv, rfl, hf, h1, h2, h3, h4⟩⟩ := h
  · exact ⟨hx, .inl ⟨hv, hn⟩⟩
  · obtain ⟨hb1, hb2⟩ := hw.h b _ (put_same _ _ _)
    exact ⟨hx, .inr ⟨b, cap, cur, hv, hb2, hb1, h1, h2, h3, h4⟩⟩
theorem SH.grown {w0 w w' : World} {S0 : St} (hw : SH w0 S0 w) {row : Option Nat} (hg : w.grownBy w' row) (hr : ∀ b, row = some b → Fresh S0 b ∧ w0.heap.size ≤ b) : SH w0 S0 w' := by
  refine ⟨hw.below.grown hg hw.below.size (fun b hb => (hr b hb).2), fun a v ha => ?_, fun b o hb => ?_⟩
  · obtain ⟨h1, h2⟩ := hw.ro a v ha
    have hlt := World.block_lt_of_cell? w _ h1
    refine ⟨?_, h2⟩
    rw [← h1]
    refine World.cell?_of_block (hg.block a.block hlt fun he => ?_)
    have := (hr _ he.symm).1.2 a.off a.spot
    rw [show (⟨a.block, a.off, a.spot⟩ : Addr) = a from rfl, ha] at this
    cases this
  · obtain ⟨h1, h2⟩ := hw.h b o hb
    refine ⟨(hg.block b (hw.lt hb) fun he => ?_).trans h1, h2⟩
    rw [(hr _ he.symm).1.1] at hb
    cases hb
theorem SH.own_back {w0 w : World} {S0 : St} {e sz n : Nat} {v : Value} {xs : List Value} (hw : SH w0 S0 w) (ho : w.ownsRow w0.heap.size e sz v n xs) (hf : ∀ b, v.ownBlock = some b → Fresh S0 b) : ∃ S', SH w0 S' w ∧ Own S' S0 e sz v n xs := by
  obtain ⟨hx, ⟨hv, hn⟩ | ⟨b, cap, cur, hv, hb, hh, h1, h2, h3, h4⟩⟩ := ho
  · exact ⟨S0, hw, hx, .inl ⟨hv, hn, rfl⟩⟩
  · have hfb := hf b (by rw [hv]; rfl)
    refine ⟨S0.put b (.cells cur e (0, 0)), ⟨hw.below, fun a v ha => ?_, fun x o hxo => ?_⟩, hx, .inr ⟨b, cap, cur, hv, rfl, hfb, h1, h2, h3, h4⟩⟩
    · obtain ⟨h5, h6⟩ := hw.ro a v ha
      refine ⟨h5, ?_⟩
      rw [put_ne]
      · exact h6
      · intro he
        have := hfb.2 a.off a.spot
        rw [← he, show (⟨a.block, a.off, a.spot⟩ : Addr) = a from rfl] at this
        have ha' : S0.ro a = some v := ha
        rw [this] at ha'
        cases ha'
    · by_cases he : x = b
      · subst he; rw [put_same] at hxo; injection hxo with hxo; subst hxo; exact ⟨hh, hb⟩
      · rw [put_ne he] at hxo; exact hw.h x o hxo
theorem news_cells {b e : Nat} {cs : Array Value} {fz : Nat × Nat} {news : List Value} (h : S.H b = some (.cells cs e fz)) (hc : cs.toList = news) : ∀ j u, news[j]? = some u → S.cell ((⟨b, 0, none⟩ : Addr).add j) = some u ∨ S.ro ((⟨b, 0, none⟩ : Addr).add j) = some u := by
  intro j u hj
  left
  rw [add_plain, Nat.zero_add]
  unfold St.cell
  subst hc
  rw [Array.getElem?_toList] at hj
  simp [h, hj]
theorem r_append (htt : tt.Ok P) {t ty e sz b' n m mc : Nat} {z : Value} {S0 : St} {v : Value} {xs : List Value} {ad : Addr} (news : List Value) (he : tt.el t = some (e, sz)) (hz : tt.inf e = some (z, sz, b')) (hzs : z.cells.size = sz) (hsz : Nat.blt 0 sz = true)
    (hown : Own S S0 e sz v n xs) (hl : news.length = m * sz) (hnews : ∀ j u, news[j]? = some u → S.cell (ad.add j) = some u ∨ S.ro (ad.add j) = some u) (h1 : ∀ u ∈ news, u.oneCell' = true) (hb : (n + m) * b' ≤ 140737488355328) (h63 : n + m ≤ 9223372036854775807)
    (h : ∀ v' S', Own S' S0 e sz v' (n + m) (xs ++ news) → wpT P N (k v') S' Q) : wpT P N (.sem (.append #[t, t] ty [v, .slice (some ad) m mc]) k) S Q := by
  intro w0 w hw
  obtain ⟨hu, _⟩ := htt.el t e sz he
  obtain ⟨ki, hki, hkz, hks, hkb⟩ := htt.inf e z sz b' hz
  have hsz' : 0 < sz := by simpa [Nat.blt_eq] using hsz
  obtain ⟨v', w', hr, ho, hg, _, hat⟩ := run_append_own_at (P := P) w w0.heap.size t ty e ki z sz b' hu hki hkz hks hkb hzs hsz' v n xs (hw.owns hown) ad m mc news hl (fun j u hj => (hnews j u hj).elim hw.cell_ fun h => (hw.ro _ _ h).1) h1 (by simp only [maxLen]; exact h63) hb hw.below.size
  have hw0 : SH w0 S0 w := hown.sub.le w0 w hw
  have hrow : ∀ b, v.ownBlock = some b → Fresh S0 b ∧ w0.heap.size ≤ b := by
    intro b hb
    obtain ⟨_, ⟨rfl, _⟩ | ⟨b1, cap, cur, rfl, hS, hf, _⟩⟩ := hown
    · cases hb
    · injection hb with hb
      subst hb
      subst hS
      exact ⟨hf, (hw.h b1 _ (put_same _ _ _)).2⟩
  have hw1 := hw0.grown hg hrow
  obtain ⟨S', hs', hown'⟩ := hw1.own_back ho (fun b hb => by
    rcases hat with hat | hat
    · exact (hrow b (by rw [← hat]; exact hb)).1
    · rw [hat] at hb; injection hb with hb; subst hb; exact hw0.fresh (Nat.le_refl _))
  exact ⟨v', w', S', hr, hs', h v' S' hown'⟩
theorem r_append_nil (htt : tt.Ok P) {t ty e sz n c : Nat} {S0 : St} {v : Value} {xs : List Value} (he : tt.el t = some (e, sz)) (hown : Own S S0 e sz v n xs)
    (h : wpT P N (k v) S Q) : wpT P N (.sem (.append #[t, t] ty [v, .slice none 0 c]) k) S Q := by
  obtain ⟨hu, ki, hki, hks⟩ := htt.el t e sz he
  refine r_sem (fun w0 w hw => ?_) h
  obtain ⟨_, ⟨rfl, rfl, _⟩ | ⟨b1, cap, cur, rfl, hS, hf, hnc, _⟩⟩ := hown
  · simp [semOf, Builtin.append_, Sem.run_bind, underlying_run hu, sizeOf_run hki, Result.andThen, Builtin.lenOf, Builtin.firstCells]
  · simp [semOf, Builtin.append_, Sem.run_bind, underlying_run hu, sizeOf_run hki, Result.andThen, Builtin.lenOf, Builtin.firstCells, hnc, storeCells]

/-! ### Results -/
variable {fr : Fr} {Post : Value → St → Prop}
theorem ret_one {x : Sem Value} {v : Value} (hr : ∀ w0 w, SH w0 S w → x.run P w = .ok v w) (hl : Le S S1) (h : Post v S1) : ResT P x S Post := fun w0 w hw => ⟨v, S1, hr w0 w hw, hl w0 w hw, h⟩
theorem ret_tmp {t : Nat} (hl : Le S S1) (h : Post (fr t) S1) : ResT P (resF #[.tmp t] fr) S Post := ret_one (fun _ _ _ => by simp [resF]) hl h
theorem ret_none (hl : Le S S1) (h : Post (.tuple #[]) S1) : ResT P (resF #[] fr) S Post := ret_one (fun _ _ _ => by simp [resF]) hl h
theorem ret_tmp2 {t u : Nat} (hl : Le S S1) (h : Post (.tuple #[fr t, fr u]) S1) : ResT P (resF #[.tmp t, .tmp u] fr) S Post := ret_one (fun _ _ _ => by simp [resF]) hl h
theorem ret_tmp3 {t u x : Nat} (hl : Le S S1) (h : Post (.tuple #[fr t, fr u, fr x]) S1) : ResT P (resF #[.tmp t, .tmp u, .tmp x] fr) S Post := ret_one (fun _ _ _ => by simp [resF]) hl h
theorem cell_run (htt : tt.Ok P) {w0 w : World} (hw : SH w0 S w) {t n b off : Nat} {cs : Array Value} {ty : Nat} {fz : Nat × Nat} {vs : List Value} (hs : tt.ag t = some n) (hb : S.H b = some (.cells cs ty fz)) (hl : vs.length = n) (hv : (cs.toList.drop off).take n = vs) :
    (loadVar t ⟨b, off, none⟩).run P w = .ok (.agg vs.toArray) w := by
  refine run_load_ag htt hs hl fun j u hj => ?_
  rw [add_plain]
  refine hw.cell hb ?_
  rw [← hv, List.getElem?_take] at hj
  split at hj
  · rw [List.getElem?_drop] at hj
    rw [← Array.getElem?_toList]; exact hj
  · cases hj
theorem ret_cell (htt : tt.Ok P) {a t n b off : Nat} {cs : Array Value} {ty : Nat} {fz : Nat × Nat} {vs : List Value} (ha : fr a = .pointer (some ⟨b, off, none⟩)) (hs : tt.ag t = some n) (hb : S.H b = some (.cells cs ty fz)) (hn : vs.length = n) (hv : (cs.toList.drop off).take n = vs)
    (hl : Le S S1) (h : Post (.agg vs.toArray) S1) : ResT P (resF #[.cell a t] fr) S Post := ret_one (fun w0 w hw => by
      have := cell_run (P := P) htt hw hs hb hn hv
      simp [resF, ha, asAddr, this]) hl h
theorem ret_cell_tmp (htt : tt.Ok P) {a t n b off x : Nat} {cs : Array Value} {ty : Nat} {fz : Nat × Nat} {vs : List Value} (ha : fr a = .pointer (some ⟨b, off, none⟩)) (hs : tt.ag t = some n) (hb : S.H b = some (.cells cs ty fz)) (hn : vs.length = n) (hv : (cs.toList.drop off).take n = vs)
    (hl : Le S S1) (h : Post (.tuple #[.agg vs.toArray, fr x]) S1) : ResT P (resF #[.cell a t, .tmp x] fr) S Post := ret_one (fun w0 w hw => by
      have := cell_run (P := P) htt hw hs hb hn hv
      simp [resF, ha, asAddr, this]) hl h
theorem ret_cell_tmp2 (htt : tt.Ok P) {a t n b off x y : Nat} {cs : Array Value} {ty : Nat} {fz : Nat × Nat} {vs : List Value} (ha : fr a = .pointer (some ⟨b, off, none⟩)) (hs : tt.ag t = some n) (hb : S.H b = some (.cells cs ty fz)) (hn : vs.length = n) (hv : (cs.toList.drop off).take n = vs)
    (hl : Le S S1) (h : Post (.tuple #[.agg vs.toArray, fr x, fr y]) S1) : ResT P (resF #[.cell a t, .tmp x, .tmp y] fr) S Post := ret_one (fun w0 w hw => by
      have := cell_run (P := P) htt hw hs hb hn hv
      simp [resF, ha, asAddr, this]) hl h
theorem ret_cell2 (htt : tt.Ok P) {a t n b off a' t' n' c off' : Nat} {cs cs' : Array Value} {ty ty' : Nat} {fz fz' : Nat × Nat} {vs vs' : List Value} (ha : fr a = .pointer (some ⟨b, off, none⟩)) (hs : tt.ag t = some n) (hb : S.H b = some (.cells cs ty fz)) (hn : vs.length = n) (hv : (cs.toList.drop off).take n = vs)
    (ha' : fr a' = .pointer (some ⟨c, off', none⟩)) (hs' : tt.ag t' = some n') (hb' : S.H c = some (.cells cs' ty' fz')) (hn' : vs'.length = n') (hv' : (cs'.toList.drop off').take n' = vs')
    (hl : Le S S1) (h : Post (.tuple #[.agg vs.toArray, .agg vs'.toArray]) S1) : ResT P (resF #[.cell a t, .cell a' t'] fr) S Post := ret_one (fun w0 w hw => by
      have h1 := cell_run (P := P) htt hw hs hb hn hv
      have h2 := cell_run (P := P) htt hw hs' hb' hn' hv'
      simp [resF, ha, ha', asAddr, h1, h2]) hl h

/-! ### Quiet steps -/
section
variable {R : Fr → Prop}
theorem q_done {fr : Fr} (h : R fr) : wpQ P S R (.done .normal fr) := ⟨rfl, h⟩
theorem q_check {c : Prop} {t : T} (hc : c) (h : wpQ P S R t) : wpQ P S R (.check c t) := ⟨hc, h⟩
theorem q_num {e e' : Int} {k : Int → T} (he : e = e') (h : wpQ P S R (k e')) : wpQ P S R (.num e k) := by rw [← he] at h; exact h
theorem q_T {b : Bool} {x y : T} (hb : b = true) (h : wpQ P S R x) : wpQ P S R (.ite b x y) := ⟨fun _ => h, fun h0 => absurd (hb.symm.trans h0) (by decide)⟩
theorem q_F {b : Bool} {x y : T} (hb : b = false) (h : wpQ P S R y) : wpQ P S R (.ite b x y) := ⟨fun h0 => absurd (hb.symm.trans h0) (by decide), fun _ => h⟩
theorem q_ite {b : Bool} {x y : T} (hx : b = true → wpQ P S R x) (hy : b = false → wpQ P S R y) : wpQ P S R (.ite b x y) := ⟨hx, hy⟩
theorem q_if {c : Prop} [Decidable c] {x y : T} (hx : c → wpQ P S R x) (hy : ¬ c → wpQ P S R y) : wpQ P S R (.ite (decide c) x y) := ⟨fun h => hx (of_decide_eq_true h), fun h => hy (of_decide_eq_false h)⟩
theorem q_ifn {c : Prop} [Decidable c] {x y : T} (hx : ¬ c → wpQ P S R x) (hy : c → wpQ P S R y) : wpQ P S R (.ite (!decide c) x y) := ⟨fun h => hx (by simpa using h), fun h => hy (by simpa using h)⟩
theorem q_sem {g : Tag} {v : Value} (hr : ∀ w0 w, SH w0 S w → (semOf g).run P w = .ok v w) (h : wpQ P S R (k v)) : wpQ P S R (.sem g k) := ⟨v, hr, h⟩
theorem q_call {f : FuncId} {args : Array Value} {v : Value} (h : HC P f args S fun r S' => r = v ∧ S' = S) (hk : wpQ P S R (k v)) : wpQ P S R (.call f args k) := ⟨v, h, hk⟩
theorem q_load (htt : tt.Ok P) {t b off : Nat} {cs : Array Value} {ty : Nat} {fz : Nat × Nat} {v : Value} (hs : tt.sc t = true) (hb : S.H b = some (.cells cs ty fz)) (hv : cs[off]? = some v) (h : wpQ P S R (k v)) :
    wpQ P S R (.sem (.load t (.pointer (some ⟨b, off, none⟩))) k) := q_sem (fun _ _ hw => run_load_sc htt hs (hw.cell hb hv)) h
theorem q_load_ro (htt : tt.Ok P) {t : Nat} {a : Addr} {v : Value} (hs : tt.sc t = true) (hv : S.ro a = some v) (h : wpQ P S R (k v)) :
    wpQ P S R (.sem (.load t (.pointer (some a))) k) := q_sem (fun _ _ hw => run_load_sc htt hs (hw.ro a v hv).1) h
theorem q_loads (htt : tt.Ok P) {t n b off : Nat} {cs : Array Value} {ty : Nat} {fz : Nat × Nat} {vs : List Value} (hs : tt.ag t = some n) (hb : S.H b = some (.cells cs ty fz)) (hv : (cs.toList.drop off).take n = vs) (hl : vs.length = n) (h : wpQ P S R (k (.agg vs.toArray))) :
    wpQ P S R (.sem (.load t (.pointer (some ⟨b, off, none⟩))) k) := by
  refine q_sem (fun _ w hw => ?_) h
  simp only [semOf]
  unfold Instr.loadAt
  simp only [Instr.sureAddr, Sem.run_bind, Sem.run_pure, Result.andThen_ok]
  exact cell_run htt hw hs hb hl hv
theorem q_loads_ro (htt : tt.Ok P) {t n : Nat} {a : Addr} {vs : List Value} (hs : tt.ag t = some n) (hl : vs.length = n) (hv : ∀ j u, vs[j]? = some u → S.ro (a.add j) = some u) (h : wpQ P S R (k (.agg vs.toArray))) :
    wpQ P S R (.sem (.load t (.pointer (some a))) k) := by
  refine q_sem (fun _ w hw => ?_) h
  simp only [semOf]
  unfold Instr.loadAt
  simp only [Instr.sureAddr, Sem.run_bind, Sem.run_pure, Result.andThen_ok]
  exact run_load_ag htt hs hl fun j u hj => (hw.ro _ _ (hv j u hj)).1
end
theorem put_ro (S : St) (b : Nat) (o : Obj) : (S.put b o).ro = S.ro := rfl
theorem ro_put {b : Nat} {o : Obj} {a : Addr} {v : Value} (h : S.ro a = some v) : (S.put b o).ro a = some v := h
theorem put_eq {b : Nat} {o : Obj} (h : S.H b = some o) : S.put b o = S := by
  cases S with
  | mk ro H =>
    unfold St.put
    congr 1
    funext x
    by_cases hx : x = b
    · subst hx; simp; exact h.symm
    · simp [hx]
/-- A row of whole numbers that may be read. -/
def RInts (ρ : Addr → Option Value) (kd : IntKind) (A : Option Addr) (l : List Int) : Prop := ∀ i x, l[i]? = some x → ∃ ad, A = some ad ∧ ρ (ad.add i) = some (.int kd x)
theorem RInts.at_ {ρ : Addr → Option Value} {kd : IntKind} {A : Option Addr} {l : List Int} (h : RInts ρ kd A l) (i : Nat) (hi : i < l.length) : ∃ ad, A = some ad ∧ ρ (ad.add (i * 1)) = some (.int kd (l.getD i 0)) := by
  rw [Nat.mul_one]
  refine h i _ ?_
  rw [List.getElem?_eq_getElem hi]
  simp [List.getD_eq_getElem?_getD, List.getElem?_eq_getElem hi]
end
attribute [irreducible] St.put St.del wpT wpQ OpT HC semOf
end Go.Proofs.YtjhdppioeehahaaM
