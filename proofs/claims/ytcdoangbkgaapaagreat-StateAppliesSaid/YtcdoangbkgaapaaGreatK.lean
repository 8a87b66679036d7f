/- The machine K,a symbolic machine: the code of a Go function as a tree of steps over named blocks of memory,and the proof that the tree tells what the model does. No condition. -/
import Derived.Below
import Derived.Test.YtcdoangbkgaapaaGreatQ
import Derived.Tactics
import Derived.Tactics2
import Derived.WalkKit
import Derived.Deep.Quiet
import Derived.Deep.LoopGhost
import Derived.Deep.Draws
import Derived.RowKit
import Derived.Maps.AppendAt
import Derived.Laws.MakeOwn
import Derived.Laws.OwnMore
import Derived.KernelRfl
import Derived.OrdersHeld
import Derived.Laws.StructEq
import Derived.Laws.Pointers
import Derived.Laws.Small
import Derived.Laws.Cover3
namespace Go.Proofs.YtcdoangbkgaapaaGreatK
open Go Go.RowKit

abbrev Fr := Nat → Value
def upd (fr : Fr) (d : Nat) (v : Value) : Fr := fun i => bif Nat.beq i d then v else fr i
theorem upd_at (fr : Fr) (d : Nat) (v : Value) (i : Nat) : upd fr d v i = bif Nat.beq i d then v else fr i := rfl
theorem beq_no {i d : Nat} (h : ¬ i = d) : Nat.beq i d = false := by rw [← Bool.not_eq_true,Nat.beq_eq]; exact h
theorem beq_yes (i : Nat) : Nat.beq i i = true := by rw [Nat.beq_eq]
def putF (N : Nat) (fr : Fr) (d : Option Nat) (v : Value) : Fr := match d with
  | some d => bif Nat.blt d N then upd fr d v else fr
  | none => fr
def evF (fr : Fr) : Operand → Value
  | .tmp t => fr t
  | .const v => v
  | .global g => .pointer (some ⟨g,0,none⟩)
  | .func f => .func (.func f) #[] #[]
def litF (c : Operand) (b : Bool) (fr : Fr) : Fr := match c with
  | .tmp t => upd fr t (.bool b)
  | _ => fr
structure RF (N : Nat) (fr : Fr) (a : Act) : Prop where
  sz : a.tmps.size = N
  at_ : ∀ i,a.tmps.getD i undef = fr i
  df : a.defers = []
theorem RF.ev {N : Nat} {fr : Fr} {a : Act} (h : RF N fr a) (x : Operand) : a.eval x = evF fr x := by
  cases x with
  | tmp t => exact h.at_ t
  | _ => rfl
theorem RF.eval {N : Nat} {fr : Fr} {a : Act} (h : RF N fr a) : a.eval = evF fr := funext h.ev
theorem RF.put {N : Nat} {fr : Fr} {a : Act} (h : RF N fr a) (d : Option Nat) (v : Value) : RF N (putF N fr d v) (a.put d v) := by
  cases d with
  | none => exact h
  | some d =>
    refine ⟨by simp [Act.put,h.sz],fun i => ?_,by simpa [Act.put] using h.df⟩
    have hi := h.at_ i
    have hs := h.sz
    simp only [Act.put,putF,Array.getD_eq_getD_getElem?] at hi ⊢
    by_cases hd : d < N
    · have : Nat.blt d N = true := by simp [Nat.blt_eq,hd]
      rw [this]
      simp only [cond_true,upd_at]
      by_cases hid : i = d
      · subst hid; simp [hs,hd]
      · rw [beq_no hid]
        simp only [cond_false]
        rw [Array.getElem?_setIfInBounds_ne (Ne.symm hid)]
        exact hi
    · have : Nat.blt d N = false := by rw [← Bool.not_eq_true,Nat.blt_eq]; exact hd
      rw [this]
      simp only [cond_false]
      rw [Array.setIfInBounds_eq_of_size_le (by omega)]
      exact hi
theorem upd_same {fr : Fr} {t : Nat} {v : Value} (h : fr t = v) : upd fr t v = fr := by
  funext i
  unfold upd
  by_cases hi : i = t
  · subst hi; simp [h]
  · simp [beq_no hi]
theorem litF_same {fr : Fr} {c : Operand} {b : Bool} (h : evF fr c = .bool b) : litF c b fr = fr := by
  cases c with
  | tmp t => exact upd_same h
  | _ => rfl

inductive Ent where
  | obj (b : Nat) (l : List Value) (ty : Nat)
  | row (A : Option Addr) (n c e sz : Nat) (xs : List Value)
  | raw (b : Nat) (o : Obj)
  | has (A : Option Addr) (n : Nat)
def Ent.blocks : Ent → List Nat
  | .obj b _ _ => [b]
  | .row none _ _ _ _ _ => []
  | .row (some a) _ _ _ _ _ => [a.block]
  | .raw b _ => [b]
  | .has _ _ => []
def Ent.ok (lo : Nat) (w : World) : Ent → Prop
  | .obj b l ty => w.heap[b]? = some (.cells l.toArray ty (0,0)) ∧ lo ≤ b
  | .row A n c e sz xs => w.ownsRow lo e sz (.slice A n c) n xs
  | .raw b o => w.heap[b]? = some o ∧ lo ≤ b
  | .has A n => 0 < n → A.isSome = true
structure St where
  ro : Addr → Option Value
  L : List Ent
def blocksL (L : List Ent) : List Nat := L.flatMap Ent.blocks
structure SH (w0 : World) (S : St) (w : World) : Prop where
  below : Below w0.heap.size w0 w
  ro : ∀ a v,S.ro a = some v → w.cell? a = some v ∧ a.block ∉ blocksL S.L
  ent : ∀ e ∈ S.L,e.ok w0.heap.size w
  nd : (blocksL S.L).Nodup
def Le (S S' : St) : Prop := ∀ w0 w,SH w0 S w → SH w0 S' w
theorem Le.refl (S : St) : Le S S := fun _ _ h => h
theorem Le.trans {S S1 S2 : St} (h : Le S S1) (k : Le S1 S2) : Le S S2 := fun _ _ h0 => k _ _ (h _ _ h0)
theorem Ent.ok.drew {lo : Nat} {w : World} {e : Ent} (h : e.ok lo w) : e.ok lo { w with drawn := w.drawn + 1 } := by
  cases e with
  | obj b l ty => exact h
  | row A n c e sz xs => exact h
  | raw b o => exact h
  | has A n => exact h
theorem SH.drew {w0 w : World} {S : St} (h : SH w0 S w) : SH w0 S { w with drawn := w.drawn + 1 } :=
  ⟨⟨h.below.os,h.below.tape,h.below.output,h.below.size,h.below.block⟩,h.ro,fun e he => (h.ent e he).drew,h.nd⟩


def OpT {α : Type} (P : Program) (s : Sem α) (S : St) (K : α → St → Prop) : Prop :=
  ∀ w0 w,SH w0 S w → ∃ v w' S',s.run P w = .ok v w' ∧ SH w0 S' w' ∧ K v S'
theorem OpT.mono {α : Type} {P : Program} {s : Sem α} {S : St} {K K' : α → St → Prop} (h : OpT P s S K) (hk : ∀ v S',K v S' → K' v S') : OpT P s S K' :=
  fun w0 w hw => let ⟨v,w',S',h1,h2,h3⟩ := h w0 w hw; ⟨v,w',S',h1,h2,hk _ _ h3⟩
theorem OpT.le {α : Type} {P : Program} {s : Sem α} {S S1 : St} {K : α → St → Prop} (hl : Le S S1) (h : OpT P s S1 K) : OpT P s S K :=
  fun w0 w hw => h w0 w (hl w0 w hw)
theorem OpT.of_run {α : Type} {P : Program} {s : Sem α} {v : α} {S : St} {K : α → St → Prop} (hr : ∀ w0 w,SH w0 S w → s.run P w = .ok v w) (h : K v S) : OpT P s S K :=
  fun w0 w hw => ⟨v,w,S,hr w0 w hw,hw,h⟩
def Plain (P : Program) (f : FuncId) : Prop := ∃ fn,P.funcs[f]? = some fn ∧ fn.body.isNone = false ∧ (fn.name == "runtime.NumGoroutine") = false
def HC (P : Program) (f : FuncId) (args : Array Value) (S : St) (Post : Value → St → Prop) : Prop :=
  Plain P f ∧ ∀ w0 w,SH w0 S w → Calls P f args w fun e w' => ∃ v S',e = .returned v ∧ SH w0 S' w' ∧ Post v S'
theorem HC.mono {P : Program} {f : FuncId} {args : Array Value} {S : St} {Post Post' : Value → St → Prop} (h : HC P f args S Post) (hk : ∀ v S',Post v S' → Post' v S') : HC P f args S Post' :=
  ⟨h.1,fun w0 w hw => (h.2 w0 w hw).mono fun _ _ ⟨v,S',h1,h2,h3⟩ => ⟨v,S',h1,h2,hk _ _ h3⟩⟩
theorem HC.le {P : Program} {f : FuncId} {args : Array Value} {S S1 : St} {Post : Value → St → Prop} (hl : Le S S1) (h : HC P f args S1 Post) : HC P f args S Post :=
  ⟨h.1,fun w0 w hw => h.2 w0 w (hl w0 w hw)⟩

inductive Tag where
  | load (t : TypeId) (a : Value)
  | store (t : TypeId) (a v : Value)
  | alloc (e : TypeId)
  | box (e : TypeId) (v : Value)
  | build (t : TypeId) (ps : List (Nat × Value))
  | buildSlice (t : TypeId) (n : Nat) (ps : List (Nat × Value))
  | makeSlice (t : TypeId) (l c : Value)
  | slice (t : TypeId) (x : Value) (lo hi mx : Option Value)
  | field (t : TypeId) (x : Value) (i : Nat)
  | index (t : TypeId) (x i : Value)
  | append (ts : Array TypeId) (ty : TypeId) (args : List Value)
  | copy (ts : Array TypeId) (ty : TypeId) (args : List Value)
  | clear (ts : Array TypeId) (ty : TypeId) (args : List Value)
  | op (s : Sem Value)
  | other (s : Sem Value)
def Tag.val : Tag → Bool
  | .load .. | .build .. | .field .. | .index .. | .slice .. | .op _ => true
  | _ => false
def semOf : Tag → Sem Value
  | .load t a => Instr.loadAt t a
  | .store t a v => do Instr.storeAt t a v; pure undef
  | .alloc e => Instr.alloc e true (.tuple #[])
  | .box e v => Instr.box e v
  | .build t ps => Instr.build t ps.toArray
  | .buildSlice t n ps => Instr.buildSlice t n ps.toArray
  | .makeSlice t l c => Instr.makeSlice t l c
  | .slice t x lo hi mx => Instr.sliceAt t x lo hi mx
  | .field t x i => Instr.field t x i
  | .index t x i => Instr.index t x i
  | .append ts ty args => Builtin.append_ ts ty args.toArray
  | .copy ts ty args => Builtin.copy_ ts ty args.toArray
  | .clear ts ty args => Builtin.clear_ ts ty args.toArray
  | .op s => s
  | .other s => s
inductive Ex where
  | normal
  | exit (id : Nat)
  | ret
def Ex.toExit : Ex → Exit
  | .normal => .normal
  | .exit id => .exit id
  | .ret => .ret
inductive T where
  | done (e : Ex) (fr : Fr)
  | fail
  | check (c : Prop) (t : T)
  | ite (b : Bool) (x y : T)
  | num (e : Int) (k : Int → T)
  | sem (g : Tag) (k : Value → T)
  | call (f : FuncId) (args : Array Value) (k : Value → T)
  | draw (ops : Array Oper) (fr : Fr)
  | bind (t : T) (k : Ex → Fr → T)
  | loop (body : Fr → T) (fr : Fr)
abbrev PostT := Ex → Fr → St → Prop
def DrawT (P : Program) (N : Nat) (ops : Array Oper) (fr : Fr) (S : St) (Q : PostT) : Prop :=
  ∀ id w0 w a,SH w0 S w → RF N fr a → (Code.region id ops true).wp P (fun e a' w' => ∃ fr' S',e = .normal ∧ Q .normal fr' S' ∧ RF N fr' a' ∧ SH w0 S' w') a w
def wpT (P : Program) (N : Nat) : T → St → PostT → Prop
  | .done e fr,S,Q => ∃ S1,Le S S1 ∧ Q e fr S1
  | .fail,_,_ => False
  | .check c t,S,Q => (∀ w0 w,SH w0 S w → c) ∧ wpT P N t S Q
  | .ite b x y,S,Q => (b = true → wpT P N x S Q) ∧ (b = false → wpT P N y S Q)
  | .num e k,S,Q => wpT P N (k e) S Q
  | .sem g k,S,Q => OpT P (semOf g) S fun v S' => wpT P N (k v) S' Q
  | .call f args k,S,Q => HC P f args S fun v S' => wpT P N (k v) S' Q
  | .draw ops fr,S,Q => DrawT P N ops fr S Q
  | .bind t k,S,Q => wpT P N t S fun e fr S' => wpT P N (k e fr) S' Q
  | .loop body fr,S,Q => ∃ I : Nat → Fr → St → Prop,(∃ n S1,Le S S1 ∧ I n fr S1) ∧ ∀ n fr S,I n fr S → wpT P N (body fr) S fun e fr' S' =>
      match e with
      | .normal => ∃ m,m < n ∧ I m fr' S'
      | e => Q e fr' S'
theorem wpT_mono {P : Program} {N : Nat} : ∀ (t : T) {S : St} {Q Q' : PostT},(∀ e fr S,Q e fr S → Q' e fr S) → wpT P N t S Q → wpT P N t S Q'
  | .done _ _,_,_,_,h,⟨S1,hl,h1⟩ => ⟨S1,hl,h _ _ _ h1⟩
  | .fail,_,_,_,_,h1 => h1
  | .check _ t,_,_,_,h,h1 => ⟨h1.1,wpT_mono t h h1.2⟩
  | .ite _ x y,_,_,_,h,h1 => ⟨fun hb => wpT_mono x h (h1.1 hb),fun hb => wpT_mono y h (h1.2 hb)⟩
  | .num e k,_,_,_,h,h1 => wpT_mono (k e) h h1
  | .sem _ k,_,_,_,h,h1 => OpT.mono h1 fun v _ h2 => wpT_mono (k v) h h2
  | .call _ _ k,_,_,_,h,h1 => HC.mono h1 fun v _ h2 => wpT_mono (k v) h h2
  | .draw _ _,_,_,_,h,h1 => fun id w0 w a hw hr => Code.wp_mono (fun _ _ _ ⟨fr',S',he,hq,h2,h3⟩ => ⟨fr',S',he,h _ _ _ hq,h2,h3⟩) (h1 id w0 w a hw hr)
  | .bind t k,_,_,_,h,h1 => wpT_mono t (fun e fr _ h2 => wpT_mono (k e fr) h h2) h1
  | .loop body _,_,_,_,h,⟨I,h0,hI⟩ => ⟨I,h0,fun n fr S hi => wpT_mono (body fr) (fun e _ _ h2 => by
      cases e with
      | normal => exact h2
      | exit id => exact h _ _ _ h2
      | ret => exact h _ _ _ h2) (hI n fr S hi)⟩

theorem wpT_le {P : Program} {N : Nat} : ∀ (t : T) {S S1 : St} {Q : PostT},Le S S1 → wpT P N t S1 Q → wpT P N t S Q
  | .done _ _,_,_,_,hl,⟨S2,h2,h1⟩ => ⟨S2,hl.trans h2,h1⟩
  | .fail,_,_,_,_,h1 => h1
  | .check _ t,_,_,_,hl,h1 => ⟨fun w0 w hw => h1.1 w0 w (hl w0 w hw),wpT_le t hl h1.2⟩
  | .ite _ x y,_,_,_,hl,h1 => ⟨fun hb => wpT_le x hl (h1.1 hb),fun hb => wpT_le y hl (h1.2 hb)⟩
  | .num e k,_,_,_,hl,h1 => wpT_le (k e) hl h1
  | .sem _ _,_,_,_,hl,h1 => OpT.le hl h1
  | .call _ _ _,_,_,_,hl,h1 => HC.le hl h1
  | .draw _ _,_,_,_,hl,h1 => fun id w0 w a hw hr => h1 id w0 w a (hl w0 w hw) hr
  | .bind t _,_,_,_,hl,h1 => wpT_le t hl h1
  | .loop _ _,_,_,_,hl,⟨I,⟨n,S2,h2,h0⟩,hI⟩ => ⟨I,⟨n,S2,hl.trans h2,h0⟩,hI⟩

def assoc {α : Type} : List (Nat × α) → Nat → Option α
  | [],_ => none
  | (k,v) :: l,t => bif Nat.beq k t then some v else assoc l t
theorem assoc_mem {α : Type} : ∀ {l : List (Nat × α)} {t : Nat} {v : α},assoc l t = some v → (t,v) ∈ l
  | (k,u) :: l,t,v,h => by
    unfold assoc at h
    by_cases hk : k = t
    · subst hk
      rw [beq_yes] at h
      simp only [cond_true,Option.some.injEq] at h
      subst h
      exact List.mem_cons_self
    · rw [beq_no hk] at h
      exact List.mem_cons_of_mem _ (assoc_mem h)
theorem fm {α : Type} {p : α → Prop} {a : α} {l : List α} (h : p a) (hl : ∀ x ∈ l,p x) : ∀ x ∈ a :: l,p x := List.forall_mem_cons.2 ⟨h,hl⟩
theorem fnil {α : Type} {p : α → Prop} : ∀ x ∈ ([] : List α),p x := fun _ h => by cases h
theorem fapp {α : Type} {p : α → Prop} {l l' : List α} (h : ∀ x ∈ l,p x) (h' : ∀ x ∈ l',p x) : ∀ x ∈ l ++ l',p x := fun x hx => (List.mem_append.1 hx).elim (h x) (h' x)

def plainDesc : TypeDesc → Bool
  | .struct _ | .array _ _ => false
  | _ => true
def fieldsOf (P : Program) (t : Nat) : Option (List (Nat × Option Nat)) := match P.underlying t with
  | some (.struct fs) => some (fs.toList.map fun f => (f.offset,(P.info? f.type).map (·.size)))
  | _ => none
def F_pl (P : Program) (t : Nat) (l : List (Nat × Nat)) : Prop := fieldsOf P t = some (l.map fun x => (x.1,some x.2))
def F_el (P : Program) (t : Nat) (x : Nat × Nat) : Prop := (P.underlying t,(P.info? x.1).map (·.size)) = (some (.slice x.1),some x.2)
def arOf (P : Program) (t : Nat) : Option (Bool × Nat × Option Nat) := match P.underlying t with
  | some (.array n e) => some (Nat.ble 2 n,n,(P.info? e).map (·.size))
  | _ => none
def F_ar (P : Program) (t : Nat) (x : Nat × Nat) : Prop := arOf P t = some (true,x.1,some x.2)
def F_ik (P : Program) (t : Nat) (k : IntKind) : Prop := P.underlying t = some (.int k)
def F_st (P : Program) (t : Nat) (_ : Unit) : Prop := P.underlying t = some .string
def F_bo (P : Program) (t : Nat) (_ : Unit) : Prop := P.underlying t = some .bool
def F_pt (P : Program) (t : Nat) (_ : Unit) : Prop := (match P.underlying t with | some (.pointer _) => true | _ => false) = true
def F_sc (P : Program) (t : Nat) (_ : Unit) : Prop := ((P.underlying t).map plainDesc,(P.info? t).map (·.size)) = (some true,some 1)
def F_ag (P : Program) (t : Nat) (n : Nat) : Prop := ((P.underlying t).map plainDesc,(P.info? t).map (·.size)) = (some false,some n)
def F_inf (P : Program) (t : Nat) (x : Value × Nat × Nat) : Prop := (P.info? t).map (fun i => (i.zero,i.size,i.bytes)) = some (some x.1,x.2.1,x.2.2)

structure TT where
  fo : Nat → Nat → Option Nat                    -- a struct type's field: its cell
  el : Nat → Option (Nat × Nat)                  -- a slice type: its element type,and how many cells an element has
  ar : Nat → Option (Nat × Nat)                  -- an array type: its length,and how many cells an element has
  ik : Nat → Option IntKind                      -- an integer type
  st : Nat → Bool                                -- a string type
  bo : Nat → Bool                                -- a type of truth values
  pt : Nat → Bool                                -- a type of pointers
  sc : Nat → Bool                                -- a type of one cell: no struct,no array
  ag : Nat → Option Nat                          -- a struct or an array: its cells
  inf : Nat → Option (Value × Nat × Nat)         -- a type's zero value,its cells,its bytes
  pl : Nat → Option (List (Nat × Nat))           -- a struct type's fields: where they begin,how many cells they have
structure TT.Ok (P : Program) (tt : TT) : Prop where
  fo : ∀ s i o,tt.fo s i = some o → ∃ fs f k,P.underlying s = some (.struct fs) ∧ fs[i]? = some f ∧ f.offset = o ∧ P.info? f.type = some k ∧ k.size ≠ 0
  el : ∀ t e n,tt.el t = some (e,n) → P.underlying t = some (.slice e) ∧ ∃ k,P.info? e = some k ∧ k.size = n
  ar : ∀ t n c,tt.ar t = some (n,c) → 2 ≤ n ∧ ∃ e k,P.underlying t = some (.array n e) ∧ P.info? e = some k ∧ k.size = c
  ik : ∀ t k,tt.ik t = some k → P.underlying t = some (.int k)
  st : ∀ t,tt.st t = true → P.underlying t = some .string
  bo : ∀ t,tt.bo t = true → P.underlying t = some .bool
  pt : ∀ t,tt.pt t = true → ∃ e,P.underlying t = some (.pointer e)
  sc : ∀ t,tt.sc t = true → (∃ d,P.underlying t = some d ∧ plainDesc d = true) ∧ ∃ k,P.info? t = some k ∧ k.size = 1
  ag : ∀ t n,tt.ag t = some n → (∃ d,P.underlying t = some d ∧ plainDesc d = false) ∧ ∃ k,P.info? t = some k ∧ k.size = n
  inf : ∀ t z n b,tt.inf t = some (z,n,b) → ∃ k,P.info? t = some k ∧ k.zero = some z ∧ k.size = n ∧ k.bytes = b
  pl : ∀ t l,tt.pl t = some l → ∃ fs,P.underlying t = some (.struct fs) ∧ fs.toList.map (fun f => (f.offset,(P.info? f.type).map (·.size))) = l.map fun x => (x.1,some x.2)
structure TTD where
  pl : List (Nat × List (Nat × Nat))
  el : List (Nat × (Nat × Nat))
  ar : List (Nat × (Nat × Nat))
  ik : List (Nat × IntKind)
  st : List (Nat × Unit)
  bo : List (Nat × Unit)
  pt : List (Nat × Unit)
  sc : List (Nat × Unit)
  ag : List (Nat × Nat)
  inf : List (Nat × (Value × Nat × Nat))
def TT.of (D : TTD) : TT where
  fo s i := match assoc D.pl s with
    | some l => match l[i]? with
      | some (o,n) => bif Nat.beq n 0 then none else some o
      | none => none
    | none => none
  el := assoc D.el
  ar := assoc D.ar
  ik := assoc D.ik
  st t := (assoc D.st t).isSome
  bo t := (assoc D.bo t).isSome
  pt t := (assoc D.pt t).isSome
  sc t := (assoc D.sc t).isSome
  ag := assoc D.ag
  inf := assoc D.inf
  pl := assoc D.pl
structure TTD.Ok (P : Program) (D : TTD) : Prop where
  pl : ∀ x ∈ D.pl,F_pl P x.1 x.2
  el : ∀ x ∈ D.el,F_el P x.1 x.2
  ar : ∀ x ∈ D.ar,F_ar P x.1 x.2
  ik : ∀ x ∈ D.ik,F_ik P x.1 x.2
  st : ∀ x ∈ D.st,F_st P x.1 x.2
  bo : ∀ x ∈ D.bo,F_bo P x.1 x.2
  pt : ∀ x ∈ D.pt,F_pt P x.1 x.2
  sc : ∀ x ∈ D.sc,F_sc P x.1 x.2
  ag : ∀ x ∈ D.ag,F_ag P x.1 x.2
  inf : ∀ x ∈ D.inf,F_inf P x.1 x.2
theorem F_pl.out {P : Program} {t : Nat} {l : List (Nat × Nat)} (h : F_pl P t l) : ∃ fs,P.underlying t = some (.struct fs) ∧ fs.toList.map (fun f => (f.offset,(P.info? f.type).map (·.size))) = l.map fun x => (x.1,some x.2) := by
  unfold F_pl fieldsOf at h
  split at h
  · rename_i fs hfs
    exact ⟨fs,hfs,Option.some.inj h⟩
  · cases h
theorem TT.of_ok {P : Program} {D : TTD} (h : D.Ok P) : (TT.of D).Ok P where
  fo s i o ho := by
    simp only [TT.of] at ho
    split at ho
    · rename_i l hl
      split at ho
      · rename_i o' n hi
        obtain ⟨fs,hfs,hm⟩ := (h.pl _ (assoc_mem hl)).out
        have hlen : fs.toList.length = l.length := by have := congrArg List.length hm; simpa using this
        have hil : i < fs.toList.length := by rw [hlen]; exact (List.getElem?_eq_some_iff.1 hi).1
        have hget := congrArg (fun z => z[i]?) hm
        simp only [List.getElem?_map,hi,List.getElem?_eq_getElem hil,Option.map_some,Option.some.injEq,Prod.mk.injEq] at hget
        obtain ⟨h1,h2⟩ := hget
        obtain ⟨k,hk,hkn⟩ := Option.map_eq_some_iff.1 h2
        cases hn : Nat.beq n 0 with
        | true => rw [hn] at ho; cases ho
        | false =>
          rw [hn] at ho
          simp only [cond_false,Option.some.injEq] at ho
          refine ⟨fs,fs.toList[i],k,hfs,?_,h1.trans ho,hk,?_⟩
          · rw [← Array.getElem?_toList,List.getElem?_eq_getElem hil]
          · rw [hkn]; rintro rfl; rw [beq_yes] at hn; cases hn
      · cases ho
    · cases ho
  el t e n ht := by
    have := h.el _ (assoc_mem ht)
    simp only [F_el,Prod.mk.injEq] at this
    exact ⟨this.1,Option.map_eq_some_iff.1 this.2⟩
  ar t n c ht := by
    have := h.ar _ (assoc_mem ht)
    unfold F_ar arOf at this
    split at this
    · rename_i n' e he
      simp only [Option.some.injEq,Prod.mk.injEq] at this
      obtain ⟨h1,rfl,h3⟩ := this
      obtain ⟨k,hk⟩ := Option.map_eq_some_iff.1 h3
      exact ⟨Nat.le_of_ble_eq_true h1,e,k,he,hk⟩
    · cases this
  ik t k ht := h.ik _ (assoc_mem ht)
  st t ht := by
    obtain ⟨u,hu⟩ := Option.isSome_iff_exists.1 ht
    exact h.st _ (assoc_mem hu)
  bo t ht := by
    obtain ⟨u,hu⟩ := Option.isSome_iff_exists.1 ht
    exact h.bo _ (assoc_mem hu)
  pt t ht := by
    obtain ⟨u,hu⟩ := Option.isSome_iff_exists.1 ht
    have := h.pt _ (assoc_mem hu)
    simp only [F_pt] at this
    split at this
    · rename_i e he; exact ⟨e,he⟩
    · cases this
  sc t ht := by
    obtain ⟨u,hu⟩ := Option.isSome_iff_exists.1 ht
    have := h.sc _ (assoc_mem hu)
    simp only [F_sc,Prod.mk.injEq] at this
    exact ⟨Option.map_eq_some_iff.1 this.1,Option.map_eq_some_iff.1 this.2⟩
  ag t n ht := by
    have := h.ag _ (assoc_mem ht)
    simp only [F_ag,Prod.mk.injEq] at this
    exact ⟨Option.map_eq_some_iff.1 this.1,Option.map_eq_some_iff.1 this.2⟩
  inf t z n b ht := by
    have := h.inf _ (assoc_mem ht)
    simp only [F_inf] at this
    obtain ⟨k,hk,he⟩ := Option.map_eq_some_iff.1 this
    simp only [Prod.mk.injEq] at he
    exact ⟨k,hk,he.1,he.2.1,he.2.2⟩
  pl t l ht := (h.pl _ (assoc_mem ht)).out

def minV (x y : Value) : Option Value := match x,y with
  | .int k a,.int _ b => some (.int k (if b < a then b else a))
  | _,_ => none
def maxV (x y : Value) : Option Value := match x,y with
  | .int k a,.int _ b => some (.int k (if a < b then b else a))
  | _,_ => none
def semW (s : Sem Next) : Sem Value := do
  match ← s with
  | .value v => pure v
  | _ => stuck ""
def semV (s : Sem Next) : Sem Value := do
  match ← s with
  | .value v => pure v
  | .skip => pure undef
  | _ => stuck ""
def intBin (op : BinOp) (kd : IntKind) (a b : Int) (other : T) (k : Value → T) : T :=
  match op with
  | .add => .num (kd.wrap (a + b)) fun n => k (.int kd n)
  | .sub => .num (kd.wrap (a - b)) fun n => k (.int kd n)
  | .mul => .num (kd.wrap (a * b)) fun n => k (.int kd n)
  | .quo => .check (b ≠ 0) (.num (kd.wrap (a.tdiv b)) fun n => k (.int kd n))
  | .rem => .check (b ≠ 0) (.num (a.tmod b) fun n => k (.int kd n))
  | .eql => k (.bool (decide (a = b)))
  | .neq => k (.bool (!decide (a = b)))
  | .lss => k (.bool (decide (a < b)))
  | .leq => k (.bool (decide (a ≤ b)))
  | .gtr => k (.bool (decide (b < a)))
  | .geq => k (.bool (decide (b ≤ a)))
  | .and => .num (kd.wrap ((BitVec.ofInt kd.bits a &&& BitVec.ofInt kd.bits b).toNat)) fun n => k (.int kd n)
  | .or => .num (kd.wrap ((BitVec.ofInt kd.bits a ||| BitVec.ofInt kd.bits b).toNat)) fun n => k (.int kd n)
  | .xor => .num (kd.wrap ((BitVec.ofInt kd.bits a ^^^ BitVec.ofInt kd.bits b).toNat)) fun n => k (.int kd n)
  | .andNot => .num (kd.wrap ((BitVec.ofInt kd.bits a &&& ~~~ BitVec.ofInt kd.bits b).toNat)) fun n => k (.int kd n)
  | _ => other
def adr (A : Option Addr) : Addr := A.getD ⟨0,0,none⟩
def denBin (op : BinOp) (x y : Value) (other : T) (k : Value → T) : T :=
  match op,x,y with
  | .shl,.int kd a,.int _ b => .check (0 ≤ b) (.num (kd.wrap (a * 2 ^ min b.toNat kd.bits)) fun n => k (.int kd n))
  | .shr,.int kd a,.int _ b => .check (0 ≤ b) (.num (a.fdiv (2 ^ min b.toNat kd.bits)) fun n => k (.int kd n))
  | op,.int kd a,.int kd' b => if kd = kd' then intBin op kd a b other k else .fail
  | _,_,_ => other
def denCall (tt : TT) (o : Oper) (fr : Fr) (c : Call) (k : Value → T) : T :=
  match c.callee with
  | .value f =>
    match evF fr f with
    | .func (.func g) first captured => .call g (first.toList ++ c.args.toList.map (evF fr) ++ captured.toList).toArray k
    | _ => .fail
  | .builtin .len =>
    match c.args.toList,c.argTypes.toList with
    | [x],[t] =>
      match evF fr x with
      | .slice _ n _ => match tt.el t with
        | some _ => k (.int .i64 n)
        | none => .fail
      | .string s => bif tt.st t then k (.int .i64 s.size) else .fail
      | _ => .sem (.op (semW (execOp (evF fr) o))) k
    | _,_ => .fail
  | .builtin .append => .sem (.append c.argTypes o.type (c.args.toList.map (evF fr))) k
  | .builtin .copy => .sem (.copy c.argTypes o.type (c.args.toList.map (evF fr))) k
  | .builtin .clear => .sem (.clear c.argTypes o.type (c.args.toList.map (evF fr))) k
  | .builtin .min =>
    match c.args.toList with
    | [x,y] => match minV (evF fr x) (evF fr y) with
      | some v => k v
      | none => .fail
    | _ => .fail
  | .builtin .max =>
    match c.args.toList with
    | [x,y] => match maxV (evF fr x) (evF fr y) with
      | some v => k v
      | none => .fail
    | _ => .fail
  | _ => .sem (.other (semV (execOp (evF fr) o))) k
def denOp (tt : TT) (o : Oper) (fr : Fr) (k : Value → T) : T :=
  match o.op with
  | .move x => k (evF fr x)
  | .assign x => k (evF fr x)
  | .pick c a b =>
    match evF fr c with
    | .bool p =>
      match evF fr a,evF fr b with
      | .bool x,.bool y => k (.bool (bif p then x else y))
      | x,y => .ite p (k x) (k y)
    | _ => .fail
  | .nilCheck x =>
    match evF fr x with
    | .pointer (some a) => k (.pointer (some a))
    | _ => .sem (.op (semW (execOp (evF fr) o))) k
  | .binOp op _ x y _ => denBin op (evF fr x) (evF fr y) (.sem (.op (semW (execOp (evF fr) o))) k) k
  | .unOp op _ x =>
    match op,evF fr x with
    | .not,.bool b => k (.bool (!b))
    | .neg,.int kd n => .num (kd.wrap (0 - n)) fun n => k (.int kd n)
    | _,_ => .sem (.op (semW (execOp (evF fr) o))) k
  | .convert s d x =>
    match tt.ik s,tt.ik d,evF fr x with
    | some _,some kd,.int _ n => .num (kd.wrap n) fun n => k (.int kd n)
    | _,_,_ => .sem (.op (semW (execOp (evF fr) o))) k
  | .fieldAddr s x f =>
    match tt.fo s f,evF fr x with
    | some i,.pointer (some a) => k (.pointer (some (a.add i)))
    | _,_ => .fail
  | .indexAddr t x i =>
    match evF fr x,evF fr i with
    | .slice A n _,.int _ j =>
      match tt.el t with
      | some (_,sz) => .check ((0 ≤ j ∧ j < n) ∧ A.isSome = true) (k (.pointer (some ((adr A).add (j.toNat * sz)))))
      | none => .fail
    | .pointer (some a),.int _ j =>
      match tt.ar t with
      | some (n,sz) => .check (0 ≤ j ∧ j < n) (k (.pointer (some (a.add (j.toNat * sz)))))
      | none => .fail
    | _,_ => .fail
  | .extract x i =>
    match evF fr x with
    | .tuple vs => match vs[i]? with
      | some v => k v
      | none => .fail
    | _ => .fail
  | .makeFunc fn first captured => k (.func fn (first.toList.map (evF fr)).toArray (captured.toList.map (evF fr)).toArray)
  | .load t x => .sem (.load t (evF fr x)) k
  | .store t x v => .sem (.store t (evF fr x) (evF fr v)) k
  | .alloc e => .sem (.alloc e) k
  | .box e x => .sem (.box e (evF fr x)) k
  | .build t ps => .sem (.build t (ps.toList.map fun x => (x.1,evF fr x.2))) k
  | .buildSlice t n ps => .sem (.buildSlice t n (ps.toList.map fun x => (x.1,evF fr x.2))) k
  | .makeSlice t l c => .sem (.makeSlice t (evF fr l) (evF fr c)) k
  | .slice t x lo hi mx => .sem (.slice t (evF fr x) (lo.map (evF fr)) (hi.map (evF fr)) (mx.map (evF fr))) k
  | .field t x i => .sem (.field t (evF fr x) i) k
  | .index t x i => .sem (.index t (evF fr x) (evF fr i)) k
  | .call c => denCall tt o fr c k
  | _ => .sem (.other (semV (execOp (evF fr) o))) k
def denOps (tt : TT) (N : Nat) (all : Array Oper) : List Oper → Fr → T
  | [],fr => .done .normal fr
  | o :: rest,fr =>
    match o.guard with
    | none => denOp tt o fr fun v => denOps tt N all rest (putF N fr o.dst v)
    | some (j,want) =>
      match (all[j]?).bind (·.dst) with
      | none => .fail
      | some d =>
        bif Nat.blt d N then
          match fr d with
          | .bool b => .ite b
              (bif want then denOp tt o (upd fr d (.bool true)) fun v => denOps tt N all rest (putF N (upd fr d (.bool true)) o.dst v) else denOps tt N all rest (putF N (upd fr d (.bool true)) o.dst undef))
              (bif want then denOps tt N all rest (putF N (upd fr d (.bool false)) o.dst undef) else denOp tt o (upd fr d (.bool false)) fun v => denOps tt N all rest (putF N (upd fr d (.bool false)) o.dst v))
          | _ => denOps tt N all rest (putF N fr o.dst undef)
        else .fail
def denCode (tt : TT) (N : Nat) : Code → Fr → T
  | .skip,fr => .done .normal fr
  | .region _ ops d,fr => bif d then .draw ops fr else denOps tt N ops ops.toList fr
  | .seq a b,fr => .bind (denCode tt N a fr) fun e fr' => match e with
    | .normal => denCode tt N b fr'
    | e => .done e fr'
  | .cond c x y,fr =>
    match evF fr c with
    | .bool b => .ite b (denCode tt N x (litF c true fr)) (denCode tt N y (litF c false fr))
    | _ => .fail
  | .block id c,fr => .bind (denCode tt N c fr) fun e fr' => match e with
    | .exit j => bif Nat.beq j id then .done .normal fr' else .done (.exit j) fr'
    | e => .done e fr'
  | .loop c,fr => .loop (fun fr' => denCode tt N c fr') fr
  | .exit id,fr => .done (.exit id) fr
  | .ret,fr => .done .ret fr
  | _,_ => .fail

theorem semV_run {P : Program} {s : Sem Next} {w w' : World} {v : Value} (h : (semV s).run P w = .ok v w') : s.run P w = .ok (.value v) w' ∨ (s.run P w = .ok .skip w' ∧ v = undef) := by
  unfold semV at h
  simp only [Sem.run_bind] at h
  cases hs : s.run P w with
  | halt x w1 => rw [hs] at h; simp [Result.andThen] at h
  | ok n w1 =>
    rw [hs] at h
    cases n <;> simp [Result.andThen,stuck] at h
    · obtain ⟨rfl,rfl⟩ := h; exact .inl rfl
    · obtain ⟨rfl,rfl⟩ := h; exact .inr ⟨rfl,rfl⟩

theorem semW_run {P : Program} {s : Sem Next} {w w' : World} {v : Value} (h : (semW s).run P w = .ok v w') : s.run P w = .ok (.value v) w' := by
  unfold semW at h
  simp only [Sem.run_bind] at h
  cases hs : s.run P w with
  | halt x w1 => rw [hs] at h; simp [Result.andThen] at h
  | ok n w1 =>
    rw [hs] at h
    cases n <;> simp [Result.andThen,stuck] at h
    obtain ⟨rfl,rfl⟩ := h; rfl
theorem semW_of {P : Program} {s : Sem Next} {w w' : World} {v : Value} (h : s.run P w = .ok (.value v) w') : (semW s).run P w = .ok v w' := by
  unfold semW
  simp only [Sem.run_bind,h,Result.andThen_ok,Sem.run_pure]
section
variable {P : Program} {tt : TT} {N : Nat}

theorem callFunc_run {f : FuncId} (h : Plain P f) (args : Array Value) (w : World) : (callFunc f args).run P w = .ok (.enter f args) w := by
  obtain ⟨fn,h1,h2,h3⟩ := h
  have h2' : ¬ fn.body = none := by intro h0; rw [h0] at h2; cases h2
  have h3' : ¬ fn.name = "runtime.NumGoroutine" := by simpa using h3
  simp [callFunc,program,Sem.run_bind,Sem.run,Result.andThen,h1,h2',h3']

theorem underlying_run {t : TypeId} {d : TypeDesc} (h : P.underlying t = some d) (w : World) : (underlying t).run P w = .ok d w := by
  simp [underlying,program,Sem.run_bind,Sem.run,Result.andThen,h]
theorem sizeOf_run {t : TypeId} {k : TypeInfo} (h : P.info? t = some k) (w : World) : (sizeOf t).run P w = .ok k.size w := by
  simp [sizeOf,typeInfo,program,Sem.run_bind,Sem.run,Result.andThen,h]

inductive Shape (P : Program) (o : Oper) (fr : Fr) (k : Value → T) : T → Prop
  | val (v : Value) (hr : ∀ w,(execOp (evF fr) o).run P w = .ok (.value v) w) : Shape P o fr k (k v)
  | chk (c : Prop) (v : Value) (hr : c → ∀ w,(execOp (evF fr) o).run P w = .ok (.value v) w) : Shape P o fr k (.check c (k v))
  | num (e : Int) (f : Int → Value) (hr : ∀ w,(execOp (evF fr) o).run P w = .ok (.value (f e)) w) : Shape P o fr k (.num e fun n => k (f n))
  | nchk (c : Prop) (e : Int) (f : Int → Value) (hr : c → ∀ w,(execOp (evF fr) o).run P w = .ok (.value (f e)) w) : Shape P o fr k (.check c (.num e fun n => k (f n)))
  | ite (p : Bool) (x y : Value) (hr : ∀ w,(execOp (evF fr) o).run P w = .ok (.value (if p then x else y)) w) : Shape P o fr k (.ite p (k x) (k y))
  | sem (g : Tag) (hr : ∀ w v w',(semOf g).run P w = .ok v w' → (execOp (evF fr) o).run P w = .ok (.value v) w' ∨ ((execOp (evF fr) o).run P w = .ok .skip w' ∧ v = undef)) (hv : g.val = true → ∀ w v w',(semOf g).run P w = .ok v w' → (execOp (evF fr) o).run P w = .ok (.value v) w') : Shape P o fr k (.sem g k)
  | call (g : FuncId) (args : Array Value) (hr : Plain P g → ∀ w,(execOp (evF fr) o).run P w = .ok (.enter g args) w) : Shape P o fr k (.call g args k)
  | fail : Shape P o fr k .fail
theorem shape_run {o : Oper} {fr : Fr} {k : Value → T} {g : Tag} (he : ∀ w,(execOp (evF fr) o).run P w = (do pure (Next.value (← semOf g)) : Sem Next).run P w) : Shape P o fr k (.sem g k) :=
  .sem _ (fun w v w' h => .inl (by rw [he]; simp only [Sem.run_bind,h,Result.andThen,Sem.run_pure])) fun _ w v w' h => by rw [he]; simp only [Sem.run_bind,h,Result.andThen,Sem.run_pure]
theorem shape_semV {o : Oper} {fr : Fr} {k : Value → T} : Shape P o fr k (.sem (.other (semV (execOp (evF fr) o))) k) := .sem _ (fun _ _ _ h => semV_run h) fun h => by cases h
theorem shape_semW {o : Oper} {fr : Fr} {k : Value → T} : Shape P o fr k (.sem (.op (semW (execOp (evF fr) o))) k) := .sem _ (fun _ _ _ h => .inl (semW_run h)) fun _ _ _ _ h => semW_run h
theorem shape_sem {o : Oper} {fr : Fr} {k : Value → T} {g : Tag} (he : execOp (evF fr) o = (do pure (.value (← semOf g)))) : Shape P o fr k (.sem g k) :=
  .sem _ (fun w v w' h => .inl (by rw [he]; simp only [Sem.run_bind,h,Result.andThen,Sem.run_pure])) fun _ w v w' h => by rw [he]; simp only [Sem.run_bind,h,Result.andThen,Sem.run_pure]

theorem denBin_shape {o : Oper} {op : BinOp} {t t' : TypeId} {x y : Operand} {fr : Fr} {k : Value → T} (ho : o.op = .binOp op t x y t') :
    Shape P o fr k (denBin op (evF fr x) (evF fr y) (.sem (.op (semW (execOp (evF fr) o))) k) k) := by
  have key : ∀ v : Value,(binOp op t (evF fr x) (evF fr y) = pure v) → (∃ kd a kd' b,evF fr x = .int kd a ∧ evF fr y = .int kd' b) → ∀ w,(execOp (evF fr) o).run P w = .ok (.value v) w := by
    intro v hb hxy w
    obtain ⟨kd,a,kd',b,hx,hy⟩ := hxy
    unfold execOp
    simp only [ho]
    rw [hb]
    have : eqGuard op t x y (evF fr x) (evF fr y) = pure () := by
      rw [hx,hy]; unfold eqGuard; cases op <;> rfl
    rw [this]
    rfl
  generalize hx : evF fr x = X at key
  generalize hy : evF fr y = Y at key
  unfold denBin
  split
  · refine .nchk _ _ (fun n => .int _ n) fun h1 => key _ ?_ ⟨_,_,_,_,rfl,rfl⟩
    simp only [binOp,Op.shift]
    rw [if_neg (by omega)]
  · refine .nchk _ _ (fun n => .int _ n) fun h1 => key _ ?_ ⟨_,_,_,_,rfl,rfl⟩
    simp only [binOp,Op.shift]
    rw [if_neg (by omega)]
  · rename_i op' kd a kd' b hn1 hn2
    split
    · rename_i hkd
      subst hkd
      unfold intBin
      cases op <;> first
        | exact absurd rfl (hn1 _ _ _ _ rfl rfl)
        | exact absurd rfl (hn2 _ _ _ _ rfl rfl)
        | (refine .num _ (fun n => .int _ n) (key _ ?_ ⟨_,_,_,_,rfl,rfl⟩); simp [binOp,Op.intArith]; done)
        | (refine .val _ (key _ ?_ ⟨_,_,_,_,rfl,rfl⟩); simp [binOp,Op.intCmp]; done)
        | (refine .val _ (key _ ?_ ⟨_,_,_,_,rfl,rfl⟩); simp only [binOp,Op.intCmp,ne_eq,not_true_eq_false,if_false]; rfl)
        | (refine .nchk _ _ (fun n => .int _ n) fun h1 => key _ ?_ ⟨_,_,_,_,rfl,rfl⟩; simp only [binOp,Op.intDiv,ne_eq,not_true_eq_false,if_false]; rw [if_neg h1])
        | (refine .num _ (fun n => .int _ n) (key _ ?_ ⟨_,_,_,_,rfl,rfl⟩); simp only [binOp,Op.intBits,ne_eq,not_true_eq_false,if_false]; done)
        | (refine .num _ (fun n => .int _ n) (key _ ?_ ⟨_,_,_,_,rfl,rfl⟩); simp only [binOp,ne_eq,not_true_eq_false,if_false]; rfl)
        | exact shape_semW
    · exact .fail
  · exact shape_semW

theorem denCall_shape (htt : tt.Ok P) {o : Oper} {c : Call} {fr : Fr} {k : Value → T} (ho : o.op = .call c) : Shape P o fr k (denCall tt o fr c k) := by
  unfold denCall
  split
  · rename_i f hc
    split
    · rename_i g first captured hf
      refine .call _ _ fun hp w => ?_
      unfold execOp
      simp only [ho,resolve,hc,hf,Deferred.ofValue,Sem.run_bind,Sem.run_pure,Result.andThen_ok,invoke]
      rw [show (first.toList ++ c.args.toList.map (evF fr) ++ captured.toList).toArray = first ++ c.args.map (evF fr) ++ captured from by apply Array.toList_inj.1; simp]
      exact callFunc_run hp _ w
    · exact .fail
  · rename_i hc
    split
    · rename_i x t hx ht
      have hax : c.args = #[x] := by rw [← Array.toList_inj]; exact hx
      have hat : c.argTypes = #[t] := by rw [← Array.toList_inj]; exact ht
      split
      · rename_i ad n cp hv
        split
        · rename_i en hel
          obtain ⟨hu,_⟩ := htt.el t en.1 en.2 hel
          refine .val (.int .i64 n) (fun w => ?_)
          unfold execOp
          simp only [ho,resolve,hc,hax,hat,List.map_toArray,List.map_cons,List.map_nil,hv,Sem.run_bind,Sem.run_pure,Result.andThen_ok,invoke,builtin,Builtin.len_]
          simp [underlying_run hu,goInt]
        · exact .fail
      · rename_i s hv
        cases hst : tt.st t with
        | false => exact .fail
        | true =>
          have hu := htt.st t hst
          refine .val (.int .i64 s.size) (fun w => ?_)
          unfold execOp
          simp only [ho,resolve,hc,hax,hat,List.map_toArray,List.map_cons,List.map_nil,hv,Sem.run_bind,Sem.run_pure,Result.andThen_ok,invoke,builtin,Builtin.len_]
          simp [underlying_run hu,goInt]
      · exact shape_semW
    · exact .fail
  · rename_i hc
    have hm : (c.args.toList.map (evF fr)).toArray = c.args.map (evF fr) := by apply Array.toList_inj.1; simp
    exact shape_run (fun w => by unfold execOp; simp only [ho,resolve,hc,Sem.run_bind,Sem.run_pure,Result.andThen_ok,invoke,builtin,semOf,hm])
  · rename_i hc
    have hm : (c.args.toList.map (evF fr)).toArray = c.args.map (evF fr) := by apply Array.toList_inj.1; simp
    exact shape_run (fun w => by unfold execOp; simp only [ho,resolve,hc,Sem.run_bind,Sem.run_pure,Result.andThen_ok,invoke,builtin,semOf,hm])
  · rename_i hc
    have hm : (c.args.toList.map (evF fr)).toArray = c.args.map (evF fr) := by apply Array.toList_inj.1; simp
    exact shape_run (fun w => by unfold execOp; simp only [ho,resolve,hc,Sem.run_bind,Sem.run_pure,Result.andThen_ok,invoke,builtin,semOf,hm])
  · rename_i hc
    split
    · rename_i x y hx
      have hax : c.args = #[x,y] := by rw [← Array.toList_inj]; exact hx
      split
      · rename_i v hv
        unfold minV at hv
        split at hv
        · rename_i kd a kd' b hx hy
          injection hv with hv
          subst hv
          refine .val _ (fun w => ?_)
          unfold execOp
          simp only [ho,resolve,hc,hax,List.map_toArray,List.map_cons,List.map_nil,hx,hy,Sem.run_bind,Sem.run_pure,Result.andThen_ok,invoke,builtin,Builtin.min_,List.foldlM_cons,List.foldlM_nil,Builtin.min2]
        · cases hv
      · exact .fail
    · exact .fail
  · rename_i hc
    split
    · rename_i x y hx
      have hax : c.args = #[x,y] := by rw [← Array.toList_inj]; exact hx
      split
      · rename_i v hv
        unfold maxV at hv
        split at hv
        · rename_i kd a kd' b hx hy
          injection hv with hv
          subst hv
          refine .val _ (fun w => ?_)
          unfold execOp
          simp only [ho,resolve,hc,hax,List.map_toArray,List.map_cons,List.map_nil,hx,hy,Sem.run_bind,Sem.run_pure,Result.andThen_ok,invoke,builtin,Builtin.max_,List.foldlM_cons,List.foldlM_nil,Builtin.max2]
        · cases hv
      · exact .fail
    · exact .fail
  · exact shape_semV

theorem denOp_shape (htt : tt.Ok P) (o : Oper) (fr : Fr) (k : Value → T) : Shape P o fr k (denOp tt o fr k) := by
  unfold denOp
  split
  · rename_i x ho
    exact .val _ (fun w => by unfold execOp; simp only [ho]; rfl)
  · rename_i x ho
    exact .val _ (fun w => by unfold execOp; simp only [ho]; rfl)
  · rename_i c x y ho
    have hrun : ∀ (p : Bool),evF fr c = .bool p → ∀ w : World,(execOp (evF fr) o).run P w = .ok (.value (if p then evF fr x else evF fr y)) w := by
      intro p hp w
      unfold execOp
      simp only [ho,hp,asBool,Sem.run_bind,Sem.run_pure,Result.andThen_ok]
    split
    · rename_i p hp
      split
      · rename_i u v hu hv
        refine .val _ (fun w => (hrun p hp w).trans ?_)
        rw [hu,hv]; cases p <;> rfl
      · exact .ite p _ _ (hrun p hp)
    · exact .fail
  · rename_i x ho
    split
    · rename_i a hx
      exact .val _ (fun w => by unfold execOp; simp only [ho,hx]; rfl)
    · exact shape_semW
  · rename_i op t x y t' ho
    exact denBin_shape ho
  · rename_i op t x ho
    split
    · rename_i b hx
      exact .val _ (fun w => by unfold execOp; simp only [ho,hx,Op.unary,Sem.run_bind,Sem.run_pure,Result.andThen_ok])
    · rename_i kd n hx
      exact .num _ (fun n => .int kd n) (fun w => by unfold execOp; simp only [ho,hx,Op.unary,Op.intArith,Sem.run_bind,Sem.run_pure,Result.andThen_ok])
    · exact shape_semW
  · rename_i s d x ho
    split
    · rename_i ks kd kd' n hs hd hx
      have hu := htt.ik d kd hd
      have hus := htt.ik s ks hs
      refine .num (kd.wrap n) (fun n => .int kd n) (fun w => ?_)
      unfold execOp
      simp only [ho,hx,Sem.run_bind,convert,underlying_run hu,underlying_run hus,Result.andThen_ok,Conv.intToInt,Sem.run_pure]
    · exact shape_semW
  · rename_i s x f ho
    split
    · rename_i i a hf hx
      obtain ⟨fs,fd,kk,hu,hfd,hoff,hk,hsz⟩ := htt.fo s f i hf
      refine .val (.pointer (some (a.add i))) (fun w => ?_)
      unfold execOp
      simp only [ho,hx,Instr.fieldAt,Sem.run_bind,underlying_run hu,Result.andThen_ok,hfd,Instr.sureAddr,Sem.run_pure,fieldPlace,sizeOf_run hk,hsz,if_false,hoff]
    · exact .fail
  · rename_i t x i ho
    split
    · rename_i A n cp kd j hx hi
      split
      · rename_i e sz hel
        obtain ⟨hu,kk,hk,hsz⟩ := htt.el t e sz hel
        refine .chk _ (.pointer (some ((adr A).add (j.toNat * sz)))) (fun hj w => ?_)
        obtain ⟨hj,hA⟩ := hj
        obtain ⟨a,rfl⟩ := Option.isSome_iff_exists.1 hA
        unfold execOp
        simp only [ho,hx,hi,Instr.indexAt,asIntOf,Sem.run_bind,underlying_run hu,Result.andThen_ok,Sem.run_pure]
        rw [if_pos hj]
        simp only [Sem.run_bind,sizeOf_run hk,Result.andThen_ok,Sem.run_pure,hsz,adr,Option.getD_some]
      · exact .fail
    · rename_i a kd j hx hi
      split
      · rename_i n sz hel
        obtain ⟨hn2,e,kk,hu,hk,hsz⟩ := htt.ar t n sz hel
        refine .chk _ (.pointer (some (a.add (j.toNat * sz)))) (fun hj w => ?_)
        unfold execOp
        simp only [ho,hx,hi,Instr.indexAt,asIntOf,Instr.sureAddr,Sem.run_bind,underlying_run hu,Result.andThen_ok,Sem.run_pure]
        rw [if_pos hj]
        simp only [Sem.run_bind,sizeOf_run hk,Result.andThen_ok,Sem.run_pure,hsz]
      · exact .fail
    · exact .fail
  · rename_i x i ho
    split
    · rename_i vs hx
      split
      · rename_i v hv
        exact .val _ (fun w => by unfold execOp; simp only [ho,hx,Instr.extract,hv,Sem.run_bind,Sem.run_pure,Result.andThen_ok])
      · exact .fail
    · exact .fail
  · rename_i fn first captured ho
    have hm : ∀ l : Array Operand,(l.toList.map (evF fr)).toArray = l.map (evF fr) := fun l => by apply Array.toList_inj.1; simp
    rw [hm,hm]
    exact .val _ (fun w => by unfold execOp; simp only [ho,Instr.makeFunc,Sem.run_bind,Sem.run_pure,Result.andThen_ok])
  · rename_i t x ho
    exact shape_sem (by unfold execOp; simp only [ho,semOf])
  · rename_i t x v ho
    refine .sem _ (fun w v' w' hr => .inr ?_) (fun h => by cases h)
    unfold execOp
    simp only [ho]
    simp only [semOf,Sem.run_bind] at hr ⊢
    cases hst : (Instr.storeAt t (evF fr x) (evF fr v)).run P w with
    | halt x w1 => rw [hst] at hr; simp [Result.andThen] at hr
    | ok u w1 =>
      rw [hst] at hr
      simp only [Result.andThen_ok,Sem.run_pure,Result.ok.injEq] at hr
      obtain ⟨rfl,rfl⟩ := hr
      exact ⟨by simp only [Result.andThen_ok,Sem.run_pure],rfl⟩
  · rename_i e ho
    exact shape_sem (by unfold execOp; simp only [ho,semOf])
  · rename_i e x ho
    exact shape_sem (by unfold execOp; simp only [ho,semOf])
  · rename_i t ps ho
    have hm : (ps.toList.map fun x => (x.1,evF fr x.2)).toArray = ps.map (fun x => (x.1,evF fr x.2)) := by apply Array.toList_inj.1; simp
    exact shape_sem (by unfold execOp; simp only [ho,semOf,hm])
  · rename_i t n ps ho
    have hm : (ps.toList.map fun x => (x.1,evF fr x.2)).toArray = ps.map (fun x => (x.1,evF fr x.2)) := by apply Array.toList_inj.1; simp
    exact shape_sem (by unfold execOp; simp only [ho,semOf,hm])
  · rename_i ho
    exact shape_sem (by unfold execOp; simp only [ho,semOf])
  · rename_i ho
    exact shape_sem (by unfold execOp; simp only [ho,semOf])
  · rename_i ho
    exact shape_sem (by unfold execOp; simp only [ho,semOf])
  · rename_i ho
    exact shape_sem (by unfold execOp; simp only [ho,semOf])
  · rename_i c ho
    exact denCall_shape htt ho
  · exact shape_semV

theorem denOp_sound (htt : tt.Ok P) {o : Oper} {fr : Fr} {S : St} {Q : PostT} {k : Value → T} (h : wpT P N (denOp tt o fr k) S Q) :
    ∀ w0 w a next Qx,SH w0 S w → RF N fr a → (∀ v w' S',SH w0 S' w' → wpT P N (k v) S' Q → next (a.put o.dst v) w') → o.wp P a w next Qx := by
  intro w0 w a next Qx hw hf hn
  have hs := denOp_shape htt o fr k
  generalize denOp tt o fr k = t at h hs
  unfold Oper.wp
  rw [hf.eval]
  cases hs with
  | val v hr => rw [hr w]; exact hn v w S hw h
  | chk c v hr => rw [hr (h.1 w0 w hw) w]; exact hn v w S hw h.2
  | num e f hr => rw [hr w]; exact hn _ w S hw h
  | nchk c e f hr => rw [hr (h.1 w0 w hw) w]; exact hn _ w S hw h.2
  | ite p x y hr =>
    rw [hr w]
    cases p with
    | true => exact hn x w S hw (h.1 rfl)
    | false => exact hn y w S hw (h.2 rfl)
  | sem s hr hv_ =>
    obtain ⟨v,w',S',h1,hw',hk⟩ := h w0 w hw
    rcases hr w v w' h1 with h2 | ⟨h2,hv⟩
    · rw [h2]; exact hn _ w' S' hw' hk
    · rw [h2]; subst hv; exact hn _ w' S' hw' hk
  | call g args hr =>
    obtain ⟨hp,hcall⟩ := h
    rw [hr hp w]
    refine (hcall w0 w hw).mono ?_
    rintro e w' ⟨v,S',rfl,hw',hk⟩
    exact hn v w' S' hw' hk
  | fail => exact h.elim

def wpQ (P : Program) (S : St) (Q : Fr → Prop) : T → Prop
  | .done e fr => e = .normal ∧ Q fr
  | .check c t => (∀ w0 w,SH w0 S w → c) ∧ wpQ P S Q t
  | .ite b x y => (b = true → wpQ P S Q x) ∧ (b = false → wpQ P S Q y)
  | .num e k => wpQ P S Q (k e)
  | .sem g k => ∃ v,(∀ w0 w,SH w0 S w → (semOf g).run P w = .ok v w) ∧ wpQ P S Q (k v)
  | .call f args k => ∃ v,HC P f args S (fun r S' => r = v ∧ S' = S) ∧ wpQ P S Q (k v)
  | _ => False
theorem wanted_guard {all : Array Oper} {o : Oper} {fr : Fr} {a : Act} {j d : Nat} {want b : Bool} (hf : RF N fr a) (hg : o.guard = some (j,want)) (hd : (all[j]?).bind (·.dst) = some d) (hlt : d < N) (hb : fr d = .bool b) :
    Region.wanted o (yielded all a.tmps) = (b == want) := by
  have hy : yielded all a.tmps j = some b := by
    have h1 := hf.at_ d
    rw [Array.getD_eq_getD_getElem?] at h1
    have h2 : a.tmps[d]? = some (.bool b) := by
      rw [Array.getElem?_eq_getElem (by rw [hf.sz]; exact hlt)] at h1 ⊢
      simp only [Option.getD_some] at h1
      rw [h1,hb]
    unfold yielded
    rw [hd]
    simp only [Option.bind_some,h2]
  simp [Region.wanted,hg,hy]

theorem wanted_none {all : Array Oper} {o : Oper} {fr : Fr} {a : Act} {j d : Nat} {want : Bool} (hf : RF N fr a) (hg : o.guard = some (j,want)) (hd : (all[j]?).bind (·.dst) = some d) (hlt : d < N) (hb : ∀ b,fr d = .bool b → False) :
    Region.wanted o (yielded all a.tmps) = false := by
  have hy : yielded all a.tmps j = none := by
    have h1 := hf.at_ d
    rw [Array.getD_eq_getD_getElem?] at h1
    have h2 : a.tmps[d]? = some (fr d) := by
      rw [Array.getElem?_eq_getElem (by rw [hf.sz]; exact hlt)] at h1 ⊢
      simp only [Option.getD_some] at h1
      rw [h1]
    unfold yielded
    rw [hd]
    simp only [Option.bind_some,h2]
    split
    · rename_i b hq
      injection hq with hq
      exact (hb _ hq).elim
    · rfl
  simp [Region.wanted,hg,hy]

def PostW (N : Nat) (w0 : World) (Q : PostT) : Exit → Act → World → Prop :=
  fun e a' w' => ∃ e' fr' S',e = Ex.toExit e' ∧ Q e' fr' S' ∧ RF N fr' a' ∧ SH w0 S' w'

theorem done_out {w0 w : World} {e : Ex} {fr : Fr} {S : St} {Q : PostT} {a : Act} (h : wpT P N (.done e fr) S Q) (hw : SH w0 S w) (hf : RF N fr a) : PostW N w0 Q e.toExit a w :=
  let ⟨S1,hl,h⟩ := h
  ⟨e,fr,S1,rfl,h,hf,hl w0 w hw⟩

theorem denOps_sound (htt : tt.Ok P) (all : Array Oper) (w0 : World) : ∀ (l : List Oper) {fr : Fr} {S : St} {Q : PostT} {w : World} {a : Act},wpT P N (denOps tt N all l fr) S Q → SH w0 S w → RF N fr a →
    wpList P all (PostW N w0 Q) l a w
  | [],fr,S,Q,w,a,⟨S1,hl,h⟩,hw,hf => ⟨.normal,fr,S1,rfl,h,hf,hl w0 w hw⟩
  | o :: rest,fr,S,Q,w,a,h,hw,hf => by
    have run : ∀ {fr : Fr} {a : Act},RF N fr a → wpT P N (denOp tt o fr fun v => denOps tt N all rest (putF N fr o.dst v)) S Q → o.wp P a w (wpList P all (PostW N w0 Q) rest) (PostW N w0 Q) := by
      intro fr a hf h
      exact denOp_sound htt h w0 w a _ _ hw hf fun v w' S' hw' hk => denOps_sound htt all w0 rest hk hw' (hf.put o.dst v)
    unfold denOps at h
    unfold wpList
    split at h
    · rename_i hg
      rw [if_pos (by simp [Region.wanted,hg])]
      exact .inl (run hf h)
    · rename_i j want hg
      split at h
      · exact h.elim
      · rename_i d hd
        cases hdN : Nat.blt d N with
        | false => rw [hdN] at h; exact h.elim
        | true =>
          rw [hdN] at h
          simp only [cond_true] at h
          have hlt : d < N := by simpa [Nat.blt_eq] using hdN
          split at h
          · rename_i b hb
            have hw1 := wanted_guard hf hg hd hlt hb
            rw [hw1]
            have hfr : upd fr d (.bool b) = fr := upd_same hb
            cases b <;> cases want <;> simp only [beq_self_eq_true,if_true,Bool.false_eq_true,if_false,show (false == true) = false from rfl,show (true == false) = false from rfl]
            · have h2 := h.2 rfl
              rw [hfr] at h2
              exact .inl (run hf h2)
            · have h2 := h.2 rfl
              rw [hfr] at h2
              exact denOps_sound htt all w0 rest h2 hw (hf.put o.dst undef)
            · have h2 := h.1 rfl
              rw [hfr] at h2
              exact denOps_sound htt all w0 rest h2 hw (hf.put o.dst undef)
            · have h2 := h.1 rfl
              rw [hfr] at h2
              exact .inl (run hf h2)
          · rename_i hb
            rw [wanted_none hf hg hd hlt hb]
            simp only [Bool.false_eq_true,if_false]
            exact denOps_sound htt all w0 rest h hw (hf.put o.dst undef)

theorem denCode_sound (htt : tt.Ok P) (w0 : World) : ∀ (c : Code) {fr : Fr} {S : St} {Q : PostT} {w : World} {a : Act},wpT P N (denCode tt N c fr) S Q → SH w0 S w → RF N fr a → c.wp P (PostW N w0 Q) a w
  | .skip,fr,S,Q,w,a,⟨S1,hl,h⟩,hw,hf => wp_skip ⟨.normal,fr,S1,rfl,h,hf,hl w0 w hw⟩
  | .region id ops d,fr,S,Q,w,a,h,hw,hf => by
    cases d with
    | false => exact wp_region_list (denOps_sound htt ops w0 ops.toList h hw hf)
    | true =>
      refine Code.wp_mono ?_ (h id w0 w a hw hf)
      rintro e a' w' ⟨fr',S',rfl,hq,hf',hw'⟩
      exact ⟨.normal,fr',S',rfl,hq,hf',hw'⟩
  | .seq x y,fr,S,Q,w,a,h,hw,hf => by
    refine wp_seq (Code.wp_mono ?_ (denCode_sound htt w0 x h hw hf))
    rintro e a' w' ⟨e',fr',S',rfl,hq,hf',hw'⟩
    cases e' with
    | normal => exact denCode_sound htt w0 y hq hw' hf'
    | exit id => exact done_out (e := .exit id) hq hw' hf'
    | ret => exact done_out (e := .ret) hq hw' hf'
  | .cond c x y,fr,S,Q,w,a,h,hw,hf => by
    unfold denCode at h
    split at h
    · rename_i b hb
      have hl : litF c b fr = fr := litF_same hb
      cases b with
      | true =>
        have h2 := h.1 rfl
        rw [hl] at h2
        exact wp_cond_true (by rw [hf.ev,hb]) (denCode_sound htt w0 x h2 hw hf)
      | false =>
        have h2 := h.2 rfl
        rw [hl] at h2
        exact wp_cond_false (by rw [hf.ev,hb]) (denCode_sound htt w0 y h2 hw hf)
    · exact h.elim
  | .block id c,fr,S,Q,w,a,h,hw,hf => by
    refine wp_block (Code.wp_mono ?_ (denCode_sound htt w0 c h hw hf))
    rintro e a' w' ⟨e',fr',S',rfl,hq,hf',hw'⟩
    cases e' with
    | normal => exact done_out (e := .normal) hq hw' hf'
    | exit j =>
      show (if j = id then PostW N w0 Q Exit.normal a' w' else PostW N w0 Q (Exit.exit j) a' w')
      by_cases hj : j = id
      · have : Nat.beq j id = true := by subst hj; exact beq_yes _
        simp only [this,cond_true] at hq
        rw [if_pos hj]
        exact done_out (e := .normal) hq hw' hf'
      · have : Nat.beq j id = false := beq_no hj
        simp only [this,cond_false] at hq
        rw [if_neg hj]
        exact done_out (e := .exit j) hq hw' hf'
    | ret => exact done_out (e := .ret) hq hw' hf'
  | .loop c,fr,S,Q,w,a,⟨I,⟨n0,S1,hl,h0⟩,hI⟩,hw,hf => by
    refine wp_loop_ghost (fun n a w => ∃ fr S,I n fr S ∧ RF N fr a ∧ SH w0 S w) n0 ⟨fr,S1,h0,hf,hl w0 w hw⟩ ?_
    rintro n a w ⟨fr,S,hi,hf,hw⟩
    refine Code.wp_mono ?_ (denCode_sound htt w0 c (hI n fr S hi) hw hf)
    rintro e a' w' ⟨e',fr',S',rfl,hq,hf',hw'⟩
    cases e' with
    | normal =>
      obtain ⟨m,hm,hi'⟩ := hq
      exact ⟨m,hm,fr',S',hi',hf',hw'⟩
    | exit id => exact ⟨.exit id,fr',S',rfl,hq,hf',hw'⟩
    | ret => exact ⟨.ret,fr',S',rfl,hq,hf',hw'⟩
  | .exit id,fr,S,Q,w,a,⟨S1,hl,h⟩,hw,hf => wp_exit ⟨.exit id,fr,S1,rfl,h,hf,hl w0 w hw⟩
  | .ret,fr,S,Q,w,a,⟨S1,hl,h⟩,hw,hf => wp_ret ⟨.ret,fr,S1,rfl,h,hf,hl w0 w hw⟩
  | .rangeFunc ..,_,_,_,_,_,h,_,_ => h.elim
  | .scope _,_,_,_,_,_,h,_,_ => h.elim
  | .label _,_,_,_,_,_,h,_,_ => h.elim
  | .goto _,_,_,_,_,_,h,_,_ => h.elim
  | .refuse _,_,_,_,_,_,h,_,_ => h.elim

def rvS (fr : Fr) : ResultVar → Sem Value
  | .tmp t => pure (fr t)
  | .cell a t => do loadVar t (← asAddr (fr a))
def resF (rs : Array ResultVar) (fr : Fr) : Sem Value := do
  let vs ← rs.mapM (rvS fr)
  pure (if h : vs.size = 1 then vs[0] else .tuple vs)
def ResT (P : Program) (s : Sem Value) (S : St) (Post : Value → St → Prop) : Prop := ∀ w0 w,SH w0 S w → ∃ v S',s.run P w = .ok v w ∧ SH w0 S' w ∧ Post v S'
def RetQ (P : Program) (rs : Array ResultVar) (Post : Value → St → Prop) : PostT := fun e fr S => match e with
  | .exit _ => False
  | _ => ResT P (resF rs fr) S Post
def fr0 (args : List Value) : Fr := fun i => args.getD i undef
theorem HC.intro {f : FuncId} {fn : Func} {c : Code} {args : List Value} {S : St} {Post : Value → St → Prop} (htt : tt.Ok P) (hf : P.funcs[f]? = some fn) (hb : fn.body = some c) (hn : (fn.name == "runtime.NumGoroutine") = false)
    (hN : fn.ntmps = N) (ha : args.length ≤ N) (h : wpT P N (denCode tt N c (fr0 args)) S (RetQ P fn.results Post)) : HC P f args.toArray S Post := by
  refine ⟨⟨fn,hf,by simp [hb],hn⟩,fun w0 w hw => calls_of_wp hf hb ?_⟩
  have hf0 : RF N (fr0 args) { tmps := args.toArray ++ Array.replicate (fn.ntmps - args.toArray.size) undef,defers := [] } := by
    refine ⟨by simp; omega,fun i => ?_,rfl⟩
    simp only [fr0,Array.getD_eq_getD_getElem?,List.getD_eq_getElem?_getD,Array.getElem?_append,Array.getElem?_replicate]
    by_cases hi : i < args.length
    · simp [hi]
    · have : args[i]? = none := List.getElem?_eq_none (by omega)
      simp only [List.size_toArray,hi,if_false,this,Option.getD_none]
      split <;> rfl
  refine Code.wp_mono ?_ (denCode_sound htt w0 c h hw hf0)
  rintro e a' w' ⟨e',fr',S',rfl,hq,hf',hw'⟩
  have hres : results fn a'.tmps = resF fn.results fr' := by
    unfold results resF
    have : (fun rv => rvS fr' rv) = fun rv : ResultVar => (match rv with
      | .tmp t => pure (a'.tmps.getD t undef)
      | .cell a t => do loadVar t (← asAddr (a'.tmps.getD a undef)) : Sem Value) := by
      funext rv
      cases rv <;> simp only [rvS,hf'.at_]
    rw [show rvS fr' = fun rv => rvS fr' rv from rfl,this]
    rfl
  cases e' with
  | exit id => exact hq.elim
  | normal =>
    obtain ⟨v,S1,hr,hw1,hp⟩ := hq w0 w' hw'
    exact bodyPost_end (by rw [hres]; exact hr) hf'.df ⟨v,S1,rfl,hw1,hp⟩
  | ret =>
    obtain ⟨v,S1,hr,hw1,hp⟩ := hq w0 w' hw'
    exact bodyPost_ret (by rw [hres]; exact hr) hf'.df ⟨v,S1,rfl,hw1,hp⟩
end


section
variable {ρ : Addr → Option Value} {L L' : List Ent} {w0 w w' : World} {S S1 S2 : St}
theorem blocksL_sub (hs : L'.Sublist L) : (blocksL L').Sublist (blocksL L) := by
  induction hs with
  | slnil => exact List.Sublist.refl _
  | cons a _ ih => exact ih.trans (by simp only [blocksL,List.flatMap_cons]; exact List.sublist_append_right _ _)
  | cons_cons a _ ih => simp only [blocksL,List.flatMap_cons]; exact List.Sublist.append (List.Sublist.refl _) ih
theorem SH.sub (hw : SH w0 ⟨ρ,L⟩ w) (hs : L'.Sublist L) : SH w0 ⟨ρ,L'⟩ w :=
  ⟨hw.below,fun a v ha => ⟨(hw.ro a v ha).1,fun hm => (hw.ro a v ha).2 ((blocksL_sub hs).subset hm)⟩,fun e he => hw.ent e (hs.subset he),hw.nd.sublist (blocksL_sub hs)⟩
def wo : List Bool → List Ent → List Ent
  | [],L => L
  | _ :: _,[] => []
  | true :: m,e :: L => e :: wo m L
  | false :: m,_ :: L => wo m L
theorem wo_sub : ∀ (m : List Bool) (L : List Ent),(wo m L).Sublist L
  | [],_ => List.Sublist.refl _
  | _ :: _,[] => List.Sublist.refl _
  | true :: m,e :: L => (wo_sub m L).cons_cons e
  | false :: m,e :: L => (wo_sub m L).cons e
theorem le_w (m : List Bool) : Le ⟨ρ,L⟩ ⟨ρ,wo m L⟩ := fun _ _ hw => hw.sub (wo_sub m L)
theorem le_d (k : Nat) : Le ⟨ρ,L⟩ ⟨ρ,L.drop k⟩ := fun _ _ hw => hw.sub (List.drop_sublist k L)
theorem SH.perm (hw : SH w0 ⟨ρ,L⟩ w) (hs : L.Perm L') : SH w0 ⟨ρ,L'⟩ w := by
  have hb : (blocksL L).Perm (blocksL L') := List.Perm.flatMap_right _ hs
  exact ⟨hw.below,fun a v ha => ⟨(hw.ro a v ha).1,fun hm => (hw.ro a v ha).2 (hb.mem_iff.2 hm)⟩,fun e he => hw.ent e (hs.mem_iff.2 he),hb.nodup_iff.1 hw.nd⟩
def mv (k : Nat) (L : List Ent) : List Ent := match L[k]? with
  | some e => e :: L.eraseIdx k
  | none => L
theorem mv_perm : ∀ (k : Nat) (L : List Ent),L.Perm (mv k L)
  | _,[] => by simp [mv]
  | 0,e :: L => by simp [mv]
  | k + 1,e :: L => by
    have := mv_perm k L
    unfold mv at this ⊢
    simp only [List.getElem?_cons_succ,List.eraseIdx_cons_succ]
    split
    · rename_i x hx
      rw [hx] at this
      exact (this.cons e).trans (List.Perm.swap x e _)
    · exact List.Perm.refl _
theorem le_mv (k : Nat) : Le ⟨ρ,L⟩ ⟨ρ,mv k L⟩ := fun _ _ hw => hw.perm (mv_perm k L)
theorem le_nil (e sz : Nat) : Le ⟨ρ,L⟩ ⟨ρ,.row none 0 0 e sz [] :: L⟩ := fun w0 w hw => ⟨hw.below,fun a v ha => ⟨(hw.ro a v ha).1,by have := (hw.ro a v ha).2; simpa [blocksL,Ent.blocks] using this⟩,fun x hx => by
  rcases List.mem_cons.1 hx with rfl | hx
  · exact w.ownsRow_nil _ _ _
  · exact hw.ent x hx,by have := hw.nd; simpa [blocksL,Ent.blocks] using this⟩
def RLe (ρ ρ' : Addr → Option Value) : Prop := ∀ a v,ρ a = some v → ρ' a = some v
theorem RLe.refl (ρ : Addr → Option Value) : RLe ρ ρ := fun _ _ h => h
theorem RLe.trans {ρ ρ' ρ'' : Addr → Option Value} (h : RLe ρ ρ') (h' : RLe ρ' ρ'') : RLe ρ ρ'' := fun a v hv => h' a v (h a v hv)
theorem Ent.ok.frame {lo : Nat} {e : Ent} (h : e.ok lo w) (hf : ∀ b ∈ e.blocks,w'.heap[b]? = w.heap[b]?) : e.ok lo w' := by
  cases e with
  | obj b l ty => exact ⟨(hf b (by simp [Ent.blocks])).trans h.1,h.2⟩
  | raw b o => exact ⟨(hf b (by simp [Ent.blocks])).trans h.1,h.2⟩
  | has A n => exact h
  | row A n c e sz xs =>
    obtain ⟨hx,hl | ⟨g,cap,cur,hv,hg,hh,hr⟩⟩ := h
    · exact ⟨hx,.inl hl⟩
    · refine ⟨hx,.inr ⟨g,cap,cur,hv,hg,?_,hr⟩⟩
      injection hv with hA
      subst hA
      exact (hf g (by simp [Ent.blocks])).trans hh
theorem Ent.ok.lt {lo b : Nat} {e : Ent} (h : e.ok lo w) (hb : b ∈ e.blocks) : b < w.heap.size ∧ lo ≤ b := by
  have key : ∀ {o : Obj} {b : Nat},w.heap[b]? = some o → b < w.heap.size := fun ho => (Array.getElem?_eq_some_iff.1 ho).1
  cases e with
  | obj b' l ty => simp only [Ent.blocks,List.mem_singleton] at hb; subst hb; exact ⟨key h.1,h.2⟩
  | raw b' o => simp only [Ent.blocks,List.mem_singleton] at hb; subst hb; exact ⟨key h.1,h.2⟩
  | has A n => simp [Ent.blocks] at hb
  | row A n c e sz xs =>
    obtain ⟨hx,⟨hl,_⟩ | ⟨g,cap,cur,hv,hg,hh,hr⟩⟩ := h
    · injection hl with hA; subst hA; simp [Ent.blocks] at hb
    · injection hv with hA; subst hA; simp only [Ent.blocks,List.mem_singleton] at hb; subst hb; exact ⟨key hh,hg⟩
theorem SH.lt (hw : SH w0 S w) {b : Nat} (hb : b ∈ blocksL S.L) : b < w.heap.size ∧ w0.heap.size ≤ b := by
  obtain ⟨e,he,hbe⟩ := List.mem_flatMap.1 hb
  exact (hw.ent e he).lt hbe
theorem SH.new (hw : SH w0 S w) (o : Obj) (e : Ent) (he : e.blocks = [w.heap.size]) (hok : e.ok w0.heap.size (w.alloc o)) : SH w0 ⟨S.ro,e :: S.L⟩ (w.alloc o) := by
  have hnot : w.heap.size ∉ blocksL S.L := fun hm => by have := (hw.lt hm).1; omega
  refine ⟨hw.below.alloc hw.below.size o,fun a v ha => ?_,fun x hx => ?_,?_⟩
  · obtain ⟨h1,h2⟩ := hw.ro a v ha
    have hlt := World.block_lt_of_cell? w _ h1
    refine ⟨?_,?_⟩
    · rw [← h1]; exact World.cell?_alloc_lt w o a hlt
    · simp only [blocksL,List.flatMap_cons,he,List.mem_append,List.mem_singleton,not_or]
      exact ⟨by omega,h2⟩
  · rcases List.mem_cons.1 hx with rfl | hx
    · exact hok
    · refine (hw.ent x hx).frame fun b hb => Below.heap_alloc w o b ?_
      exact ((hw.ent x hx).lt hb).1
  · simp only [blocksL,List.flatMap_cons,he]
    exact List.nodup_append.2 ⟨by simp,hw.nd,fun a ha b hb hab => by simp only [List.mem_singleton] at ha; subst ha; subst hab; exact hnot hb⟩
theorem split_at {e : Ent} {k : Nat} (hk : L[k]? = some e) (e' : Ent) : ∃ L1 L2,L = L1 ++ e :: L2 ∧ L.set k e' = L1 ++ e' :: L2 := by
  obtain ⟨hlt,he⟩ := List.getElem?_eq_some_iff.1 hk
  refine ⟨L.take k,L.drop (k + 1),?_,?_⟩
  · rw [← he]; simp
  · rw [List.set_eq_take_append_cons_drop,if_pos hlt]
theorem SH.upd (hw : SH w0 S w) {k : Nat} {e e' : Ent} (hk : S.L[k]? = some e) (hbl : ∀ b ∈ e'.blocks,b ∈ e.blocks ∨ w.heap.size ≤ b) (hnd : e'.blocks.Nodup) (hbe : Below w0.heap.size w0 w')
    (hfr : ∀ i,i < w.heap.size → i ∉ e.blocks → w'.heap[i]? = w.heap[i]?) (hok : e'.ok w0.heap.size w') : SH w0 ⟨S.ro,S.L.set k e'⟩ w' := by
  obtain ⟨L1,L2,h1,h2⟩ := split_at hk e'
  have hnd0 := hw.nd
  have hlt := fun b (hb : b ∈ blocksL S.L) => (hw.lt hb).1
  rw [h1] at hnd0 hlt
  simp only [blocksL,List.flatMap_append,List.flatMap_cons] at hnd0 hlt
  obtain ⟨n1,n2,n3⟩ := List.nodup_append.1 hnd0
  obtain ⟨n4,n5,n6⟩ := List.nodup_append.1 n2
  have hnew : ∀ b ∈ e'.blocks,b ∉ blocksL L1 ∧ b ∉ blocksL L2 := fun b hb => by
    rcases hbl b hb with h | h
    · exact ⟨fun hm => n3 b hm b (List.mem_append.2 (.inl h)) rfl,fun hm => n6 b h b hm rfl⟩
    · exact ⟨fun hm => by have := hlt b (List.mem_append.2 (.inl hm)); omega,fun hm => by have := hlt b (List.mem_append.2 (.inr (List.mem_append.2 (.inr hm)))); omega⟩
  refine ⟨hbe,fun a v ha => ?_,fun x hx => ?_,?_⟩
  · obtain ⟨h3,h4⟩ := hw.ro a v ha
    rw [h1] at h4
    simp only [blocksL,List.flatMap_append,List.flatMap_cons,List.mem_append,not_or] at h4
    have hl := World.block_lt_of_cell? w _ h3
    refine ⟨(World.cell?_of_block (hfr a.block hl h4.2.1)).trans h3,?_⟩
    simp only [h2,blocksL,List.flatMap_append,List.flatMap_cons,List.mem_append,not_or]
    refine ⟨h4.1,fun hm => ?_,h4.2.2⟩
    rcases hbl _ hm with h | h
    · exact h4.2.1 h
    · omega
  · simp only [h2,List.mem_append,List.mem_cons] at hx
    have old : ∀ x ∈ S.L,(∀ b ∈ x.blocks,b ∉ e.blocks) → x.ok w0.heap.size w' := fun x hx hb => (hw.ent x hx).frame fun b hbx => hfr b ((hw.ent x hx).lt hbx).1 (hb b hbx)
    rcases hx with hx | rfl | hx
    · exact old x (by rw [h1]; simp [hx]) fun b hb he => n3 b (List.mem_flatMap.2 ⟨x,hx,hb⟩) b (List.mem_append.2 (.inl he)) rfl
    · exact hok
    · exact old x (by rw [h1]; simp [hx]) fun b hb he => n6 b he b (List.mem_flatMap.2 ⟨x,hx,hb⟩) rfl
  · simp only [h2,blocksL,List.flatMap_append,List.flatMap_cons]
    refine List.nodup_append.2 ⟨n1,List.nodup_append.2 ⟨hnd,n5,fun a ha b hb hab => ?_⟩,fun a ha b hb hab => ?_⟩
    · subst hab; exact (hnew a ha).2 hb
    · subst hab
      rcases List.mem_append.1 hb with hb | hb
      · exact (hnew a hb).1 ha
      · exact n3 a ha a (List.mem_append.2 (.inr hb)) rfl
theorem SH.set (hw : SH w0 S w) {k b : Nat} {e e' : Ent} {o' : Obj} (hk : S.L[k]? = some e) (hb : e.blocks = [b]) (hb' : e'.blocks = [b]) (hok : e'.ok w0.heap.size { w with heap := w.heap.setIfInBounds b o' }) :
    SH w0 ⟨S.ro,S.L.set k e'⟩ { w with heap := w.heap.setIfInBounds b o' } := by
  have hlt := hw.lt (b := b) (List.mem_flatMap.2 ⟨e,List.mem_of_getElem? hk,by simp [hb]⟩)
  refine hw.upd hk (fun x hx => .inl (by rw [hb]; rwa [hb'] at hx)) (by rw [hb']; simp) ⟨hw.below.os,hw.below.tape,hw.below.output,by simpa using hw.below.size,fun i hi => ?_⟩ (fun i _ hi => ?_) hok
  · show (w.heap.setIfInBounds b o')[i]? = _
    rw [Array.getElem?_setIfInBounds_ne (by omega)]
    exact hw.below.block i hi
  · rw [hb] at hi
    show (w.heap.setIfInBounds b o')[i]? = _
    rw [Array.getElem?_setIfInBounds_ne (fun h => hi (by simp [h]))]
theorem SH.obj (hw : SH w0 S w) {k b ty : Nat} {l : List Value} (hk : S.L[k]? = some (.obj b l ty)) : w.heap[b]? = some (.cells l.toArray ty (0,0)) := (hw.ent _ (List.mem_of_getElem? hk)).1
theorem SH.row (hw : SH w0 S w) {k n c e sz : Nat} {A : Option Addr} {xs : List Value} (hk : S.L[k]? = some (.row A n c e sz xs)) : w.ownsRow w0.heap.size e sz (.slice A n c) n xs := hw.ent _ (List.mem_of_getElem? hk)
theorem row_cells {lo n c e sz : Nat} {A : Option Addr} {xs : List Value} (h : w.ownsRow lo e sz (.slice A n c) n xs) : (A = none → xs = []) ∧ ∀ j v,xs[j]? = some v → w.cell? ((adr A).add j) = some v := by
  obtain ⟨hx,⟨hl,hn⟩ | ⟨g,cap,cur,hv,hg,hh,h1,h2,h3,h4⟩⟩ := h
  · injection hl with hA
    subst hA
    subst hn
    have : xs = [] := by apply List.length_eq_zero_iff.1; simpa using hx
    exact ⟨fun _ => this,fun j v hj => by rw [this] at hj; simp at hj⟩
  · injection hv with hA
    subst hA
    refine ⟨fun h => (by cases h),fun j v hj => ?_⟩
    rw [← h4,List.getElem?_take] at hj
    split at hj
    · have : (adr (some (⟨g,0,none⟩ : Addr))).add j = ⟨g,j,none⟩ := by unfold Addr.add adr; split <;> simp_all
      rw [this]
      rw [Array.getElem?_toList] at hj
      simp [World.cell?,hh,hj]
    · cases hj
def Rd (S : St) (A : Option Addr) (xs : List Value) : Prop := ∀ w0 w,SH w0 S w → (A = none → xs = []) ∧ ∀ j v,xs[j]? = some v → w.cell? ((adr A).add j) = some v
theorem Rd.mono {A : Option Addr} {xs : List Value} (h : Rd S A xs) (hl : Le S1 S) : Rd S1 A xs := fun w0 w hw => h w0 w (hl w0 w hw)
theorem rd_row (k : Nat) {n c e sz : Nat} {A : Option Addr} {xs : List Value} (hk : S.L[k]? = some (.row A n c e sz xs)) : Rd S A xs := fun _ _ hw => row_cells (hw.row hk)
theorem rd_nil (S : St) (A : Option Addr) : Rd S A [] := fun _ _ _ => ⟨fun _ => rfl,fun _ _ h => by simp at h⟩
theorem add_add (a : Addr) (i j : Nat) : (a.add i).add j = a.add (i + j) := by
  unfold Addr.add
  by_cases hi : i = 0
  · subst hi; simp
  · by_cases hj : j = 0
    · subst hj; simp
    · simp [hi,hj,Nat.add_assoc]
theorem add_plain (g o j : Nat) : (⟨g,o,none⟩ : Addr).add j = ⟨g,o + j,none⟩ := by unfold Addr.add; split <;> simp_all
theorem rd_drop {A : Option Addr} {xs : List Value} (h : Rd S A xs) (m : Nat) : Rd S (A.map (·.add m)) (xs.drop m) := fun w0 w hw => by
  obtain ⟨h1,h2⟩ := h w0 w hw
  cases A with
  | none => exact ⟨fun _ => by rw [h1 rfl]; simp,fun j v hj => by rw [h1 rfl] at hj; simp at hj⟩
  | some a =>
    refine ⟨fun h => (by cases h),fun j v hj => ?_⟩
    rw [List.getElem?_drop] at hj
    have := h2 _ _ hj
    simp only [Option.map_some,adr,Option.getD_some] at this ⊢
    rw [add_add]
    exact this
theorem rd_take {A : Option Addr} {xs : List Value} (h : Rd S A xs) (m : Nat) : Rd S A (xs.take m) := fun w0 w hw => by
  obtain ⟨h1,h2⟩ := h w0 w hw
  refine ⟨fun ha => by rw [h1 ha]; simp,fun j v hj => h2 j v ?_⟩
  rw [List.getElem?_take] at hj
  split at hj
  · exact hj
  · cases hj
end

section
variable {P : Program} {tt : TT} {N : Nat} {S S1 S' : St} {Q : PostT} {k : Value → T} {ρ : Addr → Option Value} {L : List Ent}

theorem r_bind {t : T} {k : Ex → Fr → T} (h : wpT P N t S fun e fr S' => wpT P N (k e fr) S' Q) : wpT P N (.bind t k) S Q := h
def updL : List (Nat × Value) → Fr → Fr
  | [],fr => fr
  | p :: L,fr => upd (updL L fr) p.1 p.2
def okL (fr : Fr) (L : List (Nat × Value)) : Prop := L.map (fun p => fr p.1) = L.map (fun p => p.2)
theorem updL_same {fr : Fr} : ∀ (L : List (Nat × Value)),okL fr L → updL L fr = fr
  | [],_ => rfl
  | p :: L,h => by
    simp only [okL,List.map_cons,List.cons.injEq] at h
    unfold updL
    rw [updL_same L h.2]
    exact upd_same h.1
theorem fr_eq {fr : Fr} (L : List (Nat × Value)) (h : L.map (fun p => fr p.1) = L.map (fun p => p.2)) : fr = updL L fr := (updL_same L h).symm
theorem r_keep {e : Ex} {fr : Fr} (L : List (Nat × Value)) (hL : L.map (fun p => fr p.1) = L.map (fun p => p.2)) (h : ∀ fr',wpT P N (.done e (updL L fr')) S Q) : wpT P N (.done e fr) S Q := by have := h fr; rw [updL_same L hL] at this; exact this
theorem r_kp {tt : TT} {all : Array Oper} {rest : List Oper} {fr : Fr} (L : List (Nat × Value)) (hL : L.map (fun p => fr p.1) = L.map (fun p => p.2)) (h : ∀ fr',wpT P N (denOps tt N all rest (updL L fr')) S Q) : wpT P N (denOps tt N all rest fr) S Q := by have := h fr; rw [updL_same L hL] at this; exact this
theorem wpT_end : ∀ (t : T) {S : St} {Q : PostT},wpT P N t S (fun e fr S' => ∃ S1,Le S' S1 ∧ Q e fr S1) → wpT P N t S Q
  | .done _ _,_,_,⟨_,hl,S2,hl2,h⟩ => ⟨S2,hl.trans hl2,h⟩
  | .fail,_,_,h => h
  | .check _ t,_,_,h => ⟨h.1,wpT_end t h.2⟩
  | .ite _ x y,_,_,h => ⟨fun hb => wpT_end x (h.1 hb),fun hb => wpT_end y (h.2 hb)⟩
  | .num e k,_,_,h => wpT_end (k e) h
  | .sem _ k,_,_,h => OpT.mono h fun v _ h2 => wpT_end (k v) h2
  | .call _ _ k,_,_,h => HC.mono h fun v _ h2 => wpT_end (k v) h2
  | .draw _ _,_,_,h => fun id w0 w a hw hr => Code.wp_mono (fun _ _ w' ⟨fr',S',he,⟨S1,hl,hq⟩,h2,h3⟩ => ⟨fr',S1,he,hq,h2,hl w0 w' h3⟩) (h id w0 w a hw hr)
  | .bind t k,_,_,h => wpT_mono t (fun e fr _ h2 => wpT_end (k e fr) h2) h
  | .loop body _,_,_,⟨I,h0,hI⟩ => ⟨I,h0,fun n fr S hi => wpT_end (body fr) (wpT_mono (body fr) (fun e fr' S' h2 => by
      cases e with
      | normal => exact ⟨S',Le.refl S',h2⟩
      | exit id => exact h2
      | ret => exact h2) (hI n fr S hi))⟩
theorem r_meet {t : T} (J : Fr → St → Prop) (h : wpT P N t S fun e fr S' => match e with
      | .normal => J fr S'
      | .exit i => Q (.exit i) fr S'
      | .ret => Q .ret fr S') (h' : ∀ fr S',J fr S' → wpT P N (.done .normal fr) S' Q) : wpT P N t S Q :=
  wpT_end t (wpT_mono t (fun e fr S' h0 => by
    cases e with
    | normal => exact h' fr S' h0
    | exit i => exact ⟨S',Le.refl S',h0⟩
    | ret => exact ⟨S',Le.refl S',h0⟩) h)
theorem r_done {e : Ex} {fr : Fr} (h : Q e fr S) : wpT P N (.done e fr) S Q := ⟨S,Le.refl S,h⟩
theorem r_le {t : T} (hl : Le S S1) (h : wpT P N t S1 Q) : wpT P N t S Q := wpT_le t hl h
theorem r_check {c : Prop} {t : T} (hc : c) (h : wpT P N t S Q) : wpT P N (.check c t) S Q := ⟨fun _ _ _ => hc,h⟩
theorem r_ix {A : Option Addr} {xs : List Value} {j : Int} {n : Nat} {t : T} (h : Rd S A xs) (hj : 0 ≤ j ∧ j < n) (hx : xs ≠ []) (ht : wpT P N t S Q) : wpT P N (.check ((0 ≤ j ∧ j < n) ∧ A.isSome = true) t) S Q :=
  ⟨fun w0 w hw => ⟨hj,by
    cases A with
    | none => exact absurd ((h w0 w hw).1 rfl) hx
    | some a => rfl⟩,ht⟩
theorem r_num {e e' : Int} {k : Int → T} (he : e = e') (h : wpT P N (k e') S Q) : wpT P N (.num e k) S Q := by rw [← he] at h; exact h
theorem r_ite {b : Bool} {x y : T} (hx : b = true → wpT P N x S Q) (hy : b = false → wpT P N y S Q) : wpT P N (.ite b x y) S Q := ⟨hx,hy⟩
theorem r_T {b : Bool} {x y : T} (hb : b = true) (h : wpT P N x S Q) : wpT P N (.ite b x y) S Q := ⟨fun _ => h,fun h0 => absurd (hb.symm.trans h0) (by decide)⟩
theorem r_F {b : Bool} {x y : T} (hb : b = false) (h : wpT P N y S Q) : wpT P N (.ite b x y) S Q := ⟨fun h0 => absurd (hb.symm.trans h0) (by decide),fun _ => h⟩
theorem r_call {f : FuncId} {args : Array Value} {Post : Value → St → Prop} (h : HC P f args S Post) (hk : ∀ v S',Post v S' → wpT P N (k v) S' Q) : wpT P N (.call f args k) S Q := HC.mono h hk
theorem r_sem {g : Tag} {v : Value} (hr : ∀ w0 w,SH w0 S w → (semOf g).run P w = .ok v w) (h : wpT P N (k v) S Q) : wpT P N (.sem g k) S Q := OpT.of_run hr h

theorem r_loop {body : Fr → T} {fr : Fr} (I : Nat → Fr → St → Prop) (n : Nat) (h0 : I n fr S) (hI : ∀ n fr S,I n fr S → wpT P N (body fr) S fun e fr' S' =>
      match e with
      | .normal => ∃ m,m < n ∧ I m fr' S'
      | e => Q e fr' S') : wpT P N (.loop body fr) S Q := ⟨I,⟨n,S,Le.refl S,h0⟩,hI⟩
def fl {α : Type} (en : α → List Value) (xs : List α) : List Value := xs.flatMap en
theorem fl_app {α : Type} (en : α → List Value) (xs ys : List α) : fl en (xs ++ ys) = fl en xs ++ fl en ys := List.flatMap_append
theorem fl_len {α : Type} {en : α → List Value} {sz : Nat} (h : ∀ x,(en x).length = sz) (xs : List α) : (fl en xs).length = xs.length * sz := by
  induction xs with
  | nil => simp [fl]
  | cons a l ih => simp only [fl,List.flatMap_cons,List.length_append,List.length_cons] at ih ⊢; rw [ih,h,Nat.succ_mul]; omega
theorem fl_drop {α : Type} {en : α → List Value} {sz : Nat} (h : ∀ x,(en x).length = sz) : ∀ (xs : List α) (i : Nat),(fl en xs).drop (i * sz) = fl en (xs.drop i)
  | [],i => by simp [fl]
  | a :: l,0 => by simp
  | a :: l,i + 1 => by
    have hl : (i + 1) * sz = (en a).length + i * sz := by rw [h,Nat.succ_mul]; omega
    simp only [fl,List.flatMap_cons,List.drop_succ_cons]
    rw [hl,← List.drop_drop,List.drop_left']
    · exact fl_drop h l i
    · rfl
theorem fl_take {α : Type} {en : α → List Value} {sz : Nat} (h : ∀ x,(en x).length = sz) : ∀ (xs : List α) (i : Nat),(fl en xs).take (i * sz) = fl en (xs.take i)
  | [],i => by simp [fl]
  | a :: l,0 => by simp [fl]
  | a :: l,i + 1 => by
    have hl : (i + 1) * sz = (en a).length + i * sz := by rw [h,Nat.succ_mul]; omega
    simp only [fl,List.flatMap_cons,List.take_succ_cons]
    rw [hl,List.take_length_add_append]
    exact congrArg _ (fl_take h l i)
theorem fl_at {α : Type} {en : α → List Value} {sz : Nat} (h : ∀ x,(en x).length = sz) {xs : List α} {i : Nat} {x : α} (hx : xs[i]? = some x) {o : Nat} {v : Value} (ho : (en x)[o]? = some v) : (fl en xs)[i * sz + o]? = some v := by
  obtain ⟨hlt,rfl⟩ := List.getElem?_eq_some_iff.1 hx
  have h1 : ((fl en xs).drop (i * sz))[o]? = some v := by
    rw [fl_drop h,← List.getElem_cons_drop hlt]
    simp only [fl,List.flatMap_cons]
    rw [List.getElem?_append_left (List.getElem?_eq_some_iff.1 ho).1]
    exact ho
  rwa [List.getElem?_drop] at h1
theorem fl_all {α : Type} {en : α → List Value} {sz : Nat} (h : ∀ x,(en x).length = sz) {xs : List α} {i : Nat} {x : α} (hx : xs[i]? = some x) : ((fl en xs).drop (i * sz)).take sz = en x := by
  obtain ⟨hlt,rfl⟩ := List.getElem?_eq_some_iff.1 hx
  rw [fl_drop h,← List.getElem_cons_drop hlt]
  simp only [fl,List.flatMap_cons]
  rw [← h xs[i],List.take_left']
  rfl
theorem fl_part {α : Type} {en : α → List Value} {sz : Nat} (h : ∀ x,(en x).length = sz) {xs : List α} {i : Nat} {x : α} (hx : xs[i]? = some x) {o n : Nat} {vs : List Value} (ho : ((en x).drop o).take n = vs) (hn : vs.length = n) : ((fl en xs).drop (i * sz + o)).take n = vs := by
  have h0 := fl_all h hx
  have hle : n = 0 ∨ o + n ≤ sz := by
    rw [← ho,List.length_take,List.length_drop,h] at hn
    omega
  rcases hle with h1 | hle
  · subst h1; simp at ho ⊢; exact ho
  rw [← List.drop_drop,← ho,← h0,List.drop_take,List.take_take,Nat.min_eq_left (by omega)]
theorem fl_ne {α : Type} {en : α → List Value} {sz : Nat} (h : ∀ x,(en x).length = sz) (hs : Nat.blt 0 sz = true) {xs : List α} {i : Nat} {x : α} (hx : xs[i]? = some x) : fl en xs ≠ [] := by
  intro h0
  have h1 := fl_len h xs
  rw [h0] at h1
  have h2 := (List.getElem?_eq_some_iff.1 hx).1
  have h3 : 0 < sz := by simpa [Nat.blt_eq] using hs
  simp only [List.length_nil] at h1
  have : 0 < xs.length * sz := Nat.mul_pos (by omega) h3
  omega
def spl (l : List Value) (off : Nat) (vs : List Value) : List Value := l.take off ++ vs ++ l.drop (off + vs.length)
theorem fl_spl {α : Type} {en : α → List Value} {sz : Nat} (h : ∀ x,(en x).length = sz) : ∀ {xs : List α} {i : Nat} {x : α} (_ : xs[i]? = some x) (y : α) {o : Nat} {vs : List Value} (_ : spl (en x) o vs = en y) (_ : o + vs.length ≤ sz),spl (fl en xs) (i * sz + o) vs = fl en (xs.set i y)
  | [],i,x,hx,_,_,_,_,_ => by simp at hx
  | a :: l,0,x,hx,y,o,vs,hy,hb => by
    simp only [List.getElem?_cons_zero,Option.some.injEq] at hx
    subst hx
    simp only [Nat.zero_mul,Nat.zero_add,List.set_cons_zero,fl,List.flatMap_cons]
    rw [← hy]
    unfold spl
    have ha := h a
    rw [List.take_append_of_le_length (by omega),List.drop_append_of_le_length (by omega)]
    simp only [List.append_assoc]
  | a :: l,i + 1,x,hx,y,o,vs,hy,hb => by
    simp only [List.getElem?_cons_succ] at hx
    have ih := fl_spl h hx y hy hb
    simp only [fl,List.set_cons_succ,List.flatMap_cons] at ih ⊢
    rw [← ih]
    unfold spl
    have hl : (i + 1) * sz + o = (en a).length + (i * sz + o) := by rw [h,Nat.succ_mul]; omega
    rw [hl,List.take_length_add_append,Nat.add_assoc,List.drop_length_add_append]
    simp only [List.append_assoc]

theorem isAgg_run (htt : tt.Ok P) {t : TypeId} (hs : tt.sc t = true) (w : World) : (isAgg t).run P w = .ok false w := by
  obtain ⟨⟨d,hd,hp⟩,_⟩ := htt.sc t hs
  unfold isAgg
  simp only [Sem.run_bind,underlying_run hd,Result.andThen_ok]
  cases d <;> simp_all [plainDesc]
theorem isAgg_run' (htt : tt.Ok P) {t n : Nat} (hs : tt.ag t = some n) (w : World) : (isAgg t).run P w = .ok true w := by
  obtain ⟨⟨d,hd,hp⟩,_⟩ := htt.ag t n hs
  unfold isAgg
  simp only [Sem.run_bind,underlying_run hd,Result.andThen_ok]
  cases d <;> simp_all [plainDesc]
theorem run_load_sc (htt : tt.Ok P) {t : TypeId} (hs : tt.sc t = true) {w : World} {a : Addr} {v : Value} (hc : w.cell? a = some v) : (Instr.loadAt t (.pointer (some a))).run P w = .ok v w := by
  unfold Instr.loadAt loadVar
  simp only [Instr.sureAddr,Sem.run_bind,Sem.run_pure,Result.andThen_ok,isAgg_run htt hs,Bool.false_eq_true,if_false]
  simp [load,Sem.run,hc]
theorem loadCellsFrom_run {w : World} {a : Addr} : ∀ (vs : List Value) (i : Nat) (acc : Array Value),(∀ j u,vs[j]? = some u → w.cell? (a.add (i + j)) = some u) → (loadCellsFrom a i vs.length acc).run P w = .ok (acc ++ vs.toArray) w
  | [],i,acc,_ => by simp [loadCellsFrom]
  | v :: vs,i,acc,h => by
    have h0 := h 0 v rfl
    rw [Nat.add_zero] at h0
    simp only [List.length_cons,loadCellsFrom,Sem.run_bind]
    have : (load (a.add i)).run P w = .ok v w := by simp [load,Sem.run,h0]
    rw [this]
    simp only [Result.andThen_ok]
    rw [loadCellsFrom_run vs (i + 1) (acc.push v) (fun j u hj => by have := h (j + 1) u (by simpa using hj); rw [show i + 1 + j = i + (j + 1) by omega]; exact this)]
    simp
theorem run_load_ag (htt : tt.Ok P) {t n : Nat} (hs : tt.ag t = some n) {w : World} {a : Addr} {vs : List Value} (hl : vs.length = n) (hc : ∀ j u,vs[j]? = some u → w.cell? (a.add j) = some u) : (loadVar t a).run P w = .ok (.agg vs.toArray) w := by
  obtain ⟨_,ki,hki,hkn⟩ := htt.ag t n hs
  unfold loadVar
  simp only [Sem.run_bind,Sem.run_pure,Result.andThen_ok,isAgg_run' htt hs,if_true,sizeOf_run hki,loadCells]
  rw [hkn,← hl,loadCellsFrom_run vs 0 #[] (fun j u hj => by rw [Nat.zero_add]; exact hc j u hj)]
  simp
theorem SH.cell {w0 w : World} {k b off ty : Nat} {l : List Value} {v : Value} (hw : SH w0 S w) (hk : S.L[k]? = some (.obj b l ty)) (hv : l[off]? = some v) : w.cell? ⟨b,off,none⟩ = some v := by
  have := hw.obj hk
  simp [World.cell?,this,hv]
theorem SH.cells {w0 w : World} {k b off ty n : Nat} {l vs : List Value} (hw : SH w0 S w) (hk : S.L[k]? = some (.obj b l ty)) (hv : (l.drop off).take n = vs) : ∀ j u,vs[j]? = some u → w.cell? ((⟨b,off,none⟩ : Addr).add j) = some u := fun j u hj => by
  rw [add_plain]
  refine hw.cell hk ?_
  rw [← hv,List.getElem?_take] at hj
  split at hj
  · rwa [List.getElem?_drop] at hj
  · cases hj
theorem loadAt_ag (htt : tt.Ok P) {t n : Nat} (hs : tt.ag t = some n) {w : World} {a : Addr} {vs : List Value} (hl : vs.length = n) (hc : ∀ j u,vs[j]? = some u → w.cell? (a.add j) = some u) : (Instr.loadAt t (.pointer (some a))).run P w = .ok (.agg vs.toArray) w := by
  unfold Instr.loadAt
  simp only [Instr.sureAddr,Sem.run_bind,Sem.run_pure,Result.andThen_ok]
  exact run_load_ag htt hs hl hc
theorem r_ld (kk : Nat) (htt : tt.Ok P) {t b off ty : Nat} {l : List Value} {v : Value} (hs : tt.sc t = true) (hk : S.L[kk]? = some (.obj b l ty)) (hv : l[off]? = some v) (h : wpT P N (k v) S Q) :
    wpT P N (.sem (.load t (.pointer (some ⟨b,off,none⟩))) k) S Q := r_sem (fun _ _ hw => run_load_sc htt hs (hw.cell hk hv)) h
theorem r_ldn (kk : Nat) (htt : tt.Ok P) {t n b off ty : Nat} {l : List Value} (vs : List Value) (hs : tt.ag t = some n) (hk : S.L[kk]? = some (.obj b l ty)) (hv : (l.drop off).take n = vs) (hl : vs.length = n) (h : wpT P N (k (.agg vs.toArray)) S Q) :
    wpT P N (.sem (.load t (.pointer (some ⟨b,off,none⟩))) k) S Q := r_sem (fun _ _ hw => loadAt_ag htt hs hl (hw.cells hk hv)) h
theorem r_rd (htt : tt.Ok P) {t m : Nat} {A : Option Addr} {a : Addr} {xs : List Value} {v : Value} (hr : Rd S A xs) (hs : tt.sc t = true) (ha : a = (adr A).add m) (hv : xs[m]? = some v) (h : wpT P N (k v) S Q) :
    wpT P N (.sem (.load t (.pointer (some a))) k) S Q := r_sem (fun w0 w hw => run_load_sc htt hs (by rw [ha]; exact (hr w0 w hw).2 _ _ hv)) h
theorem r_rdn (htt : tt.Ok P) {t m n : Nat} {A : Option Addr} {a : Addr} {xs : List Value} (vs : List Value) (hr : Rd S A xs) (hs : tt.ag t = some n) (ha : a = (adr A).add m) (hv : (xs.drop m).take n = vs) (hl : vs.length = n) (h : wpT P N (k (.agg vs.toArray)) S Q) :
    wpT P N (.sem (.load t (.pointer (some a))) k) S Q := r_sem (fun w0 w hw => loadAt_ag htt hs hl fun j u hj => by
      rw [ha,add_add]
      refine (hr w0 w hw).2 _ _ ?_
      rw [← hv,List.getElem?_take] at hj
      split at hj
      · rwa [List.getElem?_drop] at hj
      · cases hj) h

theorem run_newVar (t : TypeId) (v : Value) (w : World) : (newVar t v).run P w = .ok ⟨w.heap.size,0,none⟩ (w.alloc (.cells v.cells t)) := rfl
theorem opT_new {s : Sem Value} {val : Nat → Value} {l : List Value} {ty : Nat} {K : Value → St → Prop} (hr : ∀ w : World,s.run P w = .ok (val w.heap.size) (w.alloc (.cells l.toArray ty))) (h : ∀ b,K (val b) ⟨S.ro,.obj b l ty :: S.L⟩) : OpT P s S K :=
  fun w0 w hw => ⟨_,_,_,hr w,hw.new _ (.obj w.heap.size l ty) rfl ⟨heap_alloc_new w _,hw.below.size⟩,h _⟩
theorem r_al (htt : tt.Ok P) {e n b' : Nat} {z : Value} (l : List Value) (hz : tt.inf e = some (z,n,b')) (hl : z.cells = l.toArray) (h : ∀ b,wpT P N (k (.pointer (some ⟨b,0,none⟩))) ⟨ρ,.obj b l e :: L⟩ Q) :
    wpT P N (.sem (.alloc e) k) ⟨ρ,L⟩ Q := by
  obtain ⟨ki,hki,hkz,_⟩ := htt.inf e z n b' hz
  refine opT_new (val := fun b => .pointer (some ⟨b,0,none⟩)) (fun w => ?_) h
  have hzv : (zeroValue e).run P w = .ok z w := by simp [zeroValue,typeInfo,program,Sem.run_bind,Sem.run,Result.andThen,hki,hkz]
  simp only [semOf]
  unfold Instr.alloc
  simp only [Sem.run_bind,hzv,Result.andThen_ok,run_newVar,Sem.run_pure,hl]
theorem r_bx {e : Nat} {v : Value} (l : List Value) (hl : v.cells = l.toArray) (h : ∀ b,wpT P N (k (.pointer (some ⟨b,0,none⟩))) ⟨ρ,.obj b l e :: L⟩ Q) :
    wpT P N (.sem (.box e v) k) ⟨ρ,L⟩ Q := by
  refine opT_new (val := fun b => .pointer (some ⟨b,0,none⟩)) (fun w => ?_) h
  simp only [semOf]
  unfold Instr.box
  simp only [Sem.run_bind,Result.andThen_ok,run_newVar,Sem.run_pure,hl]

def setL (cs : Array Value) (off : Nat) (vs : List Value) : Array Value := (spl cs.toList off vs).toArray
theorem take_set_succ {α : Type} (v : α) : ∀ (l : List α) (i : Nat),i < l.length → (l.set i v).take (i + 1) = l.take i ++ [v]
  | [],i,h => by simp at h
  | a :: l,0,_ => by simp
  | a :: l,i + 1,h => by simp only [List.set_cons_succ,List.take_succ_cons,List.cons_append]; rw [take_set_succ v l i (by simpa using h)]
theorem storeCells_run : ∀ (vs : List Value) (i : Nat) {w : World} {b off ty : Nat} {cs : Array Value},w.heap[b]? = some (.cells cs ty (0,0)) → off + i + vs.length ≤ cs.size → (∀ v ∈ vs,v.oneCell' = true) →
    (storeCells ⟨b,off,none⟩ vs i).run P w = .ok () { w with heap := w.heap.setIfInBounds b (.cells (setL cs (off + i) vs) ty (0,0)) }
  | [],i,w,b,off,ty,cs,hb,hl,h1 => by
    have hlt : b < w.heap.size := (Array.getElem?_eq_some_iff.1 hb).1
    have he : setL cs (off + i) [] = cs := by simp [setL,spl]
    rw [he]
    simp only [storeCells,Sem.run_pure]
    congr 1
    have : w.heap.setIfInBounds b (.cells cs ty (0,0)) = w.heap := by
      apply Array.ext_getElem?
      intro j
      by_cases hj : j = b
      · subst hj; rw [hb]; simp [hlt]
      · rw [Array.getElem?_setIfInBounds_ne (Ne.symm hj)]
    rw [this]
  | v :: vs,i,w,b,off,ty,cs,hb,hl,h1 => by
    have hlt : b < w.heap.size := (Array.getElem?_eq_some_iff.1 hb).1
    simp only [List.length_cons] at hl
    have hv := h1 v List.mem_cons_self
    have hoff : off + i < cs.size := by omega
    have hcell : w.cell? ⟨b,off + i,none⟩ = some cs[off + i] := by simp [World.cell?,hb,hoff]
    have hfz : w.frozen? ⟨b,off + i,none⟩ = false := by simp [World.frozen?,hb]
    have hset : w.setCell ⟨b,off + i,none⟩ v = { w with heap := w.heap.setIfInBounds b (.cells (cs.setIfInBounds (off + i) v) ty (0,0)) } := by
      unfold World.setCell
      congr 1
      apply Array.ext_getElem?
      intro j
      rw [Array.getElem?_modify]
      by_cases hj : b = j
      · subst hj; rw [if_pos rfl,hb]; simp [hlt]
      · rw [if_neg hj,Array.getElem?_setIfInBounds_ne hj]
    simp only [storeCells,Sem.run_bind,add_plain]
    rw [run_store P w _ v _ hv,hcell]
    simp only [hfz,Bool.false_eq_true,if_false,Result.andThen_ok,hset]
    rw [storeCells_run vs (i + 1) (cs := cs.setIfInBounds (off + i) v) (ty := ty) (by simp [hlt]) (by simp; omega) (fun u hu => h1 u (List.mem_cons_of_mem _ hu))]
    congr 1
    have hcs : setL (cs.setIfInBounds (off + i) v) (off + (i + 1)) vs = setL cs (off + i) (v :: vs) := by
      unfold setL spl
      congr 1
      simp only [Array.toList_setIfInBounds,List.length_cons]
      have hlen : off + i < cs.toList.length := by simpa using hoff
      rw [show off + (i + 1) = off + i + 1 by omega,take_set_succ v _ _ hlen,List.drop_set_of_lt (by omega)]
      rw [show off + i + 1 + vs.length = off + i + (vs.length + 1) by omega]
      simp
    rw [hcs]
    simp only [Array.setIfInBounds_setIfInBounds]
theorem run_storeAt {t b off n : Nat} {ki : TypeInfo} {v : Value} {w : World} {cs : Array Value} {ty : Nat} (hki : P.info? t = some ki) (hn : ki.size = n) (hvn : v.cells.size = n) (h1 : ∀ u ∈ v.cells.toList,u.oneCell' = true)
    (hb : w.heap[b]? = some (.cells cs ty (0,0))) (hl : off + n ≤ cs.size) :
    (Instr.storeAt t (.pointer (some ⟨b,off,none⟩)) v).run P w = .ok () { w with heap := w.heap.setIfInBounds b (.cells (setL cs off v.cells.toList) ty (0,0)) } := by
  unfold Instr.storeAt storeVar
  simp only [Instr.sureAddr,Sem.run_bind,Sem.run_pure,Result.andThen_ok,sizeOf_run hki]
  rw [if_neg (by rw [hn,hvn]; simp)]
  exact storeCells_run v.cells.toList 0 hb (by simpa [hvn] using hl) h1
theorem cells_one {v : Value} (hv : v.oneCell' = true) : v.cells = #[v] := by cases v <;> first | rfl | cases hv
structure Fit (tt : TT) (t : Nat) (v : Value) (vs : List Value) : Prop where
  n : tt.sc t = true ∧ vs.length = 1 ∨ tt.ag t = some vs.length
  c : v.cells = vs.toArray
  o : vs.all (·.oneCell') = true
theorem fit1 {t : Nat} {v : Value} (hs : tt.sc t = true) (hv : v.oneCell' = true) : Fit tt t v [v] := ⟨.inl ⟨hs,rfl⟩,cells_one hv,by simpa using hv⟩
theorem fitn {t : Nat} {vs : List Value} (hs : tt.ag t = some vs.length) (hv : vs.all (·.oneCell') = true) : Fit tt t (.agg vs.toArray) vs := ⟨.inr hs,rfl,hv⟩
theorem Fit.info (htt : tt.Ok P) {t : Nat} {v : Value} {vs : List Value} (h : Fit tt t v vs) : ∃ ki,P.info? t = some ki ∧ ki.size = vs.length := by
  rcases h.n with ⟨hs,hl⟩ | hs
  · obtain ⟨_,ki,hki,hkn⟩ := htt.sc t hs; exact ⟨ki,hki,by rw [hkn,hl]⟩
  · obtain ⟨_,ki,hki,hkn⟩ := htt.ag t _ hs; exact ⟨ki,hki,hkn⟩
theorem r_s (kk : Nat) (htt : tt.Ok P) {t b off ty : Nat} {l vs : List Value} {v : Value} (l' : List Value) (hf : Fit tt t v vs) (hk : L[kk]? = some (.obj b l ty)) (hl' : spl l off vs = l') (hl : Nat.ble (off + vs.length) l.length = true)
    (h : wpT P N (k undef) ⟨ρ,L.set kk (.obj b l' ty)⟩ Q) : wpT P N (.sem (.store t (.pointer (some ⟨b,off,none⟩)) v) k) ⟨ρ,L⟩ Q := by
  intro w0 w hw
  obtain ⟨ki,hki,hkn⟩ := hf.info htt
  have hb := hw.obj hk
  have hlt := (Array.getElem?_eq_some_iff.1 hb).1
  refine ⟨undef,_,_,?_,hw.set (e' := .obj b l' ty) (o' := .cells l'.toArray ty (0,0)) hk rfl rfl ⟨by simp [hlt],((hw.ent _ (List.mem_of_getElem? hk)).2)⟩,h⟩
  simp only [semOf,Sem.run_bind]
  rw [run_storeAt hki hkn (by rw [hf.c]; simp) (fun u hu => by rw [hf.c] at hu; exact List.all_eq_true.1 hf.o u (by simpa using hu)) hb (by simpa using Nat.le_of_ble_eq_true hl)]
  simp only [Result.andThen_ok,Sem.run_pure,hf.c,setL]
  rw [hl']
theorem r_sr (kk : Nat) (htt : tt.Ok P) {t m n c e sz : Nat} {A : Option Addr} {a : Addr} {xs vs : List Value} {v : Value} (xs' : List Value) (hf : Fit tt t v vs) (hk : L[kk]? = some (.row A n c e sz xs)) (ha : a = (adr A).add m) (hx' : spl xs m vs = xs') (hl : m + vs.length ≤ xs.length) (hv : vs ≠ [])
    (h : wpT P N (k undef) ⟨ρ,L.set kk (.row A n c e sz xs')⟩ Q) : wpT P N (.sem (.store t (.pointer (some a)) v) k) ⟨ρ,L⟩ Q := by
  intro w0 w hw
  obtain ⟨ki,hki,hkn⟩ := hf.info htt
  have hr := hw.row hk
  obtain ⟨hx,⟨_,hn⟩ | ⟨g,cap,cur,hv',hg,hh,h1,h2,h3,h4⟩⟩ := hr
  · subst hn
    have : xs.length = 0 := by simpa using hx
    have : vs.length = 0 := by omega
    exact absurd (List.length_eq_zero_iff.1 this) hv
  · injection hv' with hA _ hc
    subst hA
    subst hc
    have hlt := (Array.getElem?_eq_some_iff.1 hh).1
    have hle : n * sz ≤ cur.toList.length := by have := Nat.mul_le_mul_right sz h1; simp; omega
    have ha' : a = ⟨g,m,none⟩ := by rw [ha]; simp only [adr,Option.getD_some,add_plain,Nat.zero_add]
    refine ⟨undef,_,_,?_,hw.set (e' := .row (some ⟨g,0,none⟩) n c e sz xs') (o' := .cells (setL cur m vs) e (0,0)) hk rfl rfl ⟨?_,.inr ⟨g,c,setL cur m vs,rfl,hg,by simp [hlt],h1,h2,?_,?_⟩⟩,h⟩
    · simp only [semOf,Sem.run_bind]
      rw [ha',run_storeAt hki hkn (by rw [hf.c]; simp) (fun u hu => by rw [hf.c] at hu; exact List.all_eq_true.1 hf.o u (by simpa using hu)) hh (by rw [hx] at hl; simp at hle; omega)]
      simp only [Result.andThen_ok,Sem.run_pure,hf.c]
    · rw [← hx']; unfold spl; simp; omega
    · simp only [setL,spl,List.size_toArray,List.length_append,List.length_take,List.length_drop,Array.length_toList]
      rw [hx] at hl
      simp at hle
      omega
    · rw [← hx',← h4]
      have hl2 : m + vs.length ≤ n * sz := by rw [← hx]; exact hl
      simp only [setL,spl]
      rw [List.take_append,List.take_append,List.take_of_length_le (l := cur.toList.take m) (by simp; omega),List.take_of_length_le (l := vs) (by simp; omega),List.take_take,List.drop_take]
      rw [Nat.min_eq_left (by omega)]
      congr 1
      simp only [List.length_append,List.length_take]
      congr 1
      omega

def fillL (pl : Nat → Option (Nat × Nat)) (cells : List Value) : List (Nat × Value) → Option (List Value)
  | [] => some cells
  | (i,v) :: rest => match pl i with
    | some (off,size) => bif Nat.beq v.cells.size size && Nat.ble (off + size) cells.length then fillL pl (cells.take off ++ v.cells.toList ++ cells.drop (off + size)) rest else none
    | none => none
theorem fold_set (off : Nat) : ∀ (vs : List Value) (i : Nat) (cells : Array Value),off + i + vs.length ≤ cells.size → (vs.zipIdx i).foldl (fun cs (x : Value × Nat) => cs.setIfInBounds (off + x.2) x.1) cells = setL cells (off + i) vs
  | [],i,cells,_ => by simp [setL,spl]
  | v :: vs,i,cells,h => by
    simp only [List.length_cons] at h
    simp only [List.zipIdx_cons,List.foldl_cons]
    rw [fold_set off vs (i + 1) _ (by simp; omega)]
    unfold setL spl
    congr 1
    simp only [Array.toList_setIfInBounds,List.length_cons]
    have hlen : off + i < cells.toList.length := by simp; omega
    rw [show off + (i + 1) = off + i + 1 by omega,take_set_succ v _ _ hlen,List.drop_set_of_lt (by omega)]
    rw [show off + i + 1 + vs.length = off + i + (vs.length + 1) by omega]
    simp
theorem fill_of : ∀ (parts : List (Nat × Value)) {pl : Nat → Option (Nat × Nat)} {cells : List Value} {cs : List Value},fillL pl cells parts = some cs → Instr.fill pl cells.toArray parts = some cs.toArray
  | [],pl,cells,cs,h => by
    simp only [fillL,Option.some.injEq] at h
    subst h
    rfl
  | (i,v) :: rest,pl,cells,cs,h => by
    unfold fillL at h
    unfold Instr.fill
    split at h
    · rename_i off size hpl
      rw [hpl]
      cases hc : (Nat.beq v.cells.size size && Nat.ble (off + size) cells.length) with
      | false => rw [hc] at h; cases h
      | true =>
        rw [hc] at h
        simp only [cond_true] at h
        rw [Bool.and_eq_true,Nat.beq_eq] at hc
        have h2 := Nat.le_of_ble_eq_true hc.2
        have h1 := hc.1
        simp only
        rw [if_neg (by rw [h1]; simp; omega)]
        have hf : v.cells.zipIdx.foldl (fun cs x => cs.setIfInBounds (off + x.2) x.1) cells.toArray = (cells.take off ++ v.cells.toList ++ cells.drop (off + size)).toArray := by
          have := fold_set off v.cells.toList 0 cells.toArray (by simp [h1]; omega)
          rw [← Array.foldl_toList,Array.toList_zipIdx]
          rw [this]
          simp [setL,spl,h1]
        exact (congrArg (fun z => Instr.fill pl z rest) hf).trans (fill_of rest h)
    · cases h
theorem build_run (htt : tt.Ok P) {t n b : Nat} {z : Value} {l : List (Nat × Nat)} {ps : List (Nat × Value)} {cs : List Value} (hz : tt.inf t = some (z,n,b)) (hp : tt.pl t = some l) (hf : fillL (l[·]?) z.cells.toList ps = some cs) (w : World) :
    (Instr.build t ps.toArray).run P w = .ok (.agg cs.toArray) w := by
  obtain ⟨ki,hki,hkz,_⟩ := htt.inf t z n b hz
  obtain ⟨fs,hfs,hm⟩ := htt.pl t l hp
  have hzv : (zeroValue t).run P w = .ok z w := by simp [zeroValue,typeInfo,program,Sem.run_bind,Sem.run,Result.andThen,hki,hkz]
  have hpl : ∀ (fl : List Field) (l : List (Nat × Nat)),fl.map (fun f => (f.offset,(P.info? f.type).map (·.size))) = l.map (fun x => (x.1,some x.2)) →
      (fl.mapM fun f => (do pure (f.offset,← sizeOf f.type) : Sem (Nat × Nat))).run P w = .ok l w := by
    intro fl
    induction fl with
    | nil => intro l hl; cases l with
      | nil => rfl
      | cons x l => simp at hl
    | cons f fl ih =>
      intro l hl
      cases l with
      | nil => simp at hl
      | cons x l =>
        simp only [List.map_cons,List.cons.injEq,Prod.mk.injEq] at hl
        obtain ⟨⟨h1,h2⟩,h3⟩ := hl
        obtain ⟨kf,hkf,hks⟩ := Option.map_eq_some_iff.1 h2
        simp only [List.mapM_cons,Sem.run_bind,sizeOf_run hkf,Result.andThen_ok,Sem.run_pure,ih l h3,h1,hks]
  have hpa : (fs.mapM fun f => (do pure (f.offset,← sizeOf f.type) : Sem (Nat × Nat))).run P w = .ok l.toArray w := by
    rw [← Array.toArray_toList (xs := fs),List.mapM_toArray]
    rw [show (List.toArray <$> (fs.toList.mapM fun f => (do pure (f.offset,← sizeOf f.type) : Sem (Nat × Nat)))) = (do let x ← fs.toList.mapM fun f => (do pure (f.offset,← sizeOf f.type) : Sem (Nat × Nat)); pure x.toArray) from rfl]
    simp only [Sem.run_bind,hpl _ _ hm,Result.andThen_ok,Sem.run_pure]
  unfold Instr.build
  simp only [Sem.run_bind,hzv,Result.andThen_ok,underlying_run hfs,hpa]
  have := fill_of ps hf
  simp only [List.getElem?_toArray]
  rw [Array.toArray_toList] at this
  rw [this]
  rfl
theorem r_bd (htt : tt.Ok P) {t n b : Nat} {z : Value} {l : List (Nat × Nat)} {ps : List (Nat × Value)} (cs : List Value) (hz : tt.inf t = some (z,n,b)) (hp : tt.pl t = some l) (hf : fillL (l[·]?) z.cells.toList ps = some cs)
    (h : wpT P N (k (.agg cs.toArray)) S Q) : wpT P N (.sem (.build t ps) k) S Q := r_sem (fun _ w _ => build_run htt hz hp hf w) h
theorem opT_newRow {s : Sem Value} {val : Nat → Value} {n e sz : Nat} {xs : List Value} {K : Value → St → Prop} (hl : xs.length = n * sz) (hn : n ≤ maxLen) (hr : ∀ w : World,s.run P w = .ok (val w.heap.size) (w.alloc (.cells xs.toArray e)))
    (h : ∀ b,K (val b) ⟨S.ro,.row (some ⟨b,0,none⟩) n n e sz xs :: S.L⟩) : OpT P s S K :=
  fun w0 w hw => ⟨_,_,_,hr w,hw.new _ (.row (some ⟨w.heap.size,0,none⟩) n n e sz xs) rfl ⟨hl,.inr ⟨w.heap.size,n,xs.toArray,rfl,hw.below.size,heap_alloc_new w _,Nat.le_refl _,hn,by simp [hl],by simp [← hl]⟩⟩,h _⟩
theorem r_bs (htt : tt.Ok P) {t e sz n b' len : Nat} {z : Value} {ps : List (Nat × Value)} (cs : List Value) (he : tt.el t = some (e,sz)) (hz : tt.inf e = some (z,n,b')) (hl : Nat.ble (len * sz) 1000 = true)
    (hf : fillL (fun i => some (i * sz,sz)) ((List.range (len * sz)).map fun i => z.cells[i % z.cells.size]!) ps = some cs) (hc : cs.length = len * sz) (hn : Nat.ble len 1000 = true)
    (h : ∀ b,wpT P N (k (.slice (some ⟨b,0,none⟩) len len)) ⟨ρ,.row (some ⟨b,0,none⟩) len len e sz cs :: L⟩ Q) : wpT P N (.sem (.buildSlice t len ps) k) ⟨ρ,L⟩ Q := by
  obtain ⟨ki,hki,hkz,_⟩ := htt.inf e z n b' hz
  obtain ⟨hu,ks,hks,hkn⟩ := htt.el t e sz he
  have hle := Nat.le_of_ble_eq_true hl
  refine opT_newRow (val := fun b => .slice (some ⟨b,0,none⟩) len len) hc (by have := Nat.le_of_ble_eq_true hn; simp only [maxLen]; omega) (fun w => ?_) h
  have hzv : (zeroValue e).run P w = .ok z w := by simp [zeroValue,typeInfo,program,Sem.run_bind,Sem.run,Result.andThen,hki,hkz]
  simp only [semOf]
  unfold Instr.buildSlice
  simp only [Sem.run_bind,underlying_run hu,sizeOf_run hks,Result.andThen_ok,hkn]
  rw [if_neg (by omega)]
  have hfl := fill_of ps hf
  by_cases h0 : len * sz = 0
  · rw [if_pos h0]
    have hcells : (Array.range (len * sz)).map (fun i => (#[] : Array Value)[i % (#[] : Array Value).size]!) = ((List.range (len * sz)).map fun i => z.cells[i % z.cells.size]!).toArray := by rw [h0]; simp
    simp only [Sem.run_bind,Sem.run_pure,Result.andThen_ok,hcells,hfl]
    rfl
  · rw [if_neg h0]
    have hcells : (Array.range (len * sz)).map (fun i => z.cells[i % z.cells.size]!) = ((List.range (len * sz)).map fun i => z.cells[i % z.cells.size]!).toArray := by
      apply Array.toList_inj.1
      simp
    simp only [Sem.run_bind,hzv,Sem.run_pure,Result.andThen_ok,hcells,hfl]
    rfl
theorem fl_rep {α : Type} {en : α → List Value} (z : α) (n : Nat) : fl en (List.replicate n z) = (List.replicate n (en z)).flatten := by simp [fl,List.flatMap_replicate]
theorem made_fl {α : Type} {en : α → List Value} {z : α} {sz : Nat} (hz : (en z).length = sz) (hs : 0 < sz) (n : Nat) : madeCells (en z).toArray (n * sz) = (fl en (List.replicate n z)).toArray := by
  apply Array.toList_inj.1
  unfold madeCells
  rw [Array.toList_map,Array.toList_range,fl_rep]
  simp only [List.size_toArray,hz]
  apply List.ext_getElem?
  intro i
  rw [List.getElem?_map]
  by_cases hi : i < n * sz
  · have hm : i % sz < sz := Nat.mod_lt _ hs
    have hd : i / sz < n := Nat.div_lt_of_lt_mul (by rw [Nat.mul_comm]; exact hi)
    have h1 : (fl en (List.replicate n z))[(i / sz) * sz + i % sz]? = some ((en z)[i % sz]'(by omega)) := by
      have hlen : ∀ (m : Nat),(fl en (List.replicate m z)).length = m * sz := fun m => by rw [fl_rep]; simp [hz]
      have : ∀ (m j o : Nat),j < m → (ho : o < (en z).length) → (fl en (List.replicate m z))[j * sz + o]? = some ((en z)[o]) := by
        intro m
        induction m with
        | zero => intro j o hj; omega
        | succ m ih =>
          intro j o hj ho
          simp only [List.replicate_succ,fl,List.flatMap_cons] at ih ⊢
          cases j with
          | zero => rw [Nat.zero_mul,Nat.zero_add,List.getElem?_append_left ho,List.getElem?_eq_getElem ho]
          | succ j =>
            rw [List.getElem?_append_right (by rw [hz,Nat.succ_mul]; omega)]
            have := ih j o (by omega) ho
            rw [← this]
            congr 1
            rw [hz,Nat.succ_mul]
            omega
      exact this n _ _ hd (by omega)
    rw [Nat.div_add_mod'] at h1
    rw [fl_rep] at h1
    rw [h1]
    simp only [List.getElem?_range hi,Option.map_some]
    rw [getElem!_pos _ _ (by simp [hz]; exact hm)]
    simp
  · rw [List.getElem?_eq_none (by simp; omega),List.getElem?_eq_none (by simp [hz]; omega)]
    rfl
theorem r_mk (htt : tt.Ok P) {α : Type} {en : α → List Value} (z : α) {t e sz b' : Nat} {zv : Value} {kl kc : IntKind} {l : Int} (he : tt.el t = some (e,sz)) (hz : tt.inf e = some (zv,sz,b')) (hzc : zv.cells = (en z).toArray) (hzl : (en z).length = sz) (hsz : Nat.blt 0 sz = true) (hb : Nat.ble b' 128 = true) (hs2 : Nat.ble sz 256 = true)
    (h0 : 0 ≤ l ∧ l ≤ 65536) (h : ∀ b,wpT P N (k (.slice (some ⟨b,0,none⟩) l.toNat l.toNat)) ⟨ρ,.row (some ⟨b,0,none⟩) l.toNat l.toNat e sz (fl en (List.replicate l.toNat z)) :: L⟩ Q) :
    wpT P N (.sem (.makeSlice t (.int kl l) (.int kc l)) k) ⟨ρ,L⟩ Q := by
  obtain ⟨ki,hki,hkz,hks,hkb⟩ := htt.inf e zv sz b' hz
  obtain ⟨hu,ks,hks',hkn⟩ := htt.el t e sz he
  rw [hki] at hks'
  injection hks' with hks'
  subst hks'
  have hsz' : 0 < sz := by simpa [Nat.blt_eq] using hsz
  have hb' := Nat.le_of_ble_eq_true hb
  refine opT_newRow (val := fun b => .slice (some ⟨b,0,none⟩) l.toNat l.toNat) (by rw [fl_rep]; simp [hzl]) (by simp only [maxLen]; omega) (fun w => ?_) h
  have hr := run_makeSlice (w := w) t e ki zv hu hki hkz kl kc l l h0.1 (Int.le_refl _) (by
    rw [hks]
    have : l.toNat * sz ≤ 65536 * 256 := Nat.mul_le_mul (by omega) (Nat.le_of_ble_eq_true hs2)
    omega) (by
    rw [hkb]
    have : (b' : Int) * l ≤ 128 * 65536 := Int.mul_le_mul (by omega) (by omega) h0.1 (by omega)
    omega) (by omega)
  rw [hzc,hkn,made_fl hzl hsz'] at hr
  exact hr

theorem r_ap (kk : Nat) (htt : tt.Ok P) {t ty e sz b' n c n' m mc : Nat} {z : Value} {A B : Option Addr} {xs : List Value} (news : List Value) (hnews : Rd ⟨ρ,L⟩ B news) (hk : L[kk]? = some (.row A n c e sz xs)) (he : tt.el t = some (e,sz)) (hz : tt.inf e = some (z,sz,b')) (hzs : Nat.beq z.cells.size sz = true) (hsz : Nat.blt 0 sz = true) (hb : Nat.ble b' 128 = true)
    (hl : news.length = m * sz) (h1 : ∀ u ∈ news,u.oneCell' = true) (hm : n + m ≤ 1099511627776) (hn' : n + m = n')
    (h : ∀ A' c',wpT P N (k (.slice A' n' c')) ⟨ρ,L.set kk (.row A' n' c' e sz (xs ++ news))⟩ Q) : wpT P N (.sem (.append #[t,t] ty [.slice A n c,.slice B m mc]) k) ⟨ρ,L⟩ Q := by
  intro w0 w hw
  subst hn'
  obtain ⟨hu,_⟩ := htt.el t e sz he
  obtain ⟨ki,hki,hkz,hks,hkb⟩ := htt.inf e z sz b' hz
  have hsz' : 0 < sz := by simpa [Nat.blt_eq] using hsz
  have hzs' : z.cells.size = sz := Nat.eq_of_beq_eq_true hzs
  have hb' := Nat.le_of_ble_eq_true hb
  have hmul : (n + m) * b' ≤ 1099511627776 * 128 := Nat.mul_le_mul hm hb'
  have hown := hw.row hk
  obtain ⟨hn0,hcell⟩ := hnews w0 w hw
  cases B with
  | none =>
    have h0 : news = [] := hn0 rfl
    have hm0 : m = 0 := by
      rw [h0] at hl
      rcases Nat.mul_eq_zero.1 hl.symm with h | h
      · exact h
      · omega
    subst hm0
    subst h0
    have hS : (⟨ρ,L.set kk (.row A (n + 0) c e sz (xs ++ []))⟩ : St) = ⟨ρ,L⟩ := by
      rw [List.append_nil,Nat.add_zero]
      congr 1
      have ⟨hlt,hx⟩ := List.getElem?_eq_some_iff.1 hk
      rw [← hx]; exact List.set_getElem_self hlt
    refine ⟨.slice A n c,w,⟨ρ,L⟩,?_,hw,?_⟩
    · have hcap : n ≤ c := by
        obtain ⟨_,⟨hA,hn0'⟩ | ⟨g,cap,cur,hA,_,_,hc,_⟩⟩ := hown
        · injection hA with _ _ hc'; omega
        · injection hA with _ _ hc'; omega
      have hui := underlying_run hu
      cases A with
      | none => simp [semOf,Builtin.append_,Sem.run_bind,underlying_run hu,sizeOf_run hki,Result.andThen,Builtin.lenOf,Builtin.firstCells,hcap]
      | some a => simp [semOf,Builtin.append_,Sem.run_bind,underlying_run hu,sizeOf_run hki,Result.andThen,Builtin.lenOf,Builtin.firstCells,hcap,storeCells]
    · have := h A c
      rw [hS] at this
      exact this
  | some a =>
    have hcell' : ∀ j u,news[j]? = some u → w.cell? (a.add j) = some u := fun j u hj => by have := hcell j u hj; simpa [adr] using this
    obtain ⟨v',w',hr,ho,hg,_,hat⟩ := run_append_own_at (P := P) w w0.heap.size t ty e ki z sz b' hu hki hkz hks hkb hzs' hsz' (.slice A n c) n xs hown a m mc news hl hcell' h1 (by simp only [maxLen]; omega) (by omega) hw.below.size
    have hv' : ∃ A' c',v' = .slice A' (n + m) c' := by
      obtain ⟨_,⟨hv,hn⟩ | ⟨g,cap,cur,hv,_⟩⟩ := ho
      · exact ⟨none,0,by rw [hv,hn]⟩
      · exact ⟨_,cap,hv⟩
    obtain ⟨A',c',rfl⟩ := hv'
    have hbk : ∀ (A : Option Addr) (n c : Nat) (xs : List Value) (b : Nat),b ∈ (Ent.row A n c e sz xs).blocks ↔ (Value.slice A n c).ownBlock = some b := by
      intro A n c xs b
      cases A with
      | none => simp [Ent.blocks,Value.ownBlock]
      | some a => simp [Ent.blocks,Value.ownBlock,eq_comm]
    have hlow : ∀ b,(Value.slice A n c).ownBlock = some b → w0.heap.size ≤ b := fun b hb => by
      have hm : b ∈ (Ent.row A n c e sz xs).blocks := (hbk A n c xs b).2 hb
      exact ((hw.ent _ (List.mem_of_getElem? hk)).lt hm).2
    refine ⟨_,w',_,hr,hw.upd (e' := .row A' (n + m) c' e sz (xs ++ news)) hk (fun b hb => ?_) ?_ (hw.below.grown hg hw.below.size hlow) (fun i hi hni => ?_) ho,h A' c'⟩
    · have hb2 := (hbk A' (n + m) c' (xs ++ news) b).1 hb
      rcases hat with hat | hat
      · exact .inl ((hbk A n c xs b).2 (by rw [← hat]; exact hb2))
      · rw [hat] at hb2; injection hb2 with hb2; exact .inr (by omega)
    · cases A' <;> simp [Ent.blocks]
    · exact hg.block i hi (fun he => hni ((hbk A n c xs i).2 he.symm))

theorem sl_run (htt : tt.Ok P) {t e sz n c : Nat} {A : Option Addr} {lo hi : Option Value} {i j : Int} (he : tt.el t = some (e,sz)) (hlo : lo = none ∧ i = 0 ∨ ∃ kd,lo = some (.int kd i)) (hhi : hi = none ∧ j = n ∨ ∃ kd,hi = some (.int kd j)) (hij : 0 ≤ i ∧ i ≤ j ∧ j ≤ n) (hc : n ≤ c) (w : World) :
    (Instr.sliceAt t (.slice A n c) lo hi none).run P w = .ok (.slice (if c = i.toNat then A else A.map (·.add (i.toNat * sz))) (j.toNat - i.toNat) (c - i.toNat)) w := by
  obtain ⟨hu,ki,hki,hkn⟩ := htt.el t e sz he
  have hb : ∀ (kd : IntKind) (x : Int) (y : Nat) (code : BoundsCode),0 ≤ x → x ≤ y → (Instr.sliceBound (.int kd x) y code).run P w = .ok x.toNat w := fun kd x y code h0 h1 => by
    unfold Instr.sliceBound asIntOf
    simp [Sem.run_bind,Result.andThen,h0,h1]
  unfold Instr.sliceAt
  simp only [Sem.run_bind,underlying_run hu,Result.andThen_ok]
  unfold Instr.slice Instr.sliceBounds
  rcases hlo with ⟨rfl,rfl⟩ | ⟨k1,rfl⟩ <;> rcases hhi with ⟨rfl,rfl⟩ | ⟨k2,rfl⟩
  · simp [Sem.run_bind,underlying_run hu,Result.andThen,sizeOf_run hki,hkn]
  · simp [Sem.run_bind,underlying_run hu,Result.andThen,sizeOf_run hki,hkn,hb k2 j c _ (by omega) (by omega)]
  · simp [Sem.run_bind,underlying_run hu,Result.andThen,sizeOf_run hki,hkn,hb k1 i n _ (by omega) (by omega)]
  · have h2 : (Instr.sliceBound (.int k1 i) j.toNat .sliceB).run P w = .ok i.toNat w := hb k1 i j.toNat _ (by omega) (by omega)
    simp [Sem.run_bind,underlying_run hu,Result.andThen,sizeOf_run hki,hkn,hb k2 j c _ (by omega) (by omega),h2]
theorem r_sl (htt : tt.Ok P) {t e sz n c : Nat} {A : Option Addr} {lo hi : Option Value} {i j : Int} (he : tt.el t = some (e,sz)) (hlo : lo = none ∧ i = 0 ∨ ∃ kd,lo = some (.int kd i)) (hhi : hi = none ∧ j = n ∨ ∃ kd,hi = some (.int kd j)) (hij : 0 ≤ i ∧ i ≤ j ∧ j ≤ n) (hc : ∀ w0 w,SH w0 S w → n ≤ c)
    (h : wpT P N (k (.slice (if c = i.toNat then A else A.map (·.add (i.toNat * sz))) (j.toNat - i.toNat) (c - i.toNat))) S Q) : wpT P N (.sem (.slice t (.slice A n c) lo hi none) k) S Q := r_sem (fun w0 w hw => sl_run htt he hlo hhi hij (hc w0 w hw) w) h

theorem r_op {s : Sem Next} {v : Value} (hr : ∀ w : World,s.run P w = .ok (.value v) w) (h : wpT P N (k v) S Q) : wpT P N (.sem (.op (semW s)) k) S Q := r_sem (fun _ w _ => semW_of (hr w)) h
section
variable {o : Oper} {t t' : TypeId} {x y : Operand} {fr : Fr}
theorem exec_bin {op : BinOp} (ho : o.op = .binOp op t x y t') {X Y v : Value} (hx : evF fr x = X) (hy : evF fr y = Y) (hg : ∀ w : World,(eqGuard op t x y X Y).run P w = .ok () w) (hb : ∀ w : World,(binOp op t X Y).run P w = .ok v w) (w : World) : (execOp (evF fr) o).run P w = .ok (.value v) w := by
  unfold execOp
  simp only [ho,hx,hy,Sem.run_bind,hg w,Result.andThen_ok,hb w,Sem.run_pure]
theorem ex_eqb (htt : tt.Ok P) {a b : Bool} (ht : tt.bo t = true) (ho : o.op = .binOp .eql t x y t') (hx : evF fr x = .bool a) (hy : evF fr y = .bool b) (w : World) : (execOp (evF fr) o).run P w = .ok (.value (.bool (a == b))) w :=
  exec_bin ho hx hy (fun w => by unfold eqGuard; rfl) (fun w => run_eql_bool w t a b (htt.bo t ht)) w
theorem ex_neb (htt : tt.Ok P) {a b : Bool} (ht : tt.bo t = true) (ho : o.op = .binOp .neq t x y t') (hx : evF fr x = .bool a) (hy : evF fr y = .bool b) (w : World) : (execOp (evF fr) o).run P w = .ok (.value (.bool (!(a == b)))) w :=
  exec_bin ho hx hy (fun w => by unfold eqGuard; rfl) (fun w => run_neq_bool w t a b (htt.bo t ht)) w
theorem ex_eqn (htt : tt.Ok P) {e sz n c : Nat} {A : Option Addr} (ht : tt.el t = some (e,sz)) (ho : o.op = .binOp .eql t x y t') (hx : evF fr x = .slice A n c) (hy : evF fr y = .slice none 0 0) (w : World) : (execOp (evF fr) o).run P w = .ok (.value (.bool A.isNone)) w :=
  exec_bin ho hx hy (fun w => by unfold eqGuard; rfl) (fun w => by
    have := run_equal_slice_nil w t e A n c (htt.el t e sz ht).1
    simp only [binOp,Sem.run_bind,this,Result.andThen_ok,Sem.run_pure]) w
theorem ex_eqS {xs ys : Array Value} {b : Bool} (hq : ∀ w : World,(Op.equalIn 10000 t (.agg xs) (.agg ys)).run P w = .ok b w) (hg : P.eqGuardType P.depth t = false) (ho : o.op = .binOp .eql t x y t') (hx : evF fr x = .agg xs) (hy : evF fr y = .agg ys) (w : World) : (execOp (evF fr) o).run P w = .ok (.value (.bool b)) w :=
  exec_bin ho hx hy (fun w => run_eqGuard_agg w .eql t x y xs ys hg) (fun w => by rw [run_eql_struct,hq w]; rfl) w
theorem ex_neS {xs ys : Array Value} {b : Bool} (hq : ∀ w : World,(Op.equalIn 10000 t (.agg xs) (.agg ys)).run P w = .ok b w) (hg : P.eqGuardType P.depth t = false) (ho : o.op = .binOp .neq t x y t') (hx : evF fr x = .agg xs) (hy : evF fr y = .agg ys) (w : World) : (execOp (evF fr) o).run P w = .ok (.value (.bool (!b))) w :=
  exec_bin ho hx hy (fun w => run_eqGuard_agg w .neq t x y xs ys hg) (fun w => by rw [run_neq_struct,hq w]; rfl) w
end

def wpV (P : Program) (C : St) (R : Fr → Prop) : T → Prop
  | .done e fr => e = .normal ∧ R fr
  | .check c t => (∀ w0 w,SH w0 C w → c) ∧ wpV P C R t
  | .ite b x y => (b = true → wpV P C R x) ∧ (b = false → wpV P C R y)
  | .num e k => wpV P C R (k e)
  | .sem g k => g.val = true ∧ ∃ v,(∀ w0 w,SH w0 C w → (semOf g).run P w = .ok v w) ∧ wpV P C R (k v)
  | _ => False
section
variable {C : St} {R : Fr → Prop}
theorem denOp_val (htt : tt.Ok P) {o : Oper} {fr : Fr} {k : Value → T} (h : wpV P C R (denOp tt o fr k)) {w0 : World} : ∃ v,(∀ w,SH w0 C w → (execOp (evF fr) o).run P w = .ok (.value v) w) ∧ wpV P C R (k v) := by
  have hs := denOp_shape htt o fr k
  generalize denOp tt o fr k = t at h hs
  cases hs with
  | val v hr => exact ⟨v,fun w _ => hr w,h⟩
  | chk c v hr => exact ⟨v,fun w hw => hr (h.1 w0 w hw) w,h.2⟩
  | num e f hr => exact ⟨f e,fun w _ => hr w,h⟩
  | nchk c e f hr => exact ⟨f e,fun w hw => hr (h.1 w0 w hw) w,h.2⟩
  | ite p x y hr =>
    cases p with
    | true => exact ⟨x,fun w _ => hr w,h.1 rfl⟩
    | false => exact ⟨y,fun w _ => hr w,h.2 rfl⟩
  | sem g hr hv =>
    obtain ⟨hg,v,h1,hk⟩ := h
    exact ⟨v,fun w hw => hv hg w v w (h1 w0 w hw),hk⟩
  | call g args hr => exact h.elim
  | fail => exact h.elim
theorem den1_quiet (htt : tt.Ok P) {ops : Array Oper} {o : Oper} {fr : Fr} {a : Act} (h : wpV P C R (denOps tt N ops [o] fr)) (hf : RF N fr a) {w0 : World} : ∃ v,YieldsIf P ops (SH w0 C) o v a ∧ ∃ fr',R fr' ∧ RF N fr' (a.put o.dst v) := by
  have run : ∀ {fr : Fr},RF N fr a → Region.wanted o (yielded ops a.tmps) = true → wpV P C R (denOp tt o fr fun v => denOps tt N ops [] (putF N fr o.dst v)) → ∃ v,YieldsIf P ops (SH w0 C) o v a ∧ ∃ fr',R fr' ∧ RF N fr' (a.put o.dst v) := by
    intro fr hf hw h
    obtain ⟨v,hv,hk⟩ := denOp_val htt h (w0 := w0)
    exact ⟨v,.inl ⟨hw,fun w hw' => by rw [hf.eval]; exact hv w hw'⟩,_,hk.2,hf.put o.dst v⟩
  unfold denOps at h
  split at h
  · rename_i hg
    exact run hf (by simp [Region.wanted,hg]) h
  · rename_i j want hg
    split at h
    · exact h.elim
    · rename_i d hd
      cases hdN : Nat.blt d N with
      | false => rw [hdN] at h; exact h.elim
      | true =>
        rw [hdN] at h
        simp only [cond_true] at h
        have hlt : d < N := by simpa [Nat.blt_eq] using hdN
        split at h
        · rename_i b hb
          have hw1 := wanted_guard hf hg hd hlt hb
          have hfr : upd fr d (.bool b) = fr := upd_same hb
          cases b <;> cases want <;> simp only [beq_self_eq_true,show (false == true) = false from rfl,show (true == false) = false from rfl] at hw1
          · have h2 := h.2 rfl
            rw [hfr] at h2
            exact run hf hw1 h2
          · have h2 := h.2 rfl
            rw [hfr] at h2
            exact ⟨undef,.inr ⟨hw1,rfl⟩,_,h2.2,hf.put o.dst undef⟩
          · have h2 := h.1 rfl
            rw [hfr] at h2
            exact ⟨undef,.inr ⟨hw1,rfl⟩,_,h2.2,hf.put o.dst undef⟩
          · have h2 := h.1 rfl
            rw [hfr] at h2
            exact run hf hw1 h2
        · rename_i hb
          exact ⟨undef,.inr ⟨wanted_none hf hg hd hlt hb,rfl⟩,_,h.2,hf.put o.dst undef⟩
theorem den1_sound (htt : tt.Ok P) {ops : Array Oper} {i : Nat} {o : Oper} (hi : ops[i]? = some o) {fr : Fr} {a : Act} {w0 w : World} {Qx : Exit → Act → World → Prop} (h : wpT P N (denOps tt N ops [o] fr) S Q) (hw : SH w0 S w) (hf : RF N fr a) :
    wpOp P ops Qx i (fun a' w' => ∃ fr' S',Q .normal fr' S' ∧ SH w0 S' w' ∧ RF N fr' a') a w := by
  have run : ∀ {fr : Fr},RF N fr a → wpT P N (denOp tt o fr fun v => denOps tt N ops [] (putF N fr o.dst v)) S Q → o.wp P a w (fun a' w' => ∃ fr' S',Q .normal fr' S' ∧ SH w0 S' w' ∧ RF N fr' a') Qx := by
    intro fr hf h
    exact denOp_sound htt h w0 w a _ _ hw hf fun v w' S' hw' ⟨S1,hl,hq⟩ => ⟨_,S1,hq,hl w0 w' hw',hf.put o.dst v⟩
  unfold wpOp
  simp only [hi]
  unfold denOps at h
  split at h
  · rename_i hg
    rw [if_pos (by simp [Region.wanted,hg])]
    exact .inl (run hf h)
  · rename_i j want hg
    split at h
    · exact h.elim
    · rename_i d hd
      cases hdN : Nat.blt d N with
      | false => rw [hdN] at h; exact h.elim
      | true =>
        rw [hdN] at h
        simp only [cond_true] at h
        have hlt : d < N := by simpa [Nat.blt_eq] using hdN
        have skip : wpT P N (denOps tt N ops [] (putF N fr o.dst undef)) S Q → ∃ fr' S',Q .normal fr' S' ∧ SH w0 S' w ∧ RF N fr' (a.put o.dst undef) := fun ⟨S1,hl,hq⟩ => ⟨_,S1,hq,hl w0 w hw,hf.put o.dst undef⟩
        split at h
        · rename_i b hb
          have hw1 := wanted_guard hf hg hd hlt hb
          rw [hw1]
          have hfr : upd fr d (.bool b) = fr := upd_same hb
          cases b <;> cases want <;> simp only [beq_self_eq_true,if_true,Bool.false_eq_true,if_false,show (false == true) = false from rfl,show (true == false) = false from rfl]
          · have h2 := h.2 rfl
            rw [hfr] at h2
            exact .inl (run hf h2)
          · have h2 := h.2 rfl
            rw [hfr] at h2
            exact skip h2
          · have h2 := h.1 rfl
            rw [hfr] at h2
            exact skip h2
          · have h2 := h.1 rfl
            rw [hfr] at h2
            exact .inl (run hf h2)
        · rename_i hb
          rw [wanted_none hf hg hd hlt hb]
          simp only [Bool.false_eq_true,if_false]
          exact skip h
inductive Od where
  | nil
  | pure (i : Nat) (r : Od)
  | va (i : Nat) (r : Od)
  | vb (i : Nat) (r : Od)
  | eff (i : Nat) (r : Od)
  | two (i j : Nat) (r r' : Od)
def edge (ops : Array Oper) (j i : Nat) : Bool := match ops[j]? with
  | some o => o.after.any fun e => Region.binds .any e && Nat.beq e.on i
  | none => false
def Od.ok (ops : Array Oper) (ks : List Nat) : Array Bool → Od → Bool
  | listed,.nil => (Region.ready .any ops listed).isEmpty
  | listed,.pure i r => (Region.ready .any ops listed).contains i && Region.free .any ops listed i && !ks.contains i && r.ok ops ks (listed.setIfInBounds i true)
  | listed,.va i r => (Region.ready .any ops listed).contains i && Region.free .any ops listed i && !ks.contains i && ks.all (fun j => edge ops j i) && r.ok ops ks (listed.setIfInBounds i true)
  | listed,.vb i r => (Region.ready .any ops listed).contains i && Region.free .any ops listed i && !ks.contains i && r.ok ops ks (listed.setIfInBounds i true)
  | listed,.eff i r => (Region.ready .any ops listed == [i]) && r.ok ops ks (listed.setIfInBounds i true)
  | listed,.two i j r r' => (Region.ready .any ops listed == [i,j]) && r.ok ops ks (listed.setIfInBounds i true) && r'.ok ops ks (listed.setIfInBounds j true)
def Od.len : Od → Nat
  | .nil => 0
  | .pure _ r => r.len + 1
  | .va _ r => r.len + 1
  | .vb _ r => r.len + 1
  | .eff _ r => r.len + 1
  | .two _ _ r r' => max r.len r'.len + 1
def none0 : St := ⟨fun _ => none,[]⟩
def kept (CA CB : St) (ks : List Nat) (kl : Bool) (i : Nat) (S : St) : Prop := Le S CB ∧ (bif kl || ks.contains i then True else Le S CA)
def wpMix (P : Program) (tt : TT) (N : Nat) (ops : Array Oper) (CA CB : St) (ks : List Nat) (Q : PostT) : Bool → Od → Fr → St → Prop
  | _,.nil,fr,S => ∃ S1,Le S S1 ∧ Q .normal fr S1
  | kl,.pure i r,fr,S => match ops[i]? with
    | some o => wpV P none0 (fun fr' => wpMix P tt N ops CA CB ks Q kl r fr' S) (denOps tt N ops [o] fr)
    | none => False
  | kl,.va i r,fr,S => match ops[i]? with
    | some o => wpV P CA (fun fr' => wpMix P tt N ops CA CB ks Q kl r fr' S) (denOps tt N ops [o] fr)
    | none => False
  | kl,.vb i r,fr,S => match ops[i]? with
    | some o => wpV P CB (fun fr' => wpMix P tt N ops CA CB ks Q kl r fr' S) (denOps tt N ops [o] fr)
    | none => False
  | kl,.eff i r,fr,S => match ops[i]? with
    | some o => wpT P N (denOps tt N ops [o] fr) S fun e fr' S' => e = .normal ∧ kept CA CB ks kl i S' ∧ wpMix P tt N ops CA CB ks Q (kl || ks.contains i) r fr' S'
    | none => False
  | kl,.two i j r r',fr,S => match ops[i]?,ops[j]? with
    | some o,some o' => (wpT P N (denOps tt N ops [o] fr) S fun e fr' S' => e = .normal ∧ kept CA CB ks kl i S' ∧ wpMix P tt N ops CA CB ks Q (kl || ks.contains i) r fr' S') ∧ wpT P N (denOps tt N ops [o'] fr) S fun e fr' S' => e = .normal ∧ kept CA CB ks kl j S' ∧ wpMix P tt N ops CA CB ks Q (kl || ks.contains j) r' fr' S'
    | _,_ => False
def Dk (w0 : World) (CA CB : St) (ks : List Nat) (listed : Array Bool) (w : World) : Prop := SH w0 CB w ∧ ((∀ j ∈ ks,listed.getD j false = false) → SH w0 CA w)
def wpAnyD (P : Program) (ops : Array Oper) (Q : Exit → Act → World → Prop) (D : Array Bool → World → Prop) : Nat → Array Bool → Act → World → Prop
  | 0,listed,a,w => Region.ready .any ops listed = [] ∧ Q .normal a w
  | fuel + 1,listed,a,w =>
    (Region.ready .any ops listed = [] → Q .normal a w) ∧
    ∀ i ∈ Region.ready .any ops listed,wpOp P ops Q i (fun a' w' => D (listed.setIfInBounds i true) w' ∧ wpAnyD P ops Q D fuel (listed.setIfInBounds i true) a' w') a w
theorem anyD_any {ops : Array Oper} {Q : Exit → Act → World → Prop} {D : Array Bool → World → Prop} : ∀ (fuel : Nat) (listed : Array Bool) (a : Act) (w : World),wpAnyD P ops Q D fuel listed a w → wpAny P .any ops Q fuel listed a w
  | 0,_,_,_,h => h
  | fuel + 1,_,_,_,h => ⟨h.1,fun i hi => wpOp_mono (fun _ _ h' => anyD_any fuel _ _ _ h'.2) (h.2 i hi)⟩
theorem anyD_more {ops : Array Oper} {Q : Exit → Act → World → Prop} {D : Array Bool → World → Prop} : ∀ {n m : Nat} {listed : Array Bool} {a : Act} {w : World},n ≤ m → wpAnyD P ops Q D n listed a w → wpAnyD P ops Q D m listed a w
  | 0,0,_,_,_,_,h => h
  | 0,m + 1,_,_,_,_,h => ⟨fun _ => h.2,by rw [h.1]; simp⟩
  | n + 1,0,_,_,_,hl,_ => by omega
  | n + 1,m + 1,_,_,_,hl,h => ⟨h.1,fun i hi => wpOp_mono (fun a' w' h' => ⟨h'.1,anyD_more (by omega) h'.2⟩) (h.2 i hi)⟩
theorem getD_set {l : Array Bool} {i j : Nat} {d : Bool} (h : i ≠ j) : (l.setIfInBounds i true).getD j d = l.getD j d := by
  simp only [Array.getD_eq_getD_getElem?]
  rw [Array.getElem?_setIfInBounds_ne h]
theorem Dk_skip {w0 w : World} {CA CB : St} {ks : List Nat} {listed : Array Bool} {i : Nat} (hi : ks.contains i = false) : Dk w0 CA CB ks (listed.setIfInBounds i true) w ↔ Dk w0 CA CB ks listed w := by
  have hne : ∀ j ∈ ks,i ≠ j := fun j hj he => by subst he; simp [hj] at hi
  unfold Dk
  constructor
  · exact fun ⟨h1,h2⟩ => ⟨h1,fun h => h2 fun j hj => by rw [getD_set (hne j hj)]; exact h j hj⟩
  · exact fun ⟨h1,h2⟩ => ⟨h1,fun h => h2 fun j hj => by have := h j hj; rwa [getD_set (hne j hj)] at this⟩
theorem ready_un {ops : Array Oper} {listed : Array Bool} {i : Nat} (h : i ∈ Region.ready .any ops listed) : listed.getD i true = false := (mem_ready.1 h).1
theorem ready_edge {ops : Array Oper} {listed : Array Bool} {i j : Nat} (h : j ∈ Region.ready .any ops listed) (he : edge ops j i = true) : listed.getD i false = true := by
  obtain ⟨_,oj,hoj,hall⟩ := mem_ready.1 h
  unfold edge at he
  rw [hoj] at he
  simp only [Array.any_eq_true',Bool.and_eq_true,Nat.beq_eq] at he
  obtain ⟨e,hm,hb,rfl⟩ := he
  have := hall e hm hb
  simpa using this
theorem un_false {l : Array Bool} {i : Nat} (h : l.getD i true = false) : l.getD i false = false := by
  simp only [Array.getD_eq_getD_getElem?] at h ⊢
  cases hx : l[i]? with
  | none => rfl
  | some b => rw [hx] at h; exact h
theorem anyD_first {ops : Array Oper} {Q : Exit → Act → World → Prop} {w0 : World} {CA CB : St} {ks : List Nat} {K : World → Prop} {i : Nat} {oi : Oper} {v : Value} (hi : ops[i]? = some oi) (hns : Region.noSelect ops = true) (hQ : ∀ c a w,¬ Q (.panic c) a w) (hik : ks.contains i = false)
    (hK : (∀ w,SH w0 CB w → K w) ∨ ((∀ w,SH w0 CA w → K w) ∧ ∀ j ∈ ks,edge ops j i = true)) : ∀ (fuel : Nat) (listed : Array Bool) (a : Act) (w : World),
      (∀ j oj,ops[j]? = some oj → j ≠ i → listed.getD j true = false → (∀ e ∈ oj.after,Region.binds .any e = true → e.on ≠ i) → oi.apart ops oj = true) →
      i ∈ Region.ready .any ops listed → ((∀ j ∈ ks,edge ops j i = true) → ∀ j ∈ ks,listed.getD j false = false) → YieldsIf P ops K oi v a → Dk w0 CA CB ks listed w →
      wpAnyD P ops Q (Dk w0 CA CB ks) fuel (listed.setIfInBounds i true) (a.put oi.dst v) w → wpAnyD P ops Q (Dk w0 CA CB ks) (fuel + 1) listed a w := by
  have hsel := Region.noSelect_spec hns
  have hKD : ∀ listed w,((∀ j ∈ ks,edge ops j i = true) → ∀ j ∈ ks,listed.getD j false = false) → Dk w0 CA CB ks listed w → K w := fun listed w hc hd => by
    rcases hK with h | ⟨h,he⟩
    · exact h w hd.1
    · exact h w (hd.2 (hc he))
  intro fuel
  induction fuel with
  | zero =>
    intro listed a w _ hr hc hy hd H
    refine ⟨fun h => (by rw [h] at hr; cases hr),fun j hj => ?_⟩
    by_cases hji : j = i
    · subst hji; exact hy.wpOp hi (hKD _ _ hc hd) ⟨(Dk_skip hik).2 hd,H⟩
    · have := ready_mono hj hji
      rw [H.1] at this
      cases this
  | succ fuel ih =>
    intro listed a w hfree hr hc hy hd H
    refine ⟨fun h => (by rw [h] at hr; cases hr),fun j hj => ?_⟩
    by_cases hji : j = i
    · subst hji; exact hy.wpOp hi (hKD _ _ hc hd) ⟨(Dk_skip hik).2 hd,H⟩
    · have h1 := H.2 j (ready_mono hj hji)
      have hjun := ready_un hj
      obtain ⟨_,oj,hoj,hall⟩ := mem_ready.1 hj
      have hnot : ∀ e ∈ oj.after,Region.binds .any e = true → e.on ≠ i := fun e he hb heq => by
        have h2 := hall e he hb
        have h0 := un_false (ready_un hr)
        rw [heq] at h2
        simp only [Array.getD_eq_getD_getElem?] at h0
        rcases Nat.lt_or_ge i listed.size with h' | h'
        · simp [h'] at h0 h2; rw [h0] at h2; cases h2
        · simp [Array.getElem?_eq_none h'] at h2
      have h2 := wpOp_putIf hoj (hfree j oj hoj hji hjun hnot) (fun cs b => hsel i oi cs b hi) (fun cs b => hsel j oj cs b hoj) (fun c a w h => absurd h (hQ c _ w)) hy h1
      have hfree' : ∀ k ok,ops[k]? = some ok → k ≠ i → (listed.setIfInBounds j true).getD k true = false → (∀ e ∈ ok.after,Region.binds .any e = true → e.on ≠ i) → oi.apart ops ok = true := fun k ok hk hki hun hno => by
        refine hfree k ok hk hki ?_ hno
        by_cases hjk : j = k
        · subst hjk; exact hjun
        · rw [getD_set_ne true hjk] at hun; exact hun
      have hc' : (∀ k ∈ ks,edge ops k i = true) → ∀ k ∈ ks,(listed.setIfInBounds j true).getD k false = false := fun he k hk => by
        by_cases hjk : j = k
        · subst hjk
          have := ready_edge hj (he j hk)
          rw [un_false (ready_un hr)] at this
          cases this
        · rw [getD_set hjk]; exact hc he k hk
      refine wpOp_mono (fun a' w' h3 => ?_) h2
      obtain ⟨h3,h4,h5⟩ := h3
      rw [Array.setIfInBounds_comm _ _ (Ne.symm hji)] at h4 h5
      have h4' := (Dk_skip hik).1 h4
      exact ⟨h4',ih (listed.setIfInBounds j true) a' w' hfree' (ready_mono hr (Ne.symm hji)) hc' h3 h4' h5⟩
theorem kept_D {w0 w : World} {CA CB : St} {ks : List Nat} {kl : Bool} {i : Nat} {S : St} {listed : Array Bool} (hk : kept CA CB ks kl i S) (hw : SH w0 S w) (hlt : i < listed.size) (hl : kl = true → ∃ j ∈ ks,listed.getD j false = true) : Dk w0 CA CB ks (listed.setIfInBounds i true) w := by
  refine ⟨hk.1 w0 w hw,fun hn => ?_⟩
  have h2 := hk.2
  cases hkl : (kl || ks.contains i) with
  | false => rw [hkl] at h2; exact h2 w0 w hw
  | true =>
    exfalso
    rcases (Bool.or_eq_true _ _).mp hkl with h | h
    · obtain ⟨j,hj,hjl⟩ := hl h
      have := hn j hj
      by_cases hij : i = j
      · subst hij; simp [hlt] at this
      · rw [getD_set hij,hjl] at this; cases this
    · have := hn i (by simpa using h)
      simp [hlt] at this
theorem ready_lt {ops : Array Oper} {listed : Array Bool} {i : Nat} (h : i ∈ Region.ready .any ops listed) : i < listed.size := by
  have := ready_un h
  rcases Nat.lt_or_ge i listed.size with h1 | h1
  · exact h1
  · simp [Array.getD_eq_getD_getElem?,Array.getElem?_eq_none h1] at this
theorem mix_sound (htt : tt.Ok P) {ops : Array Oper} (hns : Region.noSelect ops = true) {w0 : World} {CA CB : St} {ks : List Nat} : ∀ (od : Od) {listed : Array Bool} {kl : Bool} {fr : Fr} {S : St} {w : World} {a : Act},od.ok ops ks listed = true → wpMix P tt N ops CA CB ks Q kl od fr S →
    SH w0 S w → Dk w0 CA CB ks listed w → RF N fr a → (kl = true → ∃ j ∈ ks,listed.getD j false = true) → (∀ j,listed.getD j false = true → ∀ i,edge ops j i = true → listed.getD i false = true) →
    wpAnyD P ops (PostW N w0 Q) (Dk w0 CA CB ks) od.len listed a w := by
  have hQ : ∀ c a w,¬ PostW N w0 Q (.panic c) a w := fun c a w ⟨e',_,_,he,_⟩ => by cases e' <;> cases he
  have clo : ∀ {listed : Array Bool} {i : Nat},i ∈ Region.ready .any ops listed → (∀ j,listed.getD j false = true → ∀ i,edge ops j i = true → listed.getD i false = true) →
      ∀ j,(listed.setIfInBounds i true).getD j false = true → ∀ x,edge ops j x = true → (listed.setIfInBounds i true).getD x false = true := by
    intro listed i hi hc j hj x hx
    have hlt := ready_lt hi
    by_cases hix : i = x
    · subst hix; simp [hlt]
    · rw [getD_set hix]
      by_cases hij : i = j
      · subst hij; exact ready_edge hi hx
      · rw [getD_set hij] at hj; exact hc j hj x hx
  have kls : ∀ {listed : Array Bool} {kl : Bool} (i : Nat),(kl = true → ∃ j ∈ ks,listed.getD j false = true) → kl = true → ∃ j ∈ ks,(listed.setIfInBounds i true).getD j false = true := by
    intro listed kl i h hk
    obtain ⟨j,hj,hjl⟩ := h hk
    refine ⟨j,hj,?_⟩
    by_cases hij : i = j
    · subst hij
      simp only [Array.getD_eq_getD_getElem?] at hjl ⊢
      rcases Nat.lt_or_ge i listed.size with h1 | h1
      · simp [h1]
      · simp [Array.getElem?_eq_none h1] at hjl
    · rw [getD_set hij]; exact hjl
  have klk : ∀ {listed : Array Bool} {kl : Bool} {i : Nat},i < listed.size → (kl = true → ∃ j ∈ ks,listed.getD j false = true) → (kl || ks.contains i) = true → ∃ j ∈ ks,(listed.setIfInBounds i true).getD j false = true := by
    intro listed kl i hlt h hk
    rcases (Bool.or_eq_true _ _).mp hk with h1 | h1
    · exact kls i h h1
    · exact ⟨i,by simpa using h1,by simp [hlt]⟩
  -- a listed effect of ks,and a value that all of ks wait for: it is listed
  have hun : ∀ {listed : Array Bool} {i : Nat},i ∈ Region.ready .any ops listed → (∀ j,listed.getD j false = true → ∀ i,edge ops j i = true → listed.getD i false = true) → (∀ j ∈ ks,edge ops j i = true) → ∀ j ∈ ks,listed.getD j false = false := by
    intro listed i hi hc he j hj
    cases hx : listed.getD j false with
    | false => rfl
    | true =>
      have := hc j hx i (he j hj)
      rw [un_false (ready_un hi)] at this
      cases this
  have value : ∀ {C : St} {i : Nat} {r : Od} {listed : Array Bool} {kl : Bool} {fr : Fr} {S : St} {w : World} {a : Act},((Region.ready .any ops listed).contains i && Region.free .any ops listed i && !ks.contains i) = true →
      (C = none0 ∨ C = CB ∨ C = CA ∧ ∀ j ∈ ks,edge ops j i = true) →
      (match ops[i]? with
        | some o => wpV P C (fun fr' => wpMix P tt N ops CA CB ks Q kl r fr' S) (denOps tt N ops [o] fr)
        | none => False) → SH w0 S w → Dk w0 CA CB ks listed w → RF N fr a → (∀ j,listed.getD j false = true → ∀ i,edge ops j i = true → listed.getD i false = true) →
      (∀ {fr' : Fr} {a' : Act},wpMix P tt N ops CA CB ks Q kl r fr' S → Dk w0 CA CB ks (listed.setIfInBounds i true) w → RF N fr' a' → wpAnyD P ops (PostW N w0 Q) (Dk w0 CA CB ks) r.len (listed.setIfInBounds i true) a' w) →
      wpAnyD P ops (PostW N w0 Q) (Dk w0 CA CB ks) (r.len + 1) listed a w := by
    intro C i r listed kl fr S w a hB hC h hw hd hf hc ih
    simp only [Bool.and_eq_true,Bool.not_eq_true'] at hB
    have hr : i ∈ Region.ready .any ops listed := by simpa using hB.1.1
    split at h
    · rename_i o ho
      obtain ⟨v,hy,fr',hr',hf'⟩ := den1_quiet htt h hf (w0 := w0)
      have h0 : ∀ w,SH w0 CB w → SH w0 none0 w := fun w hw => ⟨hw.below,fun a v ha => (by cases ha),fun e he => (by cases he),List.nodup_nil⟩
      refine anyD_first (K := SH w0 C) ho hns hQ hB.2 ?_ r.len listed a w (Region.free_spec ho hB.1.2) hr (hun hr hc) hy hd (ih hr' ((Dk_skip hB.2).2 hd) hf')
      rcases hC with rfl | rfl | ⟨rfl,he⟩
      · exact .inl h0
      · exact .inl fun w hw => hw
      · exact .inr ⟨fun w hw => hw,he⟩
    · exact h.elim
  intro od
  induction od with
  | nil =>
    intro listed kl fr S w a hB h hw hd hf hl hc
    obtain ⟨S1,hle,hq⟩ := h
    exact ⟨by simpa [Od.ok] using hB,⟨.normal,fr,S1,rfl,hq,hf,hle w0 w hw⟩⟩
  | pure i r ih =>
    intro listed kl fr S w a hB h hw hd hf hl hc
    simp only [Od.ok,Bool.and_eq_true] at hB
    unfold wpMix at h
    have hr : i ∈ Region.ready .any ops listed := by simpa using hB.1.1.1
    exact value (by simp only [Bool.and_eq_true]; exact hB.1) (.inl rfl) h hw hd hf hc fun h1 h2 h3 => ih hB.2 h1 hw h2 h3 (kls i hl) (clo hr hc)
  | vb i r ih =>
    intro listed kl fr S w a hB h hw hd hf hl hc
    simp only [Od.ok,Bool.and_eq_true] at hB
    unfold wpMix at h
    have hr : i ∈ Region.ready .any ops listed := by simpa using hB.1.1.1
    exact value (by simp only [Bool.and_eq_true]; exact hB.1) (.inr (.inl rfl)) h hw hd hf hc fun h1 h2 h3 => ih hB.2 h1 hw h2 h3 (kls i hl) (clo hr hc)
  | va i r ih =>
    intro listed kl fr S w a hB h hw hd hf hl hc
    simp only [Od.ok,Bool.and_eq_true] at hB
    unfold wpMix at h
    have hr : i ∈ Region.ready .any ops listed := by simpa using hB.1.1.1.1
    exact value (by simp only [Bool.and_eq_true]; exact hB.1.1) (.inr (.inr ⟨rfl,fun j hj => List.all_eq_true.1 hB.1.2 j hj⟩)) h hw hd hf hc fun h1 h2 h3 => ih hB.2 h1 hw h2 h3 (kls i hl) (clo hr hc)
  | eff i r ih =>
    intro listed kl fr S w a hB h hw hd hf hl hc
    simp only [Od.ok,Bool.and_eq_true,beq_iff_eq] at hB
    unfold wpMix at h
    have hr : i ∈ Region.ready .any ops listed := by rw [hB.1]; simp
    split at h
    · rename_i o ho
      refine ⟨fun h0 => (by rw [h0] at hr; cases hr),fun i' hi' => ?_⟩
      rw [hB.1,List.mem_singleton] at hi'
      subst hi'
      refine wpOp_mono ?_ (den1_sound htt ho h hw hf)
      rintro a' w' ⟨fr',S',⟨_,hle,hm⟩,hw',hf'⟩
      have hD := kept_D hle hw' (ready_lt hr) hl
      exact ⟨hD,ih hB.2 hm hw' hD hf' (klk (ready_lt hr) hl) (clo hr hc)⟩
    · exact h.elim
  | two i j r r' ih ih' =>
    intro listed kl fr S w a hB h hw hd hf hl hc
    simp only [Od.ok,Bool.and_eq_true,beq_iff_eq] at hB
    unfold wpMix at h
    have hr : i ∈ Region.ready .any ops listed := by rw [hB.1.1]; simp
    have hr' : j ∈ Region.ready .any ops listed := by rw [hB.1.1]; simp
    split at h
    · rename_i o o' ho ho'
      refine ⟨fun h0 => (by rw [h0] at hr; cases hr),fun i' hi' => ?_⟩
      rw [hB.1.1] at hi'
      simp only [List.mem_cons,List.not_mem_nil,or_false] at hi'
      rcases hi' with rfl | rfl
      · refine wpOp_mono ?_ (den1_sound htt ho h.1 hw hf)
        rintro a' w' ⟨fr',S',⟨_,hle,hm⟩,hw',hf'⟩
        have hD := kept_D hle hw' (ready_lt hr) hl
        exact ⟨hD,anyD_more (Nat.le_max_left _ _) (ih hB.1.2 hm hw' hD hf' (klk (ready_lt hr) hl) (clo hr hc))⟩
      · refine wpOp_mono ?_ (den1_sound htt ho' h.2 hw hf)
        rintro a' w' ⟨fr',S',⟨_,hle,hm⟩,hw',hf'⟩
        have hD := kept_D hle hw' (ready_lt hr') hl
        exact ⟨hD,anyD_more (Nat.le_max_right _ _) (ih' hB.2 hm hw' hD hf' (klk (ready_lt hr') hl) (clo hr' hc))⟩
    · exact h.elim
def Od.all (ops : Array Oper) (ks : List Nat) (od : Od) : Bool := Region.noSelect ops && Nat.ble od.len ops.size && od.ok ops ks (Array.replicate ops.size false)
theorem wpV_mono {C : St} : ∀ (t : T) {R R' : Fr → Prop},(∀ fr,R fr → R' fr) → wpV P C R t → wpV P C R' t := by
  intro t
  induction t with
  | done e fr => exact fun hh h => ⟨h.1,hh _ h.2⟩
  | fail => exact fun _ h => h
  | check c t ih => exact fun hh h => ⟨h.1,ih hh h.2⟩
  | ite b x y ihx ihy => exact fun hh h => ⟨fun hb => ihx hh (h.1 hb),fun hb => ihy hh (h.2 hb)⟩
  | num e k ih => exact fun hh h => ih e hh h
  | sem g k ih => exact fun hh ⟨hg,v,h1,h2⟩ => ⟨hg,v,h1,ih v hh h2⟩
  | call f args k ih => exact fun _ h => h
  | draw ops fr => exact fun _ h => h
  | bind t k ih ihk => exact fun _ h => h
  | loop body fr ih => exact fun _ h => h
theorem wpMix_mono {ops : Array Oper} {CA CB : St} {ks : List Nat} {Q' : PostT} (hq : ∀ fr S,Q .normal fr S → Q' .normal fr S) : ∀ (od : Od) {kl : Bool} {fr : Fr} {S : St},wpMix P tt N ops CA CB ks Q kl od fr S → wpMix P tt N ops CA CB ks Q' kl od fr S := by
  intro od
  induction od with
  | nil => exact fun ⟨S1,hl,h⟩ => ⟨S1,hl,hq _ _ h⟩
  | pure i r ih => intro kl fr S h; unfold wpMix at h ⊢; split <;> rename_i ho <;> simp only [ho] at h; exact wpV_mono _ (fun _ h' => ih h') h
  | va i r ih => intro kl fr S h; unfold wpMix at h ⊢; split <;> rename_i ho <;> simp only [ho] at h; exact wpV_mono _ (fun _ h' => ih h') h
  | vb i r ih => intro kl fr S h; unfold wpMix at h ⊢; split <;> rename_i ho <;> simp only [ho] at h; exact wpV_mono _ (fun _ h' => ih h') h
  | eff i r ih => intro kl fr S h; unfold wpMix at h ⊢; split <;> rename_i ho <;> simp only [ho] at h; exact wpT_mono _ (fun e fr' S' ⟨h1,h2,h3⟩ => ⟨h1,h2,ih h3⟩) h
  | two i j r r' ih ih' =>
    intro kl fr S h
    unfold wpMix at h ⊢
    split
    · rename_i o o' ho ho'
      simp only [ho,ho'] at h
      exact ⟨wpT_mono _ (fun e fr' S' ⟨h1,h2,h3⟩ => ⟨h1,h2,ih h3⟩) h.1,wpT_mono _ (fun e fr' S' ⟨h1,h2,h3⟩ => ⟨h1,h2,ih' h3⟩) h.2⟩
    · rename_i hno
      split at h
      · rename_i o o' ho ho'; exact (hno o o' ho ho').elim
      · exact h
theorem r_mix (htt : tt.Ok P) (hm : P.follows .mixedOrders = true) {ops : Array Oper} {fr : Fr} (CA CB : St) (ks : List Nat) (od : Od) (hCA : Le S CA) (hCB : Le S CB) (hB : od.all ops ks = true) (h : wpMix P tt N ops CA CB ks Q false od fr S) : wpT P N (.draw ops fr) S Q := by
  intro id w0 w a hw hf
  simp only [Od.all,Bool.and_eq_true] at hB
  refine Code.wp_mono (Q := PostW N w0 fun e fr S => e = .normal ∧ Q .normal fr S) ?_ (wp_region_any hm (anyD_any (D := Dk w0 CA CB ks) _ _ _ _ (anyD_more (Nat.le_of_ble_eq_true hB.1.2) ?_)))
  · rintro e a' w' ⟨e',fr',S',rfl,⟨rfl,hq⟩,hf',hw'⟩
    exact ⟨fr',S',rfl,hq,hf',hw'⟩
  · have hn : ∀ j,(Array.replicate ops.size false).getD j false = false := fun j => by
      simp only [Array.getD_eq_getD_getElem?,Array.getElem?_replicate]
      split <;> rfl
    exact mix_sound htt hB.1.1 od hB.2 (wpMix_mono (fun fr S h => ⟨rfl,h⟩) od h) hw.drew ⟨hCB w0 _ hw.drew,fun _ => hCA w0 _ hw.drew⟩ hf (fun h => by cases h) (fun j hj => by rw [hn] at hj; cases hj)
section
variable {ops : Array Oper} {CA CB : St} {ks : List Nat} {kl : Bool} {r r' : Od} {fr : Fr} {o o' : Oper} {i j : Nat}
theorem x_p (ho : ops[i]? = some o) (h : wpV P none0 (fun fr' => wpMix P tt N ops CA CB ks Q kl r fr' S) (denOps tt N ops [o] fr)) : wpMix P tt N ops CA CB ks Q kl (.pure i r) fr S := by
  unfold wpMix; simp only [ho]; exact h
theorem x_va (ho : ops[i]? = some o) (h : wpV P CA (fun fr' => wpMix P tt N ops CA CB ks Q kl r fr' S) (denOps tt N ops [o] fr)) : wpMix P tt N ops CA CB ks Q kl (.va i r) fr S := by
  unfold wpMix; simp only [ho]; exact h
theorem x_vb (ho : ops[i]? = some o) (h : wpV P CB (fun fr' => wpMix P tt N ops CA CB ks Q kl r fr' S) (denOps tt N ops [o] fr)) : wpMix P tt N ops CA CB ks Q kl (.vb i r) fr S := by
  unfold wpMix; simp only [ho]; exact h
theorem x_e (ho : ops[i]? = some o) (h : wpT P N (denOps tt N ops [o] fr) S fun e fr' S' => e = .normal ∧ kept CA CB ks kl i S' ∧ wpMix P tt N ops CA CB ks Q (kl || ks.contains i) r fr' S') : wpMix P tt N ops CA CB ks Q kl (.eff i r) fr S := by
  unfold wpMix; simp only [ho]; exact h
theorem x_2 (ho : ops[i]? = some o) (ho' : ops[j]? = some o') (h : wpT P N (denOps tt N ops [o] fr) S fun e fr' S' => e = .normal ∧ kept CA CB ks kl i S' ∧ wpMix P tt N ops CA CB ks Q (kl || ks.contains i) r fr' S')
    (h' : wpT P N (denOps tt N ops [o'] fr) S fun e fr' S' => e = .normal ∧ kept CA CB ks kl j S' ∧ wpMix P tt N ops CA CB ks Q (kl || ks.contains j) r' fr' S') : wpMix P tt N ops CA CB ks Q kl (.two i j r r') fr S := by
  unfold wpMix; simp only [ho,ho']; exact ⟨h,h'⟩
theorem x_n (h : wpT P N (.done .normal fr) S Q) : wpMix P tt N ops CA CB ks Q kl .nil fr S := h
theorem k_a (ha : Le S CA) (hb : Le S CB) : kept CA CB ks kl i S := ⟨hb,by cases (kl || ks.contains i) <;> first | exact ha | trivial⟩
theorem k_b (hk : (kl || ks.contains i) = true) (hb : Le S CB) : kept CA CB ks kl i S := ⟨hb,by rw [hk]; trivial⟩
end
theorem v_done {fr : Fr} (h : R fr) : wpV P C R (.done .normal fr) := ⟨rfl,h⟩
theorem v_check {c : Prop} {t : T} (hc : c) (h : wpV P C R t) : wpV P C R (.check c t) := ⟨fun _ _ _ => hc,h⟩
theorem v_ix {A : Option Addr} {xs : List Value} {j : Int} {n : Nat} {t : T} (h : Rd C A xs) (hj : 0 ≤ j ∧ j < n) (hx : xs ≠ []) (ht : wpV P C R t) : wpV P C R (.check ((0 ≤ j ∧ j < n) ∧ A.isSome = true) t) :=
  ⟨fun w0 w hw => ⟨hj,by
    cases A with
    | none => exact absurd ((h w0 w hw).1 rfl) hx
    | some a => rfl⟩,ht⟩
theorem v_num {e e' : Int} {k : Int → T} (he : e = e') (h : wpV P C R (k e')) : wpV P C R (.num e k) := by rw [← he] at h; exact h
theorem v_T {b : Bool} {x y : T} (hb : b = true) (h : wpV P C R x) : wpV P C R (.ite b x y) := ⟨fun _ => h,fun h0 => absurd (hb.symm.trans h0) (by decide)⟩
theorem v_F {b : Bool} {x y : T} (hb : b = false) (h : wpV P C R y) : wpV P C R (.ite b x y) := ⟨fun h0 => absurd (hb.symm.trans h0) (by decide),fun _ => h⟩
theorem v_ite {b : Bool} {x y : T} (hx : b = true → wpV P C R x) (hy : b = false → wpV P C R y) : wpV P C R (.ite b x y) := ⟨hx,hy⟩
theorem v_sem {g : Tag} {v : Value} (hg : g.val = true) (hr : ∀ w0 w,SH w0 C w → (semOf g).run P w = .ok v w) (h : wpV P C R (k v)) : wpV P C R (.sem g k) := ⟨hg,v,hr,h⟩
theorem v_op {s : Sem Next} {v : Value} (hr : ∀ w : World,s.run P w = .ok (.value v) w) (h : wpV P C R (k v)) : wpV P C R (.sem (.op (semW s)) k) := v_sem rfl (fun _ w _ => semW_of (hr w)) h
theorem v_ld (kk : Nat) (htt : tt.Ok P) {t b off ty : Nat} {l : List Value} {v : Value} (hs : tt.sc t = true) (hk : C.L[kk]? = some (.obj b l ty)) (hv : l[off]? = some v) (h : wpV P C R (k v)) :
    wpV P C R (.sem (.load t (.pointer (some ⟨b,off,none⟩))) k) := v_sem rfl (fun _ _ hw => run_load_sc htt hs (hw.cell hk hv)) h
theorem v_ldn (kk : Nat) (htt : tt.Ok P) {t n b off ty : Nat} {l : List Value} (vs : List Value) (hs : tt.ag t = some n) (hk : C.L[kk]? = some (.obj b l ty)) (hv : (l.drop off).take n = vs) (hl : vs.length = n) (h : wpV P C R (k (.agg vs.toArray))) :
    wpV P C R (.sem (.load t (.pointer (some ⟨b,off,none⟩))) k) := v_sem rfl (fun _ _ hw => loadAt_ag htt hs hl (hw.cells hk hv)) h
theorem v_rd (htt : tt.Ok P) {t m : Nat} {A : Option Addr} {a : Addr} {xs : List Value} {v : Value} (hr : Rd C A xs) (hs : tt.sc t = true) (ha : a = (adr A).add m) (hv : xs[m]? = some v) (h : wpV P C R (k v)) :
    wpV P C R (.sem (.load t (.pointer (some a))) k) := v_sem rfl (fun w0 w hw => run_load_sc htt hs (by rw [ha]; exact (hr w0 w hw).2 _ _ hv)) h
theorem v_rdn (htt : tt.Ok P) {t m n : Nat} {A : Option Addr} {a : Addr} {xs : List Value} (vs : List Value) (hr : Rd C A xs) (hs : tt.ag t = some n) (ha : a = (adr A).add m) (hv : (xs.drop m).take n = vs) (hl : vs.length = n) (h : wpV P C R (k (.agg vs.toArray))) :
    wpV P C R (.sem (.load t (.pointer (some a))) k) := v_sem rfl (fun w0 w hw => loadAt_ag htt hs hl fun j u hj => by
      rw [ha,add_add]
      refine (hr w0 w hw).2 _ _ ?_
      rw [← hv,List.getElem?_take] at hj
      split at hj
      · rwa [List.getElem?_drop] at hj
      · cases hj) h
theorem v_bd (htt : tt.Ok P) {t n b : Nat} {z : Value} {l : List (Nat × Nat)} {ps : List (Nat × Value)} (cs : List Value) (hz : tt.inf t = some (z,n,b)) (hp : tt.pl t = some l) (hf : fillL (l[·]?) z.cells.toList ps = some cs)
    (h : wpV P C R (k (.agg cs.toArray))) : wpV P C R (.sem (.build t ps) k) := v_sem rfl (fun _ w _ => build_run htt hz hp hf w) h
end

variable {fr : Fr} {Post : Value → St → Prop}
inductive RV (P : Program) (fr : Fr) (S : St) : List ResultVar → List Value → Prop
  | nil : RV P fr S [] []
  | tmp {t : Nat} {rs : List ResultVar} {vs : List Value} (h : RV P fr S rs vs) : RV P fr S (.tmp t :: rs) (fr t :: vs)
  | cell {a t : Nat} {ad : Addr} {v : Value} {rs : List ResultVar} {vs : List Value} (ha : fr a = .pointer (some ad)) (hv : ∀ w0 w,SH w0 S w → (loadVar t ad).run P w = .ok v w) (h : RV P fr S rs vs) : RV P fr S (.cell a t :: rs) (v :: vs)
theorem rv_cell (kk : Nat) (htt : tt.Ok P) {a t n b ty : Nat} {l : List Value} {rs : List ResultVar} {vs : List Value} (ha : fr a = .pointer (some ⟨b,0,none⟩)) (hs : tt.ag t = some n) (hk : S.L[kk]? = some (.obj b l ty)) (hl : l.length = n) (h : RV P fr S rs vs) : RV P fr S (.cell a t :: rs) (.agg l.toArray :: vs) :=
  .cell ha (fun _ _ hw => run_load_ag htt hs hl (hw.cells hk (by rw [List.drop_zero,List.take_of_length_le (Nat.le_of_eq hl)]))) h
def outV : List Value → Value
  | [v] => v
  | vs => .tuple vs.toArray
theorem ret_of {rs : Array ResultVar} {vs : List Value} (h : RV P fr S rs.toList vs) (hl : Le S S1) (hp : Post (outV vs) S1) : ResT P (resF rs fr) S Post := by
  intro w0 w hw
  refine ⟨outV vs,S1,?_,hl w0 w hw,hp⟩
  have key : ∀ {rs : List ResultVar} {vs : List Value},RV P fr S rs vs → (rs.mapM (rvS fr)).run P w = .ok vs w := by
    intro rs vs h
    induction h with
    | nil => rfl
    | tmp h ih => simp only [List.mapM_cons,rvS,Sem.run_bind,Sem.run_pure,Result.andThen_ok,ih]
    | cell ha hv h ih => simp only [List.mapM_cons,rvS,Sem.run_bind,ha,asAddr,Sem.run_pure,Result.andThen_ok,hv w0 w hw,ih]
  have hk := key h
  unfold resF
  have hm : (rs.mapM (rvS fr)).run P w = .ok vs.toArray w := by
    rw [← Array.toArray_toList (xs := rs),List.mapM_toArray]
    rw [show (List.toArray <$> (rs.toList.mapM (rvS fr))) = (do let x ← rs.toList.mapM (rvS fr); pure x.toArray) from rfl]
    simp only [Sem.run_bind,hk,Result.andThen_ok,Sem.run_pure]
  simp only [Sem.run_bind,hm,Result.andThen_ok,Sem.run_pure]
  congr 1
  match vs with
  | [] => rfl
  | [v] => rfl
  | _ :: _ :: _ => simp [outV]
end

structure Enc (α : Type) where
  en : α → List Value
  sz : Nat
  len : ∀ x,(en x).length = sz
  one : ∀ x,(en x).all (·.oneCell') = true
  pos : Nat.blt 0 sz = true
def Sl (S : St) (A : Option Addr) (n c : Nat) (xs : List Value) : Prop := Rd S A xs ∧ ∀ w0 w,SH w0 S w → n ≤ c
section
variable {P : Program} {tt : TT} {N : Nat} {S S1 S' C : St} {Q : PostT} {k : Value → T} {ρ : Addr → Option Value} {L : List Ent} {α : Type} {E : Enc α} {R : Fr → Prop}
theorem Sl.rd {A : Option Addr} {n c : Nat} {xs : List Value} (h : Sl S A n c xs) : Rd S A xs := h.1
theorem Sl.mono {A : Option Addr} {n c : Nat} {xs : List Value} (h : Sl S A n c xs) (hl : Le S1 S) : Sl S1 A n c xs := ⟨h.1.mono hl,fun w0 w hw => h.2 w0 w (hl w0 w hw)⟩
theorem sl_row (k : Nat) {n c e sz : Nat} {A : Option Addr} {xs : List Value} (hk : S.L[k]? = some (.row A n c e sz xs)) : Sl S A n c xs := ⟨rd_row k hk,fun _ _ hw => by
  obtain ⟨_,⟨hA,hn⟩ | ⟨g,cap,cur,hA,_,_,hc,_⟩⟩ := hw.row hk
  · omega
  · injection hA with _ _ hc'; omega⟩
theorem sl_nil (S : St) (e : Enc α) : Sl S none 0 0 (fl e.en []) := ⟨rd_nil S none,fun _ _ _ => Nat.le_refl 0⟩
theorem E_ne {xs : List α} {i : Int} {x : α} (hx : idx xs i = some x) : fl E.en xs ≠ [] := fl_ne E.len E.pos (idx_out hx).2
theorem r_el {A : Option Addr} {xs : List α} {i : Int} {x : α} {t : T} (hx : idx xs i = some x) (hr : Rd S A (fl E.en xs)) (ht : wpT P N t S Q) : wpT P N (.check ((0 ≤ i ∧ i < (xs.length : Int)) ∧ A.isSome = true) t) S Q := r_ix hr (idx_out hx).1 (E_ne hx) ht
theorem v_el {A : Option Addr} {xs : List α} {i : Int} {x : α} {t : T} (hx : idx xs i = some x) (hr : Rd C A (fl E.en xs)) (ht : wpV P C R t) : wpV P C R (.check ((0 ≤ i ∧ i < (xs.length : Int)) ∧ A.isSome = true) t) := v_ix hr (idx_out hx).1 (E_ne hx) ht
theorem r_lec (htt : tt.Ok P) {t j sz o : Nat} {A : Option Addr} {a : Addr} {xs : List α} {x : α} {v : Value} (hx : xs[j]? = some x) (hr : Rd S A (fl E.en xs)) (hs : tt.sc t = true) (hz : E.sz = sz) (ha : a = (adr A).add (j * sz + o)) (hv : (E.en x)[o]? = some v) (h : wpT P N (k v) S Q) :
    wpT P N (.sem (.load t (.pointer (some a))) k) S Q := by
  subst hz
  exact r_rd htt hr hs ha (fl_at E.len hx hv) h
theorem v_lec (htt : tt.Ok P) {t j sz o : Nat} {A : Option Addr} {a : Addr} {xs : List α} {x : α} {v : Value} (hx : xs[j]? = some x) (hr : Rd C A (fl E.en xs)) (hs : tt.sc t = true) (hz : E.sz = sz) (ha : a = (adr A).add (j * sz + o)) (hv : (E.en x)[o]? = some v) (h : wpV P C R (k v)) :
    wpV P C R (.sem (.load t (.pointer (some a))) k) := by
  subst hz
  exact v_rd htt hr hs ha (fl_at E.len hx hv) h
theorem r_len (htt : tt.Ok P) {t j sz o n : Nat} {A : Option Addr} {a : Addr} {xs : List α} {x : α} (vs : List Value) (hx : xs[j]? = some x) (hr : Rd S A (fl E.en xs)) (hs : tt.ag t = some n) (hz : E.sz = sz) (ha : a = (adr A).add (j * sz + o)) (hv : ((E.en x).drop o).take n = vs) (hn : vs.length = n) (h : wpT P N (k (.agg vs.toArray)) S Q) :
    wpT P N (.sem (.load t (.pointer (some a))) k) S Q := by
  subst hz
  exact r_rdn htt vs hr hs ha (fl_part E.len hx hv hn) hn h
theorem v_len (htt : tt.Ok P) {t j sz o n : Nat} {A : Option Addr} {a : Addr} {xs : List α} {x : α} (vs : List Value) (hx : xs[j]? = some x) (hr : Rd C A (fl E.en xs)) (hs : tt.ag t = some n) (hz : E.sz = sz) (ha : a = (adr A).add (j * sz + o)) (hv : ((E.en x).drop o).take n = vs) (hn : vs.length = n) (h : wpV P C R (k (.agg vs.toArray))) :
    wpV P C R (.sem (.load t (.pointer (some a))) k) := by
  subst hz
  exact v_rdn htt vs hr hs ha (fl_part E.len hx hv hn) hn h
theorem pl0 (A : Option Addr) (m : Nat) : (adr A).add m = (adr A).add (m + 0) := rfl
theorem pl1 (A : Option Addr) (m o : Nat) : ((adr A).add m).add o = (adr A).add (m + o) := add_add _ _ _
theorem pl2 (A : Option Addr) (m o p : Nat) : (((adr A).add m).add o).add p = (adr A).add (m + (o + p)) := by rw [add_add,add_add]
theorem r_sec (kk : Nat) (htt : tt.Ok P) {t j n c e sz o : Nat} {A : Option Addr} {a : Addr} {xs : List α} {x : α} {vs : List Value} {v : Value} (y : α) (hx : xs[j]? = some x) (hf : Fit tt t v vs) (hk : L[kk]? = some (.row A n c e sz (fl E.en xs))) (hz : E.sz = sz) (ha : a = (adr A).add (j * sz + o))
    (hy : spl (E.en x) o vs = E.en y) (hb : Nat.ble (o + vs.length) sz = true) (hv : vs ≠ []) (h : wpT P N (k undef) ⟨ρ,L.set kk (.row A n c e sz (fl E.en (xs.set j y)))⟩ Q) : wpT P N (.sem (.store t (.pointer (some a)) v) k) ⟨ρ,L⟩ Q := by
  subst hz
  have hb' := Nat.le_of_ble_eq_true hb
  refine r_sr kk htt (fl E.en (xs.set j y)) hf hk ha (fl_spl E.len hx y hy hb') ?_ hv h
  rw [fl_len E.len]
  have hlt := (List.getElem?_eq_some_iff.1 hx).1
  have := Nat.mul_le_mul_right E.sz (show j + 1 ≤ xs.length by omega)
  rw [Nat.succ_mul] at this
  omega
theorem get_set {xs : List α} {j : Nat} {x : α} (hx : xs[j]? = some x) (y : α) : (xs.set j y)[j]? = some y := by
  have hlt := (List.getElem?_eq_some_iff.1 hx).1
  simp [hlt]
theorem idx_get {xs : List α} {i : Int} {x : α} (h : idx xs i = some x) : xs[i.toNat]? = some x := (idx_out h).2
theorem idx_set {xs : List α} {i : Int} {x : α} (h : idx xs i = some x) (y : α) : idx (xs.set i.toNat y) i = some y := by
  unfold idx
  rw [if_pos (idx_out h).1.1]
  exact get_set (idx_get h) y
def fptr (A : Option Addr) (i : Int) (n : Nat) : Value := if 0 ≤ i then .pointer (some ((adr A).add (i.toNat * n))) else .pointer none
theorem fptr_some {xs : List α} {A : Option Addr} {i : Int} {n : Nat} {x : α} (h : idx xs i = some x) : fptr A i n = .pointer (some ((adr A).add (i.toNat * n))) := if_pos (idx_out h).1.1
theorem fptr_at {xs : List α} {A : Option Addr} {i : Int} {n : Nat} {x : α} {v : Value} (hv : v = fptr A i n) (h : idx xs i = some x) : v = .pointer (some ((adr A).add (i.toNat * n))) := hv.trans (fptr_some h)
theorem fptr_none {A : Option Addr} {i : Int} {n : Nat} (h : decide (0 ≤ i) = false) : fptr A i n = .pointer none := if_neg (of_decide_eq_false h)
theorem r_app (kk : Nat) (htt : tt.Ok P) {t ty e sz b' c mc : Nat} {z : Value} {A B : Option Addr} {xs ys zs : List α} (hp : app xs ys = some zs) (hnews : Rd ⟨ρ,L⟩ B (fl E.en ys)) (hk : L[kk]? = some (.row A xs.length c e sz (fl E.en xs))) (he : tt.el t = some (e,sz)) (hz : tt.inf e = some (z,sz,b')) (hs : E.sz = sz) (hzs : Nat.beq z.cells.size sz = true) (hb : Nat.ble b' 128 = true)
    (h : ∀ A' c',wpT P N (k (.slice A' zs.length c')) ⟨ρ,L.set kk (.row A' zs.length c' e sz (fl E.en zs))⟩ Q) : wpT P N (.sem (.append #[t,t] ty [.slice A xs.length c,.slice B ys.length mc]) k) ⟨ρ,L⟩ Q := by
  subst hs
  obtain ⟨rfl,hl⟩ := app_out hp
  refine r_ap kk htt (fl E.en ys) hnews hk he hz hzs E.pos hb (fl_len E.len ys) (fun u hu => ?_) hl (List.length_append).symm ?_
  · obtain ⟨x,_,hx⟩ := List.mem_flatMap.1 hu
    exact List.all_eq_true.1 (E.one x) u hx
  · rw [← fl_app]
    exact h
theorem r_mks (htt : tt.Ok P) (z : α) {t e sz b' : Nat} {zv : Value} {kl kc : IntKind} {l : Int} {zs : List α} (hm : (if 0 ≤ l ∧ l ≤ 65536 then some (List.replicate l.toNat z) else none) = some zs) (he : tt.el t = some (e,sz)) (hz : tt.inf e = some (zv,sz,b')) (hs : E.sz = sz) (hzc : zv.cells = (E.en z).toArray) (hb : Nat.ble b' 128 = true) (hs2 : Nat.ble sz 256 = true)
    (h : ∀ b,wpT P N (k (.slice (some ⟨b,0,none⟩) zs.length zs.length)) ⟨ρ,.row (some ⟨b,0,none⟩) zs.length zs.length e sz (fl E.en zs) :: L⟩ Q) :
    wpT P N (.sem (.makeSlice t (.int kl l) (.int kc l)) k) ⟨ρ,L⟩ Q := by
  subst hs
  split at hm
  · rename_i h0
    injection hm with hm
    subst hm
    refine r_mk htt (en := E.en) z he hz hzc (E.len z) E.pos hb hs2 h0 fun b => ?_
    have := h b
    rw [List.length_replicate] at this
    exact this
  · cases hm
end
theorem len_dt {α : Type} (xs : List α) {i j : Int} (h : 0 ≤ i ∧ i ≤ j ∧ j ≤ (xs.length : Int)) : ((xs.take j.toNat).drop i.toNat).length = j.toNat - i.toNat := by
  simp only [List.length_drop,List.length_take]
  omega
section
variable {P : Program} {tt : TT} {N : Nat} {S : St} {Q : PostT} {k : Value → T} {α : Type} {E : Enc α}
theorem r_cut {S0 : St} (hle : Le S S0) (htt : tt.Ok P) {t e sz c : Nat} {A : Option Addr} {lo hi : Option Value} {i j : Int} {xs zs : List α} (hz : cut xs i j = some zs) (hr : Sl S0 A xs.length c (fl E.en xs)) (he : tt.el t = some (e,sz)) (hs : E.sz = sz) (hlo : lo = none ∧ i = 0 ∨ ∃ kd,lo = some (.int kd i)) (hhi : hi = none ∧ j = xs.length ∨ ∃ kd,hi = some (.int kd j))
    (h : ∀ A' c',Sl S0 A' zs.length c' (fl E.en zs) → wpT P N (k (.slice A' zs.length c')) S Q) : wpT P N (.sem (.slice t (.slice A xs.length c) lo hi none) k) S Q := by
  subst hs
  unfold cut at hz
  split at hz
  · rename_i hij
    injection hz with hz
    subst hz
    refine r_sl htt he hlo hhi hij (hr.mono hle).2 ?_
    have hl := len_dt xs hij
    have h0 := h (if c = i.toNat then A else A.map (·.add (i.toNat * E.sz))) (c - i.toNat) ⟨?_,fun w0 w hw => ?_⟩
    · rw [hl] at h0
      exact h0
    · have h1 : Rd S0 (A.map (·.add (i.toNat * E.sz))) (fl E.en ((xs.take j.toNat).drop i.toNat)) := by
        rw [← fl_drop E.len,← fl_take E.len]
        exact rd_drop (rd_take hr.1 _) _
      split
      · rename_i hci
        intro w0 w hw
        have hcap := hr.2 w0 w hw
        have hnil : (xs.take j.toNat).drop i.toNat = [] := by
          apply List.length_eq_zero_iff.1
          rw [hl]
          omega
        rw [hnil]
        exact rd_nil S0 A w0 w hw
      · exact h1
    · have hcap := hr.2 w0 w hw
      rw [hl]
      omega
  · cases hz
end

section
variable {P : Program} {tt : TT} {N : Nat} {S : St} {Q : PostT} {k : Value → T}
theorem bi_run (htt : tt.Ok P) {t : TypeId} {s : ByteArray} {kd : IntKind} {i x : Int} (ht : tt.st t = true) (hx : bidx s i = some x) (w : World) : (Instr.index t (.string s) (.int kd i)).run P w = .ok (.int .u8 x) w := by
  unfold bidx at hx
  unfold Instr.index asIntOf
  simp only [Sem.run_bind,Sem.run_pure,Result.andThen_ok,underlying_run (htt.st t ht)]
  split at hx
  · rename_i h0
    rw [if_pos h0]
    cases hs : s[i.toNat]? with
    | none => rw [hs] at hx; cases hx
    | some b =>
      rw [hs] at hx
      simp only [Option.map_some,Option.some.injEq] at hx
      rw [← hx]
      simp
  · cases hx
theorem r_bi (htt : tt.Ok P) {t : TypeId} {s : ByteArray} {kd : IntKind} {i x : Int} (ht : tt.st t = true) (hx : bidx s i = some x) (h : wpT P N (k (.int .u8 x)) S Q) : wpT P N (.sem (.index t (.string s) (.int kd i)) k) S Q := r_sem (fun _ w _ => bi_run htt ht hx w) h
end
section
variable {P : Program} {tt : TT} {N : Nat} {S : St} {Q : PostT} {k : Value → T} {α : Type} {E : Enc α} {ρ : Addr → Option Value} {L : List Ent}
theorem r_cuta {S0 : St} (hle : Le S S0) (htt : tt.Ok P) {t e sz c : Nat} {A : Option Addr} {lo hi : Option Value} {i j : Int} {xs zs : List α} (hz : cut xs i j = some zs) (hr : Sl S0 A xs.length c (fl E.en xs)) (he : tt.el t = some (e,sz)) (hs : E.sz = sz) (hlo : lo = none ∧ i = 0 ∨ ∃ kd,lo = some (.int kd i)) (hhi : hi = none ∧ j = xs.length ∨ ∃ kd,hi = some (.int kd j))
    (h : ∀ A' c',Sl S0 A' zs.length c' (fl E.en zs) → (A' = A.map (·.add (i.toNat * sz)) ∨ zs = []) → wpT P N (k (.slice A' zs.length c')) S Q) : wpT P N (.sem (.slice t (.slice A xs.length c) lo hi none) k) S Q := by
  by_cases hzn : zs = []
  · exact r_cut hle htt hz hr he hs hlo hhi fun A' c' h1 => h A' c' h1 (.inr hzn)
  · subst hs
    unfold cut at hz
    split at hz
    · rename_i hij
      injection hz with hz
      subst hz
      have hl := len_dt xs hij
      have h1 : Rd S0 (A.map (·.add (i.toNat * E.sz))) (fl E.en ((xs.take j.toNat).drop i.toNat)) := by
        rw [← fl_drop E.len,← fl_take E.len]
        exact rd_drop (rd_take hr.1 _) _
      have hn : ¬ i.toNat = j.toNat := fun hij' => hzn (List.length_eq_zero_iff.1 (by rw [hl]; omega))
      have h2 : Sl S0 (A.map (·.add (i.toNat * E.sz))) ((xs.take j.toNat).drop i.toNat).length (c - i.toNat) (fl E.en ((xs.take j.toNat).drop i.toNat)) := ⟨h1,fun w0 w hw => by
        have := hr.2 w0 w hw
        rw [hl]
        omega⟩
      refine r_sem (fun w0 w hw => ?_) (h _ _ h2 (.inl rfl))
      have hcap := hr.2 w0 w (hle w0 w hw)
      have h3 := sl_run (A := A) htt he hlo hhi hij hcap w
      rw [if_neg (by omega)] at h3
      rw [hl]
      exact h3
    · cases hz
theorem cut_len {i : Int} {xs zs : List α} {z : α} (hz : cut xs i xs.length = some zs) : (xs.take i.toNat ++ List.replicate zs.length z).length = xs.length := by
  unfold cut at hz
  split at hz
  · rename_i hij
    injection hz with hz
    subst hz
    simp only [List.length_append,List.length_take,List.length_replicate,List.length_drop]
    omega
  · cases hz
theorem fl_rep1 {z : α} {zv : Value} (hz : E.en z = [zv]) : ∀ n,fl E.en (List.replicate n z) = List.replicate n zv
  | 0 => rfl
  | n + 1 => by simp only [List.replicate_succ,fl,List.flatMap_cons,hz,List.singleton_append]; congr 1; exact fl_rep1 hz n
theorem r_clr (kk : Nat) (htt : tt.Ok P) (z : α) {t ty e b' n c c' : Nat} {zv : Value} {A A' : Option Addr} {xs zs : List α} {i : Int} (hzs : cut xs i xs.length = some zs) (hA : A' = A.map (·.add (i.toNat * 1)) ∨ zs = []) (hk : L[kk]? = some (.row A n c e 1 (fl E.en xs))) (he : tt.el t = some (e,1)) (hz : tt.inf e = some (zv,1,b')) (hs : E.sz = 1) (hzc : E.en z = [zv]) (h1 : zv.oneCell' = true)
    (h : wpT P N (k (.tuple #[])) ⟨ρ,L.set kk (.row A n c e 1 (fl E.en (xs.take i.toNat ++ List.replicate zs.length z)))⟩ Q) : wpT P N (.sem (.clear #[t] ty [.slice A' zs.length c']) k) ⟨ρ,L⟩ Q := by
  intro w0 w hw
  obtain ⟨ki,hki,hkz,hks,hkb⟩ := htt.inf e zv 1 b' hz
  obtain ⟨hu,_⟩ := htt.el t e 1 he
  have hzv : ∀ w : World,(zeroValue e).run P w = .ok zv w := fun w => by simp [zeroValue,typeInfo,program,Sem.run_bind,Sem.run,Result.andThen,hki,hkz]
  have hcl := cut_len (z := z) hzs
  have hij : (0 ≤ i ∧ i ≤ (xs.length : Int) ∧ (xs.length : Int) ≤ xs.length) ∧ zs = (xs.take (xs.length : Int).toNat).drop i.toNat := by
    unfold cut at hzs
    split at hzs
    · rename_i hij; injection hzs with hzs; exact ⟨hij,hzs.symm⟩
    · cases hzs
  obtain ⟨hij,hzd⟩ := hij
  have hzl := len_dt xs hij
  rw [← hzd] at hzl
  cases hn : zs.length with
  | zero =>
    rw [hn] at h
    have hi : xs.take i.toNat = xs := List.take_of_length_le (by omega)
    rw [hi,List.replicate_zero,List.append_nil] at h
    have hset : L.set kk (.row A n c e 1 (fl E.en xs)) = L := by
      apply List.ext_getElem?
      intro j
      rw [List.getElem?_set]
      split
      · rename_i hj
        subst hj
        rw [hk]
        split
        · rfl
        · rename_i hlt; exact absurd (List.getElem?_eq_some_iff.1 hk).1 hlt
      · rfl
    rw [hset] at h
    exact ⟨.tuple #[],w,_,by cases A' <;> simp [semOf,Builtin.clear_,underlying_run hu],hw,h⟩
  | succ m =>
    have hr := hw.row hk
    obtain ⟨hx,⟨hl,hn0⟩ | ⟨g,cap,cur,hv',hg,hh,h2,h3,h4,h5⟩⟩ := hr
    · have : (fl E.en xs).length = 0 := by rw [hx,hn0]
      rw [fl_len E.len,hs] at this
      omega
    · injection hv' with hA' _ hc
      subst hA'
      subst hc
      have ha : A' = some ⟨g,i.toNat,none⟩ := by
        rcases hA with hA | hA
        · rw [hA]; simp [add_plain]
        · rw [hA] at hn; simp at hn
      subst ha
      have hlt := (Array.getElem?_eq_some_iff.1 hh).1
      have hxl : (fl E.en xs).length = xs.length := by rw [fl_len E.len,hs,Nat.mul_one]
      have hx' : spl (fl E.en xs) i.toNat (List.replicate (m + 1) zv) = fl E.en (xs.take i.toNat ++ List.replicate zs.length z) := by
        have ht := fl_take E.len xs i.toNat
        rw [hs,Nat.mul_one] at ht
        rw [fl_app,fl_rep1 hzc,hn,← ht]
        unfold spl
        rw [List.drop_eq_nil_of_le (by simp only [List.length_replicate]; omega),List.append_nil]
      have hcur : n * 1 ≤ cur.toList.length := by have := Nat.mul_le_mul_right 1 h2; simp; omega
      refine ⟨.tuple #[],_,_,?_,hw.set (e' := .row (some ⟨g,0,none⟩) n c e 1 (fl E.en (xs.take i.toNat ++ List.replicate zs.length z))) (o' := .cells (setL cur i.toNat (List.replicate (m + 1) zv)) e (0,0)) hk rfl rfl ⟨?_,.inr ⟨g,c,setL cur i.toNat (List.replicate (m + 1) zv),rfl,hg,by simp [hlt],h2,h3,?_,?_⟩⟩,h⟩
      · have hzc' : (Builtin.zeroCells zv.cells (m + 1)).toList = List.replicate (m + 1) zv := by
          rw [cells_one h1]
          simp [Builtin.zeroCells]
          apply List.ext_getElem
          · simp
          · intro i h1 h2
            simp [Nat.mod_one]
        have hst := storeCells_run (P := P) (List.replicate (m + 1) zv) 0 (off := i.toNat) hh (by simp at hcur ⊢; omega) (by intro v hv'; rw [List.eq_of_mem_replicate hv']; exact h1)
        rw [Nat.add_zero] at hst
        simp only [semOf,Builtin.clear_]
        simp [underlying_run hu,hzv,hzc',hst]
      · rw [fl_len E.len,hs,hcl]; omega
      · simp only [setL,spl,List.size_toArray,List.length_append,List.length_take,List.length_drop,Array.length_toList,List.length_replicate]
        simp at hcur
        omega
      · rw [← hx',← h5]
        simp only [setL,spl]
        rw [List.take_append,List.take_append,List.take_of_length_le (l := cur.toList.take i.toNat) (by simp; omega),List.take_of_length_le (l := List.replicate (m + 1) zv) (by simp; omega),List.take_take,List.drop_take]
        rw [Nat.min_eq_left (by omega)]
        congr 1
        simp only [List.length_append,List.length_take,List.length_replicate]
        congr 1
        omega
end
theorem r_inl {P : Program} {N : Nat} {S : St} {Q : PostT} {k : Value → T} {f : FuncId} {args : Array Value} (h : HC P f args S fun v S' => wpT P N (k v) S' Q) : wpT P N (.call f args k) S Q := h
theorem x_k {P : Program} {tt : TT} {N : Nat} {CA CB S : St} {ks : List Nat} {kl : Bool} {Q : PostT} {ops : Array Oper} {fr : Fr} (L : List (Nat × Value)) (hL : L.map (fun p => fr p.1) = L.map (fun p => p.2)) (h : ∀ fr',wpT P N (.done .normal (updL L fr')) S Q) : wpMix P tt N ops CA CB ks Q kl .nil fr S := x_n (r_keep L hL h)
theorem x_kp {P : Program} {tt : TT} {N : Nat} {CA CB S : St} {ks : List Nat} {kl : Bool} {Q : PostT} {ops : Array Oper} {od : Od} {fr : Fr} (L : List (Nat × Value)) (hL : L.map (fun p => fr p.1) = L.map (fun p => p.2)) (h : ∀ fr',wpMix P tt N ops CA CB ks Q kl od (updL L fr') S) : wpMix P tt N ops CA CB ks Q kl od fr S := by have := h fr; rw [updL_same L hL] at this; exact this
section
variable {P : Program} {S S1 : St} {α : Type} {E : Enc α}
theorem sl_nilout {A : Option Addr} {n c : Nat} {xs : List α} (h : Sl S A n c (fl E.en xs)) (hl : Le S1 S) : ∀ w0 w,SH w0 S1 w → (A = none → xs = []) := fun w0 w hw hA => by
  have h1 := (h.1 w0 w (hl w0 w hw)).1 hA
  cases xs with
  | nil => rfl
  | cons x xs =>
    have h2 := E.len x
    have h3 : 0 < E.sz := by simpa using E.pos
    have h4 : E.en x = [] := by
      have : E.en x ++ fl E.en xs = [] := h1
      exact (List.append_eq_nil_iff.1 this).1
    rw [h4] at h2
    simp at h2
    omega
theorem eqF {P : Program} {w : World} {d : Nat} {xs ys : Array Value} {f : Field} {fs : List Field} {u v : Value} {b c : Bool} (hn : f.name ≠ "_") (hx : (part f.type xs f.offset).run P w = .ok u w) (hy : (part f.type ys f.offset).run P w = .ok v w) (he : (Op.equalIn d f.type u v).run P w = .ok b w) (h : (Op.eqFields d xs ys fs).run P w = .ok c w) : (Op.eqFields d xs ys (f :: fs)).run P w = .ok (b && c) w := by
  simp only [Op.eqFields]
  rw [if_pos hn]
  simp only [Sem.run_bind,hx,hy,he,Result.andThen_ok]
  cases b <;> simp [h]
theorem e_nil {A : Option Addr} {xs : List α} {w0 w : World} (h : Rd S A (fl E.en xs)) (hw : SH w0 S w) (hn : 0 < xs.length) : A.isSome = true := by
  cases A with
  | some a => rfl
  | none =>
    have h1 := (h w0 w hw).1 rfl
    cases xs with
    | nil => simp at hn
    | cons x xs =>
      have h2 := E.len x
      have h3 : 0 < E.sz := by simpa using E.pos
      have h4 : E.en x = [] := (List.append_eq_nil_iff.1 (show E.en x ++ fl E.en xs = [] from h1)).1
      rw [h4] at h2
      simp at h2
      omega
theorem le_has {ρ : Addr → Option Value} {L : List Ent} {A : Option Addr} {xs : List α} (h : Rd ⟨ρ,L⟩ A (fl E.en xs)) : Le ⟨ρ,L⟩ ⟨ρ,.has A xs.length :: L⟩ := fun w0 w hw =>
  ⟨hw.below,fun a v ha => ⟨(hw.ro a v ha).1,by have := (hw.ro a v ha).2; simpa [blocksL,Ent.blocks] using this⟩,fun x hx => by
    rcases List.mem_cons.1 hx with rfl | hx
    · exact fun hn => e_nil h hw hn
    · exact hw.ent x hx,by have := hw.nd; simpa [blocksL,Ent.blocks] using this⟩
theorem v_elh (k : Nat) {C : St} {R : Fr → Prop} {A : Option Addr} {n : Nat} {xs : List α} {i : Int} {x : α} {t : T} (hk : C.L[k]? = some (.has A n)) (hn : xs.length = n) (hx : idx xs i = some x) (ht : wpV P C R t) : wpV P C R (.check ((0 ≤ i ∧ i < (xs.length : Int)) ∧ A.isSome = true) t) :=
  ⟨fun w0 w hw => ⟨(idx_out hx).1,(hw.ent _ (List.mem_of_getElem? hk)) (by have := (idx_out hx).1; omega)⟩,ht⟩
theorem HC.fact {p : Prop} {f : FuncId} {args : Array Value} {Post : Value → St → Prop} (hp : Plain P f) (hf : ∀ w0 w,SH w0 S w → p) (h : p → HC P f args S Post) : HC P f args S Post :=
  ⟨hp,fun w0 w hw => (h (hf w0 w hw)).2 w0 w hw⟩
end
section
variable {P : Program} {tt : TT} {N : Nat} {Q : PostT} {k : Value → T} {α : Type} {E : Enc α} {ρ : Addr → Option Value} {L : List Ent}
end
abbrev pp (b n : Nat) : Value := .pointer (some ⟨b,n,none⟩)
abbrev ii (n : Int) : Value := .int .i64 n
theorem fe {fr : Fr} (L : List (Nat × Value)) (h : L.map (fun p => fr p.1) = L.map (fun p => p.2) := by kernel_rfl) : fr = updL L fr := fr_eq L h
section
variable {P : Program} {tt : TT} {N : Nat} {S C : St} {Q : PostT} {R : Fr → Prop} {k : Value → T} {α ω : Type} {r : ω} {ρ : Addr → Option Value} {L0 : List Ent}
theorem kr {e : Ex} {fr : Fr} (L : List (Nat × Value)) (h : ∀ fr',wpT P N (.done e (updL L fr')) S Q) (hL : L.map (fun p => fr p.1) = L.map (fun p => p.2) := by kernel_rfl) : wpT P N (.done e fr) S Q := r_keep L hL h
theorem kp {all : Array Oper} {rest : List Oper} {fr : Fr} (L : List (Nat × Value)) (h : ∀ fr',wpT P N (denOps tt N all rest (updL L fr')) S Q) (hL : L.map (fun p => fr p.1) = L.map (fun p => p.2) := by kernel_rfl) : wpT P N (denOps tt N all rest fr) S Q := r_kp L hL h
theorem xk {CA CB : St} {ks : List Nat} {kl : Bool} {ops : Array Oper} {fr : Fr} (L : List (Nat × Value)) (h : ∀ fr',wpT P N (.done .normal (updL L fr')) S Q) (hL : L.map (fun p => fr p.1) = L.map (fun p => p.2) := by kernel_rfl) : wpMix P tt N ops CA CB ks Q kl .nil fr S := x_k L hL h
theorem xp {CA CB : St} {ks : List Nat} {kl : Bool} {ops : Array Oper} {od : Od} {fr : Fr} (L : List (Nat × Value)) (h : ∀ fr',wpMix P tt N ops CA CB ks Q kl od (updL L fr') S) (hL : L.map (fun p => fr p.1) = L.map (fun p => p.2) := by kernel_rfl) : wpMix P tt N ops CA CB ks Q kl od fr S := x_kp L hL h
theorem ld (kk : Nat) (htt : tt.Ok P) {t b off ty : Nat} {l : List Value} {v : Value} (hs : tt.sc t = true) (hk : S.L[kk]? = some (.obj b l ty)) (h : wpT P N (k v) S Q) (hv : l[off]? = some v := by kernel_rfl) : wpT P N (.sem (.load t (.pointer (some ⟨b,off,none⟩))) k) S Q := r_ld kk htt hs hk hv h
theorem vl (kk : Nat) (htt : tt.Ok P) {t b off ty : Nat} {l : List Value} {v : Value} (hs : tt.sc t = true) (hk : C.L[kk]? = some (.obj b l ty)) (h : wpV P C R (k v)) (hv : l[off]? = some v := by kernel_rfl) : wpV P C R (.sem (.load t (.pointer (some ⟨b,off,none⟩))) k) := v_ld kk htt hs hk hv h
theorem ln (kk : Nat) (htt : tt.Ok P) {t n b off ty : Nat} {l : List Value} (vs : List Value) (hs : tt.ag t = some n) (hk : S.L[kk]? = some (.obj b l ty)) (h : wpT P N (k (.agg vs.toArray)) S Q) (hv : (l.drop off).take n = vs := by kernel_rfl) (hl : vs.length = n := by kernel_rfl) : wpT P N (.sem (.load t (.pointer (some ⟨b,off,none⟩))) k) S Q := r_ldn kk htt vs hs hk hv hl h
theorem vn (kk : Nat) (htt : tt.Ok P) {t n b off ty : Nat} {l : List Value} (vs : List Value) (hs : tt.ag t = some n) (hk : C.L[kk]? = some (.obj b l ty)) (h : wpV P C R (k (.agg vs.toArray))) (hv : (l.drop off).take n = vs := by kernel_rfl) (hl : vs.length = n := by kernel_rfl) : wpV P C R (.sem (.load t (.pointer (some ⟨b,off,none⟩))) k) := v_ldn kk htt vs hs hk hv hl h
theorem st (kk : Nat) (htt : tt.Ok P) {t b off ty : Nat} {l vs : List Value} {v : Value} (l' : List Value) (hf : Fit tt t v vs) (hk : L0[kk]? = some (.obj b l ty)) (h : wpT P N (k undef) ⟨ρ,L0.set kk (.obj b l' ty)⟩ Q) (hl' : spl l off vs = l' := by kernel_rfl) (hl : Nat.ble (off + vs.length) l.length = true := by kernel_rfl) : wpT P N (.sem (.store t (.pointer (some ⟨b,off,none⟩)) v) k) ⟨ρ,L0⟩ Q := r_s kk htt l' hf hk hl' hl h
theorem f1 {t : Nat} {v : Value} (hs : tt.sc t = true) (hv : v.oneCell' = true := by kernel_rfl) : Fit tt t v [v] := fit1 hs hv
theorem fn {t : Nat} {vs : List Value} (hs : tt.ag t = some vs.length) (hv : vs.all (·.oneCell') = true := by kernel_rfl) : Fit tt t (.agg vs.toArray) vs := fitn hs hv
theorem vd {fr : Fr} (h : R fr) : wpV P C R (.done .normal fr) := v_done h
theorem rd {e : Ex} {fr : Fr} (h : Q e fr S) : wpT P N (.done e fr) S Q := r_done h
theorem rb {t : T} {k : Ex → Fr → T} (h : wpT P N t S fun e fr S' => wpT P N (k e fr) S' Q) : wpT P N (.bind t k) S Q := r_bind h
theorem rc {f : FuncId} {args : Array Value} {Post : Value → St → Prop} (h : HC P f args S Post) (hk : ∀ v S',Post v S' → wpT P N (k v) S' Q) : wpT P N (.call f args k) S Q := r_call h hk
theorem r_iteh {b : Bool} {x y : T} {X Y : Option α} {K : α → Option ω} (h : (if b = true then X else Y).bind K = some r) (hx : X.bind K = some r → wpT P N x S Q) (hy : Y.bind K = some r → wpT P N y S Q) : wpT P N (.ite b x y) S Q := r_ite (fun hb => hx (h_t h hb)) (fun hb => hy (h_f h hb))
theorem v_iteh {b : Bool} {x y : T} {X Y : Option α} {K : α → Option ω} (h : (if b = true then X else Y).bind K = some r) (hx : X.bind K = some r → wpV P C R x) (hy : Y.bind K = some r → wpV P C R y) : wpV P C R (.ite b x y) := v_ite (fun hb => hx (h_t h hb)) (fun hb => hy (h_f h hb))
theorem r_itet {b : Bool} {x y : T} {X Y v : α} (h : (if b = true then X else Y) = v) (hx : X = v → wpT P N x S Q) (hy : Y = v → wpT P N y S Q) : wpT P N (.ite b x y) S Q := r_ite (fun hb => hx (t_t h hb)) (fun hb => hy (t_f h hb))
end
attribute [irreducible] wpT wpV wpQ OpT HC semOf Rd Le Sl
end Go.Proofs.YtcdoangbkgaapaaGreatK
