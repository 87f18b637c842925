/- Abstract values, their relation to the machine's, the judgements, the rules of operations. -/
import Derived.Orders
import Derived.Below
import Derived.Laws.AppendOwn
import Derived.Laws.OwnMore
import Derived.Scope
import Derived.WalkLawsBesides
/- Vam: a value-level logic over the kit's walks. Core: abstract values, their relation to the machine's values, abstract heap, invariant. -/
namespace Go.Vam
open Go Go.RowKit

/-- Abstract values. -/
inductive V where
  | junk
  | int (k : IntKind) (n : Int)
  | bool (b : Bool)
  | str (s : List UInt8)
  | nils
  | bytes (bs : List UInt8)
  | obytes (bs : List UInt8) (p : Nat)
  | slice (sz : Nat) (xs : List V)
  | oslice (sz : Nat) (xs : List V) (p : Nat)
  | buf (o : Nat)
  | ptr (o : Nat) (off : Nat)
  | rptr (cs : List V)
  | nilp
  | map (o : Nat)
  | nilm
  | agg (cs : List V)
  | tuple (vs : List V)
  | func (f : FuncId) (cap : List V)
  | nilf
  | iface (t : TypeId) (v : V)
  | nili
  | it (o : Nat)
  | glob (g : Nat)
  deriving Inhabited

def V.cells : V → List V
  | .agg cs => cs
  | v => [v]

/-- Is it the value of one cell? -/
def V.one : V → Bool
  | .junk | .agg _ | .tuple _ => false
  | _ => true

/-- An element of so many cells. -/
def V.elem (sz : Nat) (x : V) : Prop := x.cells.length = sz ∧ x.cells.all V.one = true

def flat (xs : List V) : List V := xs.flatMap V.cells

/-- Where an object lies. -/
inductive Loc where
  | cells (b : Nat)
  | sl (b : Option Nat) (len cap : Nat)
  | map (r : Nat)
  | it (r : Nat)

def Loc.block? : Loc → Option Nat
  | .cells b => some b
  | .sl b _ _ => b
  | .map r => some r
  | .it r => some r

/-- What is known of blocks: first cells that never change; where objects lie; who owns a block; numbers from next on are free. -/
structure Gh where
  ro : Nat → Option (List Value)
  loc : Nat → Option Loc
  own : Nat → Option Nat
  next : Nat

structure Gh.le (a b : Gh) : Prop where
  ro : ∀ k c, a.ro k = some c → ∃ d, b.ro k = some d ∧ c <+: d
  loc : ∀ o l, a.loc o = some l → b.loc o = some l

theorem Gh.le.refl (a : Gh) : a.le a := ⟨fun _ c h => ⟨c, h, List.prefix_refl c⟩, fun _ _ h => h⟩
theorem Gh.le.trans {a b c : Gh} (h : a.le b) (k : b.le c) : a.le c :=
  ⟨fun i x e => let ⟨d, h1, h2⟩ := h.ro i x e; let ⟨d2, h3, h4⟩ := k.ro i d h1; ⟨d2, h3, h2.trans h4⟩, fun i x e => k.loc i x (h.loc i x e)⟩

/-- Nothing below the next number has moved. -/
def Gh.keep (a b : Gh) : Prop := a.next ≤ b.next ∧ ∀ o, o < a.next → b.loc o = a.loc o

theorem Gh.keep.refl (a : Gh) : a.keep a := ⟨Nat.le_refl _, fun _ _ => rfl⟩
theorem Gh.keep.trans {a b c : Gh} (h : a.keep b) (k : b.keep c) : a.keep c :=
  ⟨Nat.le_trans h.1 k.1, fun o ho => (k.2 o (Nat.lt_of_lt_of_le ho h.1)).trans (h.2 o ho)⟩

theorem prefix_get {a b : List Value} (h : a <+: b) {i : Nat} {x : Value} (hx : a[i]? = some x) : b[i]? = some x := by
  obtain ⟨t, rfl⟩ := h
  rw [List.getElem?_append_left (List.getElem?_eq_some_iff.1 hx).1]; exact hx

theorem prefix_getD {a b : List Value} (h : a <+: b) {i : Nat} (hi : i < a.length) : b.getD i undef = a.getD i undef := by
  have := prefix_get h (List.getElem?_eq_getElem hi)
  simp [List.getD, this, List.getElem?_eq_getElem hi]

def sliceAt (b : Option Nat) (n c : Nat) : Value := .slice (b.map fun b => ⟨b, 0, none⟩) n c

def byteV (b : UInt8) : Value := .int .u8 b.toNat

/-- An abstract value and a machine's value. -/
inductive Rel (β : Gh) : V → Value → Prop
  | junk (v : Value) : Rel β .junk v
  | int (k : IntKind) (n : Int) : Rel β (.int k n) (.int k n)
  | bool (b : Bool) : Rel β (.bool b) (.bool b)
  | str (s : List UInt8) : Rel β (.str s) (.string ⟨s.toArray⟩)
  | nils : Rel β .nils (.slice none 0 0)
  | bytes0 (a : Option Addr) (c : Nat) : Rel β (.bytes []) (.slice a 0 c)
  | bytes (bs : List UInt8) (b off cap : Nat) (cells : List Value) (hl : bs.length ≤ cap) (h : β.ro b = some cells)
      (hc : ∀ (i : Nat) (x : UInt8), bs[i]? = some x → cells[off + i]? = some (byteV x)) :
      Rel β (.bytes bs) (.slice (some ⟨b, off, none⟩) bs.length cap)
  | obytes (bs : List UInt8) (p : Nat) (b : Option Nat) (c : Nat) (u : Value) (hl : β.loc p = some (.sl b bs.length c)) (hu : u = sliceAt b bs.length c) (h : Rel β (.bytes bs) u) : Rel β (.obytes bs p) u
  | slice0 (sz : Nat) (a : Option Addr) (c : Nat) : Rel β (.slice sz []) (.slice a 0 c)
  | slice (sz : Nat) (xs : List V) (b off cap : Nat) (cells : List Value) (hl : xs.length ≤ cap) (h : β.ro b = some cells) (he : ∀ x ∈ xs, V.elem sz x)
      (hs : off + (flat xs).length ≤ cells.length)
      (hc : ∀ (i : Nat) (x : V), (flat xs)[i]? = some x → Rel β x (cells.getD (off + i) undef)) :
      Rel β (.slice sz xs) (.slice (some ⟨b, off, none⟩) xs.length cap)
  | oslice (sz : Nat) (xs : List V) (p : Nat) (b : Option Nat) (c : Nat) (u : Value) (hl : β.loc p = some (.sl b xs.length c)) (hu : u = sliceAt b xs.length c) (h : Rel β (.slice sz xs) u) : Rel β (.oslice sz xs p) u
  | buf (o : Nat) (b : Option Nat) (n c : Nat) (h : β.loc o = some (.sl b n c)) : Rel β (.buf o) (.slice (b.map fun b => ⟨b, 0, none⟩) n c)
  | ptr (o off b : Nat) (l : Loc) (h : β.loc o = some l) (hb : l.block? = some b) : Rel β (.ptr o off) (.pointer (some ⟨b, off, none⟩))
  | rptr (cs : List V) (b off : Nat) (cells : List Value) (h : β.ro b = some cells) (hs : off + cs.length ≤ cells.length)
      (hc : ∀ (i : Nat) (x : V), cs[i]? = some x → Rel β x (cells.getD (off + i) undef)) : Rel β (.rptr cs) (.pointer (some ⟨b, off, none⟩))
  | nilp : Rel β .nilp (.pointer none)
  | map (o r : Nat) (h : β.loc o = some (.map r)) : Rel β (.map o) (.map (some r))
  | nilm : Rel β .nilm (.map none)
  | agg (cs : List V) (a : Array Value) (hs : a.size = cs.length) (hc : ∀ (i : Nat) (x : V), cs[i]? = some x → Rel β x (a.getD i undef)) : Rel β (.agg cs) (.agg a)
  | tuple (cs : List V) (a : Array Value) (hs : a.size = cs.length) (hc : ∀ (i : Nat) (x : V), cs[i]? = some x → Rel β x (a.getD i undef)) : Rel β (.tuple cs) (.tuple a)
  | func (f : FuncId) (cs : List V) (a : Array Value) (hs : a.size = cs.length) (hc : ∀ (i : Nat) (x : V), cs[i]? = some x → Rel β x (a.getD i undef)) :
      Rel β (.func f cs) (.func (.func f) #[] a)
  | nilf : Rel β .nilf .nilFunc
  | iface (t : TypeId) (v : V) (u : Value) (h : Rel β v u) : Rel β (.iface t v) (.iface t u)
  | nili : Rel β .nili .nilIface
  | it (o r : Nat) (h : β.loc o = some (.it r)) : Rel β (.it o) (.pointer (some ⟨r, 0, none⟩))
  | glob (g : Nat) : Rel β (.glob g) (.pointer (some ⟨g, 0, none⟩))

theorem Rel.mono {β β' : Gh} (hle : β.le β') {v : V} {u : Value} (h : Rel β v u) : Rel β' v u := by
  induction h with
  | junk v => exact .junk v
  | int k n => exact .int k n
  | bool b => exact .bool b
  | str s => exact .str s
  | nils => exact .nils
  | bytes0 a c => exact .bytes0 a c
  | bytes bs b off cap cells hl h hc =>
    obtain ⟨d, h1, h2⟩ := hle.ro _ _ h
    exact .bytes bs b off cap d hl h1 fun i x hx => prefix_get h2 (hc i x hx)
  | obytes bs p b c u hl hu h ih => exact .obytes bs p b c u (hle.loc _ _ hl) hu ih
  | slice0 sz a c => exact .slice0 sz a c
  | slice sz xs b off cap cells hl h he hs hc ih =>
    obtain ⟨d, h1, h2⟩ := hle.ro _ _ h
    exact .slice sz xs b off cap d hl h1 he (Nat.le_trans hs h2.length_le) fun i x hx => by
      have : i < (flat xs).length := (List.getElem?_eq_some_iff.1 hx).1
      rw [prefix_getD h2 (by omega)]; exact ih i x hx
  | oslice sz xs p b c u hl hu h ih => exact .oslice sz xs p b c u (hle.loc _ _ hl) hu ih
  | buf o b n c h => exact .buf o b n c (hle.loc _ _ h)
  | ptr o off b l h hb => exact .ptr o off b l (hle.loc _ _ h) hb
  | rptr cs b off cells h hs hc ih =>
    obtain ⟨d, h1, h2⟩ := hle.ro _ _ h
    exact .rptr cs b off d h1 (Nat.le_trans hs h2.length_le) fun i x hx => by
      have : i < cs.length := (List.getElem?_eq_some_iff.1 hx).1
      rw [prefix_getD h2 (by omega)]; exact ih i x hx
  | nilp => exact .nilp
  | map o r h => exact .map o r (hle.loc _ _ h)
  | nilm => exact .nilm
  | agg cs a hs hc ih => exact .agg cs a hs ih
  | tuple cs a hs hc ih => exact .tuple cs a hs ih
  | func f cs a hs hc ih => exact .func f cs a hs ih
  | nilf => exact .nilf
  | iface t v u h ih => exact .iface t v u ih
  | nili => exact .nili
  | it o r h => exact .it o r (hle.loc _ _ h)
  | glob g => exact .glob g

theorem Rel.oneCell {β : Gh} {v : V} {u : Value} (h : Rel β v u) (h1 : v.one = true) : u.oneCell' = true := by
  cases h <;> first | rfl | (simp [V.one] at h1; done) | (rename_i hu; subst hu; rfl) | (rename_i hu _; subst hu; rfl)

/-- Objects of the abstract heap. -/
inductive O where
  | cells (e : TypeId) (cs : List V)
  | tok (e : TypeId) (sz n : Nat)
  | buf (e : TypeId) (sz : Nat) (xs : List V)
  | map (es : List (V × V × Nat)) (clock : Nat)
  | it (m : Nat) (since : Nat) (seen : List Nat) (last : Nat)

def O.isTok : O → Bool
  | .tok _ _ _ => true
  | _ => false

/-- The bytes, or elements, that a value reads as. -/
def V.rdB : V → Option (List UInt8)
  | .nils => some []
  | .bytes bs => some bs
  | .obytes bs _ => some bs
  | _ => none

def V.rdS (sz : Nat) : V → Option (List V)
  | .nils => some []
  | .slice sz' xs => cond (Nat.beq sz sz') (some xs) none
  | .oslice sz' xs _ => cond (Nat.beq sz sz') (some xs) none
  | _ => none

abbrev St := Nat → Option O

def St.set (σ : St) (o : Nat) (x : O) : St := fun i => if i = o then some x else σ i
def St.del (σ : St) (o : Nat) : St := fun i => if i = o then none else σ i

/-- The byte type's number. -/
structure Env where
  P : Program
  B : Nat
  W0 : World
  byteT : TypeId
  gl : Nat → Option (List V)

def RelL (β : Gh) (cs : List V) (a : List Value) : Prop := a.length = cs.length ∧ ∀ (i : Nat) (x : V), cs[i]? = some x → Rel β x (a.getD i undef)

/-- An object and its place. -/
def ORel (E : Env) (β : Gh) (w : World) : O → Loc → Prop
  | .cells e cs, .cells b => ∃ a : Array Value, w.heap[b]? = some (.cells a e (0, 0)) ∧ RelL β cs a.toList ∧ cs.all V.one = true
  | .tok e sz m, .sl b n c => n = m ∧ ∃ us : List Value, w.ownsRow E.B e sz (sliceAt b n c) n us ∧ ∀ r, b = some r → β.ro r = some us
  | .buf e sz xs, .sl b n c => n = xs.length ∧ (∀ x ∈ xs, V.elem sz x) ∧ ∃ us : List Value, RelL β (flat xs) us ∧ w.ownsRow E.B e sz (sliceAt b n c) n us
  | .map es k, .map r => ∃ a : Array MapEntry, w.heap[r]? = some (.map a k) ∧ a.size = es.length ∧
      (∀ (i : Nat) (x : V × V × Nat), es[i]? = some x → ∃ m, a[i]? = some m ∧ Rel β x.1 m.key ∧ Rel β x.2.1 m.val ∧ m.born = x.2.2 ∧ x.2.2 < k) ∧ (es.map (·.2.2)).Nodup
  | .it m since seen last, .it r => ∃ mr, β.loc m = some (.map mr) ∧ w.heap[r]? = some (.mapIter (some mr) since seen.toArray last)
  | _, _ => False

/-- The abstract heap and the world. -/
structure Inv (E : Env) (β : Gh) (σ : St) (w : World) : Prop where
  below : Below E.B E.W0 w
  base : E.B ≤ w.heap.size
  ro : ∀ b c, β.ro b = some c → ∃ arr e fr, w.heap[b]? = some (.cells arr e fr) ∧ c <+: arr.toList
  obj : ∀ o x, σ o = some x → ∃ l, β.loc o = some l ∧ ORel E β w x l
  owner : ∀ o x l r, σ o = some x → β.loc o = some l → l.block? = some r → E.B ≤ r ∧ β.own r = some o ∧ (x.isTok = false → β.ro r = none)
  next : ∀ o, β.next ≤ o → β.loc o = none
  gl : ∀ k cs, E.gl k = some cs → Rel β (.rptr cs) (.pointer (some ⟨k, 0, none⟩))

/-- Temporaries: a list of slots and values; what is not in it is junk. -/
abbrev G := List (Nat × V)

def G.get : G → Nat → V
  | [], _ => .junk
  | (s, v) :: g, t => cond (Nat.beq t s) v (G.get g t)

theorem G.get_cons (s : Nat) (v : V) (g : G) (t : Nat) : G.get ((s, v) :: g) t = if t = s then v else G.get g t := by
  by_cases h : t = s
  · subst h; simp [G.get]
  · have : Nat.beq t s = false := by
      cases hb : Nat.beq t s with
      | false => rfl
      | true => exact absurd (Nat.eq_of_beq_eq_true hb) h
    simp [G.get, this, h]

/-- The slot's value, as an Option, so that a unification reduces it. -/
def G.find : G → Nat → Option V
  | [], _ => none
  | (s, v) :: g, t => cond (Nat.beq t s) (some v) (G.find g t)

theorem G.find_get : ∀ {g : G} {t : Nat} {v : V}, g.find t = some v → g.get t = v
  | [], _, _, h => by simp [G.find] at h
  | (s, u) :: g, t, v, h => by
    simp only [G.find] at h
    cases hb : Nat.beq t s with
    | true => simp [hb] at h; simp [G.get, hb, h]
    | false => simp [hb] at h; simp [G.get, hb, G.find_get h]

def G.put (g : G) (d : Option Tmp) (v : V) : G := match d with | some d => (d, v) :: g | none => g

structure AR (N : Nat) (β : Gh) (g : G) (a : Act) : Prop where
  size : a.tmps.size = N
  defers : a.defers = []
  rel : ∀ t, Rel β (g.get t) (a.tmps.getD t undef)

theorem AR.mono {N : Nat} {β β' : Gh} {g : G} {a : Act} (hle : β.le β') (h : AR N β g a) : AR N β' g a := ⟨h.size, h.defers, fun t => (h.rel t).mono hle⟩

theorem getD_setIfInBounds (a : Array Value) (i j : Nat) (v : Value) : (a.setIfInBounds i v).getD j undef = if i = j ∧ i < a.size then v else a.getD j undef := by
  simp only [Array.getD_eq_getD_getElem?, Array.getElem?_setIfInBounds]
  by_cases h : i = j
  · subst h
    by_cases hs : i < a.size
    · simp [hs]
    · simp [hs]
  · simp [h]

theorem AR.put {N : Nat} {β : Gh} {g : G} {a : Act} (h : AR N β g a) (d : Option Tmp) {v : V} {u : Value} (hd : ∀ t, d = some t → t < N) (hr : Rel β v u) :
    AR N β (g.put d v) (a.put d u) := by
  cases d with
  | none => exact h
  | some d =>
    refine ⟨by simp [Act.put, h.size], h.defers, fun t => ?_⟩
    have hdN := hd d rfl
    simp only [Act.put, G.put, G.get_cons, getD_setIfInBounds]
    by_cases ht : t = d
    · subst ht; rw [if_pos rfl, if_pos ⟨rfl, by rw [h.size]; exact hdN⟩]; exact hr
    · rw [if_neg ht, if_neg (by intro hh; exact ht hh.1.symm)]; exact h.rel t

/-- A constant's abstract value. -/
def cvO : Value → Option V
  | .bool b => some (.bool b)
  | .int k n => some (.int k n)
  | .string s => some (.str s.data.toList)
  | .pointer none => some .nilp
  | .slice none 0 0 => some .nils
  | .map none => some .nilm
  | .nilFunc => some .nilf
  | .nilIface => some .nili
  | _ => none

/-- The operand's abstract value. -/
def G.evO (g : G) : Operand → Option V
  | .tmp t => g.find t
  | .const v => cvO v
  | .global k => some (.glob k)
  | .func f => some (.func f [])

theorem Rel.cvO (β : Gh) {v : Value} {u : V} (h : cvO v = some u) : Rel β u v := by
  unfold Vam.cvO at h
  split at h <;> simp only [Option.some.injEq, reduceCtorEq] at h <;> subst h
  · exact .bool _
  · exact .int _ _
  · rename_i s; exact .str s.data.toList
  · exact .nilp
  · exact .nils
  · exact .nilm
  · exact .nilf
  · exact .nili

theorem AR.evO {N : Nat} {β : Gh} {g : G} {a : Act} (h : AR N β g a) {x : Operand} {v : V} (hx : g.evO x = some v) : Rel β v (a.eval x) := by
  cases x with
  | tmp t => have := h.rel t; rw [G.find_get hx] at this; exact this
  | const v => exact Rel.cvO β hx
  | global k => simp only [G.evO, Option.some.injEq] at hx; subst hx; exact .glob k
  | func f => simp only [G.evO, Option.some.injEq] at hx; subst hx; exact .func f [] #[] rfl (fun i x h => by simp at h)

end Go.Vam

/- Vam: the judgements W (code), WL (a list of operations), WLoop, WS (inside a scope), Fn (a call), and the rules of control. -/
namespace Go.Vam
open Go Go.RowKit

abbrev Q3 := Exit → G → St → Prop

def Post (E : Env) (N : Nat) (β : Gh) (Q : Q3) : Exit → Act → World → Prop := fun e a w =>
  ∃ β' g σ, β.le β' ∧ AR N β' g a ∧ Inv E β' σ w ∧ Q e g σ

theorem Post.le {E : Env} {N : Nat} {β β' : Gh} {Q : Q3} (h : β.le β') {e : Exit} {a : Act} {w : World} (k : Post E N β' Q e a w) : Post E N β Q e a w := by
  obtain ⟨β2, g, σ, h1, h2, h3, h4⟩ := k
  exact ⟨β2, g, σ, h.trans h1, h2, h3, h4⟩

theorem Post.mono {E : Env} {N : Nat} {β : Gh} {Q Q' : Q3} (hq : ∀ e g s, Q e g s → Q' e g s) {e : Exit} {a : Act} {w : World} (k : Post E N β Q e a w) : Post E N β Q' e a w := by
  obtain ⟨β2, g, σ, h1, h2, h3, h4⟩ := k
  exact ⟨β2, g, σ, h1, h2, h3, hq _ _ _ h4⟩

def W (E : Env) (N : Nat) (c : Code) (g : G) (σ : St) (Q : Q3) : Prop :=
  ∀ β a w, AR N β g a → Inv E β σ w → c.wp E.P (Post E N β Q) a w

def WL (E : Env) (N : Nat) (ops : Array Oper) (l : List Oper) (g : G) (σ : St) (Q : Q3) : Prop :=
  ∀ β a w, AR N β g a → Inv E β σ w → wpList E.P ops (Post E N β Q) l a w

def Code.lwp (P : Program) (c : Code) (Q : Exit → Act → World → Prop) (a : Act) (w : World) : Prop :=
  ∀ (b : Frame) (k : List Item) (cs : List Frame), ∃ e a' w', Q e a' w' ∧ Arrives P (lone (b.at a (.code c :: .inLoop c :: k)) cs w) b k cs e a' w'

def WLoop (E : Env) (N : Nat) (c : Code) (g : G) (σ : St) (Q : Q3) : Prop :=
  ∀ β a w, AR N β g a → Inv E β σ w → Code.lwp E.P c (Post E N β Q) a w

def Code.swp (P : Program) (c rest : Code) (Q : Exit → Act → World → Prop) (a : Act) (w : World) : Prop :=
  ∀ (b : Frame) (k : List Item) (cs : List Frame), ∃ e a' w', Q e a' w' ∧ Arrives P (lone (b.at a (.code rest :: .inScope c :: k)) cs w) b k cs e a' w'

/-- Inside the scope c, with rest still to do. -/
def WS (E : Env) (N : Nat) (c rest : Code) (g : G) (σ : St) (Q : Q3) : Prop :=
  ∀ β a w, AR N β g a → Inv E β σ w → Code.swp E.P c rest (Post E N β Q) a w

def Rels (β : Gh) (vs : List V) (us : Array Value) : Prop := us.size = vs.length ∧ ∀ i, Rel β (vs.getD i .junk) (us.getD i undef)

/-- A function with a body. -/
def Callable (P : Program) (f : FuncId) : Prop := ∃ fn, P.funcs[f]? = some fn ∧ (fn.name == "runtime.NumGoroutine") = false ∧ fn.body.isNone = false

def Fn (E : Env) (f : FuncId) (args : List V) (σ : St) (Q : V → St → Prop) : Prop :=
  Callable E.P f ∧ ∀ β w us, Inv E β σ w → Rels β args us →
    Calls E.P f us w fun e w' => ∃ v u β' σ', e = .returned u ∧ β.le β' ∧ Rel β' v u ∧ Inv E β' σ' w' ∧ Q v σ'

section
variable {E : Env} {N : Nat} {Q Q' : Q3} {g : G} {σ : St}

def thenQ (K : G → St → Prop) (Q : Q3) : Q3
  | .normal, g, s => K g s
  | e, g, s => Q e g s

def blockQ (id : Nat) (Q : Q3) : Q3
  | .exit id', g, s => if id' = id then Q .normal g s else Q (.exit id') g s
  | e, g, s => Q e g s

theorem W.mono {c : Code} (hq : ∀ e g s, Q e g s → Q' e g s) (h : W E N c g σ Q) : W E N c g σ Q' :=
  fun β a w ha hi => wp_mono (h β a w ha hi) fun _ _ _ k => k.mono hq

theorem W.skip (h : Q .normal g σ) : W E N .skip g σ Q :=
  fun β _ _ ha hi => wp_skip ⟨β, g, σ, .refl β, ha, hi, h⟩
theorem W.label {l : Nat} (h : Q .normal g σ) : W E N (.label l) g σ Q :=
  fun β _ _ ha hi => wp_label ⟨β, g, σ, .refl β, ha, hi, h⟩
theorem W.exit {id : Nat} (h : Q (.exit id) g σ) : W E N (.exit id) g σ Q :=
  fun β _ _ ha hi => wp_exit ⟨β, g, σ, .refl β, ha, hi, h⟩
theorem W.goto {l : Nat} (h : Q (.goto l) g σ) : W E N (.goto l) g σ Q :=
  fun β _ _ ha hi => wp_goto ⟨β, g, σ, .refl β, ha, hi, h⟩
theorem W.ret (h : Q .ret g σ) : W E N .ret g σ Q :=
  fun β _ _ ha hi => wp_ret ⟨β, g, σ, .refl β, ha, hi, h⟩

theorem W.seq {x y : Code} (h : W E N x g σ (thenQ (fun g s => W E N y g s Q) Q)) : W E N (.seq x y) g σ Q := by
  intro β a w ha hi
  refine wp_seq (wp_mono (h β a w ha hi) ?_)
  rintro e a' w' ⟨β', g', σ', hle, ha', hi', hq⟩
  cases e with
  | normal => exact wp_mono (hq β' a' w' ha' hi') fun _ _ _ k => k.le hle
  | exit id => exact ⟨β', g', σ', hle, ha', hi', hq⟩
  | goto l => exact ⟨β', g', σ', hle, ha', hi', hq⟩
  | ret => exact ⟨β', g', σ', hle, ha', hi', hq⟩
  | panic c => exact ⟨β', g', σ', hle, ha', hi', hq⟩
  | outgrown => exact ⟨β', g', σ', hle, ha', hi', hq⟩

theorem Rel.bool_inv {β : Gh} {b : Bool} {u : Value} (h : Rel β (.bool b) u) : u = .bool b := by cases h; rfl
theorem Rel.int_inv {β : Gh} {k : IntKind} {n : Int} {u : Value} (h : Rel β (.int k n) u) : u = .int k n := by cases h; rfl
theorem Rel.str_inv {β : Gh} {s : List UInt8} {u : Value} (h : Rel β (.str s) u) : u = .string ⟨s.toArray⟩ := by cases h; rfl

theorem W.cond {x y : Code} {o : Operand} {b : Bool} (hb : g.evO o = some (.bool b)) (ht : b = true → W E N x g σ Q) (hf : b = false → W E N y g σ Q) : W E N (.cond o x y) g σ Q := by
  intro β a w ha hi
  refine wp_cond_split (ha.evO hb).bool_inv (fun h => ht h β a w ha hi) (fun h => hf h β a w ha hi)

theorem W.block {id : Nat} {c : Code} (h : W E N c g σ (blockQ id Q)) : W E N (.block id c) g σ Q := by
  intro β a w ha hi
  refine wp_block (wp_mono (h β a w ha hi) ?_)
  rintro e a' w' ⟨β', g', σ', hle, ha', hi', hq⟩
  cases e with
  | exit id' =>
    simp only [Exit.inBlock, blockQ] at hq ⊢
    split
    · rename_i h; rw [if_pos h] at hq; exact ⟨β', g', σ', hle, ha', hi', hq⟩
    · rename_i h; rw [if_neg h] at hq; exact ⟨β', g', σ', hle, ha', hi', hq⟩
  | _ => exact ⟨β', g', σ', hle, ha', hi', hq⟩

theorem W.loop {c : Code} (h : WLoop E N c g σ Q) : W E N (.loop c) g σ Q := by
  intro β a w ha hi b k cs
  obtain ⟨e, a', w', hq, harr⟩ := h β a w ha hi b k cs
  exact ⟨e, a', w', hq, .of_steps (.one step_loop) harr⟩

theorem WLoop.round {c : Code} (h : W E N c g σ (thenQ (fun g s => WLoop E N c g s Q) Q)) : WLoop E N c g σ Q := by
  intro β a w ha hi b k cs
  obtain ⟨e, a₁, w₁, hq, harr⟩ := h β a w ha hi b (.inLoop c :: k) cs
  obtain ⟨β', g', σ', hle, ha', hi', hq⟩ := hq
  cases e with
  | normal =>
    obtain ⟨e₂, a₂, w₂, hq₂, harr₂⟩ := hq β' a₁ w₁ ha' hi' b k cs
    exact ⟨e₂, a₂, w₂, hq₂.le hle, .of_steps (Steps.trans harr (.one step_inLoop)) harr₂⟩
  | exit id => exact ⟨_, a₁, w₁, ⟨β', g', σ', hle, ha', hi', hq⟩, .pass (x := .inLoop c) rfl (fun _ _ => .inl (by simp)) harr⟩
  | goto l => exact ⟨_, a₁, w₁, ⟨β', g', σ', hle, ha', hi', hq⟩, .pass (x := .inLoop c) rfl (fun _ _ => .inl (by simp)) harr⟩
  | ret => exact ⟨_, a₁, w₁, ⟨β', g', σ', hle, ha', hi', hq⟩, .pass (x := .inLoop c) rfl (fun _ _ => .inl (by simp)) harr⟩
  | panic ch => exact ⟨_, a₁, w₁, ⟨β', g', σ', hle, ha', hi', hq⟩, .pass (x := .inLoop c) rfl (fun _ _ => .inl (by simp)) harr⟩
  | outgrown => exact ⟨_, a₁, w₁, ⟨β', g', σ', hle, ha', hi', hq⟩, .pass (x := .inLoop c) rfl (fun _ _ => .inl (by simp)) harr⟩

theorem W.scope {c : Code} (h : WS E N c c g σ Q) : W E N (.scope c) g σ Q := by
  intro β a w ha hi b k cs
  obtain ⟨e, a', w', hq, harr⟩ := h β a w ha hi b k cs
  exact ⟨e, a', w', hq, .of_steps (.one step_scope) harr⟩

def gotoQ (E : Env) (N : Nat) (c : Code) (Q : Q3) : Q3
  | .goto l, g, s => ∃ r, findLabel c l = some r ∧ WS E N c r g s Q
  | e, g, s => Q e g s

theorem WS.step {c rest : Code} (h : W E N rest g σ (gotoQ E N c Q)) : WS E N c rest g σ Q := by
  intro β a w ha hi b k cs
  obtain ⟨e, a₁, w₁, hq, harr⟩ := h β a w ha hi b (.inScope c :: k) cs
  obtain ⟨β', g', σ', hle, ha', hi', hq⟩ := hq
  cases e with
  | normal => exact ⟨.normal, a₁, w₁, ⟨β', g', σ', hle, ha', hi', hq⟩, Steps.trans harr (.one step_inScope)⟩
  | exit id => exact ⟨.exit id, a₁, w₁, ⟨β', g', σ', hle, ha', hi', hq⟩, fun k' hk => harr k' (by simp [exitTo, hk])⟩
  | goto l =>
    obtain ⟨r, hf, hr⟩ := hq
    have hg : gotoIn l (.inScope c :: k) = some (.code r :: .inScope c :: k) := by simp [gotoIn, hf]
    obtain ⟨e₂, a₂, w₂, hq₂, harr₂⟩ := hr β' a₁ w₁ ha' hi' b k cs
    exact ⟨e₂, a₂, w₂, hq₂.le hle, .of_steps (harr _ hg) harr₂⟩
  | ret => exact ⟨_, a₁, w₁, ⟨β', g', σ', hle, ha', hi', hq⟩, harr⟩
  | panic ch => exact ⟨_, a₁, w₁, ⟨β', g', σ', hle, ha', hi', hq⟩, harr⟩
  | outgrown => exact ⟨_, a₁, w₁, ⟨β', g', σ', hle, ha', hi', hq⟩, harr⟩

theorem W.region {id : Nat} {ops : Array Oper} (h : WL E N ops ops.toList g σ Q) : W E N (.region id ops false) g σ Q :=
  fun β a w ha hi => wp_region_list (h β a w ha hi)

theorem WL.nil {ops : Array Oper} (h : Q .normal g σ) : WL E N ops [] g σ Q :=
  fun β _ _ ha hi => ⟨β, g, σ, .refl β, ha, hi, h⟩

/-! Weakening: fewer temporaries, fewer objects. -/

def G.le (g' g : G) : Prop := ∀ t, g'.get t = g.get t ∨ g'.get t = .junk

theorem AR.weak {β : Gh} {g' : G} {a : Act} (hg : g'.le g) (h : AR N β g a) : AR N β g' a :=
  ⟨h.size, h.defers, fun t => by
    rcases hg t with e | e
    · rw [e]; exact h.rel t
    · rw [e]; exact .junk _⟩

/-- A frame that holds just these. -/
def G.has (g : G) : G → Prop
  | [] => True
  | (s, v) :: r => g.get s = v ∧ G.has g r

theorem G.has.le {g : G} : ∀ {g' : G}, g.has g' → g'.le g
  | [], _ => fun _ => .inr rfl
  | (s, v) :: r, h => fun t => by
    simp only [G.get_cons]
    by_cases ht : t = s
    · subst ht; rw [if_pos rfl]; exact .inl h.1.symm
    · rw [if_neg ht]; exact G.has.le h.2 t

def St.sub (a b : St) : Prop := ∀ o x, a o = some x → b o = some x

theorem Inv.weak {β : Gh} {σ' : St} {w : World} (hs : σ'.sub σ) (h : Inv E β σ w) : Inv E β σ' w :=
  ⟨h.below, h.base, h.ro, fun o x e => h.obj o x (hs o x e), fun o x l r e hl hr => h.owner o x l r (hs o x e) hl hr, h.next, h.gl⟩

theorem W.weak {c : Code} {g' : G} {σ' : St} (hg : g.has g') (hs : σ'.sub σ) (h : W E N c g' σ' Q) : W E N c g σ Q :=
  fun β a w ha hi => h β a w (ha.weak hg.le) (hi.weak hs)

theorem WLoop.weak {c : Code} {g' : G} {σ' : St} (hg : g.has g') (hs : σ'.sub σ) (h : WLoop E N c g' σ' Q) : WLoop E N c g σ Q :=
  fun β a w ha hi => h β a w (ha.weak hg.le) (hi.weak hs)

theorem WS.weak {c r : Code} {g' : G} {σ' : St} (hg : g.has g') (hs : σ'.sub σ) (h : WS E N c r g' σ' Q) : WS E N c r g σ Q :=
  fun β a w ha hi => h β a w (ha.weak hg.le) (hi.weak hs)

theorem WL.weak {ops : Array Oper} {l : List Oper} {g' : G} {σ' : St} (hg : g.has g') (hs : σ'.sub σ) (h : WL E N ops l g' σ' Q) : WL E N ops l g σ Q :=
  fun β a w ha hi => h β a w (ha.weak hg.le) (hi.weak hs)

theorem St.sub.refl (σ : St) : σ.sub σ := fun _ _ h => h
theorem St.sub_set {σ : St} {o : Nat} {x : O} (h : σ o = none) : σ.sub (σ.set o x) := fun i y e => by
  unfold St.set
  by_cases hi : i = o
  · subst hi; rw [h] at e; cases e
  · rw [if_neg hi]; exact e

end

/-! A call. -/

/-- What a result variable holds at the end. -/
def resV (g : G) (σ : St) : ResultVar → V
  | .tmp t => g.get t
  | .cell a _ => match g.get a with
    | .ptr o off => match σ o with
      | some (.cells _ cs) => .agg (cs.drop off)
      | _ => .junk
    | _ => .junk

theorem Fn.mono {E : Env} {f : FuncId} {args : List V} {σ : St} {Q Q' : V → St → Prop} (hq : ∀ v s, Q v s → Q' v s) (h : Fn E f args σ Q) : Fn E f args σ Q' :=
  ⟨h.1, fun β w us hi hr => (h.2 β w us hi hr).mono fun _ _ ⟨v, u, β', σ', h1, h2, h3, h4, h5⟩ => ⟨v, u, β', σ', h1, h2, h3, h4, hq _ _ h5⟩⟩

def argG : List V → Nat → G
  | [], _ => []
  | v :: r, i => (i, v) :: argG r (i + 1)

theorem argG_get : ∀ (vs : List V) (i t : Nat), (argG vs i).get t = if i ≤ t then vs.getD (t - i) .junk else .junk
  | [], i, t => by simp [argG, G.get]
  | v :: r, i, t => by
    simp only [argG, G.get_cons]
    by_cases h : t = i
    · subst h; simp
    · rw [if_neg h, argG_get r (i + 1) t]
      by_cases hi : i ≤ t
      · rw [if_pos hi, if_pos (by omega)]
        obtain ⟨k, rfl⟩ : ∃ k, t = i + 1 + k := ⟨t - (i + 1), by omega⟩
        have h1 : i + 1 + k - (i + 1) = k := by omega
        have h2 : i + 1 + k - i = k + 1 := by omega
        rw [h1, h2]; rfl
      · rw [if_neg hi, if_neg (by omega)]

/-- The end of a function's body: what its results are. -/
def retQ (E : Env) (fn : Func) (Q : V → St → Prop) : Q3
  | .normal, g, s | .ret, g, s => ∃ v, Q v s ∧ ∀ N β a w, AR N β g a → Inv E β s w → ∃ u, (results fn a.tmps).run E.P w = .ok u w ∧ Rel β v u
  | _, _, _ => False

theorem Fn.body {E : Env} {f : FuncId} {fn : Func} {c : Code} {args : List V} {σ : St} {Q : V → St → Prop}
    (hf : E.P.funcs[f]? = some fn) (hb : fn.body = some c) (hnm : (fn.name == "runtime.NumGoroutine") = false) {N : Nat} (hN : fn.ntmps = N) (hn : Nat.ble args.length N = true)
    (h : W E N c (argG args 0) σ (retQ E fn Q)) : Fn E f args σ Q := by
  subst hN
  have hn := Nat.le_of_ble_eq_true hn
  refine ⟨⟨fn, hf, hnm, by rw [hb]; rfl⟩, ?_⟩
  intro β w us hi hr
  refine calls_of_wp hf hb (wp_mono (h β _ w ⟨?_, rfl, ?_⟩ hi) ?_)
  · simp [hr.1]; omega
  · intro t
    rw [argG_get]
    simp only [Nat.zero_le, if_true, Nat.sub_zero]
    by_cases ht : t < us.size
    · have := hr.2 t
      simpa [Array.getD_eq_getD_getElem?, Array.getElem?_append_left ht] using this
    · have : args.getD t .junk = .junk := by simp [List.getD, List.getElem?_eq_none (show args.length ≤ t by rw [← hr.1]; omega)]
      rw [this]; exact .junk _
  · rintro e a' w' ⟨β', g', σ', hle, ha', hi', hq⟩
    cases e with
    | normal =>
      obtain ⟨v, hv, hres⟩ := hq
      obtain ⟨u, hu, hrel⟩ := hres _ β' a' w' ha' hi'
      exact ⟨ha'.defers, u, hu, v, u, β', σ', rfl, hle, hrel, hi', hv⟩
    | ret =>
      obtain ⟨v, hv, hres⟩ := hq
      obtain ⟨u, hu, hrel⟩ := hres _ β' a' w' ha' hi'
      exact ⟨ha'.defers, u, hu, v, u, β', σ', rfl, hle, hrel, hi', hv⟩
    | exit id => exact hq.elim
    | goto l => exact hq.elim
    | panic ch => exact hq.elim
    | outgrown => exact hq.elim

end Go.Vam

/- Vam: one operation: OpS, and the rules for numbers, moves, tests, reads. -/
namespace Go.Vam
open Go Go.RowKit

theorem Oper.wp_exits {P : Program} {o : Oper} {a : Act} {w : World} {K : Act → World → Prop} {Q : Exit → Act → World → Prop} (h : o.wp P a w K (fun _ _ _ => False)) : o.wp P a w K Q := by
  unfold Oper.wp at *
  generalize (execOp a.eval o).run P w = r at *
  cases r with
  | ok n w' =>
    cases n <;> simp only [Oper.upon] at h ⊢ <;>
      first
        | exact h
        | exact Calls.mono h (fun e w'' he => by
            cases e with
            | returned v => exact he
            | panicked c => exact he.elim
            | outgrown => obtain ⟨_, _, hf⟩ := he; exact hf.elim)
  | halt x w' => cases x <;> simp only [Oper.upon] at h ⊢

def OpS (E : Env) (N : Nat) (o : Oper) (g : G) (σ : St) (K : V → St → Prop) : Prop :=
  ∀ β a w, AR N β g a → Inv E β σ w →
    o.wp E.P a w (fun a' w' => ∃ β' v u σ', β.le β' ∧ a' = a.put o.dst u ∧ Rel β' v u ∧ Inv E β' σ' w' ∧ K v σ') (fun _ _ _ => False)

/-- The operation's value is v, and the world stays as it is. -/
def Pv (E : Env) (N : Nat) (o : Oper) (g : G) (σ : St) (v : V) : Prop :=
  ∀ β a w, AR N β g a → Inv E β σ w → ∃ u, (execOp a.eval o).run E.P w = .ok (.value u) w ∧ Rel β v u

section
variable {E : Env} {N : Nat} {o : Oper} {g : G} {σ : St} {ops : Array Oper} {rest : List Oper} {Q : Q3}

theorem OpS.of_value {K : V → St → Prop} (h : ∀ β a w, AR N β g a → Inv E β σ w → ∃ u w' β' v σ', (execOp a.eval o).run E.P w = .ok (.value u) w' ∧ β.le β' ∧ Rel β' v u ∧ Inv E β' σ' w' ∧ K v σ') :
    OpS E N o g σ K := by
  intro β a w ha hi
  obtain ⟨u, w', β', v, σ', hr, h1, h2, h3, h4⟩ := h β a w ha hi
  simp only [Oper.wp, hr, Oper.upon]
  exact ⟨β', v, u, σ', h1, rfl, h2, h3, h4⟩

theorem OpS.of_skip {K : V → St → Prop} (h : ∀ β a w, AR N β g a → Inv E β σ w → ∃ w' β' σ', (execOp a.eval o).run E.P w = .ok .skip w' ∧ β.le β' ∧ Inv E β' σ' w' ∧ K .junk σ') :
    OpS E N o g σ K := by
  intro β a w ha hi
  obtain ⟨w', β', σ', hr, h1, h3, h4⟩ := h β a w ha hi
  simp only [Oper.wp, hr, Oper.upon]
  exact ⟨β', .junk, undef, σ', h1, rfl, .junk _, h3, h4⟩

/-- The same, with the number of the next object. -/
def OpI (E : Env) (N : Nat) (o : Oper) (g : G) (σ : St) (n : Nat) (K : V → St → Nat → Prop) : Prop :=
  ∀ β a w, AR N β g a → Inv E β σ w → β.next = n →
    o.wp E.P a w (fun a' w' => ∃ β' v u σ', β.le β' ∧ β.keep β' ∧ a' = a.put o.dst u ∧ Rel β' v u ∧ Inv E β' σ' w' ∧ K v σ' β'.next) (fun _ _ _ => False)

theorem OpI.of_value {n : Nat} {K : V → St → Nat → Prop} (h : ∀ β a w, AR N β g a → Inv E β σ w → β.next = n → ∃ u w' β' v σ', (execOp a.eval o).run E.P w = .ok (.value u) w' ∧ β.le β' ∧ β.keep β' ∧ Rel β' v u ∧ Inv E β' σ' w' ∧ K v σ' β'.next) :
    OpI E N o g σ n K := by
  intro β a w ha hi hn
  obtain ⟨u, w', β', v, σ', hr, h1, h0, h2, h3, h4⟩ := h β a w ha hi hn
  simp only [Oper.wp, hr, Oper.upon]
  exact ⟨β', v, u, σ', h1, h0, rfl, h2, h3, h4⟩

theorem OpI.of_skip {n : Nat} {K : V → St → Nat → Prop} (h : ∀ β a w, AR N β g a → Inv E β σ w → β.next = n → ∃ w' β' σ', (execOp a.eval o).run E.P w = .ok .skip w' ∧ β.le β' ∧ β.keep β' ∧ Inv E β' σ' w' ∧ K .junk σ' β'.next) :
    OpI E N o g σ n K := by
  intro β a w ha hi hn
  obtain ⟨w', β', σ', hr, h1, h0, h3, h4⟩ := h β a w ha hi hn
  simp only [Oper.wp, hr, Oper.upon]
  exact ⟨β', .junk, undef, σ', h1, h0, rfl, .junk _, h3, h4⟩

theorem OpI.pure {n : Nat} {K : V → St → Nat → Prop} {v : V} (h : Pv E N o g σ v) (k : K v σ n) : OpI E N o g σ n K :=
  OpI.of_value fun β a w ha hi hn => let ⟨u, hr, hu⟩ := h β a w ha hi; ⟨u, w, β, v, σ, hr, .refl β, .refl β, hu, hi, by rw [hn]; exact k⟩

theorem OpI.mono {n : Nat} {K K' : V → St → Nat → Prop} (hk : ∀ v s m, K v s m → K' v s m) (h : OpI E N o g σ n K) : OpI E N o g σ n K' :=
  fun β a w ha hi hn => Oper.wp_mono (fun _ _ ⟨β', v, u, σ', h1, h0, h2, h3, h4, h5⟩ => ⟨β', v, u, σ', h1, h0, h2, h3, h4, hk _ _ _ h5⟩) (h β a w ha hi hn)

theorem OpS.pure {K : V → St → Prop} {v : V} (h : Pv E N o g σ v) (k : K v σ) : OpS E N o g σ K :=
  OpS.of_value fun β a w ha hi => let ⟨u, hr, hu⟩ := h β a w ha hi; ⟨u, w, β, v, σ, hr, .refl β, hu, hi, k⟩

theorem OpS.mono {K K' : V → St → Prop} (hk : ∀ v s, K v s → K' v s) (h : OpS E N o g σ K) : OpS E N o g σ K' :=
  fun β a w ha hi => Oper.wp_mono (fun _ _ ⟨β', v, u, σ', h1, h2, h3, h4, h5⟩ => ⟨β', v, u, σ', h1, h2, h3, h4, hk _ _ h5⟩) (h β a w ha hi)

theorem WL.step (hg : o.guard = none) (hd : ∀ t, o.dst = some t → t < N) (h : OpS E N o g σ fun v s => WL E N ops rest (g.put o.dst v) s Q) : WL E N ops (o :: rest) g σ Q := by
  intro β a w ha hi
  unfold wpList
  rw [if_pos (by simp [Region.wanted, hg])]
  refine .inl (Oper.wp_exits (Oper.wp_mono ?_ (h β a w ha hi)))
  rintro a' w' ⟨β', v, u, σ', hle, rfl, hr, hi', hq⟩
  have := hq β' _ w' ((ha.mono hle).put o.dst hd hr) hi'
  revert this
  generalize a.put o.dst u = a2
  intro this
  clear hq
  exact (wpList_mono_le hle this)
where
  wpList_mono_le {β β' : Gh} (hle : β.le β') {l : List Oper} : ∀ {a : Act} {w : World}, wpList E.P ops (Post E N β' Q) l a w → wpList E.P ops (Post E N β Q) l a w := by
    induction l with
    | nil => intro a w h; exact h.le hle
    | cons o l ih =>
      intro a w h
      unfold wpList at h ⊢
      split
      · rename_i hw
        rw [if_pos hw] at h
        rcases h with h | ⟨h, a0, w0, h0⟩
        · exact .inl (wp_q hle (Oper.wp_mono (fun _ _ k => ih k) h))
        · exact .inr ⟨h, a0, w0, h0.le hle⟩
      · rename_i hw
        rw [if_neg hw] at h
        exact ih h
  wp_q {β β' : Gh} (hle : β.le β') {o : Oper} {K : Act → World → Prop} {a : Act} {w : World} (h : o.wp E.P a w K (Post E N β' Q)) : o.wp E.P a w K (Post E N β Q) := by
    unfold Oper.wp at *
    generalize (execOp a.eval o).run E.P w = r at *
    cases r with
    | ok n w' =>
      cases n <;> simp only [Oper.upon] at h ⊢ <;>
        first
          | exact h
          | exact Calls.mono h (fun e w'' he => by
              cases e with
              | returned v => exact he
              | panicked c => exact Post.le hle he
              | outgrown => obtain ⟨a0, w0, hf⟩ := he; exact ⟨a0, w0, Post.le hle hf⟩)
    | halt x w' => cases x <;> simp only [Oper.upon] at h ⊢ <;> exact Post.le hle h

/-- An operation behind a guard. -/
theorem WL.guarded {j t : Nat} {want b : Bool} (hg : o.guard = some (j, want)) (hj : (ops[j]?).bind (·.dst) = some t) (hb : g.get t = .bool b) (hd : ∀ t, o.dst = some t → t < N)
    (hy : b = want → OpS E N o g σ fun v s => WL E N ops rest (g.put o.dst v) s Q)
    (hn : b ≠ want → WL E N ops rest (g.put o.dst (.tuple [])) σ Q) : WL E N ops (o :: rest) g σ Q := by
  intro β a w ha hi
  have hy1 : yielded ops a.tmps j = some b := by
    have h1 := ha.rel t
    rw [hb] at h1
    have h2 := h1.bool_inv
    unfold yielded
    rw [hj]
    simp only [Option.bind_some]
    cases hh : a.tmps[t]? with
    | none => simp [Array.getD_eq_getD_getElem?, hh, undef] at h2
    | some x => simp [Array.getD_eq_getD_getElem?, hh] at h2; subst h2; rfl
  by_cases hbw : b = want
  · subst hbw
    have h0 := WL.step (ops := ops) (rest := rest) (Q := Q) (o := { o with guard := none }) (g := g) (σ := σ) (E := E) (N := N) rfl hd (hy rfl) β a w ha hi
    unfold wpList at h0 ⊢
    rw [if_pos (by simp [Region.wanted])] at h0
    rw [if_pos (by simp [Region.wanted, hg, hy1])]
    exact h0
  · unfold wpList
    rw [if_neg (by simp [Region.wanted, hg, hy1]; exact hbw)]
    exact hn hbw β _ w (ha.put o.dst hd (.tuple [] #[] rfl (fun i x h => by simp at h))) hi

/-- Its guard was not reached. -/
theorem WL.unguarded {j t : Nat} {want : Bool} (hg : o.guard = some (j, want)) (hj : (ops[j]?).bind (·.dst) = some t) (hb : g.get t = .tuple []) (hd : ∀ t, o.dst = some t → t < N)
    (hn : WL E N ops rest (g.put o.dst (.tuple [])) σ Q) : WL E N ops (o :: rest) g σ Q := by
  intro β a w ha hi
  have hy1 : yielded ops a.tmps j = none := by
    have h1 := ha.rel t
    rw [hb] at h1
    unfold yielded
    rw [hj]
    simp only [Option.bind_some]
    cases hh : a.tmps[t]? with
    | none => rfl
    | some x =>
      simp [Array.getD_eq_getD_getElem?, hh] at h1
      cases h1; rfl
  unfold wpList
  rw [if_neg (by simp [Region.wanted, hg, hy1])]
  exact hn β _ w (ha.put o.dst hd (.tuple [] #[] rfl (fun i x h => by simp at h))) hi

/-- The everyday step: no guard, a plain value. -/
theorem WL.c {v : V} {d : Nat} (h : Pv E N o g σ v) (hg : o.guard = none) (ho : o.dst = some d) (hd : Nat.ble (d + 1) N = true) (k : WL E N ops rest ((d, v) :: g) σ Q) : WL E N ops (o :: rest) g σ Q :=
  WL.step hg (fun t ht => by rw [ho] at ht; cases ht; exact Nat.le_of_ble_eq_true hd) (OpS.pure h (by rw [ho]; exact k))

/-- A step that changes more than a temporary. -/
theorem WL.e {d : Nat} (hg : o.guard = none) (ho : o.dst = some d) (hd : Nat.ble (d + 1) N = true) (h : OpS E N o g σ fun v s => WL E N ops rest ((d, v) :: g) s Q) : WL E N ops (o :: rest) g σ Q :=
  WL.step hg (fun t ht => by rw [ho] at ht; cases ht; exact Nat.le_of_ble_eq_true hd) (by rw [ho]; exact h)

theorem WL.e0 (hg : o.guard = none) (ho : o.dst = none) (h : OpS E N o g σ fun _ s => WL E N ops rest g s Q) : WL E N ops (o :: rest) g σ Q :=
  WL.step hg (fun t ht => by rw [ho] at ht; cases ht) (by rw [ho]; exact h)

theorem WL.s {d : Nat} {K : V → St → Prop} (h : OpS E N o g σ K) (hg : o.guard = none) (ho : o.dst = some d) (hd : Nat.ble (d + 1) N = true) (k : ∀ v s, K v s → WL E N ops rest ((d, v) :: g) s Q) : WL E N ops (o :: rest) g σ Q :=
  WL.step hg (fun t ht => by rw [ho] at ht; cases ht; exact Nat.le_of_ble_eq_true hd) (h.mono fun v s hk => by rw [ho]; exact k v s hk)

theorem WL.s0 {K : V → St → Prop} (h : OpS E N o g σ K) (hg : o.guard = none) (ho : o.dst = none) (k : ∀ v s, K v s → WL E N ops rest g s Q) : WL E N ops (o :: rest) g σ Q :=
  WL.step hg (fun t ht => by rw [ho] at ht; cases ht) (h.mono fun v s hk => by rw [ho]; exact k v s hk)

/-! Values. -/

theorem Pv.of {u : V} (hu : ∀ β a w, AR N β g a → Inv E β σ w → ∃ r, (execOp a.eval o).run E.P w = .ok (.value r) w ∧ Rel β u r) : Pv E N o g σ u := hu

theorem p_move {x : Operand} {v : V} (ho : o.op = .move x) (hx : g.evO x = some (v)) : Pv E N o g σ v :=
  fun β a w ha _ => ⟨a.eval x, by simp [execOp, ho], ha.evO hx⟩

theorem p_assign {x : Operand} {v : V} (ho : o.op = .assign x) (hx : g.evO x = some (v)) : Pv E N o g σ v :=
  fun β a w ha _ => ⟨a.eval x, by simp [execOp, ho], ha.evO hx⟩

theorem p_pick {c x y : Operand} {b : Bool} {v : V} (ho : o.op = .pick c x y) (hc : g.evO c = some (.bool b)) (hv : (cond b (g.evO x) (g.evO y)) = some v) : Pv E N o g σ v := by
  intro β a w ha _
  have h1 := ha.evO hc
  have h2 := h1.bool_inv
  refine ⟨cond b (a.eval x) (a.eval y), ?_, ?_⟩
  · cases b <;> simp [execOp, ho, h2, asBool]
  · cases b
    · exact ha.evO hv
    · exact ha.evO hv

def binI (op : BinOp) (k : IntKind) (x y : Int) : Option V :=
  match op with
  | .add => some (.int k (k.wrap (x + y)))
  | .sub => some (.int k (k.wrap (x - y)))
  | .mul => some (.int k (k.wrap (x * y)))
  | .and => some (.int k (k.wrap (BitVec.ofInt k.bits x &&& BitVec.ofInt k.bits y).toNat))
  | .or => some (.int k (k.wrap (BitVec.ofInt k.bits x ||| BitVec.ofInt k.bits y).toNat))
  | .xor => some (.int k (k.wrap (BitVec.ofInt k.bits x ^^^ BitVec.ofInt k.bits y).toNat))
  | .andNot => some (.int k (k.wrap (BitVec.ofInt k.bits x &&& ~~~BitVec.ofInt k.bits y).toNat))
  | .eql => some (.bool (decide (x = y)))
  | .neq => some (.bool (decide (x ≠ y)))
  | .lss => some (.bool (decide (x < y)))
  | .leq => some (.bool (decide (x ≤ y)))
  | .gtr => some (.bool (decide (y < x)))
  | .geq => some (.bool (decide (y ≤ x)))
  | _ => none

theorem p_bin {op : BinOp} {t u : TypeId} {x y : Operand} {k : IntKind} {m n : Int} {v : V} (ho : o.op = .binOp op t x y u) (hx : g.evO x = some (.int k m)) (hy : g.evO y = some (.int k n))
    (hv : binI op k m n = some v) : Pv E N o g σ v := by
  intro β a w ha _
  have h3 := (ha.evO hx).int_inv
  have h4 := (ha.evO hy).int_inv
  cases op <;> simp only [binI, reduceCtorEq, Option.some.injEq] at hv <;> subst hv
  all_goals simp [execOp, ho, h3, h4, Go.binOp, eqGuard, Op.intArith, Op.intBits, Op.intCmp]
  all_goals first | exact .int _ _ | skip
  all_goals first
    | (have : (m == n) = decide (m = n) := rfl; rw [this]; exact .bool _)
    | (have : (m != n) = decide (m ≠ n) := by (by_cases h : m = n <;> simp [h]); rw [this]; exact .bool _)
    | exact .bool _

end
end Go.Vam

/- Vam: division, shifts, strings, conversions, tests of pointers, tuples. -/
namespace Go.Vam
open Go Go.RowKit

section
variable {E : Env} {N : Nat} {o : Oper} {g : G} {σ : St} {ops : Array Oper} {rest : List Oper} {Q : Q3}

theorem p_quo {t u : TypeId} {x y : Operand} {k : IntKind} {m n : Int} {v : V} (ho : o.op = .binOp .quo t x y u) (hx : g.evO x = some (.int k m)) (hy : g.evO y = some (.int k n))
    (hn : n ≠ 0) (hv : some (V.int k (k.wrap (m.tdiv n))) = some v) : Pv E N o g σ v := by
  intro β a w ha _
  have h1 := ha.evO hx
  have h2 := ha.evO hy
  have h3 := h1.int_inv
  have h4 := h2.int_inv
  cases hv
  exact ⟨_, by simp [execOp, ho, h3, h4, Go.binOp, eqGuard, Op.intDiv, hn], .int _ _⟩

theorem p_rem {t u : TypeId} {x y : Operand} {k : IntKind} {m n : Int} {v : V} (ho : o.op = .binOp .rem t x y u) (hx : g.evO x = some (.int k m)) (hy : g.evO y = some (.int k n))
    (hn : n ≠ 0) (hv : some (V.int k (m.tmod n)) = some v) : Pv E N o g σ v := by
  intro β a w ha _
  have h1 := ha.evO hx
  have h2 := ha.evO hy
  have h3 := h1.int_inv
  have h4 := h2.int_inv
  cases hv
  exact ⟨_, by simp [execOp, ho, h3, h4, Go.binOp, eqGuard, Op.intDiv, hn], .int _ _⟩

theorem p_shl {t u : TypeId} {x y : Operand} {k k' : IntKind} {m n : Int} {v : V} (ho : o.op = .binOp .shl t x y u) (hx : g.evO x = some (.int k m)) (hy : g.evO y = some (.int k' n))
    (hn : 0 ≤ n) (hv : some (V.int k (k.wrap (m * 2 ^ (min n.toNat k.bits)))) = some v) : Pv E N o g σ v := by
  intro β a w ha _
  have h1 := ha.evO hx
  have h2 := ha.evO hy
  have h3 := h1.int_inv
  have h4 := h2.int_inv
  cases hv
  have hn' : ¬ n < 0 := by omega
  exact ⟨_, by simp [execOp, ho, h3, h4, Go.binOp, eqGuard, Op.shift, hn'], .int _ _⟩

theorem p_shr {t u : TypeId} {x y : Operand} {k k' : IntKind} {m n : Int} {v : V} (ho : o.op = .binOp .shr t x y u) (hx : g.evO x = some (.int k m)) (hy : g.evO y = some (.int k' n))
    (hn : 0 ≤ n) (hv : some (V.int k (m.fdiv (2 ^ (min n.toNat k.bits)))) = some v) : Pv E N o g σ v := by
  intro β a w ha _
  have h1 := ha.evO hx
  have h2 := ha.evO hy
  have h3 := h1.int_inv
  have h4 := h2.int_inv
  cases hv
  have hn' : ¬ n < 0 := by omega
  exact ⟨_, by simp [execOp, ho, h3, h4, Go.binOp, eqGuard, Op.shift, hn'], .int _ _⟩

theorem p_not {t : TypeId} {x : Operand} {b : Bool} {v : V} (ho : o.op = .unOp .not t x) (hx : g.evO x = some (.bool b)) (hv : some (V.bool (!b)) = some v) : Pv E N o g σ v := by
  intro β a w ha _
  have h1 := ha.evO hx
  cases hv
  exact ⟨_, by simp [execOp, ho, h1.bool_inv, Op.unary], .bool _⟩

theorem p_neg {t : TypeId} {x : Operand} {k : IntKind} {n : Int} {v : V} (ho : o.op = .unOp .neg t x) (hx : g.evO x = some (.int k n)) (hv : some (V.int k (k.wrap (0 - n))) = some v) : Pv E N o g σ v := by
  intro β a w ha _
  have h1 := ha.evO hx
  cases hv
  exact ⟨_, by simp [execOp, ho, h1.int_inv, Op.unary, Op.intArith], .int _ _⟩

theorem p_com {t : TypeId} {x : Operand} {k : IntKind} {n : Int} {v : V} (ho : o.op = .unOp .xor t x) (hx : g.evO x = some (.int k n))
    (hv : some (V.int k (k.wrap (BitVec.ofInt k.bits (if k.signed then -1 else k.max) ^^^ BitVec.ofInt k.bits n).toNat)) = some v) : Pv E N o g σ v := by
  intro β a w ha _
  have h1 := ha.evO hx
  cases hv
  exact ⟨_, by simp [execOp, ho, h1.int_inv, Op.unary, Op.intBits], .int _ _⟩

theorem p_eqb {t u : TypeId} {x y : Operand} {m n : Bool} {v : V} (ho : o.op = .binOp .eql t x y u) (ht : E.P.underlying t = some .bool) (hx : g.evO x = some (.bool m)) (hy : g.evO y = some (.bool n)) (hv : some (V.bool (m == n)) = some v) : Pv E N o g σ v := by
  intro β a w ha _
  have h1 := ha.evO hx
  have h2 := ha.evO hy
  cases hv
  exact ⟨_, by simp [execOp, ho, h1.bool_inv, h2.bool_inv, Go.binOp, eqGuard, run_equal_bool _ _ _ _ ht], .bool _⟩

theorem p_neb {t u : TypeId} {x y : Operand} {m n : Bool} {v : V} (ho : o.op = .binOp .neq t x y u) (ht : E.P.underlying t = some .bool) (hx : g.evO x = some (.bool m)) (hy : g.evO y = some (.bool n)) (hv : some (V.bool (m != n)) = some v) : Pv E N o g σ v := by
  intro β a w ha _
  have h1 := ha.evO hx
  have h2 := ha.evO hy
  cases hv
  refine ⟨.bool (m != n), ?_, .bool _⟩
  simp [execOp, ho, h1.bool_inv, h2.bool_inv, Go.binOp, eqGuard, run_equal_bool _ _ _ _ ht]
  cases m <;> cases n <;> rfl

/-! Strings. -/

theorem data_toList (b : ByteArray) : b.toList = b.data.toList := by
  have key : ∀ n i (r : List UInt8), b.size - i = n → i ≤ b.size → ByteArray.toList.loop b i r = r.reverse ++ b.data.toList.drop i := by
    intro n
    induction n with
    | zero =>
      intro i r hn hi
      unfold ByteArray.toList.loop
      have h1 : ¬ i < b.size := by omega
      rw [if_neg h1]
      have h2 : b.data.toList.length = b.size := by rw [Array.length_toList]; rfl
      rw [List.drop_eq_nil_of_le (by omega), List.append_nil]
    | succ n ih =>
      intro i r hn hi
      unfold ByteArray.toList.loop
      have hlt : i < b.size := by omega
      rw [if_pos hlt, ih (i + 1) _ (by omega) (by omega)]
      have h2 : b.data.toList.length = b.size := by rw [Array.length_toList]; rfl
      have hl : i < b.data.toList.length := by omega
      rw [List.drop_eq_getElem_cons hl]
      have hg : b.get! i = b.data.toList[i] := by
        show b.data[i]! = _
        rw [getElem!_pos b.data i (by rw [← Array.length_toList]; exact hl), Array.getElem_toList]
      rw [hg, List.reverse_cons, List.append_assoc]
      rfl
  exact (key (b.size - 0) 0 [] rfl (Nat.zero_le _)).trans (by rw [List.reverse_nil, List.nil_append, List.drop_zero])

theorem toList_mk (s : List UInt8) : (ByteArray.mk s.toArray).toList = s := by rw [data_toList]

theorem beq_dec (m n : List UInt8) : (m == n) = decide (m = n) := by
  by_cases h : m = n
  · subst h; simp
  · simp [h]

theorem p_eqs {t u : TypeId} {x y : Operand} {m n : List UInt8} {v : V} (ho : o.op = .binOp .eql t x y u) (hx : g.evO x = some (.str m)) (hy : g.evO y = some (.str n)) (hv : some (V.bool (decide (m = n))) = some v) : Pv E N o g σ v := by
  intro β a w ha _
  have h1 := ha.evO hx
  have h2 := ha.evO hy
  cases hv
  refine ⟨.bool (decide (m = n)), ?_, .bool _⟩
  simp [execOp, ho, h1.str_inv, h2.str_inv, Go.binOp, eqGuard, Op.stringOp, beq_dec]

theorem p_nes {t u : TypeId} {x y : Operand} {m n : List UInt8} {v : V} (ho : o.op = .binOp .neq t x y u) (hx : g.evO x = some (.str m)) (hy : g.evO y = some (.str n)) (hv : some (V.bool (!(decide (m = n)))) = some v) : Pv E N o g σ v := by
  intro β a w ha _
  have h1 := ha.evO hx
  have h2 := ha.evO hy
  cases hv
  refine ⟨.bool (!(decide (m = n))), ?_, .bool _⟩
  simp [execOp, ho, h1.str_inv, h2.str_inv, Go.binOp, eqGuard, Op.stringOp, beq_dec]

theorem p_lts {t u : TypeId} {x y : Operand} {m n : List UInt8} {v : V} (ho : o.op = .binOp .lss t x y u) (hx : g.evO x = some (.str m)) (hy : g.evO y = some (.str n)) (hv : some (V.bool (Op.bytesLess m n)) = some v) : Pv E N o g σ v := by
  intro β a w ha _
  have h1 := ha.evO hx
  have h2 := ha.evO hy
  cases hv
  refine ⟨.bool (Op.bytesLess m n), ?_, .bool _⟩
  simp [execOp, ho, h1.str_inv, h2.str_inv, Go.binOp, eqGuard, Op.stringOp]

theorem p_gts {t u : TypeId} {x y : Operand} {m n : List UInt8} {v : V} (ho : o.op = .binOp .gtr t x y u) (hx : g.evO x = some (.str m)) (hy : g.evO y = some (.str n)) (hv : some (V.bool (!(Op.bytesLess m n || decide (m = n)))) = some v) : Pv E N o g σ v := by
  intro β a w ha _
  have h1 := ha.evO hx
  have h2 := ha.evO hy
  cases hv
  refine ⟨.bool (!(Op.bytesLess m n || decide (m = n))), ?_, .bool _⟩
  simp [execOp, ho, h1.str_inv, h2.str_inv, Go.binOp, eqGuard, Op.stringOp, beq_dec]

theorem p_adds {t u : TypeId} {x y : Operand} {m n : List UInt8} {v : V} (ho : o.op = .binOp .add t x y u) (hx : g.evO x = some (.str m)) (hy : g.evO y = some (.str n))
    (hl : m.length + n.length ≤ 9223372036854775807) (hv : some (V.str (m ++ n)) = some v) : Pv E N o g σ v := by
  intro β a w ha _
  have h1 := ha.evO hx
  have h2 := ha.evO hy
  cases hv
  have hl' : ¬ (9223372036854775807 < (m.length : Int) + (n.length : Int)) := by omega
  refine ⟨.string ⟨(m ++ n).toArray⟩, ?_, .str _⟩
  have hs : ∀ l : List UInt8, (ByteArray.mk l.toArray).size = l.length := fun l => by simp [ByteArray.size]
  have happ : (ByteArray.mk m.toArray) ++ (ByteArray.mk n.toArray) = ByteArray.mk (m ++ n).toArray := by
    apply ByteArray.ext
    simp [ByteArray.data_append]
  simp [execOp, ho, h1.str_inv, h2.str_inv, Go.binOp, eqGuard, Op.stringOp, hs, hl', happ, IntKind.max, IntKind.bits, IntKind.signed]

/-! Conversions. -/

theorem p_conv {s d : TypeId} {x : Operand} {k k' : IntKind} {n : Int} {v : V} (ho : o.op = .convert s d x) (hs : ∃ j, E.P.underlying s = some (.int j)) (hd : E.P.underlying d = some (.int k')) (hx : g.evO x = some (.int k n))
    (hv : some (V.int k' (k'.wrap n)) = some v) : Pv E N o g σ v := by
  intro β a w ha _
  have h1 := ha.evO hx
  cases hv
  obtain ⟨j, hs⟩ := hs
  exact ⟨_, by simp [execOp, ho, h1.int_inv, Go.convert, run_underlying hs, run_underlying hd, Conv.intToInt], .int _ _⟩

/-! Tuples. -/

theorem p_extract {x : Operand} {i : Nat} {vs : List V} {v : V} (ho : o.op = .extract x i) (hx : g.evO x = some (.tuple vs)) (hv : vs[i]? = some v) : Pv E N o g σ v := by
  intro β a w ha _
  have h1 := ha.evO hx
  generalize hu : a.eval x = u at h1
  cases h1 with
  | tuple _ arr hs hc =>
    have hlt : i < arr.size := by rw [hs]; exact (List.getElem?_eq_some_iff.1 hv).1
    refine ⟨arr[i], ?_, ?_⟩
    · simp [execOp, ho, hu, Instr.extract, hlt]
    · have := hc i v hv
      simpa [Array.getD_eq_getD_getElem?, hlt] using this

end
end Go.Vam

/- Vam: the invariant when the world grows, or one object's block changes. -/
namespace Go.Vam
open Go Go.RowKit

section
variable {E : Env} {β : Gh} {σ : St} {w w' : World}

theorem heap_new (w : World) (o : Obj) : (w.alloc o).heap[w.heap.size]? = some o := by show (w.heap.push o)[w.heap.size]? = some o; simp

theorem ORel.mono {β' : Gh} {l : Loc} (hle : β.le β') (hro : ∀ r, l.block? = some r → β'.ro r = β.ro r) {x : O} (h : ORel E β w x l) : ORel E β' w x l := by
  cases x <;> cases l <;> simp only [ORel] at h ⊢
  · obtain ⟨a, h1, h2, h3⟩ := h
    exact ⟨a, h1, ⟨h2.1, fun i x hx => (h2.2 i x hx).mono hle⟩, h3⟩
  · obtain ⟨h1, us, h2, h3⟩ := h
    exact ⟨h1, us, h2, fun r hr => by rw [hro r hr]; exact h3 r hr⟩
  · obtain ⟨h1, h2, us, h3, h4⟩ := h
    exact ⟨h1, h2, us, ⟨h3.1, fun i x hx => (h3.2 i x hx).mono hle⟩, h4⟩
  · obtain ⟨a, h1, h2, h3, h4⟩ := h
    refine ⟨a, h1, h2, fun i x hx => ?_, h4⟩
    obtain ⟨m, q1, q2, q3, q4⟩ := h3 i x hx
    exact ⟨m, q1, q2.mono hle, q3.mono hle, q4⟩
  · obtain ⟨mr, h1, h2⟩ := h
    exact ⟨mr, hle.loc _ _ h1, h2⟩

theorem ownsRow_same {base e size n : Nat} {v : Value} {xs : List Value} (hs : ∀ r, v.ownBlock = some r → w'.heap[r]? = w.heap[r]?) (h : w.ownsRow base e size v n xs) : w'.ownsRow base e size v n xs := by
  refine ⟨h.1, ?_⟩
  rcases h.2 with h2 | ⟨g, cap, cur, rfl, h3, h4, h5⟩
  · exact .inl h2
  · exact .inr ⟨g, cap, cur, rfl, h3, by rw [hs g rfl]; exact h4, h5⟩

theorem ORel.same {x : O} {l : Loc} (hs : ∀ r, l.block? = some r → w'.heap[r]? = w.heap[r]?) (h : ORel E β w x l) : ORel E β w' x l := by
  cases x <;> cases l <;> simp only [ORel] at h ⊢
  · obtain ⟨a, h1, h2, h3⟩ := h
    exact ⟨a, by rw [hs _ rfl]; exact h1, h2, h3⟩
  · rename_i b n c
    obtain ⟨h1, us, h2, h3⟩ := h
    refine ⟨h1, us, ownsRow_same (fun r hr => hs r ?_) h2, h3⟩
    cases b with
    | none => simp [sliceAt, Value.ownBlock] at hr
    | some b => simpa [sliceAt, Value.ownBlock, Loc.block?] using hr
  · rename_i e sz xs b n c
    obtain ⟨h1, h2, us, h3, h4⟩ := h
    refine ⟨h1, h2, us, h3, ownsRow_same (fun r hr => hs r ?_) h4⟩
    cases b with
    | none => simp [sliceAt, Value.ownBlock] at hr
    | some b => simpa [sliceAt, Value.ownBlock, Loc.block?] using hr
  · obtain ⟨a, h1, h2⟩ := h
    exact ⟨a, by rw [hs _ rfl]; exact h1, h2⟩
  · obtain ⟨mr, h1, h2⟩ := h
    exact ⟨mr, h1, by rw [hs _ rfl]; exact h2⟩

/-- A live object's block lies in the heap. -/
theorem ORel.lt {x : O} {l : Loc} {r : Nat} (h : ORel E β w x l) (hr : l.block? = some r) : r < w.heap.size := by
  have key : ∀ {o : Obj}, w.heap[r]? = some o → r < w.heap.size := fun h => (Array.getElem?_eq_some_iff.1 h).1
  cases x <;> cases l <;> simp only [ORel] at h
  · obtain ⟨a, h1, _⟩ := h
    cases hr; exact key h1
  · rename_i b n c
    obtain ⟨h1, us, h2, h3⟩ := h
    simp only [Loc.block?] at hr
    subst hr
    exact (h2.lt r rfl).2
  · rename_i e sz xs b n c
    obtain ⟨h1, h2, us, h3, h4⟩ := h
    simp only [Loc.block?] at hr
    subst hr
    exact (h4.lt r rfl).2
  · obtain ⟨a, h1, _⟩ := h
    cases hr; exact key h1
  · obtain ⟨mr, _, h1⟩ := h
    cases hr; exact key h1

theorem Inv.cell (h : Inv E β σ w) {b i : Nat} {c : List Value} {u : Value} (hb : β.ro b = some c) (hx : c[i]? = some u) : w.cell? ⟨b, i, none⟩ = some u := by
  obtain ⟨arr, e, fr, he, hp⟩ := h.ro b c hb
  rw [cell_of_row w b i arr e fr he]
  simpa using prefix_get hp hx

theorem Inv.ro_lt (h : Inv E β σ w) {b : Nat} {c : List Value} (hb : β.ro b = some c) : b < w.heap.size := by
  obtain ⟨arr, e, fr, he, _⟩ := h.ro b c hb
  exact (Array.getElem?_eq_some_iff.1 he).1

/-- The world grew; nothing that was there has changed. -/
structure Grew (w w' : World) : Prop where
  os : w'.os = w.os
  tape : w'.tape = w.tape
  output : w'.output = w.output
  size : w.heap.size ≤ w'.heap.size
  block : ∀ k, k < w.heap.size → w'.heap[k]? = w.heap[k]?

theorem Grew.refl (w : World) : Grew w w := ⟨rfl, rfl, rfl, Nat.le_refl _, fun _ _ => rfl⟩
theorem Grew.alloc (w : World) (o : Obj) : Grew w (w.alloc o) := ⟨rfl, rfl, rfl, by simp, fun k hk => by show (w.heap.push o)[k]? = w.heap[k]?; rw [Array.getElem?_push, if_neg (Nat.ne_of_lt hk)]⟩
theorem Grew.drew (w : World) : Grew w w.drew := ⟨rfl, rfl, rfl, Nat.le_refl _, fun _ _ => rfl⟩
theorem Grew.trans {a b c : World} (h : Grew a b) (k : Grew b c) : Grew a c :=
  ⟨k.os.trans h.os, k.tape.trans h.tape, k.output.trans h.output, Nat.le_trans h.size k.size, fun i hi => (k.block i (Nat.lt_of_lt_of_le hi h.size)).trans (h.block i hi)⟩

theorem Grew.below {B : Nat} {W : World} (h : Grew w w') (hB : B ≤ w.heap.size) (k : Below B W w) : Below B W w' :=
  k.trans ⟨h.os, h.tape, h.output, h.size, fun i hi => h.block i (Nat.lt_of_lt_of_le hi hB)⟩

theorem Inv.grew (h : Inv E β σ w) (hg : Grew w w') : Inv E β σ w' :=
  ⟨hg.below h.base h.below, Nat.le_trans h.base hg.size,
    fun b c hb => by rw [hg.block b (h.ro_lt hb)]; exact h.ro b c hb,
    fun o x hx => by
      obtain ⟨l, hl, ho⟩ := h.obj o x hx
      exact ⟨l, hl, ho.same fun r hr => hg.block r (ho.lt hr)⟩,
    h.owner, h.next, h.gl⟩

/-- A new read-only row, or more of it. -/
def Gh.addRo (β : Gh) (b : Nat) (c : List Value) : Gh := { β with ro := fun k => if k = b then some c else β.ro k }

theorem Gh.addRo_le {b : Nat} {c : List Value} (hb : ∀ d, β.ro b = some d → d <+: c) : β.le (β.addRo b c) :=
  ⟨fun k x hk => by
    simp only [Gh.addRo]
    by_cases h : k = b
    · subst h; rw [if_pos rfl]; exact ⟨c, rfl, hb x hk⟩
    · rw [if_neg h]; exact ⟨x, hk, List.prefix_refl x⟩, fun _ _ h => h⟩

theorem Gh.addRo_new {b : Nat} {c : List Value} (hb : β.ro b = none) : β.le (β.addRo b c) := Gh.addRo_le fun d hd => by rw [hb] at hd; cases hd

theorem Inv.addRo (h : Inv E β σ w) {b : Nat} {c : List Value} {arr : Array Value} {e : TypeId} {fr : Nat × Nat} (hw : w.heap[b]? = some (.cells arr e fr)) (hc : c <+: arr.toList) (hb : ∀ d, β.ro b = some d → d <+: c)
    (hfree : ∀ o x l, σ o = some x → β.loc o = some l → l.block? ≠ some b) : Inv E (β.addRo b c) σ w :=
  ⟨h.below, h.base,
    fun k x hk => by
      simp only [Gh.addRo] at hk
      by_cases hkb : k = b
      · subst hkb; rw [if_pos rfl] at hk; cases hk; exact ⟨arr, e, fr, hw, hc⟩
      · rw [if_neg hkb] at hk; exact h.ro k x hk,
    fun o x hx => by
      obtain ⟨l, hl, ho⟩ := h.obj o x hx
      refine ⟨l, hl, ho.mono (Gh.addRo_le hb) fun r hr => ?_⟩
      have : r ≠ b := fun e => hfree o x l hx hl (by rw [hr, e])
      simp only [Gh.addRo]; rw [if_neg this],
    fun o x l r hx hl hr => by
      obtain ⟨h1, h2, h3⟩ := h.owner o x l r hx hl hr
      refine ⟨h1, h2, fun ht => ?_⟩
      simp only [Gh.addRo]
      have : r ≠ b := fun e => hfree o x l hx hl (by rw [hr, e])
      rw [if_neg this]; exact h3 ht,
    h.next, fun k cs hk => (h.gl k cs hk).mono (Gh.addRo_le hb)⟩

/-- A new object. -/
def Gh.addObj (β : Gh) (p : Nat) (l : Loc) : Gh :=
  { β with loc := fun k => if k = p then some l else β.loc k, own := fun r => if l.block? = some r then some p else β.own r, next := max β.next (p + 1) }

theorem Gh.addObj_le {p : Nat} (hn : β.loc p = none) (l : Loc) : β.le (β.addObj p l) :=
  ⟨fun _ c h => ⟨c, h, List.prefix_refl c⟩, fun o x ho => by
    simp only [Gh.addObj]
    by_cases h : o = p
    · subst h; rw [hn] at ho; cases ho
    · rw [if_neg h]; exact ho⟩

theorem Gh.addObj_keep (l : Loc) : β.keep (β.addObj β.next l) :=
  ⟨by simp only [Gh.addObj]; omega, fun o ho => by simp only [Gh.addObj]; rw [if_neg (by omega)]⟩

theorem Gh.addObj_next (l : Loc) : (β.addObj β.next l).next = β.next + 1 := by simp only [Gh.addObj]; omega

theorem Gh.addRo_keep (b : Nat) (c : List Value) : β.keep (β.addRo b c) := ⟨Nat.le_refl _, fun _ _ => rfl⟩

theorem Inv.free (h : Inv E β σ w) {p : Nat} (hp : β.loc p = none) : σ p = none := by
  cases hs : σ p with
  | none => rfl
  | some x =>
    obtain ⟨l, hl, _⟩ := h.obj _ x hs
    rw [hp] at hl; cases hl

theorem Inv.fresh (h : Inv E β σ w) : σ β.next = none := by
  cases hs : σ β.next with
  | none => rfl
  | some x =>
    obtain ⟨l, hl, _⟩ := h.obj _ x hs
    rw [h.next _ (Nat.le_refl _)] at hl; cases hl

theorem OpS.ofI {N : Nat} {o : Oper} {g : G} {K : V → St → Prop} (h : ∀ n, σ n = none → OpI E N o g σ n fun v s _ => K v s) : OpS E N o g σ K :=
  fun β a w ha hi => Oper.wp_mono (fun _ _ ⟨β', v, u, σ', h1, _, h2, h3, h4, h5⟩ => ⟨β', v, u, σ', h1, h2, h3, h4, h5⟩) (h β.next hi.fresh β a w ha hi rfl)

theorem Inv.addObj (h : Inv E β σ w) {p : Nat} (hp : β.loc p = none) (x : O) (l : Loc) (ho : ORel E (β.addObj p l) w x l)
    (hb : ∀ r, l.block? = some r → E.B ≤ r ∧ (x.isTok = false → β.ro r = none) ∧ ∀ o y l', σ o = some y → β.loc o = some l' → l'.block? ≠ some r) : Inv E (β.addObj p l) (σ.set p x) w :=
  ⟨h.below, h.base, h.ro,
    fun o y hy => by
      simp only [St.set] at hy
      by_cases hon : o = p
      · subst hon; rw [if_pos rfl] at hy; cases hy
        exact ⟨l, by simp [Gh.addObj], ho⟩
      · rw [if_neg hon] at hy
        obtain ⟨l', hl', ho'⟩ := h.obj o y hy
        exact ⟨l', by simp only [Gh.addObj]; rw [if_neg hon]; exact hl', ho'.mono (Gh.addObj_le hp l) fun _ _ => rfl⟩,
    fun o y l' r hy hl' hr => by
      simp only [St.set] at hy
      simp only [Gh.addObj] at hl' ⊢
      by_cases hon : o = p
      · subst hon
        rw [if_pos rfl] at hl' hy; cases hl'; cases hy
        obtain ⟨h1, h2, _⟩ := hb r hr
        exact ⟨h1, by rw [if_pos hr], h2⟩
      · rw [if_neg hon] at hy hl'
        obtain ⟨h1, h2, h3⟩ := h.owner o y l' r hy hl' hr
        refine ⟨h1, ?_, h3⟩
        have : l.block? ≠ some r := fun e => (hb r e).2.2 o y l' hy hl' hr
        rw [if_neg this]; exact h2,
    fun o ho' => by
      simp only [Gh.addObj] at ho' ⊢
      rw [if_neg (by omega)]
      exact h.next o (by omega),
    fun k cs hk => (h.gl k cs hk).mono (Gh.addObj_le hp l)⟩

/-- One object's block changes. -/
theorem Inv.setObj (h : Inv E β σ w) {o : Nat} {x y : O} {l : Loc} {r : Nat} (hx : σ o = some x) (hxt : x.isTok = false) (hl : β.loc o = some l) (hr : l.block? = some r)
    (hos : w'.os = w.os) (ht : w'.tape = w.tape) (hout : w'.output = w.output) (hsz : w.heap.size ≤ w'.heap.size) (hblk : ∀ k, k < w.heap.size → k ≠ r → w'.heap[k]? = w.heap[k]?)
    (hy : ORel E β w' y l) : Inv E β (σ.set o y) w' := by
  obtain ⟨hB, hown, hro⟩ := h.owner o x l r hx hl hr
  have hro := hro hxt
  refine ⟨h.below.trans ⟨hos, ht, hout, hsz, fun k hk => hblk k (Nat.lt_of_lt_of_le hk h.base) (by omega)⟩, Nat.le_trans h.base hsz, ?_, ?_, ?_, h.next, h.gl⟩
  · intro b c hb
    have hne : b ≠ r := fun e => by subst e; rw [hro] at hb; cases hb
    rw [hblk b (h.ro_lt hb) hne]; exact h.ro b c hb
  · intro o' z hz
    simp only [St.set] at hz
    by_cases ho : o' = o
    · subst ho; rw [if_pos rfl] at hz; cases hz; exact ⟨l, hl, hy⟩
    · rw [if_neg ho] at hz
      obtain ⟨l', hl', ho'⟩ := h.obj o' z hz
      refine ⟨l', hl', ho'.same fun k hk => hblk k (ho'.lt hk) ?_⟩
      intro e
      subst e
      have := (h.owner o' z l' k hz hl' hk).2.1
      rw [hown] at this
      exact ho (Option.some.inj this.symm)
  · intro o' z l' k hz hl' hk
    simp only [St.set] at hz
    by_cases ho : o' = o
    · subst ho
      rw [if_pos rfl] at hz; cases hz
      obtain ⟨q1, q2, q3⟩ := h.owner o' x l' k hx hl' hk
      exact ⟨q1, q2, fun _ => q3 hxt⟩
    · rw [if_neg ho] at hz; exact h.owner o' z l' k hz hl' hk

theorem Inv.new_free (h : Inv E β σ w) {r : Nat} (hr : w.heap.size ≤ r) : E.B ≤ r ∧ β.ro r = none ∧ ∀ o y l', σ o = some y → β.loc o = some l' → l'.block? ≠ some r := by
  refine ⟨Nat.le_trans h.base hr, ?_, ?_⟩
  · cases hro : β.ro r with
    | none => rfl
    | some c => have := h.ro_lt hro; omega
  · intro o y l' hy hl' hb
    obtain ⟨l, hl, ho⟩ := h.obj o y hy
    rw [hl] at hl'; cases hl'
    have := ho.lt hb
    omega

/-- A variable's block is laid: a new object of cells. -/
theorem Inv.newCells (h : Inv E β σ w) {p : Nat} (hp : β.loc p = none) {e : TypeId} {cs : List V} {a : Array Value} (hr : RelL β cs a.toList) (h1 : cs.all V.one = true) :
    Inv E (β.addObj p (.cells w.heap.size)) (σ.set p (.cells e cs)) (w.alloc (.cells a e)) := by
  have hi := h.grew (Grew.alloc w (.cells a e))
  refine hi.addObj hp _ _ ?_ ?_
  · exact ⟨a, heap_new w _, ⟨hr.1, fun i x hx => (hr.2 i x hx).mono (Gh.addObj_le hp _)⟩, h1⟩
  · intro r hr
    simp only [Loc.block?, Option.some.injEq] at hr
    subst hr
    obtain ⟨q1, q2, q3⟩ := h.new_free (Nat.le_refl _)
    exact ⟨q1, fun _ => q2, q3⟩

end
end Go.Vam

/- Vam: loads, stores, addresses. -/
namespace Go.Vam
open Go Go.RowKit

/-! Facts on types, found by instance. -/

def tyLoad (P : Program) (t : TypeId) : Option (Bool × Nat) :=
  match P.underlying t, P.info? t with
  | some (.struct _), some i => some (true, i.size)
  | some (.array _ _), some i => some (true, i.size)
  | some _, some i => some (false, i.size)
  | _, _ => none

class TLoad (P : Program) (t : TypeId) (agg : outParam Bool) (sz : outParam Nat) : Prop where
  h : tyLoad P t = some (agg, sz)

def tyField (P : Program) (t : TypeId) (f : Nat) : Option (Nat × Nat) :=
  match P.underlying t with
  | some (.struct fs) => match fs[f]? with
    | some fd => match P.info? fd.type with
      | some i => some (fd.offset, i.size)
      | none => none
    | none => none
  | _ => none

class TField (P : Program) (t : TypeId) (f : Nat) (off : outParam Nat) : Prop where
  h : ∃ n, tyField P t f = some (off, n + 1)

def tySlice (P : Program) (t : TypeId) : Option (TypeId × Nat × Nat) :=
  match P.underlying t with
  | some (.slice e) => match P.info? e with
    | some i => some (e, i.size, i.bytes)
    | none => none
  | _ => none

class TSlice (P : Program) (t : TypeId) (e sz bytes : outParam Nat) : Prop where
  h : tySlice P t = some (e, sz, bytes)

def tyArr (P : Program) (t : TypeId) : Option (Nat × Nat) :=
  match P.underlying t with
  | some (.array n e) => match P.info? e with
    | some i => some (n, i.size)
    | none => none
  | _ => none

class TArr (P : Program) (t : TypeId) (n esz : outParam Nat) : Prop where
  h : tyArr P t = some (n, esz)

section
variable {P : Program}

theorem TLoad.size {t : TypeId} {agg : Bool} {sz : Nat} (h : TLoad P t agg sz) : ∃ i, P.info? t = some i ∧ i.size = sz := by
  have h := h.h
  unfold tyLoad at h
  split at h <;> simp at h
  · rename_i i _ hi; exact ⟨_, by assumption, h.2⟩
  · exact ⟨_, by assumption, h.2⟩
  · exact ⟨_, by assumption, h.2⟩

theorem run_isAgg {t : TypeId} {agg : Bool} {sz : Nat} (h : TLoad P t agg sz) (w : World) : (isAgg t).run P w = .ok agg w := by
  have h := h.h
  unfold tyLoad at h
  split at h <;> simp at h
  · rename_i hu hi; obtain ⟨rfl, _⟩ := h; simp [isAgg, run_underlying hu]
  · rename_i hu hi; obtain ⟨rfl, _⟩ := h; simp [isAgg, run_underlying hu]
  · rename_i d i h1 h2 hu hi
    obtain ⟨rfl, _⟩ := h
    simp only [isAgg, Sem.run_bind, run_underlying hu, Result.andThen_ok]
    cases d <;> first | rfl | exact (h1 _ rfl).elim | exact (h2 _ _ rfl).elim

theorem run_sizeOf {t : TypeId} {agg : Bool} {sz : Nat} (h : TLoad P t agg sz) (w : World) : (sizeOf t).run P w = .ok sz w := by
  obtain ⟨i, hi, hs⟩ := h.size
  simp [sizeOf, typeInfo, hi, hs]

theorem run_loadVar1 {t : TypeId} {sz : Nat} (h : TLoad P t false sz) {w : World} {a : Addr} {u : Value} (hc : w.cell? a = some u) : (loadVar t a).run P w = .ok u w := by
  simp [loadVar, run_isAgg h, hc]

theorem run_loadVarA {t : TypeId} {sz : Nat} (h : TLoad P t true sz) {w : World} {a : Addr} {us : List Value} (hl : us.length = sz) (hc : ∀ j v, us[j]? = some v → w.cell? (a.add j) = some v) :
    (loadVar t a).run P w = .ok (.agg us.toArray) w := by
  have := run_loadCells_list (P := P) w a us hc
  rw [hl] at this
  simp [loadVar, run_isAgg h, run_sizeOf h, this]

theorem addr_add (b off n : Nat) : (⟨b, off, none⟩ : Addr).add n = ⟨b, off + n, none⟩ := by
  unfold Addr.add
  split
  · rename_i h; subst h; rfl
  · rfl

end

section
variable {E : Env} {N : Nat} {o : Oper} {g : G} {σ : St} {ops : Array Oper} {rest : List Oper} {Q : Q3} {β : Gh} {w : World}

theorem RelL.get {cs : List V} {a : List Value} (h : RelL β cs a) {i : Nat} {x : V} (hx : cs[i]? = some x) : ∃ u, a[i]? = some u ∧ Rel β x u := by
  have hlt : i < cs.length := (List.getElem?_eq_some_iff.1 hx).1
  have hlt' : i < a.length := by rw [h.1]; exact hlt
  refine ⟨a[i], List.getElem?_eq_getElem hlt', ?_⟩
  have := h.2 i x hx
  simpa [List.getD, List.getElem?_eq_getElem hlt'] using this

theorem RelL.slice {cs : List V} {a : List Value} (h : RelL β cs a) (off n : Nat) : RelL β ((cs.drop off).take n) ((a.drop off).take n) := by
  refine ⟨by simp [h.1], fun i x hx => ?_⟩
  rw [List.getElem?_take] at hx
  by_cases hi : i < n
  · rw [if_pos hi, List.getElem?_drop] at hx
    obtain ⟨u, hu, hr⟩ := h.get hx
    simp only [List.getD]
    rw [List.getElem?_take, if_pos hi, List.getElem?_drop, hu]
    exact hr
  · rw [if_neg hi] at hx; cases hx

theorem RelL.agg {cs : List V} {a : List Value} (h : RelL β cs a) : Rel β (.agg cs) (.agg a.toArray) :=
  .agg cs _ (by simp [h.1]) fun i x hx => by
    have := h.2 i x hx
    simpa [Array.getD_eq_getD_getElem?, List.getD] using this

theorem Rel.agg_inv {cs : List V} {u : Value} (h : Rel β (.agg cs) u) : ∃ a : Array Value, u = .agg a ∧ RelL β cs a.toList := by
  cases h with
  | agg _ a hs hc => exact ⟨a, rfl, by simpa using hs, fun i x hx => by simpa [Array.getD_eq_getD_getElem?, List.getD] using hc i x hx⟩

theorem Rel.cells {v : V} {u : Value} (h : Rel β v u) (h1 : v.cells.all V.one = true) : RelL β v.cells u.cells.toList := by
  cases h with
  | obytes bs p b c u hl hu h => subst hu; exact ⟨rfl, fun i x hx => by
      cases i with
      | zero => simp only [V.cells, List.getElem?_cons_zero, Option.some.injEq] at hx; subst hx; exact .obytes bs p b c _ hl rfl h
      | succ i => simp [V.cells] at hx⟩
  | oslice sz xs p b c u hl hu h => subst hu; exact ⟨rfl, fun i x hx => by
      cases i with
      | zero => simp only [V.cells, List.getElem?_cons_zero, Option.some.injEq] at hx; subst hx; exact .oslice sz xs p b c _ hl rfl h
      | succ i => simp [V.cells] at hx⟩
  | agg cs a hs hc => exact ⟨by simpa [V.cells, Value.cells] using hs, fun i x hx => by simpa [Value.cells, Array.getD_eq_getD_getElem?, List.getD] using hc i x hx⟩
  | junk v => simp [V.cells, V.one] at h1
  | tuple cs a hs hc => simp [V.cells, V.one] at h1
  | _ =>
    refine ⟨rfl, fun i x hx => ?_⟩
    cases i with
    | zero => simp only [V.cells, List.getElem?_cons_zero, Option.some.injEq] at hx; subst hx; simp only [Value.cells, List.getD, List.getElem?_cons_zero, Option.getD_some]; constructor <;> assumption
    | succ i => simp [V.cells] at hx

/-- What an object's pointer is. -/
theorem Rel.ptr_cells {p off : Nat} {u : Value} {e : TypeId} {cs : List V} (hi : Inv E β σ w) (h : Rel β (.ptr p off) u) (hs : σ p = some (.cells e cs)) :
    ∃ b a, u = .pointer (some ⟨b, off, none⟩) ∧ β.loc p = some (.cells b) ∧ w.heap[b]? = some (.cells a e (0, 0)) ∧ RelL β cs a.toList ∧ cs.all V.one = true := by
  cases h with
  | ptr _ _ b l hl hb =>
    obtain ⟨l', hl', ho⟩ := hi.obj p _ hs
    rw [hl] at hl'; cases hl'
    cases l <;> simp only [ORel] at ho
    simp only [Loc.block?, Option.some.injEq] at hb
    subst hb
    obtain ⟨a, h1, h2, h3⟩ := ho
    exact ⟨_, a, rfl, hl, h1, h2, h3⟩

theorem p_load1 {t : TypeId} {sz : Nat} {x : Operand} {p off : Nat} {e : TypeId} {cs : List V} {v : V} (ho : o.op = .load t x) (ht : TLoad E.P t false sz) (hx : g.evO x = some (.ptr p off))
    (hs : σ p = some (.cells e cs)) (hv : cs[off]? = some v) : Pv E N o g σ v := by
  intro β a w ha hi
  obtain ⟨b, arr, hu, _, hw, hr, _⟩ := (ha.evO hx).ptr_cells hi hs
  obtain ⟨u, hu2, hr2⟩ := hr.get hv
  have hc : w.cell? ⟨b, off, none⟩ = some u := by rw [cell_of_row w b off arr e _ hw]; simpa using hu2
  exact ⟨u, by simp [execOp, ho, hu, Instr.loadAt, Instr.sureAddr, run_loadVar1 ht hc], hr2⟩

theorem p_loadA {t : TypeId} {sz : Nat} {x : Operand} {p off : Nat} {e : TypeId} {cs vs : List V} (ho : o.op = .load t x) (ht : TLoad E.P t true sz) (hx : g.evO x = some (.ptr p off))
    (hs : σ p = some (.cells e cs)) (hl : off + sz ≤ cs.length) (hv : some ((cs.drop off).take sz) = some vs) : Pv E N o g σ (.agg vs) := by
  intro β a w ha hi
  cases hv
  obtain ⟨b, arr, hu, _, hw, hr, _⟩ := (ha.evO hx).ptr_cells hi hs
  have hlen : ((arr.toList.drop off).take sz).length = sz := by
    have := hr.1
    simp at this ⊢
    omega
  have hrun := run_loadVarA (P := E.P) ht (w := w) (a := ⟨b, off, none⟩) hlen (fun j v hj => by
    rw [addr_add, cell_of_row w b _ arr e _ hw]
    rw [List.getElem?_take] at hj
    split at hj
    · rw [List.getElem?_drop] at hj; simpa using hj
    · cases hj)
  exact ⟨_, by simp only [execOp, ho, hu, Instr.loadAt, Instr.sureAddr, Sem.run_bind, Sem.run_pure, Result.andThen_ok, hrun], (hr.slice off sz).agg⟩

theorem p_loadr1 {t : TypeId} {sz : Nat} {x : Operand} {cs : List V} {v : V} (ho : o.op = .load t x) (ht : TLoad E.P t false sz) (hx : g.evO x = some (.rptr cs)) (hv : cs[0]? = some v) : Pv E N o g σ v := by
  intro β a w ha hi
  have h := ha.evO hx
  generalize hu : a.eval x = u at h
  cases h with
  | rptr _ b off cells hb hs hc =>
    have hlt : off < cells.length := by
      have : 0 < cs.length := (List.getElem?_eq_some_iff.1 hv).1
      omega
    have hcell : w.cell? ⟨b, off, none⟩ = some cells[off] := hi.cell hb (List.getElem?_eq_getElem hlt)
    refine ⟨cells[off], by simp [execOp, ho, hu, Instr.loadAt, Instr.sureAddr, run_loadVar1 ht hcell], ?_⟩
    have := hc 0 v hv
    simpa [List.getD, List.getElem?_eq_getElem hlt] using this

theorem p_loadrA {t : TypeId} {sz : Nat} {x : Operand} {cs vs : List V} (ho : o.op = .load t x) (ht : TLoad E.P t true sz) (hx : g.evO x = some (.rptr cs)) (hl : sz ≤ cs.length) (hv : some (cs.take sz) = some vs) :
    Pv E N o g σ (.agg vs) := by
  intro β a w ha hi
  cases hv
  have h := ha.evO hx
  generalize hu : a.eval x = u at h
  cases h with
  | rptr _ b off cells hb hs hc =>
    have hlen : ((cells.drop off).take sz).length = sz := by simp; omega
    have hrun := run_loadVarA (P := E.P) ht (w := w) (a := ⟨b, off, none⟩) hlen (fun j v hj => by
      rw [addr_add]
      rw [List.getElem?_take] at hj
      split at hj
      · rw [List.getElem?_drop] at hj; exact hi.cell hb hj
      · cases hj)
    refine ⟨_, by simp only [execOp, ho, hu, Instr.loadAt, Instr.sureAddr, Sem.run_bind, Sem.run_pure, Result.andThen_ok, hrun]; rfl, ?_⟩
    refine RelL.agg ⟨by simp; omega, fun i x hx => ?_⟩
    rw [List.getElem?_take] at hx
    split at hx
    · rename_i hi'
      have h1 := hc i x hx
      have hlt : off + i < cells.length := by have := (List.getElem?_eq_some_iff.1 hx).1; omega
      simp only [List.getD]
      rw [List.getElem?_take, if_pos hi', List.getElem?_drop]
      simpa [List.getD] using h1
    · cases hx

/-! Addresses. -/

theorem run_fieldAt {P : Program} {t : TypeId} {f off : Nat} (h : TField P t f off) (w : World) (b k : Nat) :
    (Instr.fieldAt t (.pointer (some ⟨b, k, none⟩)) f).run P w = .ok (.pointer (some ⟨b, k + off, none⟩)) w := by
  obtain ⟨n, h⟩ := h.h
  unfold tyField at h
  split at h
  · rename_i fs hu
    split at h
    · rename_i fd hfd
      split at h
      · rename_i i hi
        simp only [Option.some.injEq, Prod.mk.injEq] at h
        obtain ⟨h1, h2⟩ := h
        have hsz : (sizeOf fd.type).run P w = .ok i.size w := by simp [sizeOf, typeInfo, hi]
        have hne : ¬ i.size = 0 := by omega
        simp [Instr.fieldAt, run_underlying hu, hfd, Instr.sureAddr, fieldPlace, hsz, hne, addr_add, h1]
      · cases h
    · cases h
  · cases h

theorem p_field {t : TypeId} {f off k p : Nat} {x : Operand} {v : V} (ho : o.op = .fieldAddr t x f) (ht : TField E.P t f off) (hx : g.evO x = some (.ptr p k)) (hv : some (V.ptr p (k + off)) = some v) : Pv E N o g σ v := by
  intro β a w ha hi
  cases hv
  have h := ha.evO hx
  generalize hu : a.eval x = u at h
  cases h with
  | ptr _ _ b l hl hb => exact ⟨_, by simp [execOp, ho, hu, run_fieldAt ht], .ptr _ _ b l hl hb⟩

theorem p_fieldr {t : TypeId} {f off : Nat} {cs : List V} {x : Operand} {v : V} (ho : o.op = .fieldAddr t x f) (ht : TField E.P t f off) (hx : g.evO x = some (.rptr cs)) (hl : off ≤ cs.length) (hv : some (V.rptr (cs.drop off)) = some v) : Pv E N o g σ v := by
  intro β a w ha hi
  cases hv
  have h := ha.evO hx
  generalize hu : a.eval x = u at h
  cases h with
  | rptr _ b k cells hb hs hc =>
    refine ⟨_, by simp [execOp, ho, hu, run_fieldAt ht], .rptr _ b (k + off) cells hb (by simp; omega) fun i x hx => ?_⟩
    rw [List.getElem?_drop] at hx
    have := hc _ _ hx
    rwa [show k + off + i = k + (off + i) by omega]

theorem p_nilCheck {x : Operand} {v : V} (ho : o.op = .nilCheck x) (hx : g.evO x = some v) (hp : match v with | .ptr _ _ => True | .rptr _ => True | .glob _ => True | .func _ _ => True | _ => False) : Pv E N o g σ v := by
  intro β a w ha hi
  have h := ha.evO hx
  generalize hu : a.eval x = u at h
  refine ⟨u, ?_, h⟩
  cases h <;> first | exact hp.elim | simp [execOp, ho, hu]

theorem p_eqnil {t u : TypeId} {x : Operand} {v : V} {b : Bool} (ho : o.op = .binOp .eql t x (.const (.pointer none)) u) (ht : E.P.underlying t = some (.pointer (E.P.pointee t))) (hx : g.evO x = some v)
    (hb : (match v with | .ptr _ _ => some false | .rptr _ => some false | .nilp => some true | _ => none) = some b) : Pv E N o g σ (.bool b) := by
  intro β a w ha hi
  have h := ha.evO hx
  generalize hu : a.eval x = r at h
  refine ⟨.bool b, ?_, .bool _⟩
  have hc : a.eval (.const (.pointer none)) = .pointer none := rfl
  cases h <;> simp at hb <;> subst hb <;> simp [execOp, ho, hu, hc, Go.binOp, eqGuard, run_equal_pointer_nil _ _ _ ht]

theorem p_nenil {t u : TypeId} {x : Operand} {v : V} {b : Bool} (ho : o.op = .binOp .neq t x (.const (.pointer none)) u) (ht : E.P.underlying t = some (.pointer (E.P.pointee t))) (hx : g.evO x = some v)
    (hb : (match v with | .ptr _ _ => some true | .rptr _ => some true | .nilp => some false | _ => none) = some b) : Pv E N o g σ (.bool b) := by
  intro β a w ha hi
  have h := ha.evO hx
  generalize hu : a.eval x = r at h
  refine ⟨.bool b, ?_, .bool _⟩
  have hc : a.eval (.const (.pointer none)) = .pointer none := rfl
  cases h <;> simp at hb <;> subst hb <;> simp [execOp, ho, hu, hc, Go.binOp, eqGuard, run_equal_pointer_nil _ _ _ ht]

end
end Go.Vam

/- Vam: stores, new variables, struct values. -/
namespace Go.Vam
open Go Go.RowKit

/-- The cells with some of them replaced. -/
def setAt : List V → Nat → List V → Option (List V)
  | cs, 0, [] => some cs
  | _ :: cs, 0, v :: vs => match setAt cs 0 vs with
    | some l => some (v :: l)
    | none => none
  | c :: cs, n + 1, vs => match setAt cs n vs with
    | some l => some (c :: l)
    | none => none
  | [], _ + 1, _ => none
  | [], 0, _ :: _ => none

theorem setAt_eq : ∀ {cs : List V} {n : Nat} {vs l : List V}, setAt cs n vs = some l → n + vs.length ≤ cs.length ∧ l = cs.take n ++ vs ++ cs.drop (n + vs.length)
  | cs, 0, [], l, h => by simp [setAt] at h; subst h; simp
  | c :: cs, 0, v :: vs, l, h => by
    simp only [setAt] at h
    split at h
    · rename_i l' hl
      obtain ⟨h1, h2⟩ := setAt_eq hl
      cases h
      refine ⟨by simp at h1 ⊢; omega, ?_⟩
      rw [h2]; simp
    · cases h
  | c :: cs, n + 1, vs, l, h => by
    simp only [setAt] at h
    split at h
    · rename_i l' hl
      obtain ⟨h1, h2⟩ := setAt_eq hl
      cases h
      refine ⟨by simp; omega, ?_⟩
      rw [h2, show n + 1 + vs.length = (n + vs.length) + 1 by omega]; simp
    · cases h
  | [], n + 1, _, l, h => by simp [setAt] at h
  | [], 0, _ :: _, l, h => by simp [setAt] at h

theorem setAt_of : ∀ {cs : List V} {n : Nat} {vs : List V}, n + vs.length ≤ cs.length → setAt cs n vs = some (cs.take n ++ vs ++ cs.drop (n + vs.length))
  | cs, 0, [], _ => by cases cs <;> simp [setAt]
  | c :: cs, 0, v :: vs, h => by
    have := setAt_of (cs := cs) (n := 0) (vs := vs) (by simp at h ⊢; omega)
    simp [setAt, this]
  | c :: cs, n + 1, vs, h => by
    have := setAt_of (cs := cs) (n := n) (vs := vs) (by simp at h; omega)
    rw [show n + 1 + vs.length = (n + vs.length) + 1 by omega]
    simp [setAt, this]
  | [], n + 1, _, h => by simp at h
  | [], 0, _ :: _, h => by simp at h

section
variable {β : Gh}

theorem RelL.append {a b : List V} {x y : List Value} (h : RelL β a x) (k : RelL β b y) : RelL β (a ++ b) (x ++ y) := by
  refine ⟨by simp [h.1, k.1], fun i v hv => ?_⟩
  rw [List.getElem?_append] at hv
  split at hv
  · rename_i hi
    obtain ⟨u, hu, hr⟩ := h.get hv
    have : i < x.length := by rw [h.1]; exact hi
    simp only [List.getD]
    rw [List.getElem?_append_left this, hu]; exact hr
  · rename_i hi
    obtain ⟨u, hu, hr⟩ := k.get hv
    have : x.length ≤ i := by rw [h.1]; omega
    simp only [List.getD]
    rw [List.getElem?_append_right this, h.1, hu]; exact hr

theorem RelL.take {a : List V} {x : List Value} (h : RelL β a x) (n : Nat) : RelL β (a.take n) (x.take n) := by simpa using h.slice 0 n

theorem RelL.drop {a : List V} {x : List Value} (h : RelL β a x) (n : Nat) : RelL β (a.drop n) (x.drop n) := by
  refine ⟨by simp [h.1], fun i v hv => ?_⟩
  rw [List.getElem?_drop] at hv
  obtain ⟨u, hu, hr⟩ := h.get hv
  simp only [List.getD]
  rw [List.getElem?_drop, hu]; exact hr

theorem RelL.nil : RelL β [] [] := ⟨rfl, fun i x h => by simp at h⟩

theorem RelL.cons {v : V} {u : Value} {a : List V} {x : List Value} (h : Rel β v u) (k : RelL β a x) : RelL β (v :: a) (u :: x) := by
  refine ⟨by simp [k.1], fun i w hw => ?_⟩
  cases i with
  | zero => simp at hw; subst hw; simpa [List.getD] using h
  | succ i =>
    rw [List.getElem?_cons_succ] at hw
    have := k.2 i w hw
    simpa [List.getD] using this

theorem RelL.oneCell {a : List V} {x : List Value} (h : RelL β a x) (h1 : a.all V.one = true) : ∀ u ∈ x, u.oneCell' = true := by
  intro u hu
  obtain ⟨i, hi, rfl⟩ := List.getElem_of_mem hu
  have hlt : i < a.length := by rw [← h.1]; exact hi
  have := h.2 i a[i] (List.getElem?_eq_getElem hlt)
  simp [List.getD, List.getElem?_eq_getElem hi] at this
  exact this.oneCell (by rw [List.all_eq_true] at h1; exact h1 _ (List.getElem_mem hlt))

theorem all_one_setAt {cs vs l : List V} {n : Nat} (h : setAt cs n vs = some l) (h1 : cs.all V.one = true) (h2 : vs.all V.one = true) : l.all V.one = true := by
  rw [(setAt_eq h).2]
  simp only [List.all_append, Bool.and_eq_true]
  refine ⟨⟨?_, h2⟩, ?_⟩
  · rw [List.all_eq_true] at h1 ⊢; exact fun x hx => h1 x (List.mem_of_mem_take hx)
  · rw [List.all_eq_true] at h1 ⊢; exact fun x hx => h1 x (List.mem_of_mem_drop hx)

theorem setRow_gets (w : World) (g : Nat) (old cs : Array Value) (t : TypeId) (fr : Nat × Nat) (hg : w.heap[g]? = some (.cells old t fr)) : (w.setRow g cs).heap[g]? = some (.cells cs t fr) :=
  Go.setRow_heap w g old cs t fr hg

end

section
variable {E : Env} {N : Nat} {o : Oper} {g : G} {σ : St} {ops : Array Oper} {rest : List Oper} {Q : Q3} {β : Gh} {w : World}

theorem i_store {t : TypeId} {agg : Bool} {sz : Nat} {x y : Operand} {p off : Nat} {e : TypeId} {cs cs' : List V} {v : V} {n : Nat} {K : V → St → Nat → Prop} (ho : o.op = .store t x y) (ht : TLoad E.P t agg sz)
    (hx : g.evO x = some (.ptr p off)) (hs : σ p = some (.cells e cs)) (hy : g.evO y = some v) (h1 : v.cells.all V.one = true) (hl : v.cells.length = sz) (hc : setAt cs off v.cells = some cs')
    (k : K .junk (σ.set p (.cells e cs')) n) : OpI E N o g σ n K := by
  refine OpI.of_skip fun β a w ha hi hn => ?_
  subst hn
  obtain ⟨b, arr, hu, hloc, hw, hr, hone⟩ := (ha.evO hx).ptr_cells hi hs
  have hv := (ha.evO hy)
  have hvc := hv.cells h1
  obtain ⟨hle, heq⟩ := setAt_eq hc
  have hsz : (a.eval y).cells.size = sz := by have := hvc.1; simp at this; omega
  have harr : arr.size = cs.length := by have := hr.1; simpa using this
  have hst := run_storeCells_at E.P b off e (a.eval y).cells.toList 0 arr w hw (by simp; omega) (hvc.oneCell h1)
  simp only [Nat.add_zero] at hst
  refine ⟨w.setRow b (arr.toList.take off ++ (a.eval y).cells.toList ++ arr.toList.drop (off + (a.eval y).cells.toList.length)).toArray, β, _, ?_, .refl β, .refl β, ?_, k⟩
  · have : ¬ (a.eval y).cells.size ≠ sz := by omega
    simp [execOp, ho, hu, Instr.storeAt, Instr.sureAddr, storeVar, run_sizeOf ht, this, hst]
  · refine hi.setObj hs rfl hloc rfl rfl rfl rfl (by simp) (fun k hk hne => Go.setRow_other w b k _ hne) ?_
    refine ⟨_, setRow_gets w b _ _ _ _ hw, ?_, all_one_setAt hc hone h1⟩
    rw [heq]
    have hlen : (a.eval y).cells.toList.length = v.cells.length := hvc.1
    simp only [hlen]
    exact ((hr.take off).append hvc).append (hr.drop _)

theorem o_store {t : TypeId} {agg : Bool} {sz : Nat} {x y : Operand} {p off : Nat} {e : TypeId} {cs cs' : List V} {v : V} {K : V → St → Prop} (ho : o.op = .store t x y) (ht : TLoad E.P t agg sz)
    (hx : g.evO x = some (.ptr p off)) (hs : σ p = some (.cells e cs)) (hy : g.evO y = some v) (h1 : v.cells.all V.one = true) (hl : v.cells.length = sz) (hc : setAt cs off v.cells = some cs')
    (k : K .junk (σ.set p (.cells e cs'))) : OpS E N o g σ K :=
  OpS.ofI fun _ _ => i_store ho ht hx hs hy h1 hl hc k

/-- The zero value's abstract cells. -/
def cvL : List Value → Option (List V)
  | [] => some []
  | u :: us => match cvO u, cvL us with
    | some v, some l => some (v :: l)
    | _, _ => none

theorem cvL_rel : ∀ {us : List Value} {l : List V}, cvL us = some l → RelL β l us
  | [], l, h => by simp [cvL] at h; subst h; exact .nil
  | u :: us, l, h => by
    simp only [cvL] at h
    split at h
    · rename_i v l' hv hl
      cases h
      exact .cons (Rel.cvO β hv) (cvL_rel hl)
    · cases h

def tyZero (P : Program) (t : TypeId) : Option (List V) :=
  match P.info? t with
  | some i => match i.zero with
    | some z => cvL z.cells.toList
    | none => none
  | none => none

class TZero (P : Program) (t : TypeId) (zs : outParam (List V)) : Prop where
  h : tyZero P t = some zs

theorem TZero.get {P : Program} {t : TypeId} {zs : List V} (h : TZero P t zs) : ∃ z, (∀ w, (zeroValue t).run P w = .ok z w) ∧ ∀ β, RelL β zs z.cells.toList := by
  have h := h.h
  unfold tyZero at h
  split at h
  · rename_i i hi
    split at h
    · rename_i z hz
      exact ⟨z, fun w => by simp [zeroValue, typeInfo, hi, hz], fun β => cvL_rel h⟩
    · cases h
  · cases h

theorem i_alloc {e : TypeId} {zs : List V} {n : Nat} {K : V → St → Nat → Prop} (ho : o.op = .alloc e) (hz : TZero E.P e zs) (h1 : zs.all V.one = true) (k : K (.ptr n 0) (σ.set n (.cells e zs)) (n + 1)) : OpI E N o g σ n K := by
  refine OpI.of_value fun β a w ha hi hn => ?_
  subst hn
  obtain ⟨z, hz1, hz2⟩ := hz.get
  have hp := hi.next β.next (Nat.le_refl _)
  have hn := hi.newCells hp (e := e) (hz2 β) h1
  refine ⟨.pointer (some ⟨w.heap.size, 0, none⟩), _, _, .ptr β.next 0, _, ?_, Gh.addObj_le hp _, Gh.addObj_keep _, .ptr _ _ _ (.cells w.heap.size) (by simp [Gh.addObj]) rfl, hn, by rw [Gh.addObj_next]; exact k⟩
  simp [execOp, ho, Instr.alloc, hz1, newVar, newRow]

theorem i_box {e : TypeId} {x : Operand} {v : V} {n : Nat} {K : V → St → Nat → Prop} (ho : o.op = .box e x) (hx : g.evO x = some v) (h1 : v.cells.all V.one = true) (k : K (.ptr n 0) (σ.set n (.cells e v.cells)) (n + 1)) : OpI E N o g σ n K := by
  refine OpI.of_value fun β a w ha hi hn => ?_
  subst hn
  have hv := (ha.evO hx).cells h1
  have hp := hi.next β.next (Nat.le_refl _)
  have hn := hi.newCells hp (e := e) hv h1
  refine ⟨.pointer (some ⟨w.heap.size, 0, none⟩), _, _, .ptr β.next 0, _, ?_, Gh.addObj_le hp _, Gh.addObj_keep _, .ptr _ _ _ (.cells w.heap.size) (by simp [Gh.addObj]) rfl, hn, by rw [Gh.addObj_next]; exact k⟩
  simp [execOp, ho, Instr.box, newVar, newRow]

theorem o_alloc {e : TypeId} {zs : List V} {K : V → St → Prop} (ho : o.op = .alloc e) (hz : TZero E.P e zs) (h1 : zs.all V.one = true) (k : ∀ p, σ p = none → K (.ptr p 0) (σ.set p (.cells e zs))) : OpS E N o g σ K :=
  OpS.ofI fun n hn => i_alloc ho hz h1 (k n hn)

theorem o_box {e : TypeId} {x : Operand} {v : V} {K : V → St → Prop} (ho : o.op = .box e x) (hx : g.evO x = some v) (h1 : v.cells.all V.one = true) (k : ∀ p, σ p = none → K (.ptr p 0) (σ.set p (.cells e v.cells))) : OpS E N o g σ K :=
  OpS.ofI fun n hn => i_box ho hx h1 (k n hn)

/-! Struct and array values. -/

def placesOf (P : Program) (t : TypeId) : Option (List (Nat × Nat)) :=
  match P.underlying t with
  | some (.struct fs) => fs.toList.mapM fun f => match P.info? f.type with
    | some i => some (f.offset, i.size)
    | none => none
  | _ => none

class TStruct (P : Program) (t : TypeId) (pl : outParam (List (Nat × Nat))) (zs : outParam (List V)) : Prop where
  hp : placesOf P t = some pl
  hz : tyZero P t = some zs

def fillO (pl : List (Nat × Nat)) : List V → List (Nat × V) → Option (List V)
  | cs, [] => some cs
  | cs, (i, v) :: r => match pl[i]? with
    | some (off, size) => match Nat.beq v.cells.length size with
      | true => match setAt cs off v.cells with
        | some l => fillO pl l r
        | none => none
      | false => none
    | none => none

def evP (g : G) : List (Nat × Operand) → Option (List (Nat × V))
  | [] => some []
  | (i, x) :: r => match g.evO x, evP g r with
    | some v, some l => some ((i, v) :: l)
    | _, _ => none

theorem foldl_set (us : List Value) : ∀ (off : Nat) (cells : Array Value) (k : Nat), off + k + us.length ≤ cells.size →
    (us.zipIdx k).foldl (fun cs (c, j) => cs.setIfInBounds (off + j) c) cells = (cells.toList.take (off + k) ++ us ++ cells.toList.drop (off + k + us.length)).toArray := by
  induction us with
  | nil => intro off cells k h; simp
  | cons u us ih =>
    intro off cells k h
    simp only [List.zipIdx_cons, List.foldl_cons]
    rw [ih off _ (k + 1) (by simp at h ⊢; omega)]
    have hk : off + k < cells.size := by simp at h; omega
    apply congrArg
    have h1 : (cells.setIfInBounds (off + k) u).toList = cells.toList.set (off + k) u := by simp
    rw [h1]
    have h2 : (cells.toList.set (off + k) u).take (off + (k + 1)) = cells.toList.take (off + k) ++ [u] := by
      rw [show off + (k + 1) = off + k + 1 by omega, List.take_add_one]
      rw [List.take_set_of_le (Nat.le_refl _)]
      simp [hk]
    have h3 : (cells.toList.set (off + k) u).drop (off + (k + 1) + us.length) = cells.toList.drop (off + k + (us.length + 1)) := by
      rw [List.drop_set_of_lt (by omega)]
      congr 1; omega
    rw [h2, h3]
    simp

theorem fill_rel {pl : Nat → Option (Nat × Nat)} {pll : List (Nat × Nat)} (hpl : ∀ i, pl i = pll[i]?) : ∀ {ps : List (Nat × V)} {us : List (Nat × Value)} {cs cs' : List V} {a : Array Value},
    ps.length = us.length → (∀ (i : Nat) (p : Nat × V), ps[i]? = some p → ∃ u, us[i]? = some u ∧ u.1 = p.1 ∧ Rel β p.2 u.2) → (∀ p ∈ ps, p.2.cells.all V.one = true) →
    RelL β cs a.toList → fillO pll cs ps = some cs' → ∃ a', Instr.fill pl a us = some a' ∧ RelL β cs' a'.toList := by
  intro ps
  induction ps with
  | nil =>
    intro us cs cs' a hl _ _ hr hf
    cases us with
    | nil => simp [fillO] at hf; subst hf; exact ⟨a, rfl, hr⟩
    | cons u us => simp at hl
  | cons p ps ih =>
    intro us cs cs' a hl hp h1 hr hf
    cases us with
    | nil => simp at hl
    | cons u us =>
      obtain ⟨i, v⟩ := p
      obtain ⟨u', hu', hi', hrel⟩ := hp 0 (i, v) rfl
      simp only [List.getElem?_cons_zero, Option.some.injEq] at hu'
      subst hu'
      obtain ⟨i', u⟩ := u
      simp only at hi' hrel
      subst hi'
      simp only [fillO] at hf
      split at hf
      · rename_i off size hpi
        split at hf
        · rename_i hbeq
          split at hf
          · rename_i l hsl
            have hsz := Nat.eq_of_beq_eq_true hbeq
            have hv1 : v.cells.all V.one = true := h1 (i', v) (by simp)
            have hvc := hrel.cells hv1
            obtain ⟨hle, heq⟩ := setAt_eq hsl
            have hus : u.cells.size = size := by have := hvc.1; simp at this; omega
            have hasz : a.size = cs.length := by have := hr.1; simpa using this
            have hfold := foldl_set u.cells.toList off a 0 (by simp; omega)
            simp only [Nat.add_zero] at hfold
            have hz : u.cells.zipIdx.foldl (fun cs (c, j) => cs.setIfInBounds (off + j) c) a = (a.toList.take off ++ u.cells.toList ++ a.toList.drop (off + u.cells.toList.length)).toArray := by
              rw [← hfold, ← Array.foldl_toList]
              simp
            have hr' : RelL β l (u.cells.zipIdx.foldl (fun cs (c, j) => cs.setIfInBounds (off + j) c) a).toList := by
              rw [hz, heq]
              have hlen : u.cells.toList.length = v.cells.length := hvc.1
              simp only [hlen]
              exact ((hr.take off).append hvc).append (hr.drop _)
            obtain ⟨a', ha', hra'⟩ := ih (us := us) (a := u.cells.zipIdx.foldl (fun cs (c, j) => cs.setIfInBounds (off + j) c) a) (by simpa using hl)
              (fun j q hq => by
                obtain ⟨u2, h2, h3, h4⟩ := hp (j + 1) q (by simpa using hq)
                exact ⟨u2, by simpa using h2, h3, h4⟩) (fun q hq => h1 q (by simp [hq])) hr' hf
            refine ⟨a', ?_, hra'⟩
            have hcond : ¬ (u.cells.size ≠ size || decide (off + u.cells.size > a.size)) = true := by
              simp only [ne_eq, Bool.or_eq_true, decide_eq_true_eq]
              omega
            simp only [Instr.fill, hpl, hpi]
            rw [if_neg (by simpa using hcond)]
            exact ha'
          · cases hf
        · cases hf
      · cases hf

theorem evP_rel {a : Act} (ha : AR N β g a) : ∀ {xs : List (Nat × Operand)} {ps : List (Nat × V)}, evP g xs = some ps →
    ps.length = xs.length ∧ ∀ (i : Nat) (p : Nat × V), ps[i]? = some p → ∃ u, (xs.map fun (i, x) => (i, a.eval x))[i]? = some u ∧ u.1 = p.1 ∧ Rel β p.2 u.2
  | [], ps, h => by simp [evP] at h; subst h; exact ⟨rfl, fun i p hp => by simp at hp⟩
  | (j, x) :: r, ps, h => by
    simp only [evP] at h
    split at h
    · rename_i v l hv hl
      cases h
      obtain ⟨h1, h2⟩ := evP_rel ha hl
      refine ⟨by simp [h1], fun i p hp => ?_⟩
      cases i with
      | zero => simp only [List.getElem?_cons_zero, Option.some.injEq] at hp; subst hp; exact ⟨(j, a.eval x), rfl, rfl, ha.evO hv⟩
      | succ i => simpa using h2 i p (by simpa using hp)
    · cases h

theorem placesOf_run {P : Program} {t : TypeId} {pl : List (Nat × Nat)} (h : placesOf P t = some pl) :
    ∃ fs : Array Field, P.underlying t = some (.struct fs) ∧ ∃ pa : Array (Nat × Nat), pa.toList = pl ∧ ∀ w, (fs.mapM (fun (f : Field) => (do pure (f.offset, ← sizeOf f.type) : Sem (Nat × Nat)))).run P w = .ok pa w := by
  unfold placesOf at h
  split at h
  · rename_i fs hu
    refine ⟨fs, hu, pl.toArray, by simp, fun w => ?_⟩
    rw [← Array.toArray_toList (xs := fs)] 
    generalize fs.toList = l at h
    rw [List.mapM_toArray]
    have key : ∀ (l : List Field) (pl : List (Nat × Nat)), (l.mapM fun (f : Field) => match P.info? f.type with | some i => some (f.offset, i.size) | none => none) = some pl →
        (l.mapM (fun f => do pure (f.offset, ← sizeOf f.type) : Field → Sem (Nat × Nat))).run P w = .ok pl w := by
      intro l
      induction l with
      | nil => intro pl h; simp at h; subst h; simp
      | cons f l ih =>
        intro pl h
        simp only [List.mapM_cons] at h ⊢
        cases hi : P.info? f.type with
        | none => simp [hi] at h
        | some i =>
          simp only [hi, Option.bind_eq_bind, Option.bind_some] at h
          cases hl : (l.mapM fun (f : Field) => match P.info? f.type with | some i => some (f.offset, i.size) | none => none) with
          | none => simp [hl] at h
          | some pl' =>
            simp only [hl, Option.bind_some, Option.pure_def, Option.some.injEq] at h
            subst h
            have := ih pl' hl
            simp [sizeOf, typeInfo, hi] at this ⊢
            simp [this]
    have := key l pl h
    simp at this ⊢
    simp [this]
  · cases h

theorem p_build {t : TypeId} {pl : List (Nat × Nat)} {zs : List V} {xs : Array (Nat × Operand)} {ps : List (Nat × V)} {cs : List V} (ho : o.op = .build t xs) (ht : TStruct E.P t pl zs)
    (hp : evP g xs.toList = some ps) (h1 : (ps.all fun p => p.2.cells.all V.one) = true) (hf : fillO pl zs ps = some cs) : Pv E N o g σ (.agg cs) := by
  intro β a w ha hi
  obtain ⟨fs, hu, pa, hpa, hrun⟩ := placesOf_run ht.hp
  obtain ⟨z, hz1, hz2⟩ := TZero.get ⟨ht.hz⟩
  obtain ⟨hlen, hrel⟩ := evP_rel ha hp
  obtain ⟨a', hfill, hra⟩ := fill_rel (β := β) (pl := (pa[·]?)) (pll := pl) (fun i => by rw [← hpa]; simp) (us := (xs.map fun (i, x) => (i, a.eval x)).toList) (by simp [hlen]) (fun i p hpp => by simpa using hrel i p hpp)
    (fun p hpp => by rw [List.all_eq_true] at h1; exact h1 p hpp) (hz2 β) hf
  refine ⟨.agg a', ?_, ?_⟩
  · have hr := hrun w
    simp only [execOp, ho, Instr.build, Sem.run_bind, hz1, Result.andThen_ok, run_underlying hu, hr]
    have hfill2 : Instr.fill (fun x => pa[x]?) z.cells (List.map (fun x => (x.fst, a.eval x.snd)) xs.toList) = some a' := by simpa using hfill
    simp [hfill2]
  · have := RelL.agg hra
    simpa using this

end
end Go.Vam

/- Vam: the run of append, whatever its source is. -/
namespace Go.Vam
open Go Go.RowKit

section
variable {P : Program} {w : World}

theorem run_append_core {t t2 ty e : TypeId} {i : TypeInfo} {z : Value} {d2 : TypeDesc} (ht : P.underlying t = some (.slice e)) (ht2 : P.underlying t2 = some d2) (hd2 : ∀ k, d2 ≠ .int k)
    (hi : P.info? e = some i) (hz : i.zero = some z) (hzs : z.cells.size = i.size) {base n : Nat} {v u : Value} {xs news : List Value} {m : Nat} (hown : w.ownsRow base e i.size v n xs)
    (hlen : ∀ w1, (Builtin.lenOf u).run P w1 = .ok m w1) (hsrc : ∀ w1, w1.heap = w.heap → (Builtin.firstCells i.size m u).run P w1 = .ok news.toArray w1) (hl : news.length = m * i.size)
    (h1 : ∀ u ∈ news, u.oneCell' = true) (hb : n + m ≤ 140737488355328) (hbytes : (n + m) * i.bytes ≤ 140737488355328) (hbase : base ≤ w.heap.size) :
    ∃ v' w', (Builtin.append_ #[t, t2] ty #[v, u]).run P w = .ok v' w' ∧ w'.ownsRow base e i.size v' (n + m) (xs ++ news) ∧
      ((v'.ownBlock = v.ownBlock ∧ w.grownBy w' v.ownBlock) ∨ (v'.ownBlock = some w.heap.size ∧ Grew w w')) := by
  have hlen2 : (xs ++ news).length = (n + m) * i.size := by rw [List.length_append, hown.1, hl, Nat.add_mul]
  have hund2 : ∀ w1 : World, (underlying t2).run P w1 = .ok d2 w1 := fun w1 => run_underlying ht2 w1
  have hmm : ∀ d : TypeDesc, (∀ k, d ≠ .int k) → (match d with | .int _ => true | _ => false) = false := by
    intro d hd
    cases d <;> first | rfl | exact absurd rfl (hd _)
  have h63 : ¬ (9223372036854775807 < ((n : Int) + (m : Int))) := by omega
  have hnew : ∀ (old : Nat), old < n + m → (w.drew.alloc (.cells (xs.toArray ++ news.toArray ++ Builtin.zeroCells z.cells (grownCap w (n + m) old e - (n + m))) e)).ownsRow base e i.size
      (.slice (some ⟨w.heap.size, 0, none⟩) (n + m) (grownCap w (n + m) old e)) (n + m) (xs ++ news) := by
    intro old ho
    have hge := grownCap_ge w (n + m) old e
    have hcm : grownCap w (n + m) old e ≤ maxLen := grownCap_le_maxLen w (n + m) old e (by unfold maxLen; omega)
    refine ⟨hlen2, .inr ⟨w.heap.size, _, _, rfl, hbase, Go.heap_alloc_new w.drew _, hge, hcm, ?_, ?_⟩⟩
    · simp only [Array.size_append, List.size_toArray, size_zeroCells, hzs, hown.1, hl, ← Nat.add_mul]
      congr 1
      omega
    · simp only [Array.toList_append, List.append_assoc]
      rw [← List.append_assoc, ← hlen2]
      exact List.take_left
  rcases hown.2 with ⟨rfl, rfl⟩ | ⟨g, cap, cur, rfl, hbg, hg, hnc, hcm, hcs, htake⟩
  · have hx : xs = [] := List.eq_nil_of_length_eq_zero (by simpa using hown.1)
    subst hx
    by_cases hm : m = 0
    · subst hm
      have hn0 : news = [] := List.eq_nil_of_length_eq_zero (by simpa using hl)
      subst hn0
      refine ⟨.slice none 0 0, w, ?_, ⟨by simp, .inl ⟨rfl, rfl⟩⟩, .inl ⟨rfl, ⟨rfl, rfl, rfl, Nat.le_refl _, fun _ _ _ => rfl⟩⟩⟩
      have := hsrc w rfl
      simp [Builtin.append_, run_underlying ht, hund2, sizeOf, typeInfo, hi, hlen, this]
    · have h48 : ¬ (281474976710656 < Builtin.nextslicecap m 0 * i.bytes) := by rw [nextslicecap_zero (by omega)]; simp at hbytes; omega
      have hs := hsrc w.drew rfl
      have h63' : ¬ (9223372036854775807 < (m : Int)) := by omega
      refine ⟨_, _, ?_, by simpa using hnew 0 (by omega), .inr ⟨rfl, (Grew.drew w).trans (Grew.alloc _ _)⟩⟩
      simp [Builtin.append_, run_underlying ht, hund2, sizeOf, typeInfo, zeroValue, hi, hz, hlen, hm, h63', h48, Question.forced, run_firstCells_none, hs, newRow, grownCap]
  · by_cases hroom : n + m ≤ cap
    · have hst := run_storeCells_at P g (n * i.size) e news 0 cur w hg (by rw [hcs, hl]; have := Nat.mul_le_mul_right i.size hroom; rw [Nat.add_mul] at this; omega) h1
      simp only [Nat.add_zero] at hst
      have hs := hsrc w rfl
      refine ⟨.slice (some ⟨g, 0, none⟩) (n + m) cap, w.setRow g (cur.toList.take (n * i.size) ++ news ++ cur.toList.drop (n * i.size + news.length)).toArray, ?_, ?_, .inl ⟨rfl, ?_⟩⟩
      · simp [Builtin.append_, run_underlying ht, hund2, sizeOf, typeInfo, hi, hlen, hroom, hs, Addr.add_lit, hst]
      · refine ⟨hlen2, .inr ⟨g, cap, _, rfl, hbg, setRow_gets w g _ _ _ _ hg, hroom, hcm, ?_, ?_⟩⟩
        · have hfit : n * i.size + news.length ≤ cur.size := by rw [hcs, hl]; have := Nat.mul_le_mul_right i.size hroom; rw [Nat.add_mul] at this; omega
          simp
          omega
        · have hlx : xs.length = n * i.size := hown.1
          have : (n + m) * i.size = (cur.toList.take (n * i.size) ++ news).length := by
            rw [List.length_append, htake, hlx, hl, Nat.add_mul]
          simp only []
          rw [this, List.take_left, htake]
      · exact ⟨rfl, rfl, rfl, by simp, fun k hk hne => Go.setRow_other w g k _ (fun e => hne (by rw [e]; rfl))⟩
    · have hsc : cap < n + m := by omega
      have h48 : ¬ (281474976710656 < Builtin.nextslicecap (n + m) cap * i.bytes) := by have := growslice_fits (bytes := i.bytes) hsc hbytes; omega
      have hs := hsrc w.drew rfl
      have hcells : ∀ j u, xs[j]? = some u → w.drew.cell? ((⟨g, 0, none⟩ : Addr).add j) = some u := fun j u hu => by
        have := hown.cells (g := g) rfl j u hu
        simpa using this
      have hfo := run_firstCells_some (P := P) w.drew i.size n ⟨g, 0, none⟩ n cap xs hown.1 hcells
      refine ⟨_, _, ?_, hnew cap hsc, .inr ⟨rfl, (Grew.drew w).trans (Grew.alloc _ _)⟩⟩
      simp [Builtin.append_, run_underlying ht, hund2, sizeOf, typeInfo, zeroValue, hi, hz, hlen, hroom, h63, h48, Question.forced, hs, hfo, newRow, grownCap]
      congr 2
      apply Array.ext'
      simp [List.append_assoc]

end
end Go.Vam

/- Vam: slices: reading, len, index, cutting, append, conversion. -/
namespace Go.Vam
open Go Go.RowKit

theorem flat_len {sz : Nat} : ∀ {xs : List V}, (∀ x ∈ xs, V.elem sz x) → (flat xs).length = xs.length * sz
  | [], _ => by simp [flat]
  | x :: xs, h => by
    have h1 := (h x (by simp)).1
    have h2 := flat_len (xs := xs) (fun y hy => h y (by simp [hy]))
    simp only [flat, List.flatMap_cons, List.length_append] at h2 ⊢
    rw [h1, h2, List.length_cons, Nat.add_mul, Nat.one_mul, Nat.add_comm]

theorem flat_one {sz : Nat} {xs : List V} (h : ∀ x ∈ xs, V.elem sz x) : (flat xs).all V.one = true := by
  rw [List.all_eq_true]
  intro c hc
  simp only [flat, List.mem_flatMap] at hc
  obtain ⟨x, hx, hc⟩ := hc
  have := (h x hx).2
  rw [List.all_eq_true] at this
  exact this c hc

theorem flat_append (xs ys : List V) : flat (xs ++ ys) = flat xs ++ flat ys := by simp [flat]

theorem flat_drop {sz : Nat} : ∀ {xs : List V} {i : Nat}, (∀ x ∈ xs, V.elem sz x) → (flat xs).drop (i * sz) = flat (xs.drop i)
  | [], i, _ => by simp [flat]
  | x :: xs, 0, _ => by simp
  | x :: xs, i + 1, h => by
    have h1 := (h x (by simp)).1
    have := flat_drop (xs := xs) (i := i) (fun y hy => h y (by simp [hy]))
    simp only [flat, List.flatMap_cons, List.drop_succ_cons] at this ⊢
    rw [← this, show (i + 1) * sz = x.cells.length + i * sz by rw [h1, Nat.add_mul]; omega, List.drop_append]
    simp

theorem flat_take {sz : Nat} : ∀ {xs : List V} {i : Nat}, (∀ x ∈ xs, V.elem sz x) → (flat xs).take (i * sz) = flat (xs.take i)
  | [], i, _ => by simp [flat]
  | x :: xs, 0, _ => by simp [flat]
  | x :: xs, i + 1, h => by
    have h1 := (h x (by simp)).1
    have := flat_take (xs := xs) (i := i) (fun y hy => h y (by simp [hy]))
    simp only [flat, List.flatMap_cons, List.take_succ_cons] at this ⊢
    rw [← this, show (i + 1) * sz = x.cells.length + i * sz by rw [h1, Nat.add_mul]; omega, List.take_append]
    simp
    exact List.take_of_length_le (by omega)

theorem flat_get {sz : Nat} {xs : List V} (h : ∀ x ∈ xs, V.elem sz x) {i j : Nat} {x : V} (hx : xs[i]? = some x) (hj : j < sz) : (flat xs)[i * sz + j]? = x.cells[j]? := by
  have hlt : i < xs.length := (List.getElem?_eq_some_iff.1 hx).1
  have h1 : (flat xs)[i * sz + j]? = ((flat xs).drop (i * sz))[j]? := by rw [List.getElem?_drop]
  rw [h1, flat_drop h, List.drop_eq_getElem_cons hlt]
  have hxi : xs[i] = x := by have := List.getElem?_eq_getElem hlt; rw [this] at hx; exact Option.some.inj hx
  simp only [flat, List.flatMap_cons, hxi]
  rw [List.getElem?_append_left (by rw [(h x (List.mem_of_getElem? hx)).1]; exact hj)]

section
variable {E : Env} {N : Nat} {o : Oper} {g : G} {σ : St} {ops : Array Oper} {rest : List Oper} {Q : Q3} {β : Gh} {w : World}

def Cells (w : World) (a : Option Addr) (us : List Value) : Prop :=
  us = [] ∨ ∃ b off, a = some ⟨b, off, none⟩ ∧ ∀ (i : Nat) (x : Value), us[i]? = some x → w.cell? ⟨b, off + i, none⟩ = some x

theorem bytes_get (hi : Inv E β σ w) {bs : List UInt8} {u : Value} (hr : Rel β (.bytes bs) u) : ∃ a cap, u = .slice a bs.length cap ∧ Cells w a (bs.map byteV) := by
  cases hr with
  | bytes0 a c => exact ⟨a, c, rfl, .inl rfl⟩
  | bytes _ b off cap cells hlc hb hc =>
    refine ⟨_, cap, rfl, .inr ⟨b, off, rfl, fun i x hx => ?_⟩⟩
    rw [List.getElem?_map] at hx
    cases hbi : bs[i]? with
    | none => simp [hbi] at hx
    | some y => simp [hbi] at hx; subst hx; exact hi.cell hb (hc i y hbi)

theorem slice_get (hi : Inv E β σ w) {sz : Nat} {xs : List V} {u : Value} (hr : Rel β (.slice sz xs) u) :
    (∀ x ∈ xs, V.elem sz x) ∧ ∃ a cap us, u = .slice a xs.length cap ∧ Cells w a us ∧ RelL β (flat xs) us := by
  cases hr with
  | slice0 _ a c => exact ⟨fun x hx => (by cases hx), a, c, [], rfl, .inl rfl, .nil⟩
  | slice _ _ b off cap cells hlc hb he hs hc =>
    refine ⟨he, _, cap, (cells.drop off).take (flat xs).length, rfl, .inr ⟨b, off, rfl, fun i x hx => ?_⟩, ?_⟩
    · rw [List.getElem?_take] at hx
      split at hx
      · rw [List.getElem?_drop] at hx; exact hi.cell hb hx
      · cases hx
    · refine ⟨by simp; omega, fun i x hx => ?_⟩
      have h1 := hc i x hx
      have hlt : i < (flat xs).length := (List.getElem?_eq_some_iff.1 hx).1
      simp only [List.getD]
      rw [List.getElem?_take, if_pos hlt, List.getElem?_drop]
      simpa [List.getD] using h1

/-- What reads as bytes is bytes, or nil. -/
theorem rdB_rel {v : V} {bs : List UInt8} {u : Value} (h : v.rdB = some bs) (hr : Rel β v u) : Rel β (.bytes bs) u := by
  cases hr <;> simp only [V.rdB, reduceCtorEq, Option.some.injEq] at h <;> subst h
  · exact .bytes0 none 0
  · exact .bytes0 _ _
  · exact .bytes _ _ _ _ _ (by assumption) (by assumption) (by assumption)
  · assumption

theorem rdS_rel {v : V} {sz : Nat} {xs : List V} {u : Value} (h : v.rdS sz = some xs) (hr : Rel β v u) : Rel β (.slice sz xs) u := by
  have key : ∀ {a : Nat} {l m : List V}, cond (Nat.beq sz a) (some l) none = some m → sz = a ∧ l = m := by
    intro a l m h
    cases hb : Nat.beq sz a with
    | true => rw [hb] at h; exact ⟨Nat.eq_of_beq_eq_true hb, Option.some.inj h⟩
    | false => rw [hb] at h; cases h
  cases hr with
  | nils => simp only [V.rdS, Option.some.injEq] at h; subst h; exact .slice0 sz none 0
  | slice0 _ a c => obtain ⟨rfl, rfl⟩ := key h; exact .slice0 _ _ _
  | slice _ _ b off cap cells q1 q2 q3 q4 q5 => obtain ⟨rfl, rfl⟩ := key h; exact .slice _ _ b off cap cells q1 q2 q3 q4 q5
  | oslice _ _ _ _ _ _ _ _ h2 => obtain ⟨rfl, rfl⟩ := key h; exact h2
  | _ => simp [V.rdS] at h

theorem rdB_get (hi : Inv E β σ w) {v : V} {bs : List UInt8} {u : Value} (h : v.rdB = some bs) (hr : Rel β v u) : ∃ a cap, u = .slice a bs.length cap ∧ Cells w a (bs.map byteV) :=
  bytes_get hi (rdB_rel h hr)

theorem rdS_get (hi : Inv E β σ w) {v : V} {sz : Nat} {xs : List V} {u : Value} (h : v.rdS sz = some xs) (hr : Rel β v u) :
    (∀ x ∈ xs, V.elem sz x) ∧ ∃ a cap us, u = .slice a xs.length cap ∧ Cells w a us ∧ RelL β (flat xs) us :=
  slice_get hi (rdS_rel h hr)

theorem Cells.at {a : Option Addr} {us : List Value} (h : Cells w a us) {i : Nat} {x : Value} (hx : us[i]? = some x) : ∃ b off, a = some ⟨b, off, none⟩ ∧ w.cell? ⟨b, off + i, none⟩ = some x := by
  rcases h with rfl | ⟨b, off, rfl, hc⟩
  · simp at hx
  · exact ⟨b, off, rfl, hc i x hx⟩

theorem Cells.first {P : Program} {a : Option Addr} {us : List Value} (h : Cells w a us) {size n cap : Nat} (hl : us.length = n * size) : ∀ w1 : World, w1.heap = w.heap →
    (Builtin.firstCells size n (.slice a n cap)).run P w1 = .ok us.toArray w1 := by
  intro w1 hw1
  have hcell : ∀ x, w1.cell? x = w.cell? x := fun x => by simp [World.cell?, hw1]
  cases a with
  | none =>
    rcases h with rfl | ⟨b, off, hh, _⟩
    · exact run_firstCells_none w1 size n n cap
    · cases hh
  | some a =>
    rcases h with rfl | ⟨b, off, hh, hc⟩
    · have : n * size = 0 := by simpa using hl.symm
      simp [Builtin.firstCells, this, loadCells, loadCellsFrom]
    · cases hh
      refine run_firstCells_some w1 size n _ n cap us hl fun j v hj => ?_
      rw [addr_add, hcell]
      exact hc j v hj

/-! len. -/

theorem p_lenB {t : TypeId} {ts : Array TypeId} {x : Operand} {v : V} {bs : List UInt8} (ho : o.op = .call { callee := .builtin .len, args := #[x], argTypes := ts }) (hts : ts = #[t]) (ht : ∃ e, E.P.underlying t = some (.slice e))
    (hx : g.evO x = some v) (hv : v.rdB = some bs) : Pv E N o g σ (.int .i64 bs.length) := by
  intro β a w ha hi
  obtain ⟨e, ht⟩ := ht
  subst hts
  obtain ⟨ad, cap, hu, _⟩ := rdB_get hi hv (ha.evO hx)
  refine ⟨_, ?_, .int _ _⟩
  simp [execOp, ho, resolve, invoke, Go.builtin, Builtin.len_, run_underlying ht, hu, goInt]

theorem p_lenS {t : TypeId} {ts : Array TypeId} {x : Operand} {v : V} {sz : Nat} {xs : List V} (ho : o.op = .call { callee := .builtin .len, args := #[x], argTypes := ts }) (hts : ts = #[t]) (ht : ∃ e, E.P.underlying t = some (.slice e))
    (hx : g.evO x = some v) (hv : v.rdS sz = some xs) : Pv E N o g σ (.int .i64 xs.length) := by
  intro β a w ha hi
  obtain ⟨e, ht⟩ := ht
  subst hts
  obtain ⟨_, ad, cap, us, hu, _⟩ := rdS_get hi hv (ha.evO hx)
  refine ⟨_, ?_, .int _ _⟩
  simp [execOp, ho, resolve, invoke, Go.builtin, Builtin.len_, run_underlying ht, hu, goInt]

theorem p_lenStr {t : TypeId} {ts : Array TypeId} {x : Operand} {s : List UInt8} (ho : o.op = .call { callee := .builtin .len, args := #[x], argTypes := ts }) (hts : ts = #[t]) (ht : E.P.underlying t = some .string)
    (hx : g.evO x = some (.str s)) : Pv E N o g σ (.int .i64 s.length) := by
  intro β a w ha hi
  subst hts
  have hu := (ha.evO hx).str_inv
  refine ⟨_, ?_, .int _ _⟩
  have hs : (ByteArray.mk s.toArray).size = s.length := by simp [ByteArray.size]
  simp [execOp, ho, resolve, invoke, Go.builtin, Builtin.len_, run_underlying ht, hu, goInt, hs]

/-! Elements. -/

theorem TSlice.get {P : Program} {t e sz by' : Nat} (h : TSlice P t e sz by') : P.underlying t = some (.slice e) ∧ ∃ i, P.info? e = some i ∧ i.size = sz ∧ i.bytes = by' := by
  have h := h.h
  unfold tySlice at h
  split at h
  · rename_i e' hu
    split at h
    · rename_i i hi
      simp only [Option.some.injEq, Prod.mk.injEq] at h
      obtain ⟨rfl, h2, h3⟩ := h
      exact ⟨hu, i, hi, h2, h3⟩
    · cases h
  · cases h

theorem p_indexB {t e sz by' : Nat} {x y : Operand} {w : V} {bs : List UInt8} {k : IntKind} {n : Int} {b : UInt8} (ho : o.op = .indexAddr t x y) (ht : TSlice E.P t e sz by') (hx : g.evO x = some w) (hw : w.rdB = some bs) (hy : g.evO y = some (.int k n))
    (h1 : sz = 1) (h0 : 0 ≤ n) (hb : bs[n.toNat]? = some b) : Pv E N o g σ (.rptr [.int .u8 b.toNat]) := by
  intro β a w' ha hi
  subst h1
  obtain ⟨hu, i, hin, hsz, _⟩ := ht.get
  have hlt : n.toNat < bs.length := (List.getElem?_eq_some_iff.1 hb).1
  have hn := (ha.evO hy).int_inv
  have h := rdB_rel hw (ha.evO hx)
  generalize hux : a.eval x = u at h
  cases h with
  | bytes0 => simp at hb
  | bytes _ bl off cap cells hlc hro hc =>
    refine ⟨.pointer (some ⟨bl, off + n.toNat, none⟩), ?_, .rptr _ bl _ cells hro ?_ fun i x hx => ?_⟩
    · have : 0 ≤ n ∧ n < (bs.length : Int) := by omega
      simp [execOp, ho, hux, hn, Instr.indexAt, asIntOf, run_underlying hu, sizeOf, typeInfo, hin, hsz, this, addr_add]
    · have := hc _ _ hb
      have := (List.getElem?_eq_some_iff.1 this).1
      simp; omega
    · cases i with
      | zero =>
        simp only [List.getElem?_cons_zero, Option.some.injEq] at hx
        subst hx
        have := hc _ _ hb
        simp only [Nat.add_zero, List.getD, this, Option.getD_some, byteV]
        exact .int _ _
      | succ i => simp at hx

theorem p_indexS {t e sz by' : Nat} {x y : Operand} {w : V} {xs : List V} {k : IntKind} {n : Int} {c : V} {v : V} (ho : o.op = .indexAddr t x y) (ht : TSlice E.P t e sz by') (hx : g.evO x = some w) (hw : w.rdS sz = some xs) (hy : g.evO y = some (.int k n))
    (h0 : 0 ≤ n) (hc : xs[n.toNat]? = some c) (hv : some (V.rptr c.cells) = some v) : Pv E N o g σ v := by
  intro β a w' ha hi
  cases hv
  obtain ⟨hu, i, hin, hsz, _⟩ := ht.get
  have hlt : n.toNat < xs.length := (List.getElem?_eq_some_iff.1 hc).1
  have hn := (ha.evO hy).int_inv
  have h := rdS_rel hw (ha.evO hx)
  generalize hux : a.eval x = u at h
  cases h with
  | slice0 => simp at hc
  | slice _ _ bl off cap cells hlc hro he hs hcc =>
    have hel := he c (List.mem_of_getElem? hc)
    have hfl := flat_len he
    have hmul : n.toNat * sz + sz ≤ xs.length * sz := by
      have := Nat.mul_le_mul_right sz (show n.toNat + 1 ≤ xs.length by omega)
      rw [Nat.add_mul] at this; omega
    refine ⟨.pointer (some ⟨bl, off + n.toNat * sz, none⟩), ?_, .rptr _ bl _ cells hro ?_ fun i x hx => ?_⟩
    · have : 0 ≤ n ∧ n < (xs.length : Int) := by omega
      simp [execOp, ho, hux, hn, Instr.indexAt, asIntOf, run_underlying hu, sizeOf, typeInfo, hin, hsz, this, addr_add]
    · rw [hel.1]; omega
    · have hi' : i < sz := by rw [← hel.1]; exact (List.getElem?_eq_some_iff.1 hx).1
      have := hcc (n.toNat * sz + i) x (by rw [flat_get he hc hi']; exact hx)
      rwa [Nat.add_assoc]

end
end Go.Vam

/- Vam: arrays, strings, cutting, conversion, freezing, append, new slices, calls. -/
namespace Go.Vam
open Go Go.RowKit

section
variable {E : Env} {N : Nat} {o : Oper} {g : G} {σ : St} {ops : Array Oper} {rest : List Oper} {Q : Q3} {β : Gh} {w : World}

theorem TArr.get {P : Program} {t n esz : Nat} (h : TArr P t n esz) : ∃ e, P.underlying t = some (.array n e) ∧ ∃ i, P.info? e = some i ∧ i.size = esz := by
  have h := h.h
  unfold tyArr at h
  split at h
  · rename_i n' e' hu
    split at h
    · rename_i i hi
      simp only [Option.some.injEq, Prod.mk.injEq] at h
      obtain ⟨rfl, h2⟩ := h
      exact ⟨e', hu, i, hi, h2⟩
    · cases h
  · cases h

theorem p_indexArr {t len esz : Nat} {x y : Operand} {p off : Nat} {k : IntKind} {n : Int} {v : V} (ho : o.op = .indexAddr t x y) (ht : TArr E.P t len esz) (hx : g.evO x = some (.ptr p off)) (hy : g.evO y = some (.int k n))
    (h0 : 0 ≤ n) (h1 : n < len) (hv : some (V.ptr p (off + n.toNat * esz)) = some v) : Pv E N o g σ v := by
  intro β a w ha hi
  cases hv
  obtain ⟨e, hu, i, hin, hsz⟩ := ht.get
  have hn := (ha.evO hy).int_inv
  have h := ha.evO hx
  generalize hux : a.eval x = u at h
  cases h with
  | ptr _ _ b l hl hb =>
    refine ⟨_, ?_, .ptr _ _ b l hl hb⟩
    have : 0 ≤ n ∧ n < (len : Int) := ⟨h0, h1⟩
    simp [execOp, ho, hux, hn, Instr.indexAt, asIntOf, run_underlying hu, sizeOf, typeInfo, hin, hsz, Instr.sureAddr, this, addr_add]

theorem p_indexArrR {t len esz : Nat} {x y : Operand} {cs : List V} {k : IntKind} {n : Int} {v : V} (ho : o.op = .indexAddr t x y) (ht : TArr E.P t len esz) (hx : g.evO x = some (.rptr cs)) (hy : g.evO y = some (.int k n))
    (h0 : 0 ≤ n) (h1 : n < len) (h2 : n.toNat * esz ≤ cs.length) (hv : some (V.rptr (cs.drop (n.toNat * esz))) = some v) : Pv E N o g σ v := by
  intro β a w ha hi
  cases hv
  obtain ⟨e, hu, i, hin, hsz⟩ := ht.get
  have hn := (ha.evO hy).int_inv
  have h := ha.evO hx
  generalize hux : a.eval x = u at h
  cases h with
  | rptr _ b off cells hro hs hc =>
    refine ⟨_, ?_, .rptr _ b (off + n.toNat * esz) cells hro (by simp; omega) fun i x hx => ?_⟩
    · have : 0 ≤ n ∧ n < (len : Int) := ⟨h0, h1⟩
      simp [execOp, ho, hux, hn, Instr.indexAt, asIntOf, run_underlying hu, sizeOf, typeInfo, hin, hsz, Instr.sureAddr, this, addr_add]
    · rw [List.getElem?_drop] at hx
      have := hc _ _ hx
      rwa [show off + n.toNat * esz + i = off + (n.toNat * esz + i) by omega]

/-- An element of an array that is a value. -/
theorem p_indexAgg {t len e : Nat} {x y : Operand} {cs : List V} {k : IntKind} {n : Int} {v : V} (ho : o.op = .index t x y) (ht : E.P.underlying t = some (.array len e)) (he : TLoad E.P e false 1)
    (hx : g.evO x = some (.agg cs)) (hy : g.evO y = some (.int k n)) (h0 : 0 ≤ n) (h1 : n < len) (hv : cs[n.toNat]? = some v) : Pv E N o g σ v := by
  intro β a w ha hi
  have hn := (ha.evO hy).int_inv
  obtain ⟨arr, hu, hr⟩ := (ha.evO hx).agg_inv
  obtain ⟨u, hu2, hr2⟩ := hr.get hv
  have hlt : n.toNat < arr.size := by have := (List.getElem?_eq_some_iff.1 hu2).1; simpa using this
  have hcell : arr[n.toNat]? = some u := by simpa using hu2
  refine ⟨u, ?_, hr2⟩
  have : 0 ≤ n ∧ n < (len : Int) := ⟨h0, h1⟩
  simp [execOp, ho, hu, hn, Instr.index, asIntOf, run_underlying ht, this, run_sizeOf he, part, run_isAgg he, hcell]

theorem p_indexStr {t : Nat} {x y : Operand} {s : List UInt8} {k : IntKind} {n : Int} {b : UInt8} (ho : o.op = .index t x y) (ht : E.P.underlying t = some .string) (hx : g.evO x = some (.str s)) (hy : g.evO y = some (.int k n))
    (h0 : 0 ≤ n) (hb : s[n.toNat]? = some b) : Pv E N o g σ (.int .u8 b.toNat) := by
  intro β a w ha hi
  have hn := (ha.evO hy).int_inv
  have hu := (ha.evO hx).str_inv
  have hlt : n.toNat < s.length := (List.getElem?_eq_some_iff.1 hb).1
  have hget : (ByteArray.mk s.toArray)[n.toNat]? = some b := by
    have h1 : n.toNat < (ByteArray.mk s.toArray).size := by simpa [ByteArray.size] using hlt
    rw [getElem?_pos (ByteArray.mk s.toArray) n.toNat h1]
    have h2 : (ByteArray.mk s.toArray)[n.toNat] = s.toArray[n.toNat] := rfl
    rw [h2]
    have h3 := List.getElem?_eq_getElem hlt
    rw [h3] at hb
    simpa using hb
  refine ⟨_, ?_, .int _ _⟩
  simp [execOp, ho, hu, hn, Instr.index, asIntOf, run_underlying ht, h0, hget]

/-! Cutting. -/

def bndO (g : G) : Option Operand → Option (Option Int)
  | none => some none
  | some x => match g.evO x with
    | some (.int _ n) => some (some n)
    | _ => none

theorem run_bounds {P : Program} {a : Act} (ha : AR N β g a) {lo hi : Option Operand} {l h : Option Int} (hl : bndO g lo = some l) (hh : bndO g hi = some h) {isS : Bool} {len cap : Nat}
    (h1 : 0 ≤ l.getD 0) (h2 : l.getD 0 ≤ h.getD len) (h3 : h.getD len ≤ cap) (_ : len ≤ cap) (w : World) :
    (Instr.sliceBounds isS len cap (lo.map a.eval) (hi.map a.eval) none).run P w = .ok ((l.getD 0).toNat, (h.getD len).toNat, cap) w := by
  have hb : ∀ {x : Option Operand} {n : Option Int}, bndO g x = some n → (x = none ∧ n = none) ∨ ∃ y k m, x = some y ∧ n = some m ∧ a.eval y = .int k m := by
    intro x n hx
    cases x with
    | none => simp [bndO] at hx; exact .inl ⟨rfl, hx.symm⟩
    | some y =>
      simp only [bndO] at hx
      split at hx
      · rename_i k m hm
        cases hx
        exact .inr ⟨y, k, m, rfl, rfl, (ha.evO hm).int_inv⟩
      · cases hx
  rcases hb hl with ⟨rfl, rfl⟩ | ⟨y, k, m, rfl, rfl, he⟩ <;> rcases hb hh with ⟨rfl, rfl⟩ | ⟨y', k', m', rfl, rfl, he'⟩ <;> simp only [Option.getD_none, Option.getD_some] at h1 h2 h3 ⊢
  · simp [Instr.sliceBounds]
  · have : 0 ≤ m' ∧ m' ≤ (cap : Int) := ⟨by omega, h3⟩
    simp [Instr.sliceBounds, Instr.sliceBound, he', asIntOf, this]
  · have : 0 ≤ m ∧ m ≤ (len : Int) := ⟨h1, h2⟩
    simp [Instr.sliceBounds, Instr.sliceBound, he, asIntOf, this]
  · have q1 : 0 ≤ m' ∧ m' ≤ (cap : Int) := ⟨by omega, h3⟩
    have q2 : 0 ≤ m ∧ m ≤ ((m'.toNat : Nat) : Int) := ⟨h1, by omega⟩
    have q3 : m ≤ max m' 0 := by omega
    simp [Instr.sliceBounds, Instr.sliceBound, he, he', asIntOf, q1, q2]
    intro hh; omega

theorem p_cutStr {t : Nat} {x : Operand} {lo hi : Option Operand} {s : List UInt8} {l h : Option Int} {v : V} (ho : o.op = .slice t x lo hi none) (ht : E.P.underlying t = some .string) (hx : g.evO x = some (.str s))
    (hl : bndO g lo = some l) (hh : bndO g hi = some h) (h1 : 0 ≤ l.getD 0) (h2 : l.getD 0 ≤ h.getD s.length) (h3 : h.getD s.length ≤ s.length)
    (hv : some (V.str ((s.take (h.getD s.length).toNat).drop (l.getD 0).toNat)) = some v) : Pv E N o g σ v := by
  intro β a w ha hi'
  cases hv
  have hu := (ha.evO hx).str_inv
  have hsz : (ByteArray.mk s.toArray).size = s.length := by simp [ByteArray.size]
  have hb := run_bounds (P := E.P) ha hl hh (isS := false) h1 h2 h3 (Nat.le_refl _) w
  refine ⟨.string ⟨((s.take (h.getD s.length).toNat).drop (l.getD 0).toNat).toArray⟩, ?_, .str _⟩
  have hex : (ByteArray.mk s.toArray).extract (l.getD 0).toNat (h.getD s.length).toNat = ⟨((s.take (h.getD s.length).toNat).drop (l.getD 0).toNat).toArray⟩ := by
    apply ByteArray.ext
    rw [ByteArray.data_extract]
    apply Array.ext'
    simp [List.drop_take]
  simp [execOp, ho, hu, Instr.sliceAt, Instr.slice, run_underlying ht, hsz, hb, hex]

theorem p_cutB {t e by' : Nat} {x : Operand} {lo hi : Option Operand} {w0 : V} {bs : List UInt8} {l h : Option Int} {v : V} (ho : o.op = .slice t x lo hi none) (ht : TSlice E.P t e 1 by') (hx : g.evO x = some w0) (hw0 : w0.rdB = some bs)
    (hl : bndO g lo = some l) (hh : bndO g hi = some h) (h1 : 0 ≤ l.getD 0) (h2 : l.getD 0 ≤ h.getD bs.length) (h3 : h.getD bs.length ≤ bs.length)
    (hv : some (V.bytes ((bs.take (h.getD bs.length).toNat).drop (l.getD 0).toNat)) = some v) : Pv E N o g σ v := by
  intro β a w ha hi'
  cases hv
  obtain ⟨hut, i, hin, hisz, _⟩ := ht.get
  have hr := rdB_rel hw0 (ha.evO hx)
  generalize hux : a.eval x = r at hr
  cases hr with
  | bytes0 ad c =>
    have hb := run_bounds (P := E.P) ha hl hh (isS := true) (cap := c) h1 h2 (by simp at h3 ⊢; omega) (by simp) w
    simp only [List.length_nil] at hb h3 h2
    rw [List.take_nil, List.drop_nil]
    refine ⟨_, ?_, .bytes0 (if c = (l.getD 0).toNat then ad else ad.map (·.add (l.getD 0).toNat)) (c - (l.getD 0).toNat)⟩
    have q : (h.getD (0 : Nat)).toNat - (l.getD 0).toNat = 0 := by omega
    simp only [execOp, ho, hux, Instr.sliceAt, Instr.slice, run_underlying hut, Sem.run_bind, Result.andThen_ok, Option.map_none, hb]
    simp [sizeOf, typeInfo, hin, hisz]
    simpa using q
  | bytes _ b off c cells hlc hro hc =>
    have hb := run_bounds (P := E.P) ha hl hh (isS := true) (cap := c) h1 h2 (by omega) hlc w
    by_cases he : (h.getD bs.length).toNat = (l.getD 0).toNat
    · have hnil : (bs.take (h.getD bs.length).toNat).drop (l.getD 0).toNat = [] := by rw [List.drop_eq_nil_iff]; simp; omega
      rw [hnil]
      refine ⟨_, ?_, .bytes0 (if c = (l.getD 0).toNat then some ⟨b, off, none⟩ else some ⟨b, off + (l.getD 0).toNat, none⟩) (c - (l.getD 0).toNat)⟩
      have q : (h.getD bs.length).toNat - (l.getD 0).toNat = 0 := by omega
      simp only [execOp, ho, hux, Instr.sliceAt, Instr.slice, run_underlying hut, Sem.run_bind, Result.andThen_ok, Option.map_none, hb]
      simp [sizeOf, typeInfo, hin, hisz, q, addr_add]
    · have hne : ¬ c = (l.getD 0).toNat := by omega
      have hlen : ((bs.take (h.getD bs.length).toNat).drop (l.getD 0).toNat).length = (h.getD bs.length).toNat - (l.getD 0).toNat := by simp; omega
      refine ⟨.slice (some ⟨b, off + (l.getD 0).toNat, none⟩) ((bs.take (h.getD bs.length).toNat).drop (l.getD 0).toNat).length (c - (l.getD 0).toNat), ?_, .bytes _ b _ _ cells (by rw [hlen]; omega) hro fun i x hx => ?_⟩
      · simp only [execOp, ho, hux, Instr.sliceAt, Instr.slice, run_underlying hut, Sem.run_bind, Result.andThen_ok, Option.map_none, hb, hlen]
        simp [sizeOf, typeInfo, hin, hisz, hne, addr_add]
      · rw [List.getElem?_drop, List.getElem?_take] at hx
        split at hx
        · have := hc _ _ hx
          rwa [Nat.add_assoc]
        · cases hx

theorem p_cutS {t e sz by' : Nat} {x : Operand} {lo hi : Option Operand} {w0 : V} {xs : List V} {l h : Option Int} {v : V} (ho : o.op = .slice t x lo hi none) (ht : TSlice E.P t e sz by') (hx : g.evO x = some w0) (hw0 : w0.rdS sz = some xs)
    (hl : bndO g lo = some l) (hh : bndO g hi = some h) (h1 : 0 ≤ l.getD 0) (h2 : l.getD 0 ≤ h.getD xs.length) (h3 : h.getD xs.length ≤ xs.length)
    (hv : some (V.slice sz ((xs.take (h.getD xs.length).toNat).drop (l.getD 0).toNat)) = some v) : Pv E N o g σ v := by
  intro β a w ha hi'
  cases hv
  obtain ⟨hut, i, hin, hisz, _⟩ := ht.get
  have hr := rdS_rel hw0 (ha.evO hx)
  generalize hux : a.eval x = r at hr
  cases hr with
  | slice0 _ ad c =>
    have hb := run_bounds (P := E.P) ha hl hh (isS := true) (cap := c) h1 h2 (by simp at h3 ⊢; omega) (by simp) w
    simp only [List.length_nil] at hb h3 h2
    rw [List.take_nil, List.drop_nil]
    refine ⟨_, ?_, .slice0 sz (if c = (l.getD 0).toNat then ad else ad.map (·.add ((l.getD 0).toNat * sz))) (c - (l.getD 0).toNat)⟩
    have q : (h.getD (0 : Nat)).toNat - (l.getD 0).toNat = 0 := by omega
    simp only [execOp, ho, hux, Instr.sliceAt, Instr.slice, run_underlying hut, Sem.run_bind, Result.andThen_ok, Option.map_none, hb]
    simp [sizeOf, typeInfo, hin, hisz]
    simpa using q
  | slice _ _ b off c cells hlc hro he0 hs hc =>
    have hb := run_bounds (P := E.P) ha hl hh (isS := true) (cap := c) h1 h2 (by omega) hlc w
    by_cases he : (h.getD xs.length).toNat = (l.getD 0).toNat
    · have hnil : (xs.take (h.getD xs.length).toNat).drop (l.getD 0).toNat = [] := by rw [List.drop_eq_nil_iff]; simp; omega
      rw [hnil]
      refine ⟨_, ?_, .slice0 sz (if c = (l.getD 0).toNat then some ⟨b, off, none⟩ else some ⟨b, off + (l.getD 0).toNat * sz, none⟩) (c - (l.getD 0).toNat)⟩
      have q : (h.getD xs.length).toNat - (l.getD 0).toNat = 0 := by omega
      simp only [execOp, ho, hux, Instr.sliceAt, Instr.slice, run_underlying hut, Sem.run_bind, Result.andThen_ok, Option.map_none, hb]
      simp [sizeOf, typeInfo, hin, hisz, q, addr_add]
    · have hne : ¬ c = (l.getD 0).toNat := by omega
      have hlen : ((xs.take (h.getD xs.length).toNat).drop (l.getD 0).toNat).length = (h.getD xs.length).toNat - (l.getD 0).toNat := by simp; omega
      have hel : ∀ x ∈ (xs.take (h.getD xs.length).toNat).drop (l.getD 0).toNat, V.elem sz x := fun x hx => he0 x (List.mem_of_mem_take (List.mem_of_mem_drop hx))
      have hfl := flat_len hel
      have hft : flat ((xs.take (h.getD xs.length).toNat).drop (l.getD 0).toNat) = ((flat xs).take ((h.getD xs.length).toNat * sz)).drop ((l.getD 0).toNat * sz) := by
        rw [flat_take he0, flat_drop (fun x hx => he0 x (List.mem_of_mem_take hx))]
      have hmul : ((l.getD 0).toNat) * sz + ((h.getD xs.length).toNat - (l.getD 0).toNat) * sz ≤ xs.length * sz := by
        rw [← Nat.add_mul]; exact Nat.mul_le_mul_right _ (by omega)
      have hflx := flat_len he0
      refine ⟨.slice (some ⟨b, off + (l.getD 0).toNat * sz, none⟩) ((xs.take (h.getD xs.length).toNat).drop (l.getD 0).toNat).length (c - (l.getD 0).toNat), ?_, .slice sz _ b _ _ cells (by rw [hlen]; omega) hro hel ?_ fun i x hx => ?_⟩
      · simp only [execOp, ho, hux, Instr.sliceAt, Instr.slice, run_underlying hut, Sem.run_bind, Result.andThen_ok, Option.map_none, hb, hlen]
        simp [sizeOf, typeInfo, hin, hisz, hne, addr_add]
      · rw [hfl, hlen]; omega
      · rw [hft, List.getElem?_drop, List.getElem?_take] at hx
        split at hx
        · have := hc _ _ hx
          rwa [Nat.add_assoc]
        · cases hx

end
end Go.Vam

/- Vam: freezing a buffer; append; new slices; calls. -/
namespace Go.Vam
open Go Go.RowKit

theorem St.del_sub (σ : St) (p : Nat) : (σ.del p).sub σ := fun o x h => by
  unfold St.del at h
  by_cases ho : o = p
  · subst ho; simp at h
  · rw [if_neg ho] at h; exact h

theorem St.set_del {σ : St} {p : Nat} (x : O) (h : σ p = none) : (σ.set p x).del p = σ := by
  funext i
  unfold St.del St.set
  by_cases hi : i = p
  · subst hi; simp [h]
  · simp [hi]

theorem St.set_same (σ : St) (p : Nat) (x : O) : (σ.set p x) p = some x := by simp [St.set]
theorem St.set_ne {σ : St} {p q : Nat} {x : O} (h : q ≠ p) : (σ.set p x) q = σ q := by simp [St.set, h]
theorem St.set_set (σ : St) (p : Nat) (x y : O) : (σ.set p x).set p y = σ.set p y := by
  funext i; unfold St.set; by_cases h : i = p <;> simp [h]
theorem St.del_same (σ : St) (p : Nat) : (σ.del p) p = none := by simp [St.del]
theorem St.del_ne {σ : St} {p q : Nat} (h : q ≠ p) : (σ.del p) q = σ q := by simp [St.del, h]

section
variable {E : Env} {N : Nat} {o : Oper} {g : G} {σ : St} {ops : Array Oper} {rest : List Oper} {Q : Q3} {β : Gh} {w : World}

theorem ownsRow_inv {base e sz n m c : Nat} {b : Option Nat} {us : List Value} (h : w.ownsRow base e sz (sliceAt b m c) n us) :
    (b = none ∧ n = 0 ∧ us = [] ∧ m = 0 ∧ c = 0) ∨ ∃ r cur, b = some r ∧ m = n ∧ n ≤ c ∧ base ≤ r ∧ w.heap[r]? = some (.cells cur e (0, 0)) ∧ cur.size = c * sz ∧ cur.toList.take (n * sz) = us := by
  rcases h.2 with ⟨hv, h0⟩ | ⟨g, cap, cur, hv, hb, hg, hn, _, hsz, ht⟩
  · cases b with
    | none =>
      simp only [sliceAt, Option.map_none, Value.slice.injEq] at hv
      have h1 : us.length = 0 := by have := h.1; rw [h0] at this; simpa using this
      exact .inl ⟨rfl, h0, List.eq_nil_of_length_eq_zero h1, hv.2.1, hv.2.2⟩
    | some b => simp [sliceAt] at hv
  · cases b with
    | none => simp [sliceAt] at hv
    | some b =>
      simp only [sliceAt, Option.map_some, Value.slice.injEq, Option.some.injEq, Addr.mk.injEq] at hv
      obtain ⟨⟨rfl, _, _⟩, rfl, rfl⟩ := hv
      exact .inr ⟨b, cur, rfl, rfl, hn, hb, hg, hsz, ht⟩

/-- What is appended to: nothing, or a slice whose token lives (σ': without it). -/
def dst (σ : St) (e sz : Nat) : V → Option St
  | .nils => some σ
  | .obytes bs p => match σ p with
    | some (.tok e' sz' n) => cond (Nat.beq e' e && (Nat.beq sz' 1 && (Nat.beq sz 1 && Nat.beq n bs.length))) (some (σ.del p)) none
    | _ => none
  | .oslice sz2 xs p => match σ p with
    | some (.tok e' sz' n) => cond (Nat.beq e' e && (Nat.beq sz' sz && (Nat.beq sz2 sz && Nat.beq n xs.length))) (some (σ.del p)) none
    | _ => none
  | _ => none

inductive DstB (σ : St) (e : Nat) : V → List UInt8 → St → Prop
  | nils : DstB σ e .nils [] σ
  | tok (p : Nat) (bs : List UInt8) (h : σ p = some (.tok e 1 bs.length)) : DstB σ e (.obytes bs p) bs (σ.del p)

inductive DstS (σ : St) (e sz : Nat) : V → List V → St → Prop
  | nils : DstS σ e sz .nils [] σ
  | tok (p : Nat) (xs : List V) (h : σ p = some (.tok e sz xs.length)) : DstS σ e sz (.oslice sz xs p) xs (σ.del p)

theorem slice_of_owns {base e sz n : Nat} {v : Value} {us : List Value} (h : w.ownsRow base e sz v n us) : ∃ b c, v = sliceAt b n c ∧ v.ownBlock = b := by
  rcases h.2 with ⟨rfl, rfl⟩ | ⟨g, cap, cur, rfl, _⟩
  · exact ⟨none, 0, rfl, rfl⟩
  · exact ⟨some g, cap, rfl, rfl⟩

/-- The invariant behind an append: the old token is gone, the new one is there. -/
theorem Inv.appended (hi : Inv E β σ w) {σd : St} {v v' : Value} {w' : World} {e sz m n : Nat} {b : Option Nat} {us us' : List Value}
    (hd : (σd = σ ∧ v.ownBlock = none ∧ us = []) ∨ ∃ p l, σ p = some (.tok e sz m) ∧ σd = σ.del p ∧ β.loc p = some l ∧ l.block? = v.ownBlock ∧ ∀ r, v.ownBlock = some r → β.ro r = some us)
    (hown : w'.ownsRow E.B e sz v' n us') (hpre : us <+: us') (hv' : v'.ownBlock = b) (hstep : (v'.ownBlock = v.ownBlock ∧ w.grownBy w' v.ownBlock) ∨ (v'.ownBlock = some w.heap.size ∧ Grew w w')) :
    ∃ β' c, β.le β' ∧ β.keep β' ∧ Inv E β' (σd.set β.next (.tok e sz n)) w' ∧ v' = sliceAt b n c ∧ β'.loc β.next = some (.sl b n c) ∧ (∀ r, b = some r → β'.ro r = some us') ∧ σd β.next = none ∧ β'.next = β.next + 1 := by
  obtain ⟨b', c, hvs, hb'⟩ := slice_of_owns hown
  rw [hv'] at hb'
  subst hb'
  have hsub : σd.sub σ := by
    rcases hd with ⟨rfl, _⟩ | ⟨p, l, _, rfl, _⟩
    · exact .refl _
    · exact St.del_sub σ p
  have hid := hi.weak hsub
  -- live objects do not lie in v's block
  have hfree : ∀ o z l' r, σd o = some z → β.loc o = some l' → l'.block? = some r → v.ownBlock ≠ some r := by
    intro o z l' r hz hl' hr hv
    rcases hd with ⟨_, h0, _⟩ | ⟨p, l, hp, rfl, hl, hb, _⟩
    · rw [h0] at hv; cases hv
    · have hne : o ≠ p := fun e => by subst e; rw [St.del_same] at hz; cases hz
      rw [St.del_ne hne] at hz
      have h1 := (hi.owner o z l' r hz hl' hr).2.1
      have h2 := (hi.owner p _ l r hp hl (by rw [hb, hv])).2.1
      rw [h1] at h2
      exact hne (Option.some.inj h2)
  have hblk : ∀ k, k < w.heap.size → some k ≠ v.ownBlock → w'.heap[k]? = w.heap[k]? := by
    intro k hk hne
    rcases hstep with ⟨_, hg⟩ | ⟨_, hg⟩
    · exact hg.block k hk hne
    · exact hg.block k hk
  have hmeta : w'.os = w.os ∧ w'.tape = w.tape ∧ w'.output = w.output ∧ w.heap.size ≤ w'.heap.size := by
    rcases hstep with ⟨_, hg⟩ | ⟨_, hg⟩
    · exact ⟨hg.os, hg.tape, hg.output, hg.size⟩
    · exact ⟨hg.os, hg.tape, hg.output, hg.size⟩
  have hvB : ∀ r, v.ownBlock = some r → E.B ≤ r ∧ β.ro r = some us := by
    intro r hr
    rcases hd with ⟨_, h0, _⟩ | ⟨p, l, hp, _, hl, hb, hro⟩
    · rw [h0] at hr; cases hr
    · have := hi.owner p _ l r hp hl (by rw [hb, hr]); exact ⟨this.1, hro r hr⟩
  -- the new contents of the block
  have hnewrow : ∀ r, b = some r → ∃ arr, w'.heap[r]? = some (.cells arr e (0, 0)) ∧ us' <+: arr.toList := by
    intro r hr
    rw [hvs] at hown
    rcases ownsRow_inv hown with ⟨h0, _⟩ | ⟨r', cur, h1, _, _, _, hg, _, ht⟩
    · rw [h0] at hr; cases hr
    · rw [h1] at hr; cases hr
      exact ⟨cur, hg, by rw [← ht]; exact List.take_prefix _ _⟩
  have hbro : ∀ r, b = some r → ∀ d, β.ro r = some d → d <+: us' := by
    intro r hr d hdr
    rcases hstep with ⟨he, _⟩ | ⟨he, _⟩
    · rw [hv', hr] at he
      obtain ⟨_, h2⟩ := hvB r he.symm
      rw [h2] at hdr; cases hdr; exact hpre
    · rw [hv', hr] at he; cases he
      have := (hi.new_free (Nat.le_refl _)).2.1
      rw [this] at hdr; cases hdr
  have hbfree : ∀ r, b = some r → E.B ≤ r ∧ ∀ o y l', σd o = some y → β.loc o = some l' → l'.block? ≠ some r := by
    intro r hr
    rcases hstep with ⟨he, _⟩ | ⟨he, _⟩
    · rw [hv', hr] at he
      exact ⟨(hvB r he.symm).1, fun o y l' hy hl' hb => hfree o y l' r hy hl' hb he.symm⟩
    · rw [hv', hr] at he; cases he
      obtain ⟨q1, _, q3⟩ := hid.new_free (Nat.le_refl _)
      exact ⟨q1, q3⟩
  have hi1 : Inv E β σd w' := by
    refine ⟨hi.below.trans ⟨hmeta.1, hmeta.2.1, hmeta.2.2.1, hmeta.2.2.2, fun k hk => hblk k (Nat.lt_of_lt_of_le hk hi.base) (fun e => by have := (hvB k e.symm).1; omega)⟩, Nat.le_trans hi.base hmeta.2.2.2, ?_, ?_, hid.owner, hi.next, hi.gl⟩
    · intro k x hk
      by_cases hkv : some k = v.ownBlock
      · -- the block of v
        have h2 := (hvB k hkv.symm).2
        rw [hk] at h2
        cases h2
        rcases hstep with ⟨he, _⟩ | ⟨_, hg⟩
        · obtain ⟨arr, q1, q2⟩ := hnewrow k (by rw [← hv', he, hkv])
          exact ⟨arr, e, (0, 0), q1, hpre.trans q2⟩
        · rw [hg.block k (hi.ro_lt hk)]; exact hi.ro k _ hk
      · rw [hblk k (hi.ro_lt hk) hkv]
        exact hi.ro k x hk
    · intro o z hz
      obtain ⟨l', hl', ho'⟩ := hid.obj o z hz
      exact ⟨l', hl', ho'.same fun r hr => hblk r (ho'.lt hr) (fun e => hfree o z l' r hz hl' hr e.symm)⟩
  have hfr : σd β.next = none := hid.fresh
  cases b with
  | none =>
    have hp := hi.next β.next (Nat.le_refl _)
    have hle := Gh.addObj_le hp (.sl none n c)
    refine ⟨β.addObj β.next (.sl none n c), c, hle, Gh.addObj_keep _, hi1.addObj hp (.tok e sz n) _ ?_ (fun r hr => by simp [Loc.block?] at hr), hvs, by simp [Gh.addObj], (fun r hr => by cases hr), hfr, Gh.addObj_next _⟩
    simp only [ORel]
    exact ⟨trivial, us', by rw [← hvs]; exact hown, fun r hr => by cases hr⟩
  | some r =>
    obtain ⟨arr, q1, q2⟩ := hnewrow r rfl
    obtain ⟨q3, q4⟩ := hbfree r rfl
    have hi2 := hi1.addRo q1 q2 (hbro r rfl) q4
    have hle1 := Gh.addRo_le (hbro r rfl)
    have hp := hi2.next β.next (Nat.le_refl _)
    have hle := Gh.addObj_le hp (.sl (some r) n c)
    refine ⟨(β.addRo r us').addObj β.next (.sl (some r) n c), c, hle1.trans hle, (Gh.addRo_keep r us').trans (Gh.addObj_keep (β := β.addRo r us') _), hi2.addObj hp (.tok e sz n) _ ?_ ?_, hvs, ?_, ?_, hfr, Gh.addObj_next (β := β.addRo r us') _⟩
    · simp only [ORel]
      refine ⟨trivial, us', by rw [← hvs]; exact hown, fun r' hr' => ?_⟩
      cases hr'
      simp [Gh.addObj, Gh.addRo]
    · intro r' hr'
      simp only [Loc.block?, Option.some.injEq] at hr'
      subst hr'
      exact ⟨q3, (fun h => by simp [O.isTok] at h), q4⟩
    · simp [Gh.addObj, Gh.addRo]
    · intro r' hr'; cases hr'; simp [Gh.addObj, Gh.addRo]

end
end Go.Vam
