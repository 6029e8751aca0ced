/- Parts Aa, Ab, Ac, Ad, Av, Ae, Af, Ag, Ah, Ai, Aj, Ak, Al, Am, An, Ao: a logic over abstract states, contracts of the code and plain laws, made from the texts in wip by wip/tools/pack.py. -/
import Derived.TacticsIn
import Derived.RangeFuncIn
import Derived.Laws.World
import Derived.Laws.Sem
import Derived.Laws.Small
import Derived.DefersIn
import Derived.Laws.NewFold
import Derived.Laws.AppendOwn
import Derived.OrdersIn
set_option linter.unusedSimpArgs false
set_option linter.unusedVariables false
namespace Go.AL
inductive D where
  | int (k : IntKind) (n : Int)
  | bool (b : Bool)
  | str (s : ByteArray)
  | sl (es : Nat) (xs : List D)
  | agg (cs : List D)
  | hole
def D.cells : D → List D
  | .agg cs => cs
  | d => [d]
inductive RO (R : Nat → Prop) (w : World) : Value → D → Prop
  | int (k : IntKind) (n : Int) : RO R w (.int k n) (.int k n)
  | bool (b : Bool) : RO R w (.bool b) (.bool b)
  | str (s : ByteArray) : RO R w (.string s) (.str s)
  | nil (a : Option Addr) (cap es : Nat) : RO R w (.slice a 0 cap) (.sl es [])
  | sl (b o cap es : Nat) (xs : List D) (us : Nat → Nat → Value) (hb : R b) (hcap : xs.length ≤ cap)
      (hes : ∀ (i : Nat) (hi : i < xs.length), xs[i].cells.length = es)
      (hc : ∀ (i j : Nat), i < xs.length → j < es → w.cell? ⟨b, o + i * es + j, none⟩ = some (us i j))
      (hr : ∀ (i : Nat) (hi : i < xs.length) (j : Nat) (hj : j < xs[i].cells.length), RO R w (us i j) xs[i].cells[j]) :
      RO R w (.slice (some ⟨b, o, none⟩) xs.length cap) (.sl es xs)
  | agg (vs : Array Value) (cs : List D) (hs : vs.size = cs.length)
      (hr : ∀ (j : Nat) (hj : j < cs.length), RO R w (vs.getD j undef) cs[j]) : RO R w (.agg vs) (.agg cs)
  | hole (v : Value) (h : v.cells = #[v]) : RO R w v .hole
theorem cell_same {w w' : World} {b : Nat} (h : w'.heap[b]? = w.heap[b]?) (o : Nat) : w'.cell? ⟨b, o, none⟩ = w.cell? ⟨b, o, none⟩ := by
  simp [World.cell?, h]
theorem RO.mono {R R' : Nat → Prop} {w w' : World} {v : Value} {x : D} (h : RO R w v x) (hR : ∀ b, R b → R' b) (hw : ∀ b, R b → w'.heap[b]? = w.heap[b]?) : RO R' w' v x := by
  induction h with
  | int k n => exact .int k n
  | bool b => exact .bool b
  | str s => exact .str s
  | nil a cap es => exact .nil a cap es
  | sl b o cap es xs us hb hcap hes hc hr ih => exact .sl b o cap es xs us (hR b hb) hcap hes (fun i j hi hj => (cell_same (hw b hb) _).trans (hc i j hi hj)) ih
  | agg vs cs hs hr ih => exact .agg vs cs hs ih
  | hole v h => exact .hole v h
inductive Own (w : World) : (Nat → Prop) → Value → D → Prop
  | int (F : Nat → Prop) (k : IntKind) (n : Int) : Own w F (.int k n) (.int k n)
  | bool (F : Nat → Prop) (b : Bool) : Own w F (.bool b) (.bool b)
  | str (F : Nat → Prop) (s : ByteArray) : Own w F (.string s) (.str s)
  | nil (F : Nat → Prop) (a : Option Addr) (es : Nat) : Own w F (.slice a 0 0) (.sl es [])
  | sl (F : Nat → Prop) (b cap es : Nat) (xs : List D) (c : Array Value) (ty : TypeId) (G : Nat → Nat → Nat → Prop) (hb : F b)
      (hh : w.heap[b]? = some (.cells c ty (0, 0))) (hsz : c.size = cap * es) (hcap : xs.length ≤ cap)
      (hes : ∀ (i : Nat) (hi : i < xs.length), xs[i].cells.length = es)
      (hr : ∀ (i : Nat) (hi : i < xs.length) (j : Nat) (hj : j < xs[i].cells.length), Own w (G i j) (c.getD (i * es + j) undef) xs[i].cells[j])
      (hG : ∀ i j x, G i j x → F x ∧ x ≠ b) (hd : ∀ i j i' j' x, G i j x → G i' j' x → i = i' ∧ j = j') :
      Own w F (.slice (some ⟨b, 0, none⟩) xs.length cap) (.sl es xs)
  | agg (F : Nat → Prop) (vs : Array Value) (cs : List D) (G : Nat → Nat → Prop) (hs : vs.size = cs.length)
      (hr : ∀ (j : Nat) (hj : j < cs.length), Own w (G j) (vs.getD j undef) cs[j])
      (hG : ∀ j x, G j x → F x) (hd : ∀ j j' x, G j x → G j' x → j = j') : Own w F (.agg vs) (.agg cs)
  | hole (F : Nat → Prop) (v : Value) (h : v.cells = #[v]) : Own w F v .hole
theorem cell_of_heap {w : World} {b : Nat} {c : Array Value} {ty : TypeId} {fr : Nat × Nat} (h : w.heap[b]? = some (.cells c ty fr)) {o : Nat} (ho : o < c.size) : w.cell? ⟨b, o, none⟩ = some (c.getD o undef) := by
  simp [World.cell?, h, ho, Array.getElem?_eq_getElem]
theorem mul_add_lt {i j n es : Nat} (hi : i < n) (hj : j < es) : i * es + j < n * es := by
  have h1 : i * es + es ≤ n * es := by
    rw [← Nat.succ_mul]; exact Nat.mul_le_mul_right _ hi
  omega
theorem Own.ro {w : World} {F : Nat → Prop} {v : Value} {x : D} (h : Own w F v x) : ∀ (R : Nat → Prop), (∀ b, F b → R b) → RO R w v x := by
  induction h with
  | int F k n => exact fun _ _ => .int k n
  | bool F b => exact fun _ _ => .bool b
  | str F s => exact fun _ _ => .str s
  | nil F a es => exact fun _ _ => .nil a 0 es
  | sl F b cap es xs c ty G hb hh hsz hcap hes hr hG hd ih =>
    intro R hR
    refine .sl b 0 cap es xs (fun i j => c.getD (i * es + j) undef) (hR b hb) hcap hes (fun i j hi hj => ?_) (fun i hi j hj => ih i hi j hj R fun x hx => hR x (hG i j x hx).1)
    rw [Nat.zero_add]
    exact cell_of_heap hh (by rw [hsz]; exact Nat.lt_of_lt_of_le (mul_add_lt hi hj) (Nat.mul_le_mul_right _ hcap))
  | agg F vs cs G hs hr hG hd ih => exact fun R hR => .agg vs cs hs fun j hj => ih j hj R fun x hx => hR x (hG j x hx)
  | hole F v h => exact fun _ _ => .hole v h
theorem Own.mono {w w' : World} {F : Nat → Prop} {v : Value} {x : D} (h : Own w F v x) : ∀ (F' : Nat → Prop), (∀ b, F b → F' b) → (∀ b, F b → w'.heap[b]? = w.heap[b]?) → Own w' F' v x := by
  induction h with
  | int F k n => exact fun _ _ _ => .int _ k n
  | bool F b => exact fun _ _ _ => .bool _ b
  | str F s => exact fun _ _ _ => .str _ s
  | nil F a es => exact fun _ _ _ => .nil _ a es
  | sl F b cap es xs c ty G hb hh hsz hcap hes hr hG hd ih =>
    intro F' hF hw
    exact .sl F' b cap es xs c ty G (hF b hb) ((hw b hb).trans hh) hsz hcap hes (fun i hi j hj => ih i hi j hj _ (fun _ h => h) fun x hx => hw x (hG i j x hx).1) (fun i j x hx => ⟨hF x (hG i j x hx).1, (hG i j x hx).2⟩) hd
  | agg F vs cs G hs hr hG hd ih =>
    intro F' hF hw
    exact .agg F' vs cs G hs (fun j hj => ih j hj _ (fun _ h => h) fun x hx => hw x (hG j x hx)) (fun j x hx => hF x (hG j x hx)) hd
  | hole F v h => exact fun _ _ _ => .hole _ v h
inductive A where
  | any
  | v (x : D)                      -- numbers, truth values, strings, and aggregates of these
  | dat (r : Option Nat) (x : D)   -- data: read (none), or inside the elements of the object k
  | nil                            -- the nil slice
  | row (k es lo n : Nat)          -- a slice over the row k
  | pt (k o : Nat)                 -- a pointer to a cell of the variable k
  | pe (k es i o : Nat)            -- a pointer into an element of the row k
  | pr (r : Option Nat) (cs : List D)  -- a pointer to cells that are data
  | prv (cs : List A)              -- a pointer to cells of a variable that is read alone
  | clo (f : Nat) (caps : List A)
  | nilf
  | nilp
  | yld (l : Nat)                  -- what a round of the loop l is begun with
  | st (cs : List A)
  | tup (cs : List A)
  | when (g : Bool) (a : A)
  | tok (i j : Nat)                -- what the cell j of the object i held when the call began
structure Env where
  R : Nat → Prop
  bl : Nat → Nat
  real : Nat → Prop
  cap : Nat → Nat
  fp : Nat → Nat → Prop
  tk : Nat → Nat → Value
def Env.reg (E : Env) : Option Nat → Nat → Prop
  | none => E.R
  | some k => fun b => E.fp k b ∧ b ≠ E.bl k
inductive Rep (E : Env) (w : World) : Value → A → Prop
  | any (v : Value) : Rep E w v .any
  | v (u : Value) (x : D) (h : RO (fun _ => False) w u x) : Rep E w u (.v x)
  | dat (r : Option Nat) (u : Value) (x : D) (h : RO (E.reg r) w u x) : Rep E w u (.dat r x)
  | nil (a : Option Addr) : Rep E w (.slice a 0 0) .nil
  | row (k es lo n : Nat) (hr : E.real k) : Rep E w (.slice (some ⟨E.bl k, lo * es, none⟩) n (E.cap k - lo)) (.row k es lo n)
  | rownil (k es : Nat) (a : Option Addr) (hr : ¬ E.real k) : Rep E w (.slice a 0 0) (.row k es 0 0)
  | pt (k o : Nat) : Rep E w (.pointer (some ⟨E.bl k, o, none⟩)) (.pt k o)
  | pe (k es i o : Nat) (hr : E.real k) : Rep E w (.pointer (some ⟨E.bl k, i * es + o, none⟩)) (.pe k es i o)
  | pr (r : Option Nat) (cs : List D) (b o : Nat) (us : Nat → Value) (hb : E.reg r b)
      (hc : ∀ j, j < cs.length → w.cell? ⟨b, o + j, none⟩ = some (us j)) (hr : ∀ (j : Nat) (hj : j < cs.length), RO (E.reg r) w (us j) cs[j]) :
      Rep E w (.pointer (some ⟨b, o, none⟩)) (.pr r cs)
  | prv (cs : List A) (b o : Nat) (us : Nat → Value) (hb : E.R b)
      (hc : ∀ j, j < cs.length → w.cell? ⟨b, o + j, none⟩ = some (us j)) (hr : ∀ (j : Nat) (hj : j < cs.length), Rep E w (us j) cs[j]) :
      Rep E w (.pointer (some ⟨b, o, none⟩)) (.prv cs)
  | clo (f : Nat) (caps : List A) (vs : Array Value) (hs : vs.size = caps.length) (hr : ∀ (j : Nat) (hj : j < caps.length), Rep E w (vs.getD j undef) caps[j]) :
      Rep E w (.func (.func f) #[] vs) (.clo f caps)
  | nilf : Rep E w .nilFunc .nilf
  | nilp : Rep E w (.pointer none) .nilp
  | yld (l : Nat) : Rep E w (.func (.yield l) #[] #[]) (.yld l)
  | st (cs : List A) (vs : Array Value) (hs : vs.size = cs.length) (hr : ∀ (j : Nat) (hj : j < cs.length), Rep E w (vs.getD j undef) cs[j]) : Rep E w (.agg vs) (.st cs)
  | tup (cs : List A) (vs : Array Value) (hs : vs.size = cs.length) (hr : ∀ (j : Nat) (hj : j < cs.length), Rep E w (vs.getD j undef) cs[j]) : Rep E w (.tuple vs) (.tup cs)
  | when (g : Bool) (a : A) (u : Value) (h1 : g = true → Rep E w u a) (h2 : g = false → u = undef) : Rep E w u (.when g a)
  | tok (i j : Nat) : Rep E w (E.tk i j) (.tok i j)
theorem Rep.mono {E : Env} {w w' : World} {u : Value} {a : A} (h : Rep E w u a) (hw : ∀ r b, E.reg r b → w'.heap[b]? = w.heap[b]?) : Rep E w' u a := by
  induction h with
  | any v => exact .any v
  | v u x h => exact .v u x (h.mono (fun _ h => h) fun _ h => h.elim)
  | dat r u x h => exact .dat r u x (h.mono (fun _ h => h) (hw r))
  | nil a => exact .nil a
  | row k es lo n hr => exact .row k es lo n hr
  | rownil k es a hr => exact .rownil k es a hr
  | pt k o => exact .pt k o
  | pe k es i o hr => exact .pe k es i o hr
  | pr r cs b o us hb hc hr => exact .pr r cs b o us hb (fun j hj => (cell_same (hw r b hb) _).trans (hc j hj)) fun j hj => (hr j hj).mono (fun _ h => h) (hw r)
  | prv cs b o us hb hc hr ih => exact .prv cs b o us hb (fun j hj => (cell_same (hw none b hb) _).trans (hc j hj)) ih
  | clo f caps vs hs hr ih => exact .clo f caps vs hs ih
  | nilf => exact .nilf
  | nilp => exact .nilp
  | yld l => exact .yld l
  | st cs vs hs hr ih => exact .st cs vs hs ih
  | tup cs vs hs hr ih => exact .tup cs vs hs ih
  | when g a u h1 h2 ih => exact .when g a u ih h2
  | tok i j => exact .tok i j
mutual
def A.hit (K L : Nat → Bool) : A → Bool
  | .dat (some k) _ | .pr (some k) _ | .row k _ _ _ | .pe k _ _ _ => K k || L k
  | .pt k _ => K k
  | .prv cs | .clo _ cs | .st cs | .tup cs => hitL K L cs
  | .when _ a => a.hit K L
  | _ => false
def hitL (K L : Nat → Bool) : List A → Bool
  | [] => false
  | a :: l => a.hit K L || hitL K L l
end
def A.kill (K L : Nat → Bool) : A → A
  | .dat (some k) x => bif K k || L k then .any else .dat (some k) x
  | .pr (some k) cs => bif K k || L k then .any else .pr (some k) cs
  | .row k es lo n => bif K k || L k then .any else .row k es lo n
  | .pe k es i o => bif K k || L k then .any else .pe k es i o
  | .pt k o => bif K k then .any else .pt k o
  | .prv cs => bif hitL K L cs then .any else .prv cs
  | .clo f cs => bif hitL K L cs then .any else .clo f cs
  | .st cs => bif hitL K L cs then .any else .st cs
  | .tup cs => bif hitL K L cs then .any else .tup cs
  | .when g a => bif a.hit K L then .any else .when g a
  | a => a
theorem A.kill_eq (K L : Nat → Bool) (a : A) : a.kill K L = bif a.hit K L then .any else a := by
  cases a <;> try rfl
  case dat r x => cases r <;> rfl
  case pr r x => cases r <;> rfl
theorem hitL_get {K L : Nat → Bool} : ∀ {l : List A}, hitL K L l = false → ∀ (j : Nat) (hj : j < l.length), l[j].hit K L = false
  | [], _, j, hj => absurd hj (Nat.not_lt_zero _)
  | a :: l, h, j, hj => by
    simp only [hitL, Bool.or_eq_false_iff] at h
    cases j with
    | zero => exact h.1
    | succ j => exact hitL_get h.2 j (by simpa using hj)
structure Env.off (E E' : Env) (K L : Nat → Bool) : Prop where
  R : ∀ b, E.R b → E'.R b
  bl : ∀ k, K k = false → E'.bl k = E.bl k
  real : ∀ k, K k = false → L k = false → E'.real k = E.real k
  cap : ∀ k, K k = false → L k = false → E'.cap k = E.cap k
  fp : ∀ k, K k = false → L k = false → E'.fp k = E.fp k
  tk : E'.tk = E.tk
theorem Env.off.reg {E E' : Env} {K L : Nat → Bool} (h : E.off E' K L) {r : Option Nat} (hr : ∀ k, r = some k → K k = false ∧ L k = false) (b : Nat) (hb : E.reg r b) : E'.reg r b := by
  cases r with
  | none => exact h.R b hb
  | some k =>
    obtain ⟨h1, h2⟩ := hr k rfl
    simp only [Env.reg] at hb ⊢
    rw [h.fp k h1 h2, h.bl k h1]; exact hb
theorem Rep.off {E E' : Env} {w : World} {u : Value} {a : A} {K L : Nat → Bool} (h : Rep E w u a) (hE : E.off E' K L) (ha : a.hit K L = false) : Rep E' w u a := by
  induction h with
  | any v => exact .any v
  | v u x h => exact .v u x h
  | dat r u x h =>
    exact .dat r u x (h.mono (hE.reg (r := r) (fun k hk => by subst hk; simpa [A.hit] using ha)) fun _ _ => rfl)
  | nil a => exact .nil a
  | row k es lo n hr =>
    simp only [A.hit, Bool.or_eq_false_iff] at ha
    rw [← hE.bl k ha.1, ← hE.cap k ha.1 ha.2]; exact .row k es lo n (by rw [hE.real k ha.1 ha.2]; exact hr)
  | rownil k es a hr =>
    simp only [A.hit, Bool.or_eq_false_iff] at ha
    exact .rownil k es a (by rw [hE.real k ha.1 ha.2]; exact hr)
  | pt k o => simp only [A.hit] at ha; rw [← hE.bl k ha]; exact .pt k o
  | pe k es i o hr =>
    simp only [A.hit, Bool.or_eq_false_iff] at ha
    rw [← hE.bl k ha.1]; exact .pe k es i o (by rw [hE.real k ha.1 ha.2]; exact hr)
  | pr r cs b o us hb hc hr =>
    have e := hE.reg (r := r) (fun k hk => by subst hk; simpa [A.hit] using ha)
    exact .pr r cs b o us (e _ hb) hc fun j hj => (hr j hj).mono e fun _ _ => rfl
  | prv cs b o us hb hc hr ih => exact .prv cs b o us (hE.R _ hb) hc fun j hj => ih j hj (hitL_get ha j hj)
  | clo f caps vs hs hr ih => exact .clo f caps vs hs fun j hj => ih j hj (hitL_get ha j hj)
  | nilf => exact .nilf
  | nilp => exact .nilp
  | yld l => exact .yld l
  | st cs vs hs hr ih => exact .st cs vs hs fun j hj => ih j hj (hitL_get ha j hj)
  | tup cs vs hs hr ih => exact .tup cs vs hs fun j hj => ih j hj (hitL_get ha j hj)
  | when g a u h1 h2 ih => exact .when g a u (fun hg => ih hg ha) h2
  | tok i j => rw [← hE.tk]; exact .tok i j
theorem Rep.kill {E E' : Env} {w : World} {u : Value} {a : A} {K L : Nat → Bool} (h : Rep E w u a) (hE : E.off E' K L) : Rep E' w u (a.kill K L) := by
  rw [A.kill_eq]
  cases ha : a.hit K L with
  | true => exact .any u
  | false => exact h.off hE ha
def slotL : List (Nat × A) → Nat → A
  | [], _ => .any
  | (k, a) :: l, j => bif Nat.beq j k then a else slotL l j
theorem slotL_map {f : A → A} (hf : f .any = .any) (t : Nat) : ∀ l : List (Nat × A), slotL (l.map fun p => (p.1, f p.2)) t = f (slotL l t)
  | [] => hf.symm
  | (k, a) :: l => by
    simp only [List.map_cons, slotL, slotL_map hf t l]
    cases Nat.beq t k <;> rfl
inductive O where
  | var (cs : List A)
  | row (es : Nat) (xs : List D)
  | lp (l : Nat) (r : Loop) (sl : List (Nat × A))
inductive ObjRep (E : Env) (w : World) (k : Nat) : O → Prop
  | var (cs : List A) (c : Array Value) (ty : TypeId) (hh : w.heap[E.bl k]? = some (.cells c ty (0, 0))) (hs : c.size = cs.length) (hf : E.fp k (E.bl k))
      (hr : ∀ (j : Nat) (hj : j < cs.length), Rep E w (c.getD j undef) cs[j]) : ObjRep E w k (.var cs)
  | rownil (es : Nat) (hr : ¬ E.real k) : ObjRep E w k (.row es [])
  | row (es : Nat) (xs : List D) (hr : E.real k) (h : Own w (E.fp k) (.slice (some ⟨E.bl k, 0, none⟩) xs.length (E.cap k)) (.sl es xs)) : ObjRep E w k (.row es xs)
  | lp (l : Nat) (r : Loop) (sl : List (Nat × A)) (hb : E.bl k = l) (hf : E.fp k l) (hh : w.heap[l]? = some (.loop r)) (hr : ∀ t, Rep E w (r.tmps.getD t undef) (slotL sl t)) : ObjRep E w k (.lp l r sl)
def O.kill (K L : Nat → Bool) : O → O
  | .var cs => .var (cs.map (A.kill K L))
  | .lp l r sl => .lp l r (sl.map fun p => (p.1, p.2.kill K L))
  | o => o
structure Cx where
  P : Program
  ro : Option Nat
  w0 : World
  Bin : Nat → Prop
  N : Nat
  R0 : Nat → Prop
  tk0 : Nat → Nat → Value
  bl0 : Nat → Nat
  vk : Nat → Bool
  mk0 : List Nat := []
def marks (rs : List Nat) : List Deferred := rs.map fun r => { target := .collected r, args := #[] }
def Cx.at (cx : Cx) (rs : List Nat) : Cx := { cx with mk0 := rs ++ cx.mk0 }
structure Inv (cx : Cx) (E : Env) (objs : Nat → Option O) (w : World) : Prop where
  obj : ∀ k o, objs k = some o → ObjRep E w k o
  dead : ∀ k, objs k = none → ∀ b, ¬ E.fp k b
  disj : ∀ k k' b, E.fp k b → E.fp k' b → k = k'
  own : ∀ k b, E.fp k b → b < w.heap.size ∧ (cx.Bin b ∨ cx.w0.heap.size ≤ b)
  rd : ∀ b, E.R b → b < cx.w0.heap.size ∧ ¬ cx.Bin b
  frame : ∀ b, b < cx.w0.heap.size → ¬ cx.Bin b → w.heap[b]? = cx.w0.heap[b]?
  size : cx.w0.heap.size ≤ w.heap.size
  os : w.os = cx.w0.os
  tape : w.tape = cx.w0.tape
  output : w.output = cx.w0.output
  R0 : E.R = cx.R0
  tk0 : E.tk = cx.tk0
  bl0 : ∀ k, cx.vk k = true → E.bl k = cx.bl0 k
  nd : cx.mk0.Nodup
  mks : ∀ b, b ∈ cx.mk0 → (∀ k, ¬ E.fp k b) ∧ cx.w0.heap.size ≤ b ∧ b < w.heap.size ∧ w.heap[b]? = some (.deferred (some []))
structure State where
  slots : Nat → A
  objs : Nat → Option O
def State.put (st : State) (d : Nat) (a : A) : State := { st with slots := fun t => bif Nat.beq t d then a else st.slots t }
def State.set (st : State) (k : Nat) (o : O) : State := { st with objs := fun j => bif Nat.beq j k then some o else st.objs j }
def State.kill (st : State) (K L : Nat → Bool) : State := { slots := fun t => (st.slots t).kill K L, objs := fun j => bif K j then none else (st.objs j).map (O.kill K L) }
def Sim (cx : Cx) (st : State) (a : Act) (w : World) : Prop :=
  ∃ rs, a.defers = marks rs ∧ a.tmps.size = cx.N ∧ ∃ E, Inv (cx.at rs) E st.objs w ∧ ∀ t, Rep E w (a.tmps.getD t undef) (st.slots t)
theorem getD_put {tmps : Array Value} {d : Nat} (hd : d < tmps.size) (v : Value) (t : Nat) : (tmps.setIfInBounds d v).getD t undef = if t = d then v else tmps.getD t undef := by
  simp only [Array.getD_eq_getD_getElem?, Array.getElem?_setIfInBounds]
  by_cases h : d = t
  · subst h; simp [hd]
  · rw [if_neg h, if_neg (fun e => h e.symm)]
theorem Sim.put {cx : Cx} {st : State} {a : Act} {w : World} {d : Nat} {u : Value} {x : A} (h : Sim cx st a w) (hd : d < cx.N) (hx : ∀ rs E, Inv (cx.at rs) E st.objs w → (∀ t, Rep E w (a.tmps.getD t undef) (st.slots t)) → Rep E w u x) :
    Sim cx (st.put d x) (a.put (some d) u) w := by
  obtain ⟨rs, h0, h1, E, hi, hs⟩ := h
  refine ⟨rs, h0, by simp [Act.put, h1], E, hi, fun t => ?_⟩
  simp only [Act.put, getD_put (by rw [h1]; exact hd), State.put]
  by_cases ht : t = d
  · subst ht; simp; exact hx rs E hi hs
  · rw [if_neg ht]
    have : Nat.beq t d = false := by cases hb : Nat.beq t d with | false => rfl | true => exact absurd (Nat.eq_of_beq_eq_true hb) ht
    simp only [this, cond_false]; exact hs t
end Go.AL
namespace Go.AL
def fence (ro : Option Nat) : Fence := { fn := fun _ => True, depth := none, alive := false, round := ro }
def post (cx : Cx) (Q : Exit → State → Prop) : Exit → Act → World → Prop := fun e a w => ∃ st, Q e st ∧ Sim cx st a w
def aw (cx : Cx) (c : Code) (Q : Exit → State → Prop) (st : State) : Prop := ∀ a w, Sim cx st a w → c.wpIn (fence cx.ro) 0 cx.P (post cx Q) a w
def al (cx : Cx) (ops : Array Oper) (Q : Exit → State → Prop) (l : List Oper) (st : State) : Prop :=
  ∀ a w, Sim cx st a w → wpListIn (fence cx.ro) 0 cx.P ops (post cx Q) l a w
def AThen (N : State → Prop) (Q : Exit → State → Prop) : Exit → State → Prop
  | .normal, st => N st
  | e, st => Q e st
def AIn (id : Nat) (Q : Exit → State → Prop) : Exit → State → Prop
  | .exit id', st => bif Nat.beq id' id then Q .normal st else Q (.exit id') st
  | e, st => Q e st
def constA : Value → A
  | .int k n => .v (.int k n)
  | .bool b => .v (.bool b)
  | .string s => .v (.str s)
  | .slice none 0 0 => .nil
  | .nilFunc => .nilf
  | .pointer none => .nilp
  | _ => .any
theorem constA_rep (E : Env) (w : World) (v : Value) : Rep E w v (constA v) := by
  unfold constA
  split
  · exact .v _ _ (.int _ _)
  · exact .v _ _ (.bool _)
  · exact .v _ _ (.str _)
  · exact .nil none
  · exact .nilf
  · exact .nilp
  · exact .any _
section control
variable {cx : Cx} {Q : Exit → State → Prop} {st : State}
theorem aw_mono {c : Code} {Q' : Exit → State → Prop} (h : aw cx c Q st) (hq : ∀ e s, Q e s → Q' e s) : aw cx c Q' st :=
  fun a w hs => wpIn_mono (h a w hs) fun e _ _ ⟨s, h1, h2⟩ => ⟨s, hq e s h1, h2⟩
theorem aw_seq {x y : Code} (h : aw cx x (AThen (aw cx y Q) Q) st) : aw cx (.seq x y) Q st := by
  intro a w hs
  refine wpIn_seq (wpIn_mono (h a w hs) ?_)
  rintro e a' w' ⟨s, h1, h2⟩
  cases e with
  | normal => exact h1 a' w' h2
  | _ => exact ⟨s, h1, h2⟩
theorem aw_skip (h : Q .normal st) : aw cx .skip Q st := fun _ _ hs => wpIn_skip ⟨st, h, hs⟩
theorem aw_exit {id : Nat} (h : Q (.exit id) st) : aw cx (.exit id) Q st := fun _ _ hs => wpIn_exit ⟨st, h, hs⟩
theorem aw_ret (h : Q .ret st) : aw cx .ret Q st := fun _ _ hs => wpIn_ret ⟨st, h, hs⟩
theorem aw_block {id : Nat} {c : Code} (h : aw cx c (AIn id Q) st) : aw cx (.block id c) Q st := by
  intro a w hs
  refine wpIn_block (wpIn_mono (h a w hs) ?_)
  rintro e a' w' ⟨s, h1, h2⟩
  cases e with
  | exit id' =>
    simp only [Exit.inBlock]
    simp only [AIn] at h1
    by_cases he : id' = id
    · subst he; simp at h1; rw [if_pos rfl]; exact ⟨s, h1, h2⟩
    · rw [if_neg he]
      have : Nat.beq id' id = false := by cases hb : Nat.beq id' id with | false => rfl | true => exact absurd (Nat.eq_of_beq_eq_true hb) he
      rw [this] at h1; exact ⟨s, h1, h2⟩
  | _ => exact ⟨s, h1, h2⟩
def State.ev (st : State) : Operand → A
  | .tmp t => st.slots t
  | .const v => constA v
  | _ => .any
theorem State.ev_rep {E : Env} {a : Act} {w : World} (hs : ∀ t, Rep E w (a.tmps.getD t undef) (st.slots t)) (x : Operand) : Rep E w (a.eval x) (st.ev x) := by
  cases x with
  | tmp t => exact hs t
  | const v => exact constA_rep E w v
  | global g => exact .any _
  | func f => exact .any _
theorem rep_bool {E : Env} {w : World} {u : Value} {b : Bool} (h : Rep E w u (.v (.bool b))) : u = .bool b := by
  cases h with
  | v _ _ h => cases h; rfl
theorem rep_int {E : Env} {w : World} {u : Value} {k : IntKind} {n : Int} (h : Rep E w u (.v (.int k n))) : u = .int k n := by
  cases h with
  | v _ _ h => cases h; rfl
theorem rep_when {E : Env} {w : World} {u : Value} {g : Bool} {a : A} (h : Rep E w u (.when g a)) : (g = true → Rep E w u a) ∧ (g = false → u = undef) := by
  cases h with
  | when _ _ _ h1 h2 => exact ⟨h1, h2⟩
theorem aw_cond {c : Operand} {x y : Code} {b : Bool} (hc : st.ev c = .v (.bool b)) (ht : b = true → aw cx x Q st) (hf : b = false → aw cx y Q st) : aw cx (.cond c x y) Q st := by
  intro a w hs
  obtain ⟨_, _, _, E, hi, hr⟩ := hs
  have := State.ev_rep hr c
  rw [hc] at this
  refine wpIn_cond_split (rep_bool this) (fun e => ht e a w ?_) (fun e => hf e a w ?_) <;> exact ⟨_, ‹_›, ‹_›, E, hi, hr⟩
theorem aw_loop {α : Type} {c : Code} (F : α → State → Prop) (μ : α → Nat) (x0 : α) (h0 : F x0 st)
    (round : ∀ x s, F x s → aw cx c (AThen (fun s' => ∃ x', μ x' < μ x ∧ F x' s') Q) s) : aw cx (.loop c) Q st := by
  intro a w hs b k cs hro hb hr
  have key : ∀ n x s a w, μ x = n → F x s → Sim cx s a w →
      ∃ e a' w', post cx Q e a' w' ∧ ArrivesIn (Machine.fenced cx.P (fence cx.ro)) cx.P (lone (b.atR a (.code c :: .inLoop c :: k)) cs w) b k cs e a' w' := by
    intro n
    induction n using Nat.strongRecOn with
    | _ n ih =>
      intro x s a w hn hF hs
      obtain ⟨e, a₁, w₁, ⟨s1, hq, hs1⟩, harr⟩ := round x s hF a w hs b (.inLoop c :: k) cs hro hb hr
      cases e with
      | normal =>
        obtain ⟨x', hlt, hF'⟩ := hq
        obtain ⟨e₂, a₂, w₂, hq₂, harr₂⟩ := ih (μ x') (hn ▸ hlt) x' s1 a₁ w₁ rfl hF' hs1
        exact ⟨e₂, a₂, w₂, hq₂, .of_steps (StepsIn.trans harr (.one (fenced_calm hb hr rfl) stepR_inLoop)) harr₂⟩
      | exit id => exact ⟨_, a₁, w₁, ⟨s1, hq, hs1⟩, .pass (x := .inLoop c) rfl (fun _ _ => .inl (by simp)) harr⟩
      | goto l => exact ⟨_, a₁, w₁, ⟨s1, hq, hs1⟩, .pass (x := .inLoop c) rfl (fun _ _ => .inl (by simp)) harr⟩
      | ret => exact ⟨_, a₁, w₁, ⟨s1, hq, hs1⟩, .pass (x := .inLoop c) rfl (fun _ _ => .inl (by simp)) harr⟩
      | panic ch => exact ⟨_, a₁, w₁, ⟨s1, hq, hs1⟩, .pass (x := .inLoop c) rfl (fun _ _ => .inl (by simp)) harr⟩
      | outgrown => exact ⟨_, a₁, w₁, ⟨s1, hq, hs1⟩, .pass (x := .inLoop c) rfl (fun _ _ => .inl (by simp)) harr⟩
  obtain ⟨e, a', w', hq, harr⟩ := key _ x0 st a w rfl h0 hs
  exact ⟨e, a', w', hq, .of_steps (.one (fenced_calm hb hr rfl) stepR_loop) harr⟩
end control
end Go.AL
namespace Go.AL
section
variable {cx : Cx} {Q : Exit → State → Prop} {st : State} {ops : Array Oper} {rest : List Oper} {o : Oper} {g : Bool}
theorem aw_region {id : Nat} (h : al cx ops Q ops.toList st) : aw cx (.region id ops false) Q st :=
  fun a w hs => wpIn_region_list (h a w hs)
theorem al_nil (h : Q .normal st) : al cx ops Q [] st := fun _ _ hs => wpListIn_nil ⟨st, h, hs⟩
def Ev (st : State) (g : Bool) (x : Operand) (ax : A) : Prop :=
  g = true → ∀ (E : Env) (w : World) (a : Act), (∀ t, Rep E w (a.tmps.getD t undef) (st.slots t)) → Rep E w (a.eval x) ax
theorem ev_tmp {t : Nat} {ax : A} (h : st.slots t = ax) : Ev st g (.tmp t) ax := fun _ _ _ _ hs => h ▸ hs t
theorem ev_const {v : Value} {ax : A} (h : constA v = ax) : Ev st g (.const v) ax := fun _ E w _ _ => h ▸ constA_rep E w v
theorem ev_when {t : Nat} {ax : A} {g1 : Bool} (h : st.slots t = .when g1 ax) (hg : g = true → g1 = true) : Ev st g (.tmp t) ax := by
  intro hg' E w a hs
  have := hs t
  rw [h] at this
  exact (rep_when this).1 (hg hg')
inductive EvL (st : State) (g : Bool) : List Operand → List A → Prop
  | nil : EvL st g [] []
  | cons {x : Operand} {ax : A} {xs : List Operand} {asx : List A} (h : Ev st g x ax) (t : EvL st g xs asx) : EvL st g (x :: xs) (ax :: asx)
def Holds (E : Env) (w : World) (objs : Nat → Option O) : Prop := ∀ k o, objs k = some o → ObjRep E w k o
def OpP (cx : Cx) (st : State) (g : Bool) (o : Oper) (r : A) : Prop :=
  g = true → ∀ (E : Env) (a : Act) (w : World), Holds E w st.objs → (∀ t, Rep E w (a.tmps.getD t undef) (st.slots t)) →
    ∃ u, (execOp a.eval o).run cx.P w = .ok (.value u) w ∧ Rep E w u r
theorem notDefer {P : Program} {a : Act} {w w' : World} {u : Value} (h : (execOp a.eval o).run P w = .ok (.value u) w') : ∀ c, o.op ≠ .defer c := by
  intro c hc
  simp only [execOp, hc, Sem.run_bind] at h
  cases hr : (resolve a.eval c o.type).run P w with
  | ok d w1 => rw [hr] at h; simp at h
  | halt e w1 => rw [hr] at h; simp at h
theorem notDeferS {P : Program} {a : Act} {w w' : World} (h : (execOp a.eval o).run P w = .ok .skip w') : ∀ c, o.op ≠ .defer c := by
  intro c hc
  simp only [execOp, hc, Sem.run_bind] at h
  cases hr : (resolve a.eval c o.type).run P w with
  | ok d w1 => rw [hr] at h; simp at h
  | halt e w1 => rw [hr] at h; simp at h
theorem wp_value {a : Act} {w w' : World} {u : Value} {K : Act → World → Prop} {R : Exit → Act → World → Prop} (h : (execOp a.eval o).run cx.P w = .ok (.value u) w') (hK : K (a.put o.dst u) w') :
    o.wpIn (fence cx.ro) 0 cx.P a w K R := by
  refine ⟨fun _ _ => trivial, ?_⟩
  rw [Oper.semAt_eq _ _ _ (notDefer h), h]
  exact hK
theorem wp_unit {a : Act} {w w' : World} {K : Act → World → Prop} {R : Exit → Act → World → Prop} (h : (execOp a.eval o).run cx.P w = .ok .skip w') (hK : K (a.put o.dst undef) w') :
    o.wpIn (fence cx.ro) 0 cx.P a w K R := by
  refine ⟨fun _ _ => trivial, ?_⟩
  rw [Oper.semAt_eq _ _ _ (notDeferS h), h]
  exact hK
theorem al_op {d : Nat} {r : A} (hg : o.guard = none) (hd : o.dst = some d) (hdN : Nat.blt d cx.N = true) (hop : OpP cx st true o r) (h : al cx ops Q rest (st.put d r)) : al cx ops Q (o :: rest) st := by
  intro a w hs
  refine wpListIn_plain hg fun K hK => ?_
  obtain ⟨rs, h0, h1, E, hi, hr⟩ := hs
  obtain ⟨u, hrun, hu⟩ := hop rfl E a w hi.obj hr
  refine wp_value hrun (hK _ _ ?_)
  rw [hd]
  refine h _ _ ?_
  have hdN' : d < cx.N := Nat.blt_eq ▸ hdN
  refine ⟨rs, h0, by simp [Act.put, h1], E, hi, fun t => ?_⟩
  simp only [Act.put, getD_put (by rw [h1]; exact hdN'), State.put]
  by_cases ht : t = d
  · subst ht; simp; exact hu
  · rw [if_neg ht]
    have : Nat.beq t d = false := by cases hb : Nat.beq t d with | false => rfl | true => exact absurd (Nat.eq_of_beq_eq_true hb) ht
    simp only [this, cond_false]; exact hr t
def gval : A → Bool → Option Bool
  | .v (.bool b), want => some (bif want then b else !b)
  | .when g (.v (.bool b)), want => some (g && (bif want then b else !b))
  | _, _ => none
theorem gval_wanted {E : Env} {w : World} {u : Value} {x : A} {want g : Bool} (h : gval x want = some g) (hu : Rep E w u x) :
    ((match (some u : Option Value) with | some (.bool b) => some b | _ => none) == some want) = g := by
  unfold gval at h
  split at h
  · rename_i b
    obtain rfl := rep_bool hu
    injection h with h; subst h
    cases want <;> cases b <;> decide
  · rename_i g' b
    injection h with h; subst h
    obtain ⟨h1, h2⟩ := rep_when hu
    cases g' with
    | true => obtain rfl := rep_bool (h1 rfl); cases want <;> cases b <;> decide
    | false => obtain rfl := h2 rfl; cases want <;> cases b <;> decide
  · cases h
theorem al_opg {d j tj : Nat} {want : Bool} {r : A} (hg : o.guard = some (j, want)) (hj : (ops[j]?).bind (·.dst) = some tj) (hgv : gval (st.slots tj) want = some g) (htj : Nat.blt tj cx.N = true)
    (hd : o.dst = some d) (hdN : Nat.blt d cx.N = true) (hop : OpP cx st g o r) (h : al cx ops Q rest (st.put d (.when g r))) : al cx ops Q (o :: rest) st := by
  intro a w hs
  refine wpListIn_step fun K hK => ?_
  obtain ⟨rs, h0, h1, E, hi, hr⟩ := hs
  have hdN' : d < cx.N := Nat.blt_eq ▸ hdN
  have htj' : tj < a.tmps.size := by rw [h1]; exact Nat.blt_eq ▸ htj
  have hw : Region.wanted o (yielded ops a.tmps) = g := by
    simp only [Region.wanted, hg, yielded, hj, Option.bind_some]
    have hx := gval_wanted hgv (hr tj)
    rw [← hx]
    simp only [Array.getD_eq_getD_getElem?, Array.getElem?_eq_getElem htj', Option.getD_some]
    rfl
  have fin : ∀ u, Rep E w u (.when g r) → Sim cx (st.put d (.when g r)) (a.put (some d) u) w := by
    intro u hu
    refine ⟨rs, h0, by simp [Act.put, h1], E, hi, fun t => ?_⟩
    simp only [Act.put, getD_put (by rw [h1]; exact hdN'), State.put]
    by_cases ht : t = d
    · subst ht; simp; exact hu
    · rw [if_neg ht]
      have : Nat.beq t d = false := by cases hb : Nat.beq t d with | false => rfl | true => exact absurd (Nat.eq_of_beq_eq_true hb) ht
      simp only [this, cond_false]; exact hr t
  rw [hw]
  cases g with
  | true =>
    obtain ⟨u, hrun, hu⟩ := hop rfl E a w hi.obj hr
    simp only [if_true]
    refine wp_value hrun (hK _ _ ?_)
    rw [hd]
    exact h _ _ (fin u (.when _ _ _ (fun _ => hu) (fun e => by cases e)))
  | false =>
    simp only [Bool.false_eq_true, if_false]
    refine ⟨fun _ _ => trivial, hK _ _ ?_⟩
    rw [hd]
    exact h _ _ (fin undef (.when _ _ _ (fun e => by cases e) (fun _ => rfl)))
theorem opP_move {x : Operand} {ax : A} (ho : o.op = .move x) (hx : Ev st g x ax) : OpP cx st g o ax :=
  fun hg E a w _ hs => ⟨a.eval x, by simp [execOp, ho], hx hg E w a hs⟩
theorem opP_assign {x : Operand} {ax : A} (ho : o.op = .assign x) (hx : Ev st g x ax) : OpP cx st g o ax :=
  fun hg E a w _ hs => ⟨a.eval x, by simp [execOp, ho], hx hg E w a hs⟩
theorem opP_and {c x : Operand} {b y : Bool} (ho : o.op = .pick c x (.const (.bool false))) (hc : Ev st g c (.v (.bool b))) (hx : Ev st (g && b) x (.v (.bool y))) : OpP cx st g o (.v (.bool (b && y))) := by
  intro hg E a w _ hs
  refine ⟨.bool (b && y), ?_, .v _ _ (.bool _)⟩
  have h1 := rep_bool (hc hg E w a hs)
  cases b with
  | false => simp [execOp, ho, h1, asBool, show a.eval (.const (.bool false)) = .bool false from rfl]
  | true => have h2 := rep_bool (hx (by simp [hg]) E w a hs); simp [execOp, ho, h1, asBool, h2]
theorem opP_or {c x : Operand} {b y : Bool} (ho : o.op = .pick c (.const (.bool true)) x) (hc : Ev st g c (.v (.bool b))) (hx : Ev st (g && !b) x (.v (.bool y))) : OpP cx st g o (.v (.bool (b || y))) := by
  intro hg E a w _ hs
  refine ⟨.bool (b || y), ?_, .v _ _ (.bool _)⟩
  have h1 := rep_bool (hc hg E w a hs)
  cases b with
  | true => simp [execOp, ho, h1, asBool, show a.eval (.const (.bool true)) = .bool true from rfl]
  | false => have h2 := rep_bool (hx (by simp [hg]) E w a hs); simp [execOp, ho, h1, asBool, h2]
def binI (op : BinOp) (k : IntKind) (x y : Int) : Option D :=
  match op with
  | .add => some (.int k (k.wrap (x + y)))
  | .sub => some (.int k (k.wrap (x - y)))
  | .mul => some (.int k (k.wrap (x * y)))
  | .and => some (.int k (k.wrap (BitVec.ofInt k.bits x &&& BitVec.ofInt k.bits y).toNat))
  | .or => some (.int k (k.wrap (BitVec.ofInt k.bits x ||| BitVec.ofInt k.bits y).toNat))
  | .xor => some (.int k (k.wrap (BitVec.ofInt k.bits x ^^^ BitVec.ofInt k.bits y).toNat))
  | .eql => some (.bool (x == y))
  | .neq => some (.bool (x != y))
  | .lss => some (.bool (x < y))
  | .leq => some (.bool (x ≤ y))
  | .gtr => some (.bool (x > y))
  | .geq => some (.bool (x ≥ y))
  | _ => none
theorem binI_run {op : BinOp} {k : IntKind} {x y : Int} {r : D} (h : binI op k x y = some r) (t : TypeId) (X Y : Operand) (P : Program) (w : World) :
    ∃ u, ((do eqGuard op t X Y (.int k x) (.int k y); binOp op t (.int k x) (.int k y)) : Sem Value).run P w = .ok u w ∧ RO (fun _ => False) w u r := by
  cases op <;> simp only [binI, Option.some.injEq, reduceCtorEq] at h <;> subst h <;>
    (refine ⟨_, by simp [eqGuard, binOp, Op.intArith, Op.intBits, Op.intCmp]; rfl, ?_⟩; constructor)
theorem opP_bin {op : BinOp} {t ty : TypeId} {X Y : Operand} {k : IntKind} {x y : Int} {r : D} (ho : o.op = .binOp op t X Y ty) (hx : Ev st g X (.v (.int k x))) (hy : Ev st g Y (.v (.int k y)))
    (hr : binI op k x y = some r) : OpP cx st g o (.v r) := by
  intro hg E a w _ hs
  obtain ⟨u, h1, h2⟩ := binI_run hr t X Y cx.P w
  refine ⟨u, ?_, .v _ _ h2⟩
  rw [← rep_int (hx hg E w a hs), ← rep_int (hy hg E w a hs)] at h1
  simp only [execOp, ho, Sem.run_bind] at h1 ⊢
  rw [h1]; rfl
theorem opP_not {X : Operand} {t : TypeId} {b : Bool} (ho : o.op = .unOp .not t X) (hx : Ev st g X (.v (.bool b))) : OpP cx st g o (.v (.bool (!b))) := by
  intro hg E a w _ hs
  refine ⟨.bool (!b), ?_, .v _ _ (.bool _)⟩
  simp [execOp, ho, rep_bool (hx hg E w a hs), Op.unary]
theorem opP_convert {X : Operand} {s t : TypeId} {k k' : IntKind} {x : Int} (ho : o.op = .convert s t X) (hs : (cx.P.underlying s).isSome = true) (ht : cx.P.underlying t = some (.int k')) (hx : Ev st g X (.v (.int k x))) :
    OpP cx st g o (.v (.int k' (k'.wrap x))) := by
  intro hg E a w _ h
  refine ⟨.int k' (k'.wrap x), ?_, .v _ _ (.int _ _)⟩
  obtain ⟨d, hd⟩ := Option.isSome_iff_exists.mp hs
  simp [execOp, ho, rep_int (hx hg E w a h), convert, run_underlying hd, run_underlying ht, Conv.intToInt]
def lenA : A → Option Nat
  | .nil => some 0
  | .row _ _ _ n => some n
  | .dat _ (.sl _ xs) => some xs.length
  | .v (.sl _ xs) => some xs.length
  | _ => none
theorem lenA_rep {E : Env} {w : World} {u : Value} {x : A} {n : Nat} (h : lenA x = some n) (hu : Rep E w u x) : ∃ a cap, u = .slice a n cap := by
  unfold lenA at h
  split at h <;> (try injection h with h) <;> (try subst h)
  · cases hu; exact ⟨_, _, rfl⟩
  · cases hu <;> exact ⟨_, _, rfl⟩
  · cases hu with
    | dat _ _ _ hr => cases hr <;> exact ⟨_, _, rfl⟩
  · cases hu with
    | v _ _ hr => cases hr <;> exact ⟨_, _, rfl⟩
  · cases h
theorem opP_len {X : Operand} {t e : TypeId} {ax : A} {n : Nat} (ho : o.op = .call { callee := .builtin .len, args := #[X], argTypes := #[t] }) (ht : cx.P.underlying t = some (.slice e))
    (hx : Ev st g X ax) (hn : lenA ax = some n) : OpP cx st g o (.v (.int .i64 n)) := by
  intro hg E a w _ hs
  refine ⟨.int .i64 n, ?_, .v _ _ (.int _ _)⟩
  obtain ⟨b, cap, hu⟩ := lenA_rep hn (hx hg E w a hs)
  simp [execOp, ho, resolve, invoke, builtin, hu, Builtin.len_, run_underlying ht, goInt]
theorem run_sizeOf' {P : Program} {t : TypeId} {s : Nat} (h : (P.info? t).map (·.size) = some s) (w : World) : (sizeOf t).run P w = .ok s w := by
  obtain ⟨i, hi, rfl⟩ := Option.map_eq_some_iff.1 h
  simp [sizeOf, typeInfo, hi]
def aggD : TypeDesc → Bool
  | .struct _ | .array _ _ => true
  | _ => false
theorem run_isAgg' {P : Program} {t : TypeId} {d : TypeDesc} {b : Bool} (h : P.underlying t = some d) (hb : aggD d = b) (w : World) : (isAgg t).run P w = .ok b w := by
  subst hb
  cases d <;> simp [isAgg, run_underlying h, aggD]
theorem add_plain' (b o j : Nat) : (⟨b, o, none⟩ : Addr).add j = ⟨b, o + j, none⟩ := by
  unfold Addr.add; split
  · rename_i h; subst h; rfl
  · rfl
theorem opP_nilCheck {X : Operand} {ax : A} (ho : o.op = .nilCheck X) (hx : Ev st g X ax) (hp : (match ax with | .pt .. | .pe .. | .pr .. | .prv .. => true | _ => false) = true) : OpP cx st g o ax := by
  intro hg E a w _ hs
  have h := hx hg E w a hs
  refine ⟨a.eval X, ?_, h⟩
  generalize hv : a.eval X = v at h
  cases h <;> simp at hp <;> simp [execOp, ho, hv]
def dropFields : A → Nat → Option A
  | .pt k o, n => some (.pt k (o + n))
  | .pe k es i o, n => some (.pe k es i (o + n))
  | .pr r cs, n => if n < cs.length then some (.pr r (cs.drop n)) else none
  | .prv cs, n => if n < cs.length then some (.prv (cs.drop n)) else none
  | _, _ => none
theorem getElem_drop' {α : Type} {l : List α} {n j : Nat} (hj : j < (l.drop n).length) : (l.drop n)[j] = l[n + j]'(by simp at hj; omega) := by simp
theorem opP_fieldAddr {X : Operand} {ax r : A} {t : TypeId} {i : Nat} {fs : Array Field} {f : Field} {off s : Nat} (ho : o.op = .fieldAddr t X i) (hx : Ev st g X ax)
    (ht : cx.P.underlying t = some (.struct fs)) (hf : fs[i]? = some f) (hoff : f.offset = off) (hsz : (cx.P.info? f.type).map (·.size) = some (s + 1)) (hr : dropFields ax off = some r) : OpP cx st g o r := by
  intro hg E a w _ hs
  subst hoff
  have h := hx hg E w a hs
  have run : ∀ b oo, a.eval X = .pointer (some ⟨b, oo, none⟩) → (execOp a.eval o).run cx.P w = .ok (.value (.pointer (some ⟨b, oo + f.offset, none⟩))) w := by
    intro b oo hv
    simp [execOp, ho, hv, Instr.fieldAt, run_underlying ht, hf, Instr.sureAddr, fieldPlace, run_sizeOf' hsz, add_plain']
  unfold dropFields at hr
  split at hr
  · injection hr with hr; subst hr
    generalize hv : a.eval X = v at h
    cases h
    refine ⟨_, run _ _ hv, .pt _ _⟩
  · injection hr with hr; subst hr
    generalize hv : a.eval X = v at h
    cases h with
    | pe _ _ _ _ hreal =>
      refine ⟨_, run _ _ hv, ?_⟩
      rw [Nat.add_assoc]; exact .pe _ _ _ _ hreal
  · split at hr
    · rename_i hlt
      injection hr with hr; subst hr
      generalize hv : a.eval X = v at h
      cases h with
      | pr r' cs b oo us hb hc hro =>
        refine ⟨_, run _ _ hv, .pr _ _ b _ (fun j => us (f.offset + j)) hb (fun j hj => ?_) (fun j hj => ?_)⟩
        · rw [Nat.add_assoc]; exact hc _ (by simp at hj; omega)
        · rw [getElem_drop' hj]; exact hro _ _
    · cases hr
  · split at hr
    · rename_i hlt
      injection hr with hr; subst hr
      generalize hv : a.eval X = v at h
      cases h with
      | prv cs b oo us hb hc hro =>
        refine ⟨_, run _ _ hv, .prv _ b _ (fun j => us (f.offset + j)) hb (fun j hj => ?_) (fun j hj => ?_)⟩
        · rw [Nat.add_assoc]; exact hc _ (by simp at hj; omega)
        · rw [getElem_drop' hj]; exact hro _ _
    · cases hr
  · cases hr
end
end Go.AL
namespace Go.AL
def D.flat1 : D → Bool
  | .int .. | .bool _ | .str _ => true
  | _ => false
def D.flat : D → Bool
  | .agg cs => cs.all D.flat1
  | d => d.flat1
theorem RO.flat1 {R R' : Nat → Prop} {w : World} {u : Value} {x : D} (h : RO R w u x) (hx : x.flat1 = true) : RO R' w u x := by
  cases h with
  | int k n => exact .int k n
  | bool b => exact .bool b
  | str s => exact .str s
  | nil => simp [D.flat1] at hx
  | sl => simp [D.flat1] at hx
  | agg => simp [D.flat1] at hx
  | hole => simp [D.flat1] at hx
theorem RO.flat {R R' : Nat → Prop} {w : World} {u : Value} {x : D} (h : RO R w u x) (hx : x.flat = true) : RO R' w u x := by
  cases h with
  | int k n => exact .int k n
  | bool b => exact .bool b
  | str s => exact .str s
  | nil => simp [D.flat, D.flat1] at hx
  | sl => simp [D.flat, D.flat1] at hx
  | agg vs cs hs hr =>
    simp only [D.flat, List.all_eq_true] at hx
    exact .agg vs cs hs fun j hj => (hr j hj).flat1 (hx _ (List.getElem_mem hj))
  | hole => simp [D.flat, D.flat1] at hx
def ofD (r : Option Nat) (d : D) : A := bif d.flat then .v d else .dat r d
theorem ofD_rep {E : Env} {w : World} {u : Value} {r : Option Nat} {d : D} (h : RO (E.reg r) w u d) : Rep E w u (ofD r d) := by
  unfold ofD
  cases hd : d.flat with
  | true => exact .v _ _ (h.flat hd)
  | false => exact .dat _ _ _ h
section
variable {cx : Cx} {Q : Exit → State → Prop} {st : State} {ops : Array Oper} {rest : List Oper} {o : Oper} {g : Bool}
theorem getElem_eq {α : Type} {l : List α} {i : Nat} {x : α} (h : l[i]? = some x) : ∃ hi : i < l.length, l[i] = x := List.getElem?_eq_some_iff.1 h
theorem rep_dat_sl {E : Env} {w : World} {u : Value} {r : Option Nat} {es : Nat} {xs : List D} (h : Rep E w u (.dat r (.sl es xs))) (hne : 0 < xs.length) :
    ∃ (b oo cap : Nat) (us : Nat → Nat → Value), u = .slice (some ⟨b, oo, none⟩) xs.length cap ∧ E.reg r b ∧ (∀ (i : Nat) (hi : i < xs.length), xs[i].cells.length = es) ∧
      (∀ (i j : Nat), i < xs.length → j < es → w.cell? ⟨b, oo + i * es + j, none⟩ = some (us i j)) ∧
      (∀ (i : Nat) (hi : i < xs.length) (j : Nat) (hj : j < xs[i].cells.length), RO (E.reg r) w (us i j) xs[i].cells[j]) := by
  cases h with
  | dat _ _ _ h =>
    cases h with
    | nil => simp at hne
    | sl b oo cap es xs us hb hcap hes hc hr => exact ⟨b, oo, cap, us, rfl, hb, hes, hc, hr⟩
theorem opP_index_dat {X I : Operand} {t e : TypeId} {r : Option Nat} {es : Nat} {xs : List D} {x : D} {k : IntKind} {i : Int} (ho : o.op = .indexAddr t X I)
    (ht : cx.P.underlying t = some (.slice e)) (hsz : (cx.P.info? e).map (·.size) = some es) (hx : Ev st g X (.dat r (.sl es xs))) (hi : Ev st g I (.v (.int k i)))
    (h0 : g = true → 0 ≤ i) (h1 : g = true → xs[i.toNat]? = some x) : OpP cx st g o (.pr r x.cells) := by
  intro hg E a w _ hs
  obtain ⟨hlt, rfl⟩ := getElem_eq (h1 hg)
  obtain ⟨b, oo, cap, us, hu, hb, hes, hc, hr⟩ := rep_dat_sl (hx hg E w a hs) (by omega)
  refine ⟨.pointer (some ⟨b, oo + i.toNat * es, none⟩), ?_, .pr r _ b _ (us i.toNat) hb (fun j hj => hc _ _ hlt (by rw [hes _ hlt] at hj; exact hj)) (fun j hj => hr _ hlt j hj)⟩
  have h0' := h0 hg
  simp only [execOp, ho, hu, rep_int (hi hg E w a hs), Instr.indexAt, asIntOf, Sem.run_bind, Sem.run_pure, Result.andThen_ok, run_underlying ht]
  rw [if_pos ⟨h0', by omega⟩]
  simp only [Sem.run_bind, Sem.run_pure, Result.andThen_ok, run_sizeOf' hsz, add_plain']
theorem opP_index_row {X I : Operand} {t e : TypeId} {key es lo n : Nat} {k : IntKind} {i : Int} (ho : o.op = .indexAddr t X I)
    (ht : cx.P.underlying t = some (.slice e)) (hsz : (cx.P.info? e).map (·.size) = some es) (hx : Ev st g X (.row key es lo n)) (hi : Ev st g I (.v (.int k i)))
    (h0 : g = true → 0 ≤ i) (h1 : g = true → i < n) : OpP cx st g o (.pe key es (lo + i.toNat) 0) := by
  intro hg E a w _ hs
  have h := hx hg E w a hs
  have h0' := h0 hg
  have h1' := h1 hg
  generalize hv : a.eval X = v at h
  cases h with
  | rownil => omega
  | row _ _ _ _ hreal =>
    refine ⟨.pointer (some ⟨E.bl key, (lo + i.toNat) * es + 0, none⟩), ?_, .pe key es _ 0 hreal⟩
    simp only [execOp, ho, hv, rep_int (hi hg E w a hs), Instr.indexAt, asIntOf, Sem.run_bind, Sem.run_pure, Result.andThen_ok, run_underlying ht]
    rw [if_pos ⟨h0', by omega⟩]
    simp only [Sem.run_bind, Sem.run_pure, Result.andThen_ok, run_sizeOf' hsz, add_plain', Nat.add_mul, Nat.add_zero]
theorem opP_index_arr {X I : Operand} {t e : TypeId} {es len : Nat} {ax r : A} {k : IntKind} {i : Int} (ho : o.op = .indexAddr t X I)
    (ht : cx.P.underlying t = some (.array len e)) (hsz : (cx.P.info? e).map (·.size) = some es) (hx : Ev st g X ax) (hi : Ev st g I (.v (.int k i)))
    (h0 : g = true → 0 ≤ i) (h1 : g = true → i < len) (hr : dropFields ax (i.toNat * es) = some r) : OpP cx st g o r := by
  intro hg E a w _ hs
  have h := hx hg E w a hs
  have h0' := h0 hg
  have h1' := h1 hg
  have run : ∀ b oo, a.eval X = .pointer (some ⟨b, oo, none⟩) → (execOp a.eval o).run cx.P w = .ok (.value (.pointer (some ⟨b, oo + i.toNat * es, none⟩))) w := by
    intro b oo hv
    simp only [execOp, ho, hv, rep_int (hi hg E w a hs), Instr.indexAt, asIntOf, Sem.run_bind, Sem.run_pure, Result.andThen_ok, run_underlying ht, Instr.sureAddr]
    rw [if_pos ⟨h0', by omega⟩]
    simp only [Sem.run_bind, Sem.run_pure, Result.andThen_ok, run_sizeOf' hsz, add_plain']
  unfold dropFields at hr
  split at hr
  · injection hr with hr; subst hr
    generalize hv : a.eval X = v at h
    cases h
    refine ⟨_, run _ _ hv, .pt _ _⟩
  · injection hr with hr; subst hr
    generalize hv : a.eval X = v at h
    cases h with
    | pe _ _ _ _ hreal =>
      refine ⟨_, run _ _ hv, ?_⟩
      rw [Nat.add_assoc]; exact .pe _ _ _ _ hreal
  · split at hr
    · rename_i hlt
      injection hr with hr; subst hr
      generalize hv : a.eval X = v at h
      cases h with
      | pr r' cs b oo us hb hc hro =>
        refine ⟨_, run _ _ hv, .pr _ _ b _ (fun j => us (i.toNat * es + j)) hb (fun j hj => ?_) (fun j hj => ?_)⟩
        · rw [Nat.add_assoc]; exact hc _ (by simp at hj; omega)
        · rw [getElem_drop' hj]; exact hro _ _
    · cases hr
  · split at hr
    · rename_i hlt
      injection hr with hr; subst hr
      generalize hv : a.eval X = v at h
      cases h with
      | prv cs b oo us hb hc hro =>
        refine ⟨_, run _ _ hv, .prv _ b _ (fun j => us (i.toNat * es + j)) hb (fun j hj => ?_) (fun j hj => ?_)⟩
        · rw [Nat.add_assoc]; exact hc _ (by simp at hj; omega)
        · rw [getElem_drop' hj]; exact hro _ _
    · cases hr
  · cases hr
theorem run_loadCellsFrom {P : Program} {w : World} {b o : Nat} {us : Nat → Value} : ∀ (n i : Nat) (acc : Array Value), (∀ j, j < n → w.cell? ⟨b, o + (i + j), none⟩ = some (us (i + j))) →
    (loadCellsFrom ⟨b, o, none⟩ i n acc).run P w = .ok (acc ++ ((List.range' i n).map us).toArray) w
  | 0, i, acc, _ => by simp [loadCellsFrom]
  | n + 1, i, acc, h => by
    have h0 := h 0 (by omega)
    have ih := run_loadCellsFrom (P := P) (w := w) (b := b) (o := o) (us := us) n (i + 1) (acc.push (us i)) (fun j hj => by have := h (j + 1) (by omega); rw [show i + 1 + j = i + (j + 1) from by omega]; exact this)
    simp only [Nat.add_zero] at h0
    simp only [loadCellsFrom, Sem.run_bind, run_load, add_plain', h0, Result.andThen_ok, ih]
    simp [List.range'_succ]
theorem getD_toArray_map (us : Nat → Value) (n j : Nat) (hj : j < n) : (((List.range' 0 n).map us).toArray).getD j undef = us j := by
  simp [Array.getD_eq_getD_getElem?, hj]
theorem run_load1 {P : Program} {t : TypeId} {d : TypeDesc} (ht : P.underlying t = some d) (hd : aggD d = false) {w : World} {b oo : Nat} {u : Value} (h : w.cell? ⟨b, oo, none⟩ = some u) (ho : ∃ X, o.op = .load t X)
    (a : Act) (hv : ∀ X, o.op = .load t X → a.eval X = .pointer (some ⟨b, oo, none⟩)) : (execOp a.eval o).run P w = .ok (.value u) w := by
  obtain ⟨X, ho⟩ := ho
  simp [execOp, ho, hv X ho, Instr.loadAt, Instr.sureAddr, loadVar, run_isAgg' ht hd, h]
theorem run_loadN {P : Program} {t : TypeId} {d : TypeDesc} {n : Nat} (ht : P.underlying t = some d) (hd : aggD d = true) (hsz : (P.info? t).map (·.size) = some n) {w : World} {b oo : Nat} {us : Nat → Value}
    (h : ∀ j, j < n → w.cell? ⟨b, oo + j, none⟩ = some (us j)) (ho : ∃ X, o.op = .load t X) (a : Act) (hv : ∀ X, o.op = .load t X → a.eval X = .pointer (some ⟨b, oo, none⟩)) :
    (execOp a.eval o).run P w = .ok (.value (.agg ((List.range' 0 n).map us).toArray)) w := by
  obtain ⟨X, ho⟩ := ho
  have := run_loadCellsFrom (P := P) (w := w) (b := b) (o := oo) (us := us) n 0 #[] (fun j hj => by rw [Nat.zero_add]; exact h j hj)
  simp [execOp, ho, hv X ho, Instr.loadAt, Instr.sureAddr, loadVar, run_isAgg' ht hd, run_sizeOf' hsz, loadCells, this]
theorem var_cells {E : Env} {w : World} {k : Nat} {cs : List A} (h : ObjRep E w k (.var cs)) : ∃ us : Nat → Value, (∀ j, j < cs.length → w.cell? ⟨E.bl k, j, none⟩ = some (us j)) ∧ ∀ (j : Nat) (hj : j < cs.length), Rep E w (us j) cs[j] := by
  cases h with
  | var cs c ty hh hs hf hr => exact ⟨fun j => c.getD j undef, fun j hj => cell_of_heap hh (by omega), hr⟩
theorem opP_load_pt {X : Operand} {t : TypeId} {d : TypeDesc} {k oo : Nat} {cs : List A} {r : A} (ho : o.op = .load t X) (ht : cx.P.underlying t = some d) (hd : aggD d = false)
    (hx : Ev st g X (.pt k oo)) (hk : st.objs k = some (.var cs)) (hr : cs[oo]? = some r) : OpP cx st g o r := by
  intro hg E a w hi hs
  have h := hx hg E w a hs
  obtain ⟨us, hc, hu⟩ := var_cells (hi _ _ hk)
  obtain ⟨hlt, rfl⟩ := getElem_eq hr
  generalize hv : a.eval X = v at h
  cases h
  refine ⟨_, run_load1 ht hd (hc _ hlt) ⟨X, ho⟩ a (fun X' hX => ?_), hu _ hlt⟩
  rw [ho] at hX; injection hX with _ hX; subst hX; exact hv
theorem opP_load_ptn {X : Operand} {t : TypeId} {d : TypeDesc} {k oo n : Nat} {cs : List A} (ho : o.op = .load t X) (ht : cx.P.underlying t = some d) (hd : aggD d = true) (hsz : (cx.P.info? t).map (·.size) = some n)
    (hx : Ev st g X (.pt k oo)) (hk : st.objs k = some (.var cs)) (hn : Nat.ble (oo + n) cs.length = true) : OpP cx st g o (.st ((cs.drop oo).take n)) := by
  intro hg E a w hi hs
  have h := hx hg E w a hs
  have hn' : oo + n ≤ cs.length := Nat.le_of_ble_eq_true hn
  obtain ⟨us, hc, hu⟩ := var_cells (hi _ _ hk)
  generalize hv : a.eval X = v at h
  cases h
  refine ⟨_, run_loadN (us := fun j => us (oo + j)) ht hd hsz (fun j hj => hc _ (by omega)) ⟨X, ho⟩ a (fun X' hX => ?_), .st _ _ (by simp; omega) fun j hj => ?_⟩
  · rw [ho] at hX; injection hX with _ hX; subst hX; exact hv
  · have hj' : j < n := by simp at hj; omega
    rw [getD_toArray_map _ _ _ hj']
    have := hu (oo + j) (by omega)
    simpa using this
theorem own_row {w : World} {F : Nat → Prop} {b n cap es : Nat} {xs : List D} (h : Own w F (.slice (some ⟨b, 0, none⟩) n cap) (.sl es xs)) (hne : 0 < n) :
    ∃ (c : Array Value) (ty : TypeId) (G : Nat → Nat → Nat → Prop), F b ∧ w.heap[b]? = some (.cells c ty (0, 0)) ∧ c.size = cap * es ∧ xs.length ≤ cap ∧ (∀ (i : Nat) (hi : i < xs.length), xs[i].cells.length = es) ∧
      (∀ (i : Nat) (hi : i < xs.length) (j : Nat) (hj : j < xs[i].cells.length), Own w (G i j) (c.getD (i * es + j) undef) xs[i].cells[j]) ∧
      (∀ i j x, G i j x → F x ∧ x ≠ b) ∧ (∀ i j i' j' x, G i j x → G i' j' x → i = i' ∧ j = j') := by
  generalize hv : Value.slice (some ⟨b, 0, none⟩) n cap = v at h
  generalize hx : D.sl es xs = x at h
  cases h with
  | sl F b' cap' es' xs' c ty G hb hh hsz hcap hes hr hG hd =>
    simp only [Value.slice.injEq, Option.some.injEq, Addr.mk.injEq, and_true] at hv
    simp only [D.sl.injEq] at hx
    obtain ⟨rfl, _, rfl⟩ := hv
    obtain ⟨rfl, rfl⟩ := hx
    exact ⟨c, ty, G, hb, hh, hsz, hcap, hes, hr, hG, hd⟩
  | nil => injection hv with _ h2; omega
  | _ => cases hx
theorem own_row0 {w : World} {F : Nat → Prop} {b n cap es : Nat} {xs : List D} (h : Own w F (.slice (some ⟨b, 0, none⟩) n cap) (.sl es xs)) :
    (xs = [] ∧ n = 0 ∧ cap = 0) ∨ ∃ (c : Array Value) (ty : TypeId) (G : Nat → Nat → Nat → Prop), F b ∧ w.heap[b]? = some (.cells c ty (0, 0)) ∧ c.size = cap * es ∧ xs.length ≤ cap ∧ (∀ (i : Nat) (hi : i < xs.length), xs[i].cells.length = es) ∧
      (∀ (i : Nat) (hi : i < xs.length) (j : Nat) (hj : j < xs[i].cells.length), Own w (G i j) (c.getD (i * es + j) undef) xs[i].cells[j]) ∧
      (∀ i j x, G i j x → F x ∧ x ≠ b) ∧ (∀ i j i' j' x, G i j x → G i' j' x → i = i' ∧ j = j') := by
  generalize hv : Value.slice (some ⟨b, 0, none⟩) n cap = v at h
  generalize hx : D.sl es xs = x at h
  cases h with
  | sl F b' cap' es' xs' c ty G hb hh hsz hcap hes hr hG hd =>
    simp only [Value.slice.injEq, Option.some.injEq, Addr.mk.injEq, and_true] at hv
    simp only [D.sl.injEq] at hx
    obtain ⟨rfl, _, rfl⟩ := hv
    obtain ⟨rfl, rfl⟩ := hx
    exact .inr ⟨c, ty, G, hb, hh, hsz, hcap, hes, hr, hG, hd⟩
  | nil =>
    simp only [D.sl.injEq] at hx
    injection hv with _ h2 h3
    exact .inl ⟨hx.2, h2, h3⟩
  | _ => cases hx
theorem own_cap {w : World} {F : Nat → Prop} {b cap es : Nat} {xs : List D} (h : Own w F (.slice (some ⟨b, 0, none⟩) xs.length cap) (.sl es xs)) : xs.length ≤ cap := by
  rcases own_row0 h with ⟨e, _, _⟩ | ⟨_, _, _, _, _, _, h, _⟩
  · rw [e]; exact Nat.zero_le _
  · exact h
theorem row_cells {E : Env} {w : World} {k es : Nat} {xs : List D} (h : ObjRep E w k (.row es xs)) (hne : E.real k) :
    ∃ us : Nat → Nat → Value, (∀ (i : Nat) (hi : i < xs.length), xs[i].cells.length = es) ∧ (∀ i j, i < xs.length → j < es → w.cell? ⟨E.bl k, i * es + j, none⟩ = some (us i j)) ∧
      ∀ (i : Nat) (hi : i < xs.length) (j : Nat) (hj : j < xs[i].cells.length), RO (E.reg (some k)) w (us i j) xs[i].cells[j] := by
  cases h with
  | rownil es hr => exact absurd hne hr
  | row es xs hr h =>
    rcases own_row0 h with ⟨rfl, _⟩ | ⟨c, ty, G, hb, hh, hsz, hcap, hes, hr, hG, hd⟩
    · exact ⟨fun _ _ => undef, fun i hi => absurd hi (Nat.not_lt_zero _), fun i j hi => absurd hi (Nat.not_lt_zero _), fun i hi => absurd hi (Nat.not_lt_zero _)⟩
    · refine ⟨fun i j => c.getD (i * es + j) undef, hes, fun i j hi hj => cell_of_heap hh ?_, fun i hi j hj => (hr i hi j hj).ro _ fun x hx => hG i j x hx⟩
      rw [hsz]; exact Nat.lt_of_lt_of_le (mul_add_lt hi hj) (Nat.mul_le_mul_right _ hcap)
theorem opP_load_pe {X : Operand} {t : TypeId} {d : TypeDesc} {k es i oo : Nat} {xs : List D} {x c : D} (ho : o.op = .load t X) (ht : cx.P.underlying t = some d) (hd : aggD d = false)
    (hx : Ev st g X (.pe k es i oo)) (hk : st.objs k = some (.row es xs)) (hi : g = true → xs[i]? = some x) (hr : x.cells[oo]? = some c) : OpP cx st g o (ofD (some k) c) := by
  intro hg E a w hinv hs
  have h := hx hg E w a hs
  generalize hv : a.eval X = v at h
  cases h with
  | pe _ _ _ _ hreal =>
    obtain ⟨us, hes, hc, hu⟩ := row_cells (hinv _ _ hk) hreal
    obtain ⟨hlt, rfl⟩ := getElem_eq (hi hg)
    obtain ⟨hlt2, rfl⟩ := getElem_eq hr
    refine ⟨_, run_load1 ht hd (hc _ _ hlt (by rw [hes _ hlt] at hlt2; exact hlt2)) ⟨X, ho⟩ a (fun X' hX => ?_), ofD_rep (hu _ hlt _ hlt2)⟩
    rw [ho] at hX; injection hX with _ hX; subst hX; exact hv
theorem opP_load_pen {X : Operand} {t : TypeId} {d : TypeDesc} {k es i oo n : Nat} {xs : List D} {x : D} (ho : o.op = .load t X) (ht : cx.P.underlying t = some d) (hd : aggD d = true) (hsz : (cx.P.info? t).map (·.size) = some n)
    (hx : Ev st g X (.pe k es i oo)) (hk : st.objs k = some (.row es xs)) (hi : g = true → xs[i]? = some x) (hn : Nat.ble (oo + n) x.cells.length = true) : OpP cx st g o (ofD (some k) (.agg ((x.cells.drop oo).take n))) := by
  intro hg E a w hinv hs
  have h := hx hg E w a hs
  have hn' : oo + n ≤ x.cells.length := Nat.le_of_ble_eq_true hn
  generalize hv : a.eval X = v at h
  cases h with
  | pe _ _ _ _ hreal =>
    obtain ⟨us, hes, hc, hu⟩ := row_cells (hinv _ _ hk) hreal
    obtain ⟨hlt, rfl⟩ := getElem_eq (hi hg)
    refine ⟨_, run_loadN (us := fun j => us i (oo + j)) ht hd hsz (fun j hj => by rw [Nat.add_assoc]; exact hc _ _ hlt (by have := hes _ hlt; omega)) ⟨X, ho⟩ a (fun X' hX => ?_), ofD_rep (.agg _ _ (by simp; omega) fun j hj => ?_)⟩
    · rw [ho] at hX; injection hX with _ hX; subst hX; exact hv
    · have hj' : j < n := by simp at hj; omega
      rw [getD_toArray_map _ _ _ hj']
      have := hu i hlt (oo + j) (by omega)
      simpa using this
theorem opP_load_pr {X : Operand} {t : TypeId} {d : TypeDesc} {r : Option Nat} {c : D} {cs : List D} (ho : o.op = .load t X) (ht : cx.P.underlying t = some d) (hd : aggD d = false)
    (hx : Ev st g X (.pr r (c :: cs))) : OpP cx st g o (ofD r c) := by
  intro hg E a w hinv hs
  have h := hx hg E w a hs
  generalize hv : a.eval X = v at h
  cases h with
  | pr _ _ b oo us hb hc hr =>
    refine ⟨_, run_load1 ht hd (hc 0 (by simp)) ⟨X, ho⟩ a (fun X' hX => ?_), ofD_rep (hr 0 (by simp))⟩
    rw [ho] at hX; injection hX with _ hX; subst hX; exact hv
theorem opP_load_prn {X : Operand} {t : TypeId} {d : TypeDesc} {r : Option Nat} {n : Nat} {cs : List D} (ho : o.op = .load t X) (ht : cx.P.underlying t = some d) (hd : aggD d = true) (hsz : (cx.P.info? t).map (·.size) = some n)
    (hx : Ev st g X (.pr r cs)) (hn : Nat.ble n cs.length = true) : OpP cx st g o (ofD r (.agg (cs.take n))) := by
  intro hg E a w hinv hs
  have h := hx hg E w a hs
  have hn' : n ≤ cs.length := Nat.le_of_ble_eq_true hn
  generalize hv : a.eval X = v at h
  cases h with
  | pr _ _ b oo us hb hc hr =>
    refine ⟨_, run_loadN (us := us) ht hd hsz (fun j hj => hc _ (by omega)) ⟨X, ho⟩ a (fun X' hX => ?_), ofD_rep (.agg _ _ (by simp; omega) fun j hj => ?_)⟩
    · rw [ho] at hX; injection hX with _ hX; subst hX; exact hv
    · have hj' : j < n := by simp at hj; omega
      rw [getD_toArray_map _ _ _ hj']
      have := hr j (by omega)
      simpa using this
theorem opP_load_prv {X : Operand} {t : TypeId} {d : TypeDesc} {c : A} {cs : List A} (ho : o.op = .load t X) (ht : cx.P.underlying t = some d) (hd : aggD d = false)
    (hx : Ev st g X (.prv (c :: cs))) : OpP cx st g o c := by
  intro hg E a w hinv hs
  have h := hx hg E w a hs
  generalize hv : a.eval X = v at h
  cases h with
  | prv _ b oo us hb hc hr =>
    refine ⟨_, run_load1 ht hd (hc 0 (by simp)) ⟨X, ho⟩ a (fun X' hX => ?_), hr 0 (by simp)⟩
    rw [ho] at hX; injection hX with _ hX; subst hX; exact hv
theorem opP_load_prvn {X : Operand} {t : TypeId} {d : TypeDesc} {n : Nat} {cs : List A} (ho : o.op = .load t X) (ht : cx.P.underlying t = some d) (hd : aggD d = true) (hsz : (cx.P.info? t).map (·.size) = some n)
    (hx : Ev st g X (.prv cs)) (hn : Nat.ble n cs.length = true) : OpP cx st g o (.st (cs.take n)) := by
  intro hg E a w hinv hs
  have h := hx hg E w a hs
  have hn' : n ≤ cs.length := Nat.le_of_ble_eq_true hn
  generalize hv : a.eval X = v at h
  cases h with
  | prv _ b oo us hb hc hr =>
    refine ⟨_, run_loadN (us := us) ht hd hsz (fun j hj => hc _ (by omega)) ⟨X, ho⟩ a (fun X' hX => ?_), .st _ _ (by simp; omega) fun j hj => ?_⟩
    · rw [ho] at hX; injection hX with _ hX; subst hX; exact hv
    · have hj' : j < n := by simp at hj; omega
      rw [getD_toArray_map _ _ _ hj']
      have := hr j (by omega)
      simpa using this
theorem opP_field_st {X : Operand} {t : TypeId} {i : Nat} {fs : Array Field} {f : Field} {off : Nat} {d : TypeDesc} {cs : List A} {r : A} (ho : o.op = .field t X i) (hx : Ev st g X (.st cs))
    (ht : cx.P.underlying t = some (.struct fs)) (hf : fs[i]? = some f) (hoff : f.offset = off) (hd : cx.P.underlying f.type = some d) (hda : aggD d = false) (hr : cs[off]? = some r) : OpP cx st g o r := by
  intro hg E a w _ hs
  subst hoff
  obtain ⟨hlt, rfl⟩ := getElem_eq hr
  have h := hx hg E w a hs
  generalize hv : a.eval X = v at h
  cases h with
  | st _ vs hsz hrr =>
    refine ⟨vs.getD f.offset undef, ?_, hrr _ hlt⟩
    have hlt' : f.offset < vs.size := by omega
    simp [execOp, ho, hv, Instr.field, run_underlying ht, hf, asAgg, part, run_isAgg' hd hda, Array.getElem?_eq_getElem hlt', Array.getD_eq_getD_getElem?]
theorem opP_field_dat {X : Operand} {t : TypeId} {i : Nat} {fs : Array Field} {f : Field} {off : Nat} {d : TypeDesc} {r : Option Nat} {cs : List D} {c : D} (ho : o.op = .field t X i) (hx : Ev st g X (.dat r (.agg cs)))
    (ht : cx.P.underlying t = some (.struct fs)) (hf : fs[i]? = some f) (hoff : f.offset = off) (hd : cx.P.underlying f.type = some d) (hda : aggD d = false) (hr : cs[off]? = some c) : OpP cx st g o (ofD r c) := by
  intro hg E a w _ hs
  subst hoff
  obtain ⟨hlt, rfl⟩ := getElem_eq hr
  have h := hx hg E w a hs
  generalize hv : a.eval X = v at h
  cases h with
  | dat _ _ _ h =>
    cases h with
    | agg vs _ hsz hrr =>
      refine ⟨vs.getD f.offset undef, ?_, ofD_rep (hrr _ hlt)⟩
      have hlt' : f.offset < vs.size := by omega
      simp [execOp, ho, hv, Instr.field, run_underlying ht, hf, asAgg, part, run_isAgg' hd hda, Array.getElem?_eq_getElem hlt', Array.getD_eq_getD_getElem?]
theorem opP_field_v {X : Operand} {t : TypeId} {i : Nat} {fs : Array Field} {f : Field} {off : Nat} {d : TypeDesc} {cs : List D} {c : D} (ho : o.op = .field t X i) (hx : Ev st g X (.v (.agg cs)))
    (ht : cx.P.underlying t = some (.struct fs)) (hf : fs[i]? = some f) (hoff : f.offset = off) (hd : cx.P.underlying f.type = some d) (hda : aggD d = false) (hr : cs[off]? = some c) : OpP cx st g o (.v c) := by
  intro hg E a w _ hs
  subst hoff
  obtain ⟨hlt, rfl⟩ := getElem_eq hr
  have h := hx hg E w a hs
  generalize hv : a.eval X = v at h
  cases h with
  | v _ _ h =>
    cases h with
    | agg vs _ hsz hrr =>
      refine ⟨vs.getD f.offset undef, ?_, .v _ _ (hrr _ hlt)⟩
      have hlt' : f.offset < vs.size := by omega
      simp [execOp, ho, hv, Instr.field, run_underlying ht, hf, asAgg, part, run_isAgg' hd hda, Array.getElem?_eq_getElem hlt', Array.getD_eq_getD_getElem?]
theorem opP_extract {X : Operand} {i : Nat} {cs : List A} {r : A} (ho : o.op = .extract X i) (hx : Ev st g X (.tup cs)) (hr : cs[i]? = some r) : OpP cx st g o r := by
  intro hg E a w _ hs
  obtain ⟨hlt, rfl⟩ := getElem_eq hr
  have h := hx hg E w a hs
  generalize hv : a.eval X = v at h
  cases h with
  | tup _ vs hsz hrr =>
    refine ⟨vs.getD i undef, ?_, hrr _ hlt⟩
    have hlt' : i < vs.size := by omega
    simp [execOp, ho, hv, Instr.extract, Array.getElem?_eq_getElem hlt', Array.getD_eq_getD_getElem?]
theorem opP_quo {t ty : TypeId} {X Y : Operand} {k : IntKind} {x y : Int} (ho : o.op = .binOp .quo t X Y ty) (hx : Ev st g X (.v (.int k x))) (hy : Ev st g Y (.v (.int k y))) (hne : g = true → y ≠ 0) :
    OpP cx st g o (.v (.int k (k.wrap (x.tdiv y)))) := by
  intro hg E a w _ hs
  refine ⟨_, ?_, .v _ _ (.int _ _)⟩
  simp [execOp, ho, rep_int (hx hg E w a hs), rep_int (hy hg E w a hs), eqGuard, binOp, Op.intDiv, hne hg]
theorem opP_rem {t ty : TypeId} {X Y : Operand} {k : IntKind} {x y : Int} (ho : o.op = .binOp .rem t X Y ty) (hx : Ev st g X (.v (.int k x))) (hy : Ev st g Y (.v (.int k y))) (hne : g = true → y ≠ 0) :
    OpP cx st g o (.v (.int k (x.tmod y))) := by
  intro hg E a w _ hs
  refine ⟨_, ?_, .v _ _ (.int _ _)⟩
  simp [execOp, ho, rep_int (hx hg E w a hs), rep_int (hy hg E w a hs), eqGuard, binOp, Op.intDiv, hne hg]
theorem opP_shl {t ty : TypeId} {X Y : Operand} {k k' : IntKind} {x y : Int} (ho : o.op = .binOp .shl t X Y ty) (hx : Ev st g X (.v (.int k x))) (hy : Ev st g Y (.v (.int k' y))) (hne : g = true → 0 ≤ y) :
    OpP cx st g o (.v (.int k (k.wrap (x * 2 ^ (min y.toNat k.bits))))) := by
  intro hg E a w _ hs
  refine ⟨_, ?_, .v _ _ (.int _ _)⟩
  have := hne hg
  simp [execOp, ho, rep_int (hx hg E w a hs), rep_int (hy hg E w a hs), eqGuard, binOp, Op.shift, show ¬ y < 0 by omega]
theorem opP_shr {t ty : TypeId} {X Y : Operand} {k k' : IntKind} {x y : Int} (ho : o.op = .binOp .shr t X Y ty) (hx : Ev st g X (.v (.int k x))) (hy : Ev st g Y (.v (.int k' y))) (hne : g = true → 0 ≤ y) :
    OpP cx st g o (.v (.int k (x.fdiv (2 ^ (min y.toNat k.bits))))) := by
  intro hg E a w _ hs
  refine ⟨_, ?_, .v _ _ (.int _ _)⟩
  have := hne hg
  simp [execOp, ho, rep_int (hx hg E w a hs), rep_int (hy hg E w a hs), eqGuard, binOp, Op.shift, show ¬ y < 0 by omega]
theorem opP_eqb {t ty : TypeId} {X Y : Operand} {x y : Bool} (ho : o.op = .binOp .eql t X Y ty) (ht : cx.P.underlying t = some .bool) (hx : Ev st g X (.v (.bool x))) (hy : Ev st g Y (.v (.bool y))) :
    OpP cx st g o (.v (.bool (x == y))) := by
  intro hg E a w _ hs
  refine ⟨_, ?_, .v _ _ (.bool _)⟩
  simp [execOp, ho, rep_bool (hx hg E w a hs), rep_bool (hy hg E w a hs), eqGuard, run_eql_bool w t x y ht]
theorem opP_neb {t ty : TypeId} {X Y : Operand} {x y : Bool} (ho : o.op = .binOp .neq t X Y ty) (ht : cx.P.underlying t = some .bool) (hx : Ev st g X (.v (.bool x))) (hy : Ev st g Y (.v (.bool y))) :
    OpP cx st g o (.v (.bool (!(x == y)))) := by
  intro hg E a w _ hs
  refine ⟨_, ?_, .v _ _ (.bool _)⟩
  simp only [execOp, ho, rep_bool (hx hg E w a hs), rep_bool (hy hg E w a hs), eqGuard, Sem.run_bind]
  simp [run_neq_bool w t x y ht]
theorem opP_neg {t : TypeId} {X : Operand} {k : IntKind} {x : Int} (ho : o.op = .unOp .neg t X) (hx : Ev st g X (.v (.int k x))) : OpP cx st g o (.v (.int k (k.wrap (0 - x)))) := by
  intro hg E a w _ hs
  refine ⟨_, ?_, .v _ _ (.int _ _)⟩
  simp [execOp, ho, rep_int (hx hg E w a hs), Op.unary, Op.intArith]
theorem evl_size {P : Program} {xs : List Operand} {asx : List A} {E : Env} {w : World} {a : Act} (h : EvL st g xs asx) (hg : g = true) (hs : ∀ t, Rep E w (a.tmps.getD t undef) (st.slots t)) :
    xs.length = asx.length ∧ ∀ (j : Nat) (hj : j < asx.length), Rep E w ((xs.map a.eval).toArray.getD j undef) asx[j] := by
  induction h with
  | nil => exact ⟨rfl, fun j hj => absurd hj (Nat.not_lt_zero _)⟩
  | cons hx ht ih =>
    refine ⟨by simp [ih.1], fun j hj => ?_⟩
    cases j with
    | zero => simpa using hx hg E w a hs
    | succ j => have := ih.2 j (by simpa using hj); simpa using this
theorem opP_makeFunc {f : Nat} {caps : Array Operand} {asx : List A} (ho : o.op = .makeFunc (.func f) #[] caps) (hc : EvL st g caps.toList asx) : OpP cx st g o (.clo f asx) := by
  intro hg E a w _ hs
  obtain ⟨h1, h2⟩ := evl_size (P := cx.P) hc hg hs
  refine ⟨.func (.func f) #[] (caps.map a.eval), by simp [execOp, ho, Instr.makeFunc], .clo f asx _ (by simpa using h1) fun j hj => ?_⟩
  have := h2 j hj
  simpa using this
theorem opP_min {ts : Array TypeId} {X Y : Operand} {k : IntKind} {x y : Int} (ho : o.op = .call { callee := .builtin .min, args := #[X, Y], argTypes := ts }) (hx : Ev st g X (.v (.int k x))) (hy : Ev st g Y (.v (.int k y))) :
    OpP cx st g o (.v (.int k (if y < x then y else x))) := by
  intro hg E a w _ hs
  refine ⟨_, ?_, .v _ _ (.int _ _)⟩
  simp [execOp, ho, resolve, invoke, builtin, rep_int (hx hg E w a hs), rep_int (hy hg E w a hs), Builtin.min_, Builtin.min2]
theorem opP_max {ts : Array TypeId} {X Y : Operand} {k : IntKind} {x y : Int} (ho : o.op = .call { callee := .builtin .max, args := #[X, Y], argTypes := ts }) (hx : Ev st g X (.v (.int k x))) (hy : Ev st g Y (.v (.int k y))) :
    OpP cx st g o (.v (.int k (if y > x then y else x))) := by
  intro hg E a w _ hs
  refine ⟨_, ?_, .v _ _ (.int _ _)⟩
  simp [execOp, ho, resolve, invoke, builtin, rep_int (hx hg E w a hs), rep_int (hy hg E w a hs), Builtin.max_, Builtin.max2]
end
end Go.AL
namespace Go.AL
section run
variable {P : Program} {w : World}
def wput (w : World) (b : Nat) (o : Obj) : World := { w with heap := w.heap.setIfInBounds b o }
theorem wput_same {b : Nat} {o : Obj} (h : b < w.heap.size) : (wput w b o).heap[b]? = some o := by simp [wput, h]
theorem wput_other {b c : Nat} {o : Obj} (h : c ≠ b) : (wput w b o).heap[c]? = w.heap[c]? := by simp [wput, Array.getElem?_setIfInBounds_ne (Ne.symm h)]
theorem wput_size {b : Nat} {o : Obj} : (wput w b o).heap.size = w.heap.size := by simp [wput]
theorem heap_lt {b : Nat} {o : Obj} (h : w.heap[b]? = some o) : b < w.heap.size := (Array.getElem?_eq_some_iff.1 h).1
theorem run_loopOf {l : Nat} {r : Loop} (h : w.heap[l]? = some (.loop r)) : (Instr.getLoop l).run P w = .ok r w := by
  have : (getObj l).run P w = .ok (.loop r) w := by simp [getObj, Sem.run, h]
  simp [Instr.getLoop, Sem.run_bind, this, Result.andThen]
theorem run_putLoop {l : Nat} {r : Loop} (o : Obj) (h : w.heap[l]? = some (.loop r)) : (setObj l o).run P w = .ok () (wput w l o) := by simp [setObj, Sem.run, h, wput]
theorem run_enter0 (fn : FuncId) (tmps : Array Value) (ps : Array Tmp) (assign body : Code) :
    (Instr.enterLoop fn tmps ps assign body none).run P w =
      .ok (w.heap.size + 1, marks [w.heap.size]) ((w.alloc (.deferred (some []))).alloc (.loop { state := .ready, pending := none, fn, tmps, params := ps, assign, body, defers := w.heap.size })) := by
  unfold Instr.enterLoop
  simp only [Sem.run_bind, run_newObj_alloc, Result.andThen, Sem.run_pure, World.size_alloc]
  rfl
theorem run_enter1 {l0 : Nat} {r0 : Loop} (h : w.heap[l0]? = some (.loop r0)) (fn : FuncId) (tmps : Array Value) (ps : Array Tmp) (assign body : Code) :
    (Instr.enterLoop fn tmps ps assign body (some l0)).run P w =
      .ok (w.heap.size, marks []) (w.alloc (.loop { state := .ready, pending := none, fn, tmps, params := ps, assign, body, defers := r0.defers })) := by
  unfold Instr.enterLoop
  simp only [Sem.run_bind, run_loopOf h, run_newObj_alloc, Result.andThen, Sem.run_pure]
  rfl
theorem run_yields {l : Nat} {r : Loop} {args : Array Value} (h : w.heap[l]? = some (.loop r)) (hs : args.size = r.params.size) :
    (Instr.yield l args).run P w = .ok (.round l r.fn ((r.params.zip args).foldl (fun tmps (t, a) => tmps.setIfInBounds t a) r.tmps) r.assign r.body) w := by
  simp [Instr.yield, Sem.run_bind, run_loopOf h, Result.andThen, hs]
theorem run_begins {l : Nat} {r : Loop} (h : w.heap[l]? = some (.loop r)) (hr : r.state = .ready) :
    (Instr.beginRound l).run P w = .ok () (wput w l (.loop { r with state := .busy })) := by
  simp [Instr.beginRound, Sem.run_bind, run_loopOf h, run_putLoop _ h, Result.andThen, hr]
theorem run_ends {l : Nat} {r : Loop} (jump : Option Code) (h : w.heap[l]? = some (.loop r)) :
    (Instr.endRound l jump).run P w = .ok (.bool jump.isNone) (wput w l (.loop { r with state := if jump.isNone then .ready else .done, pending := jump })) := by
  simp [Instr.endRound, Sem.run_bind, run_loopOf h, run_putLoop _ h, Result.andThen]
theorem run_over {l : Nat} {r : Loop} (h : w.heap[l]? = some (.loop r)) (hb : r.state ≠ .busy) :
    (Instr.endLoop l).run P w = .ok r.pending (wput w l (.loop { r with state := .exhausted })) := by
  simp [Instr.endLoop, Sem.run_bind, run_loopOf h, run_putLoop _ h, Result.andThen, hb]
theorem run_take {b : Nat} {ds : List Deferred} (h : w.heap[b]? = some (.deferred (some ds))) : (Instr.takeDeferred b).run P w = .ok ds (wput w b (.deferred none)) := by
  simp [Instr.takeDeferred, Sem.run_bind, getObj, setObj, Sem.run, h, Result.andThen, wput]
end run
inductive Takes (P : Program) : List Nat → World → World → Prop
  | nil (w : World) : Takes P [] w w
  | cons {r : Nat} {rs : List Nat} {w w1 w2 : World} (h : (Instr.takeDeferred r).run P w = .ok [] w1) (t : Takes P rs w1 w2) : Takes P (r :: rs) w w2
theorem step_mark {P : Program} {fr : Frame} {cs : List Frame} {w w' : World} {r : Nat} {ds : List Deferred}
    (hm : fr.mode = .returning) (hd : fr.defers = { target := .collected r, args := #[] } :: ds) (hk : (Instr.takeDeferred r).run P w = .ok [] w') :
    step P (lone fr cs w) = .next (lone { fr with defers := ds } cs w') := by
  refine step_lone_go ?_
  simp [stepG, unwind, hm, hd, Sem.runT_eq, hk, GStep.bare_after]
theorem takes_steps {P : Program} {F : Fence} {n : Nat} {cs : List Frame} : ∀ (rs : List Nat) (w w2 : World) (fr : Frame), Takes P rs w w2 → fr.mode = .returning → fr.defers = marks rs → F.fn fr.fn → F.room (cs.length + 1 + n) →
    StepsIn (Machine.fenced P F) P (lone fr cs w) (lone { fr with defers := [] } cs w2)
  | [], w, w2, fr, h, hm, hd, hF, hr => by
    cases h
    have : { fr with defers := [] } = fr := by
      cases fr; simp only [marks, List.map_nil] at hd; subst hd; rfl
    rw [this]; exact .refl _
  | r :: rs, w, w2, fr, h, hm, hd, hF, hr => by
    cases h with
    | cons h t =>
      have h1 := step_mark (cs := cs) (ds := marks rs) hm hd h
      have i1 : (lone fr cs w).fenced P F := fenced_out hF hr (by rw [hm]; exact fun e => by cases e) hd (fun g hg => by simp [Target.leads] at hg)
      exact .head i1 h1 (takes_steps rs _ w2 { fr with defers := marks rs } t hm rfl hF hr)
def markPost (P : Program) (fn : Func) (R : Ending → World → Prop) : Exit → Act → World → Prop
  | .normal, a, w | .ret, a, w => ∃ rs, a.defers = marks rs ∧ ∃ w2, Takes P rs w w2 ∧ ∃ v, (results fn a.tmps).run P w2 = .ok v w2 ∧ R (.returned v) w2
  | _, _, _ => False
theorem calls_of_marks {F : Fence} {n : Nat} {P : Program} {f : FuncId} {fn : Func} {c : Code} {args : Array Value} {w : World} {R : Ending → World → Prop} (hf : P.funcs[f]? = some fn) (hb : fn.body = some c) (hF : F.fn f)
    (h : c.wpIn F n P (markPost P fn R) { tmps := args ++ Array.replicate (fn.ntmps - args.size) undef, defers := [] } w) (hro : F.round = none := by rfl) : CallsIn F n P f args w R := by
  refine ⟨hF, fun cs hr => ?_⟩
  let b : Frame := { (default : Frame) with fn := f, kind := .normal, roundOf := none }
  have henter : Frame.enter P f args .normal = b.atR { tmps := args ++ Array.replicate (fn.ntmps - args.size) undef, defers := [] } [.code c] := by
    simp [Frame.enter, Frame.atR, hf, hb, b]
  obtain ⟨e, a', w', hq, harr⟩ := h b [] cs hro.symm hF hr
  rw [← henter] at harr
  have fin : ∀ todo, StepsIn (Machine.fenced P F) P (lone (Frame.enter P f args .normal) cs w) (lone { b.atR a' todo with mode := .returning } cs w') →
      (∃ rs, a'.defers = marks rs ∧ ∃ w2, Takes P rs w' w2 ∧ ∃ v, (results fn a'.tmps).run P w2 = .ok v w2 ∧ R (.returned v) w2) →
      ∃ e w'' fr', R e w'' ∧ ComesIn (Machine.fenced P F) P (lone (Frame.enter P f args .normal) cs w) (lone fr' cs w'') e ∧ fr'.fn = f ∧ fr'.leaving P w'' e := by
    rintro todo hs ⟨rs, hd, w2, htk, v, hv, hR⟩
    have h2 := takes_steps (F := F) (n := n) (cs := cs) rs w' w2 { b.atR a' todo with mode := .returning } htk rfl hd hF hr
    exact ⟨.returned v, w2, _, hR, StepsIn.trans hs h2, rfl, rfl, rfl, rfl, fn, hf, hv⟩
  cases e with
  | normal => exact fin [] (StepsIn.trans harr (.one (fenced_calm (fr := b.atR a' []) hF hr rfl) (stepR_end rfl))) hq
  | ret =>
    obtain ⟨todo, hs⟩ := harr.1 rfl
    exact fin todo hs hq
  | panic chain => exact hq.elim
  | exit id => exact hq.elim
  | goto l => exact hq.elim
  | outgrown => exact hq.elim
theorem ObjRep.same {E : Env} {w w' : World} {k : Nat} {o : O} (h : ObjRep E w k o) (hf : ∀ b, E.fp k b → w'.heap[b]? = w.heap[b]?) (hr : ∀ a u, Rep E w u a → Rep E w' u a) : ObjRep E w' k o := by
  cases h with
  | var cs c ty hh hs hff hrr => exact .var cs c ty ((hf _ hff).trans hh) hs hff fun j hj => hr _ _ (hrr j hj)
  | rownil es hr => exact .rownil es hr
  | row es xs hreal h => exact .row es xs hreal (h.mono _ (fun _ h => h) hf)
  | lp l r sl hb hff hh hrr => exact .lp l r sl hb hff ((hf _ hff).trans hh) fun t => hr _ _ (hrr t)
theorem takes_inv {cx : Cx} {E : Env} {objs : Nat → Option O} {tmps : Array Value} {slots : Nat → A} : ∀ (rs : List Nat) (w : World), Inv (cx.at rs) E objs w → (∀ t, Rep E w (tmps.getD t undef) (slots t)) →
    ∃ w2, Takes cx.P rs w w2 ∧ Inv cx E objs w2 ∧ ∀ t, Rep E w2 (tmps.getD t undef) (slots t)
  | [], w, hi, hr => ⟨w, .nil w, hi, hr⟩
  | r :: rs, w, hi, hr => by
    obtain ⟨h1, h2, h3, h4⟩ := hi.mks r (by simp [Cx.at])
    have hnd := List.nodup_cons.1 (show (r :: (rs ++ cx.mk0)).Nodup from hi.nd)
    have hsame : ∀ b, b ≠ r → (wput w r (.deferred none)).heap[b]? = w.heap[b]? := fun b hb => wput_other hb
    have hfp : ∀ k b, E.fp k b → b ≠ r := fun k b h e => by subst e; exact h1 k h
    have hR : ∀ b, E.R b → b ≠ r := fun b h e => by
      subst e
      have := (hi.rd _ h).1
      have h2' : cx.w0.heap.size ≤ b := h2
      have this' : b < cx.w0.heap.size := this
      omega
    have hreg : ∀ q b, E.reg q b → (wput w r (.deferred none)).heap[b]? = w.heap[b]? := fun q b h => hsame b (by
      cases q with
      | none => exact hR b h
      | some k => exact hfp k b h.1)
    have hrep : ∀ a u, Rep E w u a → Rep E (wput w r (.deferred none)) u a := fun a u h => h.mono hreg
    have hi' : Inv (cx.at rs) E objs (wput w r (.deferred none)) := by
      refine ⟨fun k o h => (hi.obj k o h).same (fun b hb => hsame b (hfp k b hb)) hrep, hi.dead, hi.disj, fun k b h => ?_, hi.rd, fun b hb hn => ?_, ?_, hi.os, hi.tape, hi.output, hi.R0, hi.tk0, hi.bl0, hnd.2, fun b hb => ?_⟩
      · rw [wput_size]; exact hi.own k b h
      · refine (hsame b fun e => ?_).trans (hi.frame b hb hn)
        subst e
        have h2' : cx.w0.heap.size ≤ b := h2
        have hb' : b < cx.w0.heap.size := hb
        omega
      · rw [wput_size]; exact hi.size
      · obtain ⟨m1, m2, m3, m4⟩ := hi.mks b (List.mem_cons_of_mem _ hb)
        refine ⟨m1, m2, by rw [wput_size]; exact m3, (hsame b fun e => ?_).trans m4⟩
        subst e; exact hnd.1 hb
    obtain ⟨w2, t1, t2, t3⟩ := takes_inv rs _ hi' (fun t => hrep _ _ (hr t))
    exact ⟨w2, .cons (run_take h4) t1, t2, t3⟩
end Go.AL
namespace Go.AL
def objL : List (Nat × O) → Nat → Option O
  | [], _ => none
  | (k, o) :: l, j => bif Nat.beq j k then some o else objL l j
def mk (sl : List (Nat × A)) (ob : List (Nat × O)) : State := ⟨slotL sl, objL ob⟩
theorem beq_iff {a b : Nat} : Nat.beq a b = true ↔ a = b := ⟨Nat.eq_of_beq_eq_true, fun h => by subst h; simp⟩
theorem objL_some {l : List (Nat × O)} {k : Nat} {o : O} (h : objL l k = some o) : (k, o) ∈ l := by
  induction l with
  | nil => cases h
  | cons p l ih =>
    obtain ⟨k', o'⟩ := p
    simp only [objL] at h
    cases hb : Nat.beq k k' with
    | true => rw [hb] at h; simp at h; subst h; rw [beq_iff.1 hb]; exact List.mem_cons_self
    | false => rw [hb] at h; exact List.mem_cons_of_mem _ (ih h)
theorem slotL_mem {l : List (Nat × A)} {t : Nat} : slotL l t = .any ∨ ∃ p ∈ l, p.1 = t ∧ slotL l t = p.2 := by
  induction l with
  | nil => exact .inl rfl
  | cons p l ih =>
    obtain ⟨k, a⟩ := p
    simp only [slotL]
    cases hb : Nat.beq t k with
    | true => exact .inr ⟨(k, a), List.mem_cons_self, (beq_iff.1 hb).symm, rfl⟩
    | false =>
      rcases ih with h | ⟨q, hq, h1, h2⟩
      · exact .inl h
      · exact .inr ⟨q, List.mem_cons_of_mem _ hq, h1, h2⟩
mutual
def A.within (K : Nat → Bool) : A → Bool
  | .dat (some k) _ | .pr (some k) _ | .row k _ _ _ | .pt k _ | .pe k _ _ _ => K k
  | .prv cs | .clo _ cs | .st cs | .tup cs => withinL K cs
  | .when _ a => a.within K
  | _ => true
def withinL (K : Nat → Bool) : List A → Bool
  | [] => true
  | a :: l => a.within K && withinL K l
end
theorem withinL_get {K : Nat → Bool} : ∀ {l : List A}, withinL K l = true → ∀ (j : Nat) (hj : j < l.length), l[j].within K = true
  | [], _, j, hj => absurd hj (Nat.not_lt_zero _)
  | a :: l, h, j, hj => by
    simp only [withinL, Bool.and_eq_true] at h
    cases j with
    | zero => exact h.1
    | succ j => exact withinL_get h.2 j (by simpa using hj)
def O.within (K : Nat → Bool) : O → Bool
  | .var cs => withinL K cs
  | .row _ _ => true
  | .lp _ _ sl => sl.all fun p => p.2.within K
mutual
def A.ren (ρ : Nat → Nat) (T : Nat → Nat → A) : A → A
  | .dat (some k) x => .dat (some (ρ k)) x
  | .pr (some k) cs => .pr (some (ρ k)) cs
  | .row k es lo n => .row (ρ k) es lo n
  | .pt k o => .pt (ρ k) o
  | .pe k es i o => .pe (ρ k) es i o
  | .prv cs => .prv (renL ρ T cs)
  | .clo f cs => .clo f (renL ρ T cs)
  | .st cs => .st (renL ρ T cs)
  | .tup cs => .tup (renL ρ T cs)
  | .when g a => .when g (a.ren ρ T)
  | .tok i j => T i j
  | .dat none x => .dat none x
  | .pr none cs => .pr none cs
  | a => a
def renL (ρ : Nat → Nat) (T : Nat → Nat → A) : List A → List A
  | [] => []
  | a :: l => a.ren ρ T :: renL ρ T l
end
theorem renL_length {ρ : Nat → Nat} {T : Nat → Nat → A} : ∀ l : List A, (renL ρ T l).length = l.length
  | [] => rfl
  | a :: l => by simp [renL, renL_length l]
theorem renL_get {ρ : Nat → Nat} {T : Nat → Nat → A} : ∀ (l : List A) (j : Nat) (hj : j < l.length), (renL ρ T l)[j]'(by rw [renL_length]; exact hj) = l[j].ren ρ T
  | [], j, hj => absurd hj (Nat.not_lt_zero _)
  | a :: l, j, hj => by
    cases j with
    | zero => rfl
    | succ j => simpa [renL] using renL_get l j (by simpa using hj)
def O.ren (ρ : Nat → Nat) (T : Nat → Nat → A) : O → O
  | .var cs => .var (renL ρ T cs)
  | .row es xs => .row es xs
  | .lp l r sl => .lp l r (sl.map fun p => (p.1, p.2.ren ρ T))
structure Env.via (E E' : Env) (ρ : Nat → Nat) (K : Nat → Bool) : Prop where
  R : ∀ b, E.R b → E'.R b
  bl : ∀ k, K k = true → E'.bl k = E.bl (ρ k)
  real : ∀ k, K k = true → E'.real k = E.real (ρ k)
  cap : ∀ k, K k = true → E'.cap k = E.cap (ρ k)
  fp : ∀ k, K k = true → E'.fp k = E.fp (ρ k)
  tk : E'.tk = E.tk
theorem Env.via.reg {E E' : Env} {ρ : Nat → Nat} {K : Nat → Bool} (hE : E.via E' ρ K) {k : Nat} (hk : K k = true) (b : Nat) (hb : E.reg (some (ρ k)) b) : E'.reg (some k) b := by
  simp only [Env.reg] at hb ⊢
  rw [hE.fp k hk, hE.bl k hk]; exact hb
mutual
theorem Rep.of_ren {E E' : Env} {w : World} {ρ : Nat → Nat} {K : Nat → Bool} (hE : E.via E' ρ K) : ∀ (a : A) (u : Value), a.within K = true → Rep E w u (a.ren ρ .tok) → Rep E' w u a
  | .any, u, _, _ => .any u
  | .v x, u, _, h => by simp only [A.ren] at h; cases h with | v _ _ h => exact .v _ _ h
  | .dat none x, u, _, h => by simp only [A.ren] at h; cases h with | dat _ _ _ h => exact .dat _ _ _ (h.mono hE.R fun _ _ => rfl)
  | .dat (some k) x, u, hk, h => by
    simp only [A.ren] at h
    simp only [A.within] at hk
    cases h with
    | dat _ _ _ h => exact .dat _ _ _ (h.mono (hE.reg hk) fun _ _ => rfl)
  | .nil, u, _, h => by simp only [A.ren] at h; cases h; exact .nil _
  | .row k es lo n, u, hk, h => by
    simp only [A.ren] at h
    simp only [A.within] at hk
    cases h with
    | row _ _ _ _ hr => rw [← hE.bl k hk, ← hE.cap k hk]; exact .row k es lo n (by rw [hE.real k hk]; exact hr)
    | rownil _ _ a hr => exact .rownil k es a (by rw [hE.real k hk]; exact hr)
  | .pt k o, u, hk, h => by simp only [A.ren] at h; simp only [A.within] at hk; cases h; rw [← hE.bl k hk]; exact .pt k o
  | .pe k es i o, u, hk, h => by
    simp only [A.ren] at h
    simp only [A.within] at hk
    cases h with
    | pe _ _ _ _ hr => rw [← hE.bl k hk]; exact .pe k es i o (by rw [hE.real k hk]; exact hr)
  | .pr none cs, u, _, h => by
    simp only [A.ren] at h
    cases h with
    | pr _ _ b o us hb hc hr => exact .pr _ _ b o us (hE.R _ hb) hc fun j hj => (hr j hj).mono hE.R fun _ _ => rfl
  | .pr (some k) cs, u, hk, h => by
    simp only [A.ren] at h
    simp only [A.within] at hk
    cases h with
    | pr _ _ b o us hb hc hr => exact .pr _ _ b o us (hE.reg hk _ hb) hc fun j hj => (hr j hj).mono (hE.reg hk) fun _ _ => rfl
  | .prv cs, u, hk, h => by
    simp only [A.ren] at h
    simp only [A.within] at hk
    cases h with
    | prv _ b o us hb hc hr =>
      rw [renL_length] at hc
      exact .prv cs b o us (hE.R _ hb) hc fun j hj => Rep.of_renL hE cs j hj _ (withinL_get hk j hj) (by rw [← renL_get]; exact hr j (by rw [renL_length]; exact hj))
  | .clo f cs, u, hk, h => by
    simp only [A.ren] at h
    simp only [A.within] at hk
    cases h with
    | clo _ _ vs hs hr =>
      rw [renL_length] at hs
      exact .clo f cs vs hs fun j hj => Rep.of_renL hE cs j hj _ (withinL_get hk j hj) (by rw [← renL_get]; exact hr j (by rw [renL_length]; exact hj))
  | .nilf, u, _, h => by simp only [A.ren] at h; cases h; exact .nilf
  | .yld l, u, _, h => by simp only [A.ren] at h; cases h; exact .yld l
  | .nilp, u, _, h => by simp only [A.ren] at h; cases h; exact .nilp
  | .st cs, u, hk, h => by
    simp only [A.ren] at h
    simp only [A.within] at hk
    cases h with
    | st _ vs hs hr =>
      rw [renL_length] at hs
      exact .st cs vs hs fun j hj => Rep.of_renL hE cs j hj _ (withinL_get hk j hj) (by rw [← renL_get]; exact hr j (by rw [renL_length]; exact hj))
  | .tup cs, u, hk, h => by
    simp only [A.ren] at h
    simp only [A.within] at hk
    cases h with
    | tup _ vs hs hr =>
      rw [renL_length] at hs
      exact .tup cs vs hs fun j hj => Rep.of_renL hE cs j hj _ (withinL_get hk j hj) (by rw [← renL_get]; exact hr j (by rw [renL_length]; exact hj))
  | .when g a, u, hk, h => by
    simp only [A.ren] at h
    simp only [A.within] at hk
    obtain ⟨h1, h2⟩ := rep_when h
    exact .when g a u (fun hg => Rep.of_ren hE a u hk (h1 hg)) h2
  | .tok i j, u, _, h => by simp only [A.ren] at h; cases h; rw [← hE.tk]; exact .tok i j
theorem Rep.of_renL {E E' : Env} {w : World} {ρ : Nat → Nat} {K : Nat → Bool} (hE : E.via E' ρ K) : ∀ (l : List A) (j : Nat) (hj : j < l.length) (u : Value), l[j].within K = true → Rep E w u (l[j].ren ρ .tok) → Rep E' w u l[j]
  | [], j, hj, _ => absurd hj (Nat.not_lt_zero _)
  | a :: l, 0, _, u => Rep.of_ren hE a u
  | a :: l, j + 1, hj, u => Rep.of_renL hE l j (by simpa using hj) u
end
theorem ObjRep.of_ren {E E' : Env} {w : World} {ρ : Nat → Nat} {K : Nat → Bool} (hE : E.via E' ρ K) {k : Nat} (hk : K k = true) {o : O} (ho : o.within K = true) (h : ObjRep E w (ρ k) (o.ren ρ .tok)) : ObjRep E' w k o := by
  cases o with
  | var cs =>
    simp only [O.ren] at h
    simp only [O.within] at ho
    cases h with
    | var _ c ty hh hs hf hr =>
      rw [renL_length] at hs
      refine .var cs c ty (by rw [hE.bl k hk]; exact hh) hs (by rw [hE.fp k hk, hE.bl k hk]; exact hf) fun j hj => Rep.of_ren hE _ _ (withinL_get ho j hj) ?_
      rw [← renL_get]; exact hr j (by rw [renL_length]; exact hj)
  | row es xs =>
    simp only [O.ren] at h
    cases h with
    | rownil _ hr => exact .rownil es (by rw [hE.real k hk]; exact hr)
    | row _ _ hr h => exact .row es xs (by rw [hE.real k hk]; exact hr) (by rw [hE.fp k hk, hE.bl k hk, hE.cap k hk]; exact h)
  | lp l r sl =>
    simp only [O.ren] at h
    simp only [O.within] at ho
    cases h with
    | lp _ _ _ hb hf hh hr =>
      refine .lp l r sl (by rw [hE.bl k hk]; exact hb) (by rw [hE.fp k hk]; exact hf) hh fun t => ?_
      have h2 := hr t
      rw [slotL_map (f := fun a => a.ren ρ .tok) rfl] at h2
      rcases slotL_mem (l := sl) (t := t) with e | ⟨p, hp, _, e⟩
      · rw [e]; exact .any _
      · rw [e] at h2 ⊢; exact Rep.of_ren hE _ _ (List.all_eq_true.1 ho p hp) h2
def keyIn (ob : List (Nat × O)) (k : Nat) : Bool := (objL ob k).isSome
def injOn (ρ : Nat → Nat) : List Nat → Bool
  | [] => true
  | k :: l => l.all (fun j => !(Nat.beq (ρ k) (ρ j)) || Nat.beq k j) && injOn ρ l
theorem injOn_iff {ρ : Nat → Nat} : ∀ {l : List Nat}, injOn ρ l = true → ∀ k ∈ l, ∀ j ∈ l, ρ k = ρ j → k = j
  | [], _, k, hk, _, _, _ => absurd hk (by simp)
  | a :: l, h, k, hk, j, hj, e => by
    simp only [injOn, Bool.and_eq_true, List.all_eq_true, Bool.or_eq_true, Bool.not_eq_true'] at h
    have one : ∀ j ∈ l, ρ a = ρ j → a = j := fun j hj e => by
      rcases h.1 j hj with h' | h'
      · rw [beq_iff.2 e] at h'; cases h'
      · exact beq_iff.1 h'
    rcases List.mem_cons.1 hk with hk' | hk'
    · subst hk'
      rcases List.mem_cons.1 hj with hj' | hj'
      · exact hj'.symm
      · exact one j hj' e
    · rcases List.mem_cons.1 hj with hj' | hj'
      · subst hj'; exact (one k hk' e.symm).symm
      · exact injOn_iff h.2 k hk' j hj' e
theorem keyIn_mem {ob : List (Nat × O)} {k : Nat} (h : keyIn ob k = true) : k ∈ ob.map (·.1) := by
  unfold keyIn at h
  obtain ⟨o, ho⟩ := Option.isSome_iff_exists.1 h
  exact List.mem_map.2 ⟨(k, o), objL_some ho, rfl⟩
structure Fits (cx : Cx) (st : State) (ρ : Nat → Nat) (ob : List (Nat × O)) : Prop where
  objs : ∀ p ∈ ob, st.objs (ρ p.1) = some (p.2.ren ρ .tok)
  within : (ob.all fun p => p.2.within (keyIn ob)) = true
  inj : injOn ρ (ob.map (·.1)) = true
  vk : ∀ k, cx.vk k = true → ρ k = k
open Classical in
theorem Inv.fit {cx : Cx} {st : State} {w : World} {E : Env} {ρ : Nat → Nat} {ob : List (Nat × O)} (hi : Inv cx E st.objs w) (hf : Fits cx st ρ ob) :
    ∃ E', Inv cx E' (objL ob) w ∧ E.via E' ρ (keyIn ob) := by
  let E' : Env := { R := E.R, bl := fun k => E.bl (ρ k), real := fun k => E.real (ρ k), cap := fun k => E.cap (ρ k), fp := fun k => if keyIn ob k = true then E.fp (ρ k) else fun _ => False, tk := E.tk }
  have hv : E.via E' ρ (keyIn ob) := ⟨fun _ h => h, fun _ _ => rfl, fun _ _ => rfl, fun _ _ => rfl, fun k hk => by simp only [E', hk, if_true], rfl⟩
  refine ⟨E', ⟨fun k o h => ?_, fun k h b hb => ?_, fun k k' b h h' => ?_, fun k b h => ?_, hi.rd, hi.frame, hi.size, hi.os, hi.tape, hi.output, hi.R0, hi.tk0, fun k hk => ?_, hi.nd, fun b hb => ?_⟩, hv⟩
  · have hm := objL_some h
    have h1 := hf.objs _ hm
    exact ObjRep.of_ren hv (by simp [keyIn, h]) (List.all_eq_true.1 hf.within _ hm) (hi.obj _ _ h1)
  · simp only [E', keyIn, h, Option.isSome_none, Bool.false_eq_true, if_false] at hb
  · by_cases hk : keyIn ob k = true
    · by_cases hk' : keyIn ob k' = true
      · simp only [E', hk, hk', if_true] at h h'
        exact injOn_iff hf.inj k (keyIn_mem hk) k' (keyIn_mem hk') (hi.disj _ _ b h h')
      · simp only [E', hk', if_false] at h'; simp at h'
    · simp only [E', hk, if_false] at h; simp at h
  · by_cases hk : keyIn ob k = true
    · simp only [E', hk, if_true] at h; exact hi.own _ b h
    · simp only [E', hk, if_false] at h; simp at h
  · simp only [E', hf.vk k hk]; exact hi.bl0 k hk
  · refine ⟨fun k h => ?_, (hi.mks b hb).2⟩
    by_cases hk : keyIn ob k = true
    · simp only [E', hk, if_true] at h; exact (hi.mks b hb).1 _ h
    · simp only [E', hk, if_false] at h; simp at h
theorem Sim.fit {cx : Cx} {st : State} {a : Act} {w : World} {ρ : Nat → Nat} {sl : List (Nat × A)} {ob : List (Nat × O)} (h : Sim cx st a w) (hf : Fits cx st ρ ob)
    (hs : ∀ p ∈ sl, st.slots p.1 = p.2.ren ρ .tok) (hw : (sl.all fun p => p.2.within (keyIn ob)) = true) : Sim cx (mk sl ob) a w := by
  obtain ⟨rs, h0, h1, E, hi, hr⟩ := h
  obtain ⟨E', hi', hv⟩ := hi.fit (cx := cx.at rs) ⟨hf.objs, hf.within, hf.inj, hf.vk⟩
  refine ⟨rs, h0, h1, E', hi', fun t => ?_⟩
  rcases slotL_mem (l := sl) (t := t) with e | ⟨p, hp, h1, h2⟩
  · show Rep E' w _ (slotL sl t); rw [e]; exact .any _
  · show Rep E' w _ (slotL sl t)
    rw [h2]
    refine Rep.of_ren hv _ _ (List.all_eq_true.1 hw p hp) ?_
    rw [← hs p hp, h1]; exact hr t
def isVar : Option O → Bool
  | some (.var _) => true
  | _ => false
def Enters (P : Program) (f : Nat) : Prop := ∀ args w, (callFunc f args).run P w = .ok (.enter f args) w
def Ok (P : Program) (f : Nat) (args : List A) (pre : List (Nat × O)) (res : A) (post : List (Nat × O)) : Prop :=
  Enters P f ∧ ∀ (cx : Cx) (E : Env) (vs : List Value), cx.P = P → cx.ro = none → (∀ k, cx.vk k = isVar (objL pre k)) → Inv cx E (objL pre) cx.w0 → vs.length = args.length →
    (∀ (j : Nat) (hj : j < args.length), Rep E cx.w0 (vs.getD j undef) args[j]) →
    CallsIn (fence none) 0 P f vs.toArray cx.w0 fun e w' => ∃ v E', e = .returned v ∧ Inv cx E' (objL post) w' ∧ Rep E' w' v res
inductive ResL (P : Program) (st : State) : List ResultVar → List A → Prop
  | nil : ResL P st [] []
  | tmp {t : Nat} {a : A} {rs : List ResultVar} {asx : List A} (h : st.slots t = a) (ht : ResL P st rs asx) : ResL P st (.tmp t :: rs) (a :: asx)
  | cell {t k oo : Nat} {ty : TypeId} {d : TypeDesc} {cs : List A} {a : A} {rs : List ResultVar} {asx : List A} (h : st.slots t = .pt k oo) (hty : P.underlying ty = some d) (hd : aggD d = false)
      (hk : st.objs k = some (.var cs)) (hr : cs[oo]? = some a) (ht : ResL P st rs asx) : ResL P st (.cell t ty :: rs) (a :: asx)
  | celln {t k oo n : Nat} {ty : TypeId} {d : TypeDesc} {cs : List A} {rs : List ResultVar} {asx : List A} (h : st.slots t = .pt k oo) (hty : P.underlying ty = some d) (hd : aggD d = true)
      (hsz : (P.info? ty).map (·.size) = some n) (hk : st.objs k = some (.var cs)) (hn : Nat.ble (oo + n) cs.length = true) (ht : ResL P st rs asx) : ResL P st (.cell t ty :: rs) (.st ((cs.drop oo).take n) :: asx)
def oneOf : List A → A
  | [a] => a
  | asx => .tup asx
def rget (tmps : Array Value) : ResultVar → Sem Value
  | .tmp t => pure (tmps.getD t undef)
  | .cell x t => do loadVar t (← asAddr (tmps.getD x undef))
theorem rget_cell {P : Program} {tmps : Array Value} {x t : Nat} {w : World} {a : Addr} (h : tmps.getD x undef = .pointer (some a)) : (rget tmps (.cell x t)).run P w = (loadVar t a).run P w := by
  simp only [rget, Sem.run_bind, h, asAddr, Sem.run_pure, Result.andThen_ok]
theorem ResL.run {P : Program} {cx : Cx} (hP : cx.P = P) {st : State} {rs : List ResultVar} {asx : List A} (h : ResL P st rs asx) {a : Act} {w : World} {E : Env} (hi : Inv cx E st.objs w)
    (hr : ∀ t, Rep E w (a.tmps.getD t undef) (st.slots t)) :
    ∃ vs : List Value, (rs.mapM (m := Sem) (rget a.tmps)).run P w = .ok vs w ∧ vs.length = asx.length ∧
      ∀ (j : Nat) (hj : j < asx.length), Rep E w (vs.getD j undef) asx[j] := by
  induction h with
  | nil => exact ⟨[], by simp, rfl, fun j hj => absurd hj (Nat.not_lt_zero _)⟩
  | tmp h ht ih =>
    rename_i t x rs asx
    obtain ⟨vs, h1, h2, h3⟩ := ih
    refine ⟨a.tmps.getD t undef :: vs, ?_, by simp [h2], fun j hj => ?_⟩
    · simp only [List.mapM_cons, Sem.run_bind, rget, Sem.run_pure, Result.andThen_ok, h1]
    · cases j with
      | zero => have := hr t; rw [h] at this; simpa using this
      | succ j => simpa using h3 j (by simpa using hj)
  | cell h hty hd hk hcr ht ih =>
    rename_i t k oo ty d cs x rs asx
    obtain ⟨vs, h1, h2, h3⟩ := ih
    obtain ⟨us, hc, hu⟩ := var_cells (hi.obj _ _ hk)
    obtain ⟨hlt, rfl⟩ := getElem_eq hcr
    have hv := hr t
    rw [h] at hv
    generalize hx : a.tmps.getD t undef = v at hv
    cases hv
    refine ⟨us oo :: vs, ?_, by simp [h2], fun j hj => ?_⟩
    · simp only [List.mapM_cons, Sem.run_bind, rget_cell hx, Sem.run_pure, Result.andThen_ok, loadVar, run_isAgg' hty hd, Bool.false_eq_true, if_false, run_load, hc _ hlt, h1]
    · cases j with
      | zero => simpa using hu _ hlt
      | succ j => simpa using h3 j (by simpa using hj)
  | celln h hty hd hsz hk hn ht ih =>
    rename_i t k oo n ty d cs rs asx
    have hn' : oo + n ≤ cs.length := Nat.le_of_ble_eq_true hn
    obtain ⟨vs, h1, h2, h3⟩ := ih
    obtain ⟨us, hc, hu⟩ := var_cells (hi.obj _ _ hk)
    have hv := hr t
    rw [h] at hv
    generalize hx : a.tmps.getD t undef = v at hv
    cases hv
    have hl := run_loadCellsFrom (P := P) (w := w) (b := E.bl k) (o := oo) (us := fun j => us (oo + j)) n 0 #[] (fun j hj => by rw [Nat.zero_add]; exact hc _ (by omega))
    refine ⟨.agg ((List.range' 0 n).map fun j => us (oo + j)).toArray :: vs, ?_, by simp [h2], fun j hj => ?_⟩
    · simp only [List.mapM_cons, Sem.run_bind, rget_cell hx, Sem.run_pure, Result.andThen_ok, loadVar, run_isAgg' hty hd, if_true, loadCells, run_sizeOf' hsz, hl, h1]
      simp
    · cases j with
      | zero =>
        refine .st _ _ (by simp; omega) fun i hi' => ?_
        have hi2 : i < n := by simp at hi'; omega
        show Rep E w ((((List.range' 0 n).map fun j => us (oo + j)).toArray).getD i undef) _
        rw [getD_toArray_map _ _ _ hi2]
        have := hu (oo + i) (by omega)
        simpa using this
      | succ j => simpa using h3 j (by simpa using hj)
def initS (args : List A) (pre : List (Nat × O)) : State := ⟨fun t => args.getD t .any, objL pre⟩
def RetQ (P : Program) (rs : List ResultVar) (res : A) (post : List (Nat × O)) (cx : Cx) : Exit → State → Prop
  | .ret, st | .normal, st => ∃ ρ asx, ResL P st rs asx ∧ oneOf asx = res.ren ρ .tok ∧ Fits cx st ρ post ∧ res.within (keyIn post) = true
  | _, _ => False
theorem ok_of {P : Program} {f : Nat} {fn : Func} {c : Code} {args : List A} {pre : List (Nat × O)} {res : A} {post : List (Nat × O)} (hent : Enters P f) (hf : P.funcs[f]? = some fn) (hb : fn.body = some c)
    (hN : Nat.ble args.length fn.ntmps = true)
    (h : ∀ cx : Cx, cx.P = P → cx.ro = none → cx.N = fn.ntmps → (∀ k, cx.vk k = isVar (objL pre k)) → aw cx c (RetQ P fn.results.toList res post cx) (initS args pre)) : Ok P f args pre res post := by
  refine ⟨hent, fun cx E vs hP hro hvk hi hlen hr => ?_⟩
  subst hP
  have hN' : args.length ≤ fn.ntmps := Nat.le_of_ble_eq_true hN
  refine calls_of_marks hf hb trivial ?_
  have hcx := h { cx with N := fn.ntmps } rfl hro rfl hvk
  let cx' : Cx := { cx with N := fn.ntmps }
  have hinv : Inv cx' E (objL pre) cx.w0 := ⟨hi.obj, hi.dead, hi.disj, hi.own, hi.rd, hi.frame, hi.size, hi.os, hi.tape, hi.output, hi.R0, hi.tk0, hi.bl0, hi.nd, hi.mks⟩
  have hsim : Sim cx' (initS args pre) { tmps := vs.toArray ++ Array.replicate (fn.ntmps - vs.toArray.size) undef, defers := [] } cx.w0 := by
    refine ⟨[], rfl, by simp [cx']; omega, E, hinv, fun t => ?_⟩
    show Rep E cx.w0 _ (args.getD t .any)
    by_cases ht : t < args.length
    · have := hr t ht
      rw [List.getD_eq_getElem?_getD, List.getElem?_eq_getElem ht, Option.getD_some]
      rw [List.getD_eq_getElem?_getD, List.getElem?_eq_getElem (by omega), Option.getD_some] at this
      simp only [Array.getD_eq_getD_getElem?]
      rw [Array.getElem?_append_left (by simpa using (by omega : t < vs.length))]
      simpa [List.getElem?_eq_getElem (show t < vs.length by omega)] using this
    · rw [List.getD_eq_getElem?_getD, List.getElem?_eq_none (by omega)]; exact .any _
  have hw := hcx _ _ hsim
  rw [show (fence cx'.ro) = fence none from by rw [show cx'.ro = none from hro]] at hw
  refine wpIn_mono hw ?_
  rintro e a' w' ⟨st, hq, hs⟩
  have fin : (∃ ρ asx, ResL cx.P st fn.results.toList asx ∧ oneOf asx = res.ren ρ .tok ∧ Fits cx' st ρ post ∧ res.within (keyIn post) = true) →
      ∃ rs, a'.defers = marks rs ∧ ∃ w2, Takes cx.P rs w' w2 ∧ ∃ v, (results fn a'.tmps).run cx.P w2 = .ok v w2 ∧ ∃ v' E', (Ending.returned v) = .returned v' ∧ Inv cx E' (objL post) w2 ∧ Rep E' w2 v' res := by
    rintro ⟨ρ, asx, h1, h2, h3, h4⟩
    obtain ⟨rs, hd, hsz, E2, hi2, hr2⟩ := hs
    obtain ⟨w2, htk, hi2, hr2⟩ := takes_inv rs _ hi2 hr2
    obtain ⟨us, hrun, hlen2, hrep⟩ := h1.run (cx := cx') rfl hi2 hr2
    obtain ⟨E', hi', hv⟩ := hi2.fit h3
    have hone : Rep E2 w2 (if h : us.toArray.size = 1 then us.toArray[0] else .tuple us.toArray) (oneOf asx) := by
      match asx, us, hlen2, hrep with
      | [a], [u], _, hrep => simpa [oneOf] using hrep 0 (by simp)
      | [], [], _, hrep => simp only [oneOf]; exact .tup _ _ rfl fun j hj => absurd hj (Nat.not_lt_zero _)
      | a :: b :: asx, u :: v :: us, hl, hrep =>
        rw [dif_neg (by simp)]
        refine .tup _ _ (by simpa using hl) fun j hj => ?_
        have := hrep j hj
        simpa [Array.getD_eq_getD_getElem?, List.getD_eq_getElem?_getD] using this
    refine ⟨rs, hd, w2, htk, _, ?_, _, E', rfl, ⟨hi'.obj, hi'.dead, hi'.disj, hi'.own, hi'.rd, hi'.frame, hi'.size, hi'.os, hi'.tape, hi'.output, hi'.R0, hi'.tk0, hi'.bl0, hi'.nd, hi'.mks⟩, Rep.of_ren hv res _ h4 (by rw [← h2]; exact hone)⟩
    simp only [results, Sem.run_bind]
    rw [← Array.toArray_toList (xs := fn.results)]
    simp only [List.mapM_toArray, Sem.run_map]
    erw [hrun]
    simp
  cases e with
  | normal => exact fin hq
  | ret => exact fin hq
  | exit id => exact hq.elim
  | goto l => exact hq.elim
  | panic ch => exact hq.elim
  | outgrown => exact hq.elim
end Go.AL
namespace Go.AL
def NL (pre : List (Nat × O)) (ρ : Nat → Nat) (k : Nat) : Bool := pre.all fun p => !(Nat.beq (ρ p.1) k)
theorem NL_iff {pre : List (Nat × O)} {ρ : Nat → Nat} {k : Nat} (h : NL pre ρ k = true) {i : Nat} (hi : keyIn pre i = true) : ρ i ≠ k := by
  intro e
  obtain ⟨p, hp, rfl⟩ := List.mem_map.1 (keyIn_mem hi)
  have := List.all_eq_true.1 h p hp
  rw [beq_iff.2 e] at this; cases this
inductive Vw (objs : Nat → Option O) (pre : List (Nat × O)) (ρ : Nat → Nat) : A → A → Prop
  | any (a : A) : Vw objs pre ρ a .any
  | v (x : D) : Vw objs pre ρ (.v x) (.v x)
  | vdat (x : D) : Vw objs pre ρ (.v x) (.dat none x)
  | datn (x : D) : Vw objs pre ρ (.dat none x) (.dat none x)
  | dats (k : Nat) (x : D) (h : NL pre ρ k = true) : Vw objs pre ρ (.dat (some k) x) (.dat none x)
  | nil : Vw objs pre ρ .nil .nil
  | nild (es : Nat) : Vw objs pre ρ .nil (.dat none (.sl es []))
  | nilf : Vw objs pre ρ .nilf .nilf
  | yld (l : Nat) : Vw objs pre ρ (.yld l) (.yld l)
  | nilp : Vw objs pre ρ .nilp .nilp
  | row (k es lo n : Nat) (xs ys : List D) (hk : objs k = some (.row es xs)) (h : NL pre ρ k = true) (hn : lo + n ≤ xs.length) (hy : (xs.drop lo).take n = ys) : Vw objs pre ρ (.row k es lo n) (.dat none (.sl es ys))
  | rowL (i es lo n : Nat) (h : keyIn pre i = true) : Vw objs pre ρ (.row (ρ i) es lo n) (.row i es lo n)
  | ptL (i o : Nat) (h : keyIn pre i = true) : Vw objs pre ρ (.pt (ρ i) o) (.pt i o)
  | pt (k o : Nat) (cs cs' : List A) (hk : objs k = some (.var cs)) (h : NL pre ρ k = true) (hl : (cs.drop o).length = cs'.length) (hne : 0 < cs'.length)
      (hv : ∀ (j : Nat) (h1 : j < (cs.drop o).length) (h2 : j < cs'.length), Vw objs pre ρ (cs.drop o)[j] cs'[j]) : Vw objs pre ρ (.pt k o) (.prv cs')
  | prn (cs : List D) : Vw objs pre ρ (.pr none cs) (.pr none cs)
  | prs (k : Nat) (cs : List D) (h : NL pre ρ k = true) : Vw objs pre ρ (.pr (some k) cs) (.pr none cs)
  | prv (cs cs' : List A) (hl : cs.length = cs'.length) (hv : ∀ (j : Nat) (h1 : j < cs.length) (h2 : j < cs'.length), Vw objs pre ρ cs[j] cs'[j]) : Vw objs pre ρ (.prv cs) (.prv cs')
  | clo (f : Nat) (cs cs' : List A) (hl : cs.length = cs'.length) (hv : ∀ (j : Nat) (h1 : j < cs.length) (h2 : j < cs'.length), Vw objs pre ρ cs[j] cs'[j]) : Vw objs pre ρ (.clo f cs) (.clo f cs')
  | st (cs cs' : List A) (hl : cs.length = cs'.length) (hv : ∀ (j : Nat) (h1 : j < cs.length) (h2 : j < cs'.length), Vw objs pre ρ cs[j] cs'[j]) : Vw objs pre ρ (.st cs) (.st cs')
  | tup (cs cs' : List A) (hl : cs.length = cs'.length) (hv : ∀ (j : Nat) (h1 : j < cs.length) (h2 : j < cs'.length), Vw objs pre ρ cs[j] cs'[j]) : Vw objs pre ρ (.tup cs) (.tup cs')
  | stD (cs : List A) (ds : List D) (hl : cs.length = ds.length) (hv : ∀ (j : Nat) (h1 : j < cs.length) (h2 : j < ds.length), Vw objs pre ρ cs[j] (.dat none ds[j])) : Vw objs pre ρ (.st cs) (.dat none (.agg ds))
  | when (g : Bool) (a a' : A) (hg : g = true) (h : Vw objs pre ρ a a') : Vw objs pre ρ (.when g a) a'
inductive VwL (objs : Nat → Option O) (pre : List (Nat × O)) (ρ : Nat → Nat) : List A → List A → Prop
  | nil : VwL objs pre ρ [] []
  | cons {a a' : A} {l l' : List A} (h : Vw objs pre ρ a a') (t : VwL objs pre ρ l l') : VwL objs pre ρ (a :: l) (a' :: l')
inductive VwD (objs : Nat → Option O) (pre : List (Nat × O)) (ρ : Nat → Nat) : List A → List D → Prop
  | nil : VwD objs pre ρ [] []
  | cons {a : A} {x : D} {l : List A} {l' : List D} (h : Vw objs pre ρ a (.dat none x)) (t : VwD objs pre ρ l l') : VwD objs pre ρ (a :: l) (x :: l')
section
variable {objs : Nat → Option O} {pre : List (Nat × O)} {ρ : Nat → Nat}
theorem VwL.get {l l' : List A} (h : VwL objs pre ρ l l') : l.length = l'.length ∧ ∀ (j : Nat) (h1 : j < l.length) (h2 : j < l'.length), Vw objs pre ρ l[j] l'[j] := by
  induction h with
  | nil => exact ⟨rfl, fun j h1 => absurd h1 (Nat.not_lt_zero _)⟩
  | cons h t ih =>
    refine ⟨by simp [ih.1], fun j h1 h2 => ?_⟩
    cases j with
    | zero => exact h
    | succ j => exact ih.2 j (by simpa using h1) (by simpa using h2)
theorem VwD.get {l : List A} {l' : List D} (h : VwD objs pre ρ l l') : l.length = l'.length ∧ ∀ (j : Nat) (h1 : j < l.length) (h2 : j < l'.length), Vw objs pre ρ l[j] (.dat none l'[j]) := by
  induction h with
  | nil => exact ⟨rfl, fun j h1 => absurd h1 (Nat.not_lt_zero _)⟩
  | cons h t ih =>
    refine ⟨by simp [ih.1], fun j h1 h2 => ?_⟩
    cases j with
    | zero => exact h
    | succ j => exact ih.2 j (by simpa using h1) (by simpa using h2)
theorem Vw.ptOf {k o : Nat} {cs cs' : List A} (hk : objs k = some (.var cs)) (h : NL pre ρ k = true) (hne : Nat.blt 0 cs'.length = true) (hv : VwL objs pre ρ (cs.drop o) cs') : Vw objs pre ρ (.pt k o) (.prv cs') :=
  .pt k o cs cs' hk h hv.get.1 (Nat.blt_eq ▸ hne) hv.get.2
theorem Vw.prvOf {cs cs' : List A} (hv : VwL objs pre ρ cs cs') : Vw objs pre ρ (.prv cs) (.prv cs') := .prv cs cs' hv.get.1 hv.get.2
theorem Vw.cloOf {f : Nat} {cs cs' : List A} (hv : VwL objs pre ρ cs cs') : Vw objs pre ρ (.clo f cs) (.clo f cs') := .clo f cs cs' hv.get.1 hv.get.2
theorem Vw.stOf {cs cs' : List A} (hv : VwL objs pre ρ cs cs') : Vw objs pre ρ (.st cs) (.st cs') := .st cs cs' hv.get.1 hv.get.2
theorem Vw.tupOf {cs cs' : List A} (hv : VwL objs pre ρ cs cs') : Vw objs pre ρ (.tup cs) (.tup cs') := .tup cs cs' hv.get.1 hv.get.2
theorem Vw.stDOf {cs : List A} {ds : List D} (hv : VwD objs pre ρ cs ds) : Vw objs pre ρ (.st cs) (.dat none (.agg ds)) := .stD cs ds hv.get.1 hv.get.2
end
def calleeE (E : Env) (w : World) (pre : List (Nat × O)) (ρ : Nat → Nat) : Env where
  R := fun b => b < w.heap.size ∧ ∀ i, keyIn pre i = true → ¬ E.fp (ρ i) b
  bl := fun i => E.bl (ρ i)
  real := fun i => E.real (ρ i)
  cap := fun i => E.cap (ρ i)
  fp := fun i b => keyIn pre i = true ∧ E.fp (ρ i) b
  tk := fun i j => (w.cell? ⟨E.bl (ρ i), j, none⟩).getD undef
theorem ro_slice {R : Nat → Prop} {w : World} {b o n cap es : Nat} {xs : List D} (h : RO R w (.slice (some ⟨b, o, none⟩) xs.length cap) (.sl es xs)) (lo m cap' : Nat) (hm : lo + m ≤ xs.length) (hc' : m ≤ cap') :
    RO R w (.slice (some ⟨b, o + lo * es, none⟩) m cap') (.sl es ((xs.drop lo).take m)) := by
  generalize hv : Value.slice (some ⟨b, o, none⟩) xs.length cap = v at h
  generalize hx : D.sl es xs = x at h
  cases h with
  | sl b1 o1 cap1 es1 xs1 us hb hcap hes hc hr =>
    simp only [Value.slice.injEq, Option.some.injEq, Addr.mk.injEq, and_true] at hv
    simp only [D.sl.injEq] at hx
    obtain ⟨⟨rfl, rfl⟩, _, rfl⟩ := hv
    obtain ⟨rfl, rfl⟩ := hx
    have hl : ((xs.drop lo).take m).length = m := by simp; omega
    have hg : ∀ (i : Nat) (hi : i < ((xs.drop lo).take m).length), ((xs.drop lo).take m)[i] = xs[lo + i]'(by rw [hl] at hi; omega) := fun i hi => by simp
    have key := RO.sl (R := R) (w := w) b (o + lo * es) cap' es ((xs.drop lo).take m) (fun i j => us (lo + i) j) hb (by rw [hl]; exact hc') (fun i hi => by rw [hg i hi]; exact hes _ _)
      (fun i j hi hj => by
        rw [hl] at hi
        have := hc (lo + i) j (by omega) hj
        rw [show o + lo * es + i * es + j = o + (lo + i) * es + j from by rw [Nat.add_mul]; omega]; exact this)
      (fun i hi j hj => by
        have e := hg i hi
        have hj' : j < (xs[lo + i]'(by rw [hl] at hi; omega)).cells.length := by rw [← e]; exact hj
        have := hr (lo + i) (by rw [hl] at hi; omega) j hj'
        simp only [e]; exact this)
    rw [hl] at key; exact key
  | nil a1 cap1 es1 =>
    simp only [D.sl.injEq] at hx
    obtain ⟨rfl, rfl⟩ := hx
    have : m = 0 := by simp at hm; omega
    subst this
    simp; exact .nil _ _ _
  | _ => cases hx
theorem rep_dat {E : Env} {w : World} {u : Value} {r : Option Nat} {x : D} (h : Rep E w u (.dat r x)) : RO (E.reg r) w u x := by
  cases h with
  | dat _ _ _ h => exact h
theorem Rep.view {cx : Cx} {E : Env} {w : World} {objs : Nat → Option O} {pre : List (Nat × O)} {ρ : Nat → Nat} (hi : Inv cx E objs w) (hp : ∀ i, keyIn pre i = true → (objs (ρ i)).isSome = true)
    {a a' : A} (h : Vw objs pre ρ a a') : ∀ u, Rep E w u a → Rep (calleeE E w pre ρ) w u a' := by
  have hR : ∀ b, E.R b → (calleeE E w pre ρ).R b := fun b hb => by
    obtain ⟨h1, h2⟩ := hi.rd b hb
    refine ⟨Nat.lt_of_lt_of_le h1 hi.size, fun i hk hf => ?_⟩
    rcases (hi.own _ b hf).2 with h | h
    · exact h2 h
    · omega
  have hfp : ∀ k b, NL pre ρ k = true → E.fp k b → (calleeE E w pre ρ).R b := fun k b hk hb =>
    ⟨(hi.own k b hb).1, fun i hki hf => NL_iff hk hki (hi.disj _ _ b hf hb)⟩
  induction h with
  | any a => exact fun u _ => .any u
  | v x => intro u h; cases h with | v _ _ h => exact .v _ _ h
  | vdat x => intro u h; cases h with | v _ _ h => exact .dat _ _ _ (h.mono (fun _ h => h.elim) fun _ _ => rfl)
  | datn x => intro u h; cases h with | dat _ _ _ h => exact .dat _ _ _ (h.mono hR fun _ _ => rfl)
  | dats k x hk => intro u h; cases h with | dat _ _ _ h => exact .dat _ _ _ (h.mono (fun b hb => hfp k b hk hb.1) fun _ _ => rfl)
  | nil => intro u h; cases h; exact .nil _
  | nild es => intro u h; cases h; exact .dat _ _ _ (.nil _ _ _)
  | nilf => intro u h; cases h; exact .nilf
  | yld l => intro u h; cases h; exact .yld l
  | nilp => intro u h; cases h; exact .nilp
  | row k es lo n xs ys hk hnl hn hy =>
    intro u h
    subst hy
    have ho := hi.obj _ _ hk
    cases h with
    | row _ _ _ _ hreal =>
      cases ho with
      | rownil _ hr => exact absurd hreal hr
      | row _ _ _ hown =>
        have hro := hown.ro _ (fun b hb => hfp k b hnl hb)
        have := ro_slice (n := 0) hro lo n (E.cap k - lo) hn (by have := own_cap hown; omega)
        rw [Nat.zero_add] at this
        exact .dat _ _ _ this
    | rownil _ _ _ hr =>
      refine .dat _ _ _ ?_
      simp; exact .nil _ _ _
  | rowL i es lo n hki =>
    intro u h
    cases h with
    | row _ _ _ _ hr => exact .row i es lo n hr
    | rownil _ _ a hr => exact .rownil i es a hr
  | ptL i o hki => intro u h; cases h; exact .pt i o
  | pt k o cs cs' hk hnl hl hne hv ih =>
    intro u h
    cases h
    obtain ⟨us, hc, hu⟩ := var_cells (hi.obj _ _ hk)
    have hb : E.fp k (E.bl k) := by have := hi.obj _ _ hk; cases this; assumption
    have hlen : ∀ j, j < cs'.length → o + j < cs.length := fun j hj => by rw [← hl] at hj; simp at hj; omega
    refine .prv cs' (E.bl k) o (fun j => us (o + j)) (hfp k _ hnl hb) (fun j hj => hc _ (hlen j hj)) fun j hj => ih j (by rw [hl]; exact hj) hj _ ?_
    have := hu (o + j) (hlen j hj)
    simpa using this
  | prn cs => intro u h; cases h with | pr _ _ b o us hb hc hr => exact .pr _ _ b o us (hR b hb) hc fun j hj => (hr j hj).mono hR fun _ _ => rfl
  | prs k cs hk => intro u h; cases h with | pr _ _ b o us hb hc hr => exact .pr _ _ b o us (hfp k b hk hb.1) hc fun j hj => (hr j hj).mono (fun b hb => hfp k b hk hb.1) fun _ _ => rfl
  | prv cs cs' hl hv ih =>
    intro u h
    cases h with
    | prv _ b o us hb hc hr => exact .prv cs' b o us (hR b hb) (fun j hj => hc j (by omega)) fun j hj => ih j (by omega) hj _ (hr j (by omega))
  | clo f cs cs' hl hv ih =>
    intro u h
    cases h with
    | clo _ _ vs hs hr => exact .clo f cs' vs (by omega) fun j hj => ih j (by omega) hj _ (hr j (by omega))
  | st cs cs' hl hv ih =>
    intro u h
    cases h with
    | st _ vs hs hr => exact .st cs' vs (by omega) fun j hj => ih j (by omega) hj _ (hr j (by omega))
  | tup cs cs' hl hv ih =>
    intro u h
    cases h with
    | tup _ vs hs hr => exact .tup cs' vs (by omega) fun j hj => ih j (by omega) hj _ (hr j (by omega))
  | stD cs ds hl hv ih =>
    intro u h
    cases h with
    | st _ vs hs hr =>
      refine .dat _ _ _ (.agg vs ds (by omega) fun j hj => ?_)
      exact rep_dat (ih j (by omega) hj _ (hr j (by omega)))
  | when g a a' hg hv ih => exact fun u h => ih u ((rep_when h).1 hg)
mutual
def A.imp (ρ : Nat → Nat) (T : Nat → Nat → A) : A → A
  | .dat none _ => .any
  | .pr none _ => .any
  | .prv _ => .any
  | .dat (some k) x => .dat (some (ρ k)) x
  | .pr (some k) cs => .pr (some (ρ k)) cs
  | .row k es lo n => .row (ρ k) es lo n
  | .pt k o => .pt (ρ k) o
  | .pe k es i o => .pe (ρ k) es i o
  | .clo f cs => .clo f (impL ρ T cs)
  | .st cs => .st (impL ρ T cs)
  | .tup cs => .tup (impL ρ T cs)
  | .when g a => .when g (a.imp ρ T)
  | .tok i j => T i j
  | a => a
def impL (ρ : Nat → Nat) (T : Nat → Nat → A) : List A → List A
  | [] => []
  | a :: l => a.imp ρ T :: impL ρ T l
end
theorem impL_length {ρ : Nat → Nat} {T : Nat → Nat → A} : ∀ l : List A, (impL ρ T l).length = l.length
  | [] => rfl
  | a :: l => by simp [impL, impL_length l]
theorem impL_get {ρ : Nat → Nat} {T : Nat → Nat → A} : ∀ (l : List A) (j : Nat) (hj : j < l.length), (impL ρ T l)[j]'(by rw [impL_length]; exact hj) = l[j].imp ρ T
  | [], j, hj => absurd hj (Nat.not_lt_zero _)
  | a :: l, j, hj => by
    cases j with
    | zero => rfl
    | succ j => simpa [impL] using impL_get l j (by simpa using hj)
def O.imp (ρ : Nat → Nat) (T : Nat → Nat → A) : O → O
  | .var cs => .var (impL ρ T cs)
  | .row es xs => .row es xs
  | .lp l r sl => .lp l r (sl.map fun p => (p.1, p.2.imp ρ T))
structure Env.into (E E' : Env) (ρ : Nat → Nat) (T : Nat → Nat → A) (K : Nat → Bool) (w : World) : Prop where
  bl : ∀ k, K k = true → E'.bl (ρ k) = E.bl k
  real : ∀ k, K k = true → E'.real (ρ k) = E.real k
  cap : ∀ k, K k = true → E'.cap (ρ k) = E.cap k
  fp : ∀ k, K k = true → E'.fp (ρ k) = E.fp k
  tk : ∀ i j, Rep E' w (E.tk i j) (T i j)
theorem Env.into.reg {E E' : Env} {w : World} {ρ : Nat → Nat} {T : Nat → Nat → A} {K : Nat → Bool} (hE : E.into E' ρ T K w) {k : Nat} (hk : K k = true) (b : Nat) (hb : E.reg (some k) b) : E'.reg (some (ρ k)) b := by
  simp only [Env.reg] at hb ⊢
  rw [hE.fp k hk, hE.bl k hk]; exact hb
mutual
theorem Rep.imp {E E' : Env} {w : World} {ρ : Nat → Nat} {T : Nat → Nat → A} {K : Nat → Bool} (hE : E.into E' ρ T K w) : ∀ (a : A) (u : Value), a.within K = true → Rep E w u a → Rep E' w u (a.imp ρ T)
  | .any, u, _, _ => .any u
  | .v x, u, _, h => by cases h with | v _ _ h => exact .v _ _ h
  | .dat none x, u, _, h => .any u
  | .dat (some k) x, u, hk, h => by
    simp only [A.within] at hk
    cases h with
    | dat _ _ _ h => exact .dat _ _ _ (h.mono (hE.reg hk) fun _ _ => rfl)
  | .nil, u, _, h => by cases h; exact .nil _
  | .row k es lo n, u, hk, h => by
    simp only [A.within] at hk
    simp only [A.imp]
    cases h with
    | row _ _ _ _ hr => rw [← hE.bl k hk, ← hE.cap k hk]; exact .row (ρ k) es lo n (by rw [hE.real k hk]; exact hr)
    | rownil _ _ a hr => exact .rownil (ρ k) es a (by rw [hE.real k hk]; exact hr)
  | .pt k o, u, hk, h => by simp only [A.within] at hk; simp only [A.imp]; cases h; rw [← hE.bl k hk]; exact .pt (ρ k) o
  | .pe k es i o, u, hk, h => by
    simp only [A.within] at hk
    simp only [A.imp]
    cases h with
    | pe _ _ _ _ hr => rw [← hE.bl k hk]; exact .pe (ρ k) es i o (by rw [hE.real k hk]; exact hr)
  | .pr none cs, u, _, h => .any u
  | .pr (some k) cs, u, hk, h => by
    simp only [A.within] at hk
    cases h with
    | pr _ _ b o us hb hc hr => exact .pr _ _ b o us (hE.reg hk _ hb) hc fun j hj => (hr j hj).mono (hE.reg hk) fun _ _ => rfl
  | .prv cs, u, hk, h => .any u
  | .clo f cs, u, hk, h => by
    simp only [A.within] at hk
    simp only [A.imp]
    cases h with
    | clo _ _ vs hs hr => exact .clo f _ vs (by rw [impL_length]; exact hs) fun j hj => by rw [impL_length] at hj; rw [impL_get _ _ hj]; exact Rep.impL hE cs j hj _ (withinL_get hk j hj) (hr j hj)
  | .nilf, u, _, h => by cases h; exact .nilf
  | .yld l, u, _, h => by cases h; exact .yld l
  | .nilp, u, _, h => by cases h; exact .nilp
  | .st cs, u, hk, h => by
    simp only [A.within] at hk
    simp only [A.imp]
    cases h with
    | st _ vs hs hr => exact .st _ vs (by rw [impL_length]; exact hs) fun j hj => by rw [impL_length] at hj; rw [impL_get _ _ hj]; exact Rep.impL hE cs j hj _ (withinL_get hk j hj) (hr j hj)
  | .tup cs, u, hk, h => by
    simp only [A.within] at hk
    simp only [A.imp]
    cases h with
    | tup _ vs hs hr => exact .tup _ vs (by rw [impL_length]; exact hs) fun j hj => by rw [impL_length] at hj; rw [impL_get _ _ hj]; exact Rep.impL hE cs j hj _ (withinL_get hk j hj) (hr j hj)
  | .when g a, u, hk, h => by
    simp only [A.within] at hk
    obtain ⟨h1, h2⟩ := rep_when h
    exact .when g _ u (fun hg => Rep.imp hE a u hk (h1 hg)) h2
  | .tok i j, u, _, h => by cases h; exact hE.tk i j
theorem Rep.impL {E E' : Env} {w : World} {ρ : Nat → Nat} {T : Nat → Nat → A} {K : Nat → Bool} (hE : E.into E' ρ T K w) : ∀ (l : List A) (j : Nat) (hj : j < l.length) (u : Value), l[j].within K = true → Rep E w u l[j] → Rep E' w u (l[j].imp ρ T)
  | [], j, hj, _ => absurd hj (Nat.not_lt_zero _)
  | a :: l, 0, _, u => Rep.imp hE a u
  | a :: l, j + 1, hj, u => Rep.impL hE l j (by simpa using hj) u
end
theorem ObjRep.imp {E E' : Env} {w : World} {ρ : Nat → Nat} {T : Nat → Nat → A} {K : Nat → Bool} (hE : E.into E' ρ T K w) {k : Nat} (hk : K k = true) {o : O} (ho : o.within K = true) (h : ObjRep E w k o) : ObjRep E' w (ρ k) (o.imp ρ T) := by
  cases h with
  | var cs c ty hh hs hf hr =>
    simp only [O.within] at ho
    refine .var _ c ty (by rw [hE.bl k hk]; exact hh) (by rw [impL_length]; exact hs) (by rw [hE.fp k hk, hE.bl k hk]; exact hf) fun j hj => ?_
    rw [impL_length] at hj; rw [impL_get _ _ hj]
    exact Rep.imp hE _ _ (withinL_get ho j hj) (hr j hj)
  | rownil es hr => exact .rownil es (by rw [hE.real k hk]; exact hr)
  | row es xs hr h => exact .row es xs (by rw [hE.real k hk]; exact hr) (by rw [hE.fp k hk, hE.bl k hk, hE.cap k hk]; exact h)
  | lp l r sl hb hf hh hr =>
    simp only [O.within] at ho
    refine .lp l r _ (by rw [hE.bl k hk]; exact hb) (by rw [hE.fp k hk]; exact hf) hh fun t => ?_
    have h2 := hr t
    rw [slotL_map (f := fun a => a.imp ρ T) rfl]
    rcases slotL_mem (l := sl) (t := t) with e | ⟨p, hp, _, e⟩
    · rw [e]; exact .any _
    · rw [e] at h2 ⊢; exact Rep.imp hE _ _ (List.all_eq_true.1 ho p hp) h2
theorem ObjRep.mono {E : Env} {w w' : World} {k : Nat} {o : O} (h : ObjRep E w k o) (hf : ∀ b, E.fp k b → w'.heap[b]? = w.heap[b]?) (hr : ∀ a u, Rep E w u a → Rep E w' u a) : ObjRep E w' k o := by
  cases h with
  | var cs c ty hh hs hff hrr => exact .var cs c ty ((hf _ hff).trans hh) hs hff fun j hj => hr _ _ (hrr j hj)
  | rownil es hr => exact .rownil es hr
  | row es xs hreal h => exact .row es xs hreal (h.mono _ (fun _ h => h) hf)
  | lp l r sl hb hff hh hrr => exact .lp l r sl hb hff ((hf _ hff).trans hh) fun t => hr _ _ (hrr t)
theorem ObjRep.kill {E E' : Env} {w : World} {k : Nat} {o : O} {K L : Nat → Bool} (h : ObjRep E w k o) (hE : E.off E' K L) (hk : K k = false) (hl : L k = false) : ObjRep E' w k (o.kill K L) := by
  cases h with
  | var cs c ty hh hs hf hr =>
    refine .var _ c ty (by rw [hE.bl k hk]; exact hh) (by simpa using hs) (by rw [hE.fp k hk hl, hE.bl k hk]; exact hf) fun j hj => ?_
    simp only [List.length_map] at hj
    simp only [List.getElem_map]
    exact (hr j hj).kill hE
  | rownil es hr => exact .rownil es (by rw [hE.real k hk hl]; exact hr)
  | row es xs hr h => exact .row es xs (by rw [hE.real k hk hl]; exact hr) (by rw [hE.fp k hk hl, hE.bl k hk, hE.cap k hk hl]; exact h)
  | lp l r sl hb hf hh hr =>
    refine .lp l r _ (by rw [hE.bl k hk]; exact hb) (by rw [hE.fp k hk hl]; exact hf) hh fun t => ?_
    rw [slotL_map (f := A.kill K L) rfl]; exact (hr t).kill hE
def tokA (objs : Nat → Option O) (ρ : Nat → Nat) (i j : Nat) : A := match objs (ρ i) with | some (.var cs) => cs.getD j .any | _ => .any
inductive Lend (objs : Nat → Option O) (pre : List (Nat × O)) (ρ : Nat → Nat) (i : Nat) : O → Prop
  | var (cs cs' : List A) (hk : objs (ρ i) = some (.var cs)) (hl : cs.length = cs'.length)
      (hv : ∀ (j : Nat) (h1 : j < cs.length) (h2 : j < cs'.length), cs'[j] = .tok i j ∨ Vw objs pre ρ cs[j] cs'[j]) : Lend objs pre ρ i (.var cs')
  | row (es : Nat) (xs : List D) (hk : objs (ρ i) = some (.row es xs)) : Lend objs pre ρ i (.row es xs)
inductive LendC (objs : Nat → Option O) (pre : List (Nat × O)) (ρ : Nat → Nat) (i : Nat) : Nat → List A → List A → Prop
  | nil (j : Nat) : LendC objs pre ρ i j [] []
  | tok {j : Nat} {a : A} {l l' : List A} (t : LendC objs pre ρ i (j + 1) l l') : LendC objs pre ρ i j (a :: l) (.tok i j :: l')
  | vw {j : Nat} {a a' : A} {l l' : List A} (h : Vw objs pre ρ a a') (t : LendC objs pre ρ i (j + 1) l l') : LendC objs pre ρ i j (a :: l) (a' :: l')
theorem LendC.get {objs : Nat → Option O} {pre : List (Nat × O)} {ρ : Nat → Nat} {i n : Nat} {l l' : List A} (h : LendC objs pre ρ i n l l') :
    l.length = l'.length ∧ ∀ (j : Nat) (h1 : j < l.length) (h2 : j < l'.length), l'[j] = .tok i (n + j) ∨ Vw objs pre ρ l[j] l'[j] := by
  induction h with
  | nil n => exact ⟨rfl, fun j h1 => absurd h1 (Nat.not_lt_zero _)⟩
  | tok t ih =>
    refine ⟨by simp [ih.1], fun j h1 h2 => ?_⟩
    cases j with
    | zero => exact .inl rfl
    | succ j => have := ih.2 j (by simpa using h1) (by simpa using h2); rw [show ∀ n, n + (j + 1) = n + 1 + j from fun n => by omega]; simpa using this
  | vw h t ih =>
    refine ⟨by simp [ih.1], fun j h1 h2 => ?_⟩
    cases j with
    | zero => exact .inr h
    | succ j => have := ih.2 j (by simpa using h1) (by simpa using h2); rw [show ∀ n, n + (j + 1) = n + 1 + j from fun n => by omega]; simpa using this
theorem Lend.varOf {objs : Nat → Option O} {pre : List (Nat × O)} {ρ : Nat → Nat} {i : Nat} {cs cs' : List A} (hk : objs (ρ i) = some (.var cs)) (h : LendC objs pre ρ i 0 cs cs') : Lend objs pre ρ i (.var cs') :=
  .var cs cs' hk h.get.1 fun j h1 h2 => by have := h.get.2 j h1 h2; rwa [Nat.zero_add] at this
def killK (pre post : List (Nat × O)) (ρ : Nat → Nat) (k : Nat) : Bool :=
  (pre.any fun p => Nat.beq (ρ p.1) k && (!isVar (some p.2) || !keyIn post p.1)) || (post.any fun p => Nat.beq (ρ p.1) k && !keyIn pre p.1)
def lentK (pre : List (Nat × O)) (ρ : Nat → Nat) (k : Nat) : Bool := pre.any fun p => Nat.beq (ρ p.1) k
def setL (objs : Nat → Option O) (ρ : Nat → Nat) (T : Nat → Nat → A) : List (Nat × O) → Nat → Option O
  | [], j => objs j
  | (k, o) :: l, j => bif Nat.beq j (ρ k) then some (o.imp ρ T) else setL objs ρ T l j
def afterCall (st : State) (pre post : List (Nat × O)) (ρ : Nat → Nat) (res : A) (d : Nat) : State :=
  let s1 := st.kill (killK pre post ρ) (lentK pre ρ)
  let T := fun i j => (tokA st.objs ρ i j).kill (killK pre post ρ) (lentK pre ρ)
  { slots := fun t => bif Nat.beq t d then res.imp ρ T else s1.slots t, objs := setL s1.objs ρ T post }
theorem setL_some {objs : Nat → Option O} {ρ : Nat → Nat} {T : Nat → Nat → A} {l : List (Nat × O)} {k : Nat} {o : O} (h : setL objs ρ T l k = some o) :
    (∃ i o', objL l i = some o' ∧ ρ i = k ∧ o = o'.imp ρ T) ∨ ((∀ i, keyIn l i = true → ρ i ≠ k) ∧ objs k = some o) := by
  induction l with
  | nil => exact .inr ⟨fun i hi => by simp [keyIn, objL] at hi, h⟩
  | cons p l ih =>
    obtain ⟨k', o'⟩ := p
    simp only [setL] at h
    cases hb : Nat.beq k (ρ k') with
    | true =>
      rw [hb] at h; simp at h
      exact .inl ⟨k', o', by simp [objL], (beq_iff.1 hb).symm, h.symm⟩
    | false =>
      rw [hb] at h
      rcases ih h with ⟨i, o2, h1, h2, h3⟩ | ⟨h1, h2⟩
      · by_cases hik : i = k'
        · subst hik; rw [beq_iff.2 h2.symm] at hb; cases hb
        · refine .inl ⟨i, o2, ?_, h2, h3⟩
          simp only [objL]
          rw [show Nat.beq i k' = false from by cases hb' : Nat.beq i k' with | false => rfl | true => exact absurd (beq_iff.1 hb') hik]; exact h1
      · refine .inr ⟨fun i hi e => ?_, h2⟩
        simp only [keyIn, objL] at hi
        cases hb' : Nat.beq i k' with
        | true => have := beq_iff.1 hb'; subst this; rw [beq_iff.2 e.symm] at hb; cases hb
        | false => rw [hb'] at hi; exact h1 i hi e
theorem setL_none {objs : Nat → Option O} {ρ : Nat → Nat} {T : Nat → Nat → A} {l : List (Nat × O)} {k : Nat} (h : setL objs ρ T l k = none) : (∀ i, keyIn l i = true → ρ i ≠ k) ∧ objs k = none := by
  induction l with
  | nil => exact ⟨fun i hi => by simp [keyIn, objL] at hi, h⟩
  | cons p l ih =>
    obtain ⟨k', o'⟩ := p
    simp only [setL] at h
    cases hb : Nat.beq k (ρ k') with
    | true => rw [hb] at h; simp at h
    | false =>
      rw [hb] at h
      obtain ⟨h1, h2⟩ := ih h
      refine ⟨fun i hi e => ?_, h2⟩
      simp only [keyIn, objL] at hi
      cases hb' : Nat.beq i k' with
      | true => have := beq_iff.1 hb'; subst this; rw [beq_iff.2 e.symm] at hb; cases hb
      | false => rw [hb'] at hi; exact h1 i hi e
end Go.AL
namespace Go.AL
theorem fence_calls {ro : Option Nat} {P : Program} {f : FuncId} {args : Array Value} {w : World} {R : Ending → World → Prop} (h : CallsIn (fence none) 0 P f args w R) : CallsIn (fence ro) 0 P f args w R := h
def calleeCx (P : Program) (E : Env) (w : World) (pre : List (Nat × O)) (ρ : Nat → Nat) : Cx where
  P := P
  ro := none
  w0 := w
  Bin := fun b => ∃ i, keyIn pre i = true ∧ E.fp (ρ i) b
  N := 0
  R0 := (calleeE E w pre ρ).R
  tk0 := (calleeE E w pre ρ).tk
  bl0 := (calleeE E w pre ρ).bl
  vk := fun k => isVar (objL pre k)
theorem inj_of {ρ : Nat → Nat} {pre post : List (Nat × O)} (h : injOn ρ (pre.map (·.1) ++ post.map (·.1)) = true) {i j : Nat} (hi : keyIn pre i = true ∨ keyIn post i = true) (hj : keyIn pre j = true ∨ keyIn post j = true) (e : ρ i = ρ j) : i = j := by
  refine injOn_iff h i ?_ j ?_ e
  · rcases hi with hi | hi
    · exact List.mem_append_left _ (keyIn_mem hi)
    · exact List.mem_append_right _ (keyIn_mem hi)
  · rcases hj with hj | hj
    · exact List.mem_append_left _ (keyIn_mem hj)
    · exact List.mem_append_right _ (keyIn_mem hj)
theorem keyIn_of {ob : List (Nat × O)} {k : Nat} {o : O} (h : objL ob k = some o) : keyIn ob k = true := by simp [keyIn, h]
theorem Lend.some' {objs : Nat → Option O} {pre : List (Nat × O)} {ρ : Nat → Nat} {i : Nat} {o : O} (h : Lend objs pre ρ i o) : ∃ o', objs (ρ i) = some o' := by
  cases h with
  | var cs cs' hk hl hv => exact ⟨_, hk⟩
  | row es xs hk => exact ⟨_, hk⟩
theorem callee_inv {cx : Cx} {E : Env} {objs : Nat → Option O} {w : World} {pre : List (Nat × O)} {ρ : Nat → Nat} (hi : Inv cx E objs w)
    (hpre : ∀ i o, objL pre i = some o → Lend objs pre ρ i o) (hinj : ∀ i j, keyIn pre i = true → keyIn pre j = true → ρ i = ρ j → i = j) :
    Inv (calleeCx cx.P E w pre ρ) (calleeE E w pre ρ) (objL pre) w := by
  have hsome : ∀ i, keyIn pre i = true → (objs (ρ i)).isSome = true := fun i hk => by
    obtain ⟨o, ho⟩ := Option.isSome_iff_exists.1 hk
    obtain ⟨o', h'⟩ := (hpre i o ho).some'
    simp [h']
  refine ⟨fun i o ho => ?_, fun i hn b hb => ?_, fun i j b h h' => ?_, fun i b h => ?_, fun b h => ⟨h.1, fun ⟨i, hk, hf⟩ => h.2 i hk hf⟩, fun _ _ _ => rfl, Nat.le_refl _, rfl, rfl, rfl, rfl, rfl, fun _ _ => rfl, .nil, fun b hb => by cases hb⟩
  · have hk : keyIn pre i = true := keyIn_of ho
    have hl := hpre i o ho
    cases hl with
    | var cs cs' hkk hlen hv =>
      have hob := hi.obj _ _ hkk
      cases hob with
      | var _ c ty hh hs hf hr =>
        refine .var cs' c ty hh (by omega) ⟨hk, hf⟩ fun j hj => ?_
        rcases hv j (by omega) hj with e | hvw
        · rw [e]
          have hc := cell_of_heap hh (o := j) (by omega)
          have : c.getD j undef = (calleeE E w pre ρ).tk i j := by simp only [calleeE, hc, Option.getD_some]
          rw [this]; exact .tok i j
        · exact Rep.view hi hsome hvw _ (hr j (by omega))
    | row es xs hkk =>
      have hob := hi.obj _ _ hkk
      cases hob with
      | rownil _ hr => exact .rownil es hr
      | row _ _ hr h => exact .row es xs hr (h.mono _ (fun b hb => ⟨hk, hb⟩) fun _ _ => rfl)
  · have := hb.1
    simp [keyIn, hn] at this
  · exact hinj i j h.1 h'.1 (hi.disj _ _ b h.2 h'.2)
  · exact ⟨(hi.own _ b h.2).1, .inl ⟨i, h.1, h.2⟩⟩
open Classical in
noncomputable def afterE (E E1 : Env) (pre post : List (Nat × O)) (ρ : Nat → Nat) : Env where
  R := E.R
  bl := fun k => if h : ∃ i, keyIn post i = true ∧ ρ i = k then E1.bl h.choose else E.bl k
  real := fun k => if h : ∃ i, keyIn post i = true ∧ ρ i = k then E1.real h.choose else E.real k
  cap := fun k => if h : ∃ i, keyIn post i = true ∧ ρ i = k then E1.cap h.choose else E.cap k
  fp := fun k => if h : ∃ i, keyIn post i = true ∧ ρ i = k then E1.fp h.choose else if ∃ i, keyIn pre i = true ∧ ρ i = k then fun _ => False else E.fp k
  tk := E.tk
theorem killK_false {pre post : List (Nat × O)} {ρ : Nat → Nat} {k : Nat} (h : killK pre post ρ k = false) :
    (∀ i, keyIn pre i = true → ρ i = k → isVar (objL pre i) = true ∧ keyIn post i = true) ∧ (∀ i, keyIn post i = true → ρ i = k → keyIn pre i = true) := by
  simp only [killK, Bool.or_eq_false_iff, List.any_eq_false] at h
  refine ⟨fun i hi e => ?_, fun i hi e => ?_⟩
  · obtain ⟨o, ho⟩ := Option.isSome_iff_exists.1 hi
    have := h.1 _ (objL_some ho)
    simp only [beq_iff.2 e, Bool.true_and, Bool.or_eq_true, Bool.not_eq_true', not_or, Bool.not_eq_false] at this
    rw [ho]; exact this
  · obtain ⟨o, ho⟩ := Option.isSome_iff_exists.1 hi
    have := h.2 _ (objL_some ho)
    simpa [beq_iff.2 e] using this
theorem lentK_false {pre : List (Nat × O)} {ρ : Nat → Nat} {k : Nat} (h : lentK pre ρ k = false) : ∀ i, keyIn pre i = true → ρ i ≠ k := by
  intro i hi e
  obtain ⟨o, ho⟩ := Option.isSome_iff_exists.1 hi
  have := List.any_eq_false.1 h _ (objL_some ho)
  simp [beq_iff.2 e] at this
theorem after_env {cx : Cx} {E E1 : Env} {st : State} {w w' : World} {pre post : List (Nat × O)} {ρ : Nat → Nat} {res : A} {v : Value} (hi : Inv cx E st.objs w)
    (hpre : ∀ i o, objL pre i = some o → Lend st.objs pre ρ i o) (hinj : injOn ρ (pre.map (·.1) ++ post.map (·.1)) = true)
    (hwp : (post.all fun p => p.2.within (keyIn post)) = true) (hwr : res.within (keyIn post) = true)
    (hvk : ∀ p ∈ post, (keyIn pre p.1 && isVar (objL pre p.1)) = true ∨ cx.vk (ρ p.1) = false)
    (hi1 : Inv (calleeCx cx.P E w pre ρ) E1 (objL post) w') (hr1 : Rep E1 w' v res) :
    ∃ E2, Inv cx E2 (afterCall st pre post ρ res 0).objs w' ∧ (∀ u x, Rep E w u x → Rep E2 w' u (x.kill (killK pre post ρ) (lentK pre ρ))) ∧
      Rep E2 w' v (res.imp ρ fun i j => (tokA st.objs ρ i j).kill (killK pre post ρ) (lentK pre ρ)) ∧
      E1.into E2 ρ (fun i j => (tokA st.objs ρ i j).kill (killK pre post ρ) (lentK pre ρ)) (keyIn post) w' ∧ E2.R = E.R := by
  -- what the callee leaves
  have hfr : ∀ b, b < w.heap.size → (∀ i, keyIn pre i = true → ¬ E.fp (ρ i) b) → w'.heap[b]? = w.heap[b]? := fun b hb hn => hi1.frame b hb fun ⟨i, hk, hf⟩ => hn i hk hf
  have hsz : w.heap.size ≤ w'.heap.size := hi1.size
  have hch : ∀ {k} (h : ∃ i, keyIn post i = true ∧ ρ i = k) {i}, keyIn post i = true → ρ i = k → h.choose = i := fun h i hi' e =>
    inj_of hinj (.inr h.choose_spec.1) (.inr hi') (h.choose_spec.2.trans e.symm)
  let E2 := afterE E E1 pre post ρ
  have hin : ∀ i, keyIn post i = true → E2.bl (ρ i) = E1.bl i ∧ E2.real (ρ i) = E1.real i ∧ E2.cap (ρ i) = E1.cap i ∧ E2.fp (ρ i) = E1.fp i := by
    intro i hk
    have h : ∃ j, keyIn post j = true ∧ ρ j = ρ i := ⟨i, hk, rfl⟩
    have e := hch h hk rfl
    simp only [E2, afterE, dif_pos h, e]
    exact ⟨trivial, trivial, trivial, trivial⟩
  have hout : ∀ k, (∀ i, keyIn post i = true → ρ i ≠ k) → E2.bl k = E.bl k ∧ E2.real k = E.real k ∧ E2.cap k = E.cap k := by
    intro k hk
    have h : ¬ ∃ j, keyIn post j = true ∧ ρ j = k := fun ⟨j, h1, h2⟩ => hk j h1 h2
    simp only [E2, afterE, dif_neg h]
    exact ⟨trivial, trivial, trivial⟩
  have hbl : ∀ i, keyIn pre i = true → isVar (objL pre i) = true → E1.bl i = E.bl (ρ i) := fun i _ hv => hi1.bl0 i hv
  have hoff : E.off E2 (killK pre post ρ) (lentK pre ρ) := by
    refine ⟨fun _ h => h, fun k hk => ?_, fun k hk hl => ?_, fun k hk hl => ?_, fun k hk hl => ?_, rfl⟩
    · obtain ⟨h1, h2⟩ := killK_false hk
      by_cases h : ∃ i, keyIn post i = true ∧ ρ i = k
      · obtain ⟨i, hi', rfl⟩ := h
        rw [(hin i hi').1, hbl i (h2 i hi' rfl) (h1 i (h2 i hi' rfl) rfl).1]
      · exact (hout k fun i h1 h2 => h ⟨i, h1, h2⟩).1
    all_goals
      obtain ⟨h1, h2⟩ := killK_false hk
      have h3 := lentK_false hl
      have h4 : ∀ i, keyIn post i = true → ρ i ≠ k := fun i hi' e => h3 i (h2 i hi' e) e
    · exact (hout k h4).2.1
    · exact (hout k h4).2.2
    · have h : ¬ ∃ j, keyIn post j = true ∧ ρ j = k := fun ⟨j, h1, h2⟩ => h4 j h1 h2
      have h' : ¬ ∃ j, keyIn pre j = true ∧ ρ j = k := fun ⟨j, h1, h2⟩ => h3 j h1 h2
      simp only [E2, afterE, dif_neg h, if_neg h']
  -- the caller's facts in the new world
  have hreg : ∀ r b, E.reg r b → (∀ k, r = some k → lentK pre ρ k = false) → w'.heap[b]? = w.heap[b]? := by
    intro r b hb hn
    cases r with
    | none =>
      obtain ⟨h1, h2⟩ := hi.rd b hb
      refine hfr b (Nat.lt_of_lt_of_le h1 hi.size) fun i hk hf => ?_
      rcases (hi.own _ b hf).2 with h | h
      · exact h2 h
      · omega
    | some k =>
      have hk := lentK_false (hn k rfl)
      exact hfr b (hi.own _ b hb.1).1 fun i hki hf => hk i hki (hi.disj _ _ b hf hb.1)
  have hrep : ∀ u x, Rep E w u x → Rep E2 w' u (x.kill (killK pre post ρ) (lentK pre ρ)) := by
    intro u x h
    rw [A.kill_eq]
    cases hh : x.hit (killK pre post ρ) (lentK pre ρ) with
    | true => exact .any u
    | false =>
      refine Rep.off (K := killK pre post ρ) (L := lentK pre ρ) ?_ hoff hh
      -- the reading is the same in the new world
      have : ∀ (x : A) (u : Value), Rep E w u x → x.hit (killK pre post ρ) (lentK pre ρ) = false → Rep E w' u x := by
        intro x u h
        induction h with
        | any v => exact fun _ => .any v
        | v u x h => exact fun _ => .v u x (h.mono (fun _ h => h) fun _ h => h.elim)
        | dat r u x h =>
          intro hh
          refine .dat r u x (h.mono (fun _ h => h) fun b hb => hreg r b hb fun k e => ?_)
          subst e; simp only [A.hit, Bool.or_eq_false_iff] at hh; exact hh.2
        | nil a => exact fun _ => .nil a
        | row k es lo n hr => exact fun _ => .row k es lo n hr
        | rownil k es a hr => exact fun _ => .rownil k es a hr
        | pt k o => exact fun _ => .pt k o
        | pe k es i o hr => exact fun _ => .pe k es i o hr
        | pr r cs b o us hb hc hr =>
          intro hh
          have hn : ∀ k, r = some k → lentK pre ρ k = false := fun k e => by subst e; simp only [A.hit, Bool.or_eq_false_iff] at hh; exact hh.2
          exact .pr r cs b o us hb (fun j hj => (cell_same (hreg r b hb hn) _).trans (hc j hj)) fun j hj => (hr j hj).mono (fun _ h => h) fun b hb => hreg r b hb hn
        | prv cs b o us hb hc hr ih => exact fun hh => .prv cs b o us hb (fun j hj => (cell_same (hreg none b hb (fun k e => by cases e)) _).trans (hc j hj)) fun j hj => ih j hj (hitL_get hh j hj)
        | clo f caps vs hs hr ih => exact fun hh => .clo f caps vs hs fun j hj => ih j hj (hitL_get hh j hj)
        | nilf => exact fun _ => .nilf
        | yld l => exact fun _ => .yld l
        | nilp => exact fun _ => .nilp
        | st cs vs hs hr ih => exact fun hh => .st cs vs hs fun j hj => ih j hj (hitL_get hh j hj)
        | tup cs vs hs hr ih => exact fun hh => .tup cs vs hs fun j hj => ih j hj (hitL_get hh j hj)
        | when g a u h1 h2 ih => exact fun hh => .when g a u (fun hg => ih hg hh) h2
        | tok i j => exact fun _ => .tok i j
      exact this x u h hh
  have hinto : E1.into E2 ρ (fun i j => (tokA st.objs ρ i j).kill (killK pre post ρ) (lentK pre ρ)) (keyIn post) w' := by
    refine ⟨fun k hk => (hin k hk).1, fun k hk => (hin k hk).2.1, fun k hk => (hin k hk).2.2.1, fun k hk => (hin k hk).2.2.2, fun i j => ?_⟩
    rw [hi1.tk0]
    show Rep E2 w' ((w.cell? ⟨E.bl (ρ i), j, none⟩).getD undef) _
    unfold tokA
    cases ho : st.objs (ρ i) with
    | none => exact hrep _ _ (.any _)
    | some o =>
      cases o with
      | row es xs => exact hrep _ _ (.any _)
      | lp l r sl => exact hrep _ _ (.any _)
      | var cs =>
        simp only
        by_cases hj : j < cs.length
        · obtain ⟨us, hc, hu⟩ := var_cells (hi.obj _ _ ho)
          rw [hc j hj, Option.getD_some]
          refine hrep _ _ ?_
          rw [List.getD_eq_getElem?_getD, List.getElem?_eq_getElem hj]; exact hu j hj
        · rw [List.getD_eq_getElem?_getD, List.getElem?_eq_none (by omega)]; exact hrep _ _ (.any _)
  refine ⟨E2, ⟨fun k o h => ?_, fun k h b hb => ?_, fun k k' b h h' => ?_, fun k b h => ?_, hi.rd, fun b hb hn => ?_, Nat.le_trans hi.size hsz, hi1.os.trans hi.os, hi1.tape.trans hi.tape, hi1.output.trans hi.output, hi.R0, hi.tk0, fun k hk => ?_, hi.nd, fun b hb => ?_⟩, hrep, Rep.imp hinto res v hwr hr1, hinto, rfl⟩
  · -- objects
    rcases setL_some h with ⟨i, o', h1, rfl, rfl⟩ | ⟨h1, h2⟩
    · exact ObjRep.imp hinto (keyIn_of h1) (List.all_eq_true.1 hwp _ (objL_some h1)) (hi1.obj _ _ h1)
    · simp only [State.kill] at h2
      cases hk : killK pre post ρ k with
      | true => rw [hk] at h2; simp at h2
      | false =>
        rw [hk, cond_false] at h2
        obtain ⟨o', h3, rfl⟩ := Option.map_eq_some_iff.1 h2
        obtain ⟨k1, k2⟩ := killK_false hk
        have hnl : lentK pre ρ k = false := by
          cases hl : lentK pre ρ k with
          | false => rfl
          | true =>
            obtain ⟨p, hp, hb⟩ := List.any_eq_true.1 hl
            have hpi : keyIn pre p.1 = true := by
              unfold keyIn
              have : ∀ l : List (Nat × O), p ∈ l → (objL l p.1).isSome = true := by
                intro l hl
                induction l with
                | nil => cases hl
                | cons q l ih =>
                  simp only [objL]
                  cases hq : Nat.beq p.1 q.1 with
                  | true => simp
                  | false =>
                    rcases List.mem_cons.1 hl with rfl | hl
                    · simp at hq
                    · exact ih hl
              exact this pre hp
            exact absurd (beq_iff.1 hb) (h1 _ (k1 _ hpi (beq_iff.1 hb)).2)
        have hob := hi.obj _ _ h3
        have hf2 : E2.fp k = E.fp k := hoff.fp k hk hnl
        have hfk : ∀ b, E.fp k b → w'.heap[b]? = w.heap[b]? := fun b hb => hfr b (hi.own _ b hb).1 fun i hki hf => lentK_false hnl i hki (hi.disj _ _ b hf hb)
        cases hob with
        | var cs c ty hh hs hff hrr =>
          refine .var _ c ty (by rw [hoff.bl k hk]; exact (hfk _ hff).trans hh) (by simpa using hs) (by rw [hf2, hoff.bl k hk]; exact hff) fun j hj => ?_
          simp only [List.length_map] at hj
          simp only [List.getElem_map]
          exact hrep _ _ (hrr j hj)
        | rownil es hr => exact .rownil es (by rw [hoff.real k hk hnl]; exact hr)
        | row es xs hreal hown => exact .row es xs (by rw [hoff.real k hk hnl]; exact hreal) (by rw [hf2, hoff.bl k hk, hoff.cap k hk hnl]; exact hown.mono _ (fun _ h => h) hfk)
        | lp l r sl hb hff hh hrr =>
          refine .lp l r _ (by rw [hoff.bl k hk]; exact hb) (by rw [hf2]; exact hff) ((hfk _ hff).trans hh) fun t => ?_
          rw [slotL_map (f := A.kill _ _) rfl]; exact hrep _ _ (hrr t)
  · -- dead keys
    obtain ⟨h1, h2⟩ := setL_none h
    have h : ¬ ∃ j, keyIn post j = true ∧ ρ j = k := fun ⟨j, h3, h4⟩ => h1 j h3 h4
    simp only [E2, afterE, dif_neg h] at hb
    split at hb
    · exact hb
    · rename_i hnp
      simp only [State.kill] at h2
      cases hk : killK pre post ρ k with
      | true =>
        simp only [killK, Bool.or_eq_true, List.any_eq_true, Bool.and_eq_true] at hk
        rcases hk with ⟨p, hp, hb1, _⟩ | ⟨p, hp, hb1, _⟩
        · exact hnp ⟨p.1, by
            unfold keyIn
            have : ∀ l : List (Nat × O), p ∈ l → (objL l p.1).isSome = true := by
              intro l hl
              induction l with
              | nil => cases hl
              | cons q l ih =>
                simp only [objL]
                cases hq : Nat.beq p.1 q.1 with
                | true => simp
                | false =>
                  rcases List.mem_cons.1 hl with rfl | hl
                  · simp at hq
                  · exact ih hl
            exact this pre hp, beq_iff.1 hb1⟩
        · exact h ⟨p.1, by
            unfold keyIn
            have : ∀ l : List (Nat × O), p ∈ l → (objL l p.1).isSome = true := by
              intro l hl
              induction l with
              | nil => cases hl
              | cons q l ih =>
                simp only [objL]
                cases hq : Nat.beq p.1 q.1 with
                | true => simp
                | false =>
                  rcases List.mem_cons.1 hl with rfl | hl
                  · simp at hq
                  · exact ih hl
            exact this post hp, beq_iff.1 hb1⟩
      | false =>
        rw [hk, cond_false, Option.map_eq_none_iff] at h2
        exact hi.dead k h2 b hb
  · -- apart
    have cls : ∀ k b, E2.fp k b → (∃ i, keyIn post i = true ∧ ρ i = k ∧ E1.fp i b) ∨ ((∀ i, keyIn post i = true → ρ i ≠ k) ∧ (∀ i, keyIn pre i = true → ρ i ≠ k) ∧ E.fp k b) := by
      intro k b h
      by_cases hp : ∃ i, keyIn post i = true ∧ ρ i = k
      · obtain ⟨i, h1, rfl⟩ := hp
        rw [(hin i h1).2.2.2] at h
        exact .inl ⟨i, h1, rfl, h⟩
      · simp only [E2, afterE, dif_neg hp] at h
        split at h
        · exact h.elim
        · rename_i hnp
          exact .inr ⟨fun i h1 h2 => hp ⟨i, h1, h2⟩, fun i h1 h2 => hnp ⟨i, h1, h2⟩, h⟩
    rcases cls k b h with ⟨i, h1, rfl, hf⟩ | ⟨h1, h2, hf⟩ <;> rcases cls k' b h' with ⟨i', h1', rfl, hf'⟩ | ⟨h1', h2', hf'⟩
    · rw [hi1.disj i i' b hf hf']
    · rcases (hi1.own i b hf).2 with ⟨j, hj, hfj⟩ | hge
      · exact absurd (hi.disj _ _ b hfj hf') (h2' j hj)
      · have := (hi.own _ b hf').1
        exact absurd this (Nat.not_lt.2 hge)
    · rcases (hi1.own i' b hf').2 with ⟨j, hj, hfj⟩ | hge
      · exact absurd (hi.disj _ _ b hfj hf) (h2 j hj)
      · have := (hi.own _ b hf).1
        exact absurd this (Nat.not_lt.2 hge)
    · exact hi.disj k k' b hf hf'
  · -- owned
    by_cases hp : ∃ i, keyIn post i = true ∧ ρ i = k
    · obtain ⟨i, h1, rfl⟩ := hp
      rw [(hin i h1).2.2.2] at h
      refine ⟨(hi1.own i b h).1, ?_⟩
      rcases (hi1.own i b h).2 with ⟨j, hj, hfj⟩ | hge
      · exact (hi.own _ b hfj).2
      · exact .inr (Nat.le_trans hi.size hge)
    · simp only [E2, afterE, dif_neg hp] at h
      split at h
      · exact h.elim
      · exact ⟨Nat.lt_of_lt_of_le (hi.own k b h).1 hsz, (hi.own k b h).2⟩
  · -- frame
    refine (hfr b (Nat.lt_of_lt_of_le hb hi.size) fun i hk hf => ?_).trans (hi.frame b hb hn)
    rcases (hi.own _ b hf).2 with h | h
    · exact hn h
    · omega
  · -- variables of the caller's caller
    by_cases hp : ∃ i, keyIn post i = true ∧ ρ i = k
    · obtain ⟨i, h1, rfl⟩ := hp
      rw [(hin i h1).1]
      obtain ⟨o, ho⟩ := Option.isSome_iff_exists.1 h1
      rcases hvk _ (objL_some ho) with h | h
      · simp only [Bool.and_eq_true] at h
        rw [hbl i h.1 h.2]; exact hi.bl0 _ hk
      · simp only at h; rw [hk] at h; cases h
    · rw [(hout k fun i h1 h2 => hp ⟨i, h1, h2⟩).1]; exact hi.bl0 k hk
  · -- marks
    obtain ⟨m1, m2, m3, m4⟩ := hi.mks b hb
    refine ⟨fun k h => ?_, m2, Nat.lt_of_lt_of_le m3 hsz, (hfr b m3 fun i _ hf => m1 _ hf).trans m4⟩
    by_cases hp : ∃ i, keyIn post i = true ∧ ρ i = k
    · obtain ⟨i, h1, rfl⟩ := hp
      rw [(hin i h1).2.2.2] at h
      rcases (hi1.own i b h).2 with ⟨j, hj, hfj⟩ | hge
      · exact m1 _ hfj
      · have hge' : w.heap.size ≤ b := hge
        omega
    · simp only [E2, afterE, dif_neg hp] at h
      split at h
      · exact h.elim
      · exact m1 _ h
theorem after_sim {cx : Cx} {rs : List Nat} {E E1 : Env} {st : State} {w w' : World} {pre post : List (Nat × O)} {ρ : Nat → Nat} {res : A} {d : Nat} {a : Act} {v : Value} (hdN : d < cx.N)
    (h0 : a.defers = marks rs) (h1 : a.tmps.size = cx.N) (hi : Inv (cx.at rs) E st.objs w) (hr : ∀ t, Rep E w (a.tmps.getD t undef) (st.slots t))
    (hpre : ∀ i o, objL pre i = some o → Lend st.objs pre ρ i o) (hinj : injOn ρ (pre.map (·.1) ++ post.map (·.1)) = true)
    (hwp : (post.all fun p => p.2.within (keyIn post)) = true) (hwr : res.within (keyIn post) = true)
    (hvk : ∀ p ∈ post, (keyIn pre p.1 && isVar (objL pre p.1)) = true ∨ cx.vk (ρ p.1) = false)
    (hi1 : Inv (calleeCx cx.P E w pre ρ) E1 (objL post) w') (hr1 : Rep E1 w' v res) : Sim cx (afterCall st pre post ρ res d) (a.put (some d) v) w' := by
  obtain ⟨E2, h2, hrep, hres, _⟩ := after_env hi hpre hinj hwp hwr hvk hi1 hr1
  refine ⟨rs, h0, by simp [Act.put, h1], E2, h2, fun t => ?_⟩
  simp only [Act.put, getD_put (by rw [h1]; exact hdN), afterCall]
  by_cases ht : t = d
  · subst ht
    simp
    exact hres
  · rw [if_neg ht]
    have : Nat.beq t d = false := by cases hb : Nat.beq t d with | false => rfl | true => exact absurd (Nat.eq_of_beq_eq_true hb) ht
    simp only [this, cond_false]
    exact hrep _ _ (hr t)
section
variable {cx : Cx} {Q : Exit → State → Prop} {st : State} {ops : Array Oper} {rest : List Oper} {o : Oper} {g : Bool}
def CallOf (cx : Cx) (st : State) (g : Bool) (o : Oper) (f : Nat) (asx : List A) : Prop :=
  g = true → ∀ (E : Env) (a : Act) (w : World), (∀ t, Rep E w (a.tmps.getD t undef) (st.slots t)) → ∃ vs : List Value, (Enters cx.P f → (execOp a.eval o).run cx.P w = .ok (.enter f vs.toArray) w) ∧
    vs.length = asx.length ∧ ∀ (j : Nat) (hj : j < asx.length), Rep E w (vs.getD j undef) asx[j]
theorem callOf_func {f : Nat} {xs : Array Operand} {ts : Array TypeId} {asx : List A} (ho : o.op = .call { callee := .value (.func f), args := xs, argTypes := ts }) (hx : EvL st g xs.toList asx) : CallOf cx st g o f asx := by
  intro hg E a w hs
  obtain ⟨h1, h2⟩ := evl_size (P := cx.P) hx hg hs
  refine ⟨xs.toList.map a.eval, fun hent => ?_, by rw [List.length_map]; exact h1, fun j hj => ?_⟩
  · have : (xs.toList.map a.eval).toArray = xs.map a.eval := by apply Array.ext'; simp
    rw [this]
    have e : a.eval (.func f) = .func (.func f) #[] #[] := rfl
    simp only [execOp, ho, resolve, e, Deferred.ofValue, invoke, Sem.run_bind, Sem.run_pure, Result.andThen_ok, Array.empty_append, Array.append_empty]
    exact hent _ _
  · have := h2 j hj
    simpa [Array.getD_eq_getD_getElem?, List.getD_eq_getElem?_getD] using this
theorem callOf_clo {f : Nat} {X : Operand} {xs : Array Operand} {ts : Array TypeId} {asx caps : List A} (ho : o.op = .call { callee := .value X, args := xs, argTypes := ts }) (hX : Ev st g X (.clo f caps)) (hx : EvL st g xs.toList asx) :
    CallOf cx st g o f (asx ++ caps) := by
  intro hg E a w hs
  obtain ⟨h1, h2⟩ := evl_size (P := cx.P) hx hg hs
  have hc := hX hg E w a hs
  generalize hv : a.eval X = v at hc
  cases hc with
  | clo _ _ us husz hur =>
    refine ⟨xs.toList.map a.eval ++ us.toList, fun hent => ?_, by simp at h1 ⊢; omega, fun j hj => ?_⟩
    · have : (xs.toList.map a.eval ++ us.toList).toArray = xs.map a.eval ++ us := by simp
      rw [this]
      simp only [execOp, ho, resolve, hv, Deferred.ofValue, invoke, Sem.run_bind, Sem.run_pure, Result.andThen_ok, Array.empty_append]
      exact hent _ _
    · simp at h1
      by_cases hja : j < asx.length
      · have := h2 j hja
        rw [List.getElem_append_left hja]
        rw [List.getD_eq_getElem?_getD, List.getElem?_append_left (by simpa [h1] using hja)]
        simpa [Array.getD_eq_getD_getElem?, List.getD_eq_getElem?_getD] using this
      · have hj' : j - asx.length < caps.length := by simp at hj; omega
        have := hur (j - asx.length) hj'
        rw [List.getElem_append_right (by omega)]
        rw [List.getD_eq_getElem?_getD, List.getElem?_append_right (by simp [h1]; omega)]
        simpa [Array.getD_eq_getD_getElem?, h1] using this
theorem al_call {d f : Nat} {asx cargs : List A} {pre post : List (Nat × O)} {res : A} (ρ : Nat → Nat) (hg : o.guard = none) (hd : o.dst = some d) (hdN : Nat.blt d cx.N = true) (hco : CallOf cx st true o f asx)
    (hok : Ok cx.P f cargs pre res post) (hv : VwL st.objs pre ρ asx cargs) (hpre : ∀ p ∈ pre, Lend st.objs pre ρ p.1 p.2) (hinj : injOn ρ (pre.map (·.1) ++ post.map (·.1)) = true)
    (hwp : (post.all fun p => p.2.within (keyIn post)) = true) (hwr : res.within (keyIn post) = true)
    (hvk : ∀ p ∈ post, (keyIn pre p.1 && isVar (objL pre p.1)) = true ∨ cx.vk (ρ p.1) = false)
    (h : al cx ops Q rest (afterCall st pre post ρ res d)) : al cx ops Q (o :: rest) st := by
  intro a w hs
  refine wpListIn_plain hg fun K hK => ?_
  obtain ⟨rs, h0, h1, E, hi, hr⟩ := hs
  obtain ⟨vs, hrun, hlen, hrep⟩ := hco rfl E a w hr
  have hpre' : ∀ i o, objL pre i = some o → Lend st.objs pre ρ i o := fun i o ho => hpre _ (objL_some ho)
  have hinv := callee_inv hi hpre' (fun i j h1 h2 e => inj_of hinj (.inl h1) (.inl h2) e)
  have hsome : ∀ i, keyIn pre i = true → (st.objs (ρ i)).isSome = true := fun i hk => by
    obtain ⟨o, ho⟩ := Option.isSome_iff_exists.1 hk
    obtain ⟨o', h'⟩ := (hpre' i o ho).some'
    simp [h']
  obtain ⟨hl, hvw⟩ := hv.get
  have hcall := hok.2 (calleeCx cx.P E w pre ρ) (calleeE E w pre ρ) vs rfl rfl (fun _ => rfl) hinv (by omega) (fun j hj => Rep.view hi hsome (hvw j (by omega) hj) _ (hrep j (by omega)))
  refine ⟨fun _ _ => trivial, ?_⟩
  have hnd : ∀ c, o.op ≠ .defer c := by
    intro c hc
    have := hrun hok.1
    simp only [execOp, hc, Sem.run_bind] at this
    cases hr' : (resolve a.eval c o.type).run cx.P w with
    | ok d w1 => rw [hr'] at this; simp at this
    | halt e w1 => rw [hr'] at this; simp at this
  rw [Oper.semAt_eq _ _ _ hnd, hrun hok.1]
  refine ⟨fun h => by simp [fence] at h, fence_calls (hcall.mono ?_)⟩
  rintro e w' ⟨v, E1, rfl, hi1, hr1⟩
  refine hK _ _ ?_
  rw [hd]
  exact h _ _ (after_sim (Nat.blt_eq ▸ hdN) h0 h1 hi hr hpre' hinj hwp hwr hvk hi1 hr1)
end
end Go.AL
namespace Go.AL
def inL : List Nat → Nat → Bool
  | [], _ => false
  | a :: l, k => Nat.beq k a || inL l k
theorem inL_iff {l : List Nat} {k : Nat} : inL l k = true ↔ k ∈ l := by
  induction l with
  | nil => simp [inL]
  | cons a l ih => simp [inL, ih]
def noK : Nat → Bool := fun _ => false
def State.repl (st : State) (ks : List Nat) (k : Nat) (o : O) : State where
  slots := fun t => (st.slots t).kill (inL (k :: ks)) noK
  objs := fun j => bif Nat.beq j k then some o else bif inL ks j then none else (st.objs j).map (O.kill (inL (k :: ks)) noK)
open Classical in
noncomputable def replE (E : Env) (ks : List Nat) (k b cap : Nat) (real : Prop) (F : Nat → Prop) : Env where
  R := E.R
  bl := fun j => if j = k then b else E.bl j
  real := fun j => if j = k then real else E.real j
  cap := fun j => if j = k then cap else E.cap j
  fp := fun j => if j = k then F else if j ∈ ks then fun _ => False else E.fp j
  tk := E.tk
theorem replE_bl {E : Env} {ks : List Nat} {k b cap : Nat} {real : Prop} {F : Nat → Prop} : (replE E ks k b cap real F).bl k = b := by simp [replE]
theorem replE_fp {E : Env} {ks : List Nat} {k b cap : Nat} {real : Prop} {F : Nat → Prop} : (replE E ks k b cap real F).fp k = F := by simp [replE]
theorem replE_cap {E : Env} {ks : List Nat} {k b cap : Nat} {real : Prop} {F : Nat → Prop} : (replE E ks k b cap real F).cap k = cap := by simp [replE]
theorem replE_real {E : Env} {ks : List Nat} {k b cap : Nat} {real : Prop} {F : Nat → Prop} : (replE E ks k b cap real F).real k = real := by simp [replE]
theorem rep_pt {E : Env} {w : World} {k b o : Nat} (h : E.bl k = b) : Rep E w (.pointer (some ⟨b, o, none⟩)) (.pt k o) := by subst h; exact .pt k o
theorem repl_off {E : Env} {ks : List Nat} {k b cap : Nat} {real : Prop} {F : Nat → Prop} : E.off (replE E ks k b cap real F) (inL (k :: ks)) noK := by
  have h : ∀ j, inL (k :: ks) j = false → j ≠ k ∧ j ∉ ks := fun j hj => by
    simp only [inL, Bool.or_eq_false_iff] at hj
    exact ⟨fun e => by rw [beq_iff.2 e] at hj; exact absurd hj.1 (by simp), fun hm => by rw [inL_iff.2 hm] at hj; exact absurd hj.2 (by simp)⟩
  exact ⟨fun _ h => h, fun j hj => by simp [replE, (h j hj).1], fun j hj _ => by simp [replE, (h j hj).1], fun j hj _ => by simp [replE, (h j hj).1], fun j hj _ => by simp [replE, (h j hj).1, (h j hj).2], rfl⟩
theorem rep_change {cx : Cx} {E : Env} {objs : Nat → Option O} {w w' : World} {K : Nat → Bool} (hi : Inv cx E objs w)
    (hw : ∀ b, b < w.heap.size → (∀ j, K j = true → ¬ E.fp j b) → w'.heap[b]? = w.heap[b]?) : ∀ (x : A) (u : Value), Rep E w u x → x.hit K noK = false → Rep E w' u x := by
  have hreg : ∀ r b, E.reg r b → (∀ k, r = some k → K k = false) → w'.heap[b]? = w.heap[b]? := by
    intro r b hb hn
    cases r with
    | none =>
      obtain ⟨h1, h2⟩ := hi.rd b hb
      refine hw b (Nat.lt_of_lt_of_le h1 hi.size) fun j _ hf => ?_
      rcases (hi.own _ b hf).2 with h | h
      · exact h2 h
      · omega
    | some k => exact hw b (hi.own _ b hb.1).1 fun j hj hf => by have e := hi.disj _ _ b hf hb.1; subst e; rw [hn _ rfl] at hj; cases hj
  intro x u h
  induction h with
  | any v => exact fun _ => .any v
  | v u x h => exact fun _ => .v u x (h.mono (fun _ h => h) fun _ h => h.elim)
  | dat r u x h =>
    intro hh
    refine .dat r u x (h.mono (fun _ h => h) fun b hb => hreg r b hb fun k e => ?_)
    subst e; simp only [A.hit, Bool.or_eq_false_iff] at hh; exact hh.1
  | nil a => exact fun _ => .nil a
  | row k es lo n hr => exact fun _ => .row k es lo n hr
  | rownil k es a hr => exact fun _ => .rownil k es a hr
  | pt k o => exact fun _ => .pt k o
  | pe k es i o hr => exact fun _ => .pe k es i o hr
  | pr r cs b o us hb hc hr =>
    intro hh
    have hn : ∀ k, r = some k → K k = false := fun k e => by subst e; simp only [A.hit, Bool.or_eq_false_iff] at hh; exact hh.1
    exact .pr r cs b o us hb (fun j hj => (cell_same (hreg r b hb hn) _).trans (hc j hj)) fun j hj => (hr j hj).mono (fun _ h => h) fun b hb => hreg r b hb hn
  | prv cs b o us hb hc hr ih => exact fun hh => .prv cs b o us hb (fun j hj => (cell_same (hreg none b hb (fun k e => by cases e)) _).trans (hc j hj)) fun j hj => ih j hj (hitL_get hh j hj)
  | clo f caps vs hs hr ih => exact fun hh => .clo f caps vs hs fun j hj => ih j hj (hitL_get hh j hj)
  | nilf => exact fun _ => .nilf
  | yld l => exact fun _ => .yld l
  | nilp => exact fun _ => .nilp
  | st cs vs hs hr ih => exact fun hh => .st cs vs hs fun j hj => ih j hj (hitL_get hh j hj)
  | tup cs vs hs hr ih => exact fun hh => .tup cs vs hs fun j hj => ih j hj (hitL_get hh j hj)
  | when g a u h1 h2 ih => exact fun hh => .when g a u (fun hg => ih hg hh) h2
  | tok i j => exact fun _ => .tok i j
theorem repl_inv {cx : Cx} {E : Env} {st : State} {w w' : World} {ks : List Nat} {k b cap : Nat} {real : Prop} {F : Nat → Prop} {o : O} (hi : Inv cx E st.objs w) (hvk : cx.vk k = false)
    (hw : ∀ c, c < w.heap.size → (∀ j, j ∈ ks → ¬ E.fp j c) → w'.heap[c]? = w.heap[c]?) (hsz : w.heap.size ≤ w'.heap.size) (hos : w'.os = w.os) (htp : w'.tape = w.tape) (hout : w'.output = w.output)
    (hF : ∀ c, F c → (∃ j ∈ ks, E.fp j c) ∨ (w.heap.size ≤ c)) (hF2 : ∀ c, F c → c < w'.heap.size)
    (ho : ObjRep (replE E ks k b cap real F) w' k o) :
    Inv cx (replE E ks k b cap real F) (st.repl ks k o).objs w' ∧ ∀ u x, Rep E w u x → Rep (replE E ks k b cap real F) w' u (x.kill (inL (k :: ks)) noK) := by
  have hw' : ∀ c, c < w.heap.size → (∀ j, inL (k :: ks) j = true → ¬ E.fp j c) → w'.heap[c]? = w.heap[c]? := fun c hc h => hw c hc fun j hj => h j (by simp [inL, inL_iff.2 hj])
  have hrep : ∀ u x, Rep E w u x → Rep (replE E ks k b cap real F) w' u (x.kill (inL (k :: ks)) noK) := by
    intro u x h
    rw [A.kill_eq]
    cases hh : x.hit (inL (k :: ks)) noK with
    | true => exact .any u
    | false => exact Rep.off (rep_change hi hw' x u h hh) repl_off hh
  have hfp : ∀ j, j ≠ k → j ∉ ks → (replE E ks k b cap real F).fp j = E.fp j := fun j h1 h2 => by simp [replE, h1, h2]
  have cls : ∀ j c, (replE E ks k b cap real F).fp j c → (j = k ∧ F c) ∨ (j ≠ k ∧ j ∉ ks ∧ E.fp j c) := by
    intro j c h
    by_cases h1 : j = k
    · subst h1; simp [replE] at h; exact .inl ⟨rfl, h⟩
    · by_cases h2 : j ∈ ks
      · simp [replE, h1, h2] at h
      · rw [hfp j h1 h2] at h; exact .inr ⟨h1, h2, h⟩
  refine ⟨⟨fun j oo h => ?_, fun j h c hc => ?_, fun j j' c h h' => ?_, fun j c h => ?_, hi.rd, fun c hc hn => ?_, Nat.le_trans hi.size hsz, hos.trans hi.os, htp.trans hi.tape, hout.trans hi.output, hi.R0, hi.tk0, fun j hj => ?_, hi.nd, fun c hc => ?_⟩, hrep⟩
  · simp only [State.repl] at h
    cases hb : Nat.beq j k with
    | true =>
      rw [hb] at h; simp at h; subst h
      rw [beq_iff.1 hb]; exact ho
    | false =>
      have hjk : j ≠ k := fun e => by rw [beq_iff.2 e] at hb; cases hb
      rw [hb, cond_false] at h
      cases hk : inL ks j with
      | true => rw [hk] at h; simp at h
      | false =>
        rw [hk, cond_false] at h
        obtain ⟨o', h3, rfl⟩ := Option.map_eq_some_iff.1 h
        have hjks : j ∉ ks := fun hm => by rw [inL_iff.2 hm] at hk; cases hk
        have hob := hi.obj _ _ h3
        have hf2 := hfp j hjk hjks
        have hbl : (replE E ks k b cap real F).bl j = E.bl j := by simp [replE, hjk]
        have hrl : (replE E ks k b cap real F).real j = E.real j := by simp [replE, hjk]
        have hcp : (replE E ks k b cap real F).cap j = E.cap j := by simp [replE, hjk]
        have hfk : ∀ c, E.fp j c → w'.heap[c]? = w.heap[c]? := fun c hc => hw c (hi.own _ c hc).1 fun i hki hf => by have e := hi.disj _ _ c hf hc; subst e; exact hjks hki
        cases hob with
        | var cs c ty hh hs hff hrr =>
          refine .var _ c ty (by rw [hbl]; exact (hfk _ hff).trans hh) (by simpa using hs) (by rw [hf2, hbl]; exact hff) fun i hi' => ?_
          simp only [List.length_map] at hi'
          simp only [List.getElem_map]
          exact hrep _ _ (hrr i hi')
        | rownil es hr => exact .rownil es (by rw [hrl]; exact hr)
        | row es xs hreal hown => exact .row es xs (by rw [hrl]; exact hreal) (by rw [hf2, hbl, hcp]; exact hown.mono _ (fun _ h => h) hfk)
        | lp l r sl hb hff hh hrr =>
          refine .lp l r _ (by rw [hbl]; exact hb) (by rw [hf2]; exact hff) ((hfk _ hff).trans hh) fun t => ?_
          rw [slotL_map (f := A.kill _ _) rfl]; exact hrep _ _ (hrr t)
  · simp only [State.repl] at h
    cases hb : Nat.beq j k with
    | true => rw [hb] at h; simp at h
    | false =>
      have hjk : j ≠ k := fun e => by rw [beq_iff.2 e] at hb; cases hb
      rcases cls j c hc with ⟨e, _⟩ | ⟨_, h2, h3⟩
      · exact hjk e
      · have hk : inL ks j = false := by cases hk : inL ks j with | false => rfl | true => exact absurd (inL_iff.1 hk) h2
        rw [hb, cond_false, hk, cond_false, Option.map_eq_none_iff] at h
        exact hi.dead j h c h3
  · rcases cls j c h with ⟨rfl, hf⟩ | ⟨h1, h2, hf⟩ <;> rcases cls j' c h' with ⟨rfl, hf'⟩ | ⟨h1', h2', hf'⟩
    · rfl
    · rcases hF c hf with ⟨i, hi1, hi2⟩ | hge
      · have e := hi.disj _ _ c hi2 hf'; subst e; exact absurd hi1 h2'
      · exact absurd (hi.own _ c hf').1 (Nat.not_lt.2 hge)
    · rcases hF c hf' with ⟨i, hi1, hi2⟩ | hge
      · have e := hi.disj _ _ c hi2 hf; subst e; exact absurd hi1 h2
      · exact absurd (hi.own _ c hf).1 (Nat.not_lt.2 hge)
    · exact hi.disj _ _ c hf hf'
  · rcases cls j c h with ⟨rfl, hf⟩ | ⟨h1, h2, hf⟩
    · refine ⟨hF2 c hf, ?_⟩
      rcases hF c hf with ⟨i, hi1, hi2⟩ | hge
      · exact (hi.own _ c hi2).2
      · exact .inr (Nat.le_trans hi.size hge)
    · exact ⟨Nat.lt_of_lt_of_le (hi.own j c hf).1 hsz, (hi.own j c hf).2⟩
  · refine (hw c (Nat.lt_of_lt_of_le hc hi.size) fun i hk hf => ?_).trans (hi.frame c hc hn)
    rcases (hi.own _ c hf).2 with h | h
    · exact hn h
    · omega
  · have hjk : j ≠ k := fun e => by subst e; rw [hvk] at hj; cases hj
    show (if j = k then b else E.bl j) = _
    rw [if_neg hjk]; exact hi.bl0 j hj
  · obtain ⟨m1, m2, m3, m4⟩ := hi.mks c hc
    refine ⟨fun j h => ?_, m2, Nat.lt_of_lt_of_le m3 hsz, (hw c m3 fun j _ hf => m1 _ hf).trans m4⟩
    rcases cls j c h with ⟨rfl, hf⟩ | ⟨h1, h2, hf⟩
    · rcases hF c hf with ⟨i, hi1, hi2⟩ | hge
      · exact m1 _ hi2
      · omega
    · exact m1 _ hf
theorem repl_sim {cx : Cx} {rs : List Nat} {E : Env} {st : State} {w w' : World} {ks : List Nat} {k b cap d : Nat} {real : Prop} {F : Nat → Prop} {o : O} {a : Act} {u : Value} {x : A} (hdN : d < cx.N) (h0 : a.defers = marks rs) (h1 : a.tmps.size = cx.N)
    (hi : Inv (cx.at rs) E st.objs w) (hr : ∀ t, Rep E w (a.tmps.getD t undef) (st.slots t)) (hvk : cx.vk k = false)
    (hw : ∀ c, c < w.heap.size → (∀ j, j ∈ ks → ¬ E.fp j c) → w'.heap[c]? = w.heap[c]?) (hsz : w.heap.size ≤ w'.heap.size) (hos : w'.os = w.os) (htp : w'.tape = w.tape) (hout : w'.output = w.output)
    (hF : ∀ c, F c → (∃ j ∈ ks, E.fp j c) ∨ (w.heap.size ≤ c)) (hF2 : ∀ c, F c → c < w'.heap.size)
    (ho : ObjRep (replE E ks k b cap real F) w' k o) (hx : Rep (replE E ks k b cap real F) w' u x) : Sim cx ((st.repl ks k o).put d x) (a.put (some d) u) w' := by
  obtain ⟨hi', hrep⟩ := repl_inv (o := o) hi hvk hw hsz hos htp hout hF hF2 ho
  refine ⟨rs, h0, by simp [Act.put, h1], _, hi', fun t => ?_⟩
  simp only [Act.put, getD_put (by rw [h1]; exact hdN), State.put]
  by_cases ht : t = d
  · subst ht; simp; exact hx
  · rw [if_neg ht]
    have : Nat.beq t d = false := by cases hb : Nat.beq t d with | false => rfl | true => exact absurd (Nat.eq_of_beq_eq_true hb) ht
    simp only [this, cond_false]
    exact hrep _ _ (hr t)
theorem heap_alloc_lt (w : World) (o : Obj) {c : Nat} (h : c < w.heap.size) : (w.alloc o).heap[c]? = w.heap[c]? := by
  show (w.heap.push o)[c]? = _
  rw [Array.getElem?_push, if_neg (by omega)]
theorem heap_alloc_at (w : World) (o : Obj) : (w.alloc o).heap[w.heap.size]? = some o := by
  show (w.heap.push o)[w.heap.size]? = _
  rw [Array.getElem?_push, if_pos rfl]
theorem getD_list (l : List Value) (j : Nat) : l.toArray.getD j undef = l.getD j undef := by simp [Array.getD_eq_getD_getElem?, List.getD_eq_getElem?_getD]
def A.cells : A → List A
  | .st cs => cs
  | .v (.agg ds) => ds.map .v
  | .dat r (.agg ds) => ds.map (ofD r)
  | a => [a]
theorem rep_cells {E : Env} {w : World} {u : Value} {x : A} (h : Rep E w u x) (hn : ∀ g a, x ≠ .when g a) (ha : x ≠ .any) (ht : ∀ i j, x ≠ .tok i j) :
    u.cells.size = x.cells.length ∧ ∀ (j : Nat) (hj : j < x.cells.length), Rep E w (u.cells.getD j undef) x.cells[j] := by
  have one : ∀ (u : Value) (x : A), Rep E w u x → u.cells = #[u] → x.cells = [x] → u.cells.size = x.cells.length ∧ ∀ (j : Nat) (hj : j < x.cells.length), Rep E w (u.cells.getD j undef) x.cells[j] := by
    intro u x h e1 e2
    refine ⟨by simp [e1, e2], fun j hj => ?_⟩
    simp [e2] at hj; subst hj
    simp [e1, e2]; exact h
  cases h with
  | any v => exact absurd rfl ha
  | v u x h =>
    cases h with
    | int k n => exact one _ _ (.v _ _ (.int _ _)) rfl rfl
    | bool b => exact one _ _ (.v _ _ (.bool _)) rfl rfl
    | str s => exact one _ _ (.v _ _ (.str _)) rfl rfl
    | nil a cap es => exact one _ _ (.v _ _ (.nil _ _ _)) rfl rfl
    | hole u h => exact one _ _ (.v _ _ (.hole _ h)) h rfl
    | sl b o cap es xs us hb => exact hb.elim
    | agg vs cs hs hr =>
      refine ⟨by simpa [Value.cells, A.cells] using hs, fun j hj => ?_⟩
      simp only [A.cells, List.length_map] at hj
      simp only [A.cells, List.getElem_map, Value.cells]
      exact .v _ _ (hr j hj)
  | dat r u x h =>
    cases h with
    | int k n => exact one _ _ (.dat _ _ _ (.int _ _)) rfl rfl
    | bool b => exact one _ _ (.dat _ _ _ (.bool _)) rfl rfl
    | str s => exact one _ _ (.dat _ _ _ (.str _)) rfl rfl
    | nil a cap es => exact one _ _ (.dat _ _ _ (.nil _ _ _)) rfl rfl
    | hole u h => exact one _ _ (.dat _ _ _ (.hole _ h)) h rfl
    | sl b o cap es xs us hb hcap hes hc hr => exact one _ _ (.dat _ _ _ (.sl b o cap es xs us hb hcap hes hc hr)) rfl rfl
    | agg vs cs hs hr =>
      refine ⟨by simpa [Value.cells, A.cells] using hs, fun j hj => ?_⟩
      simp only [A.cells, List.length_map] at hj
      simp only [A.cells, List.getElem_map, Value.cells]
      exact ofD_rep (hr j hj)
  | nil a => exact one _ _ (.nil a) rfl rfl
  | row k es lo n hr => exact one _ _ (.row k es lo n hr) rfl rfl
  | rownil k es a hr => exact one _ _ (.rownil k es a hr) rfl rfl
  | pt k o => exact one _ _ (.pt k o) rfl rfl
  | pe k es i o hr => exact one _ _ (.pe k es i o hr) rfl rfl
  | pr r cs b o us hb hc hr => exact one _ _ (.pr r cs b o us hb hc hr) rfl rfl
  | prv cs b o us hb hc hr => exact one _ _ (.prv cs b o us hb hc hr) rfl rfl
  | clo f caps vs hs hr => exact one _ _ (.clo f caps vs hs hr) rfl rfl
  | nilf => exact one _ _ .nilf rfl rfl
  | yld l => exact one _ _ (.yld l) rfl rfl
  | nilp => exact one _ _ .nilp rfl rfl
  | st cs vs hs hr => exact ⟨hs, hr⟩
  | tup cs vs hs hr => exact one _ _ (.tup cs vs hs hr) rfl rfl
  | when g a => exact absurd rfl (hn g a)
  | tok i j => exact absurd rfl (ht i j)
def A.solid : A → Bool
  | .when _ _ | .any | .tok _ _ => false
  | _ => true
theorem rep_solid {E : Env} {w : World} {u : Value} {x : A} (h : Rep E w u x) (hs : x.solid = true) :
    u.cells.size = x.cells.length ∧ ∀ (j : Nat) (hj : j < x.cells.length), Rep E w (u.cells.getD j undef) x.cells[j] :=
  rep_cells h (fun g a e => by subst e; cases hs) (fun e => by subst e; cases hs) (fun i j e => by subst e; cases hs)
theorem kill_get {K L : Nat → Bool} {cs : List A} {j : Nat} (hj : j < (cs.map (A.kill K L)).length) : (cs.map (A.kill K L))[j] = (cs[j]'(by simpa using hj)).kill K L := by simp
def zeroA : Value → List A
  | .agg cs => cs.toList.map constA
  | v => [constA v]
theorem zeroA_rep (E : Env) (w : World) (v : Value) : v.cells.size = (zeroA v).length ∧ ∀ (j : Nat) (hj : j < (zeroA v).length), Rep E w (v.cells.getD j undef) (zeroA v)[j] := by
  have one : ∀ v : Value, v.cells = #[v] → zeroA v = [constA v] → v.cells.size = (zeroA v).length ∧ ∀ (j : Nat) (hj : j < (zeroA v).length), Rep E w (v.cells.getD j undef) (zeroA v)[j] := by
    intro v e1 e2
    refine ⟨by simp [e1, e2], fun j hj => ?_⟩
    simp [e2] at hj; subst hj
    simp [e1, e2]; exact constA_rep E w v
  cases v with
  | agg cs =>
    refine ⟨by simp [Value.cells, zeroA], fun j hj => ?_⟩
    simp [zeroA] at hj
    simp [zeroA, Value.cells, Array.getElem?_eq_getElem hj]
    exact constA_rep E w _
  | _ => exact one _ rfl rfl
theorem run_zeroValue' {P : Program} {t : TypeId} {z : Value} (h : (P.info? t).bind (·.zero) = some z) (w : World) : (zeroValue t).run P w = .ok z w := by
  obtain ⟨i, hi, hz⟩ := Option.bind_eq_some_iff.1 h
  simp [zeroValue, typeInfo, hi, hz]
def OpC (cx : Cx) (st : State) (g : Bool) (o : Oper) (ks : List Nat) (k : Nat) (ob : O) (r : A) : Prop :=
  g = true → ∀ (rs : List Nat) (E : Env) (a : Act) (w : World) (objs' : Nat → Option O), Inv (cx.at rs) E objs' w → Holds E w st.objs → (∀ t, Rep E w (a.tmps.getD t undef) (st.slots t)) →
    ∃ (u : Value) (w' : World) (b cap : Nat) (real : Prop) (F : Nat → Prop), (execOp a.eval o).run cx.P w = .ok (.value u) w' ∧ (∀ c, c < w.heap.size → (∀ j, j ∈ ks → ¬ E.fp j c) → w'.heap[c]? = w.heap[c]?) ∧
      w.heap.size ≤ w'.heap.size ∧ w'.os = w.os ∧ w'.tape = w.tape ∧ w'.output = w.output ∧ (∀ c, F c → (∃ j ∈ ks, E.fp j c) ∨ (w.heap.size ≤ c)) ∧ (∀ c, F c → c < w'.heap.size) ∧
      ObjRep (replE E ks k b cap real F) w' k ob ∧ Rep (replE E ks k b cap real F) w' u r
section
variable {cx : Cx} {Q : Exit → State → Prop} {st : State} {ops : Array Oper} {rest : List Oper} {o : Oper} {g : Bool}
theorem al_opc {d k : Nat} {ks : List Nat} {ob : O} {r : A} (hg : o.guard = none) (hd : o.dst = some d) (hdN : Nat.blt d cx.N = true) (hvk : cx.vk k = false) (hop : OpC cx st true o ks k ob r)
    (h : al cx ops Q rest ((st.repl ks k ob).put d r)) : al cx ops Q (o :: rest) st := by
  intro a w hsim
  refine wpListIn_plain hg fun K hK => ?_
  obtain ⟨rs, h0, h1, E, hi, hr⟩ := hsim
  obtain ⟨u, w', b, cap, real, F, hrun, hw, hsz, hos, htp, hout, hF, hF2, ho, hx⟩ := hop rfl rs E a w _ hi hi.obj hr
  refine wp_value hrun (hK _ _ ?_)
  rw [hd]
  exact h _ _ (repl_sim (Nat.blt_eq ▸ hdN) h0 h1 hi hr hvk hw hsz hos htp hout hF hF2 ho hx)
theorem rep_new {cx : Cx} {E : Env} {objs : Nat → Option O} {w : World} {k cap : Nat} {real : Prop} {F : Nat → Prop} {ob : Obj} (hi : Inv cx E objs w) {u : Value} {x : A} (h : Rep E w u x) :
    Rep (replE E [] k w.heap.size cap real F) (w.alloc ob) u (x.kill (inL [k]) noK) := by
  rw [A.kill_eq]
  cases hh : x.hit (inL [k]) noK with
  | true => exact .any _
  | false => exact Rep.off (rep_change hi (K := inL [k]) (fun c hc _ => heap_alloc_lt _ _ hc) _ _ h hh) repl_off hh
theorem opC_box {k : Nat} {X : Operand} {t : TypeId} {ax : A} (ho : o.op = .box t X) (hx : Ev st g X ax) (hs : ax.solid = true) : OpC cx st g o [] k (.var (ax.cells.map (A.kill (inL [k]) noK))) (.pt k 0) := by
  intro hg rs E a w objs' hi _ hr
  obtain ⟨hsz, hcells⟩ := rep_solid (hx hg E w a hr) hs
  have hrun : (execOp a.eval o).run cx.P w = .ok (.value (.pointer (some ⟨w.heap.size, 0, none⟩))) (w.alloc (.cells (a.eval X).cells t (0, 0))) := by
    simp [execOp, ho, Instr.box, newVar, newRow]
  refine ⟨_, _, w.heap.size, 0, False, fun c => c = w.heap.size, hrun, fun c hc _ => heap_alloc_lt _ _ hc, by simp, rfl, rfl, rfl, fun c hc => .inr (by omega), fun c hc => by simp; omega, ?_, rep_pt replE_bl⟩
  refine .var _ _ t (by rw [replE_bl]; exact heap_alloc_at _ _) (by simpa using hsz) (by rw [replE_bl, replE_fp]) fun j hj => ?_
  rw [kill_get hj]
  exact rep_new hi (hcells j (by simpa using hj))
theorem opC_alloc {k : Nat} {t : TypeId} {z : Value} (ho : o.op = .alloc t) (hz : (cx.P.info? t).bind (·.zero) = some z) : OpC cx st g o [] k (.var (zeroA z)) (.pt k 0) := by
  intro hg rs E a w objs' hi _ hr
  have hrun : (execOp a.eval o).run cx.P w = .ok (.value (.pointer (some ⟨w.heap.size, 0, none⟩))) (w.alloc (.cells z.cells t (0, 0))) := by
    simp [execOp, ho, Instr.alloc, run_zeroValue' hz, newVar, newRow]
  refine ⟨_, _, w.heap.size, 0, False, fun c => c = w.heap.size, hrun, fun c hc _ => heap_alloc_lt _ _ hc, by simp, rfl, rfl, rfl, fun c hc => .inr (by omega), fun c hc => by simp; omega, ?_, rep_pt replE_bl⟩
  exact .var _ _ t (by rw [replE_bl]; exact heap_alloc_at _ _) (zeroA_rep E w z).1 (by rw [replE_bl, replE_fp]) (zeroA_rep _ _ z).2
end
end Go.AL
namespace Go.AL
def D.one : D → Bool
  | .agg _ | .hole => false
  | _ => true
def A.one : A → Bool
  | .v d => d.one
  | .dat _ d => d.one
  | .nil | .row .. | .pt .. | .pe .. | .pr .. | .prv _ | .clo .. | .nilf | .nilp | .yld _ => true
  | _ => false
theorem ro_one {R : Nat → Prop} {w : World} {u : Value} {d : D} (h : RO R w u d) (hd : d.one = true) : u.oneCell' = true ∧ u.cells = #[u] := by
  cases h <;> first | exact ⟨rfl, rfl⟩ | (simp [D.one] at hd)
theorem rep_one {E : Env} {w : World} {u : Value} {a : A} (h : Rep E w u a) (ha : a.one = true) : u.oneCell' = true ∧ u.cells = #[u] := by
  cases h with
  | v _ _ h => exact ro_one h ha
  | dat _ _ _ h => exact ro_one h ha
  | any => simp [A.one] at ha
  | st => simp [A.one] at ha
  | tup => simp [A.one] at ha
  | when => simp [A.one] at ha
  | tok => simp [A.one] at ha
  | _ => exact ⟨rfl, rfl⟩
theorem one_cells {a : A} (ha : a.one = true) : a.cells = [a] := by
  cases a with
  | v d => cases d <;> first | rfl | simp [A.one, D.one] at ha
  | dat r d => cases d <;> first | rfl | simp [A.one, D.one] at ha
  | st => simp [A.one] at ha
  | _ => rfl
theorem one_solid {a : A} (ha : a.one = true) : a.solid = true := by
  cases a <;> first | rfl | simp [A.one] at ha
def putC : List A → Nat → List A → List A
  | cs, _, [] => cs
  | cs, o, a :: asx => putC (cs.set o a) (o + 1) asx
theorem putC_length : ∀ (asx : List A) (cs : List A) (o : Nat), (putC cs o asx).length = cs.length
  | [], _, _ => rfl
  | a :: asx, cs, o => by simp [putC, putC_length asx]
theorem putC_get : ∀ (asx : List A) (cs : List A) (o j : Nat), j < cs.length → (putC cs o asx)[j]? = if o ≤ j ∧ j < o + asx.length then asx[j - o]? else cs[j]?
  | [], cs, o, j, _ => by simp [putC]; omega
  | a :: asx, cs, o, j, hj => by
    rw [putC, putC_get asx _ _ _ (by simpa using hj), List.getElem?_set]
    simp only [List.length_cons]
    by_cases h1 : o = j
    · subst h1
      rw [if_neg (by omega), if_pos rfl, if_pos hj, if_pos (by omega)]; simp
    · by_cases h2 : o + 1 ≤ j ∧ j < o + 1 + asx.length
      · rw [if_pos h2, if_pos (by omega), show j - o = (j - (o + 1)) + 1 from by omega]; simp
      · rw [if_neg h2, if_neg h1, if_neg (by omega)]
theorem seg_get (cur us : List Value) (o j : Nat) (hfit : o + us.length ≤ cur.length) :
    ((cur.take o ++ us ++ cur.drop (o + us.length)).toArray).getD j undef = if o ≤ j ∧ j < o + us.length then us.getD (j - o) undef else cur.toArray.getD j undef := by
  simp only [Array.getD_eq_getD_getElem?, List.getElem?_toArray, List.getD_eq_getElem?_getD]
  have hl : (cur.take o).length = o := by simp; omega
  by_cases h1 : j < o
  · rw [if_neg (by omega), List.append_assoc, List.getElem?_append_left (by omega), List.getElem?_take, if_pos h1]
  · by_cases h2 : j < o + us.length
    · rw [if_pos (by omega), List.append_assoc, List.getElem?_append_right (by omega), hl, List.getElem?_append_left (by omega)]
    · rw [if_neg (by omega), List.getElem?_append_right (by simp; omega), List.getElem?_drop]
      congr 2; simp; omega
theorem run_storeVar' {P : Program} {w : World} {t n b o : Nat} {u : Value} {cur : Array Value} {ty : TypeId} (hsz : (P.info? t).map (·.size) = some n) (hn : u.cells.size = n) (hg : w.heap[b]? = some (.cells cur ty (0, 0)))
    (hfit : o + n ≤ cur.size) (h1 : ∀ v ∈ u.cells.toList, v.oneCell' = true) :
    (storeVar t ⟨b, o, none⟩ u).run P w = .ok () (w.setRow b (cur.toList.take o ++ u.cells.toList ++ cur.toList.drop (o + n)).toArray) := by
  have := run_storeCells_at P b o ty u.cells.toList 0 cur w hg (by simp; omega) h1
  subst hn
  simpa [storeVar, run_sizeOf' hsz] using this
theorem run_storeOp {P : Program} {w : World} {o : Oper} {a : Act} {X V : Operand} {t n b oo : Nat} {cur : Array Value} {ty : TypeId} (ho : o.op = .store t X V) (hv : a.eval X = .pointer (some ⟨b, oo, none⟩))
    (hsz : (P.info? t).map (·.size) = some n) (hn : (a.eval V).cells.size = n) (hg : w.heap[b]? = some (.cells cur ty (0, 0)))
    (hfit : oo + n ≤ cur.size) (h1 : ∀ v ∈ (a.eval V).cells.toList, v.oneCell' = true) :
    (execOp a.eval o).run P w = .ok .skip (w.setRow b (cur.toList.take oo ++ (a.eval V).cells.toList ++ cur.toList.drop (oo + n)).toArray) := by
  simp [execOp, ho, hv, Instr.storeAt, Instr.sureAddr, run_storeVar' hsz hn hg hfit h1]
def ones (cs : List A) : Bool := cs.all A.one
theorem rep_cells_one {E : Env} {w : World} {u : Value} {x : A} (h : Rep E w u x) (hs : x.solid = true) (ho : ones x.cells = true) :
    u.cells.size = x.cells.length ∧ (∀ (j : Nat) (hj : j < x.cells.length), Rep E w (u.cells.getD j undef) x.cells[j]) ∧ ∀ v ∈ u.cells.toList, v.oneCell' = true := by
  obtain ⟨h1, h2⟩ := rep_solid h hs
  refine ⟨h1, h2, fun v hv => ?_⟩
  obtain ⟨j, hj, rfl⟩ := List.getElem_of_mem hv
  have hj' : j < x.cells.length := by rw [← h1]; simpa using hj
  have := (rep_one (h2 j hj') (List.all_eq_true.1 ho _ (List.getElem_mem hj'))).1
  simpa [Array.getD_eq_getD_getElem?, show j < u.cells.size by simpa using hj] using this
def State.upd (st : State) (ks : List Nat) (k : Nat) (o : O) : State where
  slots := fun t => (st.slots t).kill (inL ks) noK
  objs := fun j => bif Nat.beq j k then some (O.kill (inL ks) noK o) else bif inL ks j then none else (st.objs j).map (O.kill (inL ks) noK)
open Classical in
noncomputable def growE (E : Env) (k : Nat) (ks : List Nat) : Env :=
  { E with fp := fun j => if j = k then (fun b => E.fp k b ∨ ∃ i ∈ ks, E.fp i b) else if j ∈ ks then fun _ => False else E.fp j }
theorem upd_rep {cx : Cx} {E : Env} {objs : Nat → Option O} {w w' : World} {k : Nat} {ks : List Nat} (hi : Inv cx E objs w) (hkk : k ∉ ks) (hbk : E.fp k (E.bl k))
    (hw : ∀ c, c ≠ E.bl k → w'.heap[c]? = w.heap[c]?) : ∀ (x : A) (u : Value), Rep E w u x → x.hit (inL ks) noK = false → Rep (growE E k ks) w' u x := by
  have hreg : ∀ r b, E.reg r b → (∀ j, r = some j → inL ks j = false) → w'.heap[b]? = w.heap[b]? ∧ (growE E k ks).reg r b := by
    intro r b hb hn
    cases r with
    | none =>
      refine ⟨hw b fun e => ?_, hb⟩
      obtain ⟨h1, h2⟩ := hi.rd b hb
      subst e
      rcases (hi.own _ _ hbk).2 with h | h
      · exact h2 h
      · omega
    | some j =>
      have hj : j ∉ ks := fun hm => by have := hn j rfl; rw [inL_iff.2 hm] at this; cases this
      simp only [Env.reg] at hb ⊢
      refine ⟨hw b fun e => ?_, ?_, hb.2⟩
      · have e2 := hi.disj j k b hb.1 (by rw [e]; exact hbk)
        subst e2; exact hb.2 e
      · by_cases hjk : j = k
        · subst hjk; simp [growE]; exact .inl hb.1
        · simp [growE, hjk, hj]; exact hb.1
  intro x u h
  induction h with
  | any v => exact fun _ => .any v
  | v u x h => exact fun _ => .v u x (h.mono (fun _ h => h) fun _ h => h.elim)
  | dat r u x h =>
    intro hh
    have hn : ∀ j, r = some j → inL ks j = false := fun j e => by subst e; simp only [A.hit, Bool.or_eq_false_iff] at hh; exact hh.1
    exact .dat r u x (h.mono (fun b hb => (hreg r b hb hn).2) fun b hb => (hreg r b hb hn).1)
  | nil a => exact fun _ => .nil a
  | row j es lo n hr => exact fun _ => .row (E := growE E k ks) j es lo n hr
  | rownil j es a hr => exact fun _ => .rownil (E := growE E k ks) j es a hr
  | pt j o => exact fun _ => .pt (E := growE E k ks) j o
  | pe j es i o hr => exact fun _ => .pe (E := growE E k ks) j es i o hr
  | pr r cs b o us hb hc hr =>
    intro hh
    have hn : ∀ j, r = some j → inL ks j = false := fun j e => by subst e; simp only [A.hit, Bool.or_eq_false_iff] at hh; exact hh.1
    exact .pr r cs b o us (hreg r b hb hn).2 (fun j hj => (cell_same (hreg r b hb hn).1 _).trans (hc j hj)) fun j hj => (hr j hj).mono (fun b hb => (hreg r b hb hn).2) fun b hb => (hreg r b hb hn).1
  | prv cs b o us hb hc hr ih => exact fun hh => .prv cs b o us hb (fun j hj => (cell_same (hreg none b hb (fun k e => by cases e)).1 _).trans (hc j hj)) fun j hj => ih j hj (hitL_get hh j hj)
  | clo f caps vs hs hr ih => exact fun hh => .clo f caps vs hs fun j hj => ih j hj (hitL_get hh j hj)
  | nilf => exact fun _ => .nilf
  | yld l => exact fun _ => .yld l
  | nilp => exact fun _ => .nilp
  | st cs vs hs hr ih => exact fun hh => .st cs vs hs fun j hj => ih j hj (hitL_get hh j hj)
  | tup cs vs hs hr ih => exact fun hh => .tup cs vs hs fun j hj => ih j hj (hitL_get hh j hj)
  | when g a u h1 h2 ih => exact fun hh => .when g a u (fun hg => ih hg hh) h2
  | tok i j => exact fun _ => .tok (E := growE E k ks) i j
theorem upd_inv {cx : Cx} {E : Env} {st : State} {w w' : World} {k : Nat} {ks : List Nat} {o : O} (hi : Inv cx E st.objs w) (hkk : k ∉ ks) (hbk : E.fp k (E.bl k))
    (hw : ∀ c, c ≠ E.bl k → w'.heap[c]? = w.heap[c]?) (hsz : w'.heap.size = w.heap.size) (hos : w'.os = w.os) (htp : w'.tape = w.tape) (hout : w'.output = w.output)
    (ho : ObjRep (growE E k ks) w' k (O.kill (inL ks) noK o)) : Inv cx (growE E k ks) (st.upd ks k o).objs w' := by
  have hfp : ∀ j, j ≠ k → j ∉ ks → (growE E k ks).fp j = E.fp j := fun j h1 h2 => by simp [growE, h1, h2]
  have cls : ∀ j c, (growE E k ks).fp j c → (j = k ∧ (E.fp k c ∨ ∃ i ∈ ks, E.fp i c)) ∨ (j ≠ k ∧ j ∉ ks ∧ E.fp j c) := by
    intro j c h
    by_cases h1 : j = k
    · subst h1; simp [growE] at h; exact .inl ⟨rfl, h⟩
    · by_cases h2 : j ∈ ks
      · simp [growE, h1, h2] at h
      · rw [hfp j h1 h2] at h; exact .inr ⟨h1, h2, h⟩
  refine ⟨fun j oo h => ?_, fun j h c hc => ?_, fun j j' c h h' => ?_, fun j c h => ?_, hi.rd, fun c hc hn => ?_, by rw [hsz]; exact hi.size, hos.trans hi.os, htp.trans hi.tape, hout.trans hi.output, hi.R0, hi.tk0, hi.bl0, hi.nd, fun c hc => ?_⟩
  · simp only [State.upd] at h
    cases hb : Nat.beq j k with
    | true =>
      rw [hb] at h; simp at h; subst h
      rw [beq_iff.1 hb]; exact ho
    | false =>
      have hjk : j ≠ k := fun e => by rw [beq_iff.2 e] at hb; cases hb
      rw [hb, cond_false] at h
      cases hk : inL ks j with
      | true => rw [hk] at h; simp at h
      | false =>
        rw [hk, cond_false] at h
        obtain ⟨o', h3, rfl⟩ := Option.map_eq_some_iff.1 h
        have hjks : j ∉ ks := fun hm => by rw [inL_iff.2 hm] at hk; cases hk
        have hob := hi.obj _ _ h3
        have hf2 := hfp j hjk hjks
        have hfk : ∀ c, E.fp j c → w'.heap[c]? = w.heap[c]? := fun c hc => hw c fun e => hjk (hi.disj _ _ c hc (by rw [e]; exact hbk))
        cases hob with
        | var cs c ty hh hs hff hrr =>
          refine .var _ c ty ((hfk _ hff).trans hh) (by simpa using hs) (by rw [hf2]; exact hff) fun i hi' => ?_
          simp only [List.length_map] at hi'
          simp only [List.getElem_map]
          rw [A.kill_eq]
          cases hh : (cs[i]).hit (inL ks) noK with
          | true => exact .any _
          | false => exact upd_rep hi hkk hbk hw _ _ (hrr i hi') hh
        | rownil es hr => exact .rownil (E := growE E k ks) es hr
        | row es xs hreal hown => exact .row (E := growE E k ks) es xs hreal (by rw [hf2]; exact hown.mono _ (fun _ h => h) hfk)
        | lp l r sl hb hff hh hrr =>
          refine .lp (E := growE E k ks) l r _ hb (by rw [hf2]; exact hff) ((hfk _ hff).trans hh) fun t => ?_
          rw [slotL_map (f := A.kill _ _) rfl, A.kill_eq]
          cases hh : (slotL sl t).hit (inL ks) noK with
          | true => exact .any _
          | false => exact upd_rep hi hkk hbk hw _ _ (hrr t) hh
  · simp only [State.upd] at h
    cases hb : Nat.beq j k with
    | true => rw [hb] at h; simp at h
    | false =>
      have hjk : j ≠ k := fun e => by rw [beq_iff.2 e] at hb; cases hb
      rcases cls j c hc with ⟨e, _⟩ | ⟨_, h2, h3⟩
      · exact hjk e
      · have hk : inL ks j = false := by cases hk : inL ks j with | false => rfl | true => exact absurd (inL_iff.1 hk) h2
        rw [hb, cond_false, hk, cond_false, Option.map_eq_none_iff] at h
        exact hi.dead j h c h3
  · rcases cls j c h with ⟨rfl, hf⟩ | ⟨h1, h2, hf⟩ <;> rcases cls j' c h' with ⟨rfl, hf'⟩ | ⟨h1', h2', hf'⟩
    · rfl
    · rcases hf with hf | ⟨i, hi1, hi2⟩
      · exact hi.disj _ _ c hf hf'
      · have e := hi.disj _ _ c hi2 hf'; subst e; exact absurd hi1 h2'
    · rcases hf' with hf' | ⟨i, hi1, hi2⟩
      · exact hi.disj _ _ c hf hf'
      · have e := hi.disj _ _ c hi2 hf; subst e; exact absurd hi1 h2
    · exact hi.disj _ _ c hf hf'
  · rw [hsz]
    rcases cls j c h with ⟨rfl, hf | ⟨i, _, hi2⟩⟩ | ⟨_, _, hf⟩
    · exact hi.own _ c hf
    · exact hi.own _ c hi2
    · exact hi.own _ c hf
  · refine (hw c fun e => ?_).trans (hi.frame c hc hn)
    subst e
    rcases (hi.own _ _ hbk).2 with h | h
    · exact hn h
    · omega
  · obtain ⟨m1, m2, m3, m4⟩ := hi.mks c hc
    refine ⟨fun j h => ?_, m2, by rw [hsz]; exact m3, (hw c fun e => m1 k (by rw [e]; exact hbk)).trans m4⟩
    rcases cls j c h with ⟨rfl, hf | ⟨i, _, hi2⟩⟩ | ⟨_, _, hf⟩
    · exact m1 _ hf
    · exact m1 _ hi2
    · exact m1 _ hf
theorem upd_sim {cx : Cx} {rs : List Nat} {E : Env} {st : State} {a : Act} {w w' : World} {k : Nat} {ks : List Nat} {o : O} {dst : Option Tmp} (hd : dst = none) (h0 : a.defers = marks rs) (h1 : a.tmps.size = cx.N)
    (hi : Inv (cx.at rs) E st.objs w) (hr : ∀ t, Rep E w (a.tmps.getD t undef) (st.slots t)) (hkk : k ∉ ks) (hbk : E.fp k (E.bl k))
    (hw : ∀ c, c ≠ E.bl k → w'.heap[c]? = w.heap[c]?) (hsz : w'.heap.size = w.heap.size) (hos : w'.os = w.os) (htp : w'.tape = w.tape) (hout : w'.output = w.output)
    (ho : ObjRep (growE E k ks) w' k (O.kill (inL ks) noK o)) (v : Value) : Sim cx (st.upd ks k o) (a.put dst v) w' := by
  subst hd
  refine ⟨rs, h0, h1, growE E k ks, upd_inv hi hkk hbk hw hsz hos htp hout ho, fun t => ?_⟩
  show Rep _ w' (a.tmps.getD t undef) ((st.slots t).kill (inL ks) noK)
  rw [A.kill_eq]
  cases hh : (st.slots t).hit (inL ks) noK with
  | true => exact .any _
  | false => exact upd_rep hi hkk hbk hw _ _ (hr t) hh
mutual
theorem hit_nil : ∀ x : A, x.hit (inL []) noK = false
  | .any | .v _ | .nil | .nilf | .nilp | .yld _ | .tok _ _ => rfl
  | .dat none _ | .pr none _ => rfl
  | .dat (some _) _ | .pr (some _) _ | .row .. | .pe .. | .pt .. => rfl
  | .prv cs | .clo _ cs | .st cs | .tup cs => hitL_nil cs
  | .when _ a => hit_nil a
theorem hitL_nil : ∀ l : List A, hitL (inL []) noK l = false
  | [] => rfl
  | a :: l => by simp [hitL, hit_nil a, hitL_nil l]
end
theorem kill_nil (x : A) : x.kill (inL []) noK = x := by rw [A.kill_eq, hit_nil]; rfl
theorem okill_nil (o : O) : o.kill (inL []) noK = o := by
  cases o with
  | var cs =>
    simp only [O.kill]
    congr 1
    conv => rhs; rw [← List.map_id cs]
    exact List.map_congr_left fun a _ => kill_nil a
  | row => rfl
  | lp l r sl =>
    simp only [O.kill]
    congr 1
    conv => rhs; rw [← List.map_id sl]
    exact List.map_congr_left fun p _ => by rw [kill_nil]; rfl
theorem upd_nil (st : State) (k : Nat) (o : O) : st.upd [] k o = st.set k o := by
  simp only [State.upd, State.set, okill_nil, inL]
  congr 1
  · funext t; exact kill_nil _
  · funext j
    cases Nat.beq j k with
    | true => exact congrArg some (okill_nil o)
    | false =>
      simp only [cond_false]
      cases st.objs j with
      | none => rfl
      | some o => exact congrArg some (okill_nil o)
section
variable {cx : Cx} {Q : Exit → State → Prop} {st : State} {ops : Array Oper} {rest : List Oper} {o : Oper} {g : Bool}
theorem al_store_pt {X V : Operand} {t n k oo : Nat} {cs cs' : List A} {ax : A} (hg : o.guard = none) (ho : o.op = .store t X V) (hd : o.dst = none) (hsz : (cx.P.info? t).map (·.size) = some n)
    (hX : Ev st true X (.pt k oo)) (hV : Ev st true V ax) (hk : st.objs k = some (.var cs)) (hs : ax.solid = true) (h1 : ones ax.cells = true) (hn : ax.cells.length = n) (hfit : Nat.ble (oo + n) cs.length = true)
    (hc : putC cs oo ax.cells = cs') (h : al cx ops Q rest (st.set k (.var cs'))) : al cx ops Q (o :: rest) st := by
  intro a w hsim
  refine wpListIn_plain hg fun K hK => ?_
  obtain ⟨rs, h0, h2, E, hi, hr⟩ := hsim
  obtain ⟨hus, hur, huo⟩ := rep_cells_one (hV rfl E w a hr) hs h1
  have hp := hX rfl E w a hr
  generalize hv : a.eval X = v at hp
  cases hp
  have hob := hi.obj _ _ hk
  have hfit' : oo + n ≤ cs.length := Nat.le_of_ble_eq_true hfit
  cases hob with
  | var _ c ty hh hcs hf hrr =>
    refine wp_unit (run_storeOp ho hv hsz (hus.trans hn) hh (by omega) huo) (hK _ _ ?_)
    subst hc
    rw [← upd_nil] at h
    refine h _ _ (upd_sim hd h0 h2 hi hr (by simp) hf (fun c' hc' => setRow_other _ _ _ _ hc') (by simp) rfl rfl rfl ?_ _)
    rw [okill_nil]
    have hE : ∀ (x : A) (u : Value), Rep E w u x → Rep (growE E k []) (w.setRow (E.bl k) (c.toList.take oo ++ (a.eval V).cells.toList ++ c.toList.drop (oo + n)).toArray) u x := fun x u hx =>
      upd_rep hi (by simp) hf (fun c' hc' => setRow_other _ _ _ _ hc') x u hx (hit_nil x)
    refine .var _ _ ty (setRow_heap _ _ _ _ _ _ hh) (by simp [putC_length]; omega) (by show (growE E k []).fp k (E.bl k); simp [growE]; exact hf) fun j hj => ?_
    rw [putC_length] at hj
    have hn' : (a.eval V).cells.toList.length = n := by simp; omega
    have hget := seg_get c.toList (a.eval V).cells.toList oo j (by rw [hn']; simp; omega)
    rw [hn'] at hget
    rw [hget]
    have hput := putC_get ax.cells cs oo j hj
    rw [List.getElem?_eq_getElem (by rw [putC_length]; exact hj), hn] at hput
    by_cases hin : oo ≤ j ∧ j < oo + n
    · rw [if_pos hin] at hput ⊢
      have hja : j - oo < ax.cells.length := by omega
      rw [List.getElem?_eq_getElem hja, Option.some.injEq] at hput
      rw [hput]
      have := hE _ _ (hur _ hja)
      simpa [Array.getD_eq_getD_getElem?, List.getD_eq_getElem?_getD] using this
    · rw [if_neg hin] at hput ⊢
      rw [List.getElem?_eq_getElem hj, Option.some.injEq] at hput
      rw [hput]
      have := hE _ _ (hrr j hj)
      simpa using this
end
end Go.AL
namespace Go.AL
inductive MvC (objs : Nat → Option O) : A → D → List Nat → Prop
  | v (d : D) (h : d.flat1 = true) : MvC objs (.v d) d []
  | dat (r : Option Nat) (d : D) (h : d.flat1 = true) : MvC objs (.dat r d) d []
  | nil (es : Nat) : MvC objs .nil (.sl es []) []
  | row (k es n : Nat) (xs : List D) (hk : objs k = some (.row es xs)) (hn : n = xs.length) : MvC objs (.row k es 0 n) (.sl es xs) [k]
inductive MvL (objs : Nat → Option O) : List A → List D → List (List Nat) → Prop
  | nil : MvL objs [] [] []
  | cons {a : A} {d : D} {ks : List Nat} {asx : List A} {ds : List D} {kss : List (List Nat)} (h : MvC objs a d ks) (t : MvL objs asx ds kss) : MvL objs (a :: asx) (d :: ds) (ks :: kss)
theorem MvL.get {objs : Nat → Option O} {asx : List A} {ds : List D} {kss : List (List Nat)} (h : MvL objs asx ds kss) : asx.length = ds.length ∧ ∀ (j : Nat) (h1 : j < asx.length) (h2 : j < ds.length), MvC objs asx[j] ds[j] (kss.getD j []) := by
  induction h with
  | nil => exact ⟨rfl, fun j h1 => absurd h1 (Nat.not_lt_zero _)⟩
  | cons h t ih =>
    refine ⟨by simp [ih.1], fun j h1 h2 => ?_⟩
    cases j with
    | zero => simpa using h
    | succ j => simpa using ih.2 j (by simpa using h1) (by simpa using h2)
theorem MvL.append {objs : Nat → Option O} {asx as' : List A} {ds ds' : List D} {kss kss' : List (List Nat)} (h : MvL objs asx ds kss) (h' : MvL objs as' ds' kss') : MvL objs (asx ++ as') (ds ++ ds') (kss ++ kss') := by
  induction h with
  | nil => exact h'
  | cons h t ih => exact .cons h ih
def ndup : List Nat → Bool
  | [] => true
  | a :: l => !(inL l a) && ndup l
theorem ndup_append {l m : List Nat} (h : ndup (l ++ m) = true) : ndup l = true ∧ ndup m = true ∧ ∀ i ∈ l, i ∉ m := by
  induction l with
  | nil => exact ⟨rfl, h, fun _ h => absurd h (by simp)⟩
  | cons a l ih =>
    simp only [List.cons_append, ndup, Bool.and_eq_true, Bool.not_eq_true'] at h ⊢
    obtain ⟨h1, h2, h3⟩ := ih h.2
    have ha : a ∉ l ++ m := fun hm => by rw [inL_iff.2 hm] at h; cases h.1
    refine ⟨⟨?_, h1⟩, h2, fun i hi => ?_⟩
    · cases hx : inL l a with
      | false => rfl
      | true => exact absurd (List.mem_append_left _ (inL_iff.1 hx)) ha
    · rcases List.mem_cons.1 hi with rfl | hi
      · exact fun hm => ha (List.mem_append_right _ hm)
      · exact h3 i hi
theorem ndup_apart {kss : List (List Nat)} (h : ndup kss.flatten = true) : ∀ (j j' i : Nat), i ∈ kss.getD j [] → i ∈ kss.getD j' [] → j = j' := by
  induction kss with
  | nil => intro j j' i h1; simp at h1
  | cons ks kss ih =>
    obtain ⟨h1, h2, h3⟩ := ndup_append h
    have mem : ∀ n i, i ∈ kss.getD n [] → i ∈ kss.flatten := fun n i hi => by
      rw [List.getD_eq_getElem?_getD] at hi
      cases hn : kss[n]? with
      | none => rw [hn] at hi; simp at hi
      | some l => rw [hn] at hi; exact List.mem_flatten.2 ⟨l, List.mem_of_getElem? hn, hi⟩
    intro j j' i hj hj'
    cases j with
    | zero =>
      cases j' with
      | zero => rfl
      | succ j' => exact absurd (mem _ _ (by simpa using hj')) (h3 i (by simpa using hj))
    | succ j =>
      cases j' with
      | zero => exact absurd (mem _ _ (by simpa using hj)) (h3 i (by simpa using hj'))
      | succ j' => exact congrArg Nat.succ (ih h2 j j' i (by simpa using hj) (by simpa using hj'))
theorem flat1_own {R : Nat → Prop} {w : World} {F : Nat → Prop} {u : Value} {d : D} (h : RO R w u d) (hd : d.flat1 = true) : Own w F u d := by
  cases h <;> first | (simp [D.flat1] at hd; done) | constructor
theorem rep_row0 {E : Env} {w : World} {u : Value} {k es n : Nat} (h : Rep E w u (.row k es 0 n)) : (E.real k ∧ u = .slice (some ⟨E.bl k, 0, none⟩) n (E.cap k)) ∨ (¬ E.real k ∧ (∃ ad, u = .slice ad 0 0) ∧ n = 0) := by
  cases h with
  | row _ _ _ _ hr => left; refine ⟨hr, ?_⟩; simp
  | rownil _ _ ad hr => exact .inr ⟨hr, ⟨ad, rfl⟩, rfl⟩
theorem row0_rep {E : Env} {w : World} {k es n b cap : Nat} (hr : E.real k) (hb : E.bl k = b) (hc : E.cap k = cap) : Rep E w (.slice (some ⟨b, 0, none⟩) n cap) (.row k es 0 n) := by
  subst hb hc
  have := Rep.row (E := E) (w := w) k es 0 n hr
  simpa using this
theorem mvc_own {E : Env} {objs : Nat → Option O} {w : World} {u : Value} {a : A} {d : D} {ks : List Nat} (hi : Holds E w objs) (h : Rep E w u a) (hm : MvC objs a d ks) :
    Own w (fun b => ∃ i ∈ ks, E.fp i b) u d ∧ u.oneCell' = true := by
  cases hm with
  | v _ hf => cases h with | v _ _ h => exact ⟨flat1_own h hf, (ro_one h (by cases d <;> first | rfl | cases hf)).1⟩
  | dat r _ hf => cases h with | dat _ _ _ h => exact ⟨flat1_own h hf, (ro_one h (by cases d <;> first | rfl | cases hf)).1⟩
  | nil es => cases h; exact ⟨.nil _ _ _, rfl⟩
  | row k es n xs hk hn =>
    have ho := hi _ _ hk
    rcases rep_row0 h with ⟨hr, rfl⟩ | ⟨hr, ⟨ad, rfl⟩, rfl⟩
    · cases ho with
      | rownil _ hr' => exact absurd hr hr'
      | row _ _ _ hown => exact ⟨by rw [hn]; exact hown.mono _ (fun b hb => ⟨k, by simp, hb⟩) (fun _ _ => rfl), rfl⟩
    · cases ho with
      | rownil _ _ => exact ⟨.nil _ _ _, rfl⟩
      | row _ _ hr' _ => exact absurd hr' hr
theorem mvl_own {E : Env} {objs : Nat → Option O} {w : World} {asx : List A} {ds : List D} {kss : List (List Nat)} {us : Nat → Value} (hi : Holds E w objs) (hdj : ∀ k k' b, E.fp k b → E.fp k' b → k = k') (hm : MvL objs asx ds kss) (hnd : ndup kss.flatten = true)
    (hu : ∀ (j : Nat) (hj : j < asx.length), Rep E w (us j) asx[j]) :
    ∃ G : Nat → Nat → Prop, (∀ (j : Nat) (hj : j < ds.length), Own w (G j) (us j) ds[j] ∧ (us j).oneCell' = true) ∧ (∀ j b, G j b → ∃ i ∈ kss.flatten, E.fp i b) ∧ (∀ j j' b, G j b → G j' b → j = j') := by
  obtain ⟨hl, hg⟩ := hm.get
  refine ⟨fun j b => ∃ i ∈ kss.getD j [], E.fp i b, fun j hj => mvc_own hi (hu j (by omega)) (hg j (by omega) hj), fun j b ⟨i, h1, h2⟩ => ⟨i, ?_, h2⟩, fun j j' b ⟨i, h1, h2⟩ ⟨i', h1', h2'⟩ => ?_⟩
  · rw [List.getD_eq_getElem?_getD] at h1
    cases hn : kss[j]? with
    | none => rw [hn] at h1; simp at h1
    | some l => rw [hn] at h1; exact List.mem_flatten.2 ⟨l, List.mem_of_getElem? hn, h1⟩
  · have e := hdj _ _ b h2 h2'
    subst e
    exact ndup_apart hnd j j' i h1 h1'
theorem fold_set_get (off : Nat) : ∀ (l : List Value) (i0 : Nat) (cells : Array Value), off + i0 + l.length ≤ cells.size →
    ((l.zipIdx i0).foldl (fun cs (p : Value × Nat) => cs.setIfInBounds (off + p.2) p.1) cells).size = cells.size ∧
    ∀ t, ((l.zipIdx i0).foldl (fun cs (p : Value × Nat) => cs.setIfInBounds (off + p.2) p.1) cells).getD t undef = if off + i0 ≤ t ∧ t < off + i0 + l.length then l.getD (t - (off + i0)) undef else cells.getD t undef
  | [], i0, cells, _ => ⟨rfl, fun t => by simp; omega⟩
  | v :: l, i0, cells, h => by
    simp only [List.length_cons] at h
    obtain ⟨h1, h2⟩ := fold_set_get off l (i0 + 1) (cells.setIfInBounds (off + i0) v) (by simp; omega)
    simp only [List.zipIdx_cons, List.foldl_cons]
    refine ⟨by rw [h1]; simp, fun t => ?_⟩
    rw [h2 t, getD_put (by omega)]
    simp only [List.length_cons]
    by_cases ht : t = off + i0
    · subst ht; rw [if_neg (by omega), if_pos rfl, if_pos (by omega)]; simp
    · rw [if_neg ht]
      by_cases h3 : off + (i0 + 1) ≤ t ∧ t < off + (i0 + 1) + l.length
      · rw [if_pos h3, if_pos (by omega), show t - (off + i0) = (t - (off + (i0 + 1))) + 1 from by omega]; simp
      · rw [if_neg h3, if_neg (by omega)]
theorem fill_row {es : Nat} : ∀ (parts : List (Nat × Value)) (i0 : Nat) (cells : Array Value), (∀ (j : Nat) (h : j < parts.length), parts[j].1 = i0 + j ∧ parts[j].2.cells.size = es) → (i0 + parts.length) * es ≤ cells.size →
    ∃ c, Instr.fill (fun i => some (i * es, es)) cells parts = some c ∧ c.size = cells.size ∧
      (∀ (i j : Nat) (hi : i < parts.length), j < es → c.getD ((i0 + i) * es + j) undef = parts[i].2.cells.getD j undef) ∧ ∀ t, t < i0 * es → c.getD t undef = cells.getD t undef
  | [], i0, cells, _, _ => ⟨cells, rfl, rfl, fun i j hi => absurd hi (Nat.not_lt_zero _), fun _ _ => rfl⟩
  | (n, v) :: parts, i0, cells, h, hsz => by
    obtain ⟨h0, h1⟩ := h 0 (by simp)
    simp only [List.getElem_cons_zero, Nat.add_zero] at h0 h1
    subst h0
    simp only [List.length_cons] at hsz
    have hsz1 : (n + 1) * es ≤ cells.size := Nat.le_trans (Nat.mul_le_mul_right _ (by omega)) hsz
    rw [Nat.add_mul, Nat.one_mul] at hsz1
    have hf := fold_set_get (n * es) v.cells.toList 0 cells (by simp [h1]; omega)
    simp only [Nat.add_zero] at hf
    obtain ⟨f1, f2⟩ := hf
    have hfold : v.cells.zipIdx.foldl (fun cs (p : Value × Nat) => cs.setIfInBounds (n * es + p.2) p.1) cells = (v.cells.toList.zipIdx 0).foldl (fun cs (p : Value × Nat) => cs.setIfInBounds (n * es + p.2) p.1) cells := by
      rw [← Array.foldl_toList]; simp
    obtain ⟨c, g1, g2, g3, g4⟩ := fill_row parts (n + 1) (v.cells.zipIdx.foldl (fun cs (p : Value × Nat) => cs.setIfInBounds (n * es + p.2) p.1) cells)
      (fun j hj => by have := h (j + 1) (by simp; omega); simp only [List.getElem_cons_succ] at this; exact ⟨by omega, this.2⟩) (by rw [hfold, f1]; rw [show n + 1 + parts.length = n + (parts.length + 1) from by omega]; exact hsz)
    refine ⟨c, ?_, by rw [g2, hfold, f1], fun i j hi hj => ?_, fun t ht => ?_⟩
    · simp only [Instr.fill]
      rw [if_neg (by simp [h1]; omega)]
      exact g1
    · cases i with
      | zero =>
        rw [Nat.add_zero, g4 _ (by rw [Nat.add_mul]; omega), hfold, f2, if_pos (by simp [h1]; omega)]
        simp [Array.getD_eq_getD_getElem?, List.getD_eq_getElem?_getD]
      | succ i =>
        have := g3 i j (by simpa using hi) hj
        rw [show n + (i + 1) = n + 1 + i from by omega]; simpa using this
    · rw [g4 t (by rw [Nat.add_mul]; omega), hfold, f2, if_neg (by omega)]
theorem run_buildSlice {P : Program} {w : World} {t e : TypeId} {es n : Nat} {z : Value} {parts : Array (Nat × Value)} (ht : P.underlying t = some (.slice e)) (hsz : (P.info? e).map (·.size) = some es) (hz : (P.info? e).bind (·.zero) = some z)
    (hn : n * es ≤ 16777216) (hl : parts.size = n) (hp : ∀ (j : Nat) (h : j < parts.toList.length), parts.toList[j].1 = j ∧ parts.toList[j].2.cells.size = es) :
    ∃ c : Array Value, (Instr.buildSlice t n parts).run P w = .ok (.slice (some ⟨w.heap.size, 0, none⟩) n n) (w.alloc (.cells c e (0, 0))) ∧ c.size = n * es ∧
      ∀ (i j : Nat) (hi : i < parts.toList.length), j < es → c.getD (i * es + j) undef = parts.toList[i].2.cells.getD j undef := by
  obtain ⟨i, hi, rfl⟩ := Option.map_eq_some_iff.1 hsz
  have hlen : parts.toList.length = n := by simpa using hl
  have key : ∀ cells : Array Value, cells.size = n * i.size → ∃ c : Array Value, Instr.fill (fun j => some (j * i.size, i.size)) cells parts.toList = some c ∧ c.size = n * i.size ∧
      ∀ (k j : Nat) (hi : k < parts.toList.length), j < i.size → c.getD (k * i.size + j) undef = parts.toList[k].2.cells.getD j undef := by
    intro cells hc
    obtain ⟨c, g1, g2, g3, _⟩ := fill_row (es := i.size) parts.toList 0 cells (fun j h => by rw [Nat.zero_add]; exact hp j h) (by rw [Nat.zero_add, hlen, hc]; exact Nat.le_refl _)
    refine ⟨c, g1, by rw [g2, hc], fun k j hk hj => ?_⟩
    have := g3 k j hk hj
    rwa [Nat.zero_add] at this
  have hS : ∀ w, (sizeOf e).run P w = .ok i.size w := run_sizeOf' (by simp [hi])
  by_cases h0 : n * i.size = 0
  · obtain ⟨c, g1, g2, g3⟩ := key ((Array.range (n * i.size)).map ((#[] : Array Value)[· % (#[] : Array Value).size]!)) (by simp)
    refine ⟨c, ?_, g2, g3⟩
    simp only [Instr.buildSlice, Sem.run_bind, run_underlying ht, Result.andThen_ok, hS]
    rw [if_neg (show ¬ n * i.size > 2 ^ 24 by omega), if_pos h0]
    simp only [Sem.run_bind, Sem.run_pure, Result.andThen_ok, g1, newRow, run_newObj, World.alloc_eq]
  · obtain ⟨c, g1, g2, g3⟩ := key ((Array.range (n * i.size)).map (z.cells[· % z.cells.size]!)) (by simp)
    refine ⟨c, ?_, g2, g3⟩
    simp only [Instr.buildSlice, Sem.run_bind, run_underlying ht, Result.andThen_ok, hS]
    rw [if_neg (show ¬ n * i.size > 2 ^ 24 by omega), if_neg h0]
    simp only [Sem.run_bind, Sem.run_pure, Result.andThen_ok, g1, newRow, run_newObj, World.alloc_eq, run_zeroValue' hz]
end Go.AL
namespace Go.AL
theorem flat_len {α : Type} {es : Nat} : ∀ (l : List (List α)), (∀ x ∈ l, x.length = es) → l.flatten.length = l.length * es
  | [], _ => by simp
  | x :: l, h => by
    rw [List.flatten_cons, List.length_append, h x (by simp), flat_len l fun y hy => h y (by simp [hy]), List.length_cons, Nat.add_mul]; omega
theorem flat_get {α : Type} {es : Nat} : ∀ (l : List (List α)) (_ : ∀ x ∈ l, x.length = es) (i j : Nat) (hi : i < l.length) (_ : j < es), l.flatten[i * es + j]? = l[i][j]?
  | [], _, i, j, hi, _ => absurd hi (Nat.not_lt_zero _)
  | x :: l, h, 0, j, _, hj => by
    rw [Nat.zero_mul, Nat.zero_add, List.flatten_cons, List.getElem?_append_left (by rw [h x (by simp)]; exact hj)]; rfl
  | x :: l, h, i + 1, j, hi, hj => by
    rw [List.flatten_cons, List.getElem?_append_right (by rw [h x (by simp), Nat.add_mul]; omega), h x (by simp), show (i + 1) * es + j - es = i * es + j from by rw [Nat.add_mul]; omega]
    exact flat_get l (fun y hy => h y (by simp [hy])) i j (by simpa using hi) hj
theorem div_of {i j es : Nat} (hj : j < es) : (i * es + j) / es = i ∧ (i * es + j) % es = j := by
  constructor
  · rw [Nat.mul_comm, Nat.mul_add_div (by omega), Nat.div_eq_of_lt hj, Nat.add_zero]
  · rw [Nat.mul_comm, Nat.mul_add_mod, Nat.mod_eq_of_lt hj]
def sized (es : Nat) (ds : List D) : Bool := ds.all fun d => Nat.beq d.cells.length es
def sizedA (es : Nat) (asx : List A) : Bool := asx.all fun a => a.solid && Nat.beq a.cells.length es
theorem sized_at {es : Nat} {ds : List D} (h : sized es ds = true) (i : Nat) (hi : i < ds.length) : ds[i].cells.length = es :=
  Nat.eq_of_beq_eq_true (List.all_eq_true.1 h _ (List.getElem_mem hi))
section
variable {cx : Cx} {Q : Exit → State → Prop} {st : State} {ops : Array Oper} {rest : List Oper} {o : Oper} {g : Bool}
theorem own_row_mk {w : World} {F : Nat → Prop} {b cap es : Nat} {xs : List D} {c : Array Value} {ty : TypeId} {G : Nat → Nat → Prop} (hb : F b) (hh : w.heap[b]? = some (.cells c ty (0, 0))) (hsz : c.size = cap * es)
    (hcap : xs.length ≤ cap) (hes : ∀ (i : Nat) (hi : i < xs.length), xs[i].cells.length = es)
    (hr : ∀ (i : Nat) (hi : i < xs.length) (j : Nat) (hj : j < xs[i].cells.length), Own w (G (i * es + j)) (c.getD (i * es + j) undef) xs[i].cells[j]) (hG : ∀ m x, G m x → F x ∧ x ≠ b) (hd : ∀ m m' x, G m x → G m' x → m = m') :
    Own w F (.slice (some ⟨b, 0, none⟩) xs.length cap) (.sl es xs) := by
  refine .sl F b cap es xs c ty (fun i j x => j < es ∧ G (i * es + j) x) hb hh hsz hcap hes (fun i hi j hj => (hr i hi j hj).mono _ (fun x hx => ⟨by rw [← hes i hi]; exact hj, hx⟩) fun _ _ => rfl) (fun i j x hx => hG _ _ hx.2) fun i j i' j' x h h' => ?_
  have := hd _ _ _ h.2 h'.2
  obtain ⟨e1, e2⟩ := div_of (i := i) h.1
  obtain ⟨e3, e4⟩ := div_of (i := i') h'.1
  rw [this] at e1 e2
  exact ⟨by omega, by omega⟩
theorem opC_buildSlice {k n es : Nat} {t e : TypeId} {z : Value} {parts : Array (Nat × Operand)} {asx : List A} {ds : List D} {kss : List (List Nat)} {ks : List Nat} (ho : o.op = .buildSlice t n parts)
    (ht : cx.P.underlying t = some (.slice e)) (hsz : (cx.P.info? e).map (·.size) = some es) (hz : (cx.P.info? e).bind (·.zero) = some z) (hn : Nat.ble (n * es) 16777216 = true)
    (hix : parts.toList.map (·.1) = List.range n) (hx : EvL st g (parts.toList.map (·.2)) asx) (hs : sizedA es asx = true) (hd : sized es ds = true) (hm : MvL st.objs (asx.map A.cells).flatten (ds.map D.cells).flatten kss)
    (hdl : ds.length = n) (hnd : ndup kss.flatten = true) (hks : kss.flatten = ks) : OpC cx st g o ks k (.row es ds) (.row k es 0 n) := by
  intro hg rs E a w objs' hi hob hr
  subst hks
  obtain ⟨hal, hav⟩ := evl_size (P := cx.P) hx hg hr
  have hpl : parts.toList.length = n := by have := congrArg List.length hix; simpa using this
  have hps : parts.size = n := by simpa using hpl
  have hasl : asx.length = n := by rw [← hal]; simp; simpa using hpl
  have hsol : ∀ (i : Nat) (hi : i < asx.length), asx[i].solid = true ∧ asx[i].cells.length = es := fun i hi => by
    have := List.all_eq_true.1 hs _ (List.getElem_mem hi)
    simp only [Bool.and_eq_true] at this
    exact ⟨this.1, Nat.eq_of_beq_eq_true this.2⟩
  have hval : ∀ (i : Nat) (hi : i < n), Rep E w ((parts.map fun (p : Nat × Operand) => (p.1, a.eval p.2)).toList[i]'(by simpa [hps] using hi)).2 (asx[i]'(by omega)) := by
    intro i hi
    have := hav i (by omega)
    simpa [Array.getD_eq_getD_getElem?, hpl, hi, show i < parts.size by omega] using this
  obtain ⟨c, hrun, hcs, hcg⟩ := run_buildSlice (w := w) (parts := parts.map fun (p : Nat × Operand) => (p.1, a.eval p.2)) ht hsz hz (Nat.le_of_ble_eq_true hn) (by simpa using hpl) (fun j hj => by
    have hj' : j < n := by simpa [← hpl] using hj
    refine ⟨?_, ?_⟩
    · have : (parts.toList.map (·.1))[j]? = (List.range n)[j]? := by rw [hix]
      rw [List.getElem?_map, List.getElem?_eq_getElem (by omega), List.getElem?_range hj'] at this
      simpa using this
    · have h2 := hsol j (by omega)
      rw [(rep_solid (hval j hj') h2.1).1, h2.2])
  have hrunO : (execOp a.eval o).run cx.P w = .ok (.value (.slice (some ⟨w.heap.size, 0, none⟩) n n)) (w.alloc (.cells c e (0, 0))) := by
    have e : (parts.map fun (i, x) => (i, a.eval x)) = parts.map fun (p : Nat × Operand) => (p.1, a.eval p.2) := rfl
    simp only [execOp, ho, Sem.run_bind, e, hrun, Result.andThen_ok, Sem.run_pure]
  have hflA : ∀ x ∈ asx.map A.cells, x.length = es := fun x hx => by
    obtain ⟨y, hy, rfl⟩ := List.mem_map.1 hx
    obtain ⟨i, hi, rfl⟩ := List.getElem_of_mem hy
    exact (hsol i hi).2
  have hflD : ∀ x ∈ ds.map D.cells, x.length = es := fun x hx => by
    obtain ⟨y, hy, rfl⟩ := List.mem_map.1 hx
    obtain ⟨i, hi, rfl⟩ := List.getElem_of_mem hy
    exact sized_at hd i hi
  have hlenA := flat_len _ hflA
  have hlenD := flat_len _ hflD
  simp only [List.length_map] at hlenA hlenD
  have hcell : ∀ (m : Nat) (hm : m < (asx.map A.cells).flatten.length), Rep E w (c.getD m undef) (asx.map A.cells).flatten[m] := by
    intro m hm
    rw [hlenA, hasl] at hm
    have hes : 0 < es := by rcases Nat.eq_zero_or_pos es with h | h; · subst h; omega
                            · exact h
    have hmi : m / es < n := Nat.div_lt_of_lt_mul (by rw [Nat.mul_comm]; exact hm)
    have hmj : m % es < es := Nat.mod_lt _ hes
    have hmm : m / es * es + m % es = m := by rw [Nat.mul_comm]; exact Nat.div_add_mod _ _
    have hg1 := flat_get _ hflA (m / es) (m % es) (by simp; omega) hmj
    rw [hmm] at hg1
    have h2 := hsol (m / es) (by omega)
    have h3 := (rep_solid (hval _ hmi) h2.1).2 (m % es) (by rw [h2.2]; exact hmj)
    have h4 := hcg (m / es) (m % es) (by simpa [hpl] using hmi) hmj
    rw [hmm] at h4
    rw [h4]
    have : (asx.map A.cells).flatten[m]'(by rw [hlenA, hasl]; exact hm) = (asx[m / es]'(by omega)).cells[m % es]'(by rw [h2.2]; exact hmj) := by
      rw [List.getElem?_eq_getElem (by rw [hlenA, hasl]; exact hm)] at hg1
      simp only [List.getElem_map] at hg1
      rw [List.getElem?_eq_getElem (by rw [h2.2]; exact hmj)] at hg1
      exact Option.some.inj hg1
    rw [this]
    exact h3
  obtain ⟨G, hG1, hG2, hG3⟩ := mvl_own hob hi.disj hm hnd hcell
  have hlt : ∀ m b, G m b → b < w.heap.size := fun m b hb => by obtain ⟨i, _, h⟩ := hG2 m b hb; exact (hi.own i b h).1
  refine ⟨_, _, w.heap.size, n, True, fun c => c = w.heap.size ∨ ∃ i ∈ kss.flatten, E.fp i c, hrunO, fun c hc _ => heap_alloc_lt _ _ hc, by simp, rfl, rfl, rfl, ?_, ?_, ?_, ?_⟩
  · rintro c (rfl | ⟨i, h1, h2⟩)
    · exact .inr (Nat.le_refl _)
    · exact .inl ⟨i, h1, h2⟩
  · rintro c (rfl | ⟨i, h1, h2⟩)
    · simp
    · have := (hi.own i c h2).1; simp; omega
  · refine .row es ds (by rw [replE_real]; trivial) ?_
    rw [replE_fp, replE_bl, replE_cap]
    refine own_row_mk (G := G) (.inl rfl) (heap_alloc_at _ _) hcs (by omega) (fun i hi => sized_at hd i hi) (fun i hi j hj => ?_) (fun m x hx => ⟨.inr (hG2 m x hx), by have := hlt m x hx; omega⟩) hG3
    have hes := sized_at hd i hi
    have hj' : j < es := by rw [← hes]; exact hj
    have hmlt : i * es + j < (ds.map D.cells).flatten.length := by rw [hlenD]; exact mul_add_lt hi hj'
    have h1 := (hG1 _ hmlt).1
    have hg1 := flat_get _ hflD i j (by simpa using hi) hj'
    rw [List.getElem?_eq_getElem hmlt] at hg1
    simp only [List.getElem_map] at hg1
    rw [List.getElem?_eq_getElem hj] at hg1
    rw [Option.some.inj hg1] at h1
    exact h1.mono _ (fun _ h => h) fun b hb => heap_alloc_lt _ _ (hlt _ b hb)
  · exact row0_rep (by rw [replE_real]; trivial) replE_bl replE_cap
end
end Go.AL
namespace Go.AL
def IsFst (w : World) (size : Nat) (v : Value) (n : Nat) (c1 : Array Value) (B : Prop) : Prop :=
  (∃ ad, v = .slice ad 0 0 ∧ n = 0) ∨ ∃ g cap ty, B ∧ v = .slice (some ⟨g, 0, none⟩) n cap ∧ w.heap[g]? = some (.cells c1 ty (0, 0)) ∧ n ≤ cap ∧ c1.size = cap * size
def IsSnd (w : World) (v : Value) (m : Nat) (news : List Value) : Prop :=
  (∃ ad c, v = .slice (some ad) m c ∧ ∀ j u, news[j]? = some u → w.cell? (ad.add j) = some u) ∨ (∃ c, v = .slice none 0 c ∧ m = 0)
theorem zeroCells_size (z : Array Value) (n : Nat) : (Builtin.zeroCells z n).size = n * z.size := by simp [Builtin.zeroCells]
theorem toArray_getD (l : List Value) (t : Nat) : l.toArray.getD t undef = l.getD t undef := by simp [Array.getD_eq_getD_getElem?, List.getD_eq_getElem?_getD]
theorem getD_app_left {a b : Array Value} {t : Nat} (h : t < a.size) : (a ++ b).getD t undef = a.getD t undef := by
  simp [Array.getD_eq_getD_getElem?, Array.getElem?_append_left h]
theorem getD_app_right {a b : Array Value} {t : Nat} (h : a.size ≤ t) : (a ++ b).getD t undef = b.getD (t - a.size) undef := by
  simp [Array.getD_eq_getD_getElem?, Array.getElem?_append_right h]
theorem run_append_al {P : Program} {w : World} {t ty e : TypeId} {i : TypeInfo} {z : Value} (ht : P.underlying t = some (.slice e)) (hi : P.info? e = some i) (hz : i.zero = some z) (hzs : z.cells.size = i.size)
    {v x : Value} {n m : Nat} {c1 : Array Value} {B : Prop} {news : List Value} (hv : IsFst w i.size v n c1 B) (hx : IsSnd w x m news) (hl : news.length = m * i.size) (h1 : ∀ u ∈ news, u.oneCell' = true)
    (hb1 : n + m ≤ 1000000) (hb2 : i.bytes ≤ 1000) :
    ∃ v' w', (Builtin.append_ #[t, t] ty #[v, x]).run P w = .ok v' w' ∧
      ((∃ ad, v' = .slice ad 0 0 ∧ w' = w ∧ n = 0 ∧ m = 0) ∨
       ∃ g cap c' ty', v' = .slice (some ⟨g, 0, none⟩) (n + m) cap ∧ w'.heap[g]? = some (.cells c' ty' (0, 0)) ∧ n + m ≤ cap ∧ c'.size = cap * i.size ∧
         (∀ t, t < n * i.size → c'.getD t undef = c1.getD t undef) ∧ (∀ t, t < m * i.size → c'.getD (n * i.size + t) undef = news.getD t undef) ∧
         (g = w.heap.size ∨ (B ∧ ∃ cap, v = .slice (some ⟨g, 0, none⟩) n cap)) ∧ (∀ c, c < w.heap.size → c ≠ g → w'.heap[c]? = w.heap[c]?) ∧ w.heap.size ≤ w'.heap.size ∧ g < w'.heap.size ∧
         w'.os = w.os ∧ w'.tape = w.tape ∧ w'.output = w.output) := by
  have hbytes : (n + m) * i.bytes ≤ 140737488355328 := Nat.le_trans (Nat.mul_le_mul hb1 hb2) (by omega)
  have new : ∀ (old : List Value) (need sCap : Nat), need = n + m → old.length = n * i.size → (∀ t, t < n * i.size → old.toArray.getD t undef = c1.getD t undef) →
      ∃ g cap c' ty', Value.slice (some ⟨w.heap.size, 0, none⟩) need (grownCap w need sCap e) = .slice (some ⟨g, 0, none⟩) (n + m) cap ∧
        (w.drew.alloc (.cells (old.toArray ++ news.toArray ++ Builtin.zeroCells z.cells (grownCap w need sCap e - need)) e)).heap[g]? = some (.cells c' ty' (0, 0)) ∧ n + m ≤ cap ∧ c'.size = cap * i.size ∧
        (∀ t, t < n * i.size → c'.getD t undef = c1.getD t undef) ∧ (∀ t, t < m * i.size → c'.getD (n * i.size + t) undef = news.getD t undef) ∧
        (g = w.heap.size ∨ (B ∧ ∃ cap, v = .slice (some ⟨g, 0, none⟩) n cap)) ∧ (∀ c, c < w.heap.size → c ≠ g → (w.drew.alloc (.cells (old.toArray ++ news.toArray ++ Builtin.zeroCells z.cells (grownCap w need sCap e - need)) e)).heap[c]? = w.heap[c]?) ∧
        w.heap.size ≤ (w.drew.alloc (.cells (old.toArray ++ news.toArray ++ Builtin.zeroCells z.cells (grownCap w need sCap e - need)) e)).heap.size ∧ g < (w.drew.alloc (.cells (old.toArray ++ news.toArray ++ Builtin.zeroCells z.cells (grownCap w need sCap e - need)) e)).heap.size ∧
        (w.drew.alloc (.cells (old.toArray ++ news.toArray ++ Builtin.zeroCells z.cells (grownCap w need sCap e - need)) e)).os = w.os ∧ (w.drew.alloc (.cells (old.toArray ++ news.toArray ++ Builtin.zeroCells z.cells (grownCap w need sCap e - need)) e)).tape = w.tape ∧
        (w.drew.alloc (.cells (old.toArray ++ news.toArray ++ Builtin.zeroCells z.cells (grownCap w need sCap e - need)) e)).output = w.output := by
    intro old need sCap hneed hold hget
    subst hneed
    have hge := grownCap_ge w (n + m) sCap e
    refine ⟨w.heap.size, _, _, e, rfl, heap_alloc_at w.drew _, hge, ?_, fun t ht => ?_, fun t ht => ?_, .inl rfl, fun c hc _ => heap_alloc_lt w.drew _ hc, by simp, by simp, rfl, rfl, rfl⟩
    · simp only [Array.size_append, List.size_toArray, zeroCells_size, hzs, hold, hl, ← Nat.add_mul]
      congr 1; omega
    · rw [getD_app_left (by simp [hold, hl]; omega), getD_app_left (by simp [hold]; omega)]; exact hget t ht
    · rw [getD_app_left (by simp [hold, hl]; omega), getD_app_right (by simp [hold]), List.size_toArray, hold, Nat.add_sub_cancel_left, toArray_getD]
  have news0 : m = 0 → news = [] := fun h => List.eq_nil_of_length_eq_zero (by rw [hl, h, Nat.zero_mul])
  rcases hv with ⟨ad0, rfl, rfl⟩ | ⟨g, cap, ty1, hB, rfl, hg, hnc, hcs⟩
  · -- nothing is there
    rcases hx with ⟨ad, c, rfl, hnews⟩ | ⟨c, rfl, rfl⟩
    · by_cases hm : m = 0
      · subst hm
        have hn := news0 rfl
        subst hn
        refine ⟨.slice ad0 0 0, w, ?_, .inl ⟨ad0, rfl, rfl, rfl, rfl⟩⟩
        cases ad0 <;> simp [Builtin.append_, run_underlying ht, sizeOf, typeInfo, hi, Builtin.lenOf, Builtin.firstCells, loadCells, loadCellsFrom, storeCells]
      · have hr : (Builtin.append_ #[t, t] ty #[.slice ad0 0 0, .slice (some ad) m c]).run P w =
            .ok (.slice (some ⟨w.heap.size, 0, none⟩) m (grownCap w m 0 e)) (w.drew.alloc (.cells (news.toArray ++ Builtin.zeroCells z.cells (grownCap w m 0 e - m)) e)) := by
          cases ad0 with
          | none => exact run_append_nil (P := P) w t ty e i z ht hi hz ad m c news hl hnews (by omega) (by omega) (by rw [Nat.zero_add] at hbytes; omega)
          | some b0 =>
            have := run_append_grow (P := P) w t ty e i z ht hi hz b0 0 0 [] (by simp) (fun j v h => by simp at h) ad m c news hl hnews (by omega) (by omega) (growslice_fits (by omega) hbytes)
            simpa using this
        have hnw := new [] m 0 (by omega) (by simp) (fun t ht => by simp at ht)
        have e0 : ([] : List Value).toArray ++ news.toArray = news.toArray := by simp
        rw [e0] at hnw
        exact ⟨_, _, hr, .inr hnw⟩
    · have hn := news0 rfl
      subst hn
      refine ⟨.slice ad0 0 0, w, ?_, .inl ⟨ad0, rfl, rfl, rfl, rfl⟩⟩
      cases ad0 <;> simp [Builtin.append_, run_underlying ht, sizeOf, typeInfo, hi, Builtin.lenOf, Builtin.firstCells, storeCells]
  · have hgs : g < w.heap.size := (Array.getElem?_eq_some_iff.1 hg).1
    rcases hx with ⟨ad, c, rfl, hnews⟩ | ⟨c, rfl, rfl⟩
    · by_cases hroom : n + m ≤ cap
      · have hfit : n * i.size + news.length ≤ c1.size := by rw [hl, hcs, ← Nat.add_mul]; exact Nat.mul_le_mul_right _ hroom
        have hf := run_firstCells_some (P := P) w i.size m ad m c news hl hnews
        have hst := run_storeCells_at P g (n * i.size) ty1 news 0 c1 w hg (by simpa using hfit) h1
        simp only [Nat.add_zero] at hst
        refine ⟨.slice (some ⟨g, 0, none⟩) (n + m) cap, w.setRow g (c1.toList.take (n * i.size) ++ news ++ c1.toList.drop (n * i.size + news.length)).toArray, ?_, .inr ⟨g, cap, _, ty1, rfl, setRow_heap w g _ _ _ _ hg, hroom, ?_, fun t ht => ?_, fun t ht => ?_, .inr ⟨hB, cap, rfl⟩, fun c _ hc => setRow_other w g c _ hc, by simp, by simp; exact hgs, rfl, rfl, rfl⟩⟩
        · simp [Builtin.append_, run_underlying ht, sizeOf, typeInfo, hi, Builtin.lenOf, hroom, hf, Addr.add_lit, hst]
        · simp only [List.size_toArray, List.length_append, List.length_take, List.length_drop, Array.length_toList]
          omega
        · rw [seg_get _ _ _ _ (by simpa using hfit), if_neg (by omega)]
        · rw [seg_get _ _ _ _ (by simpa using hfit), if_pos (by omega), Nat.add_sub_cancel_left]
      · have holds : ∀ j u, (c1.toList.take (n * i.size))[j]? = some u → w.cell? ((⟨g, 0, none⟩ : Addr).add j) = some u := by
          intro j u hu
          rw [List.getElem?_take] at hu
          split at hu
          · have hj := (List.getElem?_eq_some_iff.1 hu).1
            rw [add_plain', Nat.zero_add, cell_of_heap hg (by simpa using hj)]
            simp only [Array.getElem?_toList] at hu
            simp [Array.getD_eq_getD_getElem?, hu]
          · cases hu
        have hlo : (c1.toList.take (n * i.size)).length = n * i.size := by
          rw [List.length_take, Array.length_toList, hcs, Nat.min_eq_left (Nat.mul_le_mul_right _ hnc)]
        have hr := run_append_grow (P := P) w t ty e i z ht hi hz ⟨g, 0, none⟩ n cap _ hlo holds ad m c news hl hnews (by omega) (by omega) (growslice_fits (by omega) hbytes)
        exact ⟨_, _, hr, .inr (new _ (n + m) cap rfl hlo (fun t ht => by
          rw [toArray_getD, List.getD_eq_getElem?_getD, List.getElem?_take, if_pos ht]
          simp [Array.getD_eq_getD_getElem?]))⟩
    · have hn := news0 rfl
      subst hn
      refine ⟨.slice (some ⟨g, 0, none⟩) (n + 0) cap, w, ?_, .inr ⟨g, cap, c1, ty1, rfl, hg, hnc, hcs, fun _ _ => rfl, fun t ht => by omega, .inr ⟨hB, cap, rfl⟩, fun _ _ _ => rfl, Nat.le_refl _, hgs, rfl, rfl, rfl⟩⟩
      simp [Builtin.append_, run_underlying ht, sizeOf, typeInfo, hi, Builtin.lenOf, hnc, Builtin.firstCells, storeCells]
inductive Fst (objs : Nat → Option O) : A → Nat → Nat → List D → Prop
  | row (k es n : Nat) (xs : List D) (hk : objs k = some (.row es xs)) (hn : n = xs.length) : Fst objs (.row k es 0 n) k es xs
  | nil (k es : Nat) : Fst objs .nil k es []
def flats (ys : List D) : Bool := ys.all fun y => y.cells.all D.flat1
inductive Snd (objs : Nat → Option O) : A → Nat → List D → List Nat → Prop
  | row (k es n : Nat) (xs : List D) (hk : objs k = some (.row es xs)) (hn : n = xs.length) : Snd objs (.row k es 0 n) es xs [k]
  | dat (r : Option Nat) (es : Nat) (ys : List D) (hf : flats ys = true) : Snd objs (.dat r (.sl es ys)) es ys []
  | part (k es lo n : Nat) (xs ys : List D) (hk : objs k = some (.row es xs)) (hn : lo + n ≤ xs.length) (hy : (xs.drop lo).take n = ys) (hf : flats ys = true) : Snd objs (.row k es lo n) es ys []
  | nil (es : Nat) : Snd objs .nil es [] []
theorem flats_at {ys : List D} (h : flats ys = true) (i : Nat) (hi : i < ys.length) (j : Nat) (hj : j < ys[i].cells.length) : (ys[i].cells[j]).flat1 = true :=
  List.all_eq_true.1 (List.all_eq_true.1 h _ (List.getElem_mem hi)) _ (List.getElem_mem hj)
theorem snd_of {w : World} {R : Nat → Prop} {v : Value} {es : Nat} {ys : List D} (h : RO R w v (.sl es ys)) (hf : flats ys = true) :
    (∀ (i : Nat) (hi : i < ys.length), ys[i].cells.length = es) ∧ ∃ news : List Value, IsSnd w v ys.length news ∧ news.length = ys.length * es ∧
      (∀ (i : Nat) (hi : i < ys.length) (j : Nat) (hj : j < ys[i].cells.length), ∀ F, Own w F (news.getD (i * es + j) undef) ys[i].cells[j]) ∧ ∀ u ∈ news, u.oneCell' = true := by
  generalize hx : D.sl es ys = x at h
  cases h with
  | nil a cap es' =>
    injection hx with h1 h2; subst h1 h2
    refine ⟨fun i hi => absurd hi (Nat.not_lt_zero _), [], ?_, by simp, fun i hi => absurd hi (Nat.not_lt_zero _), fun u hu => (by cases hu)⟩
    cases a with
    | none => exact .inr ⟨cap, rfl, rfl⟩
    | some ad => exact .inl ⟨ad, cap, rfl, fun j u hu => by simp at hu⟩
  | sl b o cap es' xs us hb hcap hes hc hr =>
    injection hx with h1 h2; subst h1 h2
    have hlen : ((List.range (ys.length * es)).map fun t => us (t / es) (t % es)).length = ys.length * es := by simp
    have hget : ∀ (i : Nat) (hi : i < ys.length) (j : Nat) (hj : j < es), ((List.range (ys.length * es)).map fun t => us (t / es) (t % es)).getD (i * es + j) undef = us i j := by
      intro i hi j hj
      have hlt := mul_add_lt hi hj
      rw [List.getD_eq_getElem?_getD, List.getElem?_map, List.getElem?_range hlt]
      obtain ⟨e1, e2⟩ := div_of (i := i) hj
      simp [e1, e2]
    have hdm : ∀ t, t < ys.length * es → t / es < ys.length ∧ t % es < es ∧ t / es * es + t % es = t := fun t ht => by
      have hes : 0 < es := by rcases Nat.eq_zero_or_pos es with h | h; · subst h; omega
                              · exact h
      exact ⟨Nat.div_lt_of_lt_mul (by rw [Nat.mul_comm]; exact ht), Nat.mod_lt _ hes, by rw [Nat.mul_comm]; exact Nat.div_add_mod _ _⟩
    refine ⟨hes, _, .inl ⟨⟨b, o, none⟩, cap, rfl, fun t u hu => ?_⟩, hlen, fun i hi j hj F => ?_, fun u hu => ?_⟩
    · obtain ⟨ht, rfl⟩ := List.getElem?_eq_some_iff.1 hu
      rw [hlen] at ht
      obtain ⟨h1, h2, h3⟩ := hdm t ht
      have := hc _ _ h1 h2
      rw [add_plain']
      simp only [List.getElem_map, List.getElem_range]
      rw [← this, Nat.add_assoc, h3]
    · rw [hget i hi j (by rw [← hes i hi]; exact hj)]
      exact flat1_own (hr i hi j hj) (flats_at hf i hi j hj)
    · obtain ⟨t, ht, rfl⟩ := List.mem_map.1 hu
      rw [List.mem_range] at ht
      obtain ⟨h1, h2, h3⟩ := hdm t ht
      have hj : t % es < ys[t / es].cells.length := by rw [hes _ h1]; exact h2
      have hfl := flats_at hf _ h1 _ hj
      exact (ro_one (hr _ h1 _ hj) (by cases hd : (ys[t / es].cells[t % es]) <;> rw [hd] at hfl <;> first | rfl | cases hfl)).1
  | _ => cases hx
theorem fst_ok {E : Env} {w : World} {objs : Nat → Option O} {u : Value} {a : A} {k es : Nat} {xs : List D} (hob : Holds E w objs) (h : Rep E w u a) (hf : Fst objs a k es xs) :
    (∀ (i : Nat) (hi : i < xs.length), xs[i].cells.length = es) ∧ ∃ (c1 : Array Value) (G : Nat → Nat → Nat → Prop) (B : Prop), IsFst w es u xs.length c1 B ∧ (B → ∀ g n cap, u = .slice (some ⟨g, 0, none⟩) n cap → E.fp k g) ∧
      (∀ (i : Nat) (hi : i < xs.length) (j : Nat) (hj : j < xs[i].cells.length), Own w (G i j) (c1.getD (i * es + j) undef) xs[i].cells[j]) ∧
      (∀ i j x, G i j x → E.fp k x ∧ ∀ g n cap, u = .slice (some ⟨g, 0, none⟩) n cap → x ≠ g) ∧ (∀ i j i' j' x, G i j x → G i' j' x → i = i' ∧ j = j') := by
  have none' : ∀ ad, u = .slice ad 0 0 → xs = [] → (∀ (i : Nat) (hi : i < xs.length), xs[i].cells.length = es) ∧ ∃ (c1 : Array Value) (G : Nat → Nat → Nat → Prop) (B : Prop), IsFst w es u xs.length c1 B ∧ (B → ∀ g n cap, u = .slice (some ⟨g, 0, none⟩) n cap → E.fp k g) ∧
      (∀ (i : Nat) (hi : i < xs.length) (j : Nat) (hj : j < xs[i].cells.length), Own w (G i j) (c1.getD (i * es + j) undef) xs[i].cells[j]) ∧
      (∀ i j x, G i j x → E.fp k x ∧ ∀ g n cap, u = .slice (some ⟨g, 0, none⟩) n cap → x ≠ g) ∧ (∀ i j i' j' x, G i j x → G i' j' x → i = i' ∧ j = j') := by
    rintro ad rfl rfl
    exact ⟨fun i hi => absurd hi (Nat.not_lt_zero _), #[], fun _ _ _ => False, False, .inl ⟨ad, rfl, rfl⟩, fun h => h.elim, fun i hi => absurd hi (Nat.not_lt_zero _), fun _ _ _ h => h.elim, fun _ _ _ _ _ h => h.elim⟩
  cases hf with
  | nil => cases h with | nil ad => exact none' ad rfl rfl
  | row _ _ n _ hk hn =>
    have ho := hob _ _ hk
    rcases rep_row0 h with ⟨hr, rfl⟩ | ⟨hr, ⟨ad, rfl⟩, rfl⟩
    · cases ho with
      | rownil _ hr' => exact absurd hr hr'
      | row _ _ _ hown =>
        subst hn
        rcases own_row0 hown with ⟨e1, e2, e3⟩ | ⟨c, ty, G, hb, hh, hsz, hcap, hes, hor, hG, hd⟩
        · exact none' (some ⟨E.bl k, 0, none⟩) (by rw [e2, e3]) e1
        · refine ⟨hes, c, G, True, .inr ⟨_, _, ty, trivial, rfl, hh, hcap, hsz⟩, fun _ g n cap e => ?_, hor, fun i j x hx => ⟨(hG i j x hx).1, fun g n cap e => ?_⟩, hd⟩
          · simp only [Value.slice.injEq, Option.some.injEq, Addr.mk.injEq] at e
            rw [← e.1.1]; exact hb
          · simp only [Value.slice.injEq, Option.some.injEq, Addr.mk.injEq] at e
            rw [← e.1.1]; exact (hG i j x hx).2
    · cases ho with
      | rownil _ _ => exact none' ad rfl rfl
      | row _ _ hr' _ => exact absurd hr' hr
theorem own_oneCell {w : World} {F : Nat → Prop} {u : Value} {d : D} (h : Own w F u d) (hd : d.one = true) : u.oneCell' = true := by
  cases h <;> first | rfl | cases hd
def oneD (ys : List D) : Bool := ys.all fun y => y.cells.all D.one
theorem oneD_at {ys : List D} (h : oneD ys = true) (i : Nat) (hi : i < ys.length) (j : Nat) (hj : j < ys[i].cells.length) : (ys[i].cells[j]).one = true :=
  List.all_eq_true.1 (List.all_eq_true.1 h _ (List.getElem_mem hi)) _ (List.getElem_mem hj)
theorem flats_one {ys : List D} (h : flats ys = true) : oneD ys = true := by
  refine List.all_eq_true.2 fun y hy => List.all_eq_true.2 fun d hd => ?_
  have := List.all_eq_true.1 (List.all_eq_true.1 h y hy) d hd
  cases d <;> first | rfl | cases this
theorem snd_ok {E : Env} {w : World} {objs : Nat → Option O} {u : Value} {a : A} {es : Nat} {ys : List D} {ks : List Nat} (hob : Holds E w objs) (h : Rep E w u a) (hs : Snd objs a es ys ks) (h1 : oneD ys = true) :
    (∀ (i : Nat) (hi : i < ys.length), ys[i].cells.length = es) ∧ ∃ (news : List Value) (G : Nat → Nat → Nat → Prop), IsSnd w u ys.length news ∧ news.length = ys.length * es ∧ (∀ v ∈ news, v.oneCell' = true) ∧
      (∀ (i : Nat) (hi : i < ys.length) (j : Nat) (hj : j < ys[i].cells.length), Own w (G i j) (news.getD (i * es + j) undef) ys[i].cells[j]) ∧
      (∀ i j x, G i j x → ∃ k ∈ ks, E.fp k x) ∧ (∀ i j i' j' x, G i j x → G i' j' x → i = i' ∧ j = j') := by
  have flatc : ∀ R, RO R w u (.sl es ys) → flats ys = true → ks = [] → (∀ (i : Nat) (hi : i < ys.length), ys[i].cells.length = es) ∧ ∃ (news : List Value) (G : Nat → Nat → Nat → Prop), IsSnd w u ys.length news ∧ news.length = ys.length * es ∧ (∀ v ∈ news, v.oneCell' = true) ∧
      (∀ (i : Nat) (hi : i < ys.length) (j : Nat) (hj : j < ys[i].cells.length), Own w (G i j) (news.getD (i * es + j) undef) ys[i].cells[j]) ∧
      (∀ i j x, G i j x → ∃ k ∈ ks, E.fp k x) ∧ (∀ i j i' j' x, G i j x → G i' j' x → i = i' ∧ j = j') := by
    intro R hro hf _
    obtain ⟨h1, news, h2, h3, h4, h5⟩ := snd_of hro hf
    exact ⟨h1, news, fun _ _ _ => False, h2, h3, h5, fun i hi j hj => h4 i hi j hj _, fun _ _ _ h => h.elim, fun _ _ _ _ _ h => h.elim⟩
  have none' : ∀ ad, u = .slice ad 0 0 → ys = [] → (∀ (i : Nat) (hi : i < ys.length), ys[i].cells.length = es) ∧ ∃ (news : List Value) (G : Nat → Nat → Nat → Prop), IsSnd w u ys.length news ∧ news.length = ys.length * es ∧ (∀ v ∈ news, v.oneCell' = true) ∧
      (∀ (i : Nat) (hi : i < ys.length) (j : Nat) (hj : j < ys[i].cells.length), Own w (G i j) (news.getD (i * es + j) undef) ys[i].cells[j]) ∧
      (∀ i j x, G i j x → ∃ k ∈ ks, E.fp k x) ∧ (∀ i j i' j' x, G i j x → G i' j' x → i = i' ∧ j = j') := by
    rintro ad rfl rfl
    exact ⟨fun i hi => absurd hi (Nat.not_lt_zero _), [], fun _ _ _ => False, (by cases ad with | none => exact .inr ⟨0, rfl, rfl⟩ | some b => exact .inl ⟨b, 0, rfl, fun j u h => by simp at h⟩), by simp, fun v hv => (by cases hv), fun i hi => absurd hi (Nat.not_lt_zero _), fun _ _ _ h => h.elim, fun _ _ _ _ _ h => h.elim⟩
  cases hs with
  | nil => cases h with | nil ad => exact none' ad rfl rfl
  | dat r _ _ hf => exact flatc _ (rep_dat h) hf rfl
  | part k _ lo n xs _ hk hn hy hf =>
    subst hy
    have ho := hob _ _ hk
    cases h with
    | row _ _ _ _ hr =>
      cases ho with
      | rownil _ hr' => exact absurd hr hr'
      | row _ _ _ hown =>
        have hro := hown.ro _ (fun b hb => hb)
        have := ro_slice (n := 0) hro lo n (E.cap k - lo) hn (by have := own_cap hown; omega)
        rw [Nat.zero_add] at this
        exact flatc _ this hf rfl
    | rownil _ _ ad hr => exact none' ad rfl (by simp)
  | row k _ n _ hk hn =>
    have ho := hob _ _ hk
    rcases rep_row0 h with ⟨hr, rfl⟩ | ⟨hr, ⟨ad, rfl⟩, rfl⟩
    · cases ho with
      | rownil _ hr' => exact absurd hr hr'
      | row _ _ _ hown =>
        subst hn
        rcases own_row0 hown with ⟨e1, e2, e3⟩ | ⟨c, ty, G, hb, hh, hsz, hcap, hes, hor, hG, hd⟩
        · exact none' (some ⟨E.bl k, 0, none⟩) (by rw [e2, e3]) e1
        have hle : ys.length * es ≤ c.size := by rw [hsz]; exact Nat.mul_le_mul_right _ hcap
        have hlen : (c.toList.take (ys.length * es)).length = ys.length * es := by simp; omega
        have hgt : ∀ t, t < ys.length * es → (c.toList.take (ys.length * es)).getD t undef = c.getD t undef := fun t ht => by
          rw [List.getD_eq_getElem?_getD, List.getElem?_take, if_pos ht]; simp [Array.getD_eq_getD_getElem?]
        refine ⟨hes, c.toList.take (ys.length * es), G, .inl ⟨_, _, rfl, fun j u hu => ?_⟩, hlen, fun v hv => ?_, fun i hi j hj => ?_, fun i j x hx => ⟨k, by simp, (hG i j x hx).1⟩, hd⟩
        · obtain ⟨hj, rfl⟩ := List.getElem?_eq_some_iff.1 hu
          rw [hlen] at hj
          rw [add_plain', Nat.zero_add, cell_of_heap hh (by omega)]
          simp [Array.getD_eq_getD_getElem?, show j < c.size by omega]
        · obtain ⟨t, ht, rfl⟩ := List.getElem_of_mem hv
          have ht' : t < ys.length * es := by rw [hlen] at ht; exact ht
          have hes0 : 0 < es := by rcases Nat.eq_zero_or_pos es with h | h; · subst h; omega
                                   · exact h
          have hi1 : t / es < ys.length := Nat.div_lt_of_lt_mul (by rw [Nat.mul_comm]; exact ht')
          have hj1 : t % es < ys[t / es].cells.length := by rw [hes _ hi1]; exact Nat.mod_lt _ hes0
          have := own_oneCell (hor _ hi1 _ hj1) (oneD_at h1 _ hi1 _ hj1)
          rw [show t / es * es + t % es = t from by rw [Nat.mul_comm]; exact Nat.div_add_mod _ _] at this
          rw [← hgt t ht', List.getD_eq_getElem?_getD, List.getElem?_eq_getElem ht] at this
          simpa using this
        · rw [hgt _ (mul_add_lt hi (by rw [← hes i hi]; exact hj))]
          exact hor i hi j hj
    · cases ho with
      | rownil _ _ => exact none' ad rfl rfl
      | row _ _ hr' _ => exact absurd hr' hr
section
variable {cx : Cx} {Q : Exit → State → Prop} {st : State} {ops : Array Oper} {rest : List Oper} {o : Oper} {g : Bool}
theorem opC_append {k es : Nat} {X Y : Operand} {t e : TypeId} {z : Value} {ax ay : A} {xs ys zs : List D} {ks : List Nat} (ho : o.op = .call { callee := .builtin .append, args := #[X, Y], argTypes := #[t, t] })
    (ht : cx.P.underlying t = some (.slice e)) (hsz : (cx.P.info? e).map (·.size) = some es) (hz : (cx.P.info? e).bind (·.zero) = some z) (hzs : z.cells.size = es) (hby : ((cx.P.info? e).map fun i => Nat.ble i.bytes 1000) = some true)
    (hX : Ev st g X ax) (hY : Ev st g Y ay) (hf : Fst st.objs ax k es xs) (hs : Snd st.objs ay es ys ks) (h1 : oneD ys = true) (hk : inL ks k = false) (hnd : xs.length + ys.length ≤ 1000000) (hzz : xs ++ ys = zs) :
    OpC cx st g o (k :: ks) k (.row es zs) (.row k es 0 (xs.length + ys.length)) := by
  intro hg rs E a w objs' hi hob hr
  subst hzz
  obtain ⟨i, hie, rfl⟩ := Option.map_eq_some_iff.1 hsz
  have hiz : i.zero = some z := by simpa [hie] using hz
  have hib : i.bytes ≤ 1000 := by rw [hie] at hby; simpa using hby
  have hkk : k ∉ ks := fun hm => by rw [inL_iff.2 hm] at hk; cases hk
  obtain ⟨hes1, c1, G1, B, hv, hv2, hor1, hG1, hd1⟩ := fst_ok hob (hX hg E w a hr) hf
  obtain ⟨hes2, news, G2, hx, hl, hone, hor2, hG2, hd2⟩ := snd_ok hob (hY hg E w a hr) hs h1
  obtain ⟨v', w', hrun, hres⟩ := run_append_al (P := cx.P) (ty := o.type) ht hie hiz hzs hv hx hl hone hnd hib
  have hrun' : (execOp a.eval o).run cx.P w = .ok (.value v') w' := by
    simp only [execOp, ho, resolve, invoke, builtin, Sem.run_bind, Sem.run_pure, Result.andThen_ok, List.map_toArray, List.map_cons, List.map_nil, hrun]
  rcases hres with ⟨ad, rfl, rfl, h0, h0'⟩ | ⟨g', cap', c', ty', rfl, hh, hcap, hcs, hold, hnew, hgg, hfr, hsize, hgl, hos, htp, hout⟩
  · have e1 : xs = [] := List.eq_nil_of_length_eq_zero h0
    have e2 : ys = [] := List.eq_nil_of_length_eq_zero h0'
    subst e1 e2
    refine ⟨_, _, 0, 0, False, fun _ => False, hrun', fun _ _ _ => rfl, Nat.le_refl _, rfl, rfl, rfl, fun c h => h.elim, fun c h => h.elim, .rownil _ (by rw [replE_real]; exact id), ?_⟩
    exact .rownil k _ ad (by rw [replE_real]; exact id)
  · have hgk : g' = w.heap.size ∨ E.fp k g' := by
      rcases hgg with h | ⟨hB, cap, h⟩
      · exact .inl h
      · exact .inr (hv2 hB _ _ _ h)
    have hlt : ∀ j x, E.fp j x → x < w.heap.size := fun j x h => (hi.own j x h).1
    refine ⟨_, _, g', cap', True, fun c => c = g' ∨ E.fp k c ∨ ∃ j ∈ ks, E.fp j c, hrun', fun c hc hn => hfr c hc fun e => ?_, hsize, hos, htp, hout, ?_, ?_, ?_, row0_rep (by rw [replE_real]; trivial) replE_bl replE_cap⟩
    · subst e
      rcases hgk with h | h
      · omega
      · exact hn k (by simp) h
    · rintro c (rfl | h | ⟨j, h1, h2⟩)
      · rcases hgk with h | h
        · exact .inr (by omega)
        · exact .inl ⟨k, by simp, h⟩
      · exact .inl ⟨k, by simp, h⟩
      · exact .inl ⟨j, by simp [h1], h2⟩
    · rintro c (rfl | h | ⟨j, h1, h2⟩)
      · exact hgl
      · exact Nat.lt_of_lt_of_le (hlt _ _ h) hsize
      · exact Nat.lt_of_lt_of_le (hlt _ _ h2) hsize
    · refine .row i.size (xs ++ ys) (by rw [replE_real]; trivial) ?_
      rw [replE_fp, replE_bl, replE_cap]
      have hG1' : ∀ a b x, G1 a b x → x ≠ g' := fun a b x hx e => by
        rcases hgg with h | ⟨_, cap, h⟩
        · have := hlt _ _ (hG1 a b x hx).1; omega
        · exact (hG1 a b x hx).2 _ _ _ h e
      have hG2' : ∀ a b x, G2 a b x → x ≠ g' := fun a b x hx e => by
        obtain ⟨j, h1, h2⟩ := hG2 a b x hx
        rcases hgk with h | h
        · have := hlt _ _ h2; omega
        · subst e; have := hi.disj _ _ x h2 h; subst this; exact hkk h1
      refine .sl _ g' cap' i.size (xs ++ ys) c' ty' (fun a b => if a < xs.length then G1 a b else G2 (a - xs.length) b) (.inl rfl) hh hcs (by simpa using hcap) (fun a ha => ?_) (fun a ha b hb => ?_) (fun a b x hx => ?_) (fun a b a' b' x h h' => ?_)
      · by_cases hax : a < xs.length
        · rw [List.getElem_append_left hax]; exact hes1 a hax
        · rw [List.getElem_append_right (by omega)]; exact hes2 _ _
      · by_cases hax : a < xs.length
        · simp only [hax, if_true]
          have e : (xs ++ ys)[a] = xs[a] := List.getElem_append_left hax
          have hb' : b < xs[a].cells.length := by rw [← e]; exact hb
          have := hor1 a hax b hb'
          rw [← hold _ (mul_add_lt hax (by rw [← hes1 a hax]; exact hb'))] at this
          simp only [e]
          exact this.mono _ (fun _ h => h) fun x hx => hfr x (hlt _ _ (hG1 a b x hx).1) (hG1' a b x hx)
        · have hay : a - xs.length < ys.length := by simp at ha; omega
          simp only [hax, if_false]
          have e : (xs ++ ys)[a] = ys[a - xs.length] := List.getElem_append_right (by omega)
          have hb' : b < ys[a - xs.length].cells.length := by rw [← e]; exact hb
          have := hor2 _ hay b hb'
          rw [← hnew _ (mul_add_lt hay (by rw [← hes2 _ hay]; exact hb'))] at this
          rw [show xs.length * i.size + ((a - xs.length) * i.size + b) = a * i.size + b from by rw [← Nat.add_assoc, ← Nat.add_mul, show xs.length + (a - xs.length) = a from by omega]] at this
          simp only [e]
          exact this.mono _ (fun _ h => h) fun x hx => by
            obtain ⟨j, h1, h2⟩ := hG2 _ b x hx
            exact hfr x (hlt _ _ h2) (hG2' _ b x hx)
      · split at hx
        · exact ⟨.inr (.inl (hG1 a b x hx).1), hG1' a b x hx⟩
        · exact ⟨.inr (.inr (hG2 _ b x hx)), hG2' _ b x hx⟩
      · by_cases hax : a < xs.length <;> by_cases hax' : a' < xs.length <;> simp only [hax, hax', if_true, if_false] at h h'
        · exact hd1 _ _ _ _ x h h'
        · obtain ⟨j, h1, h2⟩ := hG2 _ _ x h'
          have := hi.disj _ _ x h2 (hG1 _ _ x h).1; subst this; exact absurd h1 hkk
        · obtain ⟨j, h1, h2⟩ := hG2 _ _ x h
          have := hi.disj _ _ x h2 (hG1 _ _ x h').1; subst this; exact absurd h1 hkk
        · have := hd2 _ _ _ _ x h h'; exact ⟨by omega, this.2⟩
end
end Go.AL
namespace Go.AL
def Imp (cx : Cx) (st st' : State) : Prop := ∀ a w, Sim cx st a w → Sim cx st' a w
section
variable {cx : Cx} {Q : Exit → State → Prop} {st st' : State} {ops : Array Oper} {l : List Oper}
theorem al_imp (hi : Imp cx st st') (h : al cx ops Q l st') : al cx ops Q l st := fun a w hs => h a w (hi a w hs)
theorem aw_imp {c : Code} (hi : Imp cx st st') (h : aw cx c Q st') : aw cx c Q st := fun a w hs => h a w (hi a w hs)
mutual
theorem ren_id : ∀ x : A, x.ren id .tok = x
  | .any | .v _ | .nil | .nilf | .nilp | .yld _ | .tok _ _ => rfl
  | .dat none _ | .pr none _ | .dat (some _) _ | .pr (some _) _ | .row .. | .pe .. | .pt .. => rfl
  | .prv cs => by simp only [A.ren, renL_id cs]
  | .clo _ cs => by simp only [A.ren, renL_id cs]
  | .st cs => by simp only [A.ren, renL_id cs]
  | .tup cs => by simp only [A.ren, renL_id cs]
  | .when _ a => by simp only [A.ren, ren_id a]
theorem renL_id : ∀ l : List A, renL id .tok l = l
  | [] => rfl
  | a :: l => by simp only [renL, ren_id a, renL_id l]
end
theorem oren_id : ∀ o : O, o.ren id .tok = o
  | .var cs => by simp only [O.ren, renL_id]
  | .row _ _ => rfl
  | .lp l r sl => by
    simp only [O.ren]
    congr 1
    conv => rhs; rw [← List.map_id sl]
    exact List.map_congr_left fun p _ => by rw [ren_id]; rfl
def objsAt (st : State) (ρ : Nat → Nat) : List (Nat × O) → Prop
  | [] => True
  | (k, o) :: l => st.objs (ρ k) = some (o.ren ρ .tok) ∧ objsAt st ρ l
def slotsAt (st : State) (ρ : Nat → Nat) : List (Nat × A) → Prop
  | [] => True
  | (t, a) :: l => st.slots t = a.ren ρ .tok ∧ slotsAt st ρ l
def objsIs (st : State) : List (Nat × O) → Prop
  | [] => True
  | (k, o) :: l => st.objs k = some o ∧ objsIs st l
def slotsIs (st : State) : List (Nat × A) → Prop
  | [] => True
  | (t, a) :: l => st.slots t = a ∧ slotsIs st l
structure Fit (cx : Cx) (st : State) (ρ : Nat → Nat) (sl : List (Nat × A)) (ob : List (Nat × O)) : Prop where
  objs : objsAt st ρ ob
  slots : slotsAt st ρ sl
  wo : (ob.all fun p => p.2.within (keyIn ob)) = true
  ws : (sl.all fun p => p.2.within (keyIn ob)) = true
  inj : injOn ρ (ob.map (·.1)) = true
  vk : ∀ k, cx.vk k = true → ρ k = k
theorem objsAt_iff {ρ : Nat → Nat} : ∀ {l : List (Nat × O)}, objsAt st ρ l → ∀ p ∈ l, st.objs (ρ p.1) = some (p.2.ren ρ .tok)
  | [], _, p, hp => by cases hp
  | (k, o) :: l, h, p, hp => by
    rcases List.mem_cons.1 hp with rfl | hp
    · exact h.1
    · exact objsAt_iff h.2 p hp
theorem slotsAt_iff {ρ : Nat → Nat} : ∀ {l : List (Nat × A)}, slotsAt st ρ l → ∀ p ∈ l, st.slots p.1 = p.2.ren ρ .tok
  | [], _, p, hp => by cases hp
  | (k, o) :: l, h, p, hp => by
    rcases List.mem_cons.1 hp with rfl | hp
    · exact h.1
    · exact slotsAt_iff h.2 p hp
theorem Fit.imp {ρ : Nat → Nat} {sl : List (Nat × A)} {ob : List (Nat × O)} (h : Fit cx st ρ sl ob) : Imp cx st (Go.AL.mk sl ob) :=
  fun _ _ hs => hs.fit ⟨objsAt_iff h.objs, h.wo, h.inj, h.vk⟩ (slotsAt_iff h.slots) h.ws
theorem objsIs_at : ∀ {l : List (Nat × O)}, objsIs st l → objsAt st id l
  | [], _ => trivial
  | (_, o) :: _, h => ⟨by rw [oren_id]; exact h.1, objsIs_at h.2⟩
theorem slotsIs_at : ∀ {l : List (Nat × A)}, slotsIs st l → slotsAt st id l
  | [], _ => trivial
  | (_, o) :: _, h => ⟨by rw [ren_id]; exact h.1, slotsIs_at h.2⟩
theorem injOn_id : ∀ l : List Nat, injOn id l = true
  | [] => rfl
  | k :: l => by
    simp only [injOn, injOn_id l, Bool.and_true, List.all_eq_true, id]
    intro x _
    cases Nat.beq k x <;> rfl
theorem Fit.of {sl : List (Nat × A)} {ob : List (Nat × O)} (h1 : objsIs st ob) (h2 : slotsIs st sl) (h3 : (ob.all fun p => p.2.within (keyIn ob)) = true) (h4 : (sl.all fun p => p.2.within (keyIn ob)) = true) : Fit cx st id sl ob :=
  ⟨objsIs_at h1, slotsIs_at h2, h3, h4, injOn_id _, fun _ _ => rfl⟩
theorem aw_loop' {α : Type} {c : Code} (sl : α → List (Nat × A)) (ob : α → List (Nat × O)) (I : α → Prop) (μ : α → Nat) (x0 : α) (hI : I x0) (ρ0 : Nat → Nat) (h0 : Fit cx st ρ0 (sl x0) (ob x0))
    (round : ∀ x, I x → aw cx c (AThen (fun s' => ∃ x' ρ, I x' ∧ μ x' < μ x ∧ Fit cx s' ρ (sl x') (ob x')) Q) (mk (sl x) (ob x))) : aw cx (.loop c) Q st := by
  refine aw_loop (fun x s => I x ∧ ∃ ρ, Fit cx s ρ (sl x) (ob x)) μ x0 ⟨hI, ρ0, h0⟩ ?_
  rintro x s ⟨h1, _, h2⟩
  refine aw_imp h2.imp (aw_mono (round x h1) ?_)
  intro e s' h
  cases e with
  | normal => obtain ⟨x', ρ, h3, h4, h5⟩ := h; exact ⟨x', h4, h3, ρ, h5⟩
  | _ => exact h
theorem aw_seq' {α : Type} {x y : Code} (sl : α → List (Nat × A)) (ob : α → List (Nat × O)) (I : α → Prop) (h : aw cx x (AThen (fun s' => ∃ x' ρ, I x' ∧ Fit cx s' ρ (sl x') (ob x')) Q) st)
    (hy : ∀ x, I x → aw cx y Q (mk (sl x) (ob x))) : aw cx (.seq x y) Q st := by
  refine aw_seq (aw_mono h ?_)
  intro e s' h
  cases e with
  | normal => obtain ⟨x', ρ, h1, h2⟩ := h; exact aw_imp h2.imp (hy x' h1)
  | _ => exact h
theorem nilrow_sim {cx : Cx} {st : State} {a : Act} {w : World} {k es : Nat} (hs : Sim cx st a w) (hvk : cx.vk k = false) (f : (Nat → A) → Nat → A)
    (hf : ∀ E : Env, ¬ E.real k → (∀ t, Rep E w (a.tmps.getD t undef) ((st.slots t).kill (inL [k]) noK)) → (∀ t, Rep E w (a.tmps.getD t undef) (st.slots t) ∨ True) → ∀ t, Rep E w (a.tmps.getD t undef) (f (fun t => (st.slots t).kill (inL [k]) noK) t)) :
    Sim cx { st.repl [] k (.row es []) with slots := f (fun t => (st.slots t).kill (inL [k]) noK) } a w := by
  obtain ⟨rs, h0, h1, E, hi, hr⟩ := hs
  obtain ⟨hi', hrep⟩ := repl_inv (k := k) (b := 0) (cap := 0) (real := False) (F := fun _ => False) (ks := []) (o := .row es []) hi hvk (fun _ _ _ => rfl) (Nat.le_refl _) rfl rfl rfl (fun _ h => h.elim) (fun _ h => h.elim) (.rownil _ (by rw [replE_real]; exact id))
  exact ⟨rs, h0, h1, _, hi', hf _ (by rw [replE_real]; exact id) (fun t => hrep _ _ (hr t)) fun t => .inr trivial⟩
theorem imp_nilrow {k es t : Nat} (hvk : cx.vk k = false) (ht : st.slots t = .nil) : Imp cx st ((st.repl [] k (.row es [])).put t (.row k es 0 0)) := by
  intro a w hs
  refine nilrow_sim (es := es) hs hvk (fun s t' => bif Nat.beq t' t then .row k es 0 0 else s t') fun E hE h1 _ t' => ?_
  cases hb : Nat.beq t' t with
  | false => exact h1 t'
  | true =>
    rw [beq_iff.1 hb]
    have := h1 t
    rw [ht] at this
    generalize a.tmps.getD t undef = u at this ⊢
    cases this with | nil ad => exact .rownil k es ad hE
theorem imp_nilcell {k es j oo : Nat} {cs : List A} (hvk : cx.vk k = false) (hjk : Nat.beq j k = false) (hj : st.objs j = some (.var cs)) (ho : cs[oo]? = some .nil) :
    Imp cx st ((st.repl [] k (.row es [])).set j (.var ((cs.map (A.kill (inL [k]) noK)).set oo (.row k es 0 0)))) := by
  intro a w hs
  obtain ⟨rs, h0, h1, E, hi, hr⟩ := hs
  obtain ⟨hi', hrep⟩ := repl_inv (k := k) (b := 0) (cap := 0) (real := False) (F := fun _ => False) (ks := []) (o := .row es []) hi hvk (fun _ _ _ => rfl) (Nat.le_refl _) rfl rfl rfl (fun _ h => h.elim) (fun _ h => h.elim) (.rownil _ (by rw [replE_real]; exact id))
  refine ⟨rs, h0, h1, _, ⟨fun i o h => ?_, fun i h b hb => ?_, hi'.disj, hi'.own, hi'.rd, hi'.frame, hi'.size, hi'.os, hi'.tape, hi'.output, hi'.R0, hi'.tk0, hi'.bl0, hi'.nd, hi'.mks⟩, fun t => hrep _ _ (hr t)⟩
  · simp only [State.set] at h
    cases hb : Nat.beq i j with
    | false => rw [hb, cond_false] at h; exact hi'.obj i o h
    | true =>
      rw [hb, cond_true] at h
      have hij := beq_iff.1 hb
      subst hij
      injection h with h
      subst h
      have hob := hi'.obj i (.var (cs.map (A.kill (inL [k]) noK))) (by
        simp only [State.repl, hjk, cond_false, inL, hj, Option.map_some, O.kill])
      cases hob with
      | var _ c ty hh hcs hf hrr =>
        refine .var _ c ty hh (by simpa using hcs) hf fun m hm => ?_
        have hm' : m < (cs.map (A.kill (inL [k]) noK)).length := by simpa using hm
        rw [List.getElem_set]
        split
        · rename_i e
          subst e
          have := hrr oo hm'
          obtain ⟨hlt, hcs2⟩ := List.getElem?_eq_some_iff.1 ho
          simp only [List.getElem_map, hcs2] at this
          generalize c.getD oo undef = u at this ⊢
          have this : Rep _ w u .nil := this
          cases this with | nil ad => exact .rownil k es ad (by rw [replE_real]; exact id)
        · exact hrr m hm'
  · simp only [State.set] at h
    cases hbb : Nat.beq i j with
    | true => rw [hbb] at h; simp at h
    | false => rw [hbb, cond_false] at h; exact hi'.dead i h b hb
end
def putCD : List D → Nat → List D → List D
  | cs, _, [] => cs
  | cs, o, a :: asx => putCD (cs.set o a) (o + 1) asx
theorem putCD_length : ∀ (asx : List D) (cs : List D) (o : Nat), (putCD cs o asx).length = cs.length
  | [], _, _ => rfl
  | a :: asx, cs, o => by simp [putCD, putCD_length asx]
theorem putCD_get : ∀ (asx : List D) (cs : List D) (o j : Nat), j < cs.length → (putCD cs o asx)[j]? = if o ≤ j ∧ j < o + asx.length then asx[j - o]? else cs[j]?
  | [], cs, o, j, _ => by simp [putCD]; omega
  | a :: asx, cs, o, j, hj => by
    rw [putCD, putCD_get asx _ _ _ (by simpa using hj), List.getElem?_set]
    simp only [List.length_cons]
    by_cases h1 : o = j
    · subst h1
      rw [if_neg (by omega), if_pos rfl, if_pos hj, if_pos (by omega)]; simp
    · by_cases h2 : o + 1 ≤ j ∧ j < o + 1 + asx.length
      · rw [if_pos h2, if_pos (by omega), show j - o = (j - (o + 1)) + 1 from by omega]; simp
      · rw [if_neg h2, if_neg h1, if_neg (by omega)]
section
variable {cx : Cx} {Q : Exit → State → Prop} {st : State} {ops : Array Oper} {rest : List Oper} {o : Oper} {g : Bool}
theorem al_store_pe {X V : Operand} {t n k es i oo : Nat} {xs : List D} {x x' : D} {ax : A} {ds : List D} {kss : List (List Nat)} {ks : List Nat} (hg : o.guard = none) (ho : o.op = .store t X V) (hd : o.dst = none) (hsz : (cx.P.info? t).map (·.size) = some n)
    (hX : Ev st true X (.pe k es i oo)) (hV : Ev st true V ax) (hk : st.objs k = some (.row es xs)) (hs : ax.solid = true) (hm : MvL st.objs ax.cells ds kss) (hnd : ndup kss.flatten = true) (hks : kss.flatten = ks) (hkk : inL ks k = false)
    (hn : ax.cells.length = n) (hi : xs[i]? = some x) (hfit : Nat.ble (oo + n) x.cells.length = true) (hc : x'.cells = putCD x.cells oo ds)
    (h : al cx ops Q rest (st.upd ks k (.row es (xs.set i x')))) : al cx ops Q (o :: rest) st := by
  intro a w hsim
  refine wpListIn_plain hg fun K hK => ?_
  obtain ⟨rs, h0, h2, E, hinv, hr⟩ := hsim
  subst hks
  have hks' : k ∉ kss.flatten := fun hm => by rw [inL_iff.2 hm] at hkk; cases hkk
  have hrv := hV rfl E w a hr
  obtain ⟨hus, hur⟩ := rep_solid hrv hs
  obtain ⟨hml, _⟩ := hm.get
  obtain ⟨G2, hG1, hG2, hG3⟩ := mvl_own (us := fun j => (a.eval V).cells.getD j undef) hinv.obj hinv.disj hm hnd hur
  have huo : ∀ v ∈ (a.eval V).cells.toList, v.oneCell' = true := fun v hv => by
    obtain ⟨j, hj, rfl⟩ := List.getElem_of_mem hv
    have hj' : j < ds.length := by rw [← hml, ← hus]; simpa using hj
    have := (hG1 j hj').2
    simpa [Array.getD_eq_getD_getElem?, show j < (a.eval V).cells.size by simpa using hj] using this
  have hp := hX rfl E w a hr
  generalize hv : a.eval X = v at hp
  have hfit' : oo + n ≤ x.cells.length := Nat.le_of_ble_eq_true hfit
  obtain ⟨hlt, hxi⟩ := getElem_eq hi
  cases hp with
  | pe _ _ _ _ hreal =>
  have hob := hinv.obj _ _ hk
  cases hob with
  | rownil _ hr' => exact absurd hreal hr'
  | row _ _ _ hown =>
    obtain ⟨c, ty, G, hb, hh, hcs, hcap, hes, hor, hG, hdj⟩ := own_row hown (by omega)
    have hxe : x.cells.length = es := by rw [← hxi]; exact hes i hlt
    have hie : i * es + es ≤ c.size := by
      rw [hcs, ← Nat.succ_mul]; exact Nat.mul_le_mul_right _ (Nat.le_trans hlt hcap)
    have hns : (a.eval V).cells.size = n := hus.trans hn
    refine wp_unit (run_storeOp ho hv hsz hns hh (by omega) huo) (hK _ _ ?_)
    refine h _ _ (upd_sim hd h0 h2 hinv hr hks' hb (fun c' hc' => setRow_other _ _ _ _ hc') (by simp) rfl rfl rfl ?_ _)
    have hn' : (a.eval V).cells.toList.length = n := by simpa using hns
    have hget := seg_get c.toList (a.eval V).cells.toList (i * es + oo)
    rw [hn'] at hget
    have hds : ds.length = n := by rw [← hml, hn]
    have hdG : ∀ a' b' j y, G a' b' y → G2 j y → False := fun a' b' j y h1 h2 => by
      obtain ⟨i', h3, h4⟩ := hG2 j y h2
      have := hinv.disj _ _ y h4 (hG a' b' y h1).1
      subst this; exact hks' h3
    refine .row (E := growE E k kss.flatten) es _ hreal ?_
    show Own _ ((growE E k kss.flatten).fp k) (.slice (some ⟨E.bl k, 0, none⟩) _ (E.cap k)) _
    have hF : (growE E k kss.flatten).fp k = fun b => E.fp k b ∨ ∃ i ∈ kss.flatten, E.fp i b := by simp [growE]
    rw [hF]
    refine .sl _ (E.bl k) (E.cap k) es (xs.set i x') _ ty (fun a' b' => if a' = i ∧ oo ≤ b' ∧ b' < oo + n then G2 (b' - oo) else G a' b') (.inl hb) (setRow_heap _ _ _ _ _ _ hh) (by simp; omega) (by simpa using hcap) (fun a' ha => ?_) (fun a' ha b' hb' => ?_) (fun a' b' y hy => ?_) (fun a1 b1 a2 b2 y hy hy' => ?_)
    · rw [List.getElem_set]
      split
      · rw [hc, putCD_length]; exact hxe
      · exact hes _ _
    · have ha' : a' < xs.length := by simpa using ha
      have keep : ∀ F d, Own w F (c.getD (a' * es + b') undef) d → (∀ y, F y → E.fp k y ∧ y ≠ E.bl k) → Own (w.setRow (E.bl k) (c.toList.take (i * es + oo) ++ (a.eval V).cells.toList ++ c.toList.drop (i * es + oo + n)).toArray) F (c.getD (a' * es + b') undef) d := fun F d hd hy =>
        hd.mono _ (fun _ h => h) fun y hy' => setRow_other _ _ _ _ (hy y hy').2
      by_cases hai : a' = i
      · subst hai
        have e : (xs.set a' x')[a'] = x' := List.getElem_set_self _
        simp only [e, true_and] at hb' ⊢
        have hbx : b' < x.cells.length := by rw [hc, putCD_length] at hb'; exact hb'
        have hpg := putCD_get ds x.cells oo b' hbx
        rw [hds] at hpg
        have hval := hget (a' * es + b') (by simp; omega)
        by_cases hin : oo ≤ b' ∧ b' < oo + n
        · rw [if_pos hin] at hpg ⊢
          have hjd : b' - oo < ds.length := by omega
          rw [if_pos (by omega), show a' * es + b' - (a' * es + oo) = b' - oo from by omega] at hval
          rw [hval]
          have e2 : x'.cells[b'] = ds[b' - oo] := by
            rw [← hc, List.getElem?_eq_getElem hb', List.getElem?_eq_getElem hjd] at hpg
            exact Option.some.inj hpg
          rw [e2]
          have h3 := (hG1 _ hjd).1
          have : (a.eval V).cells.toList.getD (b' - oo) undef = (a.eval V).cells.getD (b' - oo) undef := by simp [Array.getD_eq_getD_getElem?, List.getD_eq_getElem?_getD]
          rw [this]
          refine h3.mono _ (fun _ h => h) fun y hy => setRow_other _ _ _ _ fun e => ?_
          obtain ⟨i', h4, h5⟩ := hG2 _ y hy
          subst e
          have := hinv.disj _ _ _ h5 hb
          subst this; exact hks' h4
        · rw [if_neg hin] at hpg ⊢
          rw [if_neg (by omega)] at hval
          rw [hval]
          have e2 : x'.cells[b'] = x.cells[b'] := by
            rw [← hc, List.getElem?_eq_getElem hb', List.getElem?_eq_getElem hbx] at hpg
            exact Option.some.inj hpg
          rw [e2]
          subst hxi
          have := keep _ _ (hor a' ha' b' hbx) fun y hy => hG a' b' y hy
          simpa using this
      · have e : (xs.set i x')[a'] = xs[a'] := List.getElem_set_ne (Ne.symm hai) _
        simp only [e, hai, false_and, if_false] at hb' ⊢
        have hbe : b' < es := by rw [← hes a' ha']; exact hb'
        have hval := hget (a' * es + b') (by simp; omega)
        rw [if_neg (by
          intro ⟨h1, h2⟩
          rcases Nat.lt_or_gt_of_ne hai with hlt' | hgt
          · have : (a' + 1) * es ≤ i * es := Nat.mul_le_mul_right _ hlt'
            rw [Nat.add_mul] at this; omega
          · have : (i + 1) * es ≤ a' * es := Nat.mul_le_mul_right _ hgt
            rw [Nat.add_mul] at this; omega)] at hval
        rw [hval]
        have := keep _ _ (hor a' ha' b' hb') fun y hy => hG a' b' y hy
        simpa using this
    · split at hy
      · obtain ⟨i', h4, h5⟩ := hG2 _ y hy
        refine ⟨.inr ⟨i', h4, h5⟩, fun e => ?_⟩
        subst e
        have := hinv.disj _ _ _ h5 hb
        subst this; exact hks' h4
      · exact ⟨.inl (hG _ _ y hy).1, (hG _ _ y hy).2⟩
    · by_cases c1 : a1 = i ∧ oo ≤ b1 ∧ b1 < oo + n <;> by_cases c2 : a2 = i ∧ oo ≤ b2 ∧ b2 < oo + n <;> simp only [c1, c2, if_true, if_false, and_self] at hy hy'
      · have := hG3 _ _ y hy hy'; omega
      · exact (hdG _ _ _ y hy' hy).elim
      · exact (hdG _ _ _ y hy hy').elim
      · exact hdj _ _ _ _ y hy hy'
end
end Go.AL
namespace Go.AL
def op1 (cx : Cx) (ops : Array Oper) (o : Oper) (K : Act → World → Prop) (R : Exit → Act → World → Prop) (a : Act) (w : World) : Prop :=
  if Region.wanted o (yielded ops a.tmps) then o.wpIn (fence cx.ro) 0 cx.P a w K R else (∀ f, o.about cx.P w a.eval = some f → (fence cx.ro).fn f) ∧ K (a.put o.dst undef) w
def ad (cx : Cx) (ops : Array Oper) (fuel : Nat) (listed : Array Bool) (Q : Exit → State → Prop) (st : State) : Prop :=
  ∀ a w, Sim cx st a w → wpAnyIn (fence cx.ro) 0 cx.P .any ops (post cx Q) fuel listed a w
section
variable {cx : Cx} {Q : Exit → State → Prop} {st : State} {ops : Array Oper} {listed : Array Bool} {fuel : Nat}
theorem sim_drawn {a : Act} {w : World} (h : Sim cx st a w) (n : Nat) : Sim cx st a { w with drawn := n } := by
  obtain ⟨rs, h0, h1, E, hi, hr⟩ := h
  have hm : ∀ (u : Value) (x : A), Rep E w u x → Rep E { w with drawn := n } u x := fun u x h => h.mono fun _ _ _ => rfl
  refine ⟨rs, h0, h1, E, ⟨fun k o h => ?_, hi.dead, hi.disj, hi.own, hi.rd, hi.frame, hi.size, hi.os, hi.tape, hi.output, hi.R0, hi.tk0, hi.bl0, hi.nd, hi.mks⟩, fun t => hm _ _ (hr t)⟩
  cases hi.obj k o h with
  | var cs c ty hh hs hf hr => exact .var cs c ty hh hs hf fun j hj => hm _ _ (hr j hj)
  | rownil es hr => exact .rownil es hr
  | row es xs hr ho => exact .row es xs hr (ho.mono _ (fun _ h => h) fun _ _ => rfl)
  | lp l r sl hb hf hh hr => exact .lp l r sl hb hf hh fun t => hm _ _ (hr t)
def readyL (ops : Array Oper) (listed : Array Bool) : List Nat :=
  (List.range ops.size).filter fun i => !listed.getD i true && ((ops[i]?).map (·.after.toList.all fun e => !Region.binds .any e || listed.getD e.on false)).getD false
theorem readyL_eq (ops : Array Oper) (listed : Array Bool) : Region.ready .any ops listed = readyL ops listed := by
  unfold Region.ready readyL
  congr 1
  funext i
  cases ops[i]? with
  | none => rfl
  | some o => simp only [Option.map_some, Option.getD_some, Array.all_toList]
theorem aw_draw {id : Nat} (hm : cx.P.follows .mixedOrders = true) (h : ad cx ops ops.size (Array.replicate ops.size false) Q st) : aw cx (.region id ops true) Q st :=
  fun a w hs => wpIn_region_any hm (h a _ (sim_drawn hs _))
theorem ad_done (hr : readyL ops listed = []) (h : Q .normal st) : ad cx ops fuel listed Q st :=
  fun _ _ hs => wpAnyIn_done ((readyL_eq ops listed).trans hr) ⟨st, h, hs⟩ fuel
theorem wpIn_conv {o : Oper} {K K' : Act → World → Prop} {R R' : Exit → Act → World → Prop} {a : Act} {w : World} (hK : ∀ a w, K a w → K' a w) (hp : ∀ c a w, R (.panic c) a w → R' (.panic c) a w) (hl : LetsOut R → LetsOut R')
    (h : o.wpIn (fence cx.ro) 0 cx.P a w K R) : o.wpIn (fence cx.ro) 0 cx.P a w K' R' := by
  unfold Oper.wpIn at *
  refine ⟨h.1, ?_⟩
  have hh := h.2
  generalize (o.semAt (fence cx.ro).round a.eval).run cx.P w = r at *
  cases r with
  | ok x w' =>
    cases x <;> simp only [Oper.uponIn] at hh ⊢
    case value => exact hK _ _ hh
    case skip => exact hK _ _ hh
    case defer => exact hK _ _ hh
    case enter => exact ⟨hh.1, CallsIn.mono hh.2 fun e w'' he => by cases e <;> first | exact hK _ _ he | exact hp _ _ _ he | exact hl he⟩
    case row => exact ⟨hh.1, RowsIn.mono hh.2 fun _ _ he => hK _ _ he⟩
    case round => exact ⟨hh.1, RoundIn.mono hh.2 fun e w'' he => by cases e <;> first | exact hK _ _ he | exact hp _ _ _ he | exact hl he⟩
  | halt x w' => cases x <;> simp only [Oper.uponIn] at hh ⊢ <;> first | exact hp _ _ _ hh | exact hh
theorem op1_conv {o : Oper} {K K' : Act → World → Prop} {R R' : Exit → Act → World → Prop} {a : Act} {w : World} (hK : ∀ a w, K a w → K' a w) (hp : ∀ c a w, R (.panic c) a w → R' (.panic c) a w) (hl : LetsOut R → LetsOut R')
    (h : op1 cx ops o K R a w) : op1 cx ops o K' R' a w := by
  unfold op1 at *
  split at h <;> rename_i hw
  · rw [if_pos hw]; exact wpIn_conv hK hp hl h
  · rw [if_neg hw]; exact ⟨h.1, hK _ _ h.2⟩
theorem al_op1 {o : Oper} {N : State → Prop} (h : al cx ops (AThen N Q) [o] st) {a : Act} {w : World} (hs : Sim cx st a w) : op1 cx ops o (fun a' w' => ∃ s, N s ∧ Sim cx s a' w') (post cx Q) a w := by
  have h1 := h a w hs
  have h2 : op1 cx ops o (fun a' w' => post cx (AThen N Q) .normal a' w') (post cx (AThen N Q)) a w := h1
  exact op1_conv (fun _ _ h => h) (fun _ _ _ h => h) (fun h => h) h2
theorem ad_one {i : Nat} {o : Oper} (hr : readyL ops listed = [i]) (ho : ops[i]? = some o) (h : al cx ops (AThen (ad cx ops fuel (listed.setIfInBounds i true) Q) Q) [o] st) : ad cx ops (fuel + 1) listed Q st := by
  intro a w hs
  refine wpAnyIn_all ((readyL_eq ops listed).trans hr) (by simp) fun j hj => ?_
  have e : j = i := by simpa using hj
  subst e
  have := al_op1 h hs
  unfold wpOpIn
  rw [ho]
  exact op1_conv (fun a' w' ⟨s, h1, h2⟩ => h1 a' w' h2) (fun _ _ _ h => h) (fun h => h) this
inductive AdL (cx : Cx) (ops : Array Oper) (fuel : Nat) (listed : Array Bool) (Q : Exit → State → Prop) (st : State) : List Nat → Prop
  | nil : AdL cx ops fuel listed Q st []
  | cons {i : Nat} {o : Oper} {l : List Nat} (ho : ops[i]? = some o) (h : al cx ops (AThen (ad cx ops fuel (listed.setIfInBounds i true) Q) Q) [o] st) (t : AdL cx ops fuel listed Q st l) : AdL cx ops fuel listed Q st (i :: l)
theorem ad_all {l : List Nat} (hr : readyL ops listed = l) (hne : l ≠ []) (h : AdL cx ops fuel listed Q st l) : ad cx ops (fuel + 1) listed Q st := by
  intro a w hs
  refine wpAnyIn_all ((readyL_eq ops listed).trans hr) hne ?_
  clear hr hne
  induction h with
  | nil => intro j hj; cases hj
  | cons ho h t ih =>
    intro j hj
    rcases List.mem_cons.1 hj with rfl | hj
    · have := al_op1 h hs
      unfold wpOpIn
      rw [ho]
      exact op1_conv (fun a' w' ⟨s, h1, h2⟩ => h1 a' w' h2) (fun _ _ _ h => h) (fun h => h) this
    · exact ih j hj
end
structure PD where
  i : Nat
  d : Nat
  r : A
  bef : List Nat
  new : List (Nat × O)
def overO (objs : Nat → Option O) (new : List (Nat × O)) : Nat → Option O := fun j => match objL new j with | some o => some o | none => objs j
def hitO (K : Nat → Bool) : O → Bool
  | .var cs => hitL K noK cs
  | .row _ _ => false
  | .lp _ _ sl => hitL K noK (sl.map (·.2))
def StepD (cx : Cx) (ops : Array Oper) (V : State) (o : Oper) (r : A) (new : List (Nat × O)) : Prop :=
  ∀ (rs : List Nat) (E : Env) (a : Act) (w : World) (objs' : Nat → Option O) (K : Act → World → Prop) (R : Exit → Act → World → Prop), Inv (cx.at rs) E objs' w → (∀ k o', V.objs k = some o' → objs' k = some o') → (∀ t, Rep E w (a.tmps.getD t undef) (V.slots t)) → a.tmps.size = cx.N →
    (∀ k, keyIn new k = true → objs' k = none ∧ cx.vk k = false) → (∀ j o', objs' j = some o' → hitO (keyIn new) o' = false) →
    (∀ u w' E', Inv (cx.at rs) E' (overO objs' new) w' → (∀ x u', Rep E w u' x → x.hit (keyIn new) noK = false → Rep E' w' u' x) → Rep E' w' u r → K (a.put o.dst u) w') → op1 cx ops o K R a w
section
variable {cx : Cx} {V : State} {ops : Array Oper} {o : Oper}
theorem wanted_none (hg : o.guard = none) (y : Nat → Option Bool) : Region.wanted o y = true := by simp [Region.wanted, hg]
theorem stepD_op {r : A} (hg : o.guard = none) (hop : OpP cx V true o r) : StepD cx ops V o r [] := by
  intro rs E a w objs' K R hi hob hr _ _ _ hK
  obtain ⟨u, hrun, hu⟩ := hop rfl E a w (fun k o' h => hi.obj _ _ (hob k o' h)) hr
  unfold op1
  rw [if_pos (wanted_none hg _)]
  exact wp_value hrun (hK u w E hi (fun _ _ h _ => h) hu)
theorem wanted_of {E : Env} {w : World} {a : Act} {j tj : Nat} {want g : Bool} (hr : ∀ t, Rep E w (a.tmps.getD t undef) (V.slots t)) (h1 : a.tmps.size = cx.N) (hg : o.guard = some (j, want)) (hj : (ops[j]?).bind (·.dst) = some tj) (hgv : gval (V.slots tj) want = some g) (htj : Nat.blt tj cx.N = true) :
    Region.wanted o (yielded ops a.tmps) = g := by
  have htj' : tj < a.tmps.size := by rw [h1]; exact Nat.blt_eq ▸ htj
  simp only [Region.wanted, hg, yielded, hj, Option.bind_some]
  have hx := gval_wanted hgv (hr tj)
  rw [← hx]
  simp only [Array.getD_eq_getD_getElem?, Array.getElem?_eq_getElem htj', Option.getD_some]
  rfl
theorem stepD_opg {j tj : Nat} {want g : Bool} {r : A} (hg : o.guard = some (j, want)) (hj : (ops[j]?).bind (·.dst) = some tj) (hgv : gval (V.slots tj) want = some g) (htj : Nat.blt tj cx.N = true) (hop : OpP cx V g o r) : StepD cx ops V o (.when g r) [] := by
  intro rs E a w objs' K R hi hob hr h1 _ _ hK
  have hw := wanted_of hr h1 hg hj hgv htj
  unfold op1
  rw [hw]
  cases g with
  | true =>
    obtain ⟨u, hrun, hu⟩ := hop rfl E a w (fun k o' h => hi.obj _ _ (hob k o' h)) hr
    simp only [if_true]
    exact wp_value hrun (hK u w E hi (fun _ _ h _ => h) (.when _ _ _ (fun _ => hu) (fun e => by cases e)))
  | false =>
    simp only [Bool.false_eq_true, if_false]
    exact ⟨fun _ _ => trivial, hK undef w E hi (fun _ _ h _ => h) (.when _ _ _ (fun e => by cases e) (fun _ => rfl))⟩
theorem okill_of {K : Nat → Bool} {o : O} (h : hitO K o = false) : o.kill K noK = o := by
  cases o with
  | row => rfl
  | var cs =>
    simp only [hitO] at h
    simp only [O.kill]
    congr 1
    conv => rhs; rw [← List.map_id cs]
    refine List.map_congr_left fun a ha => ?_
    obtain ⟨j, hj, rfl⟩ := List.getElem_of_mem ha
    rw [A.kill_eq, hitL_get h j hj]; rfl
  | lp l r sl =>
    simp only [hitO] at h
    simp only [O.kill]
    congr 1
    conv => rhs; rw [← List.map_id sl]
    refine List.map_congr_left fun p hp => ?_
    obtain ⟨j, hj, rfl⟩ := List.getElem_of_mem hp
    have := hitL_get h j (by simpa using hj)
    simp only [List.getElem_map] at this
    rw [A.kill_eq, this]; rfl
theorem inL1 (k : Nat) : inL [k] = keyIn [(k, (.row 0 [] : O))] := by
  funext j
  simp only [inL, keyIn, objL, Bool.or_false]
  cases Nat.beq j k <;> rfl
theorem keyIn1 (k : Nat) (ob : O) : keyIn [(k, ob)] = inL [k] := by
  funext j
  simp only [inL, keyIn, objL, Bool.or_false]
  cases Nat.beq j k <;> rfl
theorem stepD_opc {k : Nat} {ob : O} {r : A} (hg : o.guard = none) (hop : OpC cx V true o [] k ob r) : StepD cx ops V o r [(k, ob)] := by
  intro rs E a w objs' K R hi hob hr h1 hnew hno hK
  obtain ⟨u, w', b, cap, real, F, hrun, hw, hsz, hos, htp, hout, hF, hF2, ho, hx⟩ := hop rfl rs E a w objs' hi (fun k o' h => hi.obj _ _ (hob k o' h)) hr
  unfold op1
  rw [if_pos (wanted_none hg _)]
  rw [keyIn1] at hno
  have hk := hnew k (by rw [keyIn1]; simp [inL])
  let st' : State := ⟨fun _ => .any, objs'⟩
  obtain ⟨hi', hrep⟩ := repl_inv (st := st') (ks := []) (k := k) (b := b) (cap := cap) (real := real) (F := F) (o := ob) hi hk.2 hw hsz hos htp hout hF hF2 ho
  refine wp_value hrun (hK u w' _ ?_ (fun x u' h hh => ?_) hx)
  · have : overO objs' [(k, ob)] = (st'.repl [] k ob).objs := by
      funext j
      simp only [overO, objL, State.repl, inL, Bool.or_false]
      cases hb : Nat.beq j k with
      | true => rfl
      | false =>
        simp only [cond_false]
        cases hj : objs' j with
        | none => simp [st', hj]
        | some o' =>
          simp only [st', hj, Option.map_some]
          have := okill_of (hno j o' hj)
          simp only [inL, Bool.or_false] at this
          rw [this]
    rw [this]; exact hi'
  · rw [keyIn1] at hh
    have := hrep u' x h
    rwa [A.kill_eq, hh] at this
theorem Vw.mono {objs objs' : Nat → Option O} {pre : List (Nat × O)} {ρ : Nat → Nat} (ho : ∀ k o, objs k = some o → objs' k = some o) {a a' : A} (h : Vw objs pre ρ a a') : Vw objs' pre ρ a a' := by
  induction h with
  | any a => exact .any a
  | v x => exact .v x
  | vdat x => exact .vdat x
  | datn x => exact .datn x
  | dats k x h => exact .dats k x h
  | nil => exact .nil
  | nild es => exact .nild es
  | nilf => exact .nilf
  | yld l => exact .yld l
  | nilp => exact .nilp
  | row k es lo n xs ys hk h hn hy => exact .row k es lo n xs ys (ho _ _ hk) h hn hy
  | rowL i es lo n h => exact .rowL i es lo n h
  | ptL i o h => exact .ptL i o h
  | pt k o cs cs' hk h hl hne hv ih => exact .pt k o cs cs' (ho _ _ hk) h hl hne ih
  | prn cs => exact .prn cs
  | prs k cs h => exact .prs k cs h
  | prv cs cs' hl hv ih => exact .prv cs cs' hl ih
  | clo f cs cs' hl hv ih => exact .clo f cs cs' hl ih
  | st cs cs' hl hv ih => exact .st cs cs' hl ih
  | tup cs cs' hl hv ih => exact .tup cs cs' hl ih
  | stD cs ds hl hv ih => exact .stD cs ds hl ih
  | when g a a' hg h ih => exact .when g a a' hg ih
def impP (ρ : Nat → Nat) (T : Nat → Nat → A) (post : List (Nat × O)) : List (Nat × O) := post.map fun p => (ρ p.1, p.2.imp ρ T)
theorem killK_impP (ρ : Nat → Nat) (T : Nat → Nat → A) (post : List (Nat × O)) : killK [] post ρ = keyIn (impP ρ T post) := by
  funext k
  simp only [killK, List.any_nil, Bool.false_or]
  have e : ∀ p : Nat × O, (Nat.beq (ρ p.1) k && !keyIn [] p.1) = Nat.beq (ρ p.1) k := fun p => by simp [keyIn, objL]
  simp only [e]
  induction post with
  | nil => rfl
  | cons p l ih =>
    rw [List.any_cons, ih]
    simp only [impP, List.map_cons, keyIn, objL]
    cases hb : Nat.beq (ρ p.1) k with
    | true => have := beq_iff.1 hb; subst this; simp
    | false =>
      have : Nat.beq k (ρ p.1) = false := by cases hb' : Nat.beq k (ρ p.1) with | false => rfl | true => rw [beq_iff.2 (beq_iff.1 hb').symm] at hb; cases hb
      simp [this]
theorem lentK_nil (ρ : Nat → Nat) : lentK [] ρ = noK := rfl
theorem setL_over (objs : Nat → Option O) (ρ : Nat → Nat) (T : Nat → Nat → A) (post : List (Nat × O)) : setL objs ρ T post = overO objs (impP ρ T post) := by
  funext j
  induction post with
  | nil => rfl
  | cons p l ih =>
    obtain ⟨k, o⟩ := p
    simp only [setL, overO, impP, List.map_cons, objL]
    simp only [overO, impP] at ih
    cases Nat.beq j (ρ k) with
    | true => rfl
    | false => exact ih
theorem over_congr {objs objs' : Nat → Option O} {new : List (Nat × O)} (h : ∀ j, keyIn new j = false → objs j = objs' j) : overO objs new = overO objs' new := by
  funext j
  simp only [overO]
  cases hj : objL new j with
  | some o => rfl
  | none => exact h j (by simp [keyIn, hj])
theorem stepD_call {f : Nat} {asx cargs : List A} {post : List (Nat × O)} {res r : A} {new : List (Nat × O)} (ρ : Nat → Nat) (hg : o.guard = none) (hco : CallOf cx V true o f asx) (hok : Ok cx.P f cargs [] res post)
    (hv : VwL V.objs [] ρ asx cargs) (hinj : injOn ρ (post.map (·.1)) = true) (hwp : (post.all fun p => p.2.within (keyIn post)) = true) (hwr : res.within (keyIn post) = true)
    (hr' : ∀ T, res.imp ρ T = r) (hp' : ∀ T, impP ρ T post = new) : StepD cx ops V o r new := by
  intro rs E a w objs' K R hi hob hr h1 hnew hno hK
  obtain ⟨vs, hrun, hlen, hrep⟩ := hco rfl E a w hr
  let st' : State := ⟨fun _ => .any, objs'⟩
  have hinv := callee_inv (pre := []) (ρ := ρ) (w := w) hi (fun i o ho => by cases ho) (fun i j h => by simp [keyIn, objL] at h)
  obtain ⟨hl, hvw⟩ := hv.get
  have hcall := hok.2 (calleeCx cx.P E w [] ρ) (calleeE E w [] ρ) vs rfl rfl (fun _ => rfl) hinv (by omega) (fun j hj => Rep.view hi (fun i h => by simp [keyIn, objL] at h) ((hvw j (by omega) hj).mono hob) _ (hrep j (by omega)))
  unfold op1
  rw [if_pos (wanted_none hg _)]
  refine ⟨fun _ _ => trivial, ?_⟩
  have hnd : ∀ c, o.op ≠ .defer c := by
    intro c hc
    have := hrun hok.1
    simp only [execOp, hc, Sem.run_bind] at this
    cases hr' : (resolve a.eval c o.type).run cx.P w with
    | ok d w1 => rw [hr'] at this; simp at this
    | halt e w1 => rw [hr'] at this; simp at this
  rw [Oper.semAt_eq _ _ _ hnd, hrun hok.1]
  refine ⟨fun h => by simp [fence] at h, fence_calls (hcall.mono ?_)⟩
  rintro e w' ⟨v, E1, rfl, hi1, hr1⟩
  obtain ⟨E2, h2, hrep2, hres, _⟩ := after_env (st := st') (pre := []) (ρ := ρ) hi (fun i o ho => by cases ho) (by simpa using hinj) hwp hwr
    (fun p hp => .inr (hnew _ (by
      rw [← hp' fun _ _ => .any]
      have : (ρ p.1, p.2.imp ρ fun _ _ => .any) ∈ impP ρ (fun _ _ => .any) post := List.mem_map.2 ⟨p, hp, rfl⟩
      have gen : ∀ (l : List (Nat × O)) (q : Nat × O), q ∈ l → keyIn l q.1 = true := by
        intro l q hq
        induction l with
        | nil => cases hq
        | cons b l ih =>
          simp only [keyIn, objL]
          cases hb : Nat.beq q.1 b.1 with
          | true => simp
          | false =>
            rcases List.mem_cons.1 hq with rfl | hq
            · rw [beq_iff.2 rfl] at hb; cases hb
            · exact ih hq
      exact gen _ _ this)).2) hi1 hr1
  have hkk : killK [] post ρ = keyIn new := by rw [killK_impP ρ (fun _ _ => .any), hp']
  refine hK v w' E2 ?_ (fun x u' h hh => ?_) (by rw [← hr' _]; exact hres)
  · have : (afterCall st' [] post ρ res 0).objs = overO objs' new := by
      show setL (st'.kill (killK [] post ρ) (lentK [] ρ)).objs ρ _ post = _
      rw [setL_over, hp']
      refine over_congr fun j hj => ?_
      simp only [State.kill, hkk, lentK_nil, hj, cond_false, st']
      cases ho : objs' j with
      | none => rfl
      | some o' => rw [Option.map_some, okill_of (hno j o' ho)]
    rw [← this]; exact h2
  · have := hrep2 u' x h
    rw [hkk, lentK_nil] at this
    rwa [A.kill_eq, hh] at this
end
end Go.AL
namespace Go.AL
def OpM (cx : Cx) (V : State) (g : Bool) (o : Oper) (r : A) : Prop :=
  g = true → ∀ (E : Env) (a : Act) (w : World), (∀ t, Rep E w (a.tmps.getD t undef) (V.slots t)) → ∃ u, (∀ w', (execOp a.eval o).run cx.P w' = .ok (.value u) w') ∧ Rep E w u r
theorem OpM.toP {cx : Cx} {V : State} {g : Bool} {o : Oper} {r : A} (h : OpM cx V g o r) : OpP cx V g o r :=
  fun hg E a w _ hr => let ⟨u, h1, h2⟩ := h hg E a w hr; ⟨u, h1 w, h2⟩
def pdSlot : List PD → (Nat → Bool) → (Nat → A) → Nat → A
  | [], _, base, t => base t
  | p :: l, L, base, t => bif Nat.beq t p.d then (bif L p.i then p.r else .any) else pdSlot l L base t
def pdObj : List PD → (Nat → Bool) → (Nat → Option O) → Nat → Option O
  | [], _, base, j => base j
  | p :: l, L, base, j => match objL p.new j with
    | some o => bif L p.i then some o else none
    | none => pdObj l L base j
def pdKeys : List PD → List Nat
  | [] => []
  | p :: l => p.new.map (·.1) ++ pdKeys l
def S0 (st : State) (K : List Nat) : State := ⟨fun t => (st.slots t).kill (inL K) noK, fun j => bif inL K j then none else (st.objs j).map (O.kill (inL K) noK)⟩
def SL (st : State) (ps : List PD) (L : Nat → Bool) : State := ⟨pdSlot ps L (S0 st (pdKeys ps)).slots, pdObj ps L (S0 st (pdKeys ps)).objs⟩
section
variable {cx : Cx} {Q : Exit → State → Prop} {st : State} {ops : Array Oper}
theorem pdSlot_out {ps : List PD} {L : Nat → Bool} {base : Nat → A} {t : Nat} (h : ∀ p ∈ ps, p.d ≠ t) : pdSlot ps L base t = base t := by
  induction ps with
  | nil => rfl
  | cons p l ih =>
    simp only [pdSlot]
    have : Nat.beq t p.d = false := by cases hb : Nat.beq t p.d with | false => rfl | true => exact absurd (beq_iff.1 hb).symm (h p (by simp))
    rw [this, cond_false]; exact ih fun q hq => h q (by simp [hq])
theorem ndup_head {a : Nat} {l : List Nat} (h : ndup (a :: l) = true) : a ∉ l ∧ ndup l = true := by
  simp only [ndup, Bool.and_eq_true, Bool.not_eq_true'] at h
  exact ⟨fun hm => (by rw [inL_iff.2 hm] at h; cases h.1), h.2⟩
theorem pdSlot_at {ps : List PD} {L : Nat → Bool} {base : Nat → A} {p : PD} (hp : p ∈ ps) (hd : ndup (ps.map (·.d)) = true) : pdSlot ps L base p.d = bif L p.i then p.r else .any := by
  induction ps with
  | nil => cases hp
  | cons q l ih =>
    simp only [pdSlot]
    obtain ⟨h1, h2⟩ := ndup_head hd
    rcases List.mem_cons.1 hp with rfl | hp
    · rw [beq_iff.2 rfl, cond_true]
    · have : Nat.beq p.d q.d = false := by
        cases hb : Nat.beq p.d q.d with
        | false => rfl
        | true => exact absurd (List.mem_map.2 ⟨p, hp, beq_iff.1 hb⟩) h1
      rw [this, cond_false]; exact ih hp h2
theorem pdSlot_rest {ps : List PD} {L L' : Nat → Bool} {base : Nat → A} {t : Nat} (h : ∀ p ∈ ps, p.d = t → L' p.i = L p.i) : pdSlot ps L' base t = pdSlot ps L base t := by
  induction ps with
  | nil => rfl
  | cons q l ih =>
    simp only [pdSlot]
    cases hb : Nat.beq t q.d with
    | true => simp only [cond_true]; rw [h q (by simp) (beq_iff.1 hb).symm]
    | false => simp only [cond_false]; exact ih fun p hp => h p (by simp [hp])
theorem objL_key {l : List (Nat × O)} {j : Nat} {o : O} (h : objL l j = some o) : j ∈ l.map (·.1) := List.mem_map.2 ⟨(j, o), objL_some h, rfl⟩
theorem pdKeys_mem {ps : List PD} {p : PD} (hp : p ∈ ps) {j : Nat} (h : j ∈ p.new.map (·.1)) : j ∈ pdKeys ps := by
  induction ps with
  | nil => cases hp
  | cons q l ih =>
    simp only [pdKeys]
    rcases List.mem_cons.1 hp with rfl | hp
    · exact List.mem_append_left _ h
    · exact List.mem_append_right _ (ih hp)
theorem pdObj_new {ps : List PD} {L L' : Nat → Bool} {base : Nat → Option O} {p : PD} (hp : p ∈ ps) (hk : ndup (pdKeys ps) = true) (hi : ndup (ps.map (·.i)) = true) (h1 : L' p.i = true) (h2 : ∀ j, j ≠ p.i → L' j = L j) :
    pdObj ps L' base = overO (pdObj ps L base) p.new := by
  funext j
  induction ps with
  | nil => cases hp
  | cons q l ih =>
    obtain ⟨k1, k2, k3⟩ := ndup_append (show ndup (q.new.map (·.1) ++ pdKeys l) = true from hk)
    obtain ⟨i1, i2⟩ := ndup_head hi
    simp only [pdObj, overO]
    rcases List.mem_cons.1 hp with rfl | hp
    · cases ho : objL p.new j with
      | some o => simp only [h1, cond_true]
      | none =>
        simp only
        have gen : ∀ m : List PD, (∀ r ∈ m, r.i ≠ p.i) → pdObj m L' base j = pdObj m L base j := by
          intro m hm
          induction m with
          | nil => rfl
          | cons r m ihm =>
            simp only [pdObj]
            rw [h2 _ (hm r (by simp)), ihm fun s hs => hm s (by simp [hs])]
        exact gen l fun r hr e => i1 (List.mem_map.2 ⟨r, hr, e⟩)
    · have hqi : q.i ≠ p.i := fun e => i1 (List.mem_map.2 ⟨p, hp, e.symm⟩)
      cases hq : objL q.new j with
      | some o =>
        simp only
        have hpn : objL p.new j = none := by
          cases hpj : objL p.new j with
          | none => rfl
          | some o' => exact absurd (pdKeys_mem hp (objL_key hpj)) (k3 j (objL_key hq))
        simp only [hpn, h2 _ hqi]
      | none =>
        simp only
        have := ih hp k2 i2
        simpa only [overO] using this
theorem pdObj_free {ps : List PD} {L : Nat → Bool} {base : Nat → Option O} {p : PD} (hp : p ∈ ps) (hk : ndup (pdKeys ps) = true) (hL : L p.i = false) {j : Nat} (hj : keyIn p.new j = true) : pdObj ps L base j = none := by
  obtain ⟨o, ho⟩ := Option.isSome_iff_exists.1 hj
  induction ps with
  | nil => cases hp
  | cons q l ih =>
    obtain ⟨k1, k2, k3⟩ := ndup_append (show ndup (q.new.map (·.1) ++ pdKeys l) = true from hk)
    simp only [pdObj]
    rcases List.mem_cons.1 hp with rfl | hp
    · rw [ho]; simp only [hL, cond_false]
    · have : objL q.new j = none := by
        cases hq : objL q.new j with
        | none => rfl
        | some o' => exact absurd (pdKeys_mem hp (objL_key ho)) (k3 j (objL_key hq))
      rw [this]; exact ih hp k2
theorem pdSlot_le {ps : List PD} {L L' : Nat → Bool} {base : Nat → A} (h : ∀ j, L j = true → L' j = true) (t : Nat) : pdSlot ps L base t = pdSlot ps L' base t ∨ pdSlot ps L base t = .any := by
  induction ps with
  | nil => exact .inl rfl
  | cons q l ih =>
    simp only [pdSlot]
    cases Nat.beq t q.d with
    | false => exact ih
    | true =>
      simp only [cond_true]
      cases hq : L q.i with
      | false => exact .inr rfl
      | true => rw [h _ hq]; exact .inl rfl
theorem pdObj_le {ps : List PD} {L L' : Nat → Bool} {base : Nat → Option O} (h : ∀ j, L j = true → L' j = true) {j : Nat} {o : O} (ho : pdObj ps L base j = some o) : pdObj ps L' base j = some o := by
  induction ps with
  | nil => exact ho
  | cons q l ih =>
    simp only [pdObj] at ho ⊢
    cases hq : objL q.new j with
    | none => rw [hq] at ho; exact ih ho
    | some o' =>
      rw [hq] at ho
      simp only at ho ⊢
      cases hL : L q.i with
      | false => rw [hL] at ho; cases ho
      | true => rw [hL] at ho; rw [h _ hL]; exact ho
mutual
theorem hit_mono {K K' : Nat → Bool} (h : ∀ k, K' k = true → K k = true) : ∀ x : A, x.hit K noK = false → x.hit K' noK = false
  | .any, _ | .v _, _ | .nil, _ | .nilf, _ | .nilp, _ | .yld _, _ | .tok _ _, _ | .dat none _, _ | .pr none _, _ => rfl
  | .dat (some k) _, hh | .pr (some k) _, hh | .row k _ _ _, hh | .pe k _ _ _, hh => by
    simp only [A.hit, noK, Bool.or_false] at hh ⊢
    cases hk : K' k with
    | false => rfl
    | true => rw [h k hk] at hh; cases hh
  | .pt k _, hh => by
    simp only [A.hit] at hh ⊢
    cases hk : K' k with
    | false => rfl
    | true => rw [h k hk] at hh; cases hh
  | .prv cs, hh | .clo _ cs, hh | .st cs, hh | .tup cs, hh => hitL_mono h cs hh
  | .when _ a, hh => hit_mono h a hh
theorem hitL_mono {K K' : Nat → Bool} (h : ∀ k, K' k = true → K k = true) : ∀ l : List A, hitL K noK l = false → hitL K' noK l = false
  | [], _ => rfl
  | a :: l, hh => by
    simp only [hitL, Bool.or_eq_false_iff] at hh ⊢
    exact ⟨hit_mono h a hh.1, hitL_mono h l hh.2⟩
end
theorem kill_hit {K : Nat → Bool} (x : A) : (x.kill K noK).hit K noK = false := by
  rw [A.kill_eq]
  cases h : x.hit K noK with
  | true => rfl
  | false => exact h
theorem killL_hit {K : Nat → Bool} : ∀ cs : List A, hitL K noK (cs.map (A.kill K noK)) = false
  | [] => rfl
  | a :: l => by simp only [List.map_cons, hitL, kill_hit, killL_hit l, Bool.or_false]
theorem okill_hit {K : Nat → Bool} (o : O) : hitO K (o.kill K noK) = false := by
  cases o with
  | row => rfl
  | var cs => exact killL_hit cs
  | lp l r sl =>
    simp only [O.kill, hitO, List.map_map]
    have := killL_hit (K := K) (sl.map (·.2))
    rw [List.map_map] at this
    exact this
theorem hitO_mono {K K' : Nat → Bool} (h : ∀ k, K' k = true → K k = true) {o : O} (ho : hitO K o = false) : hitO K' o = false := by
  cases o with
  | row => rfl
  | var cs => exact hitL_mono h cs ho
  | lp l r sl => exact hitL_mono h _ ho
def edge (ops : Array Oper) (i j : Nat) : Bool := ((ops[i]?).map fun o => o.after.toList.any fun e => Region.binds .any e && Nat.beq e.on j).getD false
def befOk (ops : Array Oper) (ps : List PD) (i : Nat) (bef : List Nat) : Bool :=
  bef.all fun b => edge ops i b || ps.any fun q => edge ops i q.i && inL q.bef b
def isDst : Option Nat → Nat → Bool
  | some t, d => Nat.beq t d
  | none, _ => false
def pdOk (cx : Cx) (ops : Array Oper) (ps : List PD) : Bool :=
  ndup (ps.map (·.d)) && ndup (pdKeys ps) && ndup (ps.map (·.i)) &&
  ps.all (fun p => Nat.blt p.d cx.N && isDst ((ops[p.i]?).bind (·.dst)) p.d && befOk ops ps p.i p.bef &&
    ((ops[p.i]?).map fun o => o.after.toList.all fun e => !(Region.binds .any e) || (Nat.blt e.on p.i && inL (ps.map (·.i)) e.on)).getD false &&
    ps.all (fun q => Nat.beq q.i p.i || inL q.bef p.i || (!(q.r.hit (keyIn p.new) noK) && q.new.all fun n => !(hitO (keyIn p.new) n.2))))
def tailOk (ops : Array Oper) (ps : List PD) (fr : List Nat) : Bool :=
  (List.range ops.size).all fun i => inL (ps.map (·.i)) i || ((ops[i]?).map fun o => o.after.toList.any fun e => Region.binds .any e && !(inL (ps.map (·.i)) e.on)).getD false ||
    ps.all fun p => inL fr p.i || edge ops i p.i || ps.any fun q => edge ops i q.i && inL q.bef p.i
def noSel (ops : Array Oper) : Bool := ops.toList.all fun o => match o.op with | .select .. => false | _ => true
def freeOk (ops : Array Oper) (ps : List PD) (fr : List Nat) : Bool :=
  noSel ops && fr.all fun i => (List.range ops.size).all fun j => Nat.beq j i || (inL (ps.map (·.i)) j && !(inL fr j)) || edge ops j i ||
    ((ops[i]?).bind fun oi => (ops[j]?).map fun oj => oi.apart ops oj).getD true
end
end Go.AL
