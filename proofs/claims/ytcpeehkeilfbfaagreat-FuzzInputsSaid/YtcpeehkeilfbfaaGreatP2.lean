/- Parts Ap, Aq, Ar, As, At, B, S, C1, C2, C3, C4, C5, C6, C7: a logic over abstract states, contracts of the code and plain laws, made from the texts in wip by wip/tools/pack.py. -/
import Derived.Test.YtcpeehkeilfbfaaGreatP1
import Derived.Laws.Tables
import Derived.Laws.BitsLemmas
import Derived.Test.YtcpeehkeilfbfaaGreatProg
import Derived.KernelRfl
import Derived.Laws.Bits64
set_option linter.unusedSimpArgs false
set_option linter.unusedVariables false
namespace Go.AL
section
variable {cx : Cx} {Q : Exit → State → Prop} {R : Exit → Act → World → Prop} {st : State} {ops : Array Oper}
def noDefer (ops : Array Oper) : Bool := ops.toList.all fun o => match o.op with | .defer _ => false | _ => true
theorem noDefer_spec (h : noDefer ops = true) (j : Nat) (o : Oper) (c : Call) (ho : ops[j]? = some o) : o.op ≠ .defer c := by
  intro heq
  have := List.all_eq_true.1 h o (Array.mem_toList_iff.2 (Array.mem_of_getElem? ho))
  simp [heq] at this
theorem noSel_spec (h : noSel ops = true) (j : Nat) (o : Oper) (cs : Array SelectCase) (b : Bool) (ho : ops[j]? = some o) : o.op ≠ .select cs b := by
  intro heq
  have := List.all_eq_true.1 h o (Array.mem_toList_iff.2 (Array.mem_of_getElem? ho))
  simp [heq] at this
theorem yields_op1 {o : Oper} {v : Value} {a : Act} (hnd : ∀ c, o.op ≠ .defer c) (hy : Yields cx.P ops o v a) {K : Act → World → Prop} {w : World} (h : K (a.put o.dst v) w) : op1 cx ops o K R a w := by
  unfold op1
  rcases hy with ⟨hw, hv⟩ | ⟨hw, rfl⟩
  · rw [if_pos hw]
    refine ⟨fun _ _ => trivial, ?_⟩
    rw [Oper.semAt_eq _ _ _ hnd, hv w]
    exact h
  · rw [if_neg (by simp [hw])]; exact ⟨fun _ _ => trivial, h⟩
theorem op1_put {oi oj : Oper} {v : Value} (hap : oi.apart ops oj = true) (hsi : ∀ cs b, oi.op ≠ .select cs b) (hsj : ∀ cs b, oj.op ≠ .select cs b) (hnd : ∀ c, oj.op ≠ .defer c)
    (hQ : ∀ c a w, R (.panic c) (a.put oi.dst v) w → R (.panic c) a w) {K : Act → World → Prop} {a : Act} {w : World}
    (hy : Yields cx.P ops oi v a) (h : op1 cx ops oj K R (a.put oi.dst v) w) : op1 cx ops oj (fun a' w' => Yields cx.P ops oi v a' ∧ K (a'.put oi.dst v) w') R a w := by
  obtain ⟨h1, h2, h3⟩ := Oper.apart_spec hap
  have keep : ∀ u, Yields cx.P ops oi v (a.put oj.dst u) := fun u => hy.of_same (execOp_put oi hsi a oj.dst u h3) (wanted_put oi a oj.dst u h3)
  unfold op1 at *
  rw [wanted_put oj a oi.dst v h1] at h
  split
  · rename_i hw
    rw [if_pos hw] at h
    refine ⟨fun _ _ => trivial, ?_⟩
    have h := h.2
    rw [Oper.semAt_eq _ _ _ hnd, execOp_put oj hsj a oi.dst v h1] at h
    rw [Oper.semAt_eq _ _ _ hnd]
    cases hr : (execOp a.eval oj).run cx.P w with
    | ok x w' =>
      rw [hr] at h
      cases x <;> simp only [Oper.uponIn] at h ⊢
      case value u => exact ⟨keep u, by rw [← Act.put_comm a v u h2]; exact h⟩
      case skip => exact ⟨keep _, by rw [← Act.put_comm a v undef h2]; exact h⟩
      case defer d => exact ⟨hy.of_same (execOp_put (a := { a with defers := d :: a.defers }) oi hsi oj.dst undef h3) (wanted_put (a := { a with defers := d :: a.defers }) oi oj.dst undef h3), by rw [← Act.put_comm _ v undef h2, ← Act.put_defers]; exact h⟩
      case enter f args =>
        refine ⟨h.1, CallsIn.mono h.2 fun e w'' he => ?_⟩
        cases e with
        | returned u => exact ⟨keep u, by rw [← Act.put_comm a v u h2]; exact he⟩
        | panicked c => exact hQ _ _ _ he
        | outgrown => exact he
      case row row args => exact ⟨h.1, RowsIn.mono h.2 fun u w'' he => ⟨keep u, by rw [← Act.put_comm a v u h2]; exact he⟩⟩
      case round l f tmps assign body =>
        refine ⟨h.1, RoundIn.mono h.2 fun e w'' he => ?_⟩
        cases e with
        | returned u => exact ⟨keep u, by rw [← Act.put_comm a v u h2]; exact he⟩
        | panicked c => exact hQ _ _ _ he
        | outgrown => exact he
    | halt x w' =>
      rw [hr] at h
      cases x <;> simp only [Oper.uponIn] at h ⊢
      case panic u => exact hQ _ _ _ h
      all_goals exact h
  · rename_i hw
    rw [if_neg hw] at h
    exact ⟨fun _ _ => trivial, keep _, by rw [← Act.put_comm a v undef h2]; exact h.2⟩
theorem op1_wp {j : Nat} {o : Oper} (ho : ops[j]? = some o) {K : Act → World → Prop} {a : Act} {w : World} : wpOpIn (fence cx.ro) 0 cx.P ops R j K a w ↔ op1 cx ops o K R a w := by
  unfold wpOpIn op1
  rw [ho]
theorem any_first {i : Nat} {oi : Oper} {v : Value} (hi : ops[i]? = some oi) (hsel : ∀ (j : Nat) (o : Oper) cs b, ops[j]? = some o → o.op ≠ .select cs b) (hnd : ∀ (j : Nat) (o : Oper) c, ops[j]? = some o → o.op ≠ .defer c)
    (hQ : ∀ c a w, R (.panic c) (a.put oi.dst v) w → R (.panic c) a w) :
    ∀ (fuel : Nat) (listed : Array Bool) (a : Act) (w : World),
      (∀ j oj, ops[j]? = some oj → j ≠ i → listed.getD j true = false → (∀ e ∈ oj.after, Region.binds .any e = true → e.on ≠ i) → oi.apart ops oj = true) →
      i ∈ Region.ready .any ops listed → Yields cx.P ops oi v a →
      wpAnyIn (fence cx.ro) 0 cx.P .any ops R fuel (listed.setIfInBounds i true) (a.put oi.dst v) w → wpAnyIn (fence cx.ro) 0 cx.P .any ops R (fuel + 1) listed a w := by
  intro fuel
  induction fuel with
  | zero =>
    intro listed a w _ hr hy H
    refine ⟨fun h => (by rw [h] at hr; cases hr), fun j hj => ?_⟩
    by_cases hji : j = i
    · subst hji; exact (op1_wp hi).2 (yields_op1 (fun c => hnd j oi c hi) hy H)
    · have := ready_mono hj hji
      rw [H.1] at this
      cases this
  | succ fuel ih =>
    intro listed a w hfree hr hy H
    refine ⟨fun h => (by rw [h] at hr; cases hr), fun j hj => ?_⟩
    by_cases hji : j = i
    · subst hji; exact (op1_wp hi).2 (yields_op1 (fun c => hnd j oi c hi) hy H)
    · have h1 := H.2 j (ready_mono hj hji)
      obtain ⟨hjun, oj, hoj, hall⟩ := mem_ready.1 hj
      have hnot : ∀ e ∈ oj.after, Region.binds .any e = true → e.on ≠ i := fun e he hb heq => by
        have h1 := hall e he hb
        have h0 := (mem_ready.1 hr).1
        rw [heq] at h1
        rcases Nat.lt_or_ge i listed.size with h' | h'
        · simp [h'] at h0 h1; rw [h0] at h1; cases h1
        · simp [Array.getElem?_eq_none h'] at h1
      have h2 := op1_put (hfree j oj hoj hji hjun hnot) (fun cs b => hsel i oi cs b hi) (fun cs b => hsel j oj cs b hoj) (fun c => hnd j oj c hoj) hQ hy ((op1_wp hoj).1 h1)
      have hfree' : ∀ k ok, ops[k]? = some ok → k ≠ i → (listed.setIfInBounds j true).getD k true = false →
          (∀ e ∈ ok.after, Region.binds .any e = true → e.on ≠ i) → oi.apart ops ok = true := fun k ok hk hki hun hno => by
        refine hfree k ok hk hki ?_ hno
        by_cases hjk : j = k
        · subst hjk; exact hjun
        · rw [getD_set_ne true hjk] at hun; exact hun
      refine (op1_wp hoj).2 (op1_conv (fun a' w' h3 => ih (listed.setIfInBounds j true) a' w' hfree' (ready_mono hr (Ne.symm hji)) h3.1 ?_) (fun _ _ _ h => h) (fun h => h) h2)
      rw [Array.setIfInBounds_comm _ _ hji]
      exact h3.2
def FreeD (cx : Cx) (ops : Array Oper) (V : State) (o : Oper) (r : A) : Prop :=
  ∀ (E : Env) (a : Act) (w : World), (∀ t, Rep E w (a.tmps.getD t undef) (V.slots t)) → a.tmps.size = cx.N → ∃ u, Yields cx.P ops o u a ∧ Rep E w u r
theorem freeD_op {V : State} {o : Oper} {r : A} (hg : o.guard = none) (h : OpM cx V true o r) : FreeD cx ops V o r := by
  intro E a w hr _
  obtain ⟨u, h1, h2⟩ := h rfl E a w hr
  exact ⟨u, .inl ⟨wanted_none hg _, h1⟩, h2⟩
theorem freeD_opg {V : State} {o : Oper} {r : A} {j tj : Nat} {want g : Bool} (hg : o.guard = some (j, want)) (hj : (ops[j]?).bind (·.dst) = some tj) (hgv : gval (V.slots tj) want = some g) (htj : Nat.blt tj cx.N = true) (h : OpM cx V g o r) :
    FreeD cx ops V o (.when g r) := by
  intro E a w hr h1
  have hw := wanted_of hr h1 hg hj hgv htj
  cases g with
  | true =>
    obtain ⟨u, h1, h2⟩ := h rfl E a w hr
    exact ⟨u, .inl ⟨hw, h1⟩, .when _ _ _ (fun _ => h2) (fun e => by cases e)⟩
  | false => exact ⟨undef, .inr ⟨hw, rfl⟩, .when _ _ _ (fun e => by cases e) (fun _ => rfl)⟩
inductive Steps (cx : Cx) (ops : Array Oper) (st : State) (ps : List PD) : List PD → Prop
  | nil : Steps cx ops st ps []
  | cons {p : PD} {o : Oper} {l : List PD} (ho : ops[p.i]? = some o) (h : StepD cx ops (SL st ps (inL p.bef)) o p.r p.new) (t : Steps cx ops st ps l) : Steps cx ops st ps (p :: l)
inductive Frees (cx : Cx) (ops : Array Oper) (st : State) (ps : List PD) (fr : List Nat) : List PD → Prop
  | nil : Frees cx ops st ps fr []
  | no {p : PD} {l : List PD} (h : inL fr p.i = false) (t : Frees cx ops st ps fr l) : Frees cx ops st ps fr (p :: l)
  | cons {p : PD} {o : Oper} {l : List PD} (ho : ops[p.i]? = some o) (h : FreeD cx ops (SL st ps (inL p.bef)) o p.r) (t : Frees cx ops st ps fr l) : Frees cx ops st ps fr (p :: l)
theorem Steps.get {ps l : List PD} (h : Steps cx ops st ps l) : ∀ p ∈ l, ∃ o, ops[p.i]? = some o ∧ StepD cx ops (SL st ps (inL p.bef)) o p.r p.new := by
  induction h with
  | nil => intro p hp; cases hp
  | cons ho h t ih =>
    intro p hp
    rcases List.mem_cons.1 hp with rfl | hp
    · exact ⟨_, ho, h⟩
    · exact ih p hp
theorem Frees.get {ps l : List PD} {fr : List Nat} (h : Frees cx ops st ps fr l) : ∀ p ∈ l, inL fr p.i = true → ∃ o, ops[p.i]? = some o ∧ FreeD cx ops (SL st ps (inL p.bef)) o p.r := by
  induction h with
  | nil => intro p hp; cases hp
  | no h t ih =>
    intro p hp hf
    rcases List.mem_cons.1 hp with rfl | hp
    · rw [h] at hf; cases hf
    · exact ih p hp hf
  | cons ho h t ih =>
    intro p hp hf
    rcases List.mem_cons.1 hp with rfl | hp
    · exact ⟨_, ho, h⟩
    · exact ih p hp hf
def lset (listed : Array Bool) (i : Nat) : Bool := listed.getD i false
structure PdOk (cx : Cx) (ops : Array Oper) (ps : List PD) : Prop where
  d : ndup (ps.map (·.d)) = true
  k : ndup (pdKeys ps) = true
  i : ndup (ps.map (·.i)) = true
  lt : ∀ p ∈ ps, p.d < cx.N
  dst : ∀ p ∈ ps, ∀ o, ops[p.i]? = some o → o.dst = some p.d
  has : ∀ p ∈ ps, ∃ o, ops[p.i]? = some o
  bef : ∀ p ∈ ps, befOk ops ps p.i p.bef = true
  aft : ∀ p ∈ ps, ∀ o, ops[p.i]? = some o → ∀ e ∈ o.after, Region.binds .any e = true → e.on < p.i ∧ ∃ q ∈ ps, q.i = e.on
  hit : ∀ p ∈ ps, ∀ q ∈ ps, q.i ≠ p.i → inL q.bef p.i = false → q.r.hit (keyIn p.new) noK = false ∧ ∀ n ∈ q.new, hitO (keyIn p.new) n.2 = false
theorem pdOk_spec {ps : List PD} (h : pdOk cx ops ps = true) : PdOk cx ops ps := by
  simp only [pdOk, Bool.and_eq_true] at h
  obtain ⟨⟨⟨hd, hk⟩, hi⟩, hall⟩ := h
  have all := fun p hp => List.all_eq_true.1 hall p hp
  simp only [Bool.and_eq_true] at all
  refine ⟨hd, hk, hi, fun p hp => Nat.blt_eq ▸ (all p hp).1.1.1.1, fun p hp o ho => ?_, fun p hp => ?_, fun p hp => (all p hp).1.1.2, fun p hp o ho e he hb => ?_, fun p hp q hq hne hb => ?_⟩
  · have := (all p hp).1.1.1.2
    rw [ho] at this
    simp only [Option.bind_some] at this
    cases hd : o.dst with
    | none => rw [hd] at this; cases this
    | some t => rw [hd] at this; exact congrArg some (beq_iff.1 this)
  · have := (all p hp).1.1.1.2
    cases ho : ops[p.i]? with
    | none => rw [ho] at this; cases this
    | some o => exact ⟨o, rfl⟩
  · have := (all p hp).1.2
    rw [ho] at this
    simp only [Option.map_some, Option.getD_some] at this
    have h2 := List.all_eq_true.1 this e (Array.mem_toList_iff.2 he)
    rw [hb] at h2
    simp only [Bool.not_true, Bool.false_or, Bool.and_eq_true] at h2
    refine ⟨Nat.blt_eq ▸ h2.1, ?_⟩
    obtain ⟨q, hq, e2⟩ := List.mem_map.1 (inL_iff.1 h2.2)
    exact ⟨q, hq, e2⟩
  · have := List.all_eq_true.1 (all p hp).2 q hq
    simp only [Bool.or_eq_true, Bool.and_eq_true, Bool.not_eq_true', List.all_eq_true] at this
    rcases this with (h1 | h1) | h1
    · exact absurd (beq_iff.1 h1) hne
    · rw [hb] at h1; cases h1
    · exact h1
theorem edge_iff {i j : Nat} : edge ops i j = true ↔ ∃ o, ops[i]? = some o ∧ ∃ e ∈ o.after, Region.binds .any e = true ∧ e.on = j := by
  unfold edge
  cases ho : ops[i]? with
  | none => simp
  | some o =>
    simp only [Option.map_some, Option.getD_some, List.any_eq_true, Array.mem_toList_iff, Bool.and_eq_true, Option.some.injEq, exists_eq_left']
    constructor
    · rintro ⟨e, he, hb, h⟩; exact ⟨e, he, hb, beq_iff.1 h⟩
    · rintro ⟨e, he, hb, h⟩; exact ⟨e, he, hb, beq_iff.2 h⟩
def Closed (ops : Array Oper) (ps : List PD) (listed : Array Bool) : Prop := ∀ i, lset listed i = true → (∃ p ∈ ps, p.i = i) ∧ ∀ j, edge ops i j = true → lset listed j = true
theorem closed_bef {ps : List PD} {listed : Array Bool} (hc : Closed ops ps listed) (hok : PdOk cx ops ps) : ∀ (n : Nat) (p : PD), p ∈ ps → p.i ≤ n → lset listed p.i = true → ∀ b, b ∈ p.bef → lset listed b = true := by
  intro n
  induction n using Nat.strongRecOn with
  | _ n ih =>
    intro p hp hn hl b hb
    have := List.all_eq_true.1 (hok.bef p hp) b hb
    simp only [Bool.or_eq_true] at this
    rcases this with h | h
    · exact (hc _ hl).2 b h
    · obtain ⟨q, hq, h2⟩ := List.any_eq_true.1 h
      simp only [Bool.and_eq_true] at h2
      have hlq := (hc _ hl).2 _ h2.1
      obtain ⟨o, ho, e, he, hbe, hon⟩ := edge_iff.1 h2.1
      have hlt := (hok.aft p hp o ho e he hbe).1
      exact ih q.i (by omega) q hq (Nat.le_refl _) hlq b (inL_iff.1 h2.2)
end
end Go.AL
namespace Go.AL
section
variable {cx : Cx} {Q : Exit → State → Prop} {st : State} {ops : Array Oper} {ps : List PD} {fr : List Nat}
open Classical in
theorem s0_sim {K : List Nat} {a : Act} {w : World} (h : Sim cx st a w) : Sim cx (S0 st K) a w := by
  obtain ⟨rs, h0, h1, E, hi, hr⟩ := h
  let E' : Env := { E with fp := fun k => if inL K k = true then fun _ => False else E.fp k }
  have hoff : E.off E' (inL K) noK := ⟨fun _ h => h, fun _ _ => rfl, fun _ _ _ => rfl, fun _ _ _ => rfl, fun k hk _ => by simp [E', hk], rfl⟩
  have hfp : ∀ k b, E'.fp k b → inL K k = false ∧ E.fp k b := fun k b h => by
    by_cases hk : inL K k = true
    · simp [E', hk] at h
    · simp only [E', if_neg hk] at h; exact ⟨by simpa using hk, h⟩
  refine ⟨rs, h0, h1, E', ⟨fun k o h => ?_, fun k h b hb => ?_, fun k k' b h h' => hi.disj k k' b (hfp _ _ h).2 (hfp _ _ h').2, fun k b h => hi.own k b (hfp _ _ h).2, hi.rd, hi.frame, hi.size, hi.os, hi.tape, hi.output, hi.R0, hi.tk0, hi.bl0, hi.nd, fun b hb => ⟨fun k h => (hi.mks b hb).1 k (hfp _ _ h).2, (hi.mks b hb).2⟩⟩, fun t => (hr t).kill hoff⟩
  · simp only [S0] at h
    cases hk : inL K k with
    | true => rw [hk] at h; cases h
    | false =>
      rw [hk, cond_false] at h
      obtain ⟨o', ho, rfl⟩ := Option.map_eq_some_iff.1 h
      have hfk : E'.fp k = E.fp k := by simp [E', hk]
      cases hi.obj k o' ho with
      | var cs c ty hh hs hf hrr =>
        refine .var _ c ty hh (by simpa using hs) (by rw [hfk]; exact hf) fun j hj => ?_
        simp only [List.length_map] at hj
        simp only [List.getElem_map]
        exact (hrr j hj).kill hoff
      | rownil es hr => exact .rownil (E := E') es hr
      | row es xs hr hown => exact .row (E := E') es xs hr (by rw [hfk]; exact hown)
      | lp l r sl hb hf hh hrr =>
        refine .lp (E := E') l r _ hb (by rw [hfk]; exact hf) hh fun t => ?_
        rw [slotL_map (f := A.kill _ _) rfl]; exact (hrr t).kill hoff
  · obtain ⟨h2, h3⟩ := hfp _ _ hb
    simp only [S0, h2, cond_false, Option.map_eq_none_iff] at h
    exact hi.dead k h b h3
theorem pdObj_cases {L : Nat → Bool} {base : Nat → Option O} {j : Nat} {o : O} (h : pdObj ps L base j = some o) : (∃ q ∈ ps, L q.i = true ∧ (j, o) ∈ q.new) ∨ base j = some o := by
  induction ps with
  | nil => exact .inr h
  | cons q l ih =>
    simp only [pdObj] at h
    cases hq : objL q.new j with
    | some o' =>
      rw [hq] at h
      simp only at h
      cases hL : L q.i with
      | false => rw [hL] at h; cases h
      | true => rw [hL] at h; simp at h; subst h; exact .inl ⟨q, by simp, hL, objL_some hq⟩
    | none =>
      rw [hq] at h
      rcases ih h with ⟨r, hr, h1, h2⟩ | h
      · exact .inl ⟨r, by simp [hr], h1, h2⟩
      · exact .inr h
theorem pdSlot_cases {L : Nat → Bool} {base : Nat → A} (t : Nat) : (∃ q ∈ ps, L q.i = true ∧ pdSlot ps L base t = q.r) ∨ pdSlot ps L base t = .any ∨ pdSlot ps L base t = base t := by
  induction ps with
  | nil => exact .inr (.inr rfl)
  | cons q l ih =>
    simp only [pdSlot]
    cases Nat.beq t q.d with
    | true =>
      simp only [cond_true]
      cases hL : L q.i with
      | true => exact .inl ⟨q, by simp, hL, rfl⟩
      | false => exact .inr (.inl rfl)
    | false =>
      simp only [cond_false]
      rcases ih with ⟨r, hr, h1, h2⟩ | h
      · exact .inl ⟨r, by simp [hr], h1, h2⟩
      · exact .inr h
theorem pdSlot_congr {L L' : Nat → Bool} {base : Nat → A} (h : ∀ p ∈ ps, L' p.i = L p.i) : pdSlot ps L' base = pdSlot ps L base := by
  funext t; exact pdSlot_rest fun p hp _ => h p hp
theorem pdObj_congr {L L' : Nat → Bool} {base : Nat → Option O} (h : ∀ p ∈ ps, L' p.i = L p.i) : pdObj ps L' base = pdObj ps L base := by
  funext j
  induction ps with
  | nil => rfl
  | cons q l ih =>
    simp only [pdObj]
    rw [h q (by simp), ih fun p hp => h p (by simp [hp])]
theorem min_of {P : Nat → Prop} : ∀ n, P n → ∃ m, P m ∧ ∀ k, P k → m ≤ k := by
  intro n
  induction n using Nat.strongRecOn with
  | _ n ih =>
    intro h
    by_cases hx : ∃ m, m < n ∧ P m
    · obtain ⟨m, h1, h2⟩ := hx; exact ih m h1 h2
    · exact ⟨n, h, fun k hk => Nat.le_of_not_lt fun hlt => hx ⟨k, hlt, hk⟩⟩
theorem lset_set {listed : Array Bool} {i : Nat} (hi : i < listed.size) (j : Nat) : lset (listed.setIfInBounds i true) j = if j = i then true else lset listed j := by
  unfold lset
  by_cases h : j = i
  · subst h; simp [hi]
  · rw [if_neg h, getD_set_ne false (Ne.symm h)]
theorem ready_bef {listed : Array Bool} (hok : PdOk cx ops ps) (hc : Closed ops ps listed) {p : PD} (hp : p ∈ ps) (hr : p.i ∈ Region.ready .any ops listed) : ∀ b ∈ p.bef, lset listed b = true := by
  obtain ⟨_, o, ho, hall⟩ := mem_ready.1 hr
  intro b hb
  have := List.all_eq_true.1 (hok.bef p hp) b hb
  simp only [Bool.or_eq_true] at this
  rcases this with h | h
  · obtain ⟨o', ho', e, he, hbe, hon⟩ := edge_iff.1 h
    rw [ho] at ho'; cases ho'
    have := hall e he hbe
    rwa [hon] at this
  · obtain ⟨q, hq, h2⟩ := List.any_eq_true.1 h
    simp only [Bool.and_eq_true] at h2
    obtain ⟨o', ho', e, he, hbe, hon⟩ := edge_iff.1 h2.1
    rw [ho] at ho'; cases ho'
    have hl := hall e he hbe
    rw [hon] at hl
    exact closed_bef hc hok q.i q hq (Nat.le_refl _) hl b (inL_iff.1 h2.2)
theorem sl_step {rs : List Nat} {listed : Array Bool} {p : PD} {a : Act} {w w' : World} {E E' : Env} {u : Value} (hok : PdOk cx ops ps) (hc : Closed ops ps listed) (hsz : listed.size = ops.size) (hp : p ∈ ps) (hl : lset listed p.i = false)
    (h0 : a.defers = marks rs) (h1 : a.tmps.size = cx.N) (hr : ∀ t, Rep E w (a.tmps.getD t undef) ((SL st ps (lset listed)).slots t))
    (hi' : Inv (cx.at rs) E' (overO (SL st ps (lset listed)).objs p.new) w') (hrep : ∀ x u', Rep E w u' x → x.hit (keyIn p.new) noK = false → Rep E' w' u' x) (hu : Rep E' w' u p.r) :
    Sim cx (SL st ps (lset (listed.setIfInBounds p.i true))) (a.put (some p.d) u) w' := by
  obtain ⟨o, ho⟩ := hok.has p hp
  have hlt : p.i < listed.size := by rw [hsz]; exact (Array.getElem?_eq_some_iff.1 ho).1
  have hset := lset_set (listed := listed) hlt
  refine ⟨rs, h0, by simp [Act.put, h1], E', ?_, fun t => ?_⟩
  · have : (SL st ps (lset (listed.setIfInBounds p.i true))).objs = overO (SL st ps (lset listed)).objs p.new :=
      pdObj_new hp hok.k hok.i (by rw [hset, if_pos rfl]) fun j hj => by rw [hset, if_neg hj]
    rw [this]; exact hi'
  · simp only [Act.put, getD_put (by rw [h1]; exact hok.lt p hp)]
    by_cases ht : t = p.d
    · subst ht
      rw [if_pos rfl]
      have : (SL st ps (lset (listed.setIfInBounds p.i true))).slots p.d = p.r := by
        show pdSlot _ _ _ _ = _
        rw [pdSlot_at hp hok.d, hset, if_pos rfl]; rfl
      rw [this]; exact hu
    · rw [if_neg ht]
      have : (SL st ps (lset (listed.setIfInBounds p.i true))).slots t = (SL st ps (lset listed)).slots t := by
        refine pdSlot_rest fun q hq hqd => ?_
        rw [hset, if_neg fun e => ?_]
        have h2 := hok.dst q hq o (by rw [e]; exact ho)
        rw [hok.dst p hp o ho] at h2
        injection h2 with h2
        exact ht (by rw [← hqd, h2])
      rw [this]
      refine hrep _ _ (hr t) ?_
      show (pdSlot ps (lset listed) _ t).hit _ _ = false
      rcases pdSlot_cases (ps := ps) (L := lset listed) (base := (S0 st (pdKeys ps)).slots) t with ⟨q, hq, hlq, e⟩ | e | e
      · rw [e]
        refine (hok.hit p hp q hq (fun e => by rw [e, hl] at hlq; cases hlq) ?_).1
        cases hb : inL q.bef p.i with
        | false => rfl
        | true => have := closed_bef hc hok q.i q hq (Nat.le_refl _) hlq _ (inL_iff.1 hb); rw [hl] at this; cases this
      · rw [e]; rfl
      · rw [e]
        refine hit_mono (K := inL (pdKeys ps)) (fun k hk => ?_) _ (kill_hit _)
        obtain ⟨o', ho'⟩ := Option.isSome_iff_exists.1 hk
        exact inL_iff.2 (pdKeys_mem hp (objL_key ho'))
def allL (ops : Array Oper) (ps : List PD) : Array Bool := ((List.range ops.size).map fun i => inL (ps.map (·.i)) i).toArray
theorem phase_go (hok : PdOk cx ops ps) (hf : freeOk ops ps fr = true) (ht : tailOk ops ps fr = true) (hnd : noDefer ops = true) (hQ : ∀ c s, ¬ Q (.panic c) s) (hvk : ∀ k ∈ pdKeys ps, cx.vk k = false)
    (hs : Steps cx ops st ps ps) (hfr : Frees cx ops st ps fr ps) {fuelT : Nat} (hT : ad cx ops fuelT (allL ops ps) Q (SL st ps fun _ => true)) :
    ∀ (n : Nat) (listed : Array Bool), (ps.filter fun p => !lset listed p.i).length = n → listed.size = ops.size → Closed ops ps listed → ad cx ops (n + fuelT) listed Q (SL st ps (lset listed)) := by
  intro n
  induction n with
  | zero =>
    intro listed hn hsz hc
    have hall : ∀ p ∈ ps, lset listed p.i = true := fun p hp => by
      cases h : lset listed p.i with
      | true => rfl
      | false =>
        have : p ∈ ps.filter fun p => !lset listed p.i := List.mem_filter.2 ⟨hp, by simp [h]⟩
        rw [List.eq_nil_of_length_eq_zero hn] at this; cases this
    have e1 : listed = allL ops ps := by
      apply Array.ext
      · simp [allL, hsz]
      · intro i h1 h2
        have hg : listed[i] = lset listed i := by simp [lset, h1]
        rw [hg]
        simp only [allL, List.getElem_toArray, List.getElem_map, List.getElem_range]
        cases hi : inL (ps.map (·.i)) i with
        | true =>
          obtain ⟨p, hp, e⟩ := List.mem_map.1 (inL_iff.1 hi)
          rw [← e]; exact hall p hp
        | false =>
          cases hli : lset listed i with
          | false => rfl
          | true =>
            obtain ⟨p, hp, e⟩ := (hc i hli).1
            rw [inL_iff.2 (List.mem_map.2 ⟨p, hp, e⟩)] at hi; cases hi
    have e2 : SL st ps (lset listed) = SL st ps fun _ => true := by
      simp only [SL]
      rw [pdSlot_congr (L := fun _ => true) hall, pdObj_congr (L := fun _ => true) hall]
    rw [e2, e1, Nat.zero_add]; exact hT
  | succ n ih =>
    intro listed hn hsz hc a w hsim
    -- the first one that is left can come next
    obtain ⟨m, ⟨p, hp, hpl, rfl⟩, hmin⟩ : ∃ m, (∃ p ∈ ps, lset listed p.i = false ∧ p.i = m) ∧ ∀ k, (∃ p ∈ ps, lset listed p.i = false ∧ p.i = k) → m ≤ k := by
      have hne : (ps.filter fun p => !lset listed p.i) ≠ [] := fun e => by rw [e] at hn; cases hn
      obtain ⟨q, l, hql⟩ := List.exists_cons_of_ne_nil hne
      have hq := List.mem_filter.1 (show q ∈ ps.filter fun p => !lset listed p.i by rw [hql]; simp)
      exact min_of q.i ⟨q, hq.1, by simpa using hq.2, rfl⟩
    have unl : ∀ {j}, j < ops.size → lset listed j = false → listed.getD j true = false := fun {j} hj h => by
      have : j < listed.size := by rw [hsz]; exact hj
      simp [lset, this] at h ⊢; exact h
    have rd : ∀ q ∈ ps, lset listed q.i = false → (∀ k, (∃ p ∈ ps, lset listed p.i = false ∧ p.i = k) → q.i ≤ k) → q.i ∈ Region.ready .any ops listed := by
      intro q hq hql hqm
      obtain ⟨o, ho⟩ := hok.has q hq
      refine mem_ready.2 ⟨unl (Array.getElem?_eq_some_iff.1 ho).1 hql, o, ho, fun e he hb => ?_⟩
      obtain ⟨hlt, r, hr, hri⟩ := hok.aft q hq o ho e he hb
      cases hl : lset listed e.on with
      | true => exact hl
      | false => have := hqm e.on ⟨r, hr, by rw [hri]; exact hl, hri⟩; omega
    have hpr := rd p hp hpl hmin
    -- what is left behind one more
    have next : ∀ q ∈ ps, lset listed q.i = false → q.i ∈ Region.ready .any ops listed →
        ad cx ops (n + fuelT) (listed.setIfInBounds q.i true) Q (SL st ps (lset (listed.setIfInBounds q.i true))) := by
      intro q hq hql hqr
      obtain ⟨o, ho⟩ := hok.has q hq
      have hlt : q.i < listed.size := by rw [hsz]; exact (Array.getElem?_eq_some_iff.1 ho).1
      have hset := lset_set (listed := listed) hlt
      refine ih _ ?_ (by simp [hsz]) fun i hi => ?_
      · have gen : ∀ l : List PD, ndup (l.map (·.i)) = true → q ∈ l → (l.filter fun p => !lset (listed.setIfInBounds q.i true) p.i).length + 1 = (l.filter fun p => !lset listed p.i).length := by
          intro l hl hm
          induction l with
          | nil => cases hm
          | cons r l ihl =>
            obtain ⟨l1, l2⟩ := ndup_head hl
            simp only [List.filter_cons]
            rcases List.mem_cons.1 hm with rfl | hm
            · rw [hset, if_pos rfl]
              simp only [Bool.not_true, Bool.false_eq_true, if_false, hql, Bool.not_false, if_true, List.length_cons]
              congr 2
              refine List.filter_congr fun x hx => ?_
              rw [hset, if_neg fun e => l1 (List.mem_map.2 ⟨x, hx, e⟩)]
            · have hne : r.i ≠ q.i := fun e => l1 (List.mem_map.2 ⟨q, hm, e.symm⟩)
              rw [hset, if_neg hne]
              cases hr : lset listed r.i with
              | true => simpa using ihl l2 hm
              | false => simp only [Bool.not_false, if_true, List.length_cons]; rw [ihl l2 hm]
        have := gen ps hok.i hq
        omega
      · rw [hset] at hi
        by_cases e : i = q.i
        · subst e
          refine ⟨⟨q, hq, rfl⟩, fun j hj => ?_⟩
          obtain ⟨o', ho', e, he, hbe, hon⟩ := edge_iff.1 hj
          obtain ⟨_, o2, ho2, hall⟩ := mem_ready.1 hqr
          rw [ho2] at ho'; cases ho'
          rw [hset]
          split
          · rfl
          · rw [← hon]; exact hall e he hbe
        · rw [if_neg e] at hi
          obtain ⟨h1, h2⟩ := hc i hi
          refine ⟨h1, fun j hj => ?_⟩
          rw [hset]
          split
          · rfl
          · exact h2 j hj
    have hfuel : n + 1 + fuelT = (n + fuelT) + 1 := by omega
    rw [hfuel]
    obtain ⟨rs, h0, h1, E, hi, hr⟩ := hsim
    have view : ∀ q ∈ ps, q.i ∈ Region.ready .any ops listed → (∀ t, Rep E w (a.tmps.getD t undef) ((SL st ps (inL q.bef)).slots t)) ∧ ∀ k o', (SL st ps (inL q.bef)).objs k = some o' → (SL st ps (lset listed)).objs k = some o' := by
      intro q hq hqr
      have hb := ready_bef hok hc hq hqr
      have hle : ∀ j, inL q.bef j = true → lset listed j = true := fun j hj => hb j (inL_iff.1 hj)
      refine ⟨fun t => ?_, fun k o' h => pdObj_le hle h⟩
      rcases pdSlot_le (ps := ps) (base := (S0 st (pdKeys ps)).slots) hle t with e | e
      · show Rep E w _ (pdSlot _ _ _ _); rw [e]; exact hr t
      · show Rep E w _ (pdSlot _ _ _ _); rw [e]; exact .any _
    by_cases hA : ∀ q ∈ ps, lset listed q.i = false → inL fr q.i = true
    · -- only operations that may come at any time are left
      obtain ⟨o, ho, hfd⟩ := hfr.get p hp (hA p hp hpl)
      obtain ⟨u, hy, hu⟩ := hfd E a w (view p hp hpr).1 h1
      simp only [freeOk, Bool.and_eq_true, List.all_eq_true, List.mem_range] at hf
      have hdst := hok.dst p hp o ho
      refine any_first ho (noSel_spec hf.1) (noDefer_spec hnd) (fun c a' w' ⟨s, hs, _⟩ => absurd hs (hQ c s)) (n + fuelT) listed a w ?_ hpr hy ?_
      · intro j oj hoj hji hjun hno
        have hjl : lset listed j = false := by
          have hlt : j < listed.size := by rw [hsz]; exact (Array.getElem?_eq_some_iff.1 hoj).1
          simp [hlt] at hjun
          simp [lset, hlt, hjun]
        have := hf.2 p.i (inL_iff.1 (hA p hp hpl)) j (Array.getElem?_eq_some_iff.1 hoj).1
        simp only [Bool.or_eq_true, Bool.and_eq_true, Bool.not_eq_true'] at this
        rcases this with ((h | h) | h) | h
        · exact absurd (beq_iff.1 h) hji
        · obtain ⟨q, hq, e⟩ := List.mem_map.1 (inL_iff.1 h.1)
          have := hA q hq (by rw [e]; exact hjl)
          rw [e, h.2] at this; cases this
        · obtain ⟨o', ho', e, he, hbe, hon⟩ := edge_iff.1 h
          rw [hoj] at ho'; cases ho'
          exact absurd hon (hno e he hbe)
        · rw [ho, hoj] at h; simpa using h
      · rw [hdst]
        refine next p hp hpl hpr _ _ ?_
        have hnone : ∀ j, keyIn p.new j = true → (SL st ps (lset listed)).objs j = none := fun j hj => pdObj_free hp hok.k hpl hj
        -- a value alone: its list of new objects says nothing of memory, so it is taken by its own step
        obtain ⟨o2, ho2, hst⟩ := hs.get p hp
        rw [ho] at ho2; cases ho2
        have hhit : ∀ j o', (SL st ps (lset listed)).objs j = some o' → hitO (keyIn p.new) o' = false := by
          intro j o' ho'
          rcases pdObj_cases ho' with ⟨q, hq, hlq, hm⟩ | hb
          · have hne : q.i ≠ p.i := fun e => by rw [e, hpl] at hlq; cases hlq
            refine (hok.hit p hp q hq hne ?_).2 _ hm
            cases hb : inL q.bef p.i with
            | false => rfl
            | true => have := closed_bef hc hok q.i q hq (Nat.le_refl _) hlq _ (inL_iff.1 hb); rw [hpl] at this; cases this
          · simp only [S0] at hb
            cases hk : inL (pdKeys ps) j with
            | true => rw [hk] at hb; cases hb
            | false =>
              rw [hk, cond_false] at hb
              obtain ⟨o3, _, rfl⟩ := Option.map_eq_some_iff.1 hb
              refine hitO_mono (fun k hk => ?_) (okill_hit o3)
              obtain ⟨o4, ho4⟩ := Option.isSome_iff_exists.1 hk
              exact inL_iff.2 (pdKeys_mem hp (objL_key ho4))
        have hop := hst rs E a w (SL st ps (lset listed)).objs (fun a' w' => Sim cx (SL st ps (lset (listed.setIfInBounds p.i true))) a' w') (fun _ _ _ => False) hi (view p hp hpr).2 (view p hp hpr).1 h1
          (fun k hk => ⟨hnone k hk, hvk k (by obtain ⟨o4, ho4⟩ := Option.isSome_iff_exists.1 hk; exact pdKeys_mem hp (objL_key ho4))⟩) hhit
          (fun u' w' E' hi' hrep hu' => by rw [hdst]; exact sl_step hok hc hsz hp hpl h0 h1 hr hi' hrep hu')
        unfold op1 at hop
        rcases hy with ⟨hw, hv⟩ | ⟨hw, rfl⟩
        · rw [if_pos hw] at hop
          have h2 := hop.2
          rw [Oper.semAt_eq _ _ _ (fun c => noDefer_spec hnd p.i o c ho), hv w] at h2
          simp only [Oper.uponIn] at h2
          rwa [hdst] at h2
        · rw [if_neg (by simp [hw])] at hop
          have h2 := hop.2
          rwa [hdst] at h2
    · -- one is left that must come ahead of what follows
      have hq0 : ∃ q ∈ ps, lset listed q.i = false ∧ inL fr q.i = false := by
        apply Classical.byContradiction
        intro hx
        refine hA fun q hq hl => ?_
        cases hfq : inL fr q.i with
        | true => rfl
        | false => exact absurd ⟨q, hq, hl, hfq⟩ hx
      obtain ⟨q0, hq0, hq0l, hq0f⟩ := hq0
      refine ⟨fun h => (by rw [h] at hpr; cases hpr), fun i hird => ?_⟩
      obtain ⟨hil, o, ho, hall⟩ := mem_ready.1 hird
      have hilt := (Array.getElem?_eq_some_iff.1 ho).1
      have hlist : ∀ j, edge ops i j = true → lset listed j = true := fun j hj => by
        obtain ⟨o', ho', e, he, hbe, hon⟩ := edge_iff.1 hj
        rw [ho] at ho'; cases ho'
        rw [← hon]; exact hall e he hbe
      have hip : ∃ q ∈ ps, q.i = i := by
        have := List.all_eq_true.1 ht i (List.mem_range.2 hilt)
        simp only [Bool.or_eq_true] at this
        rcases this with (h | h) | h
        · obtain ⟨q, hq, e⟩ := List.mem_map.1 (inL_iff.1 h); exact ⟨q, hq, e⟩
        · rw [ho] at h
          simp only [Option.map_some, Option.getD_some, List.any_eq_true, Array.mem_toList_iff, Bool.and_eq_true, Bool.not_eq_true'] at h
          obtain ⟨e, he, hbe, hn⟩ := h
          obtain ⟨q, hq, e2⟩ := (hc e.on (hall e he hbe)).1
          rw [inL_iff.2 (List.mem_map.2 ⟨q, hq, e2⟩)] at hn; cases hn
        · have := List.all_eq_true.1 h q0 hq0
          simp only [Bool.or_eq_true] at this
          rcases this with (h | h) | h
          · rw [hq0f] at h; cases h
          · have := hlist _ h; rw [hq0l] at this; cases this
          · obtain ⟨q, hq, h2⟩ := List.any_eq_true.1 h
            simp only [Bool.and_eq_true] at h2
            have := closed_bef hc hok q.i q hq (Nat.le_refl _) (hlist _ h2.1) _ (inL_iff.1 h2.2)
            rw [hq0l] at this; cases this
      obtain ⟨q, hq, rfl⟩ := hip
      have hql : lset listed q.i = false := by
        have hlt : q.i < listed.size := by rw [hsz]; exact hilt
        simp [hlt] at hil
        simp [lset, hlt, hil]
      obtain ⟨o2, ho2, hst⟩ := hs.get q hq
      rw [ho] at ho2; cases ho2
      have hdst := hok.dst q hq o ho
      refine (op1_wp ho).2 (hst rs E a w (SL st ps (lset listed)).objs _ _ hi (view q hq hird).2 (view q hq hird).1 h1 (fun k hk => ⟨pdObj_free hq hok.k hql hk, hvk k (by obtain ⟨o4, ho4⟩ := Option.isSome_iff_exists.1 hk; exact pdKeys_mem hq (objL_key ho4))⟩) ?_ ?_)
      · intro j o' ho'
        rcases pdObj_cases ho' with ⟨r, hr', hlr, hm⟩ | hb
        · have hne : r.i ≠ q.i := fun e => by rw [e, hql] at hlr; cases hlr
          refine (hok.hit q hq r hr' hne ?_).2 _ hm
          cases hb : inL r.bef q.i with
          | false => rfl
          | true => have := closed_bef hc hok r.i r hr' (Nat.le_refl _) hlr _ (inL_iff.1 hb); rw [hql] at this; cases this
        · simp only [S0] at hb
          cases hk : inL (pdKeys ps) j with
          | true => rw [hk] at hb; cases hb
          | false =>
            rw [hk, cond_false] at hb
            obtain ⟨o3, _, rfl⟩ := Option.map_eq_some_iff.1 hb
            refine hitO_mono (fun k hk => ?_) (okill_hit o3)
            obtain ⟨o4, ho4⟩ := Option.isSome_iff_exists.1 hk
            exact inL_iff.2 (pdKeys_mem hq (objL_key ho4))
      · intro u w' E' hi' hrep hu
        refine next q hq hql hird _ _ ?_
        rw [hdst]
        exact sl_step hok hc hsz hq hql h0 h1 hr hi' hrep hu
theorem ad_phase (ps : List PD) (fr : List Nat) {fuelT : Nat} (hok : pdOk cx ops ps = true) (hf : freeOk ops ps fr = true) (ht : tailOk ops ps fr = true) (hnd : noDefer ops = true) (hQ : ∀ c s, ¬ Q (.panic c) s)
    (hvk : ∀ k ∈ pdKeys ps, cx.vk k = false) (hs : Steps cx ops st ps ps) (hfr : Frees cx ops st ps fr ps) (hn : ps.length + fuelT = ops.size) (hT : ad cx ops fuelT (allL ops ps) Q (SL st ps fun _ => true)) :
    ad cx ops ops.size (Array.replicate ops.size false) Q st := by
  intro a w hsim
  have hl : ∀ i, lset (Array.replicate ops.size false) i = false := fun i => by simp only [lset, Array.getD_eq_getD_getElem?, Array.getElem?_replicate]; split <;> rfl
  have h := phase_go (pdOk_spec hok) hf ht hnd hQ hvk hs hfr hT ps.length (Array.replicate ops.size false) (by
    rw [List.filter_eq_self.2 fun p _ => by simp [hl]]) (by simp) (fun i hi => by rw [hl] at hi; cases hi)
  rw [hn] at h
  refine h a w ?_
  have hok' := pdOk_spec hok
  obtain ⟨rs, h0, h1, E, hi, hr⟩ := s0_sim (K := pdKeys ps) hsim
  refine ⟨rs, h0, h1, E, ?_, fun t => ?_⟩
  · have : (SL st ps (lset (Array.replicate ops.size false))).objs = (S0 st (pdKeys ps)).objs := by
      funext j
      show pdObj ps _ _ j = _
      have gen : ∀ l : List PD, (∀ p ∈ l, p ∈ ps) → pdObj l (lset (Array.replicate ops.size false)) (S0 st (pdKeys ps)).objs j = (S0 st (pdKeys ps)).objs j := by
        intro l hl'
        induction l with
        | nil => rfl
        | cons q l ihl =>
          simp only [pdObj]
          cases hq : objL q.new j with
          | none => exact ihl fun p hp => hl' p (by simp [hp])
          | some o =>
            simp only [hl, cond_false, S0]
            rw [inL_iff.2 (pdKeys_mem (hl' q (by simp)) (objL_key hq))]; rfl
      exact gen ps fun _ h => h
    rw [this]; exact hi
  · show Rep E w _ (pdSlot ps _ _ t)
    rcases pdSlot_cases (ps := ps) (L := lset (Array.replicate ops.size false)) (base := (S0 st (pdKeys ps)).slots) t with ⟨q, hq, hlq, e⟩ | e | e
    · rw [hl] at hlq; cases hlq
    · rw [e]; exact .any _
    · rw [e]; exact hr t
end
end Go.AL
namespace Go.AL
section
variable {cx : Cx} {Q : Exit → State → Prop} {st : State} {ops : Array Oper} {rest : List Oper} {o : Oper} {g : Bool}
theorem opM_move {x : Operand} {ax : A} (ho : o.op = .move x) (hx : Ev st g x ax) : OpM cx st g o ax :=
  fun hg E a w hs => ⟨a.eval x, fun w' => by simp [execOp, ho], hx hg E w a hs⟩
theorem opM_assign {x : Operand} {ax : A} (ho : o.op = .assign x) (hx : Ev st g x ax) : OpM cx st g o ax :=
  fun hg E a w hs => ⟨a.eval x, fun w' => by simp [execOp, ho], hx hg E w a hs⟩
theorem opM_nilCheck {X : Operand} {ax : A} (ho : o.op = .nilCheck X) (hx : Ev st g X ax) (hp : (match ax with | .pt .. | .pe .. | .pr .. | .prv .. => true | _ => false) = true) : OpM cx st g o ax := by
  intro hg E a w hs
  have h := hx hg E w a hs
  refine ⟨a.eval X, ?_, h⟩
  intro w'
  generalize hv : a.eval X = v at h
  cases h <;> simp at hp <;> simp [execOp, ho, hv]
theorem opM_extract {X : Operand} {i : Nat} {cs : List A} {r : A} (ho : o.op = .extract X i) (hx : Ev st g X (.tup cs)) (hr : cs[i]? = some r) : OpM cx st g o r := by
  intro hg E a w hs
  obtain ⟨hlt, rfl⟩ := getElem_eq hr
  have h := hx hg E w a hs
  generalize hv : a.eval X = v at h
  cases h with
  | tup _ vs hsz hrr =>
    refine ⟨vs.getD i undef, fun w' => ?_, hrr _ hlt⟩
    have hlt' : i < vs.size := by omega
    simp [execOp, ho, hv, Instr.extract, Array.getElem?_eq_getElem hlt', Array.getD_eq_getD_getElem?]
theorem opM_bin {op : BinOp} {t ty : TypeId} {X Y : Operand} {k : IntKind} {x y : Int} {r : D} (ho : o.op = .binOp op t X Y ty) (hx : Ev st g X (.v (.int k x))) (hy : Ev st g Y (.v (.int k y)))
    (hr : binI op k x y = some r) : OpM cx st g o (.v r) := by
  intro hg E a w hs
  have key : ∀ w', ∃ u, (execOp a.eval o).run cx.P w' = .ok (.value u) w' ∧ RO (fun _ => False) w u r := by
    intro w'
    obtain ⟨u, h1, h2⟩ := binI_run hr t X Y cx.P w'
    rw [← rep_int (hx hg E w a hs), ← rep_int (hy hg E w a hs)] at h1
    refine ⟨u, ?_, h2.mono (fun _ h => h) fun _ h => h.elim⟩
    simp only [execOp, ho, Sem.run_bind] at h1 ⊢
    rw [h1]; rfl
  have flat : ∀ {u u' : Value}, RO (fun _ => False) w u r → RO (fun _ => False) w u' r → u = u' := by
    have : ∃ n, r = .int k n ∨ ∃ b, r = .bool b := by
      cases op <;> simp only [binI, Option.some.injEq, reduceCtorEq] at hr <;> subst hr <;> first | exact ⟨_, .inl rfl⟩ | exact ⟨0, .inr ⟨_, rfl⟩⟩
    intro u u' h h'
    obtain ⟨n, rfl | ⟨b, rfl⟩⟩ := this <;> cases h <;> cases h' <;> rfl
  obtain ⟨u, h1, h2⟩ := key w
  refine ⟨u, fun w' => ?_, .v _ _ h2⟩
  obtain ⟨u', h3, h4⟩ := key w'
  rw [flat h2 h4]; exact h3
theorem opM_fieldAddr {X : Operand} {ax r : A} {t : TypeId} {i : Nat} {fs : Array Field} {f : Field} {off s : Nat} (ho : o.op = .fieldAddr t X i) (hx : Ev st g X ax)
    (ht : cx.P.underlying t = some (.struct fs)) (hf : fs[i]? = some f) (hoff : f.offset = off) (hsz : (cx.P.info? f.type).map (·.size) = some (s + 1)) (hr : dropFields ax off = some r) : OpM cx st g o r := by
  intro hg E a w hs
  subst hoff
  have h := hx hg E w a hs
  have run : ∀ b oo, a.eval X = .pointer (some ⟨b, oo, none⟩) → ∀ w', (execOp a.eval o).run cx.P w' = .ok (.value (.pointer (some ⟨b, oo + f.offset, none⟩))) w' := by
    intro b oo hv w'
    simp [execOp, ho, hv, Instr.fieldAt, run_underlying ht, hf, Instr.sureAddr, fieldPlace, run_sizeOf' hsz, add_plain']
  unfold dropFields at hr
  split at hr
  · injection hr with hr; subst hr
    generalize hv : a.eval X = v at h
    cases h
    exact ⟨_, run _ _ hv, .pt _ _⟩
  · injection hr with hr; subst hr
    generalize hv : a.eval X = v at h
    cases h with
    | pe _ _ _ _ hreal =>
      refine ⟨_, run _ _ hv, ?_⟩
      rw [Nat.add_assoc]; exact .pe _ _ _ _ hreal
  · split at hr
    · rename_i hlt
      injection hr with hr; subst hr
      generalize hv : a.eval X = v at h
      cases h with
      | pr r' cs b oo us hb hc hro =>
        refine ⟨_, run _ _ hv, .pr _ _ b _ (fun j => us (f.offset + j)) hb (fun j hj => ?_) (fun j hj => ?_)⟩
        · rw [Nat.add_assoc]; exact hc _ (by simp at hj; omega)
        · rw [getElem_drop' hj]; exact hro _ _
    · cases hr
  · split at hr
    · rename_i hlt
      injection hr with hr; subst hr
      generalize hv : a.eval X = v at h
      cases h with
      | prv cs b oo us hb hc hro =>
        refine ⟨_, run _ _ hv, .prv _ b _ (fun j => us (f.offset + j)) hb (fun j hj => ?_) (fun j hj => ?_)⟩
        · rw [Nat.add_assoc]; exact hc _ (by simp at hj; omega)
        · rw [getElem_drop' hj]; exact hro _ _
    · cases hr
  · cases hr
def fillA (place : Nat → Option (Nat × Nat)) : List A → List (Nat × A) → Option (List A)
  | cs, [] => some cs
  | cs, (i, a) :: rest =>
    match place i with
    | none => none
    | some (off, size) => bif Nat.beq a.cells.length size && Nat.ble (off + size) cs.length && a.solid then fillA place (putC cs off a.cells) rest else none
theorem fillA_ok {E : Env} {w : World} {place : Nat → Option (Nat × Nat)} : ∀ (ps : List (Nat × A)) (vs : List (Nat × Value)) (cs cs' : List A) (c : Array Value), ps.map (·.1) = vs.map (·.1) →
    (∀ (j : Nat) (h1 : j < ps.length) (h2 : j < vs.length), Rep E w vs[j].2 ps[j].2) → c.size = cs.length → (∀ (j : Nat) (hj : j < cs.length), Rep E w (c.getD j undef) cs[j]) → fillA place cs ps = some cs' →
    ∃ c', Instr.fill place c vs = some c' ∧ c'.size = cs'.length ∧ ∀ (j : Nat) (hj : j < cs'.length), Rep E w (c'.getD j undef) cs'[j]
  | [], vs, cs, cs', c, h0, _, hs, hc, hf => by
    have : vs = [] := by simpa using h0.symm
    subst this
    simp only [fillA, Option.some.injEq] at hf
    subst hf
    exact ⟨c, rfl, hs, hc⟩
  | (i, a) :: ps, vs, cs, cs', c, h0, h1, hs, hc, hf => by
    cases vs with
    | nil => simp at h0
    | cons v vs =>
      obtain ⟨i', v⟩ := v
      simp only [List.map_cons, List.cons.injEq] at h0
      obtain ⟨rfl, h0⟩ := h0
      simp only [fillA] at hf
      cases hp : place i with
      | none => rw [hp] at hf; cases hf
      | some os =>
        obtain ⟨off, size⟩ := os
        rw [hp] at hf
        simp only at hf
        cases hb : Nat.beq a.cells.length size && Nat.ble (off + size) cs.length && a.solid with
        | false => rw [hb] at hf; cases hf
        | true =>
          rw [hb, cond_true] at hf
          simp only [Bool.and_eq_true] at hb
          have e1 := Nat.eq_of_beq_eq_true hb.1.1
          have e2 := Nat.le_of_ble_eq_true hb.1.2
          have hv := h1 0 (by simp) (by simp)
          simp only [List.getElem_cons_zero] at hv
          obtain ⟨hus, hur⟩ := rep_solid hv hb.2
          have hfs := fold_set_get off v.cells.toList 0 c (by simp; omega)
          simp only [Nat.add_zero] at hfs
          obtain ⟨f1, f2⟩ := hfs
          have hfold : v.cells.zipIdx.foldl (fun cs (p : Value × Nat) => cs.setIfInBounds (off + p.2) p.1) c = (v.cells.toList.zipIdx 0).foldl (fun cs (p : Value × Nat) => cs.setIfInBounds (off + p.2) p.1) c := by
            rw [← Array.foldl_toList]; simp
          obtain ⟨c', g1, g2, g3⟩ := fillA_ok ps vs (putC cs off a.cells) cs' (v.cells.zipIdx.foldl (fun cs (p : Value × Nat) => cs.setIfInBounds (off + p.2) p.1) c) h0
            (fun j h2 h3 => by have := h1 (j + 1) (by simpa using h2) (by simpa using h3); simpa using this) (by rw [hfold, f1, putC_length, hs]) (fun j hj => by
              rw [putC_length] at hj
              rw [hfold, f2]
              have hput := putC_get a.cells cs off j hj
              rw [List.getElem?_eq_getElem (by rw [putC_length]; exact hj)] at hput
              have hlen : v.cells.toList.length = a.cells.length := by simpa using hus
              rw [hlen]
              by_cases hin : off ≤ j ∧ j < off + a.cells.length
              · rw [if_pos hin] at hput ⊢
                have hja : j - off < a.cells.length := by omega
                rw [List.getElem?_eq_getElem hja, Option.some.injEq] at hput
                rw [hput]
                have := hur _ hja
                simpa [Array.getD_eq_getD_getElem?, List.getD_eq_getElem?_getD] using this
              · rw [if_neg hin] at hput ⊢
                rw [List.getElem?_eq_getElem hj, Option.some.injEq] at hput
                rw [hput]; exact hc j hj) hf
          refine ⟨c', ?_, g2, g3⟩
          simp only [Instr.fill, hp]
          rw [if_neg (by simp; omega)]
          exact g1
theorem parts_rep {P : Program} {E : Env} {w : World} {a : Act} {parts : Array (Nat × Operand)} {asx : List A} (hx : EvL st g (parts.toList.map (·.2)) asx) (hg : g = true) (hr : ∀ t, Rep E w (a.tmps.getD t undef) (st.slots t)) :
    (((parts.toList.map (·.1)).zip asx).map (·.1) = (parts.map fun (p : Nat × Operand) => (p.1, a.eval p.2)).toList.map (·.1)) ∧
    ∀ (j : Nat) (h1 : j < ((parts.toList.map (·.1)).zip asx).length) (h2 : j < (parts.map fun (p : Nat × Operand) => (p.1, a.eval p.2)).toList.length), Rep E w ((parts.map fun (p : Nat × Operand) => (p.1, a.eval p.2)).toList[j]).2 (((parts.toList.map (·.1)).zip asx)[j]).2 := by
  obtain ⟨hal, hav⟩ := evl_size (P := P) hx hg hr
  simp only [List.length_map, Array.length_toList] at hal
  constructor
  · rw [List.map_fst_zip (by simp; omega)]
    simp
  · intro j h1 h2
    have hj : j < asx.length := by simp at h1; omega
    have := hav j hj
    simpa [Array.getD_eq_getD_getElem?, show j < parts.size by omega] using this
theorem opP_build {t : TypeId} {parts : Array (Nat × Operand)} {fs : Array Field} {z : Value} {places : List (Nat × Nat)} {asx cs : List A} (ho : o.op = .build t parts) (ht : cx.P.underlying t = some (.struct fs))
    (hz : (cx.P.info? t).bind (·.zero) = some z) (hp : fs.toList.mapM (fun f => (cx.P.info? f.type).map fun i => (f.offset, i.size)) = some places) (hx : EvL st g (parts.toList.map (·.2)) asx)
    (hf : fillA (places.toArray[·]?) (zeroA z) ((parts.toList.map (·.1)).zip asx) = some cs) : OpP cx st g o (.st cs) := by
  intro hg E a w _ hr
  obtain ⟨hp1, hp2⟩ := parts_rep (P := cx.P) hx hg hr
  obtain ⟨hz1, hz2⟩ := zeroA_rep E w z
  obtain ⟨c, g1, g2, g3⟩ := fillA_ok (E := E) (w := w) _ _ _ _ z.cells hp1 hp2 hz1 hz2 hf
  obtain ⟨it, hit, hitz⟩ := Option.bind_eq_some_iff.1 hz
  have hb : cx.P.built t (parts.map fun (p : Nat × Operand) => (p.1, a.eval p.2)).toList = some c := by
    simp only [Program.built, hit, ht, hitz, hp]; exact g1
  have e : (parts.map fun (i, x) => (i, a.eval x)) = parts.map fun (p : Nat × Operand) => (p.1, a.eval p.2) := rfl
  exact ⟨.agg c, by simp only [execOp, ho, Sem.run_bind, e, run_build w t _ c hb, Result.andThen_ok, Sem.run_pure], .st _ _ g2 g3⟩
theorem opP_buildA {t e : TypeId} {n es : Nat} {parts : Array (Nat × Operand)} {z : Value} {asx cs : List A} (ho : o.op = .build t parts) (ht : cx.P.underlying t = some (.array n e))
    (hz : (cx.P.info? t).bind (·.zero) = some z) (hs : (cx.P.info? e).map (·.size) = some es) (hx : EvL st g (parts.toList.map (·.2)) asx)
    (hf : fillA (fun i => some (i * es, es)) (zeroA z) ((parts.toList.map (·.1)).zip asx) = some cs) : OpP cx st g o (.st cs) := by
  intro hg E a w _ hr
  obtain ⟨hp1, hp2⟩ := parts_rep (P := cx.P) hx hg hr
  obtain ⟨hz1, hz2⟩ := zeroA_rep E w z
  obtain ⟨c, g1, g2, g3⟩ := fillA_ok (E := E) (w := w) _ _ _ _ z.cells hp1 hp2 hz1 hz2 hf
  obtain ⟨it, hit, hitz⟩ := Option.bind_eq_some_iff.1 hz
  obtain ⟨ie, hie, rfl⟩ := Option.map_eq_some_iff.1 hs
  have hb : cx.P.built t (parts.map fun (p : Nat × Operand) => (p.1, a.eval p.2)).toList = some c := by
    simp only [Program.built, hit, ht, hitz, hie]; exact g1
  have e : (parts.map fun (i, x) => (i, a.eval x)) = parts.map fun (p : Nat × Operand) => (p.1, a.eval p.2) := rfl
  exact ⟨.agg c, by simp only [execOp, ho, Sem.run_bind, e, run_build w t _ c hb, Result.andThen_ok, Sem.run_pure], .st _ _ g2 g3⟩
theorem opP_index_st {X I : Operand} {t e : TypeId} {d : TypeDesc} {len : Nat} {cs : List A} {r : A} {k : IntKind} {i : Int} (ho : o.op = .index t X I) (ht : cx.P.underlying t = some (.array len e)) (hsz : (cx.P.info? e).map (·.size) = some 1)
    (he : cx.P.underlying e = some d) (hd : aggD d = false) (hx : Ev st g X (.st cs)) (hi : Ev st g I (.v (.int k i))) (h0 : g = true → 0 ≤ i) (h1 : g = true → i < len) (hr : g = true → cs[i.toNat]? = some r) : OpP cx st g o r := by
  intro hg E a w _ hs
  obtain ⟨hlt, rfl⟩ := getElem_eq (hr hg)
  have h := hx hg E w a hs
  generalize hv : a.eval X = v at h
  cases h with
  | st _ vs hsz' hrr =>
    refine ⟨vs.getD i.toNat undef, ?_, hrr _ hlt⟩
    have hlt' : i.toNat < vs.size := by omega
    simp only [execOp, ho, hv, rep_int (hi hg E w a hs), Instr.index, asIntOf, Sem.run_bind, Sem.run_pure, Result.andThen_ok, run_underlying ht]
    rw [if_pos ⟨h0 hg, h1 hg⟩]
    simp [run_sizeOf' hsz, part, run_isAgg' he hd, hlt', Array.getD_eq_getD_getElem?]
theorem al_stepD {d : Nat} {r : A} (hd : o.dst = some d) (hdN : Nat.blt d cx.N = true) (h : StepD cx ops st o r []) (hn : al cx ops Q rest (st.put d r)) : al cx ops Q (o :: rest) st := by
  intro a w hsim
  obtain ⟨rs, h0, h1, E, hi, hr⟩ := hsim
  have := h rs E a w st.objs (fun a' w' => wpListIn (fence cx.ro) 0 cx.P ops (post cx Q) rest a' w') (post cx Q) hi (fun _ _ h => h) hr h1 (fun k hk => by simp [keyIn, objL] at hk) (fun j o' _ => by
      have e : (keyIn ([] : List (Nat × O))) = inL [] := by funext k; rfl
      rw [e]
      cases o' with
      | row => rfl
      | var cs => exact hitL_nil cs
      | lp l r sl => exact hitL_nil _) (fun u w' E' hi' hrep hu => by
    rw [hd]
    refine hn _ _ ⟨rs, h0, by simp [Act.put, h1], E', hi', fun t => ?_⟩
    simp only [Act.put, getD_put (by rw [h1]; exact Nat.blt_eq ▸ hdN), State.put]
    by_cases ht : t = d
    · subst ht; simp; exact hu
    · rw [if_neg ht]
      have : Nat.beq t d = false := by cases hb : Nat.beq t d with | false => rfl | true => exact absurd (Nat.eq_of_beq_eq_true hb) ht
      simp only [this, cond_false]
      have e : (keyIn ([] : List (Nat × O))) = inL [] := by funext k; rfl
      exact hrep _ _ (hr t) (by rw [e]; exact hit_nil _))
  exact this
theorem stepD_callg {j tj : Nat} {want : Bool} {f : Nat} {asx cargs : List A} {res r : A} (hg : o.guard = some (j, want)) (hj : (ops[j]?).bind (·.dst) = some tj) (hgv : gval (st.slots tj) want = some g) (htj : Nat.blt tj cx.N = true)
    (hco : CallOf cx st g o f asx) (hok : g = true → Ok cx.P f cargs [] res []) (hv : g = true → VwL st.objs [] id asx cargs) (hwr : res.within (keyIn []) = true) (hr' : ∀ T, res.imp id T = r) : StepD cx ops st o (.when g r) [] := by
  intro rs E a w objs' K R hi hob hr h1 hnew hno hK
  have hw := wanted_of hr h1 hg hj hgv htj
  cases g with
  | false =>
    unfold op1
    rw [hw]
    simp only [Bool.false_eq_true, if_false]
    exact ⟨fun _ _ => trivial, hK undef w E hi (fun _ _ h _ => h) (.when _ _ _ (fun e => by cases e) (fun _ => rfl))⟩
  | true =>
    have := stepD_call (o := { o with guard := none }) (ops := ops) (ρ := id) (post := []) (new := []) (r := r) rfl (fun hg' E' a' w' hr'' => hco hg' E' a' w' hr'') (hok rfl) (hv rfl) rfl rfl hwr hr' (fun _ => rfl) rs E a w objs' K R hi hob hr h1 hnew hno
      (fun u w' E' h2 h3 h4 => hK u w' E' h2 h3 (.when _ _ _ (fun _ => h4) (fun e => by cases e)))
    unfold op1 at this ⊢
    rw [if_pos (wanted_none rfl _)] at this
    rw [hw, if_pos rfl]
    exact this
end
end Go.AL
namespace Go.AL
section
variable {cx : Cx} {Q : Exit → State → Prop} {st : State} {ops : Array Oper} {rest : List Oper} {o : Oper} {g : Bool}
inductive OptE (st : State) (g : Bool) : Option Operand → Option Int → Prop
  | none : OptE st g none none
  | some {X : Operand} {k : IntKind} {i : Int} (h : Ev st g X (.v (.int k i))) : OptE st g (some X) (some i)
theorem optE_eval {X : Option Operand} {x : Option Int} (h : OptE st g X x) (hg : g = true) {E : Env} {w : World} {a : Act} (hs : ∀ t, Rep E w (a.tmps.getD t undef) (st.slots t)) : (X = none ∧ x = none) ∨ ∃ Y k i, X = some Y ∧ x = some i ∧ a.eval Y = .int k i := by
  cases h with
  | none => exact .inl ⟨rfl, rfl⟩
  | some h => exact .inr ⟨_, _, _, rfl, rfl, rep_int (h hg E w a hs)⟩
theorem run_bounds {P : Program} {w : World} {len cap : Nat} {lo hi mx : Option Value} {l h m : Nat} (hm : (mx = none ∧ m = cap) ∨ ∃ k, mx = some (.int k (m : Int)) ∧ m ≤ cap) (hh : (hi = none ∧ mx = none ∧ h = len) ∨ ∃ k, hi = some (.int k (h : Int)) ∧ h ≤ m)
    (hl : (lo = none ∧ l = 0) ∨ ∃ k, lo = some (.int k (l : Int)) ∧ l ≤ h) : (Instr.sliceBounds true len cap lo hi mx).run P w = .ok (l, h, m) w := by
  rcases hm with ⟨rfl, rfl⟩ | ⟨k1, rfl, hm⟩ <;> rcases hh with ⟨rfl, e, rfl⟩ | ⟨k2, rfl, hh⟩ <;> rcases hl with ⟨rfl, rfl⟩ | ⟨k3, rfl, hl⟩ <;> first | (cases e; done) | skip
  all_goals simp [Instr.sliceBounds, Instr.sliceBound, asIntOf, *]
def natO : Option Int → Nat → Nat
  | none, d => d
  | some i, _ => i.toNat
theorem opP_slice_dat {t e : TypeId} {X : Operand} {L H : Option Operand} {lo hi : Option Int} {r : Option Nat} {es : Nat} {xs : List D} (ho : o.op = .slice t X L H none) (ht : cx.P.underlying t = some (.slice e)) (hsz : (cx.P.info? e).map (·.size) = some es)
    (hx : Ev st g X (.dat r (.sl es xs))) (hL : OptE st g L lo) (hH : OptE st g H hi) (h0 : g = true → ∀ i, lo = some i → 0 ≤ i) (h1 : g = true → ∀ i, hi = some i → 0 ≤ i) (h2 : g = true → natO lo 0 ≤ natO hi xs.length) (h3 : g = true → natO hi xs.length ≤ xs.length) :
    OpP cx st g o (.dat r (.sl es ((xs.drop (natO lo 0)).take (natO hi xs.length - natO lo 0)))) := by
  intro hg E a w _ hs
  have hd := rep_dat (hx hg E w a hs)
  have h2' := h2 hg
  have h3' := h3 hg
  have bounds : ∀ cap, xs.length ≤ cap → (Instr.sliceBounds true xs.length cap (L.map a.eval) (H.map a.eval) none).run cx.P w = .ok (natO lo 0, natO hi xs.length, cap) w := by
    intro cap hcap
    refine run_bounds (.inl ⟨rfl, rfl⟩) ?_ ?_
    · rcases optE_eval hH hg hs with ⟨rfl, rfl⟩ | ⟨Y, k, i, rfl, rfl, e⟩
      · exact .inl ⟨rfl, rfl, rfl⟩
      · have := h1 hg i rfl
        exact .inr ⟨k, by simp [e, natO, Int.toNat_of_nonneg this], by omega⟩
    · rcases optE_eval hL hg hs with ⟨rfl, rfl⟩ | ⟨Y, k, i, rfl, rfl, e⟩
      · exact .inl ⟨rfl, rfl⟩
      · have := h0 hg i rfl
        exact .inr ⟨k, by simp [e, natO, Int.toNat_of_nonneg this], h2'⟩
  generalize hv : a.eval X = v at hd
  generalize hxe : D.sl es xs = x at hd
  have hlen : ((xs.drop (natO lo 0)).take (natO hi xs.length - natO lo 0)).length = natO hi xs.length - natO lo 0 := by simp; omega
  cases hd with
  | nil ad cap es' =>
    injection hxe with e1 e2
    subst e1 e2
    have hr := bounds cap (Nat.zero_le _)
    simp only [List.length_nil] at hr h2' h3'
    have hl0 : natO lo 0 = 0 := by omega
    have hh0 : natO hi 0 = 0 := by omega
    rw [hl0, hh0] at hr
    refine ⟨.slice (if cap = 0 then ad else ad.map (·.add 0)) 0 cap, ?_, ?_⟩
    · simp [execOp, ho, hv, Instr.sliceAt, Instr.slice, run_underlying ht, hr, run_sizeOf' hsz]
    · simp; exact .dat _ _ _ (.nil _ _ _)
  | sl b oo cap es' xs' us hb hcap hes hc hrr =>
    injection hxe with e1 e2
    subst e1 e2
    have hr := bounds cap hcap
    have hro := RO.sl b oo cap es xs us hb hcap hes hc hrr
    refine ⟨.slice (if cap = natO lo 0 then some ⟨b, oo, none⟩ else some ⟨b, oo + natO lo 0 * es, none⟩) (natO hi xs.length - natO lo 0) (cap - natO lo 0), ?_, .dat _ _ _ ?_⟩
    · simp only [execOp, ho, hv, Instr.sliceAt, Instr.slice, run_underlying ht, Sem.run_bind, Result.andThen_ok, Option.map_none, hr, run_sizeOf' hsz, Sem.run_pure, Option.map_some, add_plain']
    · by_cases h0 : natO hi xs.length - natO lo 0 = 0
      · rw [h0]; simp; exact .nil _ _ _
      · rw [if_neg (by omega)]
        exact ro_slice (n := 0) hro _ _ _ (by omega) (by omega)
  | _ => cases hxe
theorem opP_slice_dat3 {t e : TypeId} {X H M : Operand} {k1 k2 : IntKind} {h m : Nat} {r : Option Nat} {es : Nat} {xs : List D} (ho : o.op = .slice t X none (some H) (some M)) (ht : cx.P.underlying t = some (.slice e)) (hsz : (cx.P.info? e).map (·.size) = some es)
    (hx : Ev st g X (.dat r (.sl es xs))) (hH : Ev st g H (.v (.int k1 (h : Int)))) (hM : Ev st g M (.v (.int k2 (m : Int)))) (h1 : g = true → h ≤ m) (h2 : g = true → m ≤ xs.length) : OpP cx st g o (.dat r (.sl es (xs.take h))) := by
  intro hg E a w _ hs
  have hd := rep_dat (hx hg E w a hs)
  have h1' := h1 hg
  have h2' := h2 hg
  have bounds : ∀ cap, xs.length ≤ cap → (Instr.sliceBounds true xs.length cap none (some (a.eval H)) (some (a.eval M))).run cx.P w = .ok (0, h, m) w := fun cap hcap =>
    run_bounds (.inr ⟨k2, by rw [rep_int (hM hg E w a hs)], by omega⟩) (.inr ⟨k1, by rw [rep_int (hH hg E w a hs)], h1'⟩) (.inl ⟨rfl, rfl⟩)
  generalize hv : a.eval X = v at hd
  generalize hxe : D.sl es xs = x at hd
  cases hd with
  | nil ad cap es' =>
    injection hxe with e1 e2
    subst e1 e2
    have hr := bounds cap (Nat.zero_le _)
    simp only [List.length_nil] at hr h2'
    have e1 : m = 0 := by omega
    have e2 : h = 0 := by omega
    subst e1 e2
    refine ⟨.slice ad 0 0, ?_, by simp; exact .dat _ _ _ (.nil _ _ _)⟩
    simp [execOp, ho, hv, Instr.sliceAt, Instr.slice, run_underlying ht, hr, run_sizeOf' hsz]
  | sl b oo cap es' xs' us hb hcap hes hc hrr =>
    injection hxe with e1 e2
    subst e1 e2
    have hr := bounds cap hcap
    have hro := RO.sl b oo cap es xs us hb hcap hes hc hrr
    refine ⟨.slice (some ⟨b, oo, none⟩) h m, ?_, .dat _ _ _ ?_⟩
    · simp only [execOp, ho, hv, Instr.sliceAt, Instr.slice, run_underlying ht, Sem.run_bind, Result.andThen_ok, Option.map_none, Option.map_some, hr, run_sizeOf' hsz, Sem.run_pure, add_plain', Nat.zero_mul, Nat.add_zero, ite_self, Nat.sub_zero]
    · have := ro_slice (n := 0) hro 0 h m (by omega) h1'
      simpa using this
  | _ => cases hxe
theorem opP_slice_00 {t e : TypeId} {X H M : Operand} {k1 k2 : IntKind} {ax : A} {es n : Nat} (ho : o.op = .slice t X none (some H) (some M)) (ht : cx.P.underlying t = some (.slice e)) (hsz : (cx.P.info? e).map (·.size) = some es)
    (hx : Ev st g X ax) (hn : lenA ax = some n) (hH : Ev st g H (.v (.int k1 0))) (hM : Ev st g M (.v (.int k2 0))) : OpP cx st g o .nil := by
  intro hg E a w _ hs
  obtain ⟨b, cap, hu⟩ := lenA_rep hn (hx hg E w a hs)
  have hr : (Instr.sliceBounds true n cap none (some (a.eval H)) (some (a.eval M))).run cx.P w = .ok (0, 0, 0) w :=
    run_bounds (.inr ⟨k2, by rw [rep_int (hM hg E w a hs)]; rfl, Nat.zero_le _⟩) (.inr ⟨k1, by rw [rep_int (hH hg E w a hs)]; rfl, Nat.zero_le _⟩) (.inl ⟨rfl, rfl⟩)
  refine ⟨.slice b 0 0, ?_, .nil b⟩
  simp [execOp, ho, hu, Instr.sliceAt, Instr.slice, run_underlying ht, hr, run_sizeOf' hsz]
inductive ZD : List Value → List D → Prop
  | nil : ZD [] []
  | int {k : IntKind} {n : Int} {l : List Value} {ds : List D} (t : ZD l ds) : ZD (.int k n :: l) (.int k n :: ds)
  | bool {b : Bool} {l : List Value} {ds : List D} (t : ZD l ds) : ZD (.bool b :: l) (.bool b :: ds)
  | sl {es : Nat} {l : List Value} {ds : List D} (t : ZD l ds) : ZD (.slice none 0 0 :: l) (.sl es [] :: ds)
theorem ZD.get {l : List Value} {ds : List D} (h : ZD l ds) : l.length = ds.length ∧ ∀ (w : World) (F : Nat → Prop) (j : Nat) (hj : j < ds.length), Own w F (l.getD j undef) ds[j] := by
  induction h with
  | nil => exact ⟨rfl, fun _ _ j hj => absurd hj (Nat.not_lt_zero _)⟩
  | int t ih => exact ⟨by simp [ih.1], fun w F j hj => by cases j with | zero => exact .int _ _ _ | succ j => simpa using ih.2 w F j (by simpa using hj)⟩
  | bool t ih => exact ⟨by simp [ih.1], fun w F j hj => by cases j with | zero => exact .bool _ _ | succ j => simpa using ih.2 w F j (by simpa using hj)⟩
  | sl t ih => exact ⟨by simp [ih.1], fun w F j hj => by cases j with | zero => exact .nil _ _ _ | succ j => simpa using ih.2 w F j (by simpa using hj)⟩
theorem opC_makeSlice {k es n : Nat} {t e : TypeId} {z : Value} {X Y : Operand} {k1 k2 : IntKind} {d : D} (ho : o.op = .makeSlice t X Y) (ht : cx.P.underlying t = some (.slice e)) (hsz : (cx.P.info? e).map (·.size) = some es)
    (hz : (cx.P.info? e).bind (·.zero) = some z) (hzd : ZD z.cells.toList d.cells) (hzs : Nat.beq z.cells.size es = true) (hby : ((cx.P.info? e).map fun i => Nat.ble i.bytes 1000) = some true)
    (hX : Ev st g X (.v (.int k1 (n : Int)))) (hY : Ev st g Y (.v (.int k2 (n : Int)))) (hn : g = true → n ≤ 1000000) : OpC cx st g o [] k (.row es (List.replicate n d)) (.row k es 0 n) := by
  intro hg rs E a w objs' hi hob hr
  have hn' := hn hg
  obtain ⟨i, hie, rfl⟩ := Option.map_eq_some_iff.1 hsz
  have hib : i.bytes ≤ 1000 := by rw [hie] at hby; simpa using hby
  have hzs' := Nat.eq_of_beq_eq_true hzs
  have hX' := rep_int (hX hg E w a hr)
  have hY' := rep_int (hY hg E w a hr)
  obtain ⟨hzl, hzo⟩ := hzd.get
  have hw : IntKind.i64.wrap (n : Int) = n := by rw [IntKind.wrap_i64]; omega
  have hbig : ¬ ((i.bytes : Int) * (n : Int) > 2 ^ 48) := by
    have : i.bytes * n ≤ 1000 * 1000000 := Nat.mul_le_mul hib hn'
    have h2 : ((i.bytes * n : Nat) : Int) ≤ ((1000 * 1000000 : Nat) : Int) := Int.ofNat_le.2 this
    rw [Int.natCast_mul] at h2
    intro h3
    have h4 : ((1000 * 1000000 : Nat) : Int) < 2 ^ 48 := by decide
    omega
  have key : ∃ c : Array Value, (execOp a.eval o).run cx.P w = .ok (.value (.slice (some ⟨w.heap.size, 0, none⟩) n n)) (w.alloc (.cells c e (0, 0))) ∧ c.size = n * i.size ∧ ∀ (a b : Nat), a < n → b < i.size → c.getD (a * i.size + b) undef = z.cells.getD b undef := by
    by_cases h0 : n * i.size = 0
    · refine ⟨(Array.range (n * i.size)).map ((#[] : Array Value)[· % (#[] : Array Value).size]!), ?_, by simp, fun a b ha hb => ?_⟩
      · simp only [execOp, ho, Instr.makeSlice, Sem.run_bind, run_underlying ht, Result.andThen_ok, hX', hY', asInt, asIntOf, Sem.run_pure, typeInfo, run_program, hie, hw]
        rw [if_neg (by simp only [Bool.or_eq_true, decide_eq_true_eq, not_or]; exact ⟨⟨⟨by omega, hbig⟩, by omega⟩, by omega⟩)]
        simp [h0, run_sizeOf' (P := cx.P) (t := e) (s := i.size) (by simp [hie]), newRow]
      · have := mul_add_lt ha hb; omega
    · refine ⟨(Array.range (n * i.size)).map (z.cells[· % z.cells.size]!), ?_, by simp, fun a b ha hb => ?_⟩
      · simp only [execOp, ho, Instr.makeSlice, Sem.run_bind, run_underlying ht, Result.andThen_ok, hX', hY', asInt, asIntOf, Sem.run_pure, typeInfo, run_program, hie, hw]
        rw [if_neg (by simp only [Bool.or_eq_true, decide_eq_true_eq, not_or]; exact ⟨⟨⟨by omega, hbig⟩, by omega⟩, by omega⟩)]
        simp [h0, run_sizeOf' (P := cx.P) (t := e) (s := i.size) (by simp [hie]), run_zeroValue' hz, newRow]
      · have hlt := mul_add_lt ha hb
        obtain ⟨_, e2⟩ := div_of (i := a) hb
        simp [Array.getD_eq_getD_getElem?, hlt, hzs', e2, Array.getElem!_eq_getD, hb]
  obtain ⟨c, hrun, hcs, hcg⟩ := key
  refine ⟨_, _, w.heap.size, n, True, fun c => c = w.heap.size, hrun, fun c hc _ => heap_alloc_lt _ _ hc, by simp, rfl, rfl, rfl, fun c hc => .inr (by omega), fun c hc => by simp; omega, ?_, row0_rep (by rw [replE_real]; trivial) replE_bl replE_cap⟩
  refine .row i.size _ (by rw [replE_real]; trivial) ?_
  rw [replE_fp, replE_bl, replE_cap]
  have hdl : d.cells.length = i.size := by rw [← hzl]; simpa using hzs'
  refine .sl _ w.heap.size n i.size _ c e (fun _ _ _ => False) rfl (heap_alloc_at _ _) hcs (by simp) (fun a ha => by simpa using hdl) (fun a ha b hb => ?_) (fun _ _ _ h => h.elim) (fun _ _ _ _ _ h => h.elim)
  simp only [List.getElem_replicate] at hb ⊢
  have ha' : a < n := by simpa using ha
  rw [hcg a b ha' (by omega)]
  have := hzo (w.alloc (.cells c e (0, 0))) (fun _ => False) b hb
  simpa [Array.getD_eq_getD_getElem?, List.getD_eq_getElem?_getD] using this
end
end Go.AL
namespace Go.AL
section
variable {cx : Cx} {Q : Exit → State → Prop} {st : State} {ops : Array Oper} {rest : List Oper} {o : Oper} {g : Bool}
theorem over_repl {objs' : Nat → Option O} {k : Nat} {ob : O} (hno : ∀ j o', objs' j = some o' → hitO (inL [k]) o' = false) (s : Nat → A) : overO objs' [(k, ob)] = ((⟨s, objs'⟩ : State).repl [] k ob).objs := by
  funext j
  simp only [overO, objL, State.repl, inL, Bool.or_false]
  cases hb : Nat.beq j k with
  | true => rfl
  | false =>
    simp only [cond_false]
    cases hj : objs' j with
    | none => simp [hj]
    | some o' =>
      simp only [hj, Option.map_some]
      have := okill_of (hno j o' hj)
      simp only [inL, Bool.or_false] at this
      rw [this]
theorem stepD_callgR {j tj : Nat} {want : Bool} {f K0 es n : Nat} {asx cargs : List A} {xs : List D} (k : Nat) (hg : o.guard = some (j, want)) (hj : (ops[j]?).bind (·.dst) = some tj) (hgv : gval (st.slots tj) want = some g) (htj : Nat.blt tj cx.N = true)
    (hco : CallOf cx st g o f asx) (hok : g = true → Ok cx.P f cargs [] (.row K0 es 0 n) [(K0, .row es xs)]) (hv : g = true → VwL st.objs [] (fun _ => k) asx cargs) :
    StepD cx ops st o (.when g (.row k es 0 n)) [(k, .row es (bif g then xs else []))] := by
  intro rs E a w objs' K R hi hob hr h1 hnew hno hK
  have hw := wanted_of hr h1 hg hj hgv htj
  cases g with
  | false =>
    unfold op1
    rw [hw]
    simp only [Bool.false_eq_true, if_false]
    rw [keyIn1] at hno hK
    have hk := hnew k (by rw [keyIn1]; simp [inL])
    obtain ⟨hi', hrep⟩ := repl_inv (st := ⟨fun _ => .any, objs'⟩) (ks := []) (k := k) (b := 0) (cap := 0) (real := False) (F := fun _ => False) (o := .row es []) hi hk.2 (fun _ _ _ => rfl) (Nat.le_refl _) rfl rfl rfl (fun _ h => h.elim) (fun _ h => h.elim) (.rownil _ (by rw [replE_real]; exact id))
    refine ⟨fun _ _ => trivial, hK undef w _ (by rw [cond_false, over_repl hno fun _ => .any]; exact hi') (fun x u' h hh => ?_) (.when _ _ _ (fun e => by cases e) (fun _ => rfl))⟩
    have := hrep u' x h
    rwa [A.kill_eq, hh] at this
  | true =>
    have := stepD_call (o := { o with guard := none }) (ops := ops) (ρ := fun _ => k) (post := [(K0, .row es xs)]) (new := [(k, .row es xs)]) (r := .row k es 0 n) rfl (fun hg' E' a' w' hr'' => hco hg' E' a' w' hr'') (hok rfl) (hv rfl) rfl rfl (by simp [A.within, keyIn, objL]) (fun _ => rfl) (fun _ => rfl)
      rs E a w objs' K R hi hob hr h1 hnew hno (fun u w' E' h2 h3 h4 => hK u w' E' h2 h3 (.when _ _ _ (fun _ => h4) (fun e => by cases e)))
    unfold op1 at this ⊢
    rw [if_pos (wanted_none rfl _)] at this
    rw [hw, if_pos rfl]
    exact this
theorem al_stepD1 {d k : Nat} {ob : O} {r : A} (hd : o.dst = some d) (hdN : Nat.blt d cx.N = true) (hvk : cx.vk k = false) (h : StepD cx ops (S0 st [k]) o r [(k, ob)])
    (hn : al cx ops Q rest (State.put ⟨(S0 st [k]).slots, overO (S0 st [k]).objs [(k, ob)]⟩ d r)) : al cx ops Q (o :: rest) st := by
  intro a w hsim
  obtain ⟨rs, h0, h1, E, hi, hr⟩ := s0_sim (K := [k]) hsim
  have := h rs E a w (S0 st [k]).objs (fun a' w' => wpListIn (fence cx.ro) 0 cx.P ops (post cx Q) rest a' w') (post cx Q) hi (fun _ _ h => h) hr h1 (fun j hj => by
      rw [keyIn1] at hj
      have e : j = k := by simpa [inL] using hj
      subst e
      exact ⟨by simp [S0, inL], hvk⟩) (fun j o' ho => by
      rw [keyIn1]
      simp only [S0] at ho
      cases hk : inL [k] j with
      | true => rw [hk] at ho; cases ho
      | false =>
        rw [hk, cond_false] at ho
        obtain ⟨o3, _, rfl⟩ := Option.map_eq_some_iff.1 ho
        exact okill_hit o3) (fun u w' E' hi' hrep hu => by
    rw [hd]
    refine hn _ _ ⟨rs, h0, by simp [Act.put, h1], E', hi', fun t => ?_⟩
    simp only [Act.put, getD_put (by rw [h1]; exact Nat.blt_eq ▸ hdN), State.put]
    by_cases ht : t = d
    · subst ht; simp; exact hu
    · rw [if_neg ht]
      have : Nat.beq t d = false := by cases hb : Nat.beq t d with | false => rfl | true => exact absurd (Nat.eq_of_beq_eq_true hb) ht
      simp only [this, cond_false]
      exact hrep _ _ (hr t) (by rw [keyIn1]; exact kill_hit _))
  exact this
end
end Go.AL
namespace Go.AL
open Go.Proofs
theorem enters_of {P : Program} {f : Nat} {fn : Func} (hf : P.funcs[f]? = some fn) (h1 : (fn.name == "runtime.NumGoroutine") = false) (h2 : fn.body.isNone = false) : Enters P f := by
  intro args w
  have : P.funcs[f]? = some fn := hf
  simp only [callFunc, Sem.run_bind, run_program, Result.andThen_ok, this, h1, h2, Bool.false_eq_true, if_false, Sem.run_pure]
theorem mixed : Tryz.prog.follows .mixedOrders = true := by kernel_rfl
theorem vkd_of {vk : Nat → Bool} {pre : List (Nat × O)} (h : ∀ k, vk k = isVar (objL pre k)) (ks : List Nat) (hk : (ks.all fun k => !(isVar (objL pre k))) = true) : ∀ k ∈ ks, vk k = false := by
  intro k hm
  have := List.all_eq_true.1 hk k hm
  rw [h]
  simpa using this
section
variable {cx : Cx} {Q : Exit → State → Prop} {st : State} {ops : Array Oper}
theorem ret_of {P : Program} {rs : List ResultVar} {res : A} {post : List (Nat × O)} {e : Exit} (ρ : Nat → Nat) (vs : List A) (h1 : ResL P st rs vs) (h2 : oneOf vs = res.ren ρ .tok) (h3 : objsAt st ρ post) (h4 : (post.all fun p => p.2.within (keyIn post)) = true)
    (h5 : injOn ρ (post.map (·.1)) = true) (h6 : ∀ k, cx.vk k = true → ρ k = k) (h7 : res.within (keyIn post) = true) (he : e = .ret ∨ e = .normal) : RetQ P rs res post cx e st := by
  rcases he with rfl | rfl <;> exact ⟨ρ, vs, h1, h2, ⟨objsAt_iff h3, h4, h5, h6⟩, h7⟩
theorem ret_id {P : Program} {rs : List ResultVar} {res : A} {post : List (Nat × O)} (vs : List A) (h1 : ResL P st rs vs) (h2 : oneOf vs = res) (h3 : objsIs st post) (h4 : (post.all fun p => p.2.within (keyIn post)) = true) (h7 : res.within (keyIn post) = true) :
    RetQ P rs res post cx .ret st :=
  ret_of id vs h1 (by rw [ren_id]; exact h2) (objsIs_at h3) h4 (injOn_id _) (fun _ _ => rfl) h7 (.inl rfl)
theorem end_id {P : Program} {rs : List ResultVar} {res : A} {post : List (Nat × O)} (vs : List A) (h1 : ResL P st rs vs) (h2 : oneOf vs = res) (h3 : objsIs st post) (h4 : (post.all fun p => p.2.within (keyIn post)) = true) (h7 : res.within (keyIn post) = true) :
    RetQ P rs res post cx .normal st :=
  ret_of id vs h1 (by rw [ren_id]; exact h2) (objsIs_at h3) h4 (injOn_id _) (fun _ _ => rfl) h7 (.inr rfl)
theorem ResL.celln' {P : Program} {t k oo n : Nat} {ty : TypeId} {d : TypeDesc} {cs vs : List A} {rs : List ResultVar} {l : List A} (h : st.slots t = .pt k oo) (hty : P.underlying ty = some d) (hd : aggD d = true)
    (hsz : (P.info? ty).map (·.size) = some n) (hk : st.objs k = some (.var cs)) (hn : Nat.ble (oo + n) cs.length = true) (hv : (cs.drop oo).take n = vs) (ht : ResL P st rs l) : ResL P st (.cell t ty :: rs) (.st vs :: l) := by
  subst hv; exact .celln h hty hd hsz hk hn ht
theorem aw_condS {c : Operand} {x y : Code} {b : Bool} (hc : st.ev c = .v (.bool b)) (hf : b = false → aw cx y Q st) (ht : b = true → aw cx x Q st) : aw cx (.cond c x y) Q st := aw_cond hc ht hf
theorem aw_condT {c : Operand} {x y : Code} {b : Bool} (hc : st.ev c = .v (.bool b)) (hb : b = true) (h : aw cx x Q st) : aw cx (.cond c x y) Q st :=
  aw_cond hc (fun _ => h) fun e => by rw [hb] at e; cases e
theorem aw_condF {c : Operand} {x y : Code} {b : Bool} (hc : st.ev c = .v (.bool b)) (hb : b = false) (h : aw cx y Q st) : aw cx (.cond c x y) Q st :=
  aw_cond hc (fun e => by rw [hb] at e; cases e) fun _ => h
theorem ad_phase' (ps : List PD) (fr : List Nat) {fuelT : Nat} (hs : Steps cx ops st ps ps) (hfr : Frees cx ops st ps fr ps) (hok : pdOk cx ops ps = true) (hf : freeOk ops ps fr = true) (ht : tailOk ops ps fr = true) (hnd : noDefer ops = true)
    (hQ : ∀ c s, ¬ Q (.panic c) s) (hvk : ∀ k ∈ pdKeys ps, cx.vk k = false) (hn : ps.length + fuelT = ops.size) (hT : ad cx ops fuelT (allL ops ps) Q (SL st ps fun _ => true)) :
    ad cx ops ops.size (Array.replicate ops.size false) Q st := ad_phase ps fr hok hf ht hnd hQ hvk hs hfr hn hT
end
theorem wrapS {i : Nat} (h : i < 1000000000) : IntKind.i64.wrap ((i : Int) + 1) = ((i + 1 : Nat) : Int) := by rw [IntKind.wrap_i64]; omega
def ints (l : List Int) : List D := l.map (.int .i64)
theorem ints_get {l : List Int} {i : Nat} (h : i < l.length) : (ints l)[i]? = some (.int .i64 l[i]) := by simp [ints, h]
theorem ints_len (l : List Int) : (ints l).length = l.length := by simp [ints]
theorem lenA_ints {r : Option Nat} {es : Nat} {l : List Int} : lenA (.dat r (.sl es (ints l))) = some l.length := by simp [lenA, ints_len]
theorem lenA_map {α : Type} {r : Option Nat} {es : Nat} {l : List α} {f : α → D} : lenA (.dat r (.sl es (l.map f))) = some l.length := by simp [lenA]
theorem flats_ints {l : List Int} : flats (ints l) = true := by simp [flats, ints, D.cells, D.flat1]
theorem oneD_ints {l : List Int} : oneD (ints l) = true := flats_one flats_ints
end Go.AL
namespace Go.AL
structure Inst where
  op : Int
  w : Int
  fl : Int
  args : List Int
  imm : Int
  to : List Int
structure Fn where
  params : List Int
  ret : Int
  slots : List Int
  blocks : List (List Inst)
def instD (x : Inst) : D := .agg [.int .i64 x.op, .int .i64 x.w, .int .i64 x.fl, .sl 1 (ints x.args), .int .u32 x.imm, .sl 1 (ints x.to)]
def instsD (l : List Inst) : D := .sl 6 (l.map instD)
def fnD (f : Fn) : D := .agg [.sl 1 (ints f.params), .int .i64 f.ret, .sl 1 (ints f.slots), .sl 1 (f.blocks.map instsD)]
def I64 (n : Int) : Prop := -9223372036854775808 ≤ n ∧ n < 9223372036854775808
structure Inst.Fits (x : Inst) : Prop where
  args : x.args.length < 1000000
  to : x.to.length < 1000000
  imm : 0 ≤ x.imm ∧ x.imm < 4294967296
  w : I64 x.w
  op : I64 x.op
  fl : I64 x.fl
  args64 : ∀ a ∈ x.args, I64 a
  to64 : ∀ a ∈ x.to, I64 a
structure Fn.Fits (f : Fn) : Prop where
  params : f.params.length < 1000000
  slots : f.slots.length < 1000000
  blocks : f.blocks.length < 1000000
  insts : ∀ l ∈ f.blocks, l.length < 1000000
  inst : ∀ l ∈ f.blocks, ∀ x ∈ l, x.Fits
  ret : I64 f.ret
  params64 : ∀ a ∈ f.params, I64 a
  slots64 : ∀ a ∈ f.slots, I64 a
def isW (n : Int) : Bool := decide (n ≥ 1) && decide (n ≤ 32)
def isWordR (n x : Int) : Bool := isW n && decide (x < 2 ^ n.toNat)
def isLastR (op : Int) : Bool := op == 29 || op == 30 || op == 31 || op == 32
def plainR (x : Inst) : Bool := x.fl == 0 && x.imm == 0
def arithR (x : Inst) : Bool :=
  if x.op == 1 || x.op == 2 || x.op == 3 || x.op == 11 then decide (x.fl ≥ 0) && decide (x.fl ≤ 3)
  else if x.op == 4 || x.op == 6 || x.op == 12 || x.op == 13 then x.fl == 0 || x.fl == 4
  else x.fl == 0
def shapeR (f : Fn) (x : Inst) : Int × Int × Bool :=
  if x.op == 0 then (0, 0, isW x.w && x.fl == 0 && isWordR x.w x.imm)
  else if x.op == 14 then (2, 0, x.w == 1 && x.fl == 0 && decide (x.imm ≤ 9))
  else if x.op == 15 then (3, 0, (isW x.w || x.w == 33) && plainR x)
  else if x.op == 16 || x.op == 17 || x.op == 18 || x.op == 21 then (1, 0, isW x.w && plainR x)
  else if x.op == 19 || x.op == 20 then (2, 0, isW x.w && x.fl == 0 && decide (x.imm ≥ 1) && decide (x.imm < x.w) && x.w.tmod x.imm == 0)
  else if x.op == 22 || x.op == 23 then (0, 0, isW x.w && plainR x)
  else if x.op == 24 then (0, 0, x.w == 33 && x.fl == 0 && decide (x.imm < f.slots.length))
  else if x.op == 25 then (2, 0, x.w == 33 && x.imm == 0 && (x.fl == 0 || x.fl == 8))
  else if x.op == 26 then (1, 0, (x.w == 8 || x.w == 16 || x.w == 32) && plainR x)
  else if x.op == 27 then (2, 0, x.w == 0 && plainR x)
  else if x.op == 28 then (-1, -1, (isW x.w || x.w == 33) && plainR x && decide (0 < x.args.length))
  else if x.op == 29 then (0, 1, x.w == 0 && plainR x)
  else if x.op == 30 then (1, 2, x.w == 0 && plainR x)
  else if x.op == 31 then ((if f.ret > 0 then 1 else 0), 0, x.w == 0 && plainR x)
  else if x.op == 32 then (0, 0, x.w == 0 && plainR x)
  else if decide (x.op ≥ 1) && decide (x.op ≤ 13) then (2, 0, isW x.w && x.imm == 0 && arithR x)
  else (0, 0, false)
theorem wrapI {n : Int} (h : I64 n) : IntKind.i64.wrap n = n := by rw [IntKind.wrap_i64]; simp only [I64] at h; omega
theorem wrapU {n : Int} (h : 0 ≤ n ∧ n < 4294967296) : IntKind.i64.wrap n = n := by rw [IntKind.wrap_i64]; omega
theorem word_eq (n x : Int) (hx : 0 ≤ x ∧ x < 4294967296) :
    (isW n && decide (IntKind.i64.wrap x < IntKind.i64.wrap (1 * 2 ^ min (IntKind.u64.wrap n).toNat IntKind.i64.bits))) = isWordR n x := by
  unfold isWordR
  cases h : isW n with
  | false => rfl
  | true =>
    simp only [isW, Bool.and_eq_true, decide_eq_true_eq] at h
    have e1 : IntKind.u64.wrap n = n := by rw [IntKind.wrap_u64]; omega
    have e2 : min n.toNat IntKind.i64.bits = n.toNat := by show min n.toNat 64 = _; omega
    rw [wrapU hx, e1, e2, Int.one_mul]
    have h3 : (2 : Int) ^ n.toNat ≤ 2 ^ 32 := by
      have : (2 : Nat) ^ n.toNat ≤ 2 ^ 32 := Nat.pow_le_pow_right (by omega) (by omega)
      exact_mod_cast this
    have h4 : (0 : Int) < 2 ^ n.toNat := Int.pow_pos (by omega)
    rw [wrapI ⟨by omega, by omega⟩]
def total (bs : List (List Inst)) : Nat := bs.flatten.length
def numberR (f : Fn) (b : Nat) : Nat := f.params.length + total (f.blocks.take b)
def countR (f : Fn) : Nat := f.params.length + total f.blocks
def kindsR (f : Fn) : List Int := f.params ++ f.blocks.flatten.map (·.w)
def kindR (f : Fn) (v : Int) : Int := if v < 0 then -1 else (kindsR f).getD v.toNat (-1)
theorem total_le {bs : List (List Inst)} {M : Nat} (h : ∀ l ∈ bs, l.length ≤ M) : total bs ≤ bs.length * M := by
  unfold total
  induction bs with
  | nil => simp
  | cons l bs ih =>
    have h1 := h l (by simp)
    have h2 := ih fun x hx => h x (by simp [hx])
    rw [List.flatten_cons, List.length_append, List.length_cons, Nat.add_mul]; omega
theorem total_take_succ {bs : List (List Inst)} {b : Nat} (h : b < bs.length) : total (bs.take (b + 1)) = total (bs.take b) + bs[b].length := by
  unfold total
  rw [List.take_succ_eq_append_getElem h, List.flatten_append, List.length_append]; simp
theorem total_take_le (bs : List (List Inst)) (b : Nat) : total (bs.take b) ≤ total bs := by
  unfold total
  conv => rhs; rw [← List.take_append_drop b bs]
  rw [List.flatten_append, List.length_append]; omega
theorem numberR_succ {f : Fn} {b : Nat} (h : b < f.blocks.length) : numberR f (b + 1) = numberR f b + f.blocks[b].length := by
  unfold numberR; rw [total_take_succ h]; omega
theorem Fn.Fits.total {f : Fn} (h : f.Fits) : total f.blocks ≤ 1000000000000 := by
  have h1 := total_le (M := 1000000) (fun l hl => Nat.le_of_lt (h.insts l hl))
  have h2 : f.blocks.length * 1000000 ≤ 1000000 * 1000000 := Nat.mul_le_mul_right _ (Nat.le_of_lt h.blocks)
  omega
theorem Fn.Fits.number {f : Fn} (h : f.Fits) (b : Nat) : numberR f b ≤ 1000001000000 := by
  have h1 := h.total
  have h2 := total_take_le f.blocks b
  have h3 := h.params
  unfold numberR; omega
def whereGo : List (List Inst) → Nat → Nat → Int → Int × Int
  | [], _, _, _ => (-1, -1)
  | l :: r, n, b, v => if decide (v ≥ n) && decide (v < n + l.length) then (b, v - n) else whereGo r (n + l.length) (b + 1) v
def whereR (f : Fn) (v : Int) : Int × Int := whereGo f.blocks f.params.length 0 v
theorem where_drop {f : Fn} {b : Nat} (h : b < f.blocks.length) (v : Int) : whereGo (f.blocks.drop b) (numberR f b) b v =
    if decide (v ≥ numberR f b) && decide (v < numberR f b + f.blocks[b].length) then ((b : Int), v - numberR f b) else whereGo (f.blocks.drop (b + 1)) (numberR f (b + 1)) (b + 1) v := by
  rw [List.drop_eq_getElem_cons h, numberR_succ h]
  simp [whereGo]
theorem blocks_get {f : Fn} {b : Nat} (h : b < f.blocks.length) : (f.blocks.map instsD)[b]? = some (instsD f.blocks[b]) := by simp [h]
theorem blocks_len (f : Fn) : (f.blocks.map instsD).length = f.blocks.length := by simp
theorem insts_get {l : List Inst} {i : Nat} (h : i < l.length) : (l.map instD)[i]? = some (instD l[i]) := by simp [h]
theorem insts_len (l : List Inst) : (l.map instD).length = l.length := by simp
theorem whereGo_spec : ∀ (bs : List (List Inst)) (n b0 : Nat) (v : Int), n ≤ v → v < n + total bs → ∃ (b i : Nat) (hb : b < bs.length) (hi : i < bs[b].length), whereGo bs n b0 v = (((b0 + b : Nat) : Int), (i : Int)) ∧ bs.flatten[(v - n).toNat]? = some bs[b][i]
  | [], n, b0, v, h1, h2 => by simp [total] at h2; omega
  | l :: r, n, b0, v, h1, h2 => by
    by_cases h : v < n + l.length
    · refine ⟨0, (v - n).toNat, by simp, by simp; omega, ?_, ?_⟩
      · simp only [whereGo]
        rw [if_pos (by simp; omega)]
        simp; omega
      · rw [List.flatten_cons, List.getElem?_append_left (by omega), List.getElem?_eq_getElem (by omega)]; simp
    · have ht : total (l :: r) = l.length + total r := by simp [total]
      obtain ⟨b, i, hb, hi, e1, e2⟩ := whereGo_spec r (n + l.length) (b0 + 1) v (by omega) (by omega)
      refine ⟨b + 1, i, by simpa using hb, by simpa using hi, ?_, ?_⟩
      · simp only [whereGo]
        rw [if_neg (by simp; omega), e1]
        simp; omega
      · rw [List.flatten_cons, List.getElem?_append_right (by omega)]
        rw [show (v - n).toNat - l.length = (v - (n + l.length : Nat)).toNat from by omega, e2]; simp
theorem kind_param {f : Fn} {v : Int} (h0 : 0 ≤ v) (h : v < f.params.length) : ∃ hp : v.toNat < f.params.length, kindR f v = f.params[v.toNat] := by
  refine ⟨by omega, ?_⟩
  unfold kindR kindsR
  rw [if_neg (by omega), List.getD_eq_getElem?_getD, List.getElem?_append_left (by omega), List.getElem?_eq_getElem (by omega)]; rfl
theorem kind_inst {f : Fn} {v : Int} (h0 : f.params.length ≤ v) (h : v < countR f) :
    ∃ (b i : Nat) (hb : b < f.blocks.length) (hi : i < f.blocks[b].length), whereR f v = ((b : Int), (i : Int)) ∧ kindR f v = f.blocks[b][i].w := by
  obtain ⟨b, i, hb, hi, e1, e2⟩ := whereGo_spec f.blocks f.params.length 0 v h0 (by unfold countR at h; omega)
  refine ⟨b, i, hb, hi, by rw [whereR, e1]; simp, ?_⟩
  unfold kindR kindsR
  rw [if_neg (by omega), List.getD_eq_getElem?_getD, List.getElem?_append_right (by omega), List.getElem?_map, show v.toNat - f.params.length = (v - (f.params.length : Nat)).toNat from by omega, e2]; rfl
theorem kind_none {f : Fn} {v : Int} (h : v < 0 ∨ countR f ≤ v) : kindR f v = -1 := by
  unfold kindR
  by_cases h0 : v < 0
  · rw [if_pos h0]
  · have hl : (kindsR f).length = countR f := by rw [kindsR, List.length_append, List.length_map]; rfl
    rw [if_neg h0, List.getD_eq_getElem?_getD, List.getElem?_eq_none (by omega)]; rfl
def hasR (l : List Int) (n : Int) : Bool := l.any (· == n)
def rowD (l : List Int) : D := .sl 1 (ints l)
def lastTo (l : List Inst) : List Int := ((l.getLast?).map (·.to)).getD []
def graphR (f : Fn) : List (List Int) := f.blocks.map lastTo
theorem graph_len (f : Fn) : (graphR f).length = f.blocks.length := by simp [graphR]
theorem rows_get {g : List (List Int)} {i : Nat} (h : i < g.length) : (g.map rowD)[i]? = some (rowD g[i]) := by simp [h]
theorem rows_len (g : List (List Int)) : (g.map rowD).length = g.length := by simp
theorem oneD_rows {g : List (List Int)} : oneD (g.map rowD) = true := by simp [oneD, rowD, D.cells, D.one]
def beforeN (g : List (List Int)) (v : Int) (n : Nat) : List Int := ((List.range n).filter fun b => hasR (g.getD b []) v).map fun (n : Nat) => (n : Int)
def beforeR (g : List (List Int)) (v : Int) : List Int := beforeN g v g.length
theorem beforeN_succ (g : List (List Int)) (v : Int) (n : Nat) : beforeN g v (n + 1) = if hasR (g.getD n []) v then beforeN g v n ++ [(n : Int)] else beforeN g v n := by
  unfold beforeN
  rw [List.range_succ, List.filter_append, List.map_append]
  by_cases h : hasR (g.getD n []) v = true
  · rw [if_pos h]; simp only [List.filter_cons, h, if_true, List.filter_nil, List.map_cons, List.map_nil]
  · rw [if_neg h]; simp only [List.filter_cons, h, List.filter_nil, List.map_nil, List.append_nil]; simp
theorem beforeN_le (g : List (List Int)) (v : Int) (n : Nat) : (beforeN g v n).length ≤ n := by
  unfold beforeN
  rw [List.length_map]
  exact Nat.le_trans (List.length_filter_le _ _) (by simp)
def bools (l : List Bool) : List D := l.map .bool
theorem bools_get {l : List Bool} {i : Nat} (h : i < l.length) : (bools l)[0 + i]? = some (.bool l[i]) := by simp [bools, h]
theorem bools_set {l : List Bool} {i : Nat} : (bools l).set (0 + i) (.bool true) = bools (l.set i true) := by simp [bools]
def stepI (w : Int) (o : List Bool) (t : Int) : List Bool := if t != w then o.set t.toNat true else o
def stepB (g : List (List Int)) (w : Int) (o : List Bool) (b : Nat) : List Bool := if o.getD b false then (g.getD b []).foldl (stepI w) o else o
def partG (g : List (List Int)) (w : Int) (b : Nat) (o : List Bool) : List Bool := (List.range b).foldl (stepB g w) o
def roundsG (g : List (List Int)) (w : Int) : Nat → List Bool → List Bool
  | 0, o => o
  | k + 1, o => partG g w g.length (roundsG g w k o)
def firstG (g : List (List Int)) : List Bool := (List.replicate g.length false).set 0 true
def reachedR (g : List (List Int)) (w : Int) : List Bool := if w == 0 then List.replicate g.length false else roundsG g w g.length (firstG g)
theorem stepI_len (w : Int) (o : List Bool) (t : Int) : (stepI w o t).length = o.length := by unfold stepI; split <;> simp
theorem foldI_len (w : Int) (l : List Int) : ∀ o : List Bool, (l.foldl (stepI w) o).length = o.length := by
  induction l with
  | nil => exact fun _ => rfl
  | cons t l ih => exact fun o => by rw [List.foldl_cons, ih, stepI_len]
theorem stepB_len (g : List (List Int)) (w : Int) (o : List Bool) (b : Nat) : (stepB g w o b).length = o.length := by unfold stepB; split; exact foldI_len _ _ _; rfl
theorem partG_len (g : List (List Int)) (w : Int) (b : Nat) (o : List Bool) : (partG g w b o).length = o.length := by
  unfold partG
  induction b with
  | zero => rfl
  | succ b ih => rw [List.range_succ, List.foldl_append, List.foldl_cons, List.foldl_nil, stepB_len, ih]
theorem partG_succ (g : List (List Int)) (w : Int) (b : Nat) (o : List Bool) : partG g w (b + 1) o = stepB g w (partG g w b o) b := by
  unfold partG; rw [List.range_succ, List.foldl_append]; rfl
theorem roundsG_len (g : List (List Int)) (w : Int) (k : Nat) (o : List Bool) : (roundsG g w k o).length = o.length := by
  induction k with
  | zero => rfl
  | succ k ih => rw [roundsG, partG_len, ih]
theorem firstG_len (g : List (List Int)) : (firstG g).length = g.length := by simp [firstG]
theorem stepI_keep {w : Int} {o : List Bool} {t : Int} {b : Nat} (h : o.getD b false = true) : (stepI w o t).getD b false = true := by
  unfold stepI
  split
  · rw [List.getD_eq_getElem?_getD] at h ⊢
    rw [List.getElem?_set]
    split
    · split
      · rfl
      · rename_i h1 h2; subst h1; rw [List.getElem?_eq_none (by omega)] at h; simp at h
    · exact h
  · exact h
theorem foldI_keep {w : Int} (l : List Int) : ∀ {o : List Bool} {b : Nat}, o.getD b false = true → (l.foldl (stepI w) o).getD b false = true := by
  induction l with
  | nil => exact fun h => h
  | cons t l ih => exact fun h => ih (stepI_keep h)
def innerG (g : List (List Int)) (w : Int) (o : List Bool) (b i : Nat) : List Bool := if o.getD b false then ((g.getD b []).take i).foldl (stepI w) o else o
theorem innerG_len (g : List (List Int)) (w : Int) (o : List Bool) (b i : Nat) : (innerG g w o b i).length = o.length := by unfold innerG; split; exact foldI_len _ _ _; rfl
theorem innerG_succ {g : List (List Int)} {w : Int} {o : List Bool} {b i : Nat} (ho : o.getD b false = true) (hb : b < g.length) (hi : i < g[b].length) : innerG g w o b (i + 1) = stepI w (innerG g w o b i) g[b][i] := by
  unfold innerG
  rw [if_pos ho, if_pos ho]
  have e : g.getD b [] = g[b] := by simp [hb]
  rw [e, List.take_succ_eq_append_getElem hi, List.foldl_append]; rfl
theorem innerG_keep {g : List (List Int)} {w : Int} {o : List Bool} {b i : Nat} (hb : (innerG g w o b i).getD b false = true) : o.getD b false = true := by
  unfold innerG at hb
  cases h : o.getD b false with
  | true => rfl
  | false => rw [h] at hb; simp at hb; simp [List.getD_eq_getElem?_getD, hb] at h
theorem innerG_end {g : List (List Int)} {w : Int} {o : List Bool} {b i : Nat} (hb : b < g.length) (h : i = g[b].length ∨ (innerG g w o b i).getD b false = false) : innerG g w o b i = stepB g w o b := by
  unfold stepB
  cases ho : o.getD b false with
  | true =>
    have hk : (innerG g w o b i).getD b false = true := by unfold innerG; rw [if_pos ho]; exact foldI_keep _ ho
    rcases h with h | h
    · unfold innerG
      have e : g.getD b [] = g[b] := by simp [hb]
      rw [if_pos ho, if_pos rfl, e, h, List.take_length]
    · rw [hk] at h; cases h
  | false => unfold innerG; rw [ho]; rfl
theorem reachedR_len (g : List (List Int)) (w : Int) : (reachedR g w).length = g.length := by unfold reachedR; split; simp; rw [roundsG_len, firstG_len]
def dominatesR (g : List (List Int)) (a b : Int) : Bool := a == b || !((reachedR g a).getD b.toNat false)
def thereR (f : Fn) (g : List (List Int)) (v block at' : Int) : Bool :=
  if (whereR f v).1 < 0 then true else if (whereR f v).1 == block then decide (at' < 0) || decide ((whereR f v).2 < at') else dominatesR g (whereR f v).1 block
structure GOk (g : List (List Int)) : Prop where
  len : g.length < 1000000
  row : ∀ l ∈ g, l.length < 1000000
  ok : ∀ l ∈ g, ∀ t ∈ l, 0 ≤ t ∧ t < g.length
  pos : 0 < g.length
def toBad (f : Fn) (t : Int) : Bool := decide (t < 0) || decide (t ≥ f.blocks.length)
def countBad (f : Fn) (x : Inst) : Bool :=
  (decide ((shapeR f x).1 ≥ 0) && (x.args.length : Int) != (shapeR f x).1) || (decide ((shapeR f x).1 < 0) && (x.args.length : Int) != x.to.length) || (decide ((shapeR f x).2.1 ≥ 0) && (x.to.length : Int) != (shapeR f x).2.1)
def argumentR (f : Fn) (x : Inst) : Bool :=
  (shapeR f x).2.2 && !(countBad f x) && !(x.to.any (toBad f)) && (x.op != 30 || x.to.getD 0 0 != x.to.getD 1 0)
theorem branch_to {f : Fn} {x : Inst} (h : countBad f x = false) (h30 : x.op = 30) : x.to.length = 2 := by
  have e : (shapeR f x).2.1 = 2 := by simp [shapeR, h30]
  simp only [countBad, e, Bool.or_eq_false_iff] at h
  have := h.2
  simp at this
  omega
theorem ints_getD {l : List Int} {i : Nat} (h : i < l.length) : (ints l)[i]? = some (.int .i64 (l.getD i 0)) := by rw [ints_get h]; simp [h]
theorem args_len {f : Fn} {x : Inst} {c : Int} (ha : argumentR f x = true) (hc : (shapeR f x).1 = c) (h0 : 0 ≤ c) : (x.args.length : Int) = c := by
  simp only [argumentR, Bool.and_eq_true, Bool.not_eq_true', countBad, Bool.or_eq_false_iff, hc] at ha
  have := ha.1.1.2.1.1
  simp at this
  omega
def typedR (f : Fn) (x : Inst) : Bool :=
  let k := x.args.map (kindR f)
  if k.any (fun n => decide (n < 0)) then false
  else if x.op == 14 then isW (k.getD 0 0) && k.getD 1 0 == k.getD 0 0
  else if x.op == 15 then k.getD 0 0 == 1 && k.getD 1 0 == x.w && k.getD 2 0 == x.w
  else if x.op == 16 || x.op == 17 then isW (k.getD 0 0) && decide (k.getD 0 0 < x.w)
  else if x.op == 18 then isW (k.getD 0 0) && decide (k.getD 0 0 > x.w)
  else if x.op == 25 then k.getD 0 0 == 33 && isW (k.getD 1 0)
  else if x.op == 26 then k.getD 0 0 == 33
  else if x.op == 27 then k.getD 0 0 == 33 && (k.getD 1 0 == 8 || k.getD 1 0 == 16 || k.getD 1 0 == 32)
  else if x.op == 30 then k.getD 0 0 == 1
  else if x.op == 31 then (x.args.length : Int) == 0 || k.getD 0 0 == f.ret
  else k.all (fun n => n == x.w)
def layBad (l : List Inst) (i : Nat) (hi : i < l.length) : Bool :=
  (isLastR l[i].op != ((i : Int) == ((l.length : Int) - 1))) || (decide ((i : Int) > 0) && l[i].op == 28 && (l[i - 1]'(by omega)).op != 28)
def layBadD (l : List Inst) (i : Nat) : Bool := if h : i < l.length then layBad l i h else false
def blockOk (l : List Inst) : Bool := l.length != 0 && (List.range l.length).all fun i => !(layBadD l i)
def phiOk (f : Fn) (b : Nat) (x : Inst) : Bool := x.op != 28 || x.to == beforeR (graphR f) b
def phisOk (f : Fn) (b : Nat) : Bool := (f.blocks.getD b []).all (phiOk f b)
def rulesR (f : Fn) : Bool := f.blocks.all blockOk && (beforeR (graphR f) 0).length == 0 && (List.range f.blocks.length).all (phisOk f)
theorem blockOk_ne {f : Fn} (h : f.blocks.all blockOk = true) : ∀ l ∈ f.blocks, l ≠ [] := by
  intro l hl e
  have := List.all_eq_true.1 h l hl
  subst e
  simp [blockOk] at this
end Go.AL
namespace Go.AL
open Go.Proofs
theorem u3 : Tryz.prog.underlying 3 = some Tryz.t3.desc := by kernel_rfl
theorem s3 : (Tryz.prog.info? 3).map (·.size) = some 1 := by kernel_rfl
theorem z3 : (Tryz.prog.info? 3).bind (·.zero) = Tryz.t3.zero := by kernel_rfl
theorem b3 : ((Tryz.prog.info? 3).map fun i => Nat.ble i.bytes 1000) = some true := by kernel_rfl
theorem u4 : Tryz.prog.underlying 4 = some Tryz.t4.desc := by kernel_rfl
theorem s4 : (Tryz.prog.info? 4).map (·.size) = some 1 := by kernel_rfl
theorem z4 : (Tryz.prog.info? 4).bind (·.zero) = Tryz.t4.zero := by kernel_rfl
theorem b4 : ((Tryz.prog.info? 4).map fun i => Nat.ble i.bytes 1000) = some true := by kernel_rfl
theorem u22 : Tryz.prog.underlying 22 = some Tryz.t22.desc := by kernel_rfl
theorem s22 : (Tryz.prog.info? 22).map (·.size) = some 1 := by kernel_rfl
theorem z22 : (Tryz.prog.info? 22).bind (·.zero) = Tryz.t22.zero := by kernel_rfl
theorem b22 : ((Tryz.prog.info? 22).map fun i => Nat.ble i.bytes 1000) = some true := by kernel_rfl
theorem u27 : Tryz.prog.underlying 27 = some Tryz.t26.desc := by kernel_rfl
theorem s27 : (Tryz.prog.info? 27).map (·.size) = some 4 := by kernel_rfl
theorem z27 : (Tryz.prog.info? 27).bind (·.zero) = Tryz.t27.zero := by kernel_rfl
theorem b27 : ((Tryz.prog.info? 27).map fun i => Nat.ble i.bytes 1000) = some true := by kernel_rfl
theorem u36 : Tryz.prog.underlying 36 = some Tryz.t36.desc := by kernel_rfl
theorem s36 : (Tryz.prog.info? 36).map (·.size) = some 1 := by kernel_rfl
theorem z36 : (Tryz.prog.info? 36).bind (·.zero) = Tryz.t36.zero := by kernel_rfl
theorem b36 : ((Tryz.prog.info? 36).map fun i => Nat.ble i.bytes 1000) = some true := by kernel_rfl
theorem u38 : Tryz.prog.underlying 38 = some Tryz.t37.desc := by kernel_rfl
theorem s38 : (Tryz.prog.info? 38).map (·.size) = some 6 := by kernel_rfl
theorem z38 : (Tryz.prog.info? 38).bind (·.zero) = Tryz.t38.zero := by kernel_rfl
theorem b38 : ((Tryz.prog.info? 38).map fun i => Nat.ble i.bytes 1000) = some true := by kernel_rfl
theorem u88 : Tryz.prog.underlying 88 = some Tryz.t88.desc := by kernel_rfl
theorem s88 : (Tryz.prog.info? 88).map (·.size) = some 1 := by kernel_rfl
theorem z88 : (Tryz.prog.info? 88).bind (·.zero) = Tryz.t88.zero := by kernel_rfl
theorem b88 : ((Tryz.prog.info? 88).map fun i => Nat.ble i.bytes 1000) = some true := by kernel_rfl
theorem u116 : Tryz.prog.underlying 116 = some Tryz.t115.desc := by kernel_rfl
theorem s116 : (Tryz.prog.info? 116).map (·.size) = some 3 := by kernel_rfl
theorem z116 : (Tryz.prog.info? 116).bind (·.zero) = Tryz.t116.zero := by kernel_rfl
theorem b116 : ((Tryz.prog.info? 116).map fun i => Nat.ble i.bytes 1000) = some true := by kernel_rfl
theorem e42 : Enters Tryz.prog 42 := enters_of Tryz.func42 (by kernel_rfl) (by kernel_rfl)
set_option maxRecDepth 100000 in
set_option maxHeartbeats 4000000 in
theorem c42 (n : Int) : Ok Tryz.prog 42 [.v (.int .i64 n)] [] (.v (.bool (isW n))) [] := by
  refine ok_of e42 Tryz.func42 rfl (by kernel_rfl) ?_
  intro cx hP hro hN hvk
  obtain ⟨P, ro, w0, Bin, N, R0, tk0, bl0, vk⟩ := cx
  subst hP hro hN
  have hvkd := vkd_of hvk
  refine aw_seq ?_
  refine aw_region ?_
  refine al_op rfl rfl rfl (opP_assign rfl (ev_const rfl)) ?_
  refine al_nil ?_
  refine aw_seq ?_
  refine aw_region ?_
  refine al_op rfl rfl rfl (opP_move rfl (ev_tmp rfl)) ?_
  refine al_op rfl rfl rfl (opP_bin rfl (ev_tmp rfl) (ev_const rfl) rfl) ?_
  refine al_op rfl rfl rfl (opP_move rfl (ev_tmp rfl)) ?_
  refine al_opg rfl rfl rfl rfl rfl rfl (opP_move rfl (ev_tmp rfl)) ?_
  refine al_opg rfl rfl rfl rfl rfl rfl (opP_bin rfl (ev_when rfl id) (ev_const rfl) rfl) ?_
  refine al_op rfl rfl rfl (opP_and rfl (ev_tmp rfl) (ev_when rfl id)) ?_
  refine al_op rfl rfl rfl (opP_assign rfl (ev_tmp rfl)) ?_
  refine al_nil ?_
  refine aw_ret ?_
  exact ret_id _ (.tmp rfl .nil) rfl trivial rfl rfl
theorem e87 : Enters Tryz.prog 87 := enters_of Tryz.func87 (by kernel_rfl) (by kernel_rfl)
set_option maxRecDepth 100000 in
set_option maxHeartbeats 4000000 in
theorem c87 (op : Int) : Ok Tryz.prog 87 [.v (.int .i64 op)] [] (.v (.bool (isLastR op))) [] := by
  refine ok_of e87 Tryz.func87 rfl (by kernel_rfl) ?_
  intro cx hP hro hN hvk
  obtain ⟨P, ro, w0, Bin, N, R0, tk0, bl0, vk⟩ := cx
  subst hP hro hN
  have hvkd := vkd_of hvk
  refine aw_seq ?_
  refine aw_region ?_
  refine al_op rfl rfl rfl (opP_assign rfl (ev_const rfl)) ?_
  refine al_nil ?_
  refine aw_seq ?_
  refine aw_region ?_
  refine al_op rfl rfl rfl (opP_move rfl (ev_tmp rfl)) ?_
  refine al_op rfl rfl rfl (opP_bin rfl (ev_tmp rfl) (ev_const rfl) rfl) ?_
  refine al_op rfl rfl rfl (opP_move rfl (ev_tmp rfl)) ?_
  refine al_opg rfl rfl rfl rfl rfl rfl (opP_move rfl (ev_tmp rfl)) ?_
  refine al_opg rfl rfl rfl rfl rfl rfl (opP_bin rfl (ev_when rfl id) (ev_const rfl) rfl) ?_
  refine al_op rfl rfl rfl (opP_or rfl (ev_tmp rfl) (ev_when rfl id)) ?_
  refine al_op rfl rfl rfl (opP_move rfl (ev_tmp rfl)) ?_
  refine al_opg rfl rfl rfl rfl rfl rfl (opP_move rfl (ev_tmp rfl)) ?_
  refine al_opg rfl rfl rfl rfl rfl rfl (opP_bin rfl (ev_when rfl id) (ev_const rfl) rfl) ?_
  refine al_op rfl rfl rfl (opP_or rfl (ev_tmp rfl) (ev_when rfl id)) ?_
  refine al_op rfl rfl rfl (opP_move rfl (ev_tmp rfl)) ?_
  refine al_opg rfl rfl rfl rfl rfl rfl (opP_move rfl (ev_tmp rfl)) ?_
  refine al_opg rfl rfl rfl rfl rfl rfl (opP_bin rfl (ev_when rfl id) (ev_const rfl) rfl) ?_
  refine al_op rfl rfl rfl (opP_or rfl (ev_tmp rfl) (ev_when rfl id)) ?_
  refine al_op rfl rfl rfl (opP_assign rfl (ev_tmp rfl)) ?_
  refine al_nil ?_
  refine aw_ret ?_
  exact ret_id _ (.tmp rfl .nil) rfl trivial rfl rfl
theorem e149 : Enters Tryz.prog 149 := enters_of Tryz.func149 (by kernel_rfl) (by kernel_rfl)
set_option maxRecDepth 100000 in
set_option maxHeartbeats 4000000 in
theorem c149 (x : Inst) : Ok Tryz.prog 149 [.dat none (instD x)] [] (.v (.bool (plainR x))) [] := by
  refine ok_of e149 Tryz.func149 rfl (by kernel_rfl) ?_
  intro cx hP hro hN hvk
  obtain ⟨P, ro, w0, Bin, N, R0, tk0, bl0, vk⟩ := cx
  subst hP hro hN
  have hvkd := vkd_of hvk
  refine aw_seq ?_
  refine aw_region ?_
  refine al_opc (k := 101) rfl rfl rfl ((hvk _).trans rfl) (opC_box rfl (ev_tmp rfl) rfl) ?_
  refine al_op rfl rfl rfl (opP_assign rfl (ev_const rfl)) ?_
  refine al_nil ?_
  refine aw_seq ?_
  refine aw_region ?_
  refine al_op rfl rfl rfl (opP_fieldAddr rfl (ev_tmp rfl) u38 rfl rfl s3 rfl) ?_
  refine al_op rfl rfl rfl (opP_load_pt rfl u3 rfl (ev_tmp rfl) rfl rfl) ?_
  refine al_op rfl rfl rfl (opP_bin rfl (ev_tmp rfl) (ev_const rfl) rfl) ?_
  refine al_op rfl rfl rfl (opP_move rfl (ev_tmp rfl)) ?_
  refine al_opg rfl rfl rfl rfl rfl rfl (opP_fieldAddr rfl (ev_tmp rfl) u38 rfl rfl s36 rfl) ?_
  refine al_opg rfl rfl rfl rfl rfl rfl (opP_load_pt rfl u36 rfl (ev_when rfl id) rfl rfl) ?_
  refine al_opg rfl rfl rfl rfl rfl rfl (opP_bin rfl (ev_when rfl id) (ev_const rfl) rfl) ?_
  refine al_op rfl rfl rfl (opP_and rfl (ev_tmp rfl) (ev_when rfl id)) ?_
  refine al_op rfl rfl rfl (opP_assign rfl (ev_tmp rfl)) ?_
  refine al_nil ?_
  refine aw_ret ?_
  exact ret_id _ (.tmp rfl .nil) rfl trivial rfl rfl
theorem e150 : Enters Tryz.prog 150 := enters_of Tryz.func150 (by kernel_rfl) (by kernel_rfl)
set_option maxRecDepth 100000 in
set_option maxHeartbeats 4000000 in
theorem c150 (x : Inst) : Ok Tryz.prog 150 [.dat none (instD x)] [] (.v (.bool (arithR x))) [] := by
  refine ok_of e150 Tryz.func150 rfl (by kernel_rfl) ?_
  intro cx hP hro hN hvk
  obtain ⟨P, ro, w0, Bin, N, R0, tk0, bl0, vk⟩ := cx
  subst hP hro hN
  have hvkd := vkd_of hvk
  refine aw_seq ?_
  refine aw_region ?_
  refine al_opc (k := 101) rfl rfl rfl ((hvk _).trans rfl) (opC_box rfl (ev_tmp rfl) rfl) ?_
  refine al_op rfl rfl rfl (opP_assign rfl (ev_const rfl)) ?_
  refine al_nil ?_
  refine aw_seq ?_
  refine aw_seq ?_
  refine aw_region ?_
  refine al_op rfl rfl rfl (opP_fieldAddr rfl (ev_tmp rfl) u38 rfl rfl s3 rfl) ?_
  refine al_op rfl rfl rfl (opP_load_pt rfl u3 rfl (ev_tmp rfl) rfl rfl) ?_
  refine al_nil ?_
  refine aw_block ?_
  refine aw_seq ?_
  refine aw_seq ?_
  refine aw_region ?_
  refine al_op rfl rfl rfl (opP_bin rfl (ev_tmp rfl) (ev_const rfl) rfl) ?_
  refine al_op rfl rfl rfl (opP_assign rfl (ev_tmp rfl)) ?_
  refine al_nil ?_
  refine aw_cond rfl (fun h1 => ?_) (fun h1 => ?_)
  · refine aw_skip ?_
    refine aw_condT rfl h1 ?_
    refine aw_seq ?_
    refine aw_region ?_
    refine al_op rfl rfl rfl (opP_fieldAddr rfl (ev_tmp rfl) u38 rfl rfl s3 rfl) ?_
    refine al_op rfl rfl rfl (opP_load_pt rfl u3 rfl (ev_tmp rfl) rfl rfl) ?_
    refine al_op rfl rfl rfl (opP_bin rfl (ev_tmp rfl) (ev_const rfl) rfl) ?_
    refine al_op rfl rfl rfl (opP_move rfl (ev_tmp rfl)) ?_
    refine al_opg rfl rfl rfl rfl rfl rfl (opP_fieldAddr rfl (ev_tmp rfl) u38 rfl rfl s3 rfl) ?_
    refine al_opg rfl rfl rfl rfl rfl rfl (opP_load_pt rfl u3 rfl (ev_when rfl id) rfl rfl) ?_
    refine al_opg rfl rfl rfl rfl rfl rfl (opP_bin rfl (ev_when rfl id) (ev_const rfl) rfl) ?_
    refine al_op rfl rfl rfl (opP_and rfl (ev_tmp rfl) (ev_when rfl id)) ?_
    refine al_op rfl rfl rfl (opP_assign rfl (ev_tmp rfl)) ?_
    refine al_nil ?_
    refine aw_ret ?_
    exact ret_id ([.v (.bool _)]) (.tmp rfl .nil) (congrArg (fun b => A.v (.bool b)) (by simp [arithR, *])) (by first | exact trivial | exact ⟨rfl, trivial⟩ | exact ⟨rfl, rfl, trivial⟩ | exact ⟨rfl, rfl, rfl, trivial⟩ | exact ⟨rfl, rfl, rfl, rfl, trivial⟩) rfl rfl
  refine aw_seq ?_
  refine aw_region ?_
  refine al_op rfl rfl rfl (opP_bin rfl (ev_tmp rfl) (ev_const rfl) rfl) ?_
  refine al_op rfl rfl rfl (opP_assign rfl (ev_tmp rfl)) ?_
  refine al_nil ?_
  refine aw_cond rfl (fun h2 => ?_) (fun h2 => ?_)
  · refine aw_skip ?_
    refine aw_condT rfl h2 ?_
    refine aw_seq ?_
    refine aw_region ?_
    refine al_op rfl rfl rfl (opP_fieldAddr rfl (ev_tmp rfl) u38 rfl rfl s3 rfl) ?_
    refine al_op rfl rfl rfl (opP_load_pt rfl u3 rfl (ev_tmp rfl) rfl rfl) ?_
    refine al_op rfl rfl rfl (opP_bin rfl (ev_tmp rfl) (ev_const rfl) rfl) ?_
    refine al_op rfl rfl rfl (opP_move rfl (ev_tmp rfl)) ?_
    refine al_opg rfl rfl rfl rfl rfl rfl (opP_fieldAddr rfl (ev_tmp rfl) u38 rfl rfl s3 rfl) ?_
    refine al_opg rfl rfl rfl rfl rfl rfl (opP_load_pt rfl u3 rfl (ev_when rfl id) rfl rfl) ?_
    refine al_opg rfl rfl rfl rfl rfl rfl (opP_bin rfl (ev_when rfl id) (ev_const rfl) rfl) ?_
    refine al_op rfl rfl rfl (opP_and rfl (ev_tmp rfl) (ev_when rfl id)) ?_
    refine al_op rfl rfl rfl (opP_assign rfl (ev_tmp rfl)) ?_
    refine al_nil ?_
    refine aw_ret ?_
    exact ret_id ([.v (.bool _)]) (.tmp rfl .nil) (congrArg (fun b => A.v (.bool b)) (by simp [arithR, *])) (by first | exact trivial | exact ⟨rfl, trivial⟩ | exact ⟨rfl, rfl, trivial⟩ | exact ⟨rfl, rfl, rfl, trivial⟩ | exact ⟨rfl, rfl, rfl, rfl, trivial⟩) rfl rfl
  refine aw_seq ?_
  refine aw_region ?_
  refine al_op rfl rfl rfl (opP_bin rfl (ev_tmp rfl) (ev_const rfl) rfl) ?_
  refine al_op rfl rfl rfl (opP_assign rfl (ev_tmp rfl)) ?_
  refine al_nil ?_
  refine aw_cond rfl (fun h3 => ?_) (fun h3 => ?_)
  · refine aw_skip ?_
    refine aw_condT rfl h3 ?_
    refine aw_seq ?_
    refine aw_region ?_
    refine al_op rfl rfl rfl (opP_fieldAddr rfl (ev_tmp rfl) u38 rfl rfl s3 rfl) ?_
    refine al_op rfl rfl rfl (opP_load_pt rfl u3 rfl (ev_tmp rfl) rfl rfl) ?_
    refine al_op rfl rfl rfl (opP_bin rfl (ev_tmp rfl) (ev_const rfl) rfl) ?_
    refine al_op rfl rfl rfl (opP_move rfl (ev_tmp rfl)) ?_
    refine al_opg rfl rfl rfl rfl rfl rfl (opP_fieldAddr rfl (ev_tmp rfl) u38 rfl rfl s3 rfl) ?_
    refine al_opg rfl rfl rfl rfl rfl rfl (opP_load_pt rfl u3 rfl (ev_when rfl id) rfl rfl) ?_
    refine al_opg rfl rfl rfl rfl rfl rfl (opP_bin rfl (ev_when rfl id) (ev_const rfl) rfl) ?_
    refine al_op rfl rfl rfl (opP_and rfl (ev_tmp rfl) (ev_when rfl id)) ?_
    refine al_op rfl rfl rfl (opP_assign rfl (ev_tmp rfl)) ?_
    refine al_nil ?_
    refine aw_ret ?_
    exact ret_id ([.v (.bool _)]) (.tmp rfl .nil) (congrArg (fun b => A.v (.bool b)) (by simp [arithR, *])) (by first | exact trivial | exact ⟨rfl, trivial⟩ | exact ⟨rfl, rfl, trivial⟩ | exact ⟨rfl, rfl, rfl, trivial⟩ | exact ⟨rfl, rfl, rfl, rfl, trivial⟩) rfl rfl
  refine aw_region ?_
  refine al_op rfl rfl rfl (opP_bin rfl (ev_tmp rfl) (ev_const rfl) rfl) ?_
  refine al_op rfl rfl rfl (opP_assign rfl (ev_tmp rfl)) ?_
  refine al_nil ?_
  refine aw_cond rfl (fun h4 => ?_) (fun h4 => ?_)
  · refine aw_seq ?_
    refine aw_region ?_
    refine al_op rfl rfl rfl (opP_fieldAddr rfl (ev_tmp rfl) u38 rfl rfl s3 rfl) ?_
    refine al_op rfl rfl rfl (opP_load_pt rfl u3 rfl (ev_tmp rfl) rfl rfl) ?_
    refine al_op rfl rfl rfl (opP_bin rfl (ev_tmp rfl) (ev_const rfl) rfl) ?_
    refine al_op rfl rfl rfl (opP_move rfl (ev_tmp rfl)) ?_
    refine al_opg rfl rfl rfl rfl rfl rfl (opP_fieldAddr rfl (ev_tmp rfl) u38 rfl rfl s3 rfl) ?_
    refine al_opg rfl rfl rfl rfl rfl rfl (opP_load_pt rfl u3 rfl (ev_when rfl id) rfl rfl) ?_
    refine al_opg rfl rfl rfl rfl rfl rfl (opP_bin rfl (ev_when rfl id) (ev_const rfl) rfl) ?_
    refine al_op rfl rfl rfl (opP_and rfl (ev_tmp rfl) (ev_when rfl id)) ?_
    refine al_op rfl rfl rfl (opP_assign rfl (ev_tmp rfl)) ?_
    refine al_nil ?_
    refine aw_ret ?_
    exact ret_id ([.v (.bool _)]) (.tmp rfl .nil) (congrArg (fun b => A.v (.bool b)) (by simp [arithR, *])) (by first | exact trivial | exact ⟨rfl, trivial⟩ | exact ⟨rfl, rfl, trivial⟩ | exact ⟨rfl, rfl, rfl, trivial⟩ | exact ⟨rfl, rfl, rfl, rfl, trivial⟩) rfl rfl
  refine aw_seq ?_
  refine aw_seq ?_
  refine aw_region ?_
  refine al_op rfl rfl rfl (opP_bin rfl (ev_tmp rfl) (ev_const rfl) rfl) ?_
  refine al_op rfl rfl rfl (opP_assign rfl (ev_tmp rfl)) ?_
  refine al_nil ?_
  refine aw_cond rfl (fun h5 => ?_) (fun h5 => ?_)
  · refine aw_skip ?_
    refine aw_condT rfl h5 ?_
    refine aw_seq ?_
    refine aw_region ?_
    refine al_op rfl rfl rfl (opP_fieldAddr rfl (ev_tmp rfl) u38 rfl rfl s3 rfl) ?_
    refine al_op rfl rfl rfl (opP_load_pt rfl u3 rfl (ev_tmp rfl) rfl rfl) ?_
    refine al_op rfl rfl rfl (opP_bin rfl (ev_tmp rfl) (ev_const rfl) rfl) ?_
    refine al_op rfl rfl rfl (opP_move rfl (ev_tmp rfl)) ?_
    refine al_opg rfl rfl rfl rfl rfl rfl (opP_fieldAddr rfl (ev_tmp rfl) u38 rfl rfl s3 rfl) ?_
    refine al_opg rfl rfl rfl rfl rfl rfl (opP_load_pt rfl u3 rfl (ev_when rfl id) rfl rfl) ?_
    refine al_opg rfl rfl rfl rfl rfl rfl (opP_bin rfl (ev_when rfl id) (ev_const rfl) rfl) ?_
    refine al_op rfl rfl rfl (opP_or rfl (ev_tmp rfl) (ev_when rfl id)) ?_
    refine al_op rfl rfl rfl (opP_assign rfl (ev_tmp rfl)) ?_
    refine al_nil ?_
    refine aw_ret ?_
    exact ret_id ([.v (.bool _)]) (.tmp rfl .nil) (congrArg (fun b => A.v (.bool b)) (by simp [arithR, *])) (by first | exact trivial | exact ⟨rfl, trivial⟩ | exact ⟨rfl, rfl, trivial⟩ | exact ⟨rfl, rfl, rfl, trivial⟩ | exact ⟨rfl, rfl, rfl, rfl, trivial⟩) rfl rfl
  refine aw_seq ?_
  refine aw_region ?_
  refine al_op rfl rfl rfl (opP_bin rfl (ev_tmp rfl) (ev_const rfl) rfl) ?_
  refine al_op rfl rfl rfl (opP_assign rfl (ev_tmp rfl)) ?_
  refine al_nil ?_
  refine aw_cond rfl (fun h6 => ?_) (fun h6 => ?_)
  · refine aw_skip ?_
    refine aw_condT rfl h6 ?_
    refine aw_seq ?_
    refine aw_region ?_
    refine al_op rfl rfl rfl (opP_fieldAddr rfl (ev_tmp rfl) u38 rfl rfl s3 rfl) ?_
    refine al_op rfl rfl rfl (opP_load_pt rfl u3 rfl (ev_tmp rfl) rfl rfl) ?_
    refine al_op rfl rfl rfl (opP_bin rfl (ev_tmp rfl) (ev_const rfl) rfl) ?_
    refine al_op rfl rfl rfl (opP_move rfl (ev_tmp rfl)) ?_
    refine al_opg rfl rfl rfl rfl rfl rfl (opP_fieldAddr rfl (ev_tmp rfl) u38 rfl rfl s3 rfl) ?_
    refine al_opg rfl rfl rfl rfl rfl rfl (opP_load_pt rfl u3 rfl (ev_when rfl id) rfl rfl) ?_
    refine al_opg rfl rfl rfl rfl rfl rfl (opP_bin rfl (ev_when rfl id) (ev_const rfl) rfl) ?_
    refine al_op rfl rfl rfl (opP_or rfl (ev_tmp rfl) (ev_when rfl id)) ?_
    refine al_op rfl rfl rfl (opP_assign rfl (ev_tmp rfl)) ?_
    refine al_nil ?_
    refine aw_ret ?_
    exact ret_id ([.v (.bool _)]) (.tmp rfl .nil) (congrArg (fun b => A.v (.bool b)) (by simp [arithR, *])) (by first | exact trivial | exact ⟨rfl, trivial⟩ | exact ⟨rfl, rfl, trivial⟩ | exact ⟨rfl, rfl, rfl, trivial⟩ | exact ⟨rfl, rfl, rfl, rfl, trivial⟩) rfl rfl
  refine aw_seq ?_
  refine aw_region ?_
  refine al_op rfl rfl rfl (opP_bin rfl (ev_tmp rfl) (ev_const rfl) rfl) ?_
  refine al_op rfl rfl rfl (opP_assign rfl (ev_tmp rfl)) ?_
  refine al_nil ?_
  refine aw_cond rfl (fun h7 => ?_) (fun h7 => ?_)
  · refine aw_skip ?_
    refine aw_condT rfl h7 ?_
    refine aw_seq ?_
    refine aw_region ?_
    refine al_op rfl rfl rfl (opP_fieldAddr rfl (ev_tmp rfl) u38 rfl rfl s3 rfl) ?_
    refine al_op rfl rfl rfl (opP_load_pt rfl u3 rfl (ev_tmp rfl) rfl rfl) ?_
    refine al_op rfl rfl rfl (opP_bin rfl (ev_tmp rfl) (ev_const rfl) rfl) ?_
    refine al_op rfl rfl rfl (opP_move rfl (ev_tmp rfl)) ?_
    refine al_opg rfl rfl rfl rfl rfl rfl (opP_fieldAddr rfl (ev_tmp rfl) u38 rfl rfl s3 rfl) ?_
    refine al_opg rfl rfl rfl rfl rfl rfl (opP_load_pt rfl u3 rfl (ev_when rfl id) rfl rfl) ?_
    refine al_opg rfl rfl rfl rfl rfl rfl (opP_bin rfl (ev_when rfl id) (ev_const rfl) rfl) ?_
    refine al_op rfl rfl rfl (opP_or rfl (ev_tmp rfl) (ev_when rfl id)) ?_
    refine al_op rfl rfl rfl (opP_assign rfl (ev_tmp rfl)) ?_
    refine al_nil ?_
    refine aw_ret ?_
    exact ret_id ([.v (.bool _)]) (.tmp rfl .nil) (congrArg (fun b => A.v (.bool b)) (by simp [arithR, *])) (by first | exact trivial | exact ⟨rfl, trivial⟩ | exact ⟨rfl, rfl, trivial⟩ | exact ⟨rfl, rfl, rfl, trivial⟩ | exact ⟨rfl, rfl, rfl, rfl, trivial⟩) rfl rfl
  refine aw_region ?_
  refine al_op rfl rfl rfl (opP_bin rfl (ev_tmp rfl) (ev_const rfl) rfl) ?_
  refine al_op rfl rfl rfl (opP_assign rfl (ev_tmp rfl)) ?_
  refine al_nil ?_
  refine aw_condS rfl (fun h8 => ?_) (fun h8 => ?_)
  · refine aw_skip ?_
    refine aw_seq ?_
    refine aw_region ?_
    refine al_op rfl rfl rfl (opP_fieldAddr rfl (ev_tmp rfl) u38 rfl rfl s3 rfl) ?_
    refine al_op rfl rfl rfl (opP_load_pt rfl u3 rfl (ev_tmp rfl) rfl rfl) ?_
    refine al_op rfl rfl rfl (opP_bin rfl (ev_tmp rfl) (ev_const rfl) rfl) ?_
    refine al_op rfl rfl rfl (opP_assign rfl (ev_tmp rfl)) ?_
    refine al_nil ?_
    refine aw_ret ?_
    exact ret_id ([.v (.bool _)]) (.tmp rfl .nil) (congrArg (fun b => A.v (.bool b)) (by simp [arithR, *])) (by first | exact trivial | exact ⟨rfl, trivial⟩ | exact ⟨rfl, rfl, trivial⟩ | exact ⟨rfl, rfl, rfl, trivial⟩ | exact ⟨rfl, rfl, rfl, rfl, trivial⟩) rfl rfl
  refine aw_seq ?_
  refine aw_region ?_
  refine al_op rfl rfl rfl (opP_fieldAddr rfl (ev_tmp rfl) u38 rfl rfl s3 rfl) ?_
  refine al_op rfl rfl rfl (opP_load_pt rfl u3 rfl (ev_tmp rfl) rfl rfl) ?_
  refine al_op rfl rfl rfl (opP_bin rfl (ev_tmp rfl) (ev_const rfl) rfl) ?_
  refine al_op rfl rfl rfl (opP_move rfl (ev_tmp rfl)) ?_
  refine al_opg rfl rfl rfl rfl rfl rfl (opP_fieldAddr rfl (ev_tmp rfl) u38 rfl rfl s3 rfl) ?_
  refine al_opg rfl rfl rfl rfl rfl rfl (opP_load_pt rfl u3 rfl (ev_when rfl id) rfl rfl) ?_
  refine al_opg rfl rfl rfl rfl rfl rfl (opP_bin rfl (ev_when rfl id) (ev_const rfl) rfl) ?_
  refine al_op rfl rfl rfl (opP_or rfl (ev_tmp rfl) (ev_when rfl id)) ?_
  refine al_op rfl rfl rfl (opP_assign rfl (ev_tmp rfl)) ?_
  refine al_nil ?_
  refine aw_ret ?_
  exact ret_id ([.v (.bool _)]) (.tmp rfl .nil) (congrArg (fun b => A.v (.bool b)) (by simp [arithR, *])) (by first | exact trivial | exact ⟨rfl, trivial⟩ | exact ⟨rfl, rfl, trivial⟩ | exact ⟨rfl, rfl, rfl, trivial⟩ | exact ⟨rfl, rfl, rfl, rfl, trivial⟩) rfl rfl
theorem e148 : Enters Tryz.prog 148 := enters_of Tryz.func148 (by kernel_rfl) (by kernel_rfl)
set_option maxRecDepth 100000 in
set_option maxHeartbeats 4000000 in
theorem c148 (n x : Int) (hx : 0 ≤ x ∧ x < 4294967296) : Ok Tryz.prog 148 [.v (.int .i64 n), .v (.int .u32 x)] [] (.v (.bool (isWordR n x))) [] := by
  refine ok_of e148 Tryz.func148 rfl (by kernel_rfl) ?_
  intro cx hP hro hN hvk
  obtain ⟨P, ro, w0, Bin, N, R0, tk0, bl0, vk⟩ := cx
  subst hP hro hN
  have hvkd := vkd_of hvk
  refine aw_seq ?_
  refine aw_region ?_
  refine al_op rfl rfl rfl (opP_assign rfl (ev_const rfl)) ?_
  refine al_nil ?_
  refine aw_seq ?_
  refine aw_region ?_
  refine al_op rfl rfl rfl (opP_move rfl (ev_tmp rfl)) ?_
  refine al_call (id) rfl rfl rfl (callOf_func rfl (.cons (ev_tmp rfl) .nil)) (c42 n) (by repeat' (first | refine Vw.stDOf ?_ | refine Vw.ptOf rfl rfl rfl ?_ | refine Vw.prvOf ?_ | refine Vw.cloOf ?_ | constructor)) (fun _ h => absurd h (by simp)) rfl rfl rfl (fun _ h => absurd h (by simp)) ?_
  refine al_op rfl rfl rfl (opP_move rfl (ev_tmp rfl)) ?_
  refine al_opg rfl rfl rfl rfl rfl rfl (opP_move rfl (ev_tmp rfl)) ?_
  refine al_opg rfl rfl rfl rfl rfl rfl (opP_convert rfl (by rw [u36]; rfl) u3 (ev_when rfl id)) ?_
  refine al_opg rfl rfl rfl rfl rfl rfl (opP_move rfl (ev_tmp rfl)) ?_
  refine al_opg rfl rfl rfl rfl rfl rfl (opP_convert rfl (by rw [u3]; rfl) u88 (ev_when rfl id)) ?_
  refine al_opg rfl rfl rfl rfl rfl rfl (opP_shl rfl (ev_const rfl) (ev_when rfl id) (fun hg => by simp [isW] at hg; rw [IntKind.wrap_u64]; omega)) ?_
  refine al_opg rfl rfl rfl rfl rfl rfl (opP_bin rfl (ev_when rfl id) (ev_when rfl id) rfl) ?_
  refine al_op rfl rfl rfl (opP_and rfl (ev_tmp rfl) (ev_when rfl id)) ?_
  refine al_op rfl rfl rfl (opP_assign rfl (ev_tmp rfl)) ?_
  refine al_nil ?_
  refine aw_ret ?_
  exact ret_id ([.v (.bool _)]) (.tmp rfl .nil) (congrArg (fun b => A.v (.bool b)) (word_eq n x hx)) (by first | exact trivial | exact ⟨rfl, trivial⟩ | exact ⟨rfl, rfl, trivial⟩ | exact ⟨rfl, rfl, rfl, trivial⟩ | exact ⟨rfl, rfl, rfl, rfl, trivial⟩) rfl rfl
theorem e86 : Enters Tryz.prog 86 := enters_of Tryz.func86 (by kernel_rfl) (by kernel_rfl)
set_option maxRecDepth 100000 in
set_option maxHeartbeats 4000000 in
theorem c86 (f : Fn) (x : Inst) (hx : x.Fits) : Ok Tryz.prog 86 [.dat none (fnD f), .dat none (instD x)] [] (.st [.v (.int .i64 (shapeR f x).1), .v (.int .i64 (shapeR f x).2.1), .v (.bool (shapeR f x).2.2)]) [] := by
  refine ok_of e86 Tryz.func86 rfl (by kernel_rfl) ?_
  intro cx hP hro hN hvk
  obtain ⟨P, ro, w0, Bin, N, R0, tk0, bl0, vk⟩ := cx
  subst hP hro hN
  have hvkd := vkd_of hvk
  have hw : IntKind.i64.wrap x.imm = x.imm := wrapU hx.imm
  have hl := ints_len f.slots
  have hl2 := ints_len x.args
  refine aw_seq ?_
  refine aw_region ?_
  refine al_opc (k := 101) rfl rfl rfl ((hvk _).trans rfl) (opC_box rfl (ev_tmp rfl) rfl) ?_
  refine al_opc (k := 102) rfl rfl rfl ((hvk _).trans rfl) (opC_box rfl (ev_tmp rfl) rfl) ?_
  refine al_opc (k := 103) rfl rfl rfl ((hvk _).trans rfl) (opC_alloc rfl z116) ?_
  refine al_nil ?_
  refine aw_seq ?_
  refine aw_region ?_
  refine al_op rfl rfl rfl (opP_fieldAddr rfl (ev_tmp rfl) u38 rfl rfl s3 rfl) ?_
  refine al_op rfl rfl rfl (opP_load_pt rfl u3 rfl (ev_tmp rfl) rfl rfl) ?_
  refine al_call (id) rfl rfl rfl (callOf_func rfl (.cons (ev_tmp rfl) .nil)) (c42 x.w) (by repeat' (first | refine Vw.stDOf ?_ | refine Vw.ptOf rfl rfl rfl ?_ | refine Vw.prvOf ?_ | refine Vw.cloOf ?_ | constructor)) (fun _ h => absurd h (by simp)) rfl rfl rfl (fun _ h => absurd h (by simp)) ?_
  refine al_op rfl rfl rfl (opP_assign rfl (ev_tmp rfl)) ?_
  refine al_nil ?_
  refine aw_seq ?_
  refine aw_region ?_
  refine al_op rfl rfl rfl (opP_move rfl (ev_tmp rfl)) ?_
  refine al_op rfl rfl rfl (opP_move rfl (ev_tmp rfl)) ?_
  refine al_opg rfl rfl rfl rfl rfl rfl (opP_fieldAddr rfl (ev_tmp rfl) u38 rfl rfl s3 rfl) ?_
  refine al_opg rfl rfl rfl rfl rfl rfl (opP_load_pt rfl u3 rfl (ev_when rfl id) rfl rfl) ?_
  refine al_opg rfl rfl rfl rfl rfl rfl (opP_bin rfl (ev_when rfl id) (ev_const rfl) rfl) ?_
  refine al_op rfl rfl rfl (opP_or rfl (ev_tmp rfl) (ev_when rfl id)) ?_
  refine al_op rfl rfl rfl (opP_assign rfl (ev_tmp rfl)) ?_
  refine al_nil ?_
  refine aw_seq ?_
  refine aw_seq ?_
  refine aw_region ?_
  refine al_op rfl rfl rfl (opP_fieldAddr rfl (ev_tmp rfl) u38 rfl rfl s3 rfl) ?_
  refine al_op rfl rfl rfl (opP_load_pt rfl u3 rfl (ev_tmp rfl) rfl rfl) ?_
  refine al_nil ?_
  refine aw_block ?_
  refine aw_seq ?_
  refine aw_region ?_
  refine al_op rfl rfl rfl (opP_bin rfl (ev_tmp rfl) (ev_const rfl) rfl) ?_
  refine al_op rfl rfl rfl (opP_assign rfl (ev_tmp rfl)) ?_
  refine al_nil ?_
  refine aw_cond rfl (fun h1 => ?_) (fun h1 => ?_)
  · refine aw_seq ?_
    refine aw_region ?_
    refine al_op rfl rfl rfl (opP_move rfl (ev_tmp rfl)) ?_
    refine al_op rfl rfl rfl (opP_move rfl (ev_tmp rfl)) ?_
    refine al_opg rfl rfl rfl rfl rfl rfl (opP_fieldAddr rfl (ev_tmp rfl) u38 rfl rfl s3 rfl) ?_
    refine al_opg rfl rfl rfl rfl rfl rfl (opP_load_pt rfl u3 rfl (ev_when rfl id) rfl rfl) ?_
    refine al_opg rfl rfl rfl rfl rfl rfl (opP_bin rfl (ev_when rfl id) (ev_const rfl) rfl) ?_
    refine al_op rfl rfl rfl (opP_and rfl (ev_tmp rfl) (ev_when rfl id)) ?_
    refine al_op rfl rfl rfl (opP_move rfl (ev_tmp rfl)) ?_
    refine al_opg rfl rfl rfl rfl rfl rfl (opP_fieldAddr rfl (ev_tmp rfl) u38 rfl rfl s3 rfl) ?_
    refine al_opg rfl rfl rfl rfl rfl rfl (opP_load_pt rfl u3 rfl (ev_when rfl id) rfl rfl) ?_
    refine al_opg rfl rfl rfl rfl rfl rfl (opP_fieldAddr rfl (ev_tmp rfl) u38 rfl rfl s36 rfl) ?_
    refine al_opg rfl rfl rfl rfl rfl rfl (opP_load_pt rfl u36 rfl (ev_when rfl id) rfl rfl) ?_
    refine al_stepD rfl rfl (stepD_callg rfl rfl rfl rfl (callOf_func rfl (.cons (ev_when rfl id) (.cons (ev_when rfl id) .nil))) (fun hg => c148 x.w x.imm hx.imm) (fun hg => (by repeat' (first | refine Vw.stDOf ?_ | refine Vw.ptOf rfl rfl rfl ?_ | refine Vw.prvOf ?_ | refine Vw.cloOf ?_ | constructor))) rfl (fun _ => rfl)) ?_
    refine al_op rfl rfl rfl (opP_and rfl (ev_tmp rfl) (ev_when rfl id)) ?_
    refine al_op rfl rfl rfl (opP_build rfl u116 z116 rfl (.cons (ev_const rfl) (.cons (ev_const rfl) (.cons (ev_tmp rfl) .nil))) rfl) ?_
    refine al_store_pt rfl rfl rfl s116 (ev_tmp rfl) (ev_tmp rfl) rfl rfl rfl rfl rfl rfl ?_
    refine al_nil ?_
    refine aw_ret ?_
    exact ret_id ([.st [.v (.int .i64 _), .v (.int .i64 _), .v (.bool _)]]) (.celln' rfl u116 rfl s116 rfl rfl rfl .nil) (by first | (simp [oneOf, shapeR, *]; done) | (have hh := h20; simp at hh; simp [oneOf, shapeR, *])) (by first | exact trivial | exact ⟨rfl, trivial⟩ | exact ⟨rfl, rfl, trivial⟩ | exact ⟨rfl, rfl, rfl, trivial⟩ | exact ⟨rfl, rfl, rfl, rfl, trivial⟩) rfl rfl
  refine aw_seq ?_
  refine aw_region ?_
  refine al_op rfl rfl rfl (opP_bin rfl (ev_tmp rfl) (ev_const rfl) rfl) ?_
  refine al_op rfl rfl rfl (opP_assign rfl (ev_tmp rfl)) ?_
  refine al_nil ?_
  refine aw_cond rfl (fun h2 => ?_) (fun h2 => ?_)
  · refine aw_seq ?_
    refine aw_region ?_
    refine al_op rfl rfl rfl (opP_fieldAddr rfl (ev_tmp rfl) u38 rfl rfl s3 rfl) ?_
    refine al_op rfl rfl rfl (opP_load_pt rfl u3 rfl (ev_tmp rfl) rfl rfl) ?_
    refine al_op rfl rfl rfl (opP_bin rfl (ev_tmp rfl) (ev_const rfl) rfl) ?_
    refine al_op rfl rfl rfl (opP_move rfl (ev_tmp rfl)) ?_
    refine al_opg rfl rfl rfl rfl rfl rfl (opP_fieldAddr rfl (ev_tmp rfl) u38 rfl rfl s3 rfl) ?_
    refine al_opg rfl rfl rfl rfl rfl rfl (opP_load_pt rfl u3 rfl (ev_when rfl id) rfl rfl) ?_
    refine al_opg rfl rfl rfl rfl rfl rfl (opP_bin rfl (ev_when rfl id) (ev_const rfl) rfl) ?_
    refine al_op rfl rfl rfl (opP_and rfl (ev_tmp rfl) (ev_when rfl id)) ?_
    refine al_op rfl rfl rfl (opP_move rfl (ev_tmp rfl)) ?_
    refine al_opg rfl rfl rfl rfl rfl rfl (opP_fieldAddr rfl (ev_tmp rfl) u38 rfl rfl s36 rfl) ?_
    refine al_opg rfl rfl rfl rfl rfl rfl (opP_load_pt rfl u36 rfl (ev_when rfl id) rfl rfl) ?_
    refine al_opg rfl rfl rfl rfl rfl rfl (opP_bin rfl (ev_when rfl id) (ev_const rfl) rfl) ?_
    refine al_op rfl rfl rfl (opP_and rfl (ev_tmp rfl) (ev_when rfl id)) ?_
    refine al_op rfl rfl rfl (opP_build rfl u116 z116 rfl (.cons (ev_const rfl) (.cons (ev_const rfl) (.cons (ev_tmp rfl) .nil))) rfl) ?_
    refine al_store_pt rfl rfl rfl s116 (ev_tmp rfl) (ev_tmp rfl) rfl rfl rfl rfl rfl rfl ?_
    refine al_nil ?_
    refine aw_ret ?_
    exact ret_id ([.st [.v (.int .i64 _), .v (.int .i64 _), .v (.bool _)]]) (.celln' rfl u116 rfl s116 rfl rfl rfl .nil) (by first | (simp [oneOf, shapeR, *]; done) | (have hh := h20; simp at hh; simp [oneOf, shapeR, *])) (by first | exact trivial | exact ⟨rfl, trivial⟩ | exact ⟨rfl, rfl, trivial⟩ | exact ⟨rfl, rfl, rfl, trivial⟩ | exact ⟨rfl, rfl, rfl, rfl, trivial⟩) rfl rfl
  refine aw_seq ?_
  refine aw_region ?_
  refine al_op rfl rfl rfl (opP_bin rfl (ev_tmp rfl) (ev_const rfl) rfl) ?_
  refine al_op rfl rfl rfl (opP_assign rfl (ev_tmp rfl)) ?_
  refine al_nil ?_
  refine aw_cond rfl (fun h3 => ?_) (fun h3 => ?_)
  · refine aw_seq ?_
    refine aw_region ?_
    refine al_op rfl rfl rfl (opP_move rfl (ev_tmp rfl)) ?_
    refine al_op rfl rfl rfl (opP_move rfl (ev_tmp rfl)) ?_
    refine al_opg rfl rfl rfl rfl rfl rfl (opP_load_ptn rfl u38 rfl s38 (ev_tmp rfl) rfl rfl) ?_
    refine al_stepD rfl rfl (stepD_callg rfl rfl rfl rfl (callOf_func rfl (.cons (ev_when rfl id) .nil)) (fun hg => c149 x) (fun hg => (by repeat' (first | refine Vw.stDOf ?_ | refine Vw.ptOf rfl rfl rfl ?_ | refine Vw.prvOf ?_ | refine Vw.cloOf ?_ | constructor))) rfl (fun _ => rfl)) ?_
    refine al_op rfl rfl rfl (opP_and rfl (ev_tmp rfl) (ev_when rfl id)) ?_
    refine al_op rfl rfl rfl (opP_build rfl u116 z116 rfl (.cons (ev_const rfl) (.cons (ev_const rfl) (.cons (ev_tmp rfl) .nil))) rfl) ?_
    refine al_store_pt rfl rfl rfl s116 (ev_tmp rfl) (ev_tmp rfl) rfl rfl rfl rfl rfl rfl ?_
    refine al_nil ?_
    refine aw_ret ?_
    exact ret_id ([.st [.v (.int .i64 _), .v (.int .i64 _), .v (.bool _)]]) (.celln' rfl u116 rfl s116 rfl rfl rfl .nil) (by first | (simp [oneOf, shapeR, *]; done) | (have hh := h20; simp at hh; simp [oneOf, shapeR, *])) (by first | exact trivial | exact ⟨rfl, trivial⟩ | exact ⟨rfl, rfl, trivial⟩ | exact ⟨rfl, rfl, rfl, trivial⟩ | exact ⟨rfl, rfl, rfl, rfl, trivial⟩) rfl rfl
  refine aw_seq ?_
  refine aw_seq ?_
  refine aw_region ?_
  refine al_op rfl rfl rfl (opP_bin rfl (ev_tmp rfl) (ev_const rfl) rfl) ?_
  refine al_op rfl rfl rfl (opP_assign rfl (ev_tmp rfl)) ?_
  refine al_nil ?_
  refine aw_cond rfl (fun h4 => ?_) (fun h4 => ?_)
  · refine aw_skip ?_
    refine aw_condT rfl h4 ?_
    refine aw_seq ?_
    refine aw_region ?_
    refine al_op rfl rfl rfl (opP_move rfl (ev_tmp rfl)) ?_
    refine al_op rfl rfl rfl (opP_move rfl (ev_tmp rfl)) ?_
    refine al_opg rfl rfl rfl rfl rfl rfl (opP_load_ptn rfl u38 rfl s38 (ev_tmp rfl) rfl rfl) ?_
    refine al_stepD rfl rfl (stepD_callg rfl rfl rfl rfl (callOf_func rfl (.cons (ev_when rfl id) .nil)) (fun hg => c149 x) (fun hg => (by repeat' (first | refine Vw.stDOf ?_ | refine Vw.ptOf rfl rfl rfl ?_ | refine Vw.prvOf ?_ | refine Vw.cloOf ?_ | constructor))) rfl (fun _ => rfl)) ?_
    refine al_op rfl rfl rfl (opP_and rfl (ev_tmp rfl) (ev_when rfl id)) ?_
    refine al_op rfl rfl rfl (opP_build rfl u116 z116 rfl (.cons (ev_const rfl) (.cons (ev_const rfl) (.cons (ev_tmp rfl) .nil))) rfl) ?_
    refine al_store_pt rfl rfl rfl s116 (ev_tmp rfl) (ev_tmp rfl) rfl rfl rfl rfl rfl rfl ?_
    refine al_nil ?_
    refine aw_ret ?_
    exact ret_id ([.st [.v (.int .i64 _), .v (.int .i64 _), .v (.bool _)]]) (.celln' rfl u116 rfl s116 rfl rfl rfl .nil) (by first | (simp [oneOf, shapeR, *]; done) | (have hh := h20; simp at hh; simp [oneOf, shapeR, *])) (by first | exact trivial | exact ⟨rfl, trivial⟩ | exact ⟨rfl, rfl, trivial⟩ | exact ⟨rfl, rfl, rfl, trivial⟩ | exact ⟨rfl, rfl, rfl, rfl, trivial⟩) rfl rfl
  refine aw_seq ?_
  refine aw_region ?_
  refine al_op rfl rfl rfl (opP_bin rfl (ev_tmp rfl) (ev_const rfl) rfl) ?_
  refine al_op rfl rfl rfl (opP_assign rfl (ev_tmp rfl)) ?_
  refine al_nil ?_
  refine aw_cond rfl (fun h5 => ?_) (fun h5 => ?_)
  · refine aw_skip ?_
    refine aw_condT rfl h5 ?_
    refine aw_seq ?_
    refine aw_region ?_
    refine al_op rfl rfl rfl (opP_move rfl (ev_tmp rfl)) ?_
    refine al_op rfl rfl rfl (opP_move rfl (ev_tmp rfl)) ?_
    refine al_opg rfl rfl rfl rfl rfl rfl (opP_load_ptn rfl u38 rfl s38 (ev_tmp rfl) rfl rfl) ?_
    refine al_stepD rfl rfl (stepD_callg rfl rfl rfl rfl (callOf_func rfl (.cons (ev_when rfl id) .nil)) (fun hg => c149 x) (fun hg => (by repeat' (first | refine Vw.stDOf ?_ | refine Vw.ptOf rfl rfl rfl ?_ | refine Vw.prvOf ?_ | refine Vw.cloOf ?_ | constructor))) rfl (fun _ => rfl)) ?_
    refine al_op rfl rfl rfl (opP_and rfl (ev_tmp rfl) (ev_when rfl id)) ?_
    refine al_op rfl rfl rfl (opP_build rfl u116 z116 rfl (.cons (ev_const rfl) (.cons (ev_const rfl) (.cons (ev_tmp rfl) .nil))) rfl) ?_
    refine al_store_pt rfl rfl rfl s116 (ev_tmp rfl) (ev_tmp rfl) rfl rfl rfl rfl rfl rfl ?_
    refine al_nil ?_
    refine aw_ret ?_
    exact ret_id ([.st [.v (.int .i64 _), .v (.int .i64 _), .v (.bool _)]]) (.celln' rfl u116 rfl s116 rfl rfl rfl .nil) (by first | (simp [oneOf, shapeR, *]; done) | (have hh := h20; simp at hh; simp [oneOf, shapeR, *])) (by first | exact trivial | exact ⟨rfl, trivial⟩ | exact ⟨rfl, rfl, trivial⟩ | exact ⟨rfl, rfl, rfl, trivial⟩ | exact ⟨rfl, rfl, rfl, rfl, trivial⟩) rfl rfl
  refine aw_seq ?_
  refine aw_region ?_
  refine al_op rfl rfl rfl (opP_bin rfl (ev_tmp rfl) (ev_const rfl) rfl) ?_
  refine al_op rfl rfl rfl (opP_assign rfl (ev_tmp rfl)) ?_
  refine al_nil ?_
  refine aw_cond rfl (fun h6 => ?_) (fun h6 => ?_)
  · refine aw_skip ?_
    refine aw_condT rfl h6 ?_
    refine aw_seq ?_
    refine aw_region ?_
    refine al_op rfl rfl rfl (opP_move rfl (ev_tmp rfl)) ?_
    refine al_op rfl rfl rfl (opP_move rfl (ev_tmp rfl)) ?_
    refine al_opg rfl rfl rfl rfl rfl rfl (opP_load_ptn rfl u38 rfl s38 (ev_tmp rfl) rfl rfl) ?_
    refine al_stepD rfl rfl (stepD_callg rfl rfl rfl rfl (callOf_func rfl (.cons (ev_when rfl id) .nil)) (fun hg => c149 x) (fun hg => (by repeat' (first | refine Vw.stDOf ?_ | refine Vw.ptOf rfl rfl rfl ?_ | refine Vw.prvOf ?_ | refine Vw.cloOf ?_ | constructor))) rfl (fun _ => rfl)) ?_
    refine al_op rfl rfl rfl (opP_and rfl (ev_tmp rfl) (ev_when rfl id)) ?_
    refine al_op rfl rfl rfl (opP_build rfl u116 z116 rfl (.cons (ev_const rfl) (.cons (ev_const rfl) (.cons (ev_tmp rfl) .nil))) rfl) ?_
    refine al_store_pt rfl rfl rfl s116 (ev_tmp rfl) (ev_tmp rfl) rfl rfl rfl rfl rfl rfl ?_
    refine al_nil ?_
    refine aw_ret ?_
    exact ret_id ([.st [.v (.int .i64 _), .v (.int .i64 _), .v (.bool _)]]) (.celln' rfl u116 rfl s116 rfl rfl rfl .nil) (by first | (simp [oneOf, shapeR, *]; done) | (have hh := h20; simp at hh; simp [oneOf, shapeR, *])) (by first | exact trivial | exact ⟨rfl, trivial⟩ | exact ⟨rfl, rfl, trivial⟩ | exact ⟨rfl, rfl, rfl, trivial⟩ | exact ⟨rfl, rfl, rfl, rfl, trivial⟩) rfl rfl
  refine aw_region ?_
  refine al_op rfl rfl rfl (opP_bin rfl (ev_tmp rfl) (ev_const rfl) rfl) ?_
  refine al_op rfl rfl rfl (opP_assign rfl (ev_tmp rfl)) ?_
  refine al_nil ?_
  refine aw_cond rfl (fun h7 => ?_) (fun h7 => ?_)
  · refine aw_seq ?_
    refine aw_region ?_
    refine al_op rfl rfl rfl (opP_move rfl (ev_tmp rfl)) ?_
    refine al_op rfl rfl rfl (opP_move rfl (ev_tmp rfl)) ?_
    refine al_opg rfl rfl rfl rfl rfl rfl (opP_load_ptn rfl u38 rfl s38 (ev_tmp rfl) rfl rfl) ?_
    refine al_stepD rfl rfl (stepD_callg rfl rfl rfl rfl (callOf_func rfl (.cons (ev_when rfl id) .nil)) (fun hg => c149 x) (fun hg => (by repeat' (first | refine Vw.stDOf ?_ | refine Vw.ptOf rfl rfl rfl ?_ | refine Vw.prvOf ?_ | refine Vw.cloOf ?_ | constructor))) rfl (fun _ => rfl)) ?_
    refine al_op rfl rfl rfl (opP_and rfl (ev_tmp rfl) (ev_when rfl id)) ?_
    refine al_op rfl rfl rfl (opP_build rfl u116 z116 rfl (.cons (ev_const rfl) (.cons (ev_const rfl) (.cons (ev_tmp rfl) .nil))) rfl) ?_
    refine al_store_pt rfl rfl rfl s116 (ev_tmp rfl) (ev_tmp rfl) rfl rfl rfl rfl rfl rfl ?_
    refine al_nil ?_
    refine aw_ret ?_
    exact ret_id ([.st [.v (.int .i64 _), .v (.int .i64 _), .v (.bool _)]]) (.celln' rfl u116 rfl s116 rfl rfl rfl .nil) (by first | (simp [oneOf, shapeR, *]; done) | (have hh := h20; simp at hh; simp [oneOf, shapeR, *])) (by first | exact trivial | exact ⟨rfl, trivial⟩ | exact ⟨rfl, rfl, trivial⟩ | exact ⟨rfl, rfl, rfl, trivial⟩ | exact ⟨rfl, rfl, rfl, rfl, trivial⟩) rfl rfl
  refine aw_seq ?_
  refine aw_seq ?_
  refine aw_region ?_
  refine al_op rfl rfl rfl (opP_bin rfl (ev_tmp rfl) (ev_const rfl) rfl) ?_
  refine al_op rfl rfl rfl (opP_assign rfl (ev_tmp rfl)) ?_
  refine al_nil ?_
  refine aw_cond rfl (fun h8 => ?_) (fun h8 => ?_)
  · refine aw_skip ?_
    refine aw_condT rfl h8 ?_
    refine aw_seq ?_
    refine aw_region ?_
    refine al_op rfl rfl rfl (opP_move rfl (ev_tmp rfl)) ?_
    refine al_op rfl rfl rfl (opP_move rfl (ev_tmp rfl)) ?_
    refine al_opg rfl rfl rfl rfl rfl rfl (opP_fieldAddr rfl (ev_tmp rfl) u38 rfl rfl s3 rfl) ?_
    refine al_opg rfl rfl rfl rfl rfl rfl (opP_load_pt rfl u3 rfl (ev_when rfl id) rfl rfl) ?_
    refine al_opg rfl rfl rfl rfl rfl rfl (opP_bin rfl (ev_when rfl id) (ev_const rfl) rfl) ?_
    refine al_op rfl rfl rfl (opP_and rfl (ev_tmp rfl) (ev_when rfl id)) ?_
    refine al_op rfl rfl rfl (opP_move rfl (ev_tmp rfl)) ?_
    refine al_opg rfl rfl rfl rfl rfl rfl (opP_fieldAddr rfl (ev_tmp rfl) u38 rfl rfl s36 rfl) ?_
    refine al_opg rfl rfl rfl rfl rfl rfl (opP_load_pt rfl u36 rfl (ev_when rfl id) rfl rfl) ?_
    refine al_opg rfl rfl rfl rfl rfl rfl (opP_bin rfl (ev_when rfl id) (ev_const rfl) rfl) ?_
    refine al_op rfl rfl rfl (opP_and rfl (ev_tmp rfl) (ev_when rfl id)) ?_
    refine al_op rfl rfl rfl (opP_move rfl (ev_tmp rfl)) ?_
    refine al_opg rfl rfl rfl rfl rfl rfl (opP_fieldAddr rfl (ev_tmp rfl) u38 rfl rfl s36 rfl) ?_
    refine al_opg rfl rfl rfl rfl rfl rfl (opP_load_pt rfl u36 rfl (ev_when rfl id) rfl rfl) ?_
    refine al_opg rfl rfl rfl rfl rfl rfl (opP_convert rfl (by rw [u36]; rfl) u3 (ev_when rfl id)) ?_
    refine al_opg rfl rfl rfl rfl rfl rfl (opP_fieldAddr rfl (ev_tmp rfl) u38 rfl rfl s3 rfl) ?_
    refine al_opg rfl rfl rfl rfl rfl rfl (opP_load_pt rfl u3 rfl (ev_when rfl id) rfl rfl) ?_
    refine al_opg rfl rfl rfl rfl rfl rfl (opP_bin rfl (ev_when rfl id) (ev_when rfl id) rfl) ?_
    refine al_op rfl rfl rfl (opP_and rfl (ev_tmp rfl) (ev_when rfl id)) ?_
    refine al_op rfl rfl rfl (opP_move rfl (ev_tmp rfl)) ?_
    refine al_opg rfl rfl rfl rfl rfl rfl (opP_fieldAddr rfl (ev_tmp rfl) u38 rfl rfl s3 rfl) ?_
    refine al_opg rfl rfl rfl rfl rfl rfl (opP_load_pt rfl u3 rfl (ev_when rfl id) rfl rfl) ?_
    refine al_opg rfl rfl rfl rfl rfl rfl (opP_fieldAddr rfl (ev_tmp rfl) u38 rfl rfl s36 rfl) ?_
    refine al_opg rfl rfl rfl rfl rfl rfl (opP_load_pt rfl u36 rfl (ev_when rfl id) rfl rfl) ?_
    refine al_opg rfl rfl rfl rfl rfl rfl (opP_convert rfl (by rw [u36]; rfl) u3 (ev_when rfl id)) ?_
    refine al_opg rfl rfl rfl rfl rfl rfl (opP_rem rfl (ev_when rfl id) (ev_when rfl id) (fun hg => by simp [hw] at hg; rw [hw]; omega)) ?_
    refine al_opg rfl rfl rfl rfl rfl rfl (opP_bin rfl (ev_when rfl id) (ev_const rfl) rfl) ?_
    refine al_op rfl rfl rfl (opP_and rfl (ev_tmp rfl) (ev_when rfl id)) ?_
    refine al_op rfl rfl rfl (opP_build rfl u116 z116 rfl (.cons (ev_const rfl) (.cons (ev_const rfl) (.cons (ev_tmp rfl) .nil))) rfl) ?_
    refine al_store_pt rfl rfl rfl s116 (ev_tmp rfl) (ev_tmp rfl) rfl rfl rfl rfl rfl rfl ?_
    refine al_nil ?_
    refine aw_ret ?_
    exact ret_id ([.st [.v (.int .i64 _), .v (.int .i64 _), .v (.bool _)]]) (.celln' rfl u116 rfl s116 rfl rfl rfl .nil) (by first | (simp [oneOf, shapeR, *]; done) | (have hh := h20; simp at hh; simp [oneOf, shapeR, *])) (by first | exact trivial | exact ⟨rfl, trivial⟩ | exact ⟨rfl, rfl, trivial⟩ | exact ⟨rfl, rfl, rfl, trivial⟩ | exact ⟨rfl, rfl, rfl, rfl, trivial⟩) rfl rfl
  refine aw_region ?_
  refine al_op rfl rfl rfl (opP_bin rfl (ev_tmp rfl) (ev_const rfl) rfl) ?_
  refine al_op rfl rfl rfl (opP_assign rfl (ev_tmp rfl)) ?_
  refine al_nil ?_
  refine aw_cond rfl (fun h9 => ?_) (fun h9 => ?_)
  · refine aw_seq ?_
    refine aw_region ?_
    refine al_op rfl rfl rfl (opP_move rfl (ev_tmp rfl)) ?_
    refine al_op rfl rfl rfl (opP_move rfl (ev_tmp rfl)) ?_
    refine al_opg rfl rfl rfl rfl rfl rfl (opP_fieldAddr rfl (ev_tmp rfl) u38 rfl rfl s3 rfl) ?_
    refine al_opg rfl rfl rfl rfl rfl rfl (opP_load_pt rfl u3 rfl (ev_when rfl id) rfl rfl) ?_
    refine al_opg rfl rfl rfl rfl rfl rfl (opP_bin rfl (ev_when rfl id) (ev_const rfl) rfl) ?_
    refine al_op rfl rfl rfl (opP_and rfl (ev_tmp rfl) (ev_when rfl id)) ?_
    refine al_op rfl rfl rfl (opP_move rfl (ev_tmp rfl)) ?_
    refine al_opg rfl rfl rfl rfl rfl rfl (opP_fieldAddr rfl (ev_tmp rfl) u38 rfl rfl s36 rfl) ?_
    refine al_opg rfl rfl rfl rfl rfl rfl (opP_load_pt rfl u36 rfl (ev_when rfl id) rfl rfl) ?_
    refine al_opg rfl rfl rfl rfl rfl rfl (opP_bin rfl (ev_when rfl id) (ev_const rfl) rfl) ?_
    refine al_op rfl rfl rfl (opP_and rfl (ev_tmp rfl) (ev_when rfl id)) ?_
    refine al_op rfl rfl rfl (opP_move rfl (ev_tmp rfl)) ?_
    refine al_opg rfl rfl rfl rfl rfl rfl (opP_fieldAddr rfl (ev_tmp rfl) u38 rfl rfl s36 rfl) ?_
    refine al_opg rfl rfl rfl rfl rfl rfl (opP_load_pt rfl u36 rfl (ev_when rfl id) rfl rfl) ?_
    refine al_opg rfl rfl rfl rfl rfl rfl (opP_convert rfl (by rw [u36]; rfl) u3 (ev_when rfl id)) ?_
    refine al_opg rfl rfl rfl rfl rfl rfl (opP_fieldAddr rfl (ev_tmp rfl) u38 rfl rfl s3 rfl) ?_
    refine al_opg rfl rfl rfl rfl rfl rfl (opP_load_pt rfl u3 rfl (ev_when rfl id) rfl rfl) ?_
    refine al_opg rfl rfl rfl rfl rfl rfl (opP_bin rfl (ev_when rfl id) (ev_when rfl id) rfl) ?_
    refine al_op rfl rfl rfl (opP_and rfl (ev_tmp rfl) (ev_when rfl id)) ?_
    refine al_op rfl rfl rfl (opP_move rfl (ev_tmp rfl)) ?_
    refine al_opg rfl rfl rfl rfl rfl rfl (opP_fieldAddr rfl (ev_tmp rfl) u38 rfl rfl s3 rfl) ?_
    refine al_opg rfl rfl rfl rfl rfl rfl (opP_load_pt rfl u3 rfl (ev_when rfl id) rfl rfl) ?_
    refine al_opg rfl rfl rfl rfl rfl rfl (opP_fieldAddr rfl (ev_tmp rfl) u38 rfl rfl s36 rfl) ?_
    refine al_opg rfl rfl rfl rfl rfl rfl (opP_load_pt rfl u36 rfl (ev_when rfl id) rfl rfl) ?_
    refine al_opg rfl rfl rfl rfl rfl rfl (opP_convert rfl (by rw [u36]; rfl) u3 (ev_when rfl id)) ?_
    refine al_opg rfl rfl rfl rfl rfl rfl (opP_rem rfl (ev_when rfl id) (ev_when rfl id) (fun hg => by simp [hw] at hg; rw [hw]; omega)) ?_
    refine al_opg rfl rfl rfl rfl rfl rfl (opP_bin rfl (ev_when rfl id) (ev_const rfl) rfl) ?_
    refine al_op rfl rfl rfl (opP_and rfl (ev_tmp rfl) (ev_when rfl id)) ?_
    refine al_op rfl rfl rfl (opP_build rfl u116 z116 rfl (.cons (ev_const rfl) (.cons (ev_const rfl) (.cons (ev_tmp rfl) .nil))) rfl) ?_
    refine al_store_pt rfl rfl rfl s116 (ev_tmp rfl) (ev_tmp rfl) rfl rfl rfl rfl rfl rfl ?_
    refine al_nil ?_
    refine aw_ret ?_
    exact ret_id ([.st [.v (.int .i64 _), .v (.int .i64 _), .v (.bool _)]]) (.celln' rfl u116 rfl s116 rfl rfl rfl .nil) (by first | (simp [oneOf, shapeR, *]; done) | (have hh := h20; simp at hh; simp [oneOf, shapeR, *])) (by first | exact trivial | exact ⟨rfl, trivial⟩ | exact ⟨rfl, rfl, trivial⟩ | exact ⟨rfl, rfl, rfl, trivial⟩ | exact ⟨rfl, rfl, rfl, rfl, trivial⟩) rfl rfl
  refine aw_seq ?_
  refine aw_seq ?_
  refine aw_region ?_
  refine al_op rfl rfl rfl (opP_bin rfl (ev_tmp rfl) (ev_const rfl) rfl) ?_
  refine al_op rfl rfl rfl (opP_assign rfl (ev_tmp rfl)) ?_
  refine al_nil ?_
  refine aw_cond rfl (fun h10 => ?_) (fun h10 => ?_)
  · refine aw_skip ?_
    refine aw_condT rfl h10 ?_
    refine aw_seq ?_
    refine aw_region ?_
    refine al_op rfl rfl rfl (opP_move rfl (ev_tmp rfl)) ?_
    refine al_op rfl rfl rfl (opP_move rfl (ev_tmp rfl)) ?_
    refine al_opg rfl rfl rfl rfl rfl rfl (opP_load_ptn rfl u38 rfl s38 (ev_tmp rfl) rfl rfl) ?_
    refine al_stepD rfl rfl (stepD_callg rfl rfl rfl rfl (callOf_func rfl (.cons (ev_when rfl id) .nil)) (fun hg => c149 x) (fun hg => (by repeat' (first | refine Vw.stDOf ?_ | refine Vw.ptOf rfl rfl rfl ?_ | refine Vw.prvOf ?_ | refine Vw.cloOf ?_ | constructor))) rfl (fun _ => rfl)) ?_
    refine al_op rfl rfl rfl (opP_and rfl (ev_tmp rfl) (ev_when rfl id)) ?_
    refine al_op rfl rfl rfl (opP_build rfl u116 z116 rfl (.cons (ev_const rfl) (.cons (ev_const rfl) (.cons (ev_tmp rfl) .nil))) rfl) ?_
    refine al_store_pt rfl rfl rfl s116 (ev_tmp rfl) (ev_tmp rfl) rfl rfl rfl rfl rfl rfl ?_
    refine al_nil ?_
    refine aw_ret ?_
    exact ret_id ([.st [.v (.int .i64 _), .v (.int .i64 _), .v (.bool _)]]) (.celln' rfl u116 rfl s116 rfl rfl rfl .nil) (by first | (simp [oneOf, shapeR, *]; done) | (have hh := h20; simp at hh; simp [oneOf, shapeR, *])) (by first | exact trivial | exact ⟨rfl, trivial⟩ | exact ⟨rfl, rfl, trivial⟩ | exact ⟨rfl, rfl, rfl, trivial⟩ | exact ⟨rfl, rfl, rfl, rfl, trivial⟩) rfl rfl
  refine aw_region ?_
  refine al_op rfl rfl rfl (opP_bin rfl (ev_tmp rfl) (ev_const rfl) rfl) ?_
  refine al_op rfl rfl rfl (opP_assign rfl (ev_tmp rfl)) ?_
  refine al_nil ?_
  refine aw_cond rfl (fun h11 => ?_) (fun h11 => ?_)
  · refine aw_seq ?_
    refine aw_region ?_
    refine al_op rfl rfl rfl (opP_move rfl (ev_tmp rfl)) ?_
    refine al_op rfl rfl rfl (opP_move rfl (ev_tmp rfl)) ?_
    refine al_opg rfl rfl rfl rfl rfl rfl (opP_load_ptn rfl u38 rfl s38 (ev_tmp rfl) rfl rfl) ?_
    refine al_stepD rfl rfl (stepD_callg rfl rfl rfl rfl (callOf_func rfl (.cons (ev_when rfl id) .nil)) (fun hg => c149 x) (fun hg => (by repeat' (first | refine Vw.stDOf ?_ | refine Vw.ptOf rfl rfl rfl ?_ | refine Vw.prvOf ?_ | refine Vw.cloOf ?_ | constructor))) rfl (fun _ => rfl)) ?_
    refine al_op rfl rfl rfl (opP_and rfl (ev_tmp rfl) (ev_when rfl id)) ?_
    refine al_op rfl rfl rfl (opP_build rfl u116 z116 rfl (.cons (ev_const rfl) (.cons (ev_const rfl) (.cons (ev_tmp rfl) .nil))) rfl) ?_
    refine al_store_pt rfl rfl rfl s116 (ev_tmp rfl) (ev_tmp rfl) rfl rfl rfl rfl rfl rfl ?_
    refine al_nil ?_
    refine aw_ret ?_
    exact ret_id ([.st [.v (.int .i64 _), .v (.int .i64 _), .v (.bool _)]]) (.celln' rfl u116 rfl s116 rfl rfl rfl .nil) (by first | (simp [oneOf, shapeR, *]; done) | (have hh := h20; simp at hh; simp [oneOf, shapeR, *])) (by first | exact trivial | exact ⟨rfl, trivial⟩ | exact ⟨rfl, rfl, trivial⟩ | exact ⟨rfl, rfl, rfl, trivial⟩ | exact ⟨rfl, rfl, rfl, rfl, trivial⟩) rfl rfl
  refine aw_seq ?_
  refine aw_region ?_
  refine al_op rfl rfl rfl (opP_bin rfl (ev_tmp rfl) (ev_const rfl) rfl) ?_
  refine al_op rfl rfl rfl (opP_assign rfl (ev_tmp rfl)) ?_
  refine al_nil ?_
  refine aw_cond rfl (fun h12 => ?_) (fun h12 => ?_)
  · refine aw_seq ?_
    refine aw_region ?_
    refine al_op rfl rfl rfl (opP_fieldAddr rfl (ev_tmp rfl) u38 rfl rfl s3 rfl) ?_
    refine al_op rfl rfl rfl (opP_load_pt rfl u3 rfl (ev_tmp rfl) rfl rfl) ?_
    refine al_op rfl rfl rfl (opP_bin rfl (ev_tmp rfl) (ev_const rfl) rfl) ?_
    refine al_op rfl rfl rfl (opP_move rfl (ev_tmp rfl)) ?_
    refine al_opg rfl rfl rfl rfl rfl rfl (opP_fieldAddr rfl (ev_tmp rfl) u38 rfl rfl s3 rfl) ?_
    refine al_opg rfl rfl rfl rfl rfl rfl (opP_load_pt rfl u3 rfl (ev_when rfl id) rfl rfl) ?_
    refine al_opg rfl rfl rfl rfl rfl rfl (opP_bin rfl (ev_when rfl id) (ev_const rfl) rfl) ?_
    refine al_op rfl rfl rfl (opP_and rfl (ev_tmp rfl) (ev_when rfl id)) ?_
    refine al_op rfl rfl rfl (opP_move rfl (ev_tmp rfl)) ?_
    refine al_opg rfl rfl rfl rfl rfl rfl (opP_fieldAddr rfl (ev_tmp rfl) u38 rfl rfl s36 rfl) ?_
    refine al_opg rfl rfl rfl rfl rfl rfl (opP_load_pt rfl u36 rfl (ev_when rfl id) rfl rfl) ?_
    refine al_opg rfl rfl rfl rfl rfl rfl (opP_convert rfl (by rw [u36]; rfl) u3 (ev_when rfl id)) ?_
    refine al_opg rfl rfl rfl rfl rfl rfl (opP_fieldAddr rfl (ev_tmp rfl) u27 rfl rfl s22 rfl) ?_
    refine al_opg rfl rfl rfl rfl rfl rfl (opP_load_pt rfl u22 rfl (ev_when rfl id) rfl rfl) ?_
    refine al_opg rfl rfl rfl rfl rfl rfl (opP_len rfl u22 (ev_when rfl id) rfl) ?_
    refine al_opg rfl rfl rfl rfl rfl rfl (opP_bin rfl (ev_when rfl id) (ev_when rfl id) rfl) ?_
    refine al_op rfl rfl rfl (opP_and rfl (ev_tmp rfl) (ev_when rfl id)) ?_
    refine al_op rfl rfl rfl (opP_build rfl u116 z116 rfl (.cons (ev_const rfl) (.cons (ev_const rfl) (.cons (ev_tmp rfl) .nil))) rfl) ?_
    refine al_store_pt rfl rfl rfl s116 (ev_tmp rfl) (ev_tmp rfl) rfl rfl rfl rfl rfl rfl ?_
    refine al_nil ?_
    refine aw_ret ?_
    exact ret_id ([.st [.v (.int .i64 _), .v (.int .i64 _), .v (.bool _)]]) (.celln' rfl u116 rfl s116 rfl rfl rfl .nil) (by first | (simp [oneOf, shapeR, *]; done) | (have hh := h20; simp at hh; simp [oneOf, shapeR, *])) (by first | exact trivial | exact ⟨rfl, trivial⟩ | exact ⟨rfl, rfl, trivial⟩ | exact ⟨rfl, rfl, rfl, trivial⟩ | exact ⟨rfl, rfl, rfl, rfl, trivial⟩) rfl rfl
  refine aw_seq ?_
  refine aw_region ?_
  refine al_op rfl rfl rfl (opP_bin rfl (ev_tmp rfl) (ev_const rfl) rfl) ?_
  refine al_op rfl rfl rfl (opP_assign rfl (ev_tmp rfl)) ?_
  refine al_nil ?_
  refine aw_cond rfl (fun h13 => ?_) (fun h13 => ?_)
  · refine aw_seq ?_
    refine aw_region ?_
    refine al_op rfl rfl rfl (opP_fieldAddr rfl (ev_tmp rfl) u38 rfl rfl s3 rfl) ?_
    refine al_op rfl rfl rfl (opP_load_pt rfl u3 rfl (ev_tmp rfl) rfl rfl) ?_
    refine al_op rfl rfl rfl (opP_bin rfl (ev_tmp rfl) (ev_const rfl) rfl) ?_
    refine al_op rfl rfl rfl (opP_move rfl (ev_tmp rfl)) ?_
    refine al_opg rfl rfl rfl rfl rfl rfl (opP_fieldAddr rfl (ev_tmp rfl) u38 rfl rfl s36 rfl) ?_
    refine al_opg rfl rfl rfl rfl rfl rfl (opP_load_pt rfl u36 rfl (ev_when rfl id) rfl rfl) ?_
    refine al_opg rfl rfl rfl rfl rfl rfl (opP_bin rfl (ev_when rfl id) (ev_const rfl) rfl) ?_
    refine al_op rfl rfl rfl (opP_and rfl (ev_tmp rfl) (ev_when rfl id)) ?_
    refine al_op rfl rfl rfl (opP_move rfl (ev_tmp rfl)) ?_
    refine al_opg rfl rfl rfl rfl rfl rfl (opP_fieldAddr rfl (ev_tmp rfl) u38 rfl rfl s3 rfl) ?_
    refine al_opg rfl rfl rfl rfl rfl rfl (opP_load_pt rfl u3 rfl (ev_when rfl id) rfl rfl) ?_
    refine al_opg rfl rfl rfl rfl rfl rfl (opP_bin rfl (ev_when rfl id) (ev_const rfl) rfl) ?_
    refine al_opg rfl rfl rfl rfl rfl rfl (opP_move rfl (ev_when rfl id)) ?_
    refine al_opg rfl rfl rfl rfl rfl rfl (opP_fieldAddr rfl (ev_tmp rfl) u38 rfl rfl s3 rfl) ?_
    refine al_opg rfl rfl rfl rfl rfl rfl (opP_load_pt rfl u3 rfl (ev_when rfl id) rfl rfl) ?_
    refine al_opg rfl rfl rfl rfl rfl rfl (opP_bin rfl (ev_when rfl id) (ev_const rfl) rfl) ?_
    refine al_opg rfl rfl rfl rfl rfl rfl (opP_or rfl (ev_when rfl id) (ev_when rfl id)) ?_
    refine al_op rfl rfl rfl (opP_and rfl (ev_tmp rfl) (ev_when rfl id)) ?_
    refine al_op rfl rfl rfl (opP_build rfl u116 z116 rfl (.cons (ev_const rfl) (.cons (ev_const rfl) (.cons (ev_tmp rfl) .nil))) rfl) ?_
    refine al_store_pt rfl rfl rfl s116 (ev_tmp rfl) (ev_tmp rfl) rfl rfl rfl rfl rfl rfl ?_
    refine al_nil ?_
    refine aw_ret ?_
    exact ret_id ([.st [.v (.int .i64 _), .v (.int .i64 _), .v (.bool _)]]) (.celln' rfl u116 rfl s116 rfl rfl rfl .nil) (by first | (simp [oneOf, shapeR, *]; done) | (have hh := h20; simp at hh; simp [oneOf, shapeR, *])) (by first | exact trivial | exact ⟨rfl, trivial⟩ | exact ⟨rfl, rfl, trivial⟩ | exact ⟨rfl, rfl, rfl, trivial⟩ | exact ⟨rfl, rfl, rfl, rfl, trivial⟩) rfl rfl
  refine aw_seq ?_
  refine aw_region ?_
  refine al_op rfl rfl rfl (opP_bin rfl (ev_tmp rfl) (ev_const rfl) rfl) ?_
  refine al_op rfl rfl rfl (opP_assign rfl (ev_tmp rfl)) ?_
  refine al_nil ?_
  refine aw_cond rfl (fun h14 => ?_) (fun h14 => ?_)
  · refine aw_seq ?_
    refine aw_region ?_
    refine al_op rfl rfl rfl (opP_fieldAddr rfl (ev_tmp rfl) u38 rfl rfl s3 rfl) ?_
    refine al_op rfl rfl rfl (opP_load_pt rfl u3 rfl (ev_tmp rfl) rfl rfl) ?_
    refine al_op rfl rfl rfl (opP_bin rfl (ev_tmp rfl) (ev_const rfl) rfl) ?_
    refine al_op rfl rfl rfl (opP_move rfl (ev_tmp rfl)) ?_
    refine al_opg rfl rfl rfl rfl rfl rfl (opP_fieldAddr rfl (ev_tmp rfl) u38 rfl rfl s3 rfl) ?_
    refine al_opg rfl rfl rfl rfl rfl rfl (opP_load_pt rfl u3 rfl (ev_when rfl id) rfl rfl) ?_
    refine al_opg rfl rfl rfl rfl rfl rfl (opP_bin rfl (ev_when rfl id) (ev_const rfl) rfl) ?_
    refine al_op rfl rfl rfl (opP_or rfl (ev_tmp rfl) (ev_when rfl id)) ?_
    refine al_op rfl rfl rfl (opP_move rfl (ev_tmp rfl)) ?_
    refine al_opg rfl rfl rfl rfl rfl rfl (opP_fieldAddr rfl (ev_tmp rfl) u38 rfl rfl s3 rfl) ?_
    refine al_opg rfl rfl rfl rfl rfl rfl (opP_load_pt rfl u3 rfl (ev_when rfl id) rfl rfl) ?_
    refine al_opg rfl rfl rfl rfl rfl rfl (opP_bin rfl (ev_when rfl id) (ev_const rfl) rfl) ?_
    refine al_op rfl rfl rfl (opP_or rfl (ev_tmp rfl) (ev_when rfl id)) ?_
    refine al_op rfl rfl rfl (opP_move rfl (ev_tmp rfl)) ?_
    refine al_opg rfl rfl rfl rfl rfl rfl (opP_load_ptn rfl u38 rfl s38 (ev_tmp rfl) rfl rfl) ?_
    refine al_stepD rfl rfl (stepD_callg rfl rfl rfl rfl (callOf_func rfl (.cons (ev_when rfl id) .nil)) (fun hg => c149 x) (fun hg => (by repeat' (first | refine Vw.stDOf ?_ | refine Vw.ptOf rfl rfl rfl ?_ | refine Vw.prvOf ?_ | refine Vw.cloOf ?_ | constructor))) rfl (fun _ => rfl)) ?_
    refine al_op rfl rfl rfl (opP_and rfl (ev_tmp rfl) (ev_when rfl id)) ?_
    refine al_op rfl rfl rfl (opP_build rfl u116 z116 rfl (.cons (ev_const rfl) (.cons (ev_const rfl) (.cons (ev_tmp rfl) .nil))) rfl) ?_
    refine al_store_pt rfl rfl rfl s116 (ev_tmp rfl) (ev_tmp rfl) rfl rfl rfl rfl rfl rfl ?_
    refine al_nil ?_
    refine aw_ret ?_
    exact ret_id ([.st [.v (.int .i64 _), .v (.int .i64 _), .v (.bool _)]]) (.celln' rfl u116 rfl s116 rfl rfl rfl .nil) (by first | (simp [oneOf, shapeR, *]; done) | (have hh := h20; simp at hh; simp [oneOf, shapeR, *])) (by first | exact trivial | exact ⟨rfl, trivial⟩ | exact ⟨rfl, rfl, trivial⟩ | exact ⟨rfl, rfl, rfl, trivial⟩ | exact ⟨rfl, rfl, rfl, rfl, trivial⟩) rfl rfl
  refine aw_seq ?_
  refine aw_region ?_
  refine al_op rfl rfl rfl (opP_bin rfl (ev_tmp rfl) (ev_const rfl) rfl) ?_
  refine al_op rfl rfl rfl (opP_assign rfl (ev_tmp rfl)) ?_
  refine al_nil ?_
  refine aw_cond rfl (fun h15 => ?_) (fun h15 => ?_)
  · refine aw_seq ?_
    refine aw_region ?_
    refine al_op rfl rfl rfl (opP_fieldAddr rfl (ev_tmp rfl) u38 rfl rfl s3 rfl) ?_
    refine al_op rfl rfl rfl (opP_load_pt rfl u3 rfl (ev_tmp rfl) rfl rfl) ?_
    refine al_op rfl rfl rfl (opP_bin rfl (ev_tmp rfl) (ev_const rfl) rfl) ?_
    refine al_op rfl rfl rfl (opP_move rfl (ev_tmp rfl)) ?_
    refine al_opg rfl rfl rfl rfl rfl rfl (opP_load_ptn rfl u38 rfl s38 (ev_tmp rfl) rfl rfl) ?_
    refine al_stepD rfl rfl (stepD_callg rfl rfl rfl rfl (callOf_func rfl (.cons (ev_when rfl id) .nil)) (fun hg => c149 x) (fun hg => (by repeat' (first | refine Vw.stDOf ?_ | refine Vw.ptOf rfl rfl rfl ?_ | refine Vw.prvOf ?_ | refine Vw.cloOf ?_ | constructor))) rfl (fun _ => rfl)) ?_
    refine al_op rfl rfl rfl (opP_and rfl (ev_tmp rfl) (ev_when rfl id)) ?_
    refine al_op rfl rfl rfl (opP_build rfl u116 z116 rfl (.cons (ev_const rfl) (.cons (ev_const rfl) (.cons (ev_tmp rfl) .nil))) rfl) ?_
    refine al_store_pt rfl rfl rfl s116 (ev_tmp rfl) (ev_tmp rfl) rfl rfl rfl rfl rfl rfl ?_
    refine al_nil ?_
    refine aw_ret ?_
    exact ret_id ([.st [.v (.int .i64 _), .v (.int .i64 _), .v (.bool _)]]) (.celln' rfl u116 rfl s116 rfl rfl rfl .nil) (by first | (simp [oneOf, shapeR, *]; done) | (have hh := h20; simp at hh; simp [oneOf, shapeR, *])) (by first | exact trivial | exact ⟨rfl, trivial⟩ | exact ⟨rfl, rfl, trivial⟩ | exact ⟨rfl, rfl, rfl, trivial⟩ | exact ⟨rfl, rfl, rfl, rfl, trivial⟩) rfl rfl
  refine aw_seq ?_
  refine aw_region ?_
  refine al_op rfl rfl rfl (opP_bin rfl (ev_tmp rfl) (ev_const rfl) rfl) ?_
  refine al_op rfl rfl rfl (opP_assign rfl (ev_tmp rfl)) ?_
  refine al_nil ?_
  refine aw_cond rfl (fun h16 => ?_) (fun h16 => ?_)
  · refine aw_seq ?_
    refine aw_region ?_
    refine al_op rfl rfl rfl (opP_move rfl (ev_tmp rfl)) ?_
    refine al_op rfl rfl rfl (opP_move rfl (ev_tmp rfl)) ?_
    refine al_opg rfl rfl rfl rfl rfl rfl (opP_load_ptn rfl u38 rfl s38 (ev_tmp rfl) rfl rfl) ?_
    refine al_stepD rfl rfl (stepD_callg rfl rfl rfl rfl (callOf_func rfl (.cons (ev_when rfl id) .nil)) (fun hg => c149 x) (fun hg => (by repeat' (first | refine Vw.stDOf ?_ | refine Vw.ptOf rfl rfl rfl ?_ | refine Vw.prvOf ?_ | refine Vw.cloOf ?_ | constructor))) rfl (fun _ => rfl)) ?_
    refine al_op rfl rfl rfl (opP_and rfl (ev_tmp rfl) (ev_when rfl id)) ?_
    refine al_op rfl rfl rfl (opP_move rfl (ev_tmp rfl)) ?_
    refine al_opg rfl rfl rfl rfl rfl rfl (opP_fieldAddr rfl (ev_tmp rfl) u38 rfl rfl s22 rfl) ?_
    refine al_opg rfl rfl rfl rfl rfl rfl (opP_load_pt rfl u22 rfl (ev_when rfl id) rfl rfl) ?_
    refine al_opg rfl rfl rfl rfl rfl rfl (opP_len rfl u22 (ev_when rfl id) rfl) ?_
    refine al_opg rfl rfl rfl rfl rfl rfl (opP_bin rfl (ev_when rfl id) (ev_const rfl) rfl) ?_
    refine al_op rfl rfl rfl (opP_and rfl (ev_tmp rfl) (ev_when rfl id)) ?_
    refine al_op rfl rfl rfl (opP_build rfl u116 z116 rfl (.cons (ev_const rfl) (.cons (ev_const rfl) (.cons (ev_tmp rfl) .nil))) rfl) ?_
    refine al_store_pt rfl rfl rfl s116 (ev_tmp rfl) (ev_tmp rfl) rfl rfl rfl rfl rfl rfl ?_
    refine al_nil ?_
    refine aw_ret ?_
    exact ret_id ([.st [.v (.int .i64 _), .v (.int .i64 _), .v (.bool _)]]) (.celln' rfl u116 rfl s116 rfl rfl rfl .nil) (by first | (simp [oneOf, shapeR, *]; done) | (have hh := h20; simp at hh; simp [oneOf, shapeR, *])) (by first | exact trivial | exact ⟨rfl, trivial⟩ | exact ⟨rfl, rfl, trivial⟩ | exact ⟨rfl, rfl, rfl, trivial⟩ | exact ⟨rfl, rfl, rfl, rfl, trivial⟩) rfl rfl
  refine aw_seq ?_
  refine aw_region ?_
  refine al_op rfl rfl rfl (opP_bin rfl (ev_tmp rfl) (ev_const rfl) rfl) ?_
  refine al_op rfl rfl rfl (opP_assign rfl (ev_tmp rfl)) ?_
  refine al_nil ?_
  refine aw_cond rfl (fun h17 => ?_) (fun h17 => ?_)
  · refine aw_seq ?_
    refine aw_region ?_
    refine al_op rfl rfl rfl (opP_fieldAddr rfl (ev_tmp rfl) u38 rfl rfl s3 rfl) ?_
    refine al_op rfl rfl rfl (opP_load_pt rfl u3 rfl (ev_tmp rfl) rfl rfl) ?_
    refine al_op rfl rfl rfl (opP_bin rfl (ev_tmp rfl) (ev_const rfl) rfl) ?_
    refine al_op rfl rfl rfl (opP_move rfl (ev_tmp rfl)) ?_
    refine al_opg rfl rfl rfl rfl rfl rfl (opP_load_ptn rfl u38 rfl s38 (ev_tmp rfl) rfl rfl) ?_
    refine al_stepD rfl rfl (stepD_callg rfl rfl rfl rfl (callOf_func rfl (.cons (ev_when rfl id) .nil)) (fun hg => c149 x) (fun hg => (by repeat' (first | refine Vw.stDOf ?_ | refine Vw.ptOf rfl rfl rfl ?_ | refine Vw.prvOf ?_ | refine Vw.cloOf ?_ | constructor))) rfl (fun _ => rfl)) ?_
    refine al_op rfl rfl rfl (opP_and rfl (ev_tmp rfl) (ev_when rfl id)) ?_
    refine al_op rfl rfl rfl (opP_build rfl u116 z116 rfl (.cons (ev_const rfl) (.cons (ev_const rfl) (.cons (ev_tmp rfl) .nil))) rfl) ?_
    refine al_store_pt rfl rfl rfl s116 (ev_tmp rfl) (ev_tmp rfl) rfl rfl rfl rfl rfl rfl ?_
    refine al_nil ?_
    refine aw_ret ?_
    exact ret_id ([.st [.v (.int .i64 _), .v (.int .i64 _), .v (.bool _)]]) (.celln' rfl u116 rfl s116 rfl rfl rfl .nil) (by first | (simp [oneOf, shapeR, *]; done) | (have hh := h20; simp at hh; simp [oneOf, shapeR, *])) (by first | exact trivial | exact ⟨rfl, trivial⟩ | exact ⟨rfl, rfl, trivial⟩ | exact ⟨rfl, rfl, rfl, trivial⟩ | exact ⟨rfl, rfl, rfl, rfl, trivial⟩) rfl rfl
  refine aw_seq ?_
  refine aw_region ?_
  refine al_op rfl rfl rfl (opP_bin rfl (ev_tmp rfl) (ev_const rfl) rfl) ?_
  refine al_op rfl rfl rfl (opP_assign rfl (ev_tmp rfl)) ?_
  refine al_nil ?_
  refine aw_cond rfl (fun h18 => ?_) (fun h18 => ?_)
  · refine aw_seq ?_
    refine aw_region ?_
    refine al_op rfl rfl rfl (opP_fieldAddr rfl (ev_tmp rfl) u38 rfl rfl s3 rfl) ?_
    refine al_op rfl rfl rfl (opP_load_pt rfl u3 rfl (ev_tmp rfl) rfl rfl) ?_
    refine al_op rfl rfl rfl (opP_bin rfl (ev_tmp rfl) (ev_const rfl) rfl) ?_
    refine al_op rfl rfl rfl (opP_move rfl (ev_tmp rfl)) ?_
    refine al_opg rfl rfl rfl rfl rfl rfl (opP_load_ptn rfl u38 rfl s38 (ev_tmp rfl) rfl rfl) ?_
    refine al_stepD rfl rfl (stepD_callg rfl rfl rfl rfl (callOf_func rfl (.cons (ev_when rfl id) .nil)) (fun hg => c149 x) (fun hg => (by repeat' (first | refine Vw.stDOf ?_ | refine Vw.ptOf rfl rfl rfl ?_ | refine Vw.prvOf ?_ | refine Vw.cloOf ?_ | constructor))) rfl (fun _ => rfl)) ?_
    refine al_op rfl rfl rfl (opP_and rfl (ev_tmp rfl) (ev_when rfl id)) ?_
    refine al_op rfl rfl rfl (opP_build rfl u116 z116 rfl (.cons (ev_const rfl) (.cons (ev_const rfl) (.cons (ev_tmp rfl) .nil))) rfl) ?_
    refine al_store_pt rfl rfl rfl s116 (ev_tmp rfl) (ev_tmp rfl) rfl rfl rfl rfl rfl rfl ?_
    refine al_nil ?_
    refine aw_ret ?_
    exact ret_id ([.st [.v (.int .i64 _), .v (.int .i64 _), .v (.bool _)]]) (.celln' rfl u116 rfl s116 rfl rfl rfl .nil) (by first | (simp [oneOf, shapeR, *]; done) | (have hh := h20; simp at hh; simp [oneOf, shapeR, *])) (by first | exact trivial | exact ⟨rfl, trivial⟩ | exact ⟨rfl, rfl, trivial⟩ | exact ⟨rfl, rfl, rfl, trivial⟩ | exact ⟨rfl, rfl, rfl, rfl, trivial⟩) rfl rfl
  refine aw_seq ?_
  refine aw_region ?_
  refine al_op rfl rfl rfl (opP_bin rfl (ev_tmp rfl) (ev_const rfl) rfl) ?_
  refine al_op rfl rfl rfl (opP_assign rfl (ev_tmp rfl)) ?_
  refine al_nil ?_
  refine aw_cond rfl (fun h19 => ?_) (fun h19 => ?_)
  · refine aw_seq ?_
    refine aw_region ?_
    refine al_op rfl rfl rfl (opP_assign rfl (ev_const rfl)) ?_
    refine al_nil ?_
    refine aw_seq ?_
    refine aw_seq ?_
    refine aw_region ?_
    refine al_op rfl rfl rfl (opP_fieldAddr rfl (ev_tmp rfl) u27 rfl rfl s3 rfl) ?_
    refine al_op rfl rfl rfl (opP_load_pt rfl u3 rfl (ev_tmp rfl) rfl rfl) ?_
    refine al_op rfl rfl rfl (opP_bin rfl (ev_tmp rfl) (ev_const rfl) rfl) ?_
    refine al_nil ?_
    refine aw_condS rfl (fun h20 => ?_) (fun h20 => ?_)
    · refine aw_skip ?_
      refine aw_seq ?_
      refine aw_region ?_
      refine al_op rfl rfl rfl (opP_move rfl (ev_tmp rfl)) ?_
      refine al_op rfl rfl rfl (opP_fieldAddr rfl (ev_tmp rfl) u38 rfl rfl s3 rfl) ?_
      refine al_op rfl rfl rfl (opP_load_pt rfl u3 rfl (ev_tmp rfl) rfl rfl) ?_
      refine al_op rfl rfl rfl (opP_bin rfl (ev_tmp rfl) (ev_const rfl) rfl) ?_
      refine al_op rfl rfl rfl (opP_move rfl (ev_tmp rfl)) ?_
      refine al_opg rfl rfl rfl rfl rfl rfl (opP_load_ptn rfl u38 rfl s38 (ev_tmp rfl) rfl rfl) ?_
      refine al_stepD rfl rfl (stepD_callg rfl rfl rfl rfl (callOf_func rfl (.cons (ev_when rfl id) .nil)) (fun hg => c149 x) (fun hg => (by repeat' (first | refine Vw.stDOf ?_ | refine Vw.ptOf rfl rfl rfl ?_ | refine Vw.prvOf ?_ | refine Vw.cloOf ?_ | constructor))) rfl (fun _ => rfl)) ?_
      refine al_op rfl rfl rfl (opP_and rfl (ev_tmp rfl) (ev_when rfl id)) ?_
      refine al_op rfl rfl rfl (opP_build rfl u116 z116 rfl (.cons (ev_tmp rfl) (.cons (ev_const rfl) (.cons (ev_tmp rfl) .nil))) rfl) ?_
      refine al_store_pt rfl rfl rfl s116 (ev_tmp rfl) (ev_tmp rfl) rfl rfl rfl rfl rfl rfl ?_
      refine al_nil ?_
      refine aw_ret ?_
      exact ret_id ([.st [.v (.int .i64 _), .v (.int .i64 _), .v (.bool _)]]) (.celln' rfl u116 rfl s116 rfl rfl rfl .nil) (by first | (simp [oneOf, shapeR, *]; done) | (have hh := h20; simp at hh; simp [oneOf, shapeR, *])) (by first | exact trivial | exact ⟨rfl, trivial⟩ | exact ⟨rfl, rfl, trivial⟩ | exact ⟨rfl, rfl, rfl, trivial⟩ | exact ⟨rfl, rfl, rfl, rfl, trivial⟩) rfl rfl
    refine aw_region ?_
    refine al_op rfl rfl rfl (opP_assign rfl (ev_const rfl)) ?_
    refine al_nil ?_
    refine aw_seq ?_
    refine aw_region ?_
    refine al_op rfl rfl rfl (opP_move rfl (ev_tmp rfl)) ?_
    refine al_op rfl rfl rfl (opP_fieldAddr rfl (ev_tmp rfl) u38 rfl rfl s3 rfl) ?_
    refine al_op rfl rfl rfl (opP_load_pt rfl u3 rfl (ev_tmp rfl) rfl rfl) ?_
    refine al_op rfl rfl rfl (opP_bin rfl (ev_tmp rfl) (ev_const rfl) rfl) ?_
    refine al_op rfl rfl rfl (opP_move rfl (ev_tmp rfl)) ?_
    refine al_opg rfl rfl rfl rfl rfl rfl (opP_load_ptn rfl u38 rfl s38 (ev_tmp rfl) rfl rfl) ?_
    refine al_stepD rfl rfl (stepD_callg rfl rfl rfl rfl (callOf_func rfl (.cons (ev_when rfl id) .nil)) (fun hg => c149 x) (fun hg => (by repeat' (first | refine Vw.stDOf ?_ | refine Vw.ptOf rfl rfl rfl ?_ | refine Vw.prvOf ?_ | refine Vw.cloOf ?_ | constructor))) rfl (fun _ => rfl)) ?_
    refine al_op rfl rfl rfl (opP_and rfl (ev_tmp rfl) (ev_when rfl id)) ?_
    refine al_op rfl rfl rfl (opP_build rfl u116 z116 rfl (.cons (ev_tmp rfl) (.cons (ev_const rfl) (.cons (ev_tmp rfl) .nil))) rfl) ?_
    refine al_store_pt rfl rfl rfl s116 (ev_tmp rfl) (ev_tmp rfl) rfl rfl rfl rfl rfl rfl ?_
    refine al_nil ?_
    refine aw_ret ?_
    exact ret_id ([.st [.v (.int .i64 _), .v (.int .i64 _), .v (.bool _)]]) (.celln' rfl u116 rfl s116 rfl rfl rfl .nil) (by first | (simp [oneOf, shapeR, *]; done) | (have hh := h20; simp at hh; simp [oneOf, shapeR, *])) (by first | exact trivial | exact ⟨rfl, trivial⟩ | exact ⟨rfl, rfl, trivial⟩ | exact ⟨rfl, rfl, rfl, trivial⟩ | exact ⟨rfl, rfl, rfl, rfl, trivial⟩) rfl rfl
  refine aw_seq ?_
  refine aw_region ?_
  refine al_op rfl rfl rfl (opP_bin rfl (ev_tmp rfl) (ev_const rfl) rfl) ?_
  refine al_op rfl rfl rfl (opP_assign rfl (ev_tmp rfl)) ?_
  refine al_nil ?_
  refine aw_cond rfl (fun h21 => ?_) (fun h21 => ?_)
  · refine aw_seq ?_
    refine aw_region ?_
    refine al_op rfl rfl rfl (opP_fieldAddr rfl (ev_tmp rfl) u38 rfl rfl s3 rfl) ?_
    refine al_op rfl rfl rfl (opP_load_pt rfl u3 rfl (ev_tmp rfl) rfl rfl) ?_
    refine al_op rfl rfl rfl (opP_bin rfl (ev_tmp rfl) (ev_const rfl) rfl) ?_
    refine al_op rfl rfl rfl (opP_move rfl (ev_tmp rfl)) ?_
    refine al_opg rfl rfl rfl rfl rfl rfl (opP_load_ptn rfl u38 rfl s38 (ev_tmp rfl) rfl rfl) ?_
    refine al_stepD rfl rfl (stepD_callg rfl rfl rfl rfl (callOf_func rfl (.cons (ev_when rfl id) .nil)) (fun hg => c149 x) (fun hg => (by repeat' (first | refine Vw.stDOf ?_ | refine Vw.ptOf rfl rfl rfl ?_ | refine Vw.prvOf ?_ | refine Vw.cloOf ?_ | constructor))) rfl (fun _ => rfl)) ?_
    refine al_op rfl rfl rfl (opP_and rfl (ev_tmp rfl) (ev_when rfl id)) ?_
    refine al_op rfl rfl rfl (opP_build rfl u116 z116 rfl (.cons (ev_const rfl) (.cons (ev_const rfl) (.cons (ev_tmp rfl) .nil))) rfl) ?_
    refine al_store_pt rfl rfl rfl s116 (ev_tmp rfl) (ev_tmp rfl) rfl rfl rfl rfl rfl rfl ?_
    refine al_nil ?_
    refine aw_ret ?_
    exact ret_id ([.st [.v (.int .i64 _), .v (.int .i64 _), .v (.bool _)]]) (.celln' rfl u116 rfl s116 rfl rfl rfl .nil) (by first | (simp [oneOf, shapeR, *]; done) | (have hh := h20; simp at hh; simp [oneOf, shapeR, *])) (by first | exact trivial | exact ⟨rfl, trivial⟩ | exact ⟨rfl, rfl, trivial⟩ | exact ⟨rfl, rfl, rfl, trivial⟩ | exact ⟨rfl, rfl, rfl, rfl, trivial⟩) rfl rfl
  refine aw_skip ?_
  refine aw_seq ?_
  refine aw_seq ?_
  refine aw_region ?_
  refine al_op rfl rfl rfl (opP_fieldAddr rfl (ev_tmp rfl) u38 rfl rfl s3 rfl) ?_
  refine al_op rfl rfl rfl (opP_load_pt rfl u3 rfl (ev_tmp rfl) rfl rfl) ?_
  refine al_op rfl rfl rfl (opP_bin rfl (ev_tmp rfl) (ev_const rfl) rfl) ?_
  refine al_op rfl rfl rfl (opP_move rfl (ev_tmp rfl)) ?_
  refine al_opg rfl rfl rfl rfl rfl rfl (opP_fieldAddr rfl (ev_tmp rfl) u38 rfl rfl s3 rfl) ?_
  refine al_opg rfl rfl rfl rfl rfl rfl (opP_load_pt rfl u3 rfl (ev_when rfl id) rfl rfl) ?_
  refine al_opg rfl rfl rfl rfl rfl rfl (opP_bin rfl (ev_when rfl id) (ev_const rfl) rfl) ?_
  refine al_op rfl rfl rfl (opP_and rfl (ev_tmp rfl) (ev_when rfl id)) ?_
  refine al_nil ?_
  refine aw_condS rfl (fun h22 => ?_) (fun h22 => ?_)
  · refine aw_skip ?_
    refine aw_seq ?_
    refine aw_region ?_
    refine al_op rfl rfl rfl (opP_build rfl u116 z116 rfl .nil rfl) ?_
    refine al_store_pt rfl rfl rfl s116 (ev_tmp rfl) (ev_tmp rfl) rfl rfl rfl rfl rfl rfl ?_
    refine al_nil ?_
    refine aw_ret ?_
    exact ret_id ([.st [.v (.int .i64 _), .v (.int .i64 _), .v (.bool _)]]) (.celln' rfl u116 rfl s116 rfl rfl rfl .nil) (by first | (simp [oneOf, shapeR, *]; done) | (have hh := h20; simp at hh; simp [oneOf, shapeR, *])) (by first | exact trivial | exact ⟨rfl, trivial⟩ | exact ⟨rfl, rfl, trivial⟩ | exact ⟨rfl, rfl, rfl, trivial⟩ | exact ⟨rfl, rfl, rfl, rfl, trivial⟩) rfl rfl
  refine aw_seq ?_
  refine aw_region ?_
  refine al_op rfl rfl rfl (opP_move rfl (ev_tmp rfl)) ?_
  refine al_op rfl rfl rfl (opP_move rfl (ev_tmp rfl)) ?_
  refine al_opg rfl rfl rfl rfl rfl rfl (opP_fieldAddr rfl (ev_tmp rfl) u38 rfl rfl s36 rfl) ?_
  refine al_opg rfl rfl rfl rfl rfl rfl (opP_load_pt rfl u36 rfl (ev_when rfl id) rfl rfl) ?_
  refine al_opg rfl rfl rfl rfl rfl rfl (opP_bin rfl (ev_when rfl id) (ev_const rfl) rfl) ?_
  refine al_op rfl rfl rfl (opP_and rfl (ev_tmp rfl) (ev_when rfl id)) ?_
  refine al_op rfl rfl rfl (opP_move rfl (ev_tmp rfl)) ?_
  refine al_opg rfl rfl rfl rfl rfl rfl (opP_load_ptn rfl u38 rfl s38 (ev_tmp rfl) rfl rfl) ?_
  refine al_stepD rfl rfl (stepD_callg rfl rfl rfl rfl (callOf_func rfl (.cons (ev_when rfl id) .nil)) (fun hg => c150 x) (fun hg => (by repeat' (first | refine Vw.stDOf ?_ | refine Vw.ptOf rfl rfl rfl ?_ | refine Vw.prvOf ?_ | refine Vw.cloOf ?_ | constructor))) rfl (fun _ => rfl)) ?_
  refine al_op rfl rfl rfl (opP_and rfl (ev_tmp rfl) (ev_when rfl id)) ?_
  refine al_op rfl rfl rfl (opP_build rfl u116 z116 rfl (.cons (ev_const rfl) (.cons (ev_const rfl) (.cons (ev_tmp rfl) .nil))) rfl) ?_
  refine al_store_pt rfl rfl rfl s116 (ev_tmp rfl) (ev_tmp rfl) rfl rfl rfl rfl rfl rfl ?_
  refine al_nil ?_
  refine aw_ret ?_
  exact ret_id ([.st [.v (.int .i64 _), .v (.int .i64 _), .v (.bool _)]]) (.celln' rfl u116 rfl s116 rfl rfl rfl .nil) (by first | (simp [oneOf, shapeR, *]; done) | (have hh := h20; simp at hh; simp [oneOf, shapeR, *])) (by first | exact trivial | exact ⟨rfl, trivial⟩ | exact ⟨rfl, rfl, trivial⟩ | exact ⟨rfl, rfl, rfl, trivial⟩ | exact ⟨rfl, rfl, rfl, rfl, trivial⟩) rfl rfl
end Go.AL
namespace Go.AL
open Go.Proofs
theorem u25 : Tryz.prog.underlying 25 = some Tryz.t25.desc := by kernel_rfl
theorem s25 : (Tryz.prog.info? 25).map (·.size) = some 1 := by kernel_rfl
theorem z25 : (Tryz.prog.info? 25).bind (·.zero) = Tryz.t25.zero := by kernel_rfl
theorem b25 : ((Tryz.prog.info? 25).map fun i => Nat.ble i.bytes 1000) = some true := by kernel_rfl
theorem u35 : Tryz.prog.underlying 35 = some Tryz.t35.desc := by kernel_rfl
theorem s35 : (Tryz.prog.info? 35).map (·.size) = some 1 := by kernel_rfl
theorem z35 : (Tryz.prog.info? 35).bind (·.zero) = Tryz.t35.zero := by kernel_rfl
theorem b35 : ((Tryz.prog.info? 35).map fun i => Nat.ble i.bytes 1000) = some true := by kernel_rfl
theorem e145 : Enters Tryz.prog 145 := enters_of Tryz.func145 (by kernel_rfl) (by kernel_rfl)
set_option maxRecDepth 100000 in
set_option maxHeartbeats 4000000 in
theorem c145 (l : List Int) (n : Int) (hl : l.length < 1000000) : Ok Tryz.prog 145 [.dat none (.sl 1 (ints l)), .v (.int .i64 n)] [] (.v (.bool (hasR l n))) [] := by
  refine ok_of e145 Tryz.func145 rfl (by kernel_rfl) ?_
  intro cx hP hro hN hvk
  obtain ⟨P, ro, w0, Bin, N, R0, tk0, bl0, vk⟩ := cx
  subst hP hro hN
  have hvkd := vkd_of hvk
  refine aw_seq ?_
  refine aw_region ?_
  refine al_op rfl rfl rfl (opP_assign rfl (ev_const rfl)) ?_
  refine al_nil ?_
  refine aw_seq ?_
  refine aw_seq ?_
  refine aw_region ?_
  refine al_op rfl rfl rfl (opP_assign rfl (ev_const rfl)) ?_
  refine al_nil ?_
  refine aw_block ?_
  refine aw_loop' (α := Nat) (fun i => [(0, .dat none (.sl 1 (ints l))), (1, .v (.int .i64 n)), (5, .v (.int .i64 i))]) (fun i => []) (fun i => i ≤ l.length ∧ hasR (l.take i) n = false) (fun i => l.length - i) 0 ⟨Nat.zero_le _, rfl⟩ id (Fit.of (by first | exact trivial | exact ⟨rfl, trivial⟩ | exact ⟨rfl, rfl, trivial⟩ | exact ⟨rfl, rfl, rfl, trivial⟩ | exact ⟨rfl, rfl, rfl, rfl, trivial⟩) (by repeat (first | exact trivial | refine ⟨rfl, ?_⟩)) rfl rfl) ?_
  rintro i ⟨hi, hno⟩
  refine aw_seq ?_
  refine aw_seq ?_
  refine aw_region ?_
  refine al_op rfl rfl rfl (opP_move rfl (ev_tmp rfl)) ?_
  refine al_op rfl rfl rfl (opP_move rfl (ev_tmp rfl)) ?_
  refine al_op rfl rfl rfl (opP_len rfl u22 (ev_tmp rfl) (by first | exact lenA_ints | exact lenA_map | rfl)) ?_
  refine al_op rfl rfl rfl (opP_bin rfl (ev_tmp rfl) (ev_tmp rfl) rfl) ?_
  refine al_nil ?_
  refine aw_condS rfl (fun h1 => ?_) (fun h1 => ?_)
  · refine aw_exit ?_
    refine aw_seq ?_
    refine aw_region ?_
    refine al_op rfl rfl rfl (opP_assign rfl (ev_const rfl)) ?_
    refine al_nil ?_
    refine aw_ret ?_
    have hn : hasR l n = false := by
      have e : i = l.length := by simp [ints_len] at h1; omega
      rw [e, List.take_length] at hno; exact hno
    rw [hn]; exact ret_id _ (.tmp rfl .nil) rfl trivial rfl rfl
  have hil : i < l.length := by simpa [ints_len] using h1
  refine aw_skip ?_
  refine aw_seq ?_
  refine aw_block ?_
  refine aw_seq ?_
  refine aw_region ?_
  refine al_op rfl rfl rfl (opP_move rfl (ev_tmp rfl)) ?_
  refine al_op rfl rfl rfl (opP_move rfl (ev_tmp rfl)) ?_
  refine al_op rfl rfl rfl (opP_index_dat rfl u22 s3 (ev_tmp rfl) (ev_tmp rfl) (fun _ => Int.natCast_nonneg _) (fun _ => ints_get hil)) ?_
  refine al_op rfl rfl rfl (opP_load_pr rfl u3 rfl (ev_tmp rfl)) ?_
  refine al_op rfl rfl rfl (opP_move rfl (ev_tmp rfl)) ?_
  refine al_op rfl rfl rfl (opP_bin rfl (ev_tmp rfl) (ev_tmp rfl) rfl) ?_
  refine al_nil ?_
  refine aw_cond rfl (fun h2 => ?_) (fun h2 => ?_)
  · refine aw_seq ?_
    refine aw_region ?_
    refine al_op rfl rfl rfl (opP_assign rfl (ev_const rfl)) ?_
    refine al_nil ?_
    refine aw_ret ?_
    have hyes : hasR l n = true := by
      simp only [hasR, List.any_eq_true]; exact ⟨l[i], List.getElem_mem hil, h2⟩
    rw [hyes]; exact ret_id _ (.tmp rfl .nil) rfl trivial rfl rfl
  refine aw_skip ?_
  refine aw_region ?_
  refine al_op rfl rfl rfl (opP_move rfl (ev_tmp rfl)) ?_
  refine al_op rfl rfl rfl (opP_bin rfl (ev_tmp rfl) (ev_const rfl) rfl) ?_
  refine al_op rfl rfl rfl (opP_assign rfl (ev_tmp rfl)) ?_
  refine al_nil ?_
  refine ⟨i + 1, id, ⟨hil, ?_⟩, by omega, Fit.of trivial ⟨rfl, rfl, by rw [← wrapS (by omega)]; rfl, trivial⟩ rfl rfl⟩
  unfold hasR at hno ⊢; rw [List.take_succ_eq_append_getElem hil, List.any_append, hno]; simpa using h2
theorem e126 : Enters Tryz.prog 126 := enters_of Tryz.func126 (by kernel_rfl) (by kernel_rfl)
set_option maxRecDepth 100000 in
set_option maxHeartbeats 4000000 in
theorem c126 (f : Fn) (b : Nat) (hf : f.Fits) (hb : b ≤ f.blocks.length) : Ok Tryz.prog 126 [.dat none (fnD f), .v (.int .i64 b)] [] (.v (.int .i64 (numberR f b))) [] := by
  refine ok_of e126 Tryz.func126 rfl (by kernel_rfl) ?_
  intro cx hP hro hN hvk
  obtain ⟨P, ro, w0, Bin, N, R0, tk0, bl0, vk⟩ := cx
  subst hP hro hN
  have hvkd := vkd_of hvk
  refine aw_seq ?_
  refine aw_region ?_
  refine al_opc (k := 101) rfl rfl rfl ((hvk _).trans rfl) (opC_box rfl (ev_tmp rfl) rfl) ?_
  refine al_op rfl rfl rfl (opP_assign rfl (ev_const rfl)) ?_
  refine al_nil ?_
  refine aw_seq ?_
  refine aw_region ?_
  refine al_op rfl rfl rfl (opP_fieldAddr rfl (ev_tmp rfl) u27 rfl rfl s22 rfl) ?_
  refine al_op rfl rfl rfl (opP_load_pt rfl u22 rfl (ev_tmp rfl) rfl rfl) ?_
  refine al_op rfl rfl rfl (opP_len rfl u22 (ev_tmp rfl) (by first | exact lenA_ints | exact lenA_map | rfl)) ?_
  refine al_op rfl rfl rfl (opP_assign rfl (ev_tmp rfl)) ?_
  refine al_nil ?_
  refine aw_seq ?_
  refine aw_seq ?_
  refine aw_region ?_
  refine al_op rfl rfl rfl (opP_assign rfl (ev_const rfl)) ?_
  refine al_nil ?_
  refine aw_block ?_
  refine aw_loop' (α := Nat) (fun i => [(1, .v (.int .i64 b)), (2, .pt 101 0), (5, .v (.int .i64 (numberR f i))), (6, .v (.int .i64 i))]) (fun i => [(101, .var [.dat none (.sl 1 (ints f.params)), .v (.int .i64 f.ret), .dat none (.sl 1 (ints f.slots)), .dat none (.sl 1 (f.blocks.map instsD))])]) (fun i => i ≤ b) (fun i => b - i) 0 (Nat.zero_le _) id (Fit.of ⟨rfl, trivial⟩ ⟨rfl, rfl, by rw [show numberR f 0 = f.params.length by simp [numberR, total]]; rfl, rfl, trivial⟩ rfl rfl) ?_
  rintro i hi
  refine aw_seq ?_
  refine aw_seq ?_
  refine aw_region ?_
  refine al_op rfl rfl rfl (opP_move rfl (ev_tmp rfl)) ?_
  refine al_op rfl rfl rfl (opP_move rfl (ev_tmp rfl)) ?_
  refine al_op rfl rfl rfl (opP_bin rfl (ev_tmp rfl) (ev_tmp rfl) rfl) ?_
  refine al_nil ?_
  refine aw_condS rfl (fun h1 => ?_) (fun h1 => ?_)
  · refine aw_exit ?_
    refine aw_seq ?_
    refine aw_region ?_
    refine al_op rfl rfl rfl (opP_move rfl (ev_tmp rfl)) ?_
    refine al_op rfl rfl rfl (opP_assign rfl (ev_tmp rfl)) ?_
    refine al_nil ?_
    refine aw_ret ?_
    have e : i = b := by simp at h1; omega
    subst e
    exact ret_id _ (.tmp rfl .nil) rfl trivial rfl rfl
  have hib : i < b := by simpa using h1
  have hif : i < f.blocks.length := by omega
  refine aw_skip ?_
  refine aw_seq ?_
  refine aw_block ?_
  refine aw_region ?_
  refine al_op rfl rfl rfl (opP_move rfl (ev_tmp rfl)) ?_
  refine al_op rfl rfl rfl (opP_fieldAddr rfl (ev_tmp rfl) u27 rfl rfl s25 rfl) ?_
  refine al_op rfl rfl rfl (opP_load_pt rfl u25 rfl (ev_tmp rfl) rfl rfl) ?_
  refine al_op rfl rfl rfl (opP_move rfl (ev_tmp rfl)) ?_
  refine al_op rfl rfl rfl (opP_index_dat rfl u25 s35 (ev_tmp rfl) (ev_tmp rfl) (fun _ => Int.natCast_nonneg _) (fun _ => blocks_get hif)) ?_
  refine al_op rfl rfl rfl (opP_load_pr rfl u35 rfl (ev_tmp rfl)) ?_
  refine al_op rfl rfl rfl (opP_len rfl u35 (ev_tmp rfl) (by first | exact lenA_ints | exact lenA_map | rfl)) ?_
  refine al_op rfl rfl rfl (opP_bin rfl (ev_tmp rfl) (ev_tmp rfl) rfl) ?_
  refine al_op rfl rfl rfl (opP_assign rfl (ev_tmp rfl)) ?_
  refine al_nil ?_
  refine aw_region ?_
  refine al_op rfl rfl rfl (opP_move rfl (ev_tmp rfl)) ?_
  refine al_op rfl rfl rfl (opP_bin rfl (ev_tmp rfl) (ev_const rfl) rfl) ?_
  refine al_op rfl rfl rfl (opP_assign rfl (ev_tmp rfl)) ?_
  refine al_nil ?_
  refine ⟨i + 1, id, hib, by omega, Fit.of ⟨rfl, trivial⟩ ⟨rfl, rfl, ?_, by rw [← wrapS (by have := hf.blocks; omega)]; rfl, trivial⟩ rfl rfl⟩
  have e : IntKind.i64.wrap ((numberR f i : Int) + (f.blocks[i].length : Nat)) = (numberR f (i + 1) : Nat) := by
    have h1 := hf.number (i + 1)
    rw [numberR_succ hif] at h1 ⊢
    rw [wrapI ⟨by omega, by omega⟩]; omega
  rw [← e]; rfl
theorem e151 : Enters Tryz.prog 151 := enters_of Tryz.func151 (by kernel_rfl) (by kernel_rfl)
set_option maxRecDepth 100000 in
set_option maxHeartbeats 4000000 in
theorem c151 (f : Fn) (hf : f.Fits) : Ok Tryz.prog 151 [.dat none (fnD f)] [] (.v (.int .i64 (countR f))) [] := by
  refine ok_of e151 Tryz.func151 rfl (by kernel_rfl) ?_
  intro cx hP hro hN hvk
  obtain ⟨P, ro, w0, Bin, N, R0, tk0, bl0, vk⟩ := cx
  subst hP hro hN
  have hvkd := vkd_of hvk
  refine aw_seq ?_
  refine aw_region ?_
  refine al_opc (k := 101) rfl rfl rfl ((hvk _).trans rfl) (opC_box rfl (ev_tmp rfl) rfl) ?_
  refine al_op rfl rfl rfl (opP_assign rfl (ev_const rfl)) ?_
  refine al_nil ?_
  refine aw_seq ?_
  refine aw_region ?_
  refine al_op rfl rfl rfl (opP_load_ptn rfl u27 rfl s27 (ev_tmp rfl) rfl rfl) ?_
  refine al_op rfl rfl rfl (opP_fieldAddr rfl (ev_tmp rfl) u27 rfl rfl s25 rfl) ?_
  refine al_op rfl rfl rfl (opP_load_pt rfl u25 rfl (ev_tmp rfl) rfl rfl) ?_
  refine al_op rfl rfl rfl (opP_len rfl u25 (ev_tmp rfl) (by first | exact lenA_ints | exact lenA_map | rfl)) ?_
  refine al_call (id) rfl rfl rfl (callOf_func rfl (.cons (ev_tmp rfl) (.cons (ev_tmp rfl) .nil))) (c126 f f.blocks.length hf (Nat.le_refl _)) (by repeat' (first | refine Vw.stDOf ?_ | refine Vw.ptOf rfl rfl rfl ?_ | refine Vw.prvOf ?_ | refine Vw.cloOf ?_ | constructor)) (fun _ h => absurd h (by simp)) rfl rfl rfl (fun _ h => absurd h (by simp)) ?_
  refine al_op rfl rfl rfl (opP_assign rfl (ev_tmp rfl)) ?_
  refine al_nil ?_
  refine aw_ret ?_
  exact ret_id ([.v (.int .i64 _)]) (.tmp rfl .nil) (by simp [oneOf, countR, numberR]) (by first | exact trivial | exact ⟨rfl, trivial⟩ | exact ⟨rfl, rfl, trivial⟩ | exact ⟨rfl, rfl, rfl, trivial⟩ | exact ⟨rfl, rfl, rfl, rfl, trivial⟩) rfl rfl
theorem e152 : Enters Tryz.prog 152 := enters_of Tryz.func152 (by kernel_rfl) (by kernel_rfl)
set_option maxRecDepth 100000 in
set_option maxHeartbeats 4000000 in
theorem c152 (f : Fn) (v : Int) (hf : f.Fits) (hv : I64 v) : Ok Tryz.prog 152 [.dat none (fnD f), .v (.int .i64 v)] [] (.tup [.v (.int .i64 (whereR f v).1), .v (.int .i64 (whereR f v).2)]) [] := by
  refine ok_of e152 Tryz.func152 rfl (by kernel_rfl) ?_
  intro cx hP hro hN hvk
  obtain ⟨P, ro, w0, Bin, N, R0, tk0, bl0, vk⟩ := cx
  subst hP hro hN
  have hvkd := vkd_of hvk
  refine aw_seq ?_
  refine aw_region ?_
  refine al_opc (k := 101) rfl rfl rfl ((hvk _).trans rfl) (opC_box rfl (ev_tmp rfl) rfl) ?_
  refine al_op rfl rfl rfl (opP_assign rfl (ev_const rfl)) ?_
  refine al_op rfl rfl rfl (opP_assign rfl (ev_const rfl)) ?_
  refine al_nil ?_
  refine aw_seq ?_
  refine aw_region ?_
  refine al_op rfl rfl rfl (opP_fieldAddr rfl (ev_tmp rfl) u27 rfl rfl s22 rfl) ?_
  refine al_op rfl rfl rfl (opP_load_pt rfl u22 rfl (ev_tmp rfl) rfl rfl) ?_
  refine al_op rfl rfl rfl (opP_len rfl u22 (ev_tmp rfl) (by first | exact lenA_ints | exact lenA_map | rfl)) ?_
  refine al_op rfl rfl rfl (opP_assign rfl (ev_tmp rfl)) ?_
  refine al_nil ?_
  refine aw_seq ?_
  refine aw_seq ?_
  refine aw_region ?_
  refine al_op rfl rfl rfl (opP_assign rfl (ev_const rfl)) ?_
  refine al_nil ?_
  refine aw_block ?_
  refine aw_loop' (α := Nat) (fun i => [(1, .v (.int .i64 v)), (2, .pt 101 0), (6, .v (.int .i64 (numberR f i))), (7, .v (.int .i64 i))]) (fun i => [(101, .var [.dat none (.sl 1 (ints f.params)), .v (.int .i64 f.ret), .dat none (.sl 1 (ints f.slots)), .dat none (.sl 1 (f.blocks.map instsD))])]) (fun i => i ≤ f.blocks.length ∧ whereR f v = whereGo (f.blocks.drop i) (numberR f i) i v) (fun i => f.blocks.length - i) 0 ⟨Nat.zero_le _, rfl⟩ id (Fit.of ⟨rfl, trivial⟩ ⟨rfl, rfl, by rw [show numberR f 0 = f.params.length by simp [numberR, total]]; rfl, rfl, trivial⟩ rfl rfl) ?_
  rintro i ⟨hi, hgo⟩
  refine aw_seq ?_
  refine aw_seq ?_
  refine aw_region ?_
  refine al_op rfl rfl rfl (opP_move rfl (ev_tmp rfl)) ?_
  refine al_op rfl rfl rfl (opP_fieldAddr rfl (ev_tmp rfl) u27 rfl rfl s25 rfl) ?_
  refine al_op rfl rfl rfl (opP_load_pt rfl u25 rfl (ev_tmp rfl) rfl rfl) ?_
  refine al_op rfl rfl rfl (opP_len rfl u25 (ev_tmp rfl) (by first | exact lenA_ints | exact lenA_map | rfl)) ?_
  refine al_op rfl rfl rfl (opP_bin rfl (ev_tmp rfl) (ev_tmp rfl) rfl) ?_
  refine al_nil ?_
  refine aw_condS rfl (fun h1 => ?_) (fun h1 => ?_)
  · refine aw_exit ?_
    refine aw_seq ?_
    refine aw_region ?_
    refine al_op rfl rfl rfl (opP_assign rfl (ev_const rfl)) ?_
    refine al_op rfl rfl rfl (opP_assign rfl (ev_const rfl)) ?_
    refine al_nil ?_
    refine aw_ret ?_
    have e : whereR f v = (-1, -1) := by
      rw [hgo, List.drop_of_length_le (by simp at h1; omega)]; rfl
    rw [e]
    exact ret_id _ (.tmp rfl (.tmp rfl .nil)) rfl trivial rfl rfl
  have hif : i < f.blocks.length := by simpa using h1
  have hwr : IntKind.i64.wrap ((numberR f i : Int) + (f.blocks[i].length : Nat)) = (numberR f (i + 1) : Nat) := by
    have h1 := hf.number (i + 1)
    rw [numberR_succ hif] at h1 ⊢
    rw [wrapI ⟨by omega, by omega⟩]; omega
  refine aw_skip ?_
  refine aw_seq ?_
  refine aw_block ?_
  refine aw_seq ?_
  refine aw_seq ?_
  refine aw_region ?_
  refine al_op rfl rfl rfl (opP_move rfl (ev_tmp rfl)) ?_
  refine al_op rfl rfl rfl (opP_move rfl (ev_tmp rfl)) ?_
  refine al_op rfl rfl rfl (opP_bin rfl (ev_tmp rfl) (ev_tmp rfl) rfl) ?_
  refine al_op rfl rfl rfl (opP_move rfl (ev_tmp rfl)) ?_
  refine al_opg rfl rfl rfl rfl rfl rfl (opP_move rfl (ev_tmp rfl)) ?_
  refine al_opg rfl rfl rfl rfl rfl rfl (opP_move rfl (ev_tmp rfl)) ?_
  refine al_opg rfl rfl rfl rfl rfl rfl (opP_fieldAddr rfl (ev_tmp rfl) u27 rfl rfl s25 rfl) ?_
  refine al_opg rfl rfl rfl rfl rfl rfl (opP_load_pt rfl u25 rfl (ev_when rfl id) rfl rfl) ?_
  refine al_opg rfl rfl rfl rfl rfl rfl (opP_move rfl (ev_tmp rfl)) ?_
  refine al_opg rfl rfl rfl rfl rfl rfl (opP_index_dat rfl u25 s35 (ev_when rfl id) (ev_when rfl id) (fun _ => Int.natCast_nonneg _) (fun _ => blocks_get hif)) ?_
  refine al_opg rfl rfl rfl rfl rfl rfl (opP_load_pr rfl u35 rfl (ev_when rfl id)) ?_
  refine al_opg rfl rfl rfl rfl rfl rfl (opP_len rfl u35 (ev_when rfl id) (by first | exact lenA_ints | exact lenA_map | rfl)) ?_
  refine al_opg rfl rfl rfl rfl rfl rfl (opP_bin rfl (ev_when rfl id) (ev_when rfl id) rfl) ?_
  refine al_opg rfl rfl rfl rfl rfl rfl (opP_bin rfl (ev_when rfl id) (ev_when rfl id) rfl) ?_
  refine al_op rfl rfl rfl (opP_and rfl (ev_tmp rfl) (ev_when rfl id)) ?_
  refine al_nil ?_
  refine aw_cond rfl (fun h2 => ?_) (fun h2 => ?_)
  · refine aw_seq ?_
    refine aw_region ?_
    refine al_op rfl rfl rfl (opP_move rfl (ev_tmp rfl)) ?_
    refine al_op rfl rfl rfl (opP_move rfl (ev_tmp rfl)) ?_
    refine al_op rfl rfl rfl (opP_move rfl (ev_tmp rfl)) ?_
    refine al_op rfl rfl rfl (opP_bin rfl (ev_tmp rfl) (ev_tmp rfl) rfl) ?_
    refine al_op rfl rfl rfl (opP_assign rfl (ev_tmp rfl)) ?_
    refine al_op rfl rfl rfl (opP_assign rfl (ev_tmp rfl)) ?_
    refine al_nil ?_
    refine aw_ret ?_
    have hh : v ≥ numberR f i ∧ v < numberR f i + f.blocks[i].length := by simpa [hwr, numberR_succ hif] using h2
    have e : whereR f v = ((i : Int), v - numberR f i) := by rw [hgo, where_drop hif, if_pos (by simpa using hh)]
    rw [e]
    exact ret_id [.v (.int .i64 _), .v (.int .i64 _)] (.tmp rfl (.tmp rfl .nil)) (by simp only [I64] at hv; rw [wrapI ⟨by omega, by omega⟩]; rfl) trivial rfl rfl
  refine aw_skip ?_
  refine aw_region ?_
  refine al_op rfl rfl rfl (opP_move rfl (ev_tmp rfl)) ?_
  refine al_op rfl rfl rfl (opP_fieldAddr rfl (ev_tmp rfl) u27 rfl rfl s25 rfl) ?_
  refine al_op rfl rfl rfl (opP_load_pt rfl u25 rfl (ev_tmp rfl) rfl rfl) ?_
  refine al_op rfl rfl rfl (opP_move rfl (ev_tmp rfl)) ?_
  refine al_op rfl rfl rfl (opP_index_dat rfl u25 s35 (ev_tmp rfl) (ev_tmp rfl) (fun _ => Int.natCast_nonneg _) (fun _ => blocks_get hif)) ?_
  refine al_op rfl rfl rfl (opP_load_pr rfl u35 rfl (ev_tmp rfl)) ?_
  refine al_op rfl rfl rfl (opP_len rfl u35 (ev_tmp rfl) (by first | exact lenA_ints | exact lenA_map | rfl)) ?_
  refine al_op rfl rfl rfl (opP_bin rfl (ev_tmp rfl) (ev_tmp rfl) rfl) ?_
  refine al_op rfl rfl rfl (opP_assign rfl (ev_tmp rfl)) ?_
  refine al_nil ?_
  refine aw_region ?_
  refine al_op rfl rfl rfl (opP_move rfl (ev_tmp rfl)) ?_
  refine al_op rfl rfl rfl (opP_bin rfl (ev_tmp rfl) (ev_const rfl) rfl) ?_
  refine al_op rfl rfl rfl (opP_assign rfl (ev_tmp rfl)) ?_
  refine al_nil ?_
  refine ⟨i + 1, id, ⟨hif, ?_⟩, by omega, Fit.of ⟨rfl, trivial⟩ ⟨rfl, rfl, by rw [← hwr]; rfl, by rw [← wrapS (by have := hf.blocks; omega)]; rfl, trivial⟩ rfl rfl⟩
  rw [hgo, where_drop hif, if_neg]; simpa [hwr, numberR_succ hif] using h2
theorem e90 : Enters Tryz.prog 90 := enters_of Tryz.func90 (by kernel_rfl) (by kernel_rfl)
set_option maxRecDepth 100000 in
set_option maxHeartbeats 4000000 in
theorem c90 (f : Fn) (v : Int) (hf : f.Fits) (hv : I64 v) : Ok Tryz.prog 90 [.dat none (fnD f), .v (.int .i64 v)] [] (.v (.int .i64 (kindR f v))) [] := by
  refine ok_of e90 Tryz.func90 rfl (by kernel_rfl) ?_
  intro cx hP hro hN hvk
  obtain ⟨P, ro, w0, Bin, N, R0, tk0, bl0, vk⟩ := cx
  subst hP hro hN
  have hvkd := vkd_of hvk
  refine aw_seq ?_
  refine aw_region ?_
  refine al_opc (k := 101) rfl rfl rfl ((hvk _).trans rfl) (opC_box rfl (ev_tmp rfl) rfl) ?_
  refine al_op rfl rfl rfl (opP_assign rfl (ev_const rfl)) ?_
  refine al_nil ?_
  refine aw_seq ?_
  refine aw_seq ?_
  refine aw_region ?_
  refine al_op rfl rfl rfl (opP_move rfl (ev_tmp rfl)) ?_
  refine al_op rfl rfl rfl (opP_bin rfl (ev_tmp rfl) (ev_const rfl) rfl) ?_
  refine al_op rfl rfl rfl (opP_move rfl (ev_tmp rfl)) ?_
  refine al_opg rfl rfl rfl rfl rfl rfl (opP_move rfl (ev_tmp rfl)) ?_
  refine al_opg rfl rfl rfl rfl rfl rfl (opP_load_ptn rfl u27 rfl s27 (ev_tmp rfl) rfl rfl) ?_
  refine al_stepD rfl rfl (stepD_callg rfl rfl rfl rfl (callOf_func rfl (.cons (ev_when rfl id) .nil)) (fun hg => c151 f hf) (fun hg => (by repeat' (first | refine Vw.stDOf ?_ | refine Vw.ptOf rfl rfl rfl ?_ | refine Vw.prvOf ?_ | refine Vw.cloOf ?_ | constructor))) rfl (fun _ => rfl)) ?_
  refine al_opg rfl rfl rfl rfl rfl rfl (opP_bin rfl (ev_when rfl id) (ev_when rfl id) rfl) ?_
  refine al_op rfl rfl rfl (opP_or rfl (ev_tmp rfl) (ev_when rfl id)) ?_
  refine al_nil ?_
  refine aw_cond rfl (fun h1 => ?_) (fun h1 => ?_)
  · refine aw_seq ?_
    refine aw_region ?_
    refine al_op rfl rfl rfl (opP_assign rfl (ev_const rfl)) ?_
    refine al_nil ?_
    refine aw_ret ?_
    rw [kind_none (by simpa using h1)]; exact ret_id _ (.tmp rfl .nil) rfl trivial rfl rfl
  have hv0 : 0 ≤ v ∧ v < countR f := by simp at h1; omega
  refine aw_skip ?_
  refine aw_seq ?_
  refine aw_seq ?_
  refine aw_region ?_
  refine al_op rfl rfl rfl (opP_move rfl (ev_tmp rfl)) ?_
  refine al_op rfl rfl rfl (opP_fieldAddr rfl (ev_tmp rfl) u27 rfl rfl s22 rfl) ?_
  refine al_op rfl rfl rfl (opP_load_pt rfl u22 rfl (ev_tmp rfl) rfl rfl) ?_
  refine al_op rfl rfl rfl (opP_len rfl u22 (ev_tmp rfl) (by first | exact lenA_ints | exact lenA_map | rfl)) ?_
  refine al_op rfl rfl rfl (opP_bin rfl (ev_tmp rfl) (ev_tmp rfl) rfl) ?_
  refine al_nil ?_
  refine aw_cond rfl (fun h2 => ?_) (fun h2 => ?_)
  · obtain ⟨hp, hk⟩ := kind_param hv0.1 (by simpa using h2)
    rw [hk]
    refine aw_seq ?_
    refine aw_region ?_
    refine al_op rfl rfl rfl (opP_fieldAddr rfl (ev_tmp rfl) u27 rfl rfl s22 rfl) ?_
    refine al_op rfl rfl rfl (opP_load_pt rfl u22 rfl (ev_tmp rfl) rfl rfl) ?_
    refine al_op rfl rfl rfl (opP_move rfl (ev_tmp rfl)) ?_
    refine al_op rfl rfl rfl (opP_index_dat rfl u22 s3 (ev_tmp rfl) (ev_tmp rfl) (fun _ => hv0.1) (fun _ => ints_get hp)) ?_
    refine al_op rfl rfl rfl (opP_load_pr rfl u3 rfl (ev_tmp rfl)) ?_
    refine al_op rfl rfl rfl (opP_assign rfl (ev_tmp rfl)) ?_
    refine al_nil ?_
    refine aw_ret ?_
    exact ret_id _ (.tmp rfl .nil) rfl trivial rfl rfl
  obtain ⟨b, i, hb, hi, hw, hk⟩ := kind_inst (by simp at h2; omega) hv0.2
  rw [hk]
  refine aw_skip ?_
  refine aw_seq ?_
  refine aw_region ?_
  refine al_op rfl rfl rfl (opP_load_ptn rfl u27 rfl s27 (ev_tmp rfl) rfl rfl) ?_
  refine al_op rfl rfl rfl (opP_move rfl (ev_tmp rfl)) ?_
  refine al_call (id) rfl rfl rfl (callOf_func rfl (.cons (ev_tmp rfl) (.cons (ev_tmp rfl) .nil))) ((by have h := c152 f v hf hv; rw [hw] at h; exact h)) (by repeat' (first | refine Vw.stDOf ?_ | refine Vw.ptOf rfl rfl rfl ?_ | refine Vw.prvOf ?_ | refine Vw.cloOf ?_ | constructor)) (fun _ h => absurd h (by simp)) rfl rfl rfl (fun _ h => absurd h (by simp)) ?_
  refine al_op rfl rfl rfl (opP_move rfl (ev_tmp rfl)) ?_
  refine al_op rfl rfl rfl (opP_extract rfl (ev_tmp rfl) rfl) ?_
  refine al_op rfl rfl rfl (opP_extract rfl (ev_tmp rfl) rfl) ?_
  refine al_op rfl rfl rfl (opP_assign rfl (ev_tmp rfl)) ?_
  refine al_op rfl rfl rfl (opP_assign rfl (ev_tmp rfl)) ?_
  refine al_nil ?_
  refine aw_seq ?_
  refine aw_region ?_
  refine al_op rfl rfl rfl (opP_fieldAddr rfl (ev_tmp rfl) u27 rfl rfl s25 rfl) ?_
  refine al_op rfl rfl rfl (opP_load_pt rfl u25 rfl (ev_tmp rfl) rfl rfl) ?_
  refine al_op rfl rfl rfl (opP_move rfl (ev_tmp rfl)) ?_
  refine al_op rfl rfl rfl (opP_index_dat rfl u25 s35 (ev_tmp rfl) (ev_tmp rfl) (fun _ => Int.natCast_nonneg _) (fun _ => blocks_get hb)) ?_
  refine al_op rfl rfl rfl (opP_load_pr rfl u35 rfl (ev_tmp rfl)) ?_
  refine al_op rfl rfl rfl (opP_move rfl (ev_tmp rfl)) ?_
  refine al_op rfl rfl rfl (opP_index_dat rfl u35 s38 (ev_tmp rfl) (ev_tmp rfl) (fun _ => Int.natCast_nonneg _) (fun _ => insts_get hi)) ?_
  refine al_op rfl rfl rfl (opP_fieldAddr rfl (ev_tmp rfl) u38 rfl rfl s3 rfl) ?_
  refine al_op rfl rfl rfl (opP_load_pr rfl u3 rfl (ev_tmp rfl)) ?_
  refine al_op rfl rfl rfl (opP_assign rfl (ev_tmp rfl)) ?_
  refine al_nil ?_
  refine aw_ret ?_
  exact ret_id _ (.tmp rfl .nil) rfl trivial rfl rfl
end Go.AL
namespace Go.AL
open Go.Proofs
theorem u47 : Tryz.prog.underlying 47 = some Tryz.t47.desc := by kernel_rfl
theorem s47 : (Tryz.prog.info? 47).map (·.size) = some 1 := by kernel_rfl
theorem z47 : (Tryz.prog.info? 47).bind (·.zero) = Tryz.t47.zero := by kernel_rfl
theorem b47 : ((Tryz.prog.info? 47).map fun i => Nat.ble i.bytes 1000) = some true := by kernel_rfl
theorem e88 : Enters Tryz.prog 88 := enters_of Tryz.func88 (by kernel_rfl) (by kernel_rfl)
set_option maxRecDepth 100000 in
set_option maxHeartbeats 4000000 in
theorem c88 (f : Fn) (hf : f.Fits) (hne : ∀ l ∈ f.blocks, l ≠ []) : Ok Tryz.prog 88 [.dat none (fnD f)] [] (.row 88001 1 0 f.blocks.length) [(88001, .row 1 ((graphR f).map rowD))] := by
  refine ok_of e88 Tryz.func88 rfl (by kernel_rfl) ?_
  intro cx hP hro hN hvk
  obtain ⟨P, ro, w0, Bin, N, R0, tk0, bl0, vk⟩ := cx
  subst hP hro hN
  have hvkd := vkd_of hvk
  refine aw_seq ?_
  refine aw_region ?_
  refine al_opc (k := 101) rfl rfl rfl ((hvk _).trans rfl) (opC_box rfl (ev_tmp rfl) rfl) ?_
  refine al_op rfl rfl rfl (opP_assign rfl (ev_const rfl)) ?_
  refine al_nil ?_
  refine aw_seq ?_
  refine aw_region ?_
  refine al_op rfl rfl rfl (opP_assign rfl (ev_const rfl)) ?_
  refine al_imp (imp_nilrow (k := 88001) (es := 1) (t := 3) ((hvk _).trans rfl) rfl) ?_
  refine al_nil ?_
  refine aw_seq ?_
  refine aw_seq ?_
  refine aw_region ?_
  refine al_op rfl rfl rfl (opP_assign rfl (ev_const rfl)) ?_
  refine al_nil ?_
  refine aw_block ?_
  refine aw_loop' (α := Nat) (fun i => [(1, .pt 101 0), (3, .row 88001 1 0 i), (4, .v (.int .i64 i))]) (fun i => [(101, .var [.dat none (.sl 1 (ints f.params)), .v (.int .i64 f.ret), .dat none (.sl 1 (ints f.slots)), .dat none (.sl 1 (f.blocks.map instsD))]), (88001, .row 1 (((graphR f).take i).map rowD))]) (fun i => i ≤ f.blocks.length) (fun i => f.blocks.length - i) 0 (Nat.zero_le _) id (Fit.of ⟨rfl, rfl, trivial⟩ ⟨rfl, rfl, rfl, trivial⟩ rfl rfl) ?_
  rintro i hi
  refine aw_seq ?_
  refine aw_seq ?_
  refine aw_region ?_
  refine al_op rfl rfl rfl (opP_move rfl (ev_tmp rfl)) ?_
  refine al_op rfl rfl rfl (opP_fieldAddr rfl (ev_tmp rfl) u27 rfl rfl s25 rfl) ?_
  refine al_op rfl rfl rfl (opP_load_pt rfl u25 rfl (ev_tmp rfl) rfl rfl) ?_
  refine al_op rfl rfl rfl (opP_len rfl u25 (ev_tmp rfl) (by first | exact lenA_ints | exact lenA_map | rfl)) ?_
  refine al_op rfl rfl rfl (opP_bin rfl (ev_tmp rfl) (ev_tmp rfl) rfl) ?_
  refine al_nil ?_
  refine aw_condS rfl (fun h1 => ?_) (fun h1 => ?_)
  · refine aw_exit ?_
    refine aw_seq ?_
    refine aw_region ?_
    refine al_op rfl rfl rfl (opP_move rfl (ev_tmp rfl)) ?_
    refine al_op rfl rfl rfl (opP_assign rfl (ev_tmp rfl)) ?_
    refine al_nil ?_
    refine aw_ret ?_
    have e : i = f.blocks.length := by simp at h1; omega
    subst e
    have hg : ((graphR f).take f.blocks.length) = graphR f := by rw [← graph_len, List.take_length]
    exact ret_id _ (.tmp rfl .nil) rfl ⟨congrArg (fun l => some (O.row 1 (List.map rowD l))) hg, trivial⟩ rfl rfl
  have hif : i < f.blocks.length := by simpa using h1
  have hlen : (((graphR f).take i).map rowD).length = i := by simp [graphR]; omega
  have hb0 : f.blocks[i] ≠ [] := hne _ (List.getElem_mem hif)
  have hb1 : 0 < f.blocks[i].length := by cases hx : f.blocks[i] with | nil => exact absurd hx hb0 | cons a l => simp
  have hbl := hf.insts _ (List.getElem_mem hif)
  have hwl : IntKind.i64.wrap (((f.blocks[i].length : Nat) : Int) - 1) = ((f.blocks[i].length - 1 : Nat) : Int) := by rw [wrapI ⟨by omega, by omega⟩]; omega
  have hto := (hf.inst _ (List.getElem_mem hif) _ (List.getElem_mem (show f.blocks[i].length - 1 < f.blocks[i].length by omega))).to
  have hlast : (graphR f)[i]'(by rw [graph_len]; exact hif) = f.blocks[i][f.blocks[i].length - 1].to := by simp [graphR, lastTo, List.getLast?_eq_getElem?, show f.blocks[i].length - 1 < f.blocks[i].length by omega]
  have hbf := hf.blocks
  have hidx : (f.blocks[i].map instD)[(IntKind.i64.wrap (((f.blocks[i].length : Nat) : Int) - 1)).toNat]? = some (instD f.blocks[i][f.blocks[i].length - 1]) := by
    rw [hwl]; simp only [Int.toNat_natCast]; exact insts_get (by omega)
  refine aw_skip ?_
  refine aw_seq ?_
  refine aw_block ?_
  refine aw_seq ?_
  refine aw_region ?_
  refine al_op rfl rfl rfl (opP_fieldAddr rfl (ev_tmp rfl) u27 rfl rfl s25 rfl) ?_
  refine al_op rfl rfl rfl (opP_load_pt rfl u25 rfl (ev_tmp rfl) rfl rfl) ?_
  refine al_op rfl rfl rfl (opP_move rfl (ev_tmp rfl)) ?_
  refine al_op rfl rfl rfl (opP_index_dat rfl u25 s35 (ev_tmp rfl) (ev_tmp rfl) (fun _ => Int.natCast_nonneg _) (fun _ => blocks_get hif)) ?_
  refine al_op rfl rfl rfl (opP_load_pr rfl u35 rfl (ev_tmp rfl)) ?_
  refine al_op rfl rfl rfl (opP_assign rfl (ev_tmp rfl)) ?_
  refine al_nil ?_
  refine aw_region ?_
  refine al_op rfl rfl rfl (opP_move rfl (ev_tmp rfl)) ?_
  refine al_opc (k := 201) rfl rfl rfl ((hvk _).trans rfl) (opC_buildSlice (ds := []) rfl u22 s3 z3 rfl rfl .nil rfl rfl .nil rfl rfl rfl) ?_
  refine al_op rfl rfl rfl (opP_move rfl (ev_tmp rfl)) ?_
  refine al_op rfl rfl rfl (opP_move rfl (ev_tmp rfl)) ?_
  refine al_op rfl rfl rfl (opP_len rfl u35 (ev_tmp rfl) (by first | exact lenA_ints | exact lenA_map | rfl)) ?_
  refine al_op rfl rfl rfl (opP_bin rfl (ev_tmp rfl) (ev_const rfl) rfl) ?_
  refine al_op rfl rfl rfl (opP_index_dat rfl u35 s38 (ev_tmp rfl) (ev_tmp rfl) (fun _ => by rw [hwl]; exact Int.natCast_nonneg _) (fun _ => hidx)) ?_
  refine al_op rfl rfl rfl (opP_fieldAddr rfl (ev_tmp rfl) u38 rfl rfl s22 rfl) ?_
  refine al_op rfl rfl rfl (opP_load_pr rfl u22 rfl (ev_tmp rfl)) ?_
  refine al_opc rfl rfl rfl ((hvk _).trans rfl) (opC_append rfl u22 s3 z3 rfl b3 (ev_tmp rfl) (ev_tmp rfl) (.row 201 1 _ _ rfl rfl) (.dat none 1 _ flats_ints) oneD_ints rfl (by rw [ints_len]; simp; omega) rfl) ?_
  refine al_opc (k := 202) rfl rfl rfl ((hvk _).trans rfl) (opC_buildSlice (ds := [.sl 1 _]) rfl u47 s22 z22 rfl rfl (.cons (ev_tmp rfl) .nil) rfl rfl (.cons (.row 201 1 _ _ rfl (by simp)) .nil) rfl rfl rfl) ?_
  refine al_opc rfl rfl rfl ((hvk _).trans rfl) (opC_append rfl u47 s22 z22 rfl b22 (ev_tmp rfl) (ev_tmp rfl) (.row 88001 1 _ _ rfl hlen.symm) (.row 202 1 _ _ rfl rfl) rfl rfl (by rw [hlen]; simp; omega) rfl) ?_
  refine al_op rfl rfl rfl (opP_assign rfl (ev_tmp rfl)) ?_
  refine al_nil ?_
  refine aw_region ?_
  refine al_op rfl rfl rfl (opP_move rfl (ev_tmp rfl)) ?_
  refine al_op rfl rfl rfl (opP_bin rfl (ev_tmp rfl) (ev_const rfl) rfl) ?_
  refine al_op rfl rfl rfl (opP_assign rfl (ev_tmp rfl)) ?_
  refine al_nil ?_
  refine ⟨i + 1, id, hif, by omega, Fit.of ⟨rfl, ?_, trivial⟩ ⟨rfl, ?_, by rw [← wrapS (by have := hf.blocks; omega)]; rfl, trivial⟩ rfl rfl⟩
  · show some (O.row 1 (((graphR f).take i).map rowD ++ [.sl 1 ([] ++ ints f.blocks[i][f.blocks[i].length - 1].to)])) = _
    rw [List.take_succ_eq_append_getElem (by rw [graph_len]; exact hif), List.map_append, hlast]; rfl
  · show A.row 88001 1 0 ((((graphR f).take i).map rowD).length + 1) = _
    rw [hlen]
theorem e89 : Enters Tryz.prog 89 := enters_of Tryz.func89 (by kernel_rfl) (by kernel_rfl)
set_option maxRecDepth 100000 in
set_option maxHeartbeats 4000000 in
theorem c89 (g : List (List Int)) (v : Int) (hg : g.length < 1000000) (hgl : ∀ l ∈ g, l.length < 1000000) : Ok Tryz.prog 89 [.dat none (.sl 1 (g.map rowD)), .v (.int .i64 v)] [] (.row 89001 1 0 (beforeR g v).length) [(89001, .row 1 (ints (beforeR g v)))] := by
  refine ok_of e89 Tryz.func89 rfl (by kernel_rfl) ?_
  intro cx hP hro hN hvk
  obtain ⟨P, ro, w0, Bin, N, R0, tk0, bl0, vk⟩ := cx
  subst hP hro hN
  have hvkd := vkd_of hvk
  refine aw_seq ?_
  refine aw_region ?_
  refine al_op rfl rfl rfl (opP_assign rfl (ev_const rfl)) ?_
  refine al_nil ?_
  refine aw_seq ?_
  refine aw_region ?_
  refine al_op rfl rfl rfl (opP_assign rfl (ev_const rfl)) ?_
  refine al_imp (imp_nilrow (k := 89001) (es := 1) (t := 5) ((hvk _).trans rfl) rfl) ?_
  refine al_nil ?_
  refine aw_seq ?_
  refine aw_seq ?_
  refine aw_region ?_
  refine al_op rfl rfl rfl (opP_assign rfl (ev_const rfl)) ?_
  refine al_nil ?_
  refine aw_block ?_
  refine aw_loop' (α := Nat) (fun i => [(0, .dat none (.sl 1 (g.map rowD))), (1, .v (.int .i64 v)), (5, .row 89001 1 0 (beforeN g v i).length), (6, .v (.int .i64 i))]) (fun i => [(89001, .row 1 (ints (beforeN g v i)))]) (fun i => i ≤ g.length) (fun i => g.length - i) 0 (Nat.zero_le _) id (Fit.of ⟨rfl, trivial⟩ ⟨rfl, rfl, rfl, rfl, trivial⟩ rfl rfl) ?_
  rintro i hi
  refine aw_seq ?_
  refine aw_seq ?_
  refine aw_region ?_
  refine al_op rfl rfl rfl (opP_move rfl (ev_tmp rfl)) ?_
  refine al_op rfl rfl rfl (opP_move rfl (ev_tmp rfl)) ?_
  refine al_op rfl rfl rfl (opP_len rfl u47 (ev_tmp rfl) (by first | exact lenA_ints | exact lenA_map | rfl)) ?_
  refine al_op rfl rfl rfl (opP_bin rfl (ev_tmp rfl) (ev_tmp rfl) rfl) ?_
  refine al_nil ?_
  refine aw_condS rfl (fun h1 => ?_) (fun h1 => ?_)
  · refine aw_exit ?_
    refine aw_seq ?_
    refine aw_region ?_
    refine al_op rfl rfl rfl (opP_move rfl (ev_tmp rfl)) ?_
    refine al_op rfl rfl rfl (opP_assign rfl (ev_tmp rfl)) ?_
    refine al_nil ?_
    refine aw_ret ?_
    have e : i = g.length := by simp at h1; omega
    subst e
    exact ret_id _ (.tmp rfl .nil) rfl ⟨rfl, trivial⟩ rfl rfl
  have hig : i < g.length := by simpa using h1
  have hsucc := beforeN_succ g v i
  have hgd : g.getD i [] = g[i] := by simp [hig]
  have hbl := beforeN_le g v i
  refine aw_skip ?_
  refine aw_seq ?_
  refine aw_block ?_
  refine aw_seq ?_
  refine aw_region ?_
  refine al_op rfl rfl rfl (opP_move rfl (ev_tmp rfl)) ?_
  refine al_op rfl rfl rfl (opP_move rfl (ev_tmp rfl)) ?_
  refine al_op rfl rfl rfl (opP_index_dat rfl u47 s22 (ev_tmp rfl) (ev_tmp rfl) (fun _ => Int.natCast_nonneg _) (fun _ => rows_get hig)) ?_
  refine al_op rfl rfl rfl (opP_load_pr rfl u22 rfl (ev_tmp rfl)) ?_
  refine al_op rfl rfl rfl (opP_move rfl (ev_tmp rfl)) ?_
  refine al_call (id) rfl rfl rfl (callOf_func rfl (.cons (ev_tmp rfl) (.cons (ev_tmp rfl) .nil))) (c145 g[i] v (hgl _ (List.getElem_mem hig))) (by repeat' (first | refine Vw.stDOf ?_ | refine Vw.ptOf rfl rfl rfl ?_ | refine Vw.prvOf ?_ | refine Vw.cloOf ?_ | constructor)) (fun _ h => absurd h (by simp)) rfl rfl rfl (fun _ h => absurd h (by simp)) ?_
  refine al_nil ?_
  refine aw_condS rfl (fun h2 => ?_) (fun h2 => ?_)
  · refine aw_skip ?_
    refine aw_region ?_
    refine al_op rfl rfl rfl (opP_move rfl (ev_tmp rfl)) ?_
    refine al_op rfl rfl rfl (opP_bin rfl (ev_tmp rfl) (ev_const rfl) rfl) ?_
    refine al_op rfl rfl rfl (opP_assign rfl (ev_tmp rfl)) ?_
    refine al_nil ?_
    rw [hgd] at hsucc
    rw [if_neg (by simpa using h2)] at hsucc
    refine ⟨i + 1, id, hig, by omega, Fit.of ⟨by rw [hsucc]; rfl, trivial⟩ ⟨rfl, rfl, by rw [hsucc]; rfl, by rw [← wrapS (by omega)]; rfl, trivial⟩ rfl rfl⟩
  refine aw_region ?_
  refine al_op rfl rfl rfl (opP_move rfl (ev_tmp rfl)) ?_
  refine al_op rfl rfl rfl (opP_move rfl (ev_tmp rfl)) ?_
  refine al_opc (k := 201) rfl rfl rfl ((hvk _).trans rfl) (opC_buildSlice (ds := [.int .i64 _]) rfl u22 s3 z3 rfl rfl (.cons (ev_tmp rfl) .nil) rfl rfl (.cons (.v _ rfl) .nil) rfl rfl rfl) ?_
  refine al_opc rfl rfl rfl ((hvk _).trans rfl) (opC_append rfl u22 s3 z3 rfl b3 (ev_tmp rfl) (ev_tmp rfl) (.row 89001 1 _ _ rfl (ints_len _).symm) (.row 201 1 _ _ rfl rfl) rfl rfl (by rw [ints_len]; simp; omega) rfl) ?_
  refine al_op rfl rfl rfl (opP_assign rfl (ev_tmp rfl)) ?_
  refine al_nil ?_
  refine aw_region ?_
  refine al_op rfl rfl rfl (opP_move rfl (ev_tmp rfl)) ?_
  refine al_op rfl rfl rfl (opP_bin rfl (ev_tmp rfl) (ev_const rfl) rfl) ?_
  refine al_op rfl rfl rfl (opP_assign rfl (ev_tmp rfl)) ?_
  refine al_nil ?_
  rw [hgd] at hsucc
  rw [if_pos h2] at hsucc
  refine ⟨i + 1, id, hig, by omega, Fit.of ⟨?_, trivial⟩ ⟨rfl, rfl, ?_, by rw [← wrapS (by omega)]; rfl, trivial⟩ rfl rfl⟩
  · rw [hsucc, show ints (beforeN g v i ++ [(i : Int)]) = ints (beforeN g v i) ++ [.int .i64 i] by simp [ints]]; rfl
  · show A.row 89001 1 0 ((ints (beforeN g v i)).length + 1) = _
    rw [hsucc, ints_len]; simp
end Go.AL
namespace Go.AL
open Go.Proofs
theorem u99 : Tryz.prog.underlying 99 = some Tryz.t99.desc := by kernel_rfl
theorem s99 : (Tryz.prog.info? 99).map (·.size) = some 1 := by kernel_rfl
theorem z99 : (Tryz.prog.info? 99).bind (·.zero) = Tryz.t99.zero := by kernel_rfl
theorem b99 : ((Tryz.prog.info? 99).map fun i => Nat.ble i.bytes 1000) = some true := by kernel_rfl
theorem e91 : Enters Tryz.prog 91 := enters_of Tryz.func91 (by kernel_rfl) (by kernel_rfl)
set_option maxRecDepth 100000 in
set_option maxHeartbeats 4000000 in
theorem c91 (g : List (List Int)) (w : Int) (hg : g.length < 1000000) (hgl : ∀ l ∈ g, l.length < 1000000) (hgv : ∀ l ∈ g, ∀ t ∈ l, 0 ≤ t ∧ t < g.length) (hn : 0 < g.length) : Ok Tryz.prog 91 [.dat none (.sl 1 (g.map rowD)), .v (.int .i64 w)] [] (.row 91001 1 0 g.length) [(91001, .row 1 (bools (reachedR g w)))] := by
  refine ok_of e91 Tryz.func91 rfl (by kernel_rfl) ?_
  intro cx hP hro hN hvk
  obtain ⟨P, ro, w0, Bin, N, R0, tk0, bl0, vk⟩ := cx
  subst hP hro hN
  have hvkd := vkd_of hvk
  refine aw_seq ?_
  refine aw_region ?_
  refine al_op rfl rfl rfl (opP_assign rfl (ev_const rfl)) ?_
  refine al_nil ?_
  refine aw_seq ?_
  refine aw_region ?_
  refine al_op rfl rfl rfl (opP_move rfl (ev_tmp rfl)) ?_
  refine al_op rfl rfl rfl (opP_len rfl u47 (ev_tmp rfl) (by first | exact lenA_ints | exact lenA_map | rfl)) ?_
  refine al_opc (k := 91001) rfl rfl rfl ((hvk _).trans rfl) (opC_makeSlice (d := .bool false) rfl u99 s4 z4 (.bool .nil) rfl b4 (ev_tmp rfl) (ev_tmp rfl) (fun _ => by omega)) ?_
  refine al_op rfl rfl rfl (opP_assign rfl (ev_tmp rfl)) ?_
  refine al_nil ?_
  refine aw_seq ?_
  refine aw_seq ?_
  refine aw_region ?_
  refine al_op rfl rfl rfl (opP_move rfl (ev_tmp rfl)) ?_
  refine al_op rfl rfl rfl (opP_bin rfl (ev_tmp rfl) (ev_const rfl) rfl) ?_
  refine al_nil ?_
  refine aw_cond rfl (fun h1 => ?_) (fun h1 => ?_)
  · refine aw_seq ?_
    refine aw_region ?_
    refine al_op rfl rfl rfl (opP_move rfl (ev_tmp rfl)) ?_
    refine al_op rfl rfl rfl (opP_assign rfl (ev_tmp rfl)) ?_
    refine al_nil ?_
    refine aw_ret ?_
    have e : reachedR g w = List.replicate g.length false := by simp at h1; simp [reachedR, h1]
    exact ret_id _ (.tmp rfl .nil) rfl ⟨by rw [e, bools, List.map_replicate]; rfl, trivial⟩ rfl rfl
  have hr : reachedR g w = roundsG g w g.length (firstG g) := by unfold reachedR; rw [if_neg (by simpa using h1)]
  refine aw_skip ?_
  refine aw_seq ?_
  refine aw_region ?_
  refine al_op rfl rfl rfl (opP_move rfl (ev_tmp rfl)) ?_
  refine al_op rfl rfl rfl (opP_index_row rfl u99 s4 (ev_tmp rfl) (ev_const rfl) (fun _ => Int.le_refl _) (fun _ => by show (0 : Int) < (g.length : Nat); omega)) ?_
  refine al_store_pe (x' := .bool true) (ds := [.bool _]) rfl rfl rfl s4 (ev_tmp rfl) (ev_const rfl) rfl rfl (.cons (.v _ rfl) .nil) rfl rfl rfl rfl (show (List.replicate g.length (D.bool false))[0]? = some (.bool false) from by rw [List.getElem?_replicate, if_pos hn]) rfl rfl ?_
  refine al_nil ?_
  refine aw_seq ?_
  refine aw_seq ?_
  refine aw_region ?_
  refine al_op rfl rfl rfl (opP_assign rfl (ev_const rfl)) ?_
  refine al_nil ?_
  refine aw_block ?_
  refine aw_loop' (α := Nat) (fun r => [(0, .dat none (.sl 1 (g.map rowD))), (1, .v (.int .i64 w)), (5, .row 91001 1 0 g.length), (6, .v (.int .i64 r))]) (fun r => [(91001, .row 1 (bools (roundsG g w r (firstG g))))]) (fun r => r ≤ g.length) (fun r => g.length - r) 0 (Nat.zero_le _) id (Fit.of ⟨by rw [roundsG, firstG, bools, List.map_set, List.map_replicate]; rfl, trivial⟩ ⟨rfl, rfl, rfl, rfl, trivial⟩ rfl rfl) ?_
  rintro r hrn
  refine aw_seq ?_
  refine aw_seq ?_
  refine aw_region ?_
  refine al_op rfl rfl rfl (opP_move rfl (ev_tmp rfl)) ?_
  refine al_op rfl rfl rfl (opP_move rfl (ev_tmp rfl)) ?_
  refine al_op rfl rfl rfl (opP_len rfl u47 (ev_tmp rfl) (by first | exact lenA_ints | exact lenA_map | rfl)) ?_
  refine al_op rfl rfl rfl (opP_bin rfl (ev_tmp rfl) (ev_tmp rfl) rfl) ?_
  refine al_nil ?_
  refine aw_condS rfl (fun h2 => ?_) (fun h2 => ?_)
  · refine aw_exit ?_
    refine aw_seq ?_
    refine aw_region ?_
    refine al_op rfl rfl rfl (opP_move rfl (ev_tmp rfl)) ?_
    refine al_op rfl rfl rfl (opP_assign rfl (ev_tmp rfl)) ?_
    refine al_nil ?_
    refine aw_ret ?_
    have e : r = g.length := by simp at h2; omega
    subst e
    exact ret_id _ (.tmp rfl .nil) rfl ⟨by rw [hr]; rfl, trivial⟩ rfl rfl
  have hrl : r < g.length := by simpa using h2
  refine aw_skip ?_
  refine aw_seq ?_
  refine aw_block ?_
  refine aw_seq ?_
  refine aw_region ?_
  refine al_op rfl rfl rfl (opP_assign rfl (ev_const rfl)) ?_
  refine al_nil ?_
  refine aw_block ?_
  refine aw_loop' (α := Nat) (fun b => [(0, .dat none (.sl 1 (g.map rowD))), (1, .v (.int .i64 w)), (5, .row 91001 1 0 g.length), (6, .v (.int .i64 r)), (7, .v (.int .i64 b))]) (fun b => [(91001, .row 1 (bools (partG g w b (roundsG g w r (firstG g)))))]) (fun b => b ≤ g.length) (fun b => g.length - b) 0 (Nat.zero_le _) id (Fit.of ⟨rfl, trivial⟩ ⟨rfl, rfl, rfl, rfl, rfl, trivial⟩ rfl rfl) ?_
  rintro b hbn
  refine aw_seq ?_
  refine aw_seq ?_
  refine aw_region ?_
  refine al_op rfl rfl rfl (opP_move rfl (ev_tmp rfl)) ?_
  refine al_op rfl rfl rfl (opP_move rfl (ev_tmp rfl)) ?_
  refine al_op rfl rfl rfl (opP_len rfl u47 (ev_tmp rfl) (by first | exact lenA_ints | exact lenA_map | rfl)) ?_
  refine al_op rfl rfl rfl (opP_bin rfl (ev_tmp rfl) (ev_tmp rfl) rfl) ?_
  refine al_nil ?_
  refine aw_condS rfl (fun h3 => ?_) (fun h3 => ?_)
  · refine aw_exit ?_
    refine aw_region ?_
    refine al_op rfl rfl rfl (opP_move rfl (ev_tmp rfl)) ?_
    refine al_op rfl rfl rfl (opP_bin rfl (ev_tmp rfl) (ev_const rfl) rfl) ?_
    refine al_op rfl rfl rfl (opP_assign rfl (ev_tmp rfl)) ?_
    refine al_nil ?_
    refine ⟨r + 1, id, hrl, by omega, Fit.of ⟨?_, trivial⟩ ⟨rfl, rfl, rfl, by rw [← wrapS (by omega)]; rfl, trivial⟩ rfl rfl⟩
    have e : b = g.length := by simp at h3; omega
    subst e; rfl
  have hbl : b < g.length := by simpa using h3
  refine aw_skip ?_
  refine aw_seq ?_
  refine aw_block ?_
  refine aw_seq ?_
  refine aw_region ?_
  refine al_op rfl rfl rfl (opP_assign rfl (ev_const rfl)) ?_
  refine al_nil ?_
  refine aw_block ?_
  refine aw_loop' (α := Nat) (fun i => [(0, .dat none (.sl 1 (g.map rowD))), (1, .v (.int .i64 w)), (5, .row 91001 1 0 g.length), (6, .v (.int .i64 r)), (7, .v (.int .i64 b)), (8, .v (.int .i64 i))]) (fun i => [(91001, .row 1 (bools (innerG g w (partG g w b (roundsG g w r (firstG g))) b i)))]) (fun i => i ≤ g[b].length) (fun i => g[b].length - i) 0 (Nat.zero_le _) id (Fit.of ⟨by simp only [innerG, List.take_zero, List.foldl_nil, ite_self]; rfl, trivial⟩ ⟨rfl, rfl, rfl, rfl, rfl, rfl, trivial⟩ rfl rfl) ?_
  rintro i hin
  have hlen : (innerG g w (partG g w b (roundsG g w r (firstG g))) b i).length = g.length := by rw [innerG_len, partG_len, roundsG_len, firstG_len]
  have hget : (innerG g w (partG g w b (roundsG g w r (firstG g))) b i).getD b false = (innerG g w (partG g w b (roundsG g w r (firstG g))) b i)[b]'(by omega) := by simp [hlen, hbl]
  have hgb := hgl _ (List.getElem_mem hbl)
  have hld := bools_get (l := innerG g w (partG g w b (roundsG g w r (firstG g))) b i) (i := b) (by omega)
  refine aw_seq ?_
  refine aw_seq ?_
  refine aw_region ?_
  refine al_op rfl rfl rfl (opP_move rfl (ev_tmp rfl)) ?_
  refine al_op rfl rfl rfl (opP_move rfl (ev_tmp rfl)) ?_
  refine al_op rfl rfl rfl (opP_move rfl (ev_tmp rfl)) ?_
  refine al_op rfl rfl rfl (opP_index_dat rfl u47 s22 (ev_tmp rfl) (ev_tmp rfl) (fun _ => Int.natCast_nonneg _) (fun _ => rows_get hbl)) ?_
  refine al_op rfl rfl rfl (opP_load_pr rfl u22 rfl (ev_tmp rfl)) ?_
  refine al_op rfl rfl rfl (opP_len rfl u22 (ev_tmp rfl) (by first | exact lenA_ints | exact lenA_map | rfl)) ?_
  refine al_op rfl rfl rfl (opP_bin rfl (ev_tmp rfl) (ev_tmp rfl) rfl) ?_
  refine al_op rfl rfl rfl (opP_move rfl (ev_tmp rfl)) ?_
  refine al_opg rfl rfl rfl rfl rfl rfl (opP_move rfl (ev_tmp rfl)) ?_
  refine al_opg rfl rfl rfl rfl rfl rfl (opP_move rfl (ev_tmp rfl)) ?_
  refine al_opg rfl rfl rfl rfl rfl rfl (opP_index_row rfl u99 s4 (ev_when rfl id) (ev_when rfl id) (fun _ => Int.natCast_nonneg _) (fun _ => by omega)) ?_
  refine al_opg rfl rfl rfl rfl rfl rfl (opP_load_pe rfl u4 rfl (ev_when rfl id) rfl (fun _ => hld) rfl) ?_
  refine al_op rfl rfl rfl (opP_and rfl (ev_tmp rfl) (ev_when rfl id)) ?_
  refine al_nil ?_
  refine aw_condS rfl (fun h4 => ?_) (fun h4 => ?_)
  · refine aw_exit ?_
    refine aw_region ?_
    refine al_op rfl rfl rfl (opP_move rfl (ev_tmp rfl)) ?_
    refine al_op rfl rfl rfl (opP_bin rfl (ev_tmp rfl) (ev_const rfl) rfl) ?_
    refine al_op rfl rfl rfl (opP_assign rfl (ev_tmp rfl)) ?_
    refine al_nil ?_
    refine ⟨b + 1, id, hbl, by omega, Fit.of ⟨?_, trivial⟩ ⟨rfl, rfl, rfl, rfl, by rw [← wrapS (by omega)]; rfl, trivial⟩ rfl rfl⟩
    have hend := innerG_end (w := w) (o := partG g w b (roundsG g w r (firstG g))) (i := i) hbl (by
      rw [hget]
      cases hb : (innerG g w (partG g w b (roundsG g w r (firstG g))) b i)[b] with
      | false => exact .inr rfl
      | true => rw [hb] at h4; simp at h4; exact .inl (by omega))
    rw [partG_succ, ← hend]; rfl
  have hil : i < g[b].length ∧ (innerG g w (partG g w b (roundsG g w r (firstG g))) b i)[b]'(by omega) = true := by simpa using h4
  have hsucc := innerG_succ (w := w) (innerG_keep (by rw [hget]; exact hil.2)) hbl hil.1
  have htv := hgv _ (List.getElem_mem hbl) _ (List.getElem_mem hil.1)
  have hst := bools_get (l := innerG g w (partG g w b (roundsG g w r (firstG g))) b i) (i := g[b][i].toNat) (by omega)
  refine aw_skip ?_
  refine aw_seq ?_
  refine aw_block ?_
  refine aw_seq ?_
  refine aw_region ?_
  refine al_op rfl rfl rfl (opP_move rfl (ev_tmp rfl)) ?_
  refine al_op rfl rfl rfl (opP_move rfl (ev_tmp rfl)) ?_
  refine al_op rfl rfl rfl (opP_index_dat rfl u47 s22 (ev_tmp rfl) (ev_tmp rfl) (fun _ => Int.natCast_nonneg _) (fun _ => rows_get hbl)) ?_
  refine al_op rfl rfl rfl (opP_load_pr rfl u22 rfl (ev_tmp rfl)) ?_
  refine al_op rfl rfl rfl (opP_move rfl (ev_tmp rfl)) ?_
  refine al_op rfl rfl rfl (opP_index_dat rfl u22 s3 (ev_tmp rfl) (ev_tmp rfl) (fun _ => Int.natCast_nonneg _) (fun _ => ints_get hil.1)) ?_
  refine al_op rfl rfl rfl (opP_load_pr rfl u3 rfl (ev_tmp rfl)) ?_
  refine al_op rfl rfl rfl (opP_move rfl (ev_tmp rfl)) ?_
  refine al_op rfl rfl rfl (opP_bin rfl (ev_tmp rfl) (ev_tmp rfl) rfl) ?_
  refine al_nil ?_
  refine aw_condS rfl (fun h5 => ?_) (fun h5 => ?_)
  · refine aw_skip ?_
    refine aw_region ?_
    refine al_op rfl rfl rfl (opP_move rfl (ev_tmp rfl)) ?_
    refine al_op rfl rfl rfl (opP_bin rfl (ev_tmp rfl) (ev_const rfl) rfl) ?_
    refine al_op rfl rfl rfl (opP_assign rfl (ev_tmp rfl)) ?_
    refine al_nil ?_
    refine ⟨i + 1, id, hil.1, by omega, Fit.of ⟨?_, trivial⟩ ⟨rfl, rfl, rfl, rfl, rfl, by rw [← wrapS (by omega)]; rfl, trivial⟩ rfl rfl⟩
    rw [hsucc, stepI, if_neg (by rw [h5]; simp)]; rfl
  refine aw_region ?_
  refine al_op rfl rfl rfl (opP_move rfl (ev_tmp rfl)) ?_
  refine al_op rfl rfl rfl (opP_move rfl (ev_tmp rfl)) ?_
  refine al_op rfl rfl rfl (opP_move rfl (ev_tmp rfl)) ?_
  refine al_op rfl rfl rfl (opP_index_dat rfl u47 s22 (ev_tmp rfl) (ev_tmp rfl) (fun _ => Int.natCast_nonneg _) (fun _ => rows_get hbl)) ?_
  refine al_op rfl rfl rfl (opP_load_pr rfl u22 rfl (ev_tmp rfl)) ?_
  refine al_op rfl rfl rfl (opP_move rfl (ev_tmp rfl)) ?_
  refine al_op rfl rfl rfl (opP_index_dat rfl u22 s3 (ev_tmp rfl) (ev_tmp rfl) (fun _ => Int.natCast_nonneg _) (fun _ => ints_get hil.1)) ?_
  refine al_op rfl rfl rfl (opP_load_pr rfl u3 rfl (ev_tmp rfl)) ?_
  refine al_op rfl rfl rfl (opP_index_row rfl u99 s4 (ev_tmp rfl) (ev_tmp rfl) (fun _ => htv.1) (fun _ => htv.2)) ?_
  refine al_store_pe (x' := .bool true) (ds := [.bool _]) rfl rfl rfl s4 (ev_tmp rfl) (ev_const rfl) rfl rfl (.cons (.v _ rfl) .nil) rfl rfl rfl rfl hst rfl rfl ?_
  refine al_nil ?_
  refine aw_region ?_
  refine al_op rfl rfl rfl (opP_move rfl (ev_tmp rfl)) ?_
  refine al_op rfl rfl rfl (opP_bin rfl (ev_tmp rfl) (ev_const rfl) rfl) ?_
  refine al_op rfl rfl rfl (opP_assign rfl (ev_tmp rfl)) ?_
  refine al_nil ?_
  refine ⟨i + 1, id, hil.1, by omega, Fit.of ⟨?_, trivial⟩ ⟨rfl, rfl, rfl, rfl, rfl, by rw [← wrapS (by omega)]; rfl, trivial⟩ rfl rfl⟩
  rw [hsucc, stepI, if_pos h5, ← bools_set]; rfl
end Go.AL
namespace Go.AL
open Go.Proofs
theorem e153 : Enters Tryz.prog 153 := enters_of Tryz.func153 (by kernel_rfl) (by kernel_rfl)
set_option maxRecDepth 100000 in
set_option maxHeartbeats 4000000 in
theorem c153 (g : List (List Int)) (a b : Int) (hg : GOk g) (hb : 0 ≤ b ∧ b < g.length) : Ok Tryz.prog 153 [.dat none (.sl 1 (g.map rowD)), .v (.int .i64 a), .v (.int .i64 b)] [] (.v (.bool (dominatesR g a b))) [] := by
  refine ok_of e153 Tryz.func153 rfl (by kernel_rfl) ?_
  intro cx hP hro hN hvk
  obtain ⟨P, ro, w0, Bin, N, R0, tk0, bl0, vk⟩ := cx
  subst hP hro hN
  have hvkd := vkd_of hvk
  have hbl : b.toNat < (reachedR g a).length := by rw [reachedR_len]; omega
  have hld := bools_get (l := reachedR g a) (i := b.toNat) hbl
  refine aw_seq ?_
  refine aw_region ?_
  refine al_op rfl rfl rfl (opP_assign rfl (ev_const rfl)) ?_
  refine al_nil ?_
  refine aw_seq ?_
  refine aw_region ?_
  refine al_op rfl rfl rfl (opP_move rfl (ev_tmp rfl)) ?_
  refine al_op rfl rfl rfl (opP_move rfl (ev_tmp rfl)) ?_
  refine al_op rfl rfl rfl (opP_bin rfl (ev_tmp rfl) (ev_tmp rfl) rfl) ?_
  refine al_op rfl rfl rfl (opP_move rfl (ev_tmp rfl)) ?_
  refine al_opg rfl rfl rfl rfl rfl rfl (opP_move rfl (ev_tmp rfl)) ?_
  refine al_opg rfl rfl rfl rfl rfl rfl (opP_move rfl (ev_tmp rfl)) ?_
  refine al_stepD1 rfl rfl ((hvk _).trans rfl) (stepD_callgR 201 rfl rfl rfl rfl (callOf_func rfl (.cons (ev_when rfl id) (.cons (ev_when rfl id) .nil))) (fun gd => c91 g a hg.len hg.row hg.ok hg.pos) (fun gd => (by repeat' (first | refine Vw.stDOf ?_ | refine Vw.ptOf rfl rfl rfl ?_ | refine Vw.prvOf ?_ | refine Vw.cloOf ?_ | constructor)))) ?_
  refine al_opg rfl rfl rfl rfl rfl rfl (opP_move rfl (ev_tmp rfl)) ?_
  refine al_opg rfl rfl rfl rfl rfl rfl (opP_index_row rfl u99 s4 (ev_when rfl id) (ev_when rfl id) (fun _ => hb.1) (fun _ => hb.2)) ?_
  refine al_opg rfl rfl rfl rfl rfl rfl (opP_load_pe rfl u4 rfl (ev_when rfl id) rfl (fun hgg => by rw [hgg]; exact hld) rfl) ?_
  refine al_opg rfl rfl rfl rfl rfl rfl (opP_not rfl (ev_when rfl id)) ?_
  refine al_op rfl rfl rfl (opP_or rfl (ev_tmp rfl) (ev_when rfl id)) ?_
  refine al_op rfl rfl rfl (opP_assign rfl (ev_tmp rfl)) ?_
  refine al_nil ?_
  refine aw_ret ?_
  exact ret_id ([.v (.bool _)]) (.tmp rfl .nil) (by simp [oneOf, dominatesR, hbl]) (by first | exact trivial | exact ⟨rfl, trivial⟩ | exact ⟨rfl, rfl, trivial⟩ | exact ⟨rfl, rfl, rfl, trivial⟩ | exact ⟨rfl, rfl, rfl, rfl, trivial⟩) rfl rfl
theorem e92 : Enters Tryz.prog 92 := enters_of Tryz.func92 (by kernel_rfl) (by kernel_rfl)
set_option maxRecDepth 100000 in
set_option maxHeartbeats 4000000 in
theorem c92 (f : Fn) (g : List (List Int)) (v block at' : Int) (hf : f.Fits) (hv : I64 v) (hg : GOk g) (hb : 0 ≤ block ∧ block < g.length) : Ok Tryz.prog 92 [.dat none (fnD f), .dat none (.sl 1 (g.map rowD)), .v (.int .i64 v), .v (.int .i64 block), .v (.int .i64 at')] [] (.v (.bool (thereR f g v block at'))) [] := by
  refine ok_of e92 Tryz.func92 rfl (by kernel_rfl) ?_
  intro cx hP hro hN hvk
  obtain ⟨P, ro, w0, Bin, N, R0, tk0, bl0, vk⟩ := cx
  subst hP hro hN
  have hvkd := vkd_of hvk
  refine aw_seq ?_
  refine aw_region ?_
  refine al_opc (k := 101) rfl rfl rfl ((hvk _).trans rfl) (opC_box rfl (ev_tmp rfl) rfl) ?_
  refine al_op rfl rfl rfl (opP_assign rfl (ev_const rfl)) ?_
  refine al_nil ?_
  refine aw_seq ?_
  refine aw_region ?_
  refine al_op rfl rfl rfl (opP_load_ptn rfl u27 rfl s27 (ev_tmp rfl) rfl rfl) ?_
  refine al_op rfl rfl rfl (opP_move rfl (ev_tmp rfl)) ?_
  refine al_call (id) rfl rfl rfl (callOf_func rfl (.cons (ev_tmp rfl) (.cons (ev_tmp rfl) .nil))) (c152 f v hf hv) (by repeat' (first | refine Vw.stDOf ?_ | refine Vw.ptOf rfl rfl rfl ?_ | refine Vw.prvOf ?_ | refine Vw.cloOf ?_ | constructor)) (fun _ h => absurd h (by simp)) rfl rfl rfl (fun _ h => absurd h (by simp)) ?_
  refine al_op rfl rfl rfl (opP_move rfl (ev_tmp rfl)) ?_
  refine al_op rfl rfl rfl (opP_extract rfl (ev_tmp rfl) rfl) ?_
  refine al_op rfl rfl rfl (opP_extract rfl (ev_tmp rfl) rfl) ?_
  refine al_op rfl rfl rfl (opP_assign rfl (ev_tmp rfl)) ?_
  refine al_op rfl rfl rfl (opP_assign rfl (ev_tmp rfl)) ?_
  refine al_nil ?_
  refine aw_seq ?_
  refine aw_seq ?_
  refine aw_region ?_
  refine al_op rfl rfl rfl (opP_move rfl (ev_tmp rfl)) ?_
  refine al_op rfl rfl rfl (opP_bin rfl (ev_tmp rfl) (ev_const rfl) rfl) ?_
  refine al_nil ?_
  refine aw_cond rfl (fun h1 => ?_) (fun h1 => ?_)
  · refine aw_seq ?_
    refine aw_region ?_
    refine al_op rfl rfl rfl (opP_assign rfl (ev_const rfl)) ?_
    refine al_nil ?_
    refine aw_ret ?_
    have e : thereR f g v block at' = true := by unfold thereR; rw [if_pos (by simpa using h1)]
    rw [e]; exact ret_id _ (.tmp rfl .nil) rfl trivial rfl rfl
  refine aw_skip ?_
  refine aw_seq ?_
  refine aw_seq ?_
  refine aw_region ?_
  refine al_op rfl rfl rfl (opP_move rfl (ev_tmp rfl)) ?_
  refine al_op rfl rfl rfl (opP_move rfl (ev_tmp rfl)) ?_
  refine al_op rfl rfl rfl (opP_bin rfl (ev_tmp rfl) (ev_tmp rfl) rfl) ?_
  refine al_nil ?_
  refine aw_condS rfl (fun h2 => ?_) (fun h2 => ?_)
  · refine aw_skip ?_
    refine aw_seq ?_
    refine aw_region ?_
    refine al_op rfl rfl rfl (opP_move rfl (ev_tmp rfl)) ?_
    refine al_op rfl rfl rfl (opP_move rfl (ev_tmp rfl)) ?_
    refine al_op rfl rfl rfl (opP_move rfl (ev_tmp rfl)) ?_
    refine al_call (id) rfl rfl rfl (callOf_func rfl (.cons (ev_tmp rfl) (.cons (ev_tmp rfl) (.cons (ev_tmp rfl) .nil)))) (c153 g (whereR f v).1 block hg hb) (by repeat' (first | refine Vw.stDOf ?_ | refine Vw.ptOf rfl rfl rfl ?_ | refine Vw.prvOf ?_ | refine Vw.cloOf ?_ | constructor)) (fun _ h => absurd h (by simp)) rfl rfl rfl (fun _ h => absurd h (by simp)) ?_
    refine al_op rfl rfl rfl (opP_assign rfl (ev_tmp rfl)) ?_
    refine al_nil ?_
    refine aw_ret ?_
    have e : thereR f g v block at' = dominatesR g (whereR f v).1 block := by unfold thereR; rw [if_neg (by simpa using h1), if_neg (by rw [h2]; simp)]
    rw [e]; exact ret_id _ (.tmp rfl .nil) rfl trivial rfl rfl
  refine aw_seq ?_
  refine aw_region ?_
  refine al_op rfl rfl rfl (opP_move rfl (ev_tmp rfl)) ?_
  refine al_op rfl rfl rfl (opP_bin rfl (ev_tmp rfl) (ev_const rfl) rfl) ?_
  refine al_op rfl rfl rfl (opP_move rfl (ev_tmp rfl)) ?_
  refine al_opg rfl rfl rfl rfl rfl rfl (opP_move rfl (ev_tmp rfl)) ?_
  refine al_opg rfl rfl rfl rfl rfl rfl (opP_move rfl (ev_tmp rfl)) ?_
  refine al_opg rfl rfl rfl rfl rfl rfl (opP_bin rfl (ev_when rfl id) (ev_when rfl id) rfl) ?_
  refine al_op rfl rfl rfl (opP_or rfl (ev_tmp rfl) (ev_when rfl id)) ?_
  refine al_op rfl rfl rfl (opP_assign rfl (ev_tmp rfl)) ?_
  refine al_nil ?_
  refine aw_ret ?_
  have e : thereR f g v block at' = (decide (at' < 0) || decide ((whereR f v).2 < at')) := by unfold thereR; rw [if_neg (by simpa using h1), if_pos h2]
  rw [e]; exact ret_id _ (.tmp rfl .nil) rfl trivial rfl rfl
end Go.AL
namespace Go.AL
open Go.Proofs
theorem e43 : Enters Tryz.prog 43 := enters_of Tryz.func43 (by kernel_rfl) (by kernel_rfl)
set_option maxRecDepth 100000 in
set_option maxHeartbeats 4000000 in
theorem c43 (f : Fn) (x : Inst) (hx : x.Fits) : Ok Tryz.prog 43 [.dat none (fnD f), .dat none (instD x)] [] (.v (.bool (argumentR f x))) [] := by
  refine ok_of e43 Tryz.func43 rfl (by kernel_rfl) ?_
  intro cx hP hro hN hvk
  obtain ⟨P, ro, w0, Bin, N, R0, tk0, bl0, vk⟩ := cx
  subst hP hro hN
  have hvkd := vkd_of hvk
  refine aw_seq ?_
  refine aw_region ?_
  refine al_opc (k := 101) rfl rfl rfl ((hvk _).trans rfl) (opC_box rfl (ev_tmp rfl) rfl) ?_
  refine al_opc (k := 102) rfl rfl rfl ((hvk _).trans rfl) (opC_box rfl (ev_tmp rfl) rfl) ?_
  refine al_op rfl rfl rfl (opP_assign rfl (ev_const rfl)) ?_
  refine al_nil ?_
  refine aw_seq ?_
  refine aw_region ?_
  refine al_op rfl rfl rfl (opP_load_ptn rfl u27 rfl s27 (ev_tmp rfl) rfl rfl) ?_
  refine al_op rfl rfl rfl (opP_load_ptn rfl u38 rfl s38 (ev_tmp rfl) rfl rfl) ?_
  refine al_call (id) rfl rfl rfl (callOf_func rfl (.cons (ev_tmp rfl) (.cons (ev_tmp rfl) .nil))) (c86 f x hx) (by repeat' (first | refine Vw.stDOf ?_ | refine Vw.ptOf rfl rfl rfl ?_ | refine Vw.prvOf ?_ | refine Vw.cloOf ?_ | constructor)) (fun _ h => absurd h (by simp)) rfl rfl rfl (fun _ h => absurd h (by simp)) ?_
  refine al_opc (k := 103) rfl rfl rfl ((hvk _).trans rfl) (opC_alloc rfl z116) ?_
  refine al_store_pt rfl rfl rfl s116 (ev_tmp rfl) (ev_tmp rfl) rfl rfl rfl rfl rfl rfl ?_
  refine al_nil ?_
  refine aw_seq ?_
  refine aw_seq ?_
  refine aw_region ?_
  refine al_op rfl rfl rfl (opP_fieldAddr rfl (ev_tmp rfl) u116 rfl rfl s4 rfl) ?_
  refine al_op rfl rfl rfl (opP_load_pt rfl u4 rfl (ev_tmp rfl) rfl rfl) ?_
  refine al_op rfl rfl rfl (opP_not rfl (ev_tmp rfl)) ?_
  refine al_nil ?_
  refine aw_cond rfl (fun h1 => ?_) (fun h1 => ?_)
  · refine aw_seq ?_
    refine aw_region ?_
    refine al_op rfl rfl rfl (opP_assign rfl (ev_const rfl)) ?_
    refine al_nil ?_
    refine aw_ret ?_
    have e : argumentR f x = false := by unfold argumentR; simp at h1; simp [h1]
    rw [e]; exact ret_id _ (.tmp rfl .nil) rfl trivial rfl rfl
  refine aw_skip ?_
  refine aw_seq ?_
  refine aw_seq ?_
  refine aw_region ?_
  refine al_op rfl rfl rfl (opP_fieldAddr rfl (ev_tmp rfl) u116 rfl rfl s3 rfl) ?_
  refine al_op rfl rfl rfl (opP_load_pt rfl u3 rfl (ev_tmp rfl) rfl rfl) ?_
  refine al_op rfl rfl rfl (opP_bin rfl (ev_tmp rfl) (ev_const rfl) rfl) ?_
  refine al_op rfl rfl rfl (opP_move rfl (ev_tmp rfl)) ?_
  refine al_opg rfl rfl rfl rfl rfl rfl (opP_fieldAddr rfl (ev_tmp rfl) u38 rfl rfl s22 rfl) ?_
  refine al_opg rfl rfl rfl rfl rfl rfl (opP_load_pt rfl u22 rfl (ev_when rfl id) rfl rfl) ?_
  refine al_opg rfl rfl rfl rfl rfl rfl (opP_len rfl u22 (ev_when rfl id) (by first | exact lenA_ints | exact lenA_map | rfl)) ?_
  refine al_opg rfl rfl rfl rfl rfl rfl (opP_fieldAddr rfl (ev_tmp rfl) u116 rfl rfl s3 rfl) ?_
  refine al_opg rfl rfl rfl rfl rfl rfl (opP_load_pt rfl u3 rfl (ev_when rfl id) rfl rfl) ?_
  refine al_opg rfl rfl rfl rfl rfl rfl (opP_bin rfl (ev_when rfl id) (ev_when rfl id) rfl) ?_
  refine al_op rfl rfl rfl (opP_and rfl (ev_tmp rfl) (ev_when rfl id)) ?_
  refine al_op rfl rfl rfl (opP_move rfl (ev_tmp rfl)) ?_
  refine al_opg rfl rfl rfl rfl rfl rfl (opP_fieldAddr rfl (ev_tmp rfl) u116 rfl rfl s3 rfl) ?_
  refine al_opg rfl rfl rfl rfl rfl rfl (opP_load_pt rfl u3 rfl (ev_when rfl id) rfl rfl) ?_
  refine al_opg rfl rfl rfl rfl rfl rfl (opP_bin rfl (ev_when rfl id) (ev_const rfl) rfl) ?_
  refine al_opg rfl rfl rfl rfl rfl rfl (opP_move rfl (ev_when rfl id)) ?_
  refine al_opg rfl rfl rfl rfl rfl rfl (opP_fieldAddr rfl (ev_tmp rfl) u38 rfl rfl s22 rfl) ?_
  refine al_opg rfl rfl rfl rfl rfl rfl (opP_load_pt rfl u22 rfl (ev_when rfl id) rfl rfl) ?_
  refine al_opg rfl rfl rfl rfl rfl rfl (opP_len rfl u22 (ev_when rfl id) (by first | exact lenA_ints | exact lenA_map | rfl)) ?_
  refine al_opg rfl rfl rfl rfl rfl rfl (opP_fieldAddr rfl (ev_tmp rfl) u38 rfl rfl s22 rfl) ?_
  refine al_opg rfl rfl rfl rfl rfl rfl (opP_load_pt rfl u22 rfl (ev_when rfl id) rfl rfl) ?_
  refine al_opg rfl rfl rfl rfl rfl rfl (opP_len rfl u22 (ev_when rfl id) (by first | exact lenA_ints | exact lenA_map | rfl)) ?_
  refine al_opg rfl rfl rfl rfl rfl rfl (opP_bin rfl (ev_when rfl id) (ev_when rfl id) rfl) ?_
  refine al_opg rfl rfl rfl rfl rfl rfl (opP_and rfl (ev_when rfl id) (ev_when rfl id)) ?_
  refine al_op rfl rfl rfl (opP_or rfl (ev_tmp rfl) (ev_when rfl id)) ?_
  refine al_op rfl rfl rfl (opP_move rfl (ev_tmp rfl)) ?_
  refine al_opg rfl rfl rfl rfl rfl rfl (opP_fieldAddr rfl (ev_tmp rfl) u116 rfl rfl s3 rfl) ?_
  refine al_opg rfl rfl rfl rfl rfl rfl (opP_load_pt rfl u3 rfl (ev_when rfl id) rfl rfl) ?_
  refine al_opg rfl rfl rfl rfl rfl rfl (opP_bin rfl (ev_when rfl id) (ev_const rfl) rfl) ?_
  refine al_opg rfl rfl rfl rfl rfl rfl (opP_move rfl (ev_when rfl id)) ?_
  refine al_opg rfl rfl rfl rfl rfl rfl (opP_fieldAddr rfl (ev_tmp rfl) u38 rfl rfl s22 rfl) ?_
  refine al_opg rfl rfl rfl rfl rfl rfl (opP_load_pt rfl u22 rfl (ev_when rfl id) rfl rfl) ?_
  refine al_opg rfl rfl rfl rfl rfl rfl (opP_len rfl u22 (ev_when rfl id) (by first | exact lenA_ints | exact lenA_map | rfl)) ?_
  refine al_opg rfl rfl rfl rfl rfl rfl (opP_fieldAddr rfl (ev_tmp rfl) u116 rfl rfl s3 rfl) ?_
  refine al_opg rfl rfl rfl rfl rfl rfl (opP_load_pt rfl u3 rfl (ev_when rfl id) rfl rfl) ?_
  refine al_opg rfl rfl rfl rfl rfl rfl (opP_bin rfl (ev_when rfl id) (ev_when rfl id) rfl) ?_
  refine al_opg rfl rfl rfl rfl rfl rfl (opP_and rfl (ev_when rfl id) (ev_when rfl id)) ?_
  refine al_op rfl rfl rfl (opP_or rfl (ev_tmp rfl) (ev_when rfl id)) ?_
  refine al_nil ?_
  refine aw_cond rfl (fun h2 => ?_) (fun h2 => ?_)
  · refine aw_seq ?_
    refine aw_region ?_
    refine al_op rfl rfl rfl (opP_assign rfl (ev_const rfl)) ?_
    refine al_nil ?_
    refine aw_ret ?_
    have e : argumentR f x = false := by unfold argumentR; rw [show countBad f x = true from h2]; simp
    rw [e]; exact ret_id _ (.tmp rfl .nil) rfl trivial rfl rfl
  have hcb : countBad f x = false := h2
  have hto := hx.to
  refine aw_skip ?_
  refine aw_seq ?_
  refine aw_seq ?_
  refine aw_region ?_
  refine al_op rfl rfl rfl (opP_assign rfl (ev_const rfl)) ?_
  refine al_nil ?_
  refine aw_block ?_
  refine aw_loop' (α := Nat) (fun i => [(2, .pt 101 0), (3, .pt 102 0), (6, .v (.int .i64 i))]) (fun i => [(101, .var [.dat none (.sl 1 (ints f.params)), .v (.int .i64 f.ret), .dat none (.sl 1 (ints f.slots)), .dat none (.sl 1 (f.blocks.map instsD))]), (102, .var [.v (.int .i64 x.op), .v (.int .i64 x.w), .v (.int .i64 x.fl), .dat none (.sl 1 (ints x.args)), .v (.int .u32 x.imm), .dat none (.sl 1 (ints x.to))])]) (fun i => i ≤ x.to.length ∧ (x.to.take i).any (toBad f) = false) (fun i => x.to.length - i) 0 ⟨Nat.zero_le _, rfl⟩ id (Fit.of ⟨rfl, rfl, trivial⟩ ⟨rfl, rfl, rfl, trivial⟩ rfl rfl) ?_
  rintro i ⟨hi, hno⟩
  refine aw_seq ?_
  refine aw_seq ?_
  refine aw_region ?_
  refine al_op rfl rfl rfl (opP_move rfl (ev_tmp rfl)) ?_
  refine al_op rfl rfl rfl (opP_fieldAddr rfl (ev_tmp rfl) u38 rfl rfl s22 rfl) ?_
  refine al_op rfl rfl rfl (opP_load_pt rfl u22 rfl (ev_tmp rfl) rfl rfl) ?_
  refine al_op rfl rfl rfl (opP_len rfl u22 (ev_tmp rfl) (by first | exact lenA_ints | exact lenA_map | rfl)) ?_
  refine al_op rfl rfl rfl (opP_bin rfl (ev_tmp rfl) (ev_tmp rfl) rfl) ?_
  refine al_nil ?_
  refine aw_condS rfl (fun h3 => ?_) (fun h3 => ?_)
  · refine aw_exit ?_
    refine aw_seq ?_
    refine aw_draw mixed ?_
    apply ad_phase' [⟨0, 75, _, [], []⟩, ⟨1, 76, _, [0], []⟩, ⟨2, 77, _, [0, 1], []⟩, ⟨3, 78, _, [0, 1, 2], []⟩, ⟨4, 79, _, [0, 1, 2, 3], []⟩, ⟨5, 80, _, [0, 1, 2, 3, 4], []⟩, ⟨6, 81, _, [0, 1, 2, 3, 4, 5], []⟩, ⟨7, 82, _, [0, 1, 2, 3, 4, 5, 6], []⟩, ⟨8, 83, _, [0, 1, 2, 3], []⟩, ⟨9, 84, _, [0, 1, 2, 3, 8], []⟩, ⟨10, 85, _, [0, 1, 2, 3, 8, 9], []⟩, ⟨11, 86, _, [0, 1, 2, 3, 8, 9, 10], []⟩, ⟨12, 87, _, [0, 1, 2, 3, 4, 5, 6, 7, 8, 9, 10, 11], []⟩, ⟨13, 88, _, [0, 1, 2, 3, 4, 5, 6, 7, 8, 9, 10, 11, 12], []⟩, ⟨14, 4, _, [0, 1, 2, 3, 4, 5, 6, 7, 8, 9, 10, 11, 12, 13], []⟩] [] (fuelT := 0)
    · skip
      refine .cons rfl (stepD_op rfl (opP_fieldAddr rfl (ev_tmp rfl) u38 rfl rfl s3 rfl)) ?_
      refine .cons rfl (stepD_op rfl (opP_load_pt rfl u3 rfl (ev_tmp rfl) rfl rfl)) ?_
      refine .cons rfl (stepD_op rfl (opP_bin rfl (ev_tmp rfl) (ev_const rfl) rfl)) ?_
      refine .cons rfl (stepD_op rfl (opP_move rfl (ev_tmp rfl))) ?_
      refine .cons rfl (stepD_opg rfl rfl rfl rfl (opP_fieldAddr rfl (ev_tmp rfl) u38 rfl rfl s22 rfl)) ?_
      refine .cons rfl (stepD_opg rfl rfl rfl rfl (opP_load_pt rfl u22 rfl (ev_when rfl id) rfl rfl)) ?_
      refine .cons rfl (stepD_opg rfl rfl rfl rfl (opP_index_dat rfl u22 s3 (ev_when rfl id) (ev_const rfl) (fun _ => Int.le_refl _) (fun gd => ints_getD (i := 0) (by have := branch_to hcb (by simpa using gd); omega)))) ?_
      refine .cons rfl (stepD_opg rfl rfl rfl rfl (opP_load_pr rfl u3 rfl (ev_when rfl id))) ?_
      refine .cons rfl (stepD_opg rfl rfl rfl rfl (opP_fieldAddr rfl (ev_tmp rfl) u38 rfl rfl s22 rfl)) ?_
      refine .cons rfl (stepD_opg rfl rfl rfl rfl (opP_load_pt rfl u22 rfl (ev_when rfl id) rfl rfl)) ?_
      refine .cons rfl (stepD_opg rfl rfl rfl rfl (opP_index_dat rfl u22 s3 (ev_when rfl id) (ev_const rfl) (fun _ => by decide) (fun gd => ints_getD (i := 1) (by have := branch_to hcb (by simpa using gd); omega)))) ?_
      refine .cons rfl (stepD_opg rfl rfl rfl rfl (opP_load_pr rfl u3 rfl (ev_when rfl id))) ?_
      refine .cons rfl (stepD_opg rfl rfl rfl rfl (opP_bin rfl (ev_when rfl id) (ev_when rfl id) rfl)) ?_
      refine .cons rfl (stepD_op rfl (opP_or rfl (ev_tmp rfl) (ev_when rfl id))) ?_
      refine .cons rfl (stepD_op rfl (opP_assign rfl (ev_tmp rfl))) ?_
      exact .nil
    · exact .no rfl (.no rfl (.no rfl (.no rfl (.no rfl (.no rfl (.no rfl (.no rfl (.no rfl (.no rfl (.no rfl (.no rfl (.no rfl (.no rfl (.no rfl (.nil)))))))))))))))
    · rfl
    · rfl
    · rfl
    · rfl
    · exact fun c s h => h
    · exact hvkd _ rfl
    · rfl
    refine ad_done rfl ?_
    refine aw_ret ?_
    have e : i = x.to.length := by simp at h3; omega
    subst e
    rw [List.take_length] at hno
    exact ret_id [.v (.bool _)] (.tmp rfl .nil) (by simp at h1; simp [oneOf, argumentR, h1, hcb, hno]) trivial rfl rfl
  have hil : i < x.to.length := by simpa using h3
  refine aw_skip ?_
  refine aw_seq ?_
  refine aw_block ?_
  refine aw_seq ?_
  refine aw_draw mixed ?_
  apply ad_phase' [⟨0, 58, _, [], []⟩, ⟨1, 59, _, [0], []⟩, ⟨2, 60, _, [], []⟩, ⟨3, 61, _, [0, 1, 2], []⟩, ⟨4, 62, _, [0, 1, 2, 3], []⟩, ⟨5, 63, _, [0, 1, 2, 3, 4], []⟩, ⟨6, 64, _, [0, 1, 2, 3, 4, 5], []⟩, ⟨7, 65, _, [0, 1, 2, 3, 4, 5, 6], []⟩, ⟨8, 66, _, [0, 1, 2, 3, 4, 5, 6, 7], []⟩, ⟨9, 67, _, [0, 1, 2, 3, 4, 5, 6], []⟩, ⟨10, 68, _, [0, 1, 2, 3, 4, 5, 6, 7, 8, 9], []⟩, ⟨11, 69, _, [0, 1, 2, 3, 4, 5, 6, 7, 8, 9, 10], []⟩, ⟨12, 70, _, [0, 1, 2, 3, 4, 5, 6], []⟩, ⟨13, 71, _, [0, 1, 2, 3, 4, 5, 6, 12], []⟩, ⟨14, 72, _, [0, 1, 2, 3, 4, 5, 6, 12, 13], []⟩, ⟨15, 73, _, [0, 1, 2, 3, 4, 5, 6, 7, 8, 9, 10, 11, 12, 13, 14], []⟩, ⟨16, 74, _, [0, 1, 2, 3, 4, 5, 6, 7, 8, 9, 10, 11, 12, 13, 14, 15], []⟩] [] (fuelT := 0)
  · skip
    refine .cons rfl (stepD_op rfl (opP_fieldAddr rfl (ev_tmp rfl) u38 rfl rfl s22 rfl)) ?_
    refine .cons rfl (stepD_op rfl (opP_load_pt rfl u22 rfl (ev_tmp rfl) rfl rfl)) ?_
    refine .cons rfl (stepD_op rfl (opP_move rfl (ev_tmp rfl))) ?_
    refine .cons rfl (stepD_op rfl (opP_index_dat rfl u22 s3 (ev_tmp rfl) (ev_tmp rfl) (fun _ => Int.natCast_nonneg _) (fun _ => ints_get hil))) ?_
    refine .cons rfl (stepD_op rfl (opP_load_pr rfl u3 rfl (ev_tmp rfl))) ?_
    refine .cons rfl (stepD_op rfl (opP_bin rfl (ev_tmp rfl) (ev_const rfl) rfl)) ?_
    refine .cons rfl (stepD_op rfl (opP_move rfl (ev_tmp rfl))) ?_
    refine .cons rfl (stepD_opg rfl rfl rfl rfl (opP_fieldAddr rfl (ev_tmp rfl) u38 rfl rfl s22 rfl)) ?_
    refine .cons rfl (stepD_opg rfl rfl rfl rfl (opP_load_pt rfl u22 rfl (ev_when rfl id) rfl rfl)) ?_
    refine .cons rfl (stepD_opg rfl rfl rfl rfl (opP_move rfl (ev_tmp rfl))) ?_
    refine .cons rfl (stepD_opg rfl rfl rfl rfl (opP_index_dat rfl u22 s3 (ev_when rfl id) (ev_when rfl id) (fun _ => Int.natCast_nonneg _) (fun _ => ints_get hil))) ?_
    refine .cons rfl (stepD_opg rfl rfl rfl rfl (opP_load_pr rfl u3 rfl (ev_when rfl id))) ?_
    refine .cons rfl (stepD_opg rfl rfl rfl rfl (opP_fieldAddr rfl (ev_tmp rfl) u27 rfl rfl s25 rfl)) ?_
    refine .cons rfl (stepD_opg rfl rfl rfl rfl (opP_load_pt rfl u25 rfl (ev_when rfl id) rfl rfl)) ?_
    refine .cons rfl (stepD_opg rfl rfl rfl rfl (opP_len rfl u25 (ev_when rfl id) (by first | exact lenA_ints | exact lenA_map | rfl))) ?_
    refine .cons rfl (stepD_opg rfl rfl rfl rfl (opP_bin rfl (ev_when rfl id) (ev_when rfl id) rfl)) ?_
    refine .cons rfl (stepD_op rfl (opP_or rfl (ev_tmp rfl) (ev_when rfl id))) ?_
    exact .nil
  · exact .no rfl (.no rfl (.no rfl (.no rfl (.no rfl (.no rfl (.no rfl (.no rfl (.no rfl (.no rfl (.no rfl (.no rfl (.no rfl (.no rfl (.no rfl (.no rfl (.no rfl (.nil)))))))))))))))))
  · rfl
  · rfl
  · rfl
  · rfl
  · exact fun c s h => h
  · exact hvkd _ rfl
  · rfl
  refine ad_done rfl ?_
  refine aw_condS rfl (fun h4 => ?_) (fun h4 => ?_)
  · refine aw_skip ?_
    refine aw_region ?_
    refine al_op rfl rfl rfl (opP_move rfl (ev_tmp rfl)) ?_
    refine al_op rfl rfl rfl (opP_bin rfl (ev_tmp rfl) (ev_const rfl) rfl) ?_
    refine al_op rfl rfl rfl (opP_assign rfl (ev_tmp rfl)) ?_
    refine al_nil ?_
    refine ⟨i + 1, id, ⟨hil, ?_⟩, by omega, Fit.of ⟨rfl, rfl, trivial⟩ ⟨rfl, rfl, by rw [← wrapS (by omega)]; rfl, trivial⟩ rfl rfl⟩
    rw [List.take_succ_eq_append_getElem hil, List.any_append, hno]; simpa [toBad] using h4
  refine aw_seq ?_
  refine aw_region ?_
  refine al_op rfl rfl rfl (opP_assign rfl (ev_const rfl)) ?_
  refine al_nil ?_
  refine aw_ret ?_
  have e : argumentR f x = false := by
    have : x.to.any (toBad f) = true := List.any_eq_true.2 ⟨x.to[i], List.getElem_mem hil, h4⟩
    unfold argumentR; simp [this]
  rw [e]; exact ret_id _ (.tmp rfl .nil) rfl trivial rfl rfl
end Go.AL
namespace Go.AL
open Go.Proofs
theorem e45 : Enters Tryz.prog 45 := enters_of Tryz.func45 (by kernel_rfl) (by kernel_rfl)
set_option maxRecDepth 100000 in
set_option maxHeartbeats 4000000 in
theorem c45 (f : Fn) (x : Inst) (hf : f.Fits) (hx : x.Fits) (ha : argumentR f x = true) : Ok Tryz.prog 45 [.dat none (fnD f), .dat none (instD x)] [] (.v (.bool (typedR f x))) [] := by
  refine ok_of e45 Tryz.func45 rfl (by kernel_rfl) ?_
  intro cx hP hro hN hvk
  obtain ⟨P, ro, w0, Bin, N, R0, tk0, bl0, vk⟩ := cx
  subst hP hro hN
  have hvkd := vkd_of hvk
  refine aw_seq ?_
  refine aw_region ?_
  refine al_opc (k := 101) rfl rfl rfl ((hvk _).trans rfl) (opC_box rfl (ev_tmp rfl) rfl) ?_
  refine al_opc (k := 102) rfl rfl rfl ((hvk _).trans rfl) (opC_box rfl (ev_tmp rfl) rfl) ?_
  refine al_op rfl rfl rfl (opP_assign rfl (ev_const rfl)) ?_
  refine al_nil ?_
  refine aw_seq ?_
  refine aw_region ?_
  refine al_op rfl rfl rfl (opP_assign rfl (ev_const rfl)) ?_
  refine al_imp (imp_nilrow (k := 45001) (es := 1) (t := 5) ((hvk _).trans rfl) rfl) ?_
  refine al_nil ?_
  refine aw_seq ?_
  refine aw_seq ?_
  refine aw_region ?_
  refine al_op rfl rfl rfl (opP_assign rfl (ev_const rfl)) ?_
  refine al_nil ?_
  refine aw_block ?_
  refine aw_loop' (α := Nat) (fun i => [(2, .pt 101 0), (3, .pt 102 0), (5, .row 45001 1 0 i), (6, .v (.int .i64 i))]) (fun i => [(101, .var [.dat none (.sl 1 (ints f.params)), .v (.int .i64 f.ret), .dat none (.sl 1 (ints f.slots)), .dat none (.sl 1 (f.blocks.map instsD))]), (102, .var [.v (.int .i64 x.op), .v (.int .i64 x.w), .v (.int .i64 x.fl), .dat none (.sl 1 (ints x.args)), .v (.int .u32 x.imm), .dat none (.sl 1 (ints x.to))]), (45001, .row 1 (ints ((x.args.take i).map (kindR f))))]) (fun i => i ≤ x.args.length ∧ ((x.args.take i).map (kindR f)).any (fun n => decide (n < 0)) = false) (fun i => x.args.length - i) 0 ⟨Nat.zero_le _, rfl⟩ id (Fit.of ⟨rfl, rfl, rfl, trivial⟩ ⟨rfl, rfl, rfl, rfl, trivial⟩ rfl rfl) ?_
  rintro i ⟨hi, hno⟩
  refine aw_seq ?_
  refine aw_seq ?_
  refine aw_region ?_
  refine al_op rfl rfl rfl (opP_move rfl (ev_tmp rfl)) ?_
  refine al_op rfl rfl rfl (opP_fieldAddr rfl (ev_tmp rfl) u38 rfl rfl s22 rfl) ?_
  refine al_op rfl rfl rfl (opP_load_pt rfl u22 rfl (ev_tmp rfl) rfl rfl) ?_
  refine al_op rfl rfl rfl (opP_len rfl u22 (ev_tmp rfl) (by first | exact lenA_ints | exact lenA_map | rfl)) ?_
  refine al_op rfl rfl rfl (opP_bin rfl (ev_tmp rfl) (ev_tmp rfl) rfl) ?_
  refine al_nil ?_
  refine aw_cond rfl (fun h1 => ?_) (fun h1 => ?_)
  · have hil : i < x.args.length := by simpa using h1
    have hxa := hx.args
    have hlen : (ints ((x.args.take i).map (kindR f))).length = i := by simp [ints_len]; omega
    have hsucc : (x.args.take (i + 1)).map (kindR f) = (x.args.take i).map (kindR f) ++ [kindR f x.args[i]] := by rw [List.take_succ_eq_append_getElem hil, List.map_append]; rfl
    have hlast : (ints ((x.args.take i).map (kindR f)) ++ [.int .i64 (kindR f x.args[i])])[0 + i]? = some (.int .i64 (kindR f x.args[i])) := by rw [Nat.zero_add, List.getElem?_append_right (by omega), hlen]; simp
    refine aw_skip ?_
    refine aw_seq ?_
    refine aw_block ?_
    refine aw_seq ?_
    refine aw_draw mixed ?_
    apply ad_phase' [⟨0, 15, _, [], []⟩, ⟨1, 16, _, [], []⟩, ⟨2, 17, _, [], []⟩, ⟨3, 18, _, [2], []⟩, ⟨4, 19, _, [], []⟩, ⟨5, 20, _, [2, 3, 4], []⟩, ⟨6, 21, _, [2, 3, 4, 5], []⟩, ⟨7, 22, _, [1, 2, 3, 4, 5, 6], []⟩, ⟨8, 23, _, [1, 2, 3, 4, 5, 6, 7], [(201, .row 1 [.int .i64 _])]⟩] [] (fuelT := 2)
    · skip
      refine .cons rfl (stepD_op rfl (opP_move rfl (ev_tmp rfl))) ?_
      refine .cons rfl (stepD_op rfl (opP_load_ptn (cs := [.dat none (.sl 1 (ints f.params)), .v (.int .i64 f.ret), .dat none (.sl 1 (ints f.slots)), .dat none (.sl 1 (f.blocks.map instsD))]) rfl u27 rfl s27 (ev_tmp rfl) rfl rfl)) ?_
      refine .cons rfl (stepD_op rfl (opP_fieldAddr rfl (ev_tmp rfl) u38 rfl rfl s22 rfl)) ?_
      refine .cons rfl (stepD_op rfl (opP_load_pt rfl u22 rfl (ev_tmp rfl) rfl rfl)) ?_
      refine .cons rfl (stepD_op rfl (opP_move rfl (ev_tmp rfl))) ?_
      refine .cons rfl (stepD_op rfl (opP_index_dat rfl u22 s3 (ev_tmp rfl) (ev_tmp rfl) (fun _ => Int.natCast_nonneg _) (fun _ => ints_get hil))) ?_
      refine .cons rfl (stepD_op rfl (opP_load_pr rfl u3 rfl (ev_tmp rfl))) ?_
      refine .cons rfl (stepD_call (id) rfl (callOf_func rfl (.cons (ev_tmp rfl) (.cons (ev_tmp rfl) .nil))) (c90 f x.args[i] hf (hx.args64 _ (List.getElem_mem hil))) (by repeat' (first | refine Vw.stDOf ?_ | refine Vw.ptOf rfl rfl rfl ?_ | refine Vw.prvOf ?_ | refine Vw.cloOf ?_ | constructor)) rfl rfl rfl (fun _ => rfl) (fun _ => rfl)) ?_
      refine .cons rfl (stepD_opc rfl (opC_buildSlice (ds := [.int .i64 _]) rfl u22 s3 z3 rfl rfl (.cons (ev_tmp rfl) .nil) rfl rfl (.cons (.v _ rfl) .nil) rfl rfl rfl)) ?_
      exact .nil
    · exact .no rfl (.no rfl (.no rfl (.no rfl (.no rfl (.no rfl (.no rfl (.no rfl (.no rfl (.nil)))))))))
    · rfl
    · rfl
    · rfl
    · rfl
    · exact fun c s h => h
    · exact hvkd _ rfl
    · rfl
    refine ad_one rfl rfl ?_
    refine al_opc rfl rfl rfl ((hvk _).trans rfl) (opC_append rfl u22 s3 z3 rfl b3 (ev_tmp rfl) (ev_tmp rfl) (.row 45001 1 _ _ rfl hlen.symm) (.row 201 1 _ _ rfl rfl) rfl rfl (by rw [hlen]; simp; omega) rfl) ?_
    refine al_nil ?_
    refine ad_one rfl rfl ?_
    refine al_op rfl rfl rfl (opP_assign rfl (ev_tmp rfl)) ?_
    refine al_nil ?_
    refine ad_done rfl ?_
    refine aw_seq ?_
    refine aw_region ?_
    refine al_op rfl rfl rfl (opP_move rfl (ev_tmp rfl)) ?_
    refine al_op rfl rfl rfl (opP_move rfl (ev_tmp rfl)) ?_
    refine al_op rfl rfl rfl (opP_index_row rfl u22 s3 (ev_tmp rfl) (ev_tmp rfl) (fun _ => Int.natCast_nonneg _) (fun _ => by show (i : Int) < (((ints ((x.args.take i).map (kindR f))).length + 1 : Nat) : Int); rw [hlen]; omega)) ?_
    refine al_op rfl rfl rfl (opP_load_pe rfl u3 rfl (ev_tmp rfl) rfl (fun _ => hlast) rfl) ?_
    refine al_op rfl rfl rfl (opP_bin rfl (ev_tmp rfl) (ev_const rfl) rfl) ?_
    refine al_nil ?_
    refine aw_cond rfl (fun h2 => ?_) (fun h2 => ?_)
    · refine aw_seq ?_
      refine aw_region ?_
      refine al_op rfl rfl rfl (opP_assign rfl (ev_const rfl)) ?_
      refine al_nil ?_
      refine aw_ret ?_
      have e : typedR f x = false := by
        have : (x.args.map (kindR f)).any (fun n => decide (n < 0)) = true := List.any_eq_true.2 ⟨kindR f x.args[i], List.mem_map.2 ⟨_, List.getElem_mem hil, rfl⟩, h2⟩
        unfold typedR; simp only [this, if_true]
      rw [e]; exact ret_id _ (.tmp rfl .nil) rfl trivial rfl rfl
    refine aw_skip ?_
    refine aw_region ?_
    refine al_op rfl rfl rfl (opP_move rfl (ev_tmp rfl)) ?_
    refine al_op rfl rfl rfl (opP_bin rfl (ev_tmp rfl) (ev_const rfl) rfl) ?_
    refine al_op rfl rfl rfl (opP_assign rfl (ev_tmp rfl)) ?_
    refine al_nil ?_
    refine ⟨i + 1, id, ⟨hil, ?_⟩, by omega, Fit.of ⟨rfl, rfl, ?_, trivial⟩ ⟨rfl, rfl, ?_, by rw [← wrapS (by omega)]; rfl, trivial⟩ rfl rfl⟩
    · rw [hsucc, List.any_append, hno]; simpa using h2
    · rw [hsucc, show ints ((x.args.take i).map (kindR f) ++ [kindR f x.args[i]]) = ints ((x.args.take i).map (kindR f)) ++ [.int .i64 (kindR f x.args[i])] by simp [ints]]; rfl
    · show A.row 45001 1 0 ((ints ((x.args.take i).map (kindR f))).length + 1) = _
      rw [hlen]
  have e : i = x.args.length := by simp at h1; omega
  subst e
  rw [List.take_length] at hno ⊢
  have hkl : (x.args.map (kindR f)).length = x.args.length := by simp
  have hxa := hx.args
  refine aw_exit ?_
  refine aw_seq ?_
  refine aw_seq ?_
  refine aw_region ?_
  refine al_op rfl rfl rfl (opP_fieldAddr rfl (ev_tmp rfl) u38 rfl rfl s3 rfl) ?_
  refine al_op rfl rfl rfl (opP_load_pt rfl u3 rfl (ev_tmp rfl) rfl rfl) ?_
  refine al_nil ?_
  refine aw_block ?_
  refine aw_seq ?_
  refine aw_region ?_
  refine al_op rfl rfl rfl (opP_bin rfl (ev_tmp rfl) (ev_const rfl) rfl) ?_
  refine al_op rfl rfl rfl (opP_assign rfl (ev_tmp rfl)) ?_
  refine al_nil ?_
  refine aw_cond rfl (fun h3 => ?_) (fun h3 => ?_)
  · have hop : x.op = 14 := by simpa using h3
    have hA := args_len ha (c := 2) (by simp [shapeR, hop]) (by decide)
    refine aw_seq ?_
    refine aw_draw mixed ?_
    apply ad_phase' [⟨0, 34, _, [], []⟩, ⟨1, 35, _, [0], []⟩, ⟨2, 36, _, [0, 1], []⟩, ⟨3, 37, _, [0, 1, 2], []⟩, ⟨4, 38, _, [0, 1, 2, 3], []⟩, ⟨5, 39, _, [0, 1, 2, 3, 4], []⟩, ⟨6, 40, _, [0, 1, 2, 3, 4, 5], []⟩, ⟨7, 41, _, [0, 1, 2, 3, 4, 5, 6], []⟩, ⟨8, 42, _, [0, 1, 2, 3, 4], []⟩, ⟨9, 43, _, [0, 1, 2, 3, 4, 8], []⟩, ⟨10, 44, _, [0, 1, 2, 3, 4, 8, 9], []⟩, ⟨11, 45, _, [0, 1, 2, 3, 4, 5, 6, 7, 8, 9, 10], []⟩, ⟨12, 46, _, [0, 1, 2, 3, 4, 5, 6, 7, 8, 9, 10, 11], []⟩, ⟨13, 4, _, [0, 1, 2, 3, 4, 5, 6, 7, 8, 9, 10, 11, 12], []⟩] [] (fuelT := 0)
    · skip
      refine .cons rfl (stepD_op rfl (opP_move rfl (ev_tmp rfl))) ?_
      refine .cons rfl (stepD_op rfl (opP_index_row rfl u22 s3 (ev_tmp rfl) (ev_const rfl) (fun _ => by decide) (fun _ => by omega))) ?_
      refine .cons rfl (stepD_op rfl (opP_load_pe rfl u3 rfl (ev_tmp rfl) rfl (fun _ => ints_getD (l := x.args.map (kindR f)) (i := 0) (by omega)) rfl)) ?_
      refine .cons rfl (stepD_call (id) rfl (callOf_func rfl (.cons (ev_tmp rfl) .nil)) (c42 ((x.args.map (kindR f)).getD 0 0)) (by repeat' (first | refine Vw.stDOf ?_ | refine Vw.ptOf rfl rfl rfl ?_ | refine Vw.prvOf ?_ | refine Vw.cloOf ?_ | constructor)) rfl rfl rfl (fun _ => rfl) (fun _ => rfl)) ?_
      refine .cons rfl (stepD_op rfl (opP_move rfl (ev_tmp rfl))) ?_
      refine .cons rfl (stepD_opg rfl rfl rfl rfl (opP_move rfl (ev_tmp rfl))) ?_
      refine .cons rfl (stepD_opg rfl rfl rfl rfl (opP_index_row rfl u22 s3 (ev_when rfl id) (ev_const rfl) (fun _ => by decide) (fun _ => by omega))) ?_
      refine .cons rfl (stepD_opg rfl rfl rfl rfl (opP_load_pe rfl u3 rfl (ev_when rfl id) rfl (fun _ => ints_getD (l := x.args.map (kindR f)) (i := 1) (by omega)) rfl)) ?_
      refine .cons rfl (stepD_opg rfl rfl rfl rfl (opP_move rfl (ev_tmp rfl))) ?_
      refine .cons rfl (stepD_opg rfl rfl rfl rfl (opP_index_row rfl u22 s3 (ev_when rfl id) (ev_const rfl) (fun _ => by decide) (fun _ => by omega))) ?_
      refine .cons rfl (stepD_opg rfl rfl rfl rfl (opP_load_pe rfl u3 rfl (ev_when rfl id) rfl (fun _ => ints_getD (l := x.args.map (kindR f)) (i := 0) (by omega)) rfl)) ?_
      refine .cons rfl (stepD_opg rfl rfl rfl rfl (opP_bin rfl (ev_when rfl id) (ev_when rfl id) rfl)) ?_
      refine .cons rfl (stepD_op rfl (opP_and rfl (ev_tmp rfl) (ev_when rfl id))) ?_
      refine .cons rfl (stepD_op rfl (opP_assign rfl (ev_tmp rfl))) ?_
      exact .nil
    · exact .no rfl (.no rfl (.no rfl (.no rfl (.no rfl (.no rfl (.no rfl (.no rfl (.no rfl (.no rfl (.no rfl (.no rfl (.no rfl (.no rfl (.nil))))))))))))))
    · rfl
    · rfl
    · rfl
    · rfl
    · exact fun c s h => h
    · exact hvkd _ rfl
    · rfl
    refine ad_done rfl ?_
    refine aw_ret ?_
    exact ret_id ([.v (.bool _)]) (.tmp rfl .nil) (by simp only [oneOf, typedR, hno, *]; simp) (by first | exact trivial | exact ⟨rfl, trivial⟩ | exact ⟨rfl, rfl, trivial⟩ | exact ⟨rfl, rfl, rfl, trivial⟩ | exact ⟨rfl, rfl, rfl, rfl, trivial⟩) rfl rfl
  refine aw_seq ?_
  refine aw_region ?_
  refine al_op rfl rfl rfl (opP_bin rfl (ev_tmp rfl) (ev_const rfl) rfl) ?_
  refine al_op rfl rfl rfl (opP_assign rfl (ev_tmp rfl)) ?_
  refine al_nil ?_
  refine aw_cond rfl (fun h4 => ?_) (fun h4 => ?_)
  · have hop : x.op = 15 := by simpa using h4
    have hA := args_len ha (c := 3) (by simp [shapeR, hop]) (by decide)
    refine aw_seq ?_
    refine aw_draw mixed ?_
    apply ad_phase' [⟨0, 49, _, [], []⟩, ⟨1, 50, _, [0], []⟩, ⟨2, 51, _, [0, 1], []⟩, ⟨3, 52, _, [0, 1, 2], []⟩, ⟨4, 53, _, [0, 1, 2, 3], []⟩, ⟨5, 54, _, [0, 1, 2, 3, 4], []⟩, ⟨6, 55, _, [0, 1, 2, 3, 4, 5], []⟩, ⟨7, 56, _, [0, 1, 2, 3, 4, 5, 6], []⟩, ⟨8, 57, _, [0, 1, 2, 3, 4], []⟩, ⟨9, 58, _, [0, 1, 2, 3, 4, 8], []⟩, ⟨10, 59, _, [0, 1, 2, 3, 4, 5, 6, 7, 8, 9], []⟩, ⟨11, 60, _, [0, 1, 2, 3, 4, 5, 6, 7, 8, 9, 10], []⟩, ⟨12, 61, _, [0, 1, 2, 3, 4, 5, 6, 7, 8, 9, 10, 11], []⟩, ⟨13, 62, _, [0, 1, 2, 3, 4, 5, 6, 7, 8, 9, 10, 11, 12], []⟩, ⟨14, 63, _, [0, 1, 2, 3, 4, 5, 6, 7, 8, 9, 10, 11, 12, 13], []⟩, ⟨15, 64, _, [0, 1, 2, 3, 4, 5, 6, 7, 8, 9, 10, 11, 12, 13, 14], []⟩, ⟨16, 65, _, [0, 1, 2, 3, 4, 5, 6, 7, 8, 9, 10, 11, 12], []⟩, ⟨17, 66, _, [0, 1, 2, 3, 4, 5, 6, 7, 8, 9, 10, 11, 12, 16], []⟩, ⟨18, 67, _, [0, 1, 2, 3, 4, 5, 6, 7, 8, 9, 10, 11, 12, 13, 14, 15, 16, 17], []⟩, ⟨19, 68, _, [0, 1, 2, 3, 4, 5, 6, 7, 8, 9, 10, 11, 12, 13, 14, 15, 16, 17, 18], []⟩, ⟨20, 4, _, [0, 1, 2, 3, 4, 5, 6, 7, 8, 9, 10, 11, 12, 13, 14, 15, 16, 17, 18, 19], []⟩] [] (fuelT := 0)
    · skip
      refine .cons rfl (stepD_op rfl (opP_move rfl (ev_tmp rfl))) ?_
      refine .cons rfl (stepD_op rfl (opP_index_row rfl u22 s3 (ev_tmp rfl) (ev_const rfl) (fun _ => by decide) (fun _ => by omega))) ?_
      refine .cons rfl (stepD_op rfl (opP_load_pe rfl u3 rfl (ev_tmp rfl) rfl (fun _ => ints_getD (l := x.args.map (kindR f)) (i := 0) (by omega)) rfl)) ?_
      refine .cons rfl (stepD_op rfl (opP_bin rfl (ev_tmp rfl) (ev_const rfl) rfl)) ?_
      refine .cons rfl (stepD_op rfl (opP_move rfl (ev_tmp rfl))) ?_
      refine .cons rfl (stepD_opg rfl rfl rfl rfl (opP_move rfl (ev_tmp rfl))) ?_
      refine .cons rfl (stepD_opg rfl rfl rfl rfl (opP_index_row rfl u22 s3 (ev_when rfl id) (ev_const rfl) (fun _ => by decide) (fun _ => by omega))) ?_
      refine .cons rfl (stepD_opg rfl rfl rfl rfl (opP_load_pe rfl u3 rfl (ev_when rfl id) rfl (fun _ => ints_getD (l := x.args.map (kindR f)) (i := 1) (by omega)) rfl)) ?_
      refine .cons rfl (stepD_opg rfl rfl rfl rfl (opP_fieldAddr rfl (ev_tmp rfl) u38 rfl rfl s3 rfl)) ?_
      refine .cons rfl (stepD_opg rfl rfl rfl rfl (opP_load_pt rfl u3 rfl (ev_when rfl id) rfl rfl)) ?_
      refine .cons rfl (stepD_opg rfl rfl rfl rfl (opP_bin rfl (ev_when rfl id) (ev_when rfl id) rfl)) ?_
      refine .cons rfl (stepD_op rfl (opP_and rfl (ev_tmp rfl) (ev_when rfl id))) ?_
      refine .cons rfl (stepD_op rfl (opP_move rfl (ev_tmp rfl))) ?_
      refine .cons rfl (stepD_opg rfl rfl rfl rfl (opP_move rfl (ev_tmp rfl))) ?_
      refine .cons rfl (stepD_opg rfl rfl rfl rfl (opP_index_row rfl u22 s3 (ev_when rfl id) (ev_const rfl) (fun _ => by decide) (fun _ => by omega))) ?_
      refine .cons rfl (stepD_opg rfl rfl rfl rfl (opP_load_pe rfl u3 rfl (ev_when rfl id) rfl (fun _ => ints_getD (l := x.args.map (kindR f)) (i := 2) (by omega)) rfl)) ?_
      refine .cons rfl (stepD_opg rfl rfl rfl rfl (opP_fieldAddr rfl (ev_tmp rfl) u38 rfl rfl s3 rfl)) ?_
      refine .cons rfl (stepD_opg rfl rfl rfl rfl (opP_load_pt rfl u3 rfl (ev_when rfl id) rfl rfl)) ?_
      refine .cons rfl (stepD_opg rfl rfl rfl rfl (opP_bin rfl (ev_when rfl id) (ev_when rfl id) rfl)) ?_
      refine .cons rfl (stepD_op rfl (opP_and rfl (ev_tmp rfl) (ev_when rfl id))) ?_
      refine .cons rfl (stepD_op rfl (opP_assign rfl (ev_tmp rfl))) ?_
      exact .nil
    · exact .no rfl (.no rfl (.no rfl (.no rfl (.no rfl (.no rfl (.no rfl (.no rfl (.no rfl (.no rfl (.no rfl (.no rfl (.no rfl (.no rfl (.no rfl (.no rfl (.no rfl (.no rfl (.no rfl (.no rfl (.no rfl (.nil)))))))))))))))))))))
    · rfl
    · rfl
    · rfl
    · rfl
    · exact fun c s h => h
    · exact hvkd _ rfl
    · rfl
    refine ad_done rfl ?_
    refine aw_ret ?_
    exact ret_id ([.v (.bool _)]) (.tmp rfl .nil) (by simp only [oneOf, typedR, hno, *]; simp) (by first | exact trivial | exact ⟨rfl, trivial⟩ | exact ⟨rfl, rfl, trivial⟩ | exact ⟨rfl, rfl, rfl, trivial⟩ | exact ⟨rfl, rfl, rfl, rfl, trivial⟩) rfl rfl
  refine aw_seq ?_
  refine aw_seq ?_
  refine aw_region ?_
  refine al_op rfl rfl rfl (opP_bin rfl (ev_tmp rfl) (ev_const rfl) rfl) ?_
  refine al_op rfl rfl rfl (opP_assign rfl (ev_tmp rfl)) ?_
  refine al_nil ?_
  refine aw_cond rfl (fun h5 => ?_) (fun h5 => ?_)
  · have hop : x.op = 16 := by simpa using h5
    have hA := args_len ha (c := 1) (by simp [shapeR, hop]) (by decide)
    refine aw_skip ?_
    refine aw_condT rfl h5 ?_
    refine aw_seq ?_
    refine aw_draw mixed ?_
    apply ad_phase' [⟨0, 72, _, [], []⟩, ⟨1, 73, _, [0], []⟩, ⟨2, 74, _, [0, 1], []⟩, ⟨3, 75, _, [0, 1, 2], []⟩, ⟨4, 76, _, [0, 1, 2, 3], []⟩, ⟨5, 77, _, [0, 1, 2, 3, 4], []⟩, ⟨6, 78, _, [0, 1, 2, 3, 4, 5], []⟩, ⟨7, 79, _, [0, 1, 2, 3, 4, 5, 6], []⟩, ⟨8, 80, _, [0, 1, 2, 3, 4], []⟩, ⟨9, 81, _, [0, 1, 2, 3, 4, 8], []⟩, ⟨10, 82, _, [0, 1, 2, 3, 4, 5, 6, 7, 8, 9], []⟩, ⟨11, 83, _, [0, 1, 2, 3, 4, 5, 6, 7, 8, 9, 10], []⟩, ⟨12, 4, _, [0, 1, 2, 3, 4, 5, 6, 7, 8, 9, 10, 11], []⟩] [] (fuelT := 0)
    · skip
      refine .cons rfl (stepD_op rfl (opP_move rfl (ev_tmp rfl))) ?_
      refine .cons rfl (stepD_op rfl (opP_index_row rfl u22 s3 (ev_tmp rfl) (ev_const rfl) (fun _ => by decide) (fun _ => by omega))) ?_
      refine .cons rfl (stepD_op rfl (opP_load_pe rfl u3 rfl (ev_tmp rfl) rfl (fun _ => ints_getD (l := x.args.map (kindR f)) (i := 0) (by omega)) rfl)) ?_
      refine .cons rfl (stepD_call (id) rfl (callOf_func rfl (.cons (ev_tmp rfl) .nil)) (c42 ((x.args.map (kindR f)).getD 0 0)) (by repeat' (first | refine Vw.stDOf ?_ | refine Vw.ptOf rfl rfl rfl ?_ | refine Vw.prvOf ?_ | refine Vw.cloOf ?_ | constructor)) rfl rfl rfl (fun _ => rfl) (fun _ => rfl)) ?_
      refine .cons rfl (stepD_op rfl (opP_move rfl (ev_tmp rfl))) ?_
      refine .cons rfl (stepD_opg rfl rfl rfl rfl (opP_move rfl (ev_tmp rfl))) ?_
      refine .cons rfl (stepD_opg rfl rfl rfl rfl (opP_index_row rfl u22 s3 (ev_when rfl id) (ev_const rfl) (fun _ => by decide) (fun _ => by omega))) ?_
      refine .cons rfl (stepD_opg rfl rfl rfl rfl (opP_load_pe rfl u3 rfl (ev_when rfl id) rfl (fun _ => ints_getD (l := x.args.map (kindR f)) (i := 0) (by omega)) rfl)) ?_
      refine .cons rfl (stepD_opg rfl rfl rfl rfl (opP_fieldAddr rfl (ev_tmp rfl) u38 rfl rfl s3 rfl)) ?_
      refine .cons rfl (stepD_opg rfl rfl rfl rfl (opP_load_pt rfl u3 rfl (ev_when rfl id) rfl rfl)) ?_
      refine .cons rfl (stepD_opg rfl rfl rfl rfl (opP_bin rfl (ev_when rfl id) (ev_when rfl id) rfl)) ?_
      refine .cons rfl (stepD_op rfl (opP_and rfl (ev_tmp rfl) (ev_when rfl id))) ?_
      refine .cons rfl (stepD_op rfl (opP_assign rfl (ev_tmp rfl))) ?_
      exact .nil
    · exact .no rfl (.no rfl (.no rfl (.no rfl (.no rfl (.no rfl (.no rfl (.no rfl (.no rfl (.no rfl (.no rfl (.no rfl (.no rfl (.nil)))))))))))))
    · rfl
    · rfl
    · rfl
    · rfl
    · exact fun c s h => h
    · exact hvkd _ rfl
    · rfl
    refine ad_done rfl ?_
    refine aw_ret ?_
    exact ret_id ([.v (.bool _)]) (.tmp rfl .nil) (by simp only [oneOf, typedR, hno, *]; simp) (by first | exact trivial | exact ⟨rfl, trivial⟩ | exact ⟨rfl, rfl, trivial⟩ | exact ⟨rfl, rfl, rfl, trivial⟩ | exact ⟨rfl, rfl, rfl, rfl, trivial⟩) rfl rfl
  refine aw_region ?_
  refine al_op rfl rfl rfl (opP_bin rfl (ev_tmp rfl) (ev_const rfl) rfl) ?_
  refine al_op rfl rfl rfl (opP_assign rfl (ev_tmp rfl)) ?_
  refine al_nil ?_
  refine aw_cond rfl (fun h6 => ?_) (fun h6 => ?_)
  · have hop : x.op = 17 := by simpa using h6
    have hA := args_len ha (c := 1) (by simp [shapeR, hop]) (by decide)
    refine aw_seq ?_
    refine aw_draw mixed ?_
    apply ad_phase' [⟨0, 72, _, [], []⟩, ⟨1, 73, _, [0], []⟩, ⟨2, 74, _, [0, 1], []⟩, ⟨3, 75, _, [0, 1, 2], []⟩, ⟨4, 76, _, [0, 1, 2, 3], []⟩, ⟨5, 77, _, [0, 1, 2, 3, 4], []⟩, ⟨6, 78, _, [0, 1, 2, 3, 4, 5], []⟩, ⟨7, 79, _, [0, 1, 2, 3, 4, 5, 6], []⟩, ⟨8, 80, _, [0, 1, 2, 3, 4], []⟩, ⟨9, 81, _, [0, 1, 2, 3, 4, 8], []⟩, ⟨10, 82, _, [0, 1, 2, 3, 4, 5, 6, 7, 8, 9], []⟩, ⟨11, 83, _, [0, 1, 2, 3, 4, 5, 6, 7, 8, 9, 10], []⟩, ⟨12, 4, _, [0, 1, 2, 3, 4, 5, 6, 7, 8, 9, 10, 11], []⟩] [] (fuelT := 0)
    · skip
      refine .cons rfl (stepD_op rfl (opP_move rfl (ev_tmp rfl))) ?_
      refine .cons rfl (stepD_op rfl (opP_index_row rfl u22 s3 (ev_tmp rfl) (ev_const rfl) (fun _ => by decide) (fun _ => by omega))) ?_
      refine .cons rfl (stepD_op rfl (opP_load_pe rfl u3 rfl (ev_tmp rfl) rfl (fun _ => ints_getD (l := x.args.map (kindR f)) (i := 0) (by omega)) rfl)) ?_
      refine .cons rfl (stepD_call (id) rfl (callOf_func rfl (.cons (ev_tmp rfl) .nil)) (c42 ((x.args.map (kindR f)).getD 0 0)) (by repeat' (first | refine Vw.stDOf ?_ | refine Vw.ptOf rfl rfl rfl ?_ | refine Vw.prvOf ?_ | refine Vw.cloOf ?_ | constructor)) rfl rfl rfl (fun _ => rfl) (fun _ => rfl)) ?_
      refine .cons rfl (stepD_op rfl (opP_move rfl (ev_tmp rfl))) ?_
      refine .cons rfl (stepD_opg rfl rfl rfl rfl (opP_move rfl (ev_tmp rfl))) ?_
      refine .cons rfl (stepD_opg rfl rfl rfl rfl (opP_index_row rfl u22 s3 (ev_when rfl id) (ev_const rfl) (fun _ => by decide) (fun _ => by omega))) ?_
      refine .cons rfl (stepD_opg rfl rfl rfl rfl (opP_load_pe rfl u3 rfl (ev_when rfl id) rfl (fun _ => ints_getD (l := x.args.map (kindR f)) (i := 0) (by omega)) rfl)) ?_
      refine .cons rfl (stepD_opg rfl rfl rfl rfl (opP_fieldAddr rfl (ev_tmp rfl) u38 rfl rfl s3 rfl)) ?_
      refine .cons rfl (stepD_opg rfl rfl rfl rfl (opP_load_pt rfl u3 rfl (ev_when rfl id) rfl rfl)) ?_
      refine .cons rfl (stepD_opg rfl rfl rfl rfl (opP_bin rfl (ev_when rfl id) (ev_when rfl id) rfl)) ?_
      refine .cons rfl (stepD_op rfl (opP_and rfl (ev_tmp rfl) (ev_when rfl id))) ?_
      refine .cons rfl (stepD_op rfl (opP_assign rfl (ev_tmp rfl))) ?_
      exact .nil
    · exact .no rfl (.no rfl (.no rfl (.no rfl (.no rfl (.no rfl (.no rfl (.no rfl (.no rfl (.no rfl (.no rfl (.no rfl (.no rfl (.nil)))))))))))))
    · rfl
    · rfl
    · rfl
    · rfl
    · exact fun c s h => h
    · exact hvkd _ rfl
    · rfl
    refine ad_done rfl ?_
    refine aw_ret ?_
    exact ret_id ([.v (.bool _)]) (.tmp rfl .nil) (by simp only [oneOf, typedR, hno, *]; simp) (by first | exact trivial | exact ⟨rfl, trivial⟩ | exact ⟨rfl, rfl, trivial⟩ | exact ⟨rfl, rfl, rfl, trivial⟩ | exact ⟨rfl, rfl, rfl, rfl, trivial⟩) rfl rfl
  refine aw_seq ?_
  refine aw_region ?_
  refine al_op rfl rfl rfl (opP_bin rfl (ev_tmp rfl) (ev_const rfl) rfl) ?_
  refine al_op rfl rfl rfl (opP_assign rfl (ev_tmp rfl)) ?_
  refine al_nil ?_
  refine aw_cond rfl (fun h7 => ?_) (fun h7 => ?_)
  · have hop : x.op = 18 := by simpa using h7
    have hA := args_len ha (c := 1) (by simp [shapeR, hop]) (by decide)
    refine aw_seq ?_
    refine aw_draw mixed ?_
    apply ad_phase' [⟨0, 86, _, [], []⟩, ⟨1, 87, _, [0], []⟩, ⟨2, 88, _, [0, 1], []⟩, ⟨3, 89, _, [0, 1, 2], []⟩, ⟨4, 90, _, [0, 1, 2, 3], []⟩, ⟨5, 91, _, [0, 1, 2, 3, 4], []⟩, ⟨6, 92, _, [0, 1, 2, 3, 4, 5], []⟩, ⟨7, 93, _, [0, 1, 2, 3, 4, 5, 6], []⟩, ⟨8, 94, _, [0, 1, 2, 3, 4], []⟩, ⟨9, 95, _, [0, 1, 2, 3, 4, 8], []⟩, ⟨10, 96, _, [0, 1, 2, 3, 4, 5, 6, 7, 8, 9], []⟩, ⟨11, 97, _, [0, 1, 2, 3, 4, 5, 6, 7, 8, 9, 10], []⟩, ⟨12, 4, _, [0, 1, 2, 3, 4, 5, 6, 7, 8, 9, 10, 11], []⟩] [] (fuelT := 0)
    · skip
      refine .cons rfl (stepD_op rfl (opP_move rfl (ev_tmp rfl))) ?_
      refine .cons rfl (stepD_op rfl (opP_index_row rfl u22 s3 (ev_tmp rfl) (ev_const rfl) (fun _ => by decide) (fun _ => by omega))) ?_
      refine .cons rfl (stepD_op rfl (opP_load_pe rfl u3 rfl (ev_tmp rfl) rfl (fun _ => ints_getD (l := x.args.map (kindR f)) (i := 0) (by omega)) rfl)) ?_
      refine .cons rfl (stepD_call (id) rfl (callOf_func rfl (.cons (ev_tmp rfl) .nil)) (c42 ((x.args.map (kindR f)).getD 0 0)) (by repeat' (first | refine Vw.stDOf ?_ | refine Vw.ptOf rfl rfl rfl ?_ | refine Vw.prvOf ?_ | refine Vw.cloOf ?_ | constructor)) rfl rfl rfl (fun _ => rfl) (fun _ => rfl)) ?_
      refine .cons rfl (stepD_op rfl (opP_move rfl (ev_tmp rfl))) ?_
      refine .cons rfl (stepD_opg rfl rfl rfl rfl (opP_move rfl (ev_tmp rfl))) ?_
      refine .cons rfl (stepD_opg rfl rfl rfl rfl (opP_index_row rfl u22 s3 (ev_when rfl id) (ev_const rfl) (fun _ => by decide) (fun _ => by omega))) ?_
      refine .cons rfl (stepD_opg rfl rfl rfl rfl (opP_load_pe rfl u3 rfl (ev_when rfl id) rfl (fun _ => ints_getD (l := x.args.map (kindR f)) (i := 0) (by omega)) rfl)) ?_
      refine .cons rfl (stepD_opg rfl rfl rfl rfl (opP_fieldAddr rfl (ev_tmp rfl) u38 rfl rfl s3 rfl)) ?_
      refine .cons rfl (stepD_opg rfl rfl rfl rfl (opP_load_pt rfl u3 rfl (ev_when rfl id) rfl rfl)) ?_
      refine .cons rfl (stepD_opg rfl rfl rfl rfl (opP_bin rfl (ev_when rfl id) (ev_when rfl id) rfl)) ?_
      refine .cons rfl (stepD_op rfl (opP_and rfl (ev_tmp rfl) (ev_when rfl id))) ?_
      refine .cons rfl (stepD_op rfl (opP_assign rfl (ev_tmp rfl))) ?_
      exact .nil
    · exact .no rfl (.no rfl (.no rfl (.no rfl (.no rfl (.no rfl (.no rfl (.no rfl (.no rfl (.no rfl (.no rfl (.no rfl (.no rfl (.nil)))))))))))))
    · rfl
    · rfl
    · rfl
    · rfl
    · exact fun c s h => h
    · exact hvkd _ rfl
    · rfl
    refine ad_done rfl ?_
    refine aw_ret ?_
    exact ret_id ([.v (.bool _)]) (.tmp rfl .nil) (by simp only [oneOf, typedR, hno, *]; simp) (by first | exact trivial | exact ⟨rfl, trivial⟩ | exact ⟨rfl, rfl, trivial⟩ | exact ⟨rfl, rfl, rfl, trivial⟩ | exact ⟨rfl, rfl, rfl, rfl, trivial⟩) rfl rfl
  refine aw_seq ?_
  refine aw_region ?_
  refine al_op rfl rfl rfl (opP_bin rfl (ev_tmp rfl) (ev_const rfl) rfl) ?_
  refine al_op rfl rfl rfl (opP_assign rfl (ev_tmp rfl)) ?_
  refine al_nil ?_
  refine aw_cond rfl (fun h8 => ?_) (fun h8 => ?_)
  · have hop : x.op = 25 := by simpa using h8
    have hA := args_len ha (c := 2) (by simp [shapeR, hop]) (by decide)
    refine aw_seq ?_
    refine aw_region ?_
    refine al_op rfl rfl rfl (opP_move rfl (ev_tmp rfl)) ?_
    refine al_op rfl rfl rfl (opP_index_row rfl u22 s3 (ev_tmp rfl) (ev_const rfl) (fun _ => by decide) (fun _ => by omega)) ?_
    refine al_op rfl rfl rfl (opP_load_pe rfl u3 rfl (ev_tmp rfl) rfl (fun _ => ints_getD (l := x.args.map (kindR f)) (i := 0) (by omega)) rfl) ?_
    refine al_op rfl rfl rfl (opP_bin rfl (ev_tmp rfl) (ev_const rfl) rfl) ?_
    refine al_op rfl rfl rfl (opP_move rfl (ev_tmp rfl)) ?_
    refine al_opg rfl rfl rfl rfl rfl rfl (opP_move rfl (ev_tmp rfl)) ?_
    refine al_opg rfl rfl rfl rfl rfl rfl (opP_index_row rfl u22 s3 (ev_when rfl id) (ev_const rfl) (fun _ => by decide) (fun _ => by omega)) ?_
    refine al_opg rfl rfl rfl rfl rfl rfl (opP_load_pe rfl u3 rfl (ev_when rfl id) rfl (fun _ => ints_getD (l := x.args.map (kindR f)) (i := 1) (by omega)) rfl) ?_
    refine al_stepD rfl rfl (stepD_callg rfl rfl rfl rfl (callOf_func rfl (.cons (ev_when rfl id) .nil)) (fun gd => c42 ((x.args.map (kindR f)).getD 1 0)) (fun gd => (by repeat' (first | refine Vw.stDOf ?_ | refine Vw.ptOf rfl rfl rfl ?_ | refine Vw.prvOf ?_ | refine Vw.cloOf ?_ | constructor))) rfl (fun _ => rfl)) ?_
    refine al_op rfl rfl rfl (opP_and rfl (ev_tmp rfl) (ev_when rfl id)) ?_
    refine al_op rfl rfl rfl (opP_assign rfl (ev_tmp rfl)) ?_
    refine al_nil ?_
    refine aw_ret ?_
    exact ret_id ([.v (.bool _)]) (.tmp rfl .nil) (by simp only [oneOf, typedR, hno, *]; simp) (by first | exact trivial | exact ⟨rfl, trivial⟩ | exact ⟨rfl, rfl, trivial⟩ | exact ⟨rfl, rfl, rfl, trivial⟩ | exact ⟨rfl, rfl, rfl, rfl, trivial⟩) rfl rfl
  refine aw_seq ?_
  refine aw_region ?_
  refine al_op rfl rfl rfl (opP_bin rfl (ev_tmp rfl) (ev_const rfl) rfl) ?_
  refine al_op rfl rfl rfl (opP_assign rfl (ev_tmp rfl)) ?_
  refine al_nil ?_
  refine aw_cond rfl (fun h9 => ?_) (fun h9 => ?_)
  · have hop : x.op = 26 := by simpa using h9
    have hA := args_len ha (c := 1) (by simp [shapeR, hop]) (by decide)
    refine aw_seq ?_
    refine aw_region ?_
    refine al_op rfl rfl rfl (opP_move rfl (ev_tmp rfl)) ?_
    refine al_op rfl rfl rfl (opP_index_row rfl u22 s3 (ev_tmp rfl) (ev_const rfl) (fun _ => by decide) (fun _ => by omega)) ?_
    refine al_op rfl rfl rfl (opP_load_pe rfl u3 rfl (ev_tmp rfl) rfl (fun _ => ints_getD (l := x.args.map (kindR f)) (i := 0) (by omega)) rfl) ?_
    refine al_op rfl rfl rfl (opP_bin rfl (ev_tmp rfl) (ev_const rfl) rfl) ?_
    refine al_op rfl rfl rfl (opP_assign rfl (ev_tmp rfl)) ?_
    refine al_nil ?_
    refine aw_ret ?_
    exact ret_id ([.v (.bool _)]) (.tmp rfl .nil) (by simp only [oneOf, typedR, hno, *]; simp) (by first | exact trivial | exact ⟨rfl, trivial⟩ | exact ⟨rfl, rfl, trivial⟩ | exact ⟨rfl, rfl, rfl, trivial⟩ | exact ⟨rfl, rfl, rfl, rfl, trivial⟩) rfl rfl
  refine aw_seq ?_
  refine aw_region ?_
  refine al_op rfl rfl rfl (opP_bin rfl (ev_tmp rfl) (ev_const rfl) rfl) ?_
  refine al_op rfl rfl rfl (opP_assign rfl (ev_tmp rfl)) ?_
  refine al_nil ?_
  refine aw_cond rfl (fun h10 => ?_) (fun h10 => ?_)
  · have hop : x.op = 27 := by simpa using h10
    have hA := args_len ha (c := 2) (by simp [shapeR, hop]) (by decide)
    refine aw_seq ?_
    refine aw_region ?_
    refine al_op rfl rfl rfl (opP_move rfl (ev_tmp rfl)) ?_
    refine al_op rfl rfl rfl (opP_index_row rfl u22 s3 (ev_tmp rfl) (ev_const rfl) (fun _ => by decide) (fun _ => by omega)) ?_
    refine al_op rfl rfl rfl (opP_load_pe rfl u3 rfl (ev_tmp rfl) rfl (fun _ => ints_getD (l := x.args.map (kindR f)) (i := 0) (by omega)) rfl) ?_
    refine al_op rfl rfl rfl (opP_bin rfl (ev_tmp rfl) (ev_const rfl) rfl) ?_
    refine al_op rfl rfl rfl (opP_move rfl (ev_tmp rfl)) ?_
    refine al_opg rfl rfl rfl rfl rfl rfl (opP_move rfl (ev_tmp rfl)) ?_
    refine al_opg rfl rfl rfl rfl rfl rfl (opP_index_row rfl u22 s3 (ev_when rfl id) (ev_const rfl) (fun _ => by decide) (fun _ => by omega)) ?_
    refine al_opg rfl rfl rfl rfl rfl rfl (opP_load_pe rfl u3 rfl (ev_when rfl id) rfl (fun _ => ints_getD (l := x.args.map (kindR f)) (i := 1) (by omega)) rfl) ?_
    refine al_opg rfl rfl rfl rfl rfl rfl (opP_bin rfl (ev_when rfl id) (ev_const rfl) rfl) ?_
    refine al_opg rfl rfl rfl rfl rfl rfl (opP_move rfl (ev_when rfl id)) ?_
    refine al_opg rfl rfl rfl rfl rfl rfl (opP_move rfl (ev_tmp rfl)) ?_
    refine al_opg rfl rfl rfl rfl rfl rfl (opP_index_row rfl u22 s3 (ev_when rfl id) (ev_const rfl) (fun _ => by decide) (fun _ => by omega)) ?_
    refine al_opg rfl rfl rfl rfl rfl rfl (opP_load_pe rfl u3 rfl (ev_when rfl id) rfl (fun _ => ints_getD (l := x.args.map (kindR f)) (i := 1) (by omega)) rfl) ?_
    refine al_opg rfl rfl rfl rfl rfl rfl (opP_bin rfl (ev_when rfl id) (ev_const rfl) rfl) ?_
    refine al_opg rfl rfl rfl rfl rfl rfl (opP_or rfl (ev_when rfl id) (ev_when rfl id)) ?_
    refine al_opg rfl rfl rfl rfl rfl rfl (opP_move rfl (ev_when rfl id)) ?_
    refine al_opg rfl rfl rfl rfl rfl rfl (opP_move rfl (ev_tmp rfl)) ?_
    refine al_opg rfl rfl rfl rfl rfl rfl (opP_index_row rfl u22 s3 (ev_when rfl id) (ev_const rfl) (fun _ => by decide) (fun _ => by omega)) ?_
    refine al_opg rfl rfl rfl rfl rfl rfl (opP_load_pe rfl u3 rfl (ev_when rfl id) rfl (fun _ => ints_getD (l := x.args.map (kindR f)) (i := 1) (by omega)) rfl) ?_
    refine al_opg rfl rfl rfl rfl rfl rfl (opP_bin rfl (ev_when rfl id) (ev_const rfl) rfl) ?_
    refine al_opg rfl rfl rfl rfl rfl rfl (opP_or rfl (ev_when rfl id) (ev_when rfl id)) ?_
    refine al_op rfl rfl rfl (opP_and rfl (ev_tmp rfl) (ev_when rfl id)) ?_
    refine al_op rfl rfl rfl (opP_assign rfl (ev_tmp rfl)) ?_
    refine al_nil ?_
    refine aw_ret ?_
    exact ret_id ([.v (.bool _)]) (.tmp rfl .nil) (by simp only [oneOf, typedR, hno, *]; simp) (by first | exact trivial | exact ⟨rfl, trivial⟩ | exact ⟨rfl, rfl, trivial⟩ | exact ⟨rfl, rfl, rfl, trivial⟩ | exact ⟨rfl, rfl, rfl, rfl, trivial⟩) rfl rfl
  refine aw_seq ?_
  refine aw_region ?_
  refine al_op rfl rfl rfl (opP_bin rfl (ev_tmp rfl) (ev_const rfl) rfl) ?_
  refine al_op rfl rfl rfl (opP_assign rfl (ev_tmp rfl)) ?_
  refine al_nil ?_
  refine aw_cond rfl (fun h11 => ?_) (fun h11 => ?_)
  · have hop : x.op = 30 := by simpa using h11
    have hA := args_len ha (c := 1) (by simp [shapeR, hop]) (by decide)
    refine aw_seq ?_
    refine aw_region ?_
    refine al_op rfl rfl rfl (opP_move rfl (ev_tmp rfl)) ?_
    refine al_op rfl rfl rfl (opP_index_row rfl u22 s3 (ev_tmp rfl) (ev_const rfl) (fun _ => by decide) (fun _ => by omega)) ?_
    refine al_op rfl rfl rfl (opP_load_pe rfl u3 rfl (ev_tmp rfl) rfl (fun _ => ints_getD (l := x.args.map (kindR f)) (i := 0) (by omega)) rfl) ?_
    refine al_op rfl rfl rfl (opP_bin rfl (ev_tmp rfl) (ev_const rfl) rfl) ?_
    refine al_op rfl rfl rfl (opP_assign rfl (ev_tmp rfl)) ?_
    refine al_nil ?_
    refine aw_ret ?_
    exact ret_id ([.v (.bool _)]) (.tmp rfl .nil) (by simp only [oneOf, typedR, hno, *]; simp) (by first | exact trivial | exact ⟨rfl, trivial⟩ | exact ⟨rfl, rfl, trivial⟩ | exact ⟨rfl, rfl, rfl, trivial⟩ | exact ⟨rfl, rfl, rfl, rfl, trivial⟩) rfl rfl
  refine aw_seq ?_
  refine aw_region ?_
  refine al_op rfl rfl rfl (opP_bin rfl (ev_tmp rfl) (ev_const rfl) rfl) ?_
  refine al_op rfl rfl rfl (opP_assign rfl (ev_tmp rfl)) ?_
  refine al_nil ?_
  refine aw_cond rfl (fun h12 => ?_) (fun h12 => ?_)
  · have hop : x.op = 31 := by simpa using h12
    have hA : f.ret > 0 ∨ x.args.length = 0 := by
      have h0 := args_len ha (c := if f.ret > 0 then 1 else 0) (by simp [shapeR, hop]) (by split <;> decide)
      split at h0 <;> omega
    refine aw_seq ?_
    refine aw_draw mixed ?_
    apply ad_phase' [⟨0, 148, _, [], []⟩, ⟨1, 149, _, [0], []⟩, ⟨2, 150, _, [0, 1], []⟩, ⟨3, 151, _, [0, 1, 2], []⟩, ⟨4, 152, _, [0, 1, 2, 3], []⟩, ⟨5, 153, _, [0, 1, 2, 3, 4], []⟩, ⟨6, 154, _, [0, 1, 2, 3, 4, 5], []⟩, ⟨7, 155, _, [0, 1, 2, 3], []⟩, ⟨8, 156, _, [0, 1, 2, 3, 7], []⟩, ⟨9, 157, _, [0, 1, 2, 3, 4, 5, 6, 7, 8], []⟩, ⟨10, 158, _, [0, 1, 2, 3, 4, 5, 6, 7, 8, 9], []⟩, ⟨11, 4, _, [0, 1, 2, 3, 4, 5, 6, 7, 8, 9, 10], []⟩] [] (fuelT := 0)
    · skip
      refine .cons rfl (stepD_op rfl (opP_move rfl (ev_tmp rfl))) ?_
      refine .cons rfl (stepD_op rfl (opP_len rfl u22 (ev_tmp rfl) (by first | exact lenA_ints | exact lenA_map | rfl))) ?_
      refine .cons rfl (stepD_op rfl (opP_bin rfl (ev_tmp rfl) (ev_const rfl) rfl)) ?_
      refine .cons rfl (stepD_op rfl (opP_move rfl (ev_tmp rfl))) ?_
      refine .cons rfl (stepD_opg rfl rfl rfl rfl (opP_move rfl (ev_tmp rfl))) ?_
      refine .cons rfl (stepD_opg rfl rfl rfl rfl (opP_index_row rfl u22 s3 (ev_when rfl id) (ev_const rfl) (fun _ => by decide) (fun (gd : (!((x.args.length : Int) == 0)) = true) => by simp at gd; have : x.args.length ≠ 0 := (fun e => gd (by simpa using e)); omega))) ?_
      refine .cons rfl (stepD_opg rfl rfl rfl rfl (opP_load_pe rfl u3 rfl (ev_when rfl id) rfl (fun (gd : (!((x.args.length : Int) == 0)) = true) => ints_getD (l := x.args.map (kindR f)) (i := 0) (by simp at gd; have : x.args.length ≠ 0 := (fun e => gd (by simpa using e)); omega)) rfl)) ?_
      refine .cons rfl (stepD_opg rfl rfl rfl rfl (opP_fieldAddr rfl (ev_tmp rfl) u27 rfl rfl s3 rfl)) ?_
      refine .cons rfl (stepD_opg rfl rfl rfl rfl (opP_load_pt rfl u3 rfl (ev_when rfl id) rfl rfl)) ?_
      refine .cons rfl (stepD_opg rfl rfl rfl rfl (opP_bin rfl (ev_when rfl id) (ev_when rfl id) rfl)) ?_
      refine .cons rfl (stepD_op rfl (opP_or rfl (ev_tmp rfl) (ev_when rfl id))) ?_
      refine .cons rfl (stepD_op rfl (opP_assign rfl (ev_tmp rfl))) ?_
      exact .nil
    · exact .no rfl (.no rfl (.no rfl (.no rfl (.no rfl (.no rfl (.no rfl (.no rfl (.no rfl (.no rfl (.no rfl (.no rfl (.nil))))))))))))
    · rfl
    · rfl
    · rfl
    · rfl
    · exact fun c s h => h
    · exact hvkd _ rfl
    · rfl
    refine ad_done rfl ?_
    refine aw_ret ?_
    exact ret_id ([.v (.bool _)]) (.tmp rfl .nil) (by simp only [oneOf, typedR, hno, *]; simp) (by first | exact trivial | exact ⟨rfl, trivial⟩ | exact ⟨rfl, rfl, trivial⟩ | exact ⟨rfl, rfl, rfl, trivial⟩ | exact ⟨rfl, rfl, rfl, rfl, trivial⟩) rfl rfl
  refine aw_skip ?_
  refine aw_seq ?_
  refine aw_seq ?_
  refine aw_region ?_
  refine al_op rfl rfl rfl (opP_assign rfl (ev_const rfl)) ?_
  refine al_nil ?_
  refine aw_block ?_
  refine aw_loop' (α := Nat) (fun i => [(3, .pt 102 0), (5, .row 45001 1 0 x.args.length), (7, .v (.int .i64 i))]) (fun i => [(102, .var [.v (.int .i64 x.op), .v (.int .i64 x.w), .v (.int .i64 x.fl), .dat none (.sl 1 (ints x.args)), .v (.int .u32 x.imm), .dat none (.sl 1 (ints x.to))]), (45001, .row 1 (ints (x.args.map (kindR f))))]) (fun i => i ≤ x.args.length ∧ ((x.args.map (kindR f)).take i).all (fun n => n == x.w) = true) (fun i => x.args.length - i) 0 ⟨Nat.zero_le _, rfl⟩ id (Fit.of ⟨rfl, rfl, trivial⟩ ⟨rfl, rfl, rfl, trivial⟩ rfl rfl) ?_
  rintro i ⟨hi, hall⟩
  refine aw_seq ?_
  refine aw_seq ?_
  refine aw_region ?_
  refine al_op rfl rfl rfl (opP_move rfl (ev_tmp rfl)) ?_
  refine al_op rfl rfl rfl (opP_move rfl (ev_tmp rfl)) ?_
  refine al_op rfl rfl rfl (opP_len rfl u22 (ev_tmp rfl) (by first | exact lenA_ints | exact lenA_map | rfl)) ?_
  refine al_op rfl rfl rfl (opP_bin rfl (ev_tmp rfl) (ev_tmp rfl) rfl) ?_
  refine al_nil ?_
  refine aw_condS rfl (fun h13 => ?_) (fun h13 => ?_)
  · have hall2 : (x.args.map (kindR f)).all (fun n => n == x.w) = true := by
      have e : i = x.args.length := by simp at h13; omega
      rw [e, ← hkl, List.take_length] at hall; exact hall
    refine aw_exit ?_
    refine aw_seq ?_
    refine aw_region ?_
    refine al_op rfl rfl rfl (opP_assign rfl (ev_const rfl)) ?_
    refine al_nil ?_
    refine aw_ret ?_
    exact ret_id ([.v (.bool _)]) (.tmp rfl .nil) (by simp only [oneOf, typedR, hno, *]; simp) (by first | exact trivial | exact ⟨rfl, trivial⟩ | exact ⟨rfl, rfl, trivial⟩ | exact ⟨rfl, rfl, rfl, trivial⟩ | exact ⟨rfl, rfl, rfl, rfl, trivial⟩) rfl rfl
  have hil : i < x.args.length := by simpa using h13
  have hld : (ints (x.args.map (kindR f)))[0 + i]? = some (.int .i64 ((x.args.map (kindR f))[i]'(by omega))) := by rw [Nat.zero_add]; exact ints_get (by omega)
  refine aw_skip ?_
  refine aw_seq ?_
  refine aw_block ?_
  refine aw_seq ?_
  refine aw_draw mixed ?_
  apply ad_phase' [⟨0, 165, _, [], []⟩, ⟨1, 166, _, [], []⟩, ⟨2, 167, _, [0, 1], []⟩, ⟨3, 168, _, [0, 1, 2], []⟩, ⟨4, 169, _, [], []⟩, ⟨5, 170, _, [4], []⟩, ⟨6, 171, _, [0, 1, 2, 3, 4, 5], []⟩] [] (fuelT := 0)
  · skip
    refine .cons rfl (stepD_op rfl (opP_move rfl (ev_tmp rfl))) ?_
    refine .cons rfl (stepD_op rfl (opP_move rfl (ev_tmp rfl))) ?_
    refine .cons rfl (stepD_op rfl (opP_index_row rfl u22 s3 (ev_tmp rfl) (ev_tmp rfl) (fun _ => Int.natCast_nonneg _) (fun _ => by omega))) ?_
    refine .cons rfl (stepD_op rfl (opP_load_pe rfl u3 rfl (ev_tmp rfl) rfl (fun _ => hld) rfl)) ?_
    refine .cons rfl (stepD_op rfl (opP_fieldAddr rfl (ev_tmp rfl) u38 rfl rfl s3 rfl)) ?_
    refine .cons rfl (stepD_op rfl (opP_load_pt rfl u3 rfl (ev_tmp rfl) rfl rfl)) ?_
    refine .cons rfl (stepD_op rfl (opP_bin rfl (ev_tmp rfl) (ev_tmp rfl) rfl)) ?_
    exact .nil
  · exact .no rfl (.no rfl (.no rfl (.no rfl (.no rfl (.no rfl (.no rfl (.nil)))))))
  · rfl
  · rfl
  · rfl
  · rfl
  · exact fun c s h => h
  · exact hvkd _ rfl
  · rfl
  refine ad_done rfl ?_
  refine aw_cond rfl (fun h14 => ?_) (fun h14 => ?_)
  · have hall2 : (x.args.map (kindR f)).all (fun n => n == x.w) = false := List.all_eq_false.2 ⟨_, List.getElem_mem (by omega : i < (x.args.map (kindR f)).length), by simpa using h14⟩
    refine aw_seq ?_
    refine aw_region ?_
    refine al_op rfl rfl rfl (opP_assign rfl (ev_const rfl)) ?_
    refine al_nil ?_
    refine aw_ret ?_
    exact ret_id ([.v (.bool _)]) (.tmp rfl .nil) (by simp only [oneOf, typedR, hno, *]; simp) (by first | exact trivial | exact ⟨rfl, trivial⟩ | exact ⟨rfl, rfl, trivial⟩ | exact ⟨rfl, rfl, rfl, trivial⟩ | exact ⟨rfl, rfl, rfl, rfl, trivial⟩) rfl rfl
  refine aw_skip ?_
  refine aw_region ?_
  refine al_op rfl rfl rfl (opP_move rfl (ev_tmp rfl)) ?_
  refine al_op rfl rfl rfl (opP_bin rfl (ev_tmp rfl) (ev_const rfl) rfl) ?_
  refine al_op rfl rfl rfl (opP_assign rfl (ev_tmp rfl)) ?_
  refine al_nil ?_
  refine ⟨i + 1, id, ⟨hil, ?_⟩, by omega, Fit.of ⟨rfl, rfl, trivial⟩ ⟨rfl, rfl, by rw [← wrapS (by omega)]; rfl, trivial⟩ rfl rfl⟩
  rw [List.take_succ_eq_append_getElem (by omega), List.all_append, hall]; simpa using h14
end Go.AL
