/- Calls, returns, contracts of functions, loops. -/
import Derived.Test.YtkbidoikndgheaaDoorH1
import Derived.Laws.BitsLemmas
import Derived.KernelRfl
set_option linter.unusedVariables false
set_option linter.unusedSimpArgs false
namespace Go.Proofs.YtkbidoikndgheaaDoor.HL
open Go.RowKit

structure Callable (P : Program) (g : FuncId) : Prop where
  is : ∃ fn, P.funcs[g]? = some fn ∧ fn.body.isSome = true ∧ (fn.name == "runtime.NumGoroutine") = false
/-- A function of plain data: with arguments that read as 'args' it returns what reads as 'r'; nothing that was there has changed. -/
structure PureFn (P : Program) (g : FuncId) (args : List AV) (r : AV) : Prop where
  call : Callable P g
  run : ∀ (F : Nat → Prop) (w : World) (vs : Array Value), (∀ b, F b → b < w.heap.size) → VL noName F w args vs.toList →
    CallsR P g vs w fun v w' => ∃ F', VRel noName F' w' r v ∧ Below w.heap.size w w' ∧ (∀ b, F b → F' b) ∧ (∀ b, F' b → F b ∨ w.heap.size ≤ b) ∧ (∀ b, F' b → b < w'.heap.size)

/-- What a call of a function value does: in every state that is alike where it looks. -/
def CallDoes (X : Cx) (fv : AV) (args : List AV) (f : Eff) (s : St) : Prop :=
  ∀ γ F w fr (vs : List Value), Inv X γ F s w → VRel γ F w fv fr → VL γ F w args vs → ∃ g caps, fr = .func (.func g) #[] caps ∧ Callable X.P g ∧ CallsR X.P g (vs.toArray ++ caps) w fun v w2 =>
    ∃ γ' F', Inv X γ' F' ⟨s.e, apL s.L f.l, apU s.U f.u⟩ w2 ∧ Fwd γ F w γ' F' w2 ∧ VRel γ' F' w2 f.r v
structure CallE (X : Cx) (s : St) (d : Option Tmp) (fv : AV) (args : List AV) (f : Eff) : Prop where
  ok : ∀ s2 : St, (∀ n ∈ f.rd, s2.L n = s.L n) → (∀ n ∈ f.u, s2.U n = false) → CallDoes X fv args f s2
  rdL : ∀ n ∈ f.rd, s.L n ≠ none
  wr : ∀ p ∈ f.l, p.1 ∈ f.rd ∨ p.1 ∈ f.u
  u : ∀ n ∈ f.u, d = some (n % 4096) ∧ s.U n = false
/-- What stands at the call of a function value: the call returns, and what follows goes on. -/
def CallAt (X : Cx) (fv : AV) (args : List AV) (d : Option Tmp) (ops : Array Oper) (rest : List Oper) (k : List Item) (s : St) : Prop :=
  ∃ f s', CallE X s d fv args f ∧ put X.nt d f s = some s' ∧ RunOps X ops rest k s'
def apE (e : Nat → AV) (r : AV) : Option Tmp → Nat → AV
  | some d => upd e d r
  | none => e
def Eff.ap (f : Eff) (d : Option Tmp) (s : St) : St := ⟨apE s.e f.r d, apL s.L f.l, apU s.U f.u⟩

section
variable {X : Cx} {s s' : St} {ops : Array Oper} {rest : List Oper} {k : List Item}

theorem put_eq {nt : Nat} {d : Option Tmp} {f : Eff} (h : put nt d f s = some s') : s' = f.ap d s ∧ ∀ t, d = some t → t < nt := by
  obtain ⟨e, L, U⟩ := s
  obtain ⟨r, l, u, rd⟩ := f
  cases d with
  | none =>
    simp only [HL.put, Option.some.injEq] at h
    subst h
    exact ⟨rfl, fun t h => by cases h⟩
  | some d =>
    simp only [HL.put] at h
    split at h
    · rename_i hlt
      simp only [Option.some.injEq] at h
      subst h
      exact ⟨rfl, fun t h => by cases h; exact hlt⟩
    · cases h
theorem ERel.ap {γ : Nat → Option Value} {F : Nat → Prop} {w : World} {a : Act} {d : Option Tmp} {f : Eff} {v : Value} (hd : Marks X.tag X.w0 F w a.defers) (hn : a.tmps.size = X.nt) (he : ∀ t, VRel γ F w (s.e t) (a.tmps.getD t undef))
    (hp : ∀ t, d = some t → t < X.nt) (hr : VRel γ F w f.r v) : ERel X γ F (f.ap d s) (a.put d v) w := by
  cases d with
  | none => exact ⟨hd, hn, he⟩
  | some d =>
    have hlt := hp d rfl
    refine ⟨hd, by simpa [Act.put] using hn, fun t => ?_⟩
    have ht := he t
    show VRel γ F w (upd s.e d f.r t) _
    by_cases e : t = d
    · subst e
      simp only [upd_same, Act.put]
      rw [show (a.tmps.setIfInBounds t v).getD t undef = v by simp [hn, hlt]]
      exact hr
    · simp only [upd_ne _ _ _ _ e, Act.put]
      rw [show (a.tmps.setIfInBounds d v).getD t undef = a.tmps.getD t undef by simp [Array.getElem?_setIfInBounds_ne (Ne.symm e)]]
      exact ht
theorem Inv.congr {γ : Nat → Option Value} {F : Nat → Prop} {w : World} (h : Inv X γ F s w) (hL : s'.L = s.L) (hU : s'.U = s.U) : Inv X γ F s' w := by
  obtain ⟨e, L, U⟩ := s
  obtain ⟨e', L', U'⟩ := s'
  simp only at hL hU
  subst hL; subst hU
  exact ⟨h.blk, h.dom, h.sep, h.own, h.fr, h.fold, h.fnew, h.os, h.tape, h.output, h.size, h.keep, h.nm, h.nu, h.nl⟩
theorem eo_ok {γ : Nat → Option Value} {F : Nat → Prop} {w : World} {a : Act} (he : ∀ t, VRel γ F w (s.e t) (a.tmps.getD t undef)) (x : Operand) : VRel γ F w (eo s.e x) (a.eval x) := by
  cases x with
  | tmp t => exact he t
  | const v => exact ofV_ok v
  | global g => trivial
  | func f => exact ⟨#[], rfl, rfl⟩

theorem idx_cons {o : Oper} {l : List Nat} (h : l.map (fun i => ops[i]?) = (o :: rest).map some) : ∃ i l', l = i :: l' ∧ ops[i]? = some o ∧ l'.map (fun i => ops[i]?) = rest.map some := by
  cases l with
  | nil => simp at h
  | cons i l' =>
    simp only [List.map_cons, List.cons.injEq] at h
    exact ⟨i, l', rfl, h.1, h.2⟩

/-- An operation is wanted, whatever stands for the state. -/
def Wanted (X : Cx) (ops : Array Oper) (o : Oper) (s : St) (b : Bool) : Prop := ∀ γ F a w, ERel X γ F s a w → Region.wanted o (yielded ops a.tmps) = b
theorem wanted_none {o : Oper} (h : o.guard = none) : Wanted X ops o s true := fun _ _ _ _ _ => by simp [Region.wanted, h]
def yl (ops : Array Oper) (j : Nat) (e : Nat → AV) : AV := match (ops[j]?).bind (·.dst) with | some d => e d | none => .junk
theorem wanted_some {o : Oper} {j : Nat} {want b : Bool} (h : o.guard = some (j, want)) (hy : yl ops j s.e = .v (.bool b)) : Wanted X ops o s (b == want) := by
  intro γ F a w he
  unfold yl at hy
  cases hd : (ops[j]?).bind (·.dst) with
  | none => rw [hd] at hy; cases hy
  | some d =>
    rw [hd] at hy
    simp only at hy
    have hr := he.r d
    rw [hy, VRel] at hr
    have ht : a.tmps[d]? = some (.bool b) := by
      cases ht : a.tmps[d]? with
      | none => simp [ht, undef] at hr
      | some v => simp [ht] at hr; rw [hr]
    have : yielded ops a.tmps j = some b := by simp [yielded, hd, ht]
    simp only [Region.wanted, h, this]
    cases b <;> cases want <;> rfl
theorem wanted_undef {o : Oper} {j : Nat} {want : Bool} {x : Array Value} (h : o.guard = some (j, want)) (hy : yl ops j s.e = .v (.tuple x)) : Wanted X ops o s false := by
  intro γ F a w he
  unfold yl at hy
  cases hd : (ops[j]?).bind (·.dst) with
  | none => rw [hd] at hy; cases hy
  | some d =>
    rw [hd] at hy
    simp only at hy
    have hr := he.r d
    rw [hy, VRel] at hr
    have ht : yielded ops a.tmps j = none := by
      cases ht : a.tmps[d]? with
      | none => simp [yielded, hd, ht]
      | some v => simp [ht] at hr; simp [yielded, hd, ht, hr]
    simp only [Region.wanted, h, ht]
    cases want <;> rfl

theorem ev_defer {T : Nat → TI} {d : Option Tmp} {s : St} {op : Op} {f : Eff} (h : ev T d s op = some f) : ∀ c, op ≠ .defer c := by
  rintro c rfl
  simp [ev, isA, evV, eff0] at h
theorem RunOps.op (hT : TOk X.P X.T) {o : Oper} {f : Eff} (hw : Wanted X ops o s true) (h : ev X.T o.dst s o.op = some f) (hp : put X.nt o.dst f s = some s') (hk : RunOps X ops rest k s') : RunOps X ops (o :: rest) k s := by
  intro l hl γ F a w hi he
  obtain ⟨i, l', rfl, ho, hl'⟩ := idx_cons hl
  obtain ⟨nx, v, w', γ', F', hr, hn, hi', ht, hv⟩ := ev_ok hT hi (fun x => eo_ok he.r x) o h
  obtain ⟨rfl, hlt⟩ := put_eq hp
  exact .op ho (hw γ F a w he) (ev_defer h) hr hn (hk l' hl' γ' F' _ w' (hi'.congr rfl rfl) (ERel.ap (he.d.fwd ht) he.n (fun t => ht.rel (he.r t)) hlt hv))
def effU : Eff := ⟨.v undef, [], [], []⟩
theorem RunOps.skip {o : Oper} (hw : Wanted X ops o s false) (hp : put X.nt o.dst effU s = some s') (hk : RunOps X ops rest k s') : RunOps X ops (o :: rest) k s := by
  intro l hl γ F a w hi he
  obtain ⟨i, l', rfl, ho, hl'⟩ := idx_cons hl
  obtain ⟨rfl, hlt⟩ := put_eq hp
  exact .skip ho (hw γ F a w he) (hk l' hl' γ F _ w (hi.congr rfl rfl) (ERel.ap he.d he.n he.r hlt rfl))
theorem run_call (P : Program) {ρ : Operand → Value} {o : Oper} {f : Operand} {asx : Array Operand} {ats : Array TypeId} {g : FuncId} {caps : Array Value} {w : World} (ho : o.op = .call ⟨.value f, asx, ats⟩) (hf : ρ f = .func (.func g) #[] caps) (hc : Callable P g) :
    (execOp ρ o).run P w = .ok (.enter g (asx.map ρ ++ caps)) w := by
  obtain ⟨fn, h1, h2, h3⟩ := hc.is
  have h4 : ¬ fn.body = none := by cases hb : fn.body <;> simp_all
  have h5 : ¬ fn.name = "runtime.NumGoroutine" := by simpa using h3
  unfold execOp
  rw [ho]
  simp [resolve, hf, Deferred.ofValue, invoke, callFunc, h1, h4, h5]
theorem RunOps.call {o : Oper} {f : Operand} {asx : Array Operand} {ats : Array TypeId} (ho : o.op = .call ⟨.value f, asx, ats⟩) (hw : Wanted X ops o s true)
    (h : CallAt X (eo s.e f) (asx.toList.map (eo s.e)) o.dst ops rest k s) : RunOps X ops (o :: rest) k s := by
  intro l hl γ F a w hi he
  obtain ⟨i, l', rfl, hio, hl'⟩ := idx_cons hl
  obtain ⟨ff, s2, hE, hp, hk⟩ := h
  obtain ⟨g, caps, hf, hc, hC⟩ := hE.ok s (fun _ _ => rfl) (fun n hn => (hE.u n hn).2) γ F w (a.eval f) (asx.toList.map a.eval) hi (eo_ok he.r f) (VL.map_eo _ (fun x => eo_ok he.r x))
  refine .call hio (hw γ F a w he) (fun c h => by rw [ho] at h; cases h) (run_call X.P ho hf hc) ?_
  have e1 : (asx.toList.map a.eval).toArray ++ caps = asx.map a.eval ++ caps := by congr 1; apply Array.ext'; simp
  rw [e1] at hC
  obtain ⟨rfl, hlt⟩ := put_eq hp
  exact hC.mono fun v w' ⟨γ', F', h2, h3, h4⟩ => hk l' hl' γ' F' _ w' (h2.congr rfl rfl) (ERel.ap (he.d.fwd h3) he.n (fun t => h3.rel (he.r t)) hlt h4)
theorem CallE.pure {g : FuncId} {caps args : List AV} {d : Option Tmp} {r : AV} (h : PureFn X.P g (args ++ caps) r) (hn : nfL (args ++ caps) = true) : CallE X s d (.fn g caps) args ⟨r, [], [], []⟩ where
  ok := by
    intro s2 _ _ γ F w fr vs hi hf hv
    obtain ⟨cs, rfl, hcs⟩ := hf
    refine ⟨g, cs, rfl, h.call, (h.run F w (vs.toArray ++ cs) hi.fr ?_).mono ?_⟩
    · have := (hv.append hcs).nf (γ' := noName) _ _ hn
      simpa using this
    · rintro v w2 ⟨F', hr, hb, h1, h2, h3⟩
      exact ⟨γ, F', hi.grow hb h1 h2 h3, Fwd.grow hi hb h1, hr.any⟩
  rdL := fun n h => by cases h
  wr := fun n h => by cases h
  u := fun n h => by cases h
theorem CallAt.pure {g : FuncId} {caps args : List AV} {d : Option Tmp} {r : AV} (h : PureFn X.P g (args ++ caps) r) (hn : nfL (args ++ caps) = true) (hp : put X.nt d ⟨r, [], [], []⟩ s = some s') (hk : RunOps X ops rest k s') :
    CallAt X (.fn g caps) args d ops rest k s := ⟨_, s', .pure h hn, hp, hk⟩
theorem RunOps.done (h : Run X k s) : RunOps X ops [] k s := by
  intro l hl γ F a w hi he
  have : l = [] := by cases l <;> simp_all
  subst this
  exact .of_step (fun cs => stepR_region_end) (h γ F a w hi he)
theorem Run.region {id : Nat} (h : RunOps X ops ops.toList k s) : Run X (.code (.region id ops false) :: k) s := by
  intro γ F a w hi he
  refine .of_step (fun cs => stepR_region) (h (List.range ops.size) ?_ γ F a w hi he)
  apply List.ext_getElem?
  intro n
  simp only [List.getElem?_map, Array.getElem?_toList]
  by_cases hn : n < ops.size
  · simp [hn]
  · simp [hn]
theorem Run.seq {a b : Code} (h : Run X (.code a :: .code b :: k) s) : Run X (.code (.seq a b) :: k) s := .of_step (fun _ _ _ => stepR_seq) h
theorem Run.skip (h : Run X k s) : Run X (.code .skip :: k) s := .of_step (fun _ _ _ => stepR_skip) h
theorem Run.label {l : Nat} (h : Run X k s) : Run X (.code (.label l) :: k) s := .of_step (fun _ _ _ => stepR_label) h
theorem Run.block {id : Nat} {c : Code} (h : Run X (.code c :: .inBlock id :: k) s) : Run X (.code (.block id c) :: k) s := .of_step (fun _ _ _ => stepR_block) h
theorem Run.inBlock {id : Nat} (h : Run X k s) : Run X (.inBlock id :: k) s := .of_step (fun _ _ _ => stepR_inBlock) h
theorem Run.exit {id : Nat} {k' : List Item} (he : exitTo id k = some k') (h : Run X k' s) : Run X (.code (.exit id) :: k) s := .of_step (fun _ _ _ => stepR_exit he) h
theorem Run.goto {l : Nat} {k' : List Item} (he : gotoIn l k = some k') (h : Run X k' s) : Run X (.code (.goto l) :: k) s := .of_step (fun _ _ _ => stepR_goto he) h
theorem Run.inLoop {c : Code} (h : Run X (.code c :: .inLoop c :: k) s) : Run X (.inLoop c :: k) s := .of_step (fun _ _ _ => stepR_inLoop) h
theorem Run.loop1 {c : Code} (h : Run X (.code c :: .inLoop c :: k) s) : Run X (.code (.loop c) :: k) s := .of_step (fun _ _ _ => stepR_loop) h
theorem Run.cond {c : Operand} {a b : Code} {t : Bool} (hc : eo s.e c = .v (.bool t)) (h : Run X (.code (if t then a else b) :: k) s) : Run X (.code (.cond c a b) :: k) s := by
  intro γ F ac w hi he
  have hv := eo_ok he.r c
  rw [hc, VRel] at hv
  exact .of_step (fun cs => stepR_cond hv) (h γ F ac w hi he)

/-! Results. -/
def res1 (T : Nat → TI) (s : St) : ResultVar → Option AV
  | .tmp t => some (s.e t)
  | .cell a t => eLoad s.L (T t).k.isAgg (T t).size (s.e a)
def resL (T : Nat → TI) (s : St) : List ResultVar → Option (List AV)
  | [] => some []
  | x :: xs => (res1 T s x).bind fun a => (resL T s xs).map (a :: ·)
def resA (T : Nat → TI) (s : St) : List ResultVar → Option AV
  | [x] => res1 T s x
  | xs => (resL T s xs).map .tup
/-- One result. -/
def rv (tmps : Array Value) : ResultVar → Sem Value
  | .tmp t => pure (tmps.getD t undef)
  | .cell a t => do loadVar t (← asAddr (tmps.getD a undef))
theorem results_eq (fn : Func) (tmps : Array Value) : results fn tmps = (fn.results.mapM (rv tmps)) >>= fun vs => pure (if h : vs.size = 1 then vs[0] else .tuple vs) := by
  unfold results
  have : (fun (x : ResultVar) => (match x with | .tmp t => pure (tmps.getD t undef) | .cell a t => do loadVar t (← asAddr (tmps.getD a undef)) : Sem Value)) = rv tmps := by
    funext x
    cases x <;> rfl
  rw [← this]
  rfl
theorem res1_ok (hT : TOk X.P X.T) {γ : Nat → Option Value} {F : Nat → Prop} {w : World} {a : Act} (hi : Inv X γ F s w) (he : ∀ t, VRel γ F w (s.e t) (a.tmps.getD t undef)) {x : ResultVar} {r : AV} (h : res1 X.T s x = some r) :
    ∃ v, (rv a.tmps x).run X.P w = .ok v w ∧ VRel γ F w r v := by
  cases x with
  | tmp t => simp only [res1, Option.some.injEq] at h; subst h; exact ⟨_, rfl, he t⟩
  | cell p t =>
    obtain ⟨v, h1, h2⟩ := load_ok hT (fun n b hb => hi.blk n b hb) (he p) h
    refine ⟨v, ?_, h2⟩
    have hp := he p
    simp only [res1] at h
    show Sem.run X.P (asAddr (a.tmps.getD p undef) >>= fun ad => loadVar t ad) w = .ok v w
    generalize a.tmps.getD p undef = y at h1 hp ⊢
    have : ∃ ad, y = .pointer (some ad) := by
      unfold eLoad at h
      split at h
      · rename_i e; rw [e] at hp; obtain ⟨b, _, hp⟩ := hp; exact ⟨_, hp⟩
      · rename_i e; rw [e] at hp; obtain ⟨b, o, hp, _⟩ := hp; exact ⟨_, hp⟩
      · rename_i e; rw [e] at hp; obtain ⟨b, l, c, _, hp⟩ := hp; exact ⟨_, hp⟩
      · cases h
    obtain ⟨ad, rfl⟩ := this
    simpa [asAddr, Instr.loadAt, Instr.sureAddr] using h1
theorem resL_ok (hT : TOk X.P X.T) {γ : Nat → Option Value} {F : Nat → Prop} {w : World} {a : Act} (hi : Inv X γ F s w) (he : ∀ t, VRel γ F w (s.e t) (a.tmps.getD t undef)) : ∀ {xs : List ResultVar} {rs : List AV}, resL X.T s xs = some rs →
    ∃ vs, (xs.mapM (rv a.tmps)).run X.P w = .ok vs w ∧ VL γ F w rs vs
  | [], rs, h => by simp only [resL, Option.some.injEq] at h; subst h; exact ⟨[], rfl, rfl⟩
  | x :: xs, rs, h => by
    simp only [resL] at h
    cases h1 : res1 X.T s x with
    | none => simp [h1] at h
    | some r =>
      cases h2 : resL X.T s xs with
      | none => simp [h1, h2] at h
      | some rs' =>
        simp only [h1, h2, Option.bind_some, Option.map_some, Option.some.injEq] at h
        subst h
        obtain ⟨v, hr, hv⟩ := res1_ok hT hi he h1
        obtain ⟨vs, hrs, hvs⟩ := resL_ok hT hi he h2
        refine ⟨v :: vs, ?_, v, vs, rfl, hv, hvs⟩
        rw [List.mapM_cons, Sem.run_bind, hr]
        simp only [Result.andThen_ok, Sem.run_bind, hrs, Sem.run_pure]
theorem resA_ok (hT : TOk X.P X.T) {γ : Nat → Option Value} {F : Nat → Prop} {w : World} {a : Act} (hi : Inv X γ F s w) (he : ∀ t, VRel γ F w (s.e t) (a.tmps.getD t undef)) {fn : Func} (hfn : fn.results = X.res.toArray) {r : AV} (h : resA X.T s X.res = some r) :
    ∃ v, (results fn a.tmps).run X.P w = .ok v w ∧ VRel γ F w r v := by
  rw [results_eq, hfn, Array.mapM_eq_mapM_toList]
  unfold resA at h
  split at h
  · rename_i x e
    obtain ⟨v, h1, h2⟩ := res1_ok hT hi he h
    refine ⟨v, ?_, h2⟩
    rw [e]
    simp only [List.mapM_cons, List.mapM_nil]
    simp only [Sem.run_bind, Sem.run_map, h1, Result.andThen_ok, Sem.run_pure]
    rfl
  · rename_i hne
    cases hL : resL X.T s X.res with
    | none => simp [hL] at h
    | some rs =>
      simp only [hL, Option.map_some, Option.some.injEq] at h
      subst h
      obtain ⟨vs, h1, h2⟩ := resL_ok hT hi he hL
      have hlen : rs.length ≠ 1 := by
        intro h1
        have : ∀ (xs : List ResultVar) (rs : List AV), resL X.T s xs = some rs → rs.length = xs.length := by
          intro xs
          induction xs with
          | nil => intro rs h; simp only [resL, Option.some.injEq] at h; subst h; rfl
          | cons x xs ih =>
            intro rs h
            simp only [resL] at h
            cases h1 : res1 X.T s x with
            | none => simp [h1] at h
            | some r =>
              cases h2 : resL X.T s xs with
              | none => simp [h1, h2] at h
              | some rs' =>
                simp only [h1, h2, Option.bind_some, Option.map_some, Option.some.injEq] at h
                subst h
                simp [ih rs' h2]
        have hl := this _ _ hL
        rw [h1] at hl
        obtain ⟨x, hx⟩ := List.length_eq_one_iff.1 hl.symm
        exact hne x hx
      refine ⟨.tuple vs.toArray, ?_, vs.toArray, rfl, by simpa using h2⟩
      simp only [Sem.run_bind, Sem.run_map, h1, Result.andThen_ok]
      have : ¬ vs.toArray.size = 1 := by rw [List.size_toArray, h2.length]; exact hlen
      simp only [dif_neg this]
      rfl
/-! Marks come to, at a return. -/
theorem foldl_size : ∀ (M : List Nat) (w : World), (M.foldl (fun w r => w.putObj r (.deferred none)) w).heap.size = w.heap.size
  | [], _ => rfl
  | r :: M, w => by rw [List.foldl_cons, foldl_size M]; simp
theorem foldl_env : ∀ (M : List Nat) (w : World), (M.foldl (fun w r => w.putObj r (.deferred none)) w).os = w.os ∧ (M.foldl (fun w r => w.putObj r (.deferred none)) w).tape = w.tape ∧ (M.foldl (fun w r => w.putObj r (.deferred none)) w).output = w.output
  | [], _ => ⟨rfl, rfl, rfl⟩
  | r :: M, w => by rw [List.foldl_cons]; exact foldl_env M _
theorem foldl_other : ∀ (M : List Nat) (w : World) (k : Nat), k ∉ M → (M.foldl (fun w r => w.putObj r (.deferred none)) w).heap[k]? = w.heap[k]?
  | [], _, _, _ => rfl
  | r :: M, w, k, h => by
    rw [List.foldl_cons, foldl_other M _ k (fun hm => h (List.mem_cons_of_mem _ hm))]
    exact World.putObj_heap_other (fun e => h (e ▸ List.mem_cons_self ..))
def CellsKept (w w' : World) : Prop := ∀ (k : Nat) (cs : Array Value) (t : TypeId) (fz : Nat × Nat), w.heap[k]? = some (.cells cs t fz) → w'.heap[k]? = some (.cells cs t fz)
theorem cell_kept {w w' : World} (h : CellsKept w w') {a : Addr} {v : Value} (hv : w.cell? a = some v) : w'.cell? a = some v := by
  unfold World.cell? at hv ⊢
  split at hv
  · rename_i cs t fz hc; rw [h _ _ _ _ hc]; exact hv
  · cases hv
mutual
theorem VRel.kept {γ : Nat → Option Value} {F : Nat → Prop} {w w' : World} (h : CellsKept w w') : ∀ (av : AV) (y : Value), VRel γ F w av y → VRel γ F w' av y
  | .v _, _, r => r
  | .agg cs, _, ⟨vs, e, r⟩ => ⟨vs, e, VL.kept h cs _ r⟩
  | .tup cs, _, ⟨vs, e, r⟩ => ⟨vs, e, VL.kept h cs _ r⟩
  | .sl es _ rows, _, ⟨A, cap, e, h1, h4, h2, h5, h3⟩ => ⟨A, cap, e, h1, h4, h2, h5, h3.imp id (fun ⟨b, o, e1, hb, r⟩ => ⟨b, o, e1, hb, VR.kept h es b rows o r⟩)⟩
  | .rp cs, _, ⟨b, o, e, hb, r⟩ => ⟨b, o, e, hb, VC.kept h b cs o r⟩
  | .pt _ _, _, r => r
  | .ow _, _, r => r
  | .po _ _ _ _, _, r => r
  | .os _ _ _ _, _, r => r
  | .fn _ cs, _, ⟨vs, e, r⟩ => ⟨vs, e, VL.kept h cs _ r⟩
  | .junk, _, _ => trivial
theorem VL.kept {γ : Nat → Option Value} {F : Nat → Prop} {w w' : World} (h : CellsKept w w') : ∀ (cs : List AV) (vs : List Value), VL γ F w cs vs → VL γ F w' cs vs
  | [], _, r => r
  | c :: cs, vs, ⟨v, vs', e, h1, h2⟩ => ⟨v, vs', e, VRel.kept h c v h1, VL.kept h cs vs' h2⟩
theorem VC.kept {F : Nat → Prop} {w w' : World} (h : CellsKept w w') (b : Nat) : ∀ (cs : List AV) (o : Nat), VC F w b o cs → VC F w' b o cs
  | [], _, _ => trivial
  | c :: cs, o, ⟨⟨v, e, h0, h1⟩, h2⟩ => ⟨⟨v, cell_kept h e, h0, VRel.kept h c v h1⟩, VC.kept h b cs (o + 1) h2⟩
theorem VR.kept {F : Nat → Prop} {w w' : World} (h : CellsKept w w') (es b : Nat) : ∀ (rs : List (List AV)) (o : Nat), VR F w es b o rs → VR F w' es b o rs
  | [], _, _ => trivial
  | r :: rs, o, ⟨e, h1, h2⟩ => ⟨e, VC.kept h b r o h1, VR.kept h es b rs (o + es) h2⟩
end
theorem ML.kept {F : Nat → Prop} {w w' : World} (h : CellsKept w w') : ∀ (ps : List (Int × AV)) (es : List MapEntry), ML F w ps es → ML F w' ps es
  | [], _, r => r
  | p :: ps, _, ⟨e, es', h0, h1, h2, h3⟩ => ⟨e, es', h0, h1, VRel.kept h p.2 e.val h2, ML.kept h ps es' h3⟩
theorem BRel.kept {γ : Nat → Option Value} {F : Nat → Prop} {w w' : World} (h : CellsKept w w') (hm : ∀ (k : Nat) (es : Array MapEntry) (c : Nat), w.heap[k]? = some (.map es c) → w'.heap[k]? = some (.map es c))
    {n : Nat} {b : Blk} (r : BRel γ F w n b) : BRel γ F w' n b := by
  cases b with
  | box t cs =>
    obtain ⟨b, arr, hg, hh, hv, h1⟩ := r
    exact ⟨b, arr, hg, h _ _ _ _ hh, VL.kept h _ _ hv, h1⟩
  | own t es rows =>
    obtain ⟨sv, xs, hg, ho, hv, h1⟩ := r
    refine ⟨sv, xs, hg, ?_, VL.kept h _ _ hv, h1⟩
    rcases ho with ho | ho
    · refine .inl ⟨ho.1, ?_⟩
      rcases ho.2 with hn | ⟨g, cap, cur, e, hb', hgg, rest⟩
      · exact .inl hn
      · exact .inr ⟨g, cap, cur, e, hb', h _ _ _ _ hgg, rest⟩
    · exact .inr ho
  | mp es =>
    obtain ⟨r, ents, clock, hg, hh, hml⟩ := r
    exact ⟨r, ents, clock, hg, hm _ _ _ hh, ML.kept h _ _ hml⟩
/-- What is at a return: the marks come to. -/
theorem Inv.marks {γ : Nat → Option Value} {F : Nat → Prop} {w w' : World} (hi : Inv X γ F s w) (h : ∃ M : List Nat, (∀ r ∈ M, X.w0.heap.size ≤ r ∧ F r ∧ w.heap[r]? = some (.deferred (some []))) ∧ M.Nodup ∧ w' = M.foldl (fun w r => w.putObj r (.deferred none)) w) :
    Inv X γ F s w' ∧ ∀ a y, VRel γ F w a y → VRel γ F w' a y := by
  obtain ⟨M, hM, _, rfl⟩ := h
  have hc : ∀ (k : Nat) (cs : Array Value) (t : TypeId) (fz : Nat × Nat), w.heap[k]? = some (.cells cs t fz) → (M.foldl (fun w r => w.putObj r (.deferred none)) w).heap[k]? = some (.cells cs t fz) := fun k cs t fz h => by
    rw [foldl_other M w k (fun hm => by rw [(hM k hm).2.2] at h; cases h)]; exact h
  have hm : ∀ (k : Nat) (es : Array MapEntry) (c : Nat), w.heap[k]? = some (.map es c) → (M.foldl (fun w r => w.putObj r (.deferred none)) w).heap[k]? = some (.map es c) := fun k es c h => by
    rw [foldl_other M w k (fun hm => by rw [(hM k hm).2.2] at h; cases h)]; exact h
  have hsz := foldl_size M w
  obtain ⟨h1, h2, h3⟩ := foldl_env M w
  exact ⟨{ blk := fun n b hn => (hi.blk n b hn).kept hc hm, dom := hi.dom, sep := hi.sep
           own := fun n k hn hk => by obtain ⟨a, b, c⟩ := hi.own n k hn hk; exact ⟨a, by rw [hsz]; exact b, c⟩
           fr := fun k hk => by rw [hsz]; exact hi.fr k hk
           fold := hi.fold, fnew := hi.fnew, os := h1.trans hi.os, tape := h2.trans hi.tape, output := h3.trans hi.output
           size := by rw [hsz]; exact hi.size
           keep := fun k hk ho => (foldl_other M w k (fun hm => by have := (hM k hm).1; omega)).trans (hi.keep k hk ho)
           nm := hi.nm, nu := hi.nu, nl := hi.nl }, fun a y h => VRel.kept hc a y h⟩

/-- At a return. -/
def RetAt (X : Cx) (s : St) : Prop := X.ro = none ∧ ∃ r, resA X.T s X.res = some r ∧ ∀ γ F v w, Inv X γ F s w → VRel γ F w r v → X.K v w
/-- At the end of a round, with what is to be done behind the loop. -/
def EndAt (X : Cx) (j : Option Code) (s : St) : Prop := ∃ l, X.ro = some l ∧ ∀ γ F w, Inv X γ F s w → ∃ r w', w.heap[l]? = some (.loop r) ∧ w' = w.putObj l (.loop { r with state := if j.isNone then .ready else .done, pending := j }) ∧ X.J j w'
/-- Where a function or a round ends. -/
def FinAt (X : Cx) (j : Option Code) (s : St) : Prop := match X.ro with
  | none => (j = none ∨ j = some .ret) ∧ RetAt X s
  | some _ => EndAt X j s
theorem Run.ret0 (hT : TOk X.P X.T) (hF : Fn X) (h : RetAt X s) : Run X (.code .ret :: k) s := by
  intro γ F a w hi he
  obtain ⟨hro, r, h1, h2⟩ := h
  obtain ⟨fn, hf, hr⟩ := hF.fn
  refine .leave hro (fun cs => stepR_ret hro) he.d hf (fun w' hw' => ?_)
  obtain ⟨hi', ht⟩ := hi.marks hw'
  have he' : ∀ t, VRel γ F w' (s.e t) (a.tmps.getD t undef) := fun t => ht _ _ (he.r t)
  obtain ⟨v, hv, hrel⟩ := resA_ok hT hi' he' hr h1
  exact ⟨v, hv, h2 γ F v w' hi' hrel⟩
theorem Run.done0 (hT : TOk X.P X.T) (hF : Fn X) (h : RetAt X s) : Run X [] s := by
  intro γ F a w hi he
  obtain ⟨hro, r, h1, h2⟩ := h
  obtain ⟨fn, hf, hr⟩ := hF.fn
  refine .leave hro (fun cs => stepR_end hro) he.d hf (fun w' hw' => ?_)
  obtain ⟨hi', ht⟩ := hi.marks hw'
  have he' : ∀ t, VRel γ F w' (s.e t) (a.tmps.getD t undef) := fun t => ht _ _ (he.r t)
  obtain ⟨v, hv, hrel⟩ := resA_ok hT hi' he' hr h1
  exact ⟨v, hv, h2 γ F v w' hi' hrel⟩
theorem EndAt.goes {j : Option Code} {todo : List Item} {γ : Nat → Option Value} {F : Nat → Prop} {a : Act} {w : World} (h : EndAt X j s) (hi : Inv X γ F s w)
    (hs : ∀ (l : Nat) (c : Frame) (cs : List Frame) (v : Value) (w' : World), X.ro = some l → (Instr.endRound l j).run X.P w = .ok v w' → step X.P (lone ((base X).atR a todo) (c :: cs) w) = .next (lone (c.finish v) cs w')) : Goes X todo a w := by
  obtain ⟨l, hro, h⟩ := h
  obtain ⟨r, w', hw, rfl, hJ⟩ := h γ F w hi
  intro cs hcs
  obtain ⟨c, cs', rfl⟩ : ∃ c cs', cs = c :: cs' := by
    cases cs with
    | nil => exact absurd rfl (hcs (by rw [hro]; simp))
    | cons c cs' => exact ⟨c, cs', rfl⟩
  refine ⟨_, ?_, .one (hs l c cs' _ _ hro (run_endRound j hw))⟩
  rw [Fin, hro]
  exact ⟨c, cs', j, _, rfl, rfl, hJ⟩
theorem Run.ret (hT : TOk X.P X.T) (hF : Fn X) (h : FinAt X (some .ret) s) : Run X (.code .ret :: k) s := by
  unfold FinAt at h
  split at h
  · exact .ret0 hT hF h.2
  · intro γ F a w hi he
    exact h.goes hi (fun l c cs v w' hro hr => stepR_round_ret hro rfl hr)
theorem Run.done (hT : TOk X.P X.T) (hF : Fn X) (h : FinAt X none s) : Run X [] s := by
  unfold FinAt at h
  split at h
  · exact .done0 hT hF h.2
  · intro γ F a w hi he
    exact h.goes hi (fun l c cs v w' hro hr => stepR_round_end hro rfl hr)
theorem Run.out {id : Nat} (hx : exitTo id k = none) (h : FinAt X (some (.exit id)) s) : Run X (.code (.exit id) :: k) s := by
  unfold FinAt at h
  split at h
  · rcases h.1 with h | h
    · cases h
    · injection h with h; cases h
  · intro γ F a w hi he
    exact h.goes hi (fun l c cs v w' hro hr => stepR_round_exit hro rfl hx hr)
end
end Go.Proofs.YtkbidoikndgheaaDoor.HL

namespace Go.Proofs.YtkbidoikndgheaaDoor.HL
open Go.RowKit

/-! What a value is outside: some names are kept, by other names; what else is named is read only from then on. -/
def frzB (o : Nat) : Option Blk → Option AV
  | some (.box _ cs) => if nfL cs = true then some (.rp (cs.drop o)) else none
  | _ => none
mutual
def cv (L : Nat → Option Blk) (B : Nat → Option Nat) : AV → Option AV
  | .v x => some (.v x)
  | .agg cs => (cvL L B cs).map .agg
  | .tup cs => (cvL L B cs).map .tup
  | .sl es x rows => some (.sl es x rows)
  | .rp cs => some (.rp cs)
  | .pt n o => match B n with | some m => some (.pt m o) | none => frzB o (L n)
  | .po n es i k => (B n).map fun m => .po m es i k
  | .os n es i j => (B n).map fun m => .os m es i j
  | .ow n => match B n with | some m => some (.ow m) | none => match ownOf (L n) with | some (_, es, rows) => some (.sl es false rows) | none => none
  | .fn f cs => (cvL L B cs).map (.fn f)
  | .junk => some .junk
def cvL (L : Nat → Option Blk) (B : Nat → Option Nat) : List AV → Option (List AV)
  | [] => some []
  | c :: cs => (cv L B c).bind fun a => (cvL L B cs).map (a :: ·)
end
def cvB (L : Nat → Option Blk) (B : Nat → Option Nat) : Blk → Option Blk
  | .box t cs => (cvL L B cs).map (.box t)
  | .own t es rows => some (.own t es rows)
  | .mp es => some (.mp es)
def noB : Nat → Option Nat := fun _ => none
abbrev frz (L : Nat → Option Blk) (a : AV) : Option AV := cv L noB a
abbrev frzL (L : Nat → Option Blk) (cs : List AV) : Option (List AV) := cvL L noB cs
def FF (γ : Nat → Option Value) (F : Nat → Prop) (L : Nat → Option Blk) (B : Nat → Option Nat) (b : Nat) : Prop := F b ∨ ∃ n, (L n).isSome ∧ B n = none ∧ nmb γ n = some b
section
variable {γ : Nat → Option Value} {F : Nat → Prop} {s : St} {w : World}
theorem own_sl {L : Nat → Option Blk} {B : Nat → Option Nat} (hL : ∀ n b, L n = some b → BRel γ F w n b) {n t es : Nat} {rows : List (List AV)} {v : Value} (hn : L n = some (.own t es rows)) (hB : B n = none) (hg : γ n = some v) {γ' : Nat → Option Value} : VRel γ' (FF γ F L B) w (.sl es false rows) v := by
  obtain ⟨sv, xs, hg', ho, hv, hl, h1⟩ := hL n _ hn
  rw [hg] at hg'
  injection hg' with hg'
  subst hg'
  have hv' : VL noName (FF γ F L B) w rows.flatten xs := hv.mono (fun _ h => .inl h) (fun _ _ => rfl) _ _ (fun _ _ _ h => h)
  rcases ho with ho | ⟨h0, _, A, rfl⟩
  · rcases ho.2 with ⟨rfl, h0⟩ | ⟨g, cap, cur, rfl, _, hgg, hle, hcm, hcs, htk⟩
    · refine ⟨none, 0, by rw [h0], by omega, by unfold maxLen; omega, by simp, fun _ => rfl, .inl ?_⟩
      exact List.eq_nil_of_length_eq_zero h0
    · cases cap with
      | zero => exact ⟨_, 0, rfl, hle, hcm, by simp, (fun _ => rfl), .inl (List.eq_nil_of_length_eq_zero (by omega))⟩
      | succ c =>
        refine ⟨_, c + 1, rfl, hle, hcm, by simp, (fun h => by cases h), .inr ⟨g, 0, rfl, .inr ⟨n, by simp [hn], hB, by simp [nmb, hg, blockOf]⟩, ?_⟩⟩
        have hr := (Rd.of_cells hgg).take (rows.length * es)
        rw [htk] at hr
        exact VR.of_rd hr hv' h1 hl
  · exact ⟨A, 0, by rw [h0], by omega, by unfold maxLen; omega, by simp, (fun _ => rfl), .inl (List.eq_nil_of_length_eq_zero (by omega))⟩
theorem frzB_ok {L : Nat → Option Blk} {B : Nat → Option Nat} (hL : ∀ n b, L n = some b → BRel γ F w n b) {n o : Nat} {v : Value} {r : AV} (h : VRel γ F w (.pt n o) v) (hB : B n = none) (e : frzB o (L n) = some r) {γ' : Nat → Option Value} : VRel γ' (FF γ F L B) w r v := by
  unfold frzB at e
  split at e
  · rename_i t cs hn
    split at e
    · rename_i hnf
      simp only [Option.some.injEq] at e
      subst e
      obtain ⟨b, hg, rfl⟩ := h
      obtain ⟨b', arr, hg', hh, hv, h1⟩ := hL n _ hn
      rw [hg] at hg'
      obtain rfl : b = b' := by simpa using hg'
      refine ⟨b, o, rfl, .inr ⟨n, by simp [hn], hB, by simp [nmb, hg, blockOf]⟩, ?_⟩
      have hv' : VL noName (FF γ F L B) w cs arr.toList := (hv.mono (fun _ h => .inl h) (fun _ _ => rfl) _ _ (fun _ _ _ h => h)).nf _ _ hnf
      have := VC.of_rd ((Rd.of_cells hh).drop o) (hv'.drop o) (fun v h => h1 v (List.mem_of_mem_drop h))
      rwa [Nat.zero_add] at this
    · cases e
  · cases e
end
mutual
theorem cv_ok {γ : Nat → Option Value} {F : Nat → Prop} {w : World} {L : Nat → Option Blk} {B : Nat → Option Nat} {γ' : Nat → Option Value} (hL : ∀ n b, L n = some b → BRel γ F w n b) (hγ : ∀ n m, B n = some m → γ' m = γ n) :
    ∀ (a : AV) (v : Value) (r : AV), VRel γ F w a v → cv L B a = some r → VRel γ' (FF γ F L B) w r v
  | .v x, v, r, h, e => by simp only [cv, Option.some.injEq] at e; subst e; exact h
  | .agg cs, v, r, ⟨vs, e1, h⟩, e => by
    simp only [cv, Option.map_eq_some_iff] at e
    obtain ⟨rs, e2, rfl⟩ := e
    exact ⟨vs, e1, cvL_ok hL hγ cs _ rs h e2⟩
  | .tup cs, v, r, ⟨vs, e1, h⟩, e => by
    simp only [cv, Option.map_eq_some_iff] at e
    obtain ⟨rs, e2, rfl⟩ := e
    exact ⟨vs, e1, cvL_ok hL hγ cs _ rs h e2⟩
  | .sl es x rows, v, r, h, e => by
    simp only [cv, Option.some.injEq] at e; subst e
    exact VRel.nf (γ := γ) _ _ rfl (h.mono (fun _ h => .inl h) (fun _ _ => rfl) _ _ (fun _ _ _ h => h))
  | .rp cs, v, r, h, e => by
    simp only [cv, Option.some.injEq] at e; subst e
    exact VRel.nf (γ := γ) _ _ rfl (h.mono (fun _ h => .inl h) (fun _ _ => rfl) _ _ (fun _ _ _ h => h))
  | .pt n o, v, r, h, e => by
    simp only [cv] at e
    cases hB : B n with
    | some m =>
      rw [hB] at e
      simp only [Option.some.injEq] at e
      subst e
      obtain ⟨b, hg, h2⟩ := h
      exact ⟨b, (hγ n m hB).trans hg, h2⟩
    | none => rw [hB] at e; exact frzB_ok hL h hB e
  | .po n es i k, v, r, ⟨b, l, c, hg, h2⟩, e => by
    simp only [cv, Option.map_eq_some_iff] at e
    obtain ⟨m, hB, rfl⟩ := e
    exact ⟨b, l, c, (hγ n m hB).trans hg, h2⟩
  | .os n es i j, v, r, ⟨b, l, c, o, hg, h2⟩, e => by
    simp only [cv, Option.map_eq_some_iff] at e
    obtain ⟨m, hB, rfl⟩ := e
    exact ⟨b, l, c, o, (hγ n m hB).trans hg, h2⟩
  | .ow n, v, r, ⟨hg, hs⟩, e => by
    simp only [cv] at e
    cases hB : B n with
    | some m =>
      rw [hB] at e
      simp only [Option.some.injEq] at e
      subst e
      exact ⟨(hγ n m hB).trans hg, hs⟩
    | none =>
      rw [hB] at e
      simp only at e
      cases hn : ownOf (L n) with
      | none => simp [hn] at e
      | some b =>
        obtain ⟨t, es, rows⟩ := b
        simp only [hn, Option.some.injEq] at e
        subst e
        exact own_sl hL (ownOf_some hn) hB hg
  | .fn f cs, v, r, ⟨vs, e1, h⟩, e => by
    simp only [cv, Option.map_eq_some_iff] at e
    obtain ⟨rs, e2, rfl⟩ := e
    exact ⟨vs, e1, cvL_ok hL hγ cs _ rs h e2⟩
  | .junk, v, r, _, e => by simp only [cv, Option.some.injEq] at e; subst e; trivial
theorem cvL_ok {γ : Nat → Option Value} {F : Nat → Prop} {w : World} {L : Nat → Option Blk} {B : Nat → Option Nat} {γ' : Nat → Option Value} (hL : ∀ n b, L n = some b → BRel γ F w n b) (hγ : ∀ n m, B n = some m → γ' m = γ n) :
    ∀ (cs : List AV) (vs : List Value) (rs : List AV), VL γ F w cs vs → cvL L B cs = some rs → VL γ' (FF γ F L B) w rs vs
  | [], vs, rs, h, e => by simp only [cvL, Option.some.injEq] at e; subst e; exact h
  | c :: cs, vs, rs, ⟨v, vs', e1, h1, h2⟩, e => by
    simp only [cvL] at e
    cases e2 : cv L B c with
    | none => simp [e2] at e
    | some a =>
      cases e3 : cvL L B cs with
      | none => simp [e2, e3] at e
      | some asx =>
        simp only [e2, e3, Option.bind_some, Option.map_some, Option.some.injEq] at e
        subst e
        exact ⟨v, vs', e1, cv_ok hL hγ c v a h1 e2, cvL_ok hL hγ cs vs' asx h2 e3⟩
end
section
variable {X : Cx} {γ : Nat → Option Value} {F : Nat → Prop} {s : St} {w : World}
theorem frz_ok (hi : Inv X γ F s w) (a : AV) (v : Value) (r : AV) (h : VRel γ F w a v) (e : frz s.L a = some r) : VRel noName (FF γ F s.L noB) w r v := cv_ok (fun n b hb => hi.blk n b hb) (fun _ _ h => by cases h) a v r h e
theorem frzL_ok (hi : Inv X γ F s w) (cs : List AV) (vs : List Value) (rs : List AV) (h : VL γ F w cs vs) (e : frzL s.L cs = some rs) : VL noName (FF γ F s.L noB) w rs vs := cvL_ok (fun n b hb => hi.blk n b hb) (fun _ _ h => by cases h) cs vs rs h e
end

/-! Entering a function. -/
def argsE : List AV → Nat → AV
  | [], _ => .v undef
  | a :: _, 0 => a
  | _ :: asx, n + 1 => argsE asx n
def tb1 (L : List (Nat × Blk)) : Nat → Option Blk := tb none (L.map fun p => (p.1, some p.2))
def enter (args : List AV) : St := ⟨argsE args, fun _ => none, fun _ => false⟩
def enterL (args : List AV) (L : List (Nat × Blk)) : St := ⟨argsE args, tb1 L, fun n => (L.map (·.1)).contains n⟩
theorem argsE_ok {γ : Nat → Option Value} {F : Nat → Prop} {w : World} : ∀ {args : List AV} {vs : List Value} (m t : Nat), VL γ F w args vs → VRel γ F w (argsE args t) ((vs ++ List.replicate m undef).getD t undef)
  | [], vs, m, t, h => by
    rw [VL] at h; subst h
    simp only [argsE, List.nil_append, VRel, List.getD_eq_getElem?_getD, List.getElem?_replicate]
    split <;> rfl
  | a :: asx, _, m, 0, ⟨v, vs', e, h1, _⟩ => by subst e; simpa [argsE] using h1
  | a :: asx, _, m, t + 1, ⟨v, vs', e, _, h2⟩ => by subst e; simpa [argsE] using argsE_ok m t h2
/-- What is fixed of a function's activation. -/
structure XW (P : Program) (T : Nat → TI) (g nt : Nat) (res : List ResultVar) (X : Cx) : Prop where
  P : X.P = P
  T : X.T = T
  f : X.f = g
  nt : X.nt = nt
  res : X.res = res
  ok : TOk X.P X.T
  fn : Fn X
def PureK (w : World) (F : Nat → Prop) (r : AV) (v : Value) (w' : World) : Prop :=
  ∃ F', VRel noName F' w' r v ∧ Below w.heap.size w w' ∧ (∀ b, F b → F' b) ∧ (∀ b, F' b → F b ∨ w.heap.size ≤ b) ∧ (∀ b, F' b → b < w'.heap.size)
structure PX (P : Program) (T : Nat → TI) (g nt : Nat) (res : List ResultVar) (r : AV) (X : Cx) : Prop extends XW P T g nt res X where
  ro : X.ro = none
  J : ¬ X.tag
  K : X.K = PureK X.w0 X.F0 r
  O : X.O = fun _ => False
  N : X.N = noName
  NL : X.NL = []
/-- There are values of this kind. -/
def Real (args : List AV) : Prop := ∃ F w vs, VL noName F w args vs
section
variable {P : Program} {T : Nat → TI} {g : FuncId} {fn : Func} {c : Code} {nt : Nat} {res : List ResultVar} {args : List AV} {r : AV}
theorem start_ok {X : Cx} {γ : Nat → Option Value} {F : Nat → Prop} {w : World} {vs : Array Value} {e : Nat → AV} {L : Nat → Option Blk} {U : Nat → Bool} (hnt : fn.ntmps = X.nt) (hal : args.length ≤ X.nt) (hv : VL γ F w args vs.toList) (he : e = argsE args) :
    ERel X γ F ⟨e, L, U⟩ { tmps := vs ++ Array.replicate (fn.ntmps - vs.size) undef, defers := [] } w := by
  subst he
  have hsz : vs.size = args.length := by have := hv.length; simpa using this
  refine ⟨⟨fun _ => rfl, [], .nil, rfl, fun r h => by cases h⟩, ?_, fun t => ?_⟩
  · show (vs ++ Array.replicate (fn.ntmps - vs.size) undef).size = X.nt
    simp; omega
  · have := argsE_ok (fn.ntmps - vs.size) t hv
    have e : (vs ++ Array.replicate (fn.ntmps - vs.size) undef).getD t undef = (vs.toList ++ List.replicate (fn.ntmps - vs.size) undef).getD t undef := by
      rw [Array.getD_eq_getD_getElem?, List.getD_eq_getElem?_getD, ← Array.getElem?_toList]; simp
    rw [e]
    exact this
/-- A function's contract, as the machine says it. -/
theorem calls_of_run (hT : TOk P T) (hf : P.funcs[g]? = some fn) (hb : fn.body = some c)
    (hnt : fn.ntmps = nt) (hres : fn.results = res.toArray) (hal : args.length ≤ nt)
    (h : ∀ X : Cx, PX P T g nt res r X → Real args → Run X [.code c] (enter args)) (F : Nat → Prop) (w : World) (vs : Array Value) (hF : ∀ b, F b → b < w.heap.size) (hv : VL noName F w args vs.toList) :
    Calls P g vs w fun e w' => ∃ v, e = .returned v ∧ PureK w F r v w' := by
  let X : Cx := ⟨P, T, g, nt, res, none, w, fun _ => False, F, [], noName, PureK w F r, fun _ _ => False⟩
  have hX : PX P T g nt res r X := ⟨⟨rfl, rfl, rfl, rfl, rfl, hT, ⟨fn, hf, hres⟩⟩, rfl, id, rfl, rfl, rfl, rfl⟩
  have hi : Inv X noName F (enter args) w :=
    { blk := fun n b h => by cases h
      dom := fun n v h => by cases h
      sep := fun n m k h => by cases h
      own := fun n k h => by cases h
      fr := hF
      fold := fun _ h => h
      fnew := fun _ h => .inl h
      os := rfl, tape := rfl, output := rfl, size := Nat.le_refl _, keep := fun _ _ _ => rfl, nm := (fun _ _ h => by cases h), nu := (fun _ _ h => by cases h), nl := (fun _ _ h => by cases h) }
  exact calls_of_goes (X := X) hf hb rfl (h X hX ⟨F, w, _, hv⟩ noName F _ w hi (start_ok (X := X) hnt hal hv rfl))
theorem PureFn.of_run (hT : TOk P T) (hf : P.funcs[g]? = some fn) (hb : fn.body = some c)
    (hname : (fn.name == "runtime.NumGoroutine") = false) (hnt : fn.ntmps = nt) (hres : fn.results = res.toArray) (hal : args.length ≤ nt)
    (h : ∀ X : Cx, PX P T g nt res r X → Real args → Run X [.code c] (enter args)) : PureFn P g args r :=
  ⟨⟨fn, hf, by rw [hb]; rfl, hname⟩, fun F w vs hF hv => .of_calls (calls_of_run hT hf hb hnt hres hal h F w vs hF hv) (fun e w' h => h)⟩
end
theorem PX.ret {P : Program} {T : Nat → TI} {g nt : Nat} {res : List ResultVar} {r : AV} {X : Cx} {s : St} {j : Option Code} (hX : PX P T g nt res r X) (hj : j = none ∨ j = some .ret) (h : (resA T s res).bind (frz s.L) = some r) : FinAt X j s := by
  unfold FinAt
  rw [hX.ro]
  cases h1 : resA T s res with
  | none => rw [h1] at h; cases h
  | some a =>
    rw [h1] at h
    refine ⟨hj, hX.ro, a, by rw [hX.T, hX.res]; exact h1, fun γ F v w hi hv => ?_⟩
    rw [hX.K]
    have hr := frz_ok hi a v r hv h
    have hO : ∀ k, ¬ X.O k := fun k => by rw [hX.O]; exact fun h => h
    refine ⟨FF γ F s.L noB, hr, ⟨hi.os, hi.tape, hi.output, hi.size, fun k hk => hi.keep k hk (hO k)⟩, fun b hb => .inl (hi.fold b hb), ?_, ?_⟩
    · rintro b (hb | ⟨n, hn, _, hk⟩)
      · exact (hi.fnew b hb).imp id (fun h => h.elim id (fun h => (hO _ h).elim))
      · exact .inr ((hi.own n b hn hk).2.2.elim id (fun h => (hO _ h).elim))
    · rintro b (hb | ⟨n, hn, _, hk⟩)
      · exact hi.fr b hb
      · exact (hi.own n b hn hk).2.1
theorem Real.len {es : Nat} {x : Bool} {rows : List (List AV)} : ∀ {args : List AV}, Real args → AV.sl es x rows ∈ args → rows.length ≤ 9223372036854775807
  | [], _, h => by cases h
  | a :: asx, ⟨F, w, _, v, vs', rfl, h1, h2⟩, h => by
    rcases List.mem_cons.1 h with h | h
    · subst h
      obtain ⟨A, cap, _, h3, h4, _⟩ := h1
      unfold maxLen at h4
      omega
    · exact Real.len ⟨F, w, vs', h2⟩ h
theorem Real.agg {cs : List AV} : ∀ {args : List AV}, Real args → AV.agg cs ∈ args → Real cs
  | [], _, h => by cases h
  | a :: asx, ⟨F, w, _, v, vs', rfl, h1, h2⟩, h => by
    rcases List.mem_cons.1 h with h | h
    · subst h
      obtain ⟨vs, _, h⟩ := h1
      exact ⟨F, w, _, h⟩
    · exact Real.agg ⟨F, w, vs', h2⟩ h
theorem wrap_id {n : Int} (h0 : -9223372036854775808 ≤ n) (h1 : n ≤ 9223372036854775807) : IntKind.i64.wrap n = n := by
  rw [IntKind.wrap_i64]; omega
theorem wrap_succ {n : Nat} {m : Nat} (h : n < m) (h1 : m ≤ 9223372036854775807) : IntKind.i64.wrap ((n : Int) + 1) = ((n + 1 : Nat) : Int) := by
  rw [wrap_id (by omega) (by omega)]; rfl

/-! Functions that are lent named blocks, and hand some back. -/
structure Sit (γ : Nat → Option Value) (F : Nat → Prop) (L : Nat → Option Blk) (w : World) : Prop where
  blk : ∀ n b, L n = some b → BRel γ F w n b
  sep : ∀ n m k, (L n).isSome → (L m).isSome → nmb γ n = some k → nmb γ m = some k → n = m
  own : ∀ n k, (L n).isSome → nmb γ n = some k → ¬ F k ∧ k < w.heap.size
  fr : ∀ k, F k → k < w.heap.size
structure FnK (γ : Nat → Option Value) (F : Nat → Prop) (w : World) (L : Nat → Option Blk) (r : AV) (L' : Nat → Option Blk) (v : Value) (w' : World) : Prop where
  k : ∃ γ' F', VRel γ' F' w' r v ∧ Sit γ' F' L' w' ∧ (∀ n, (L n).isSome → (L' n).isSome → γ' n = γ n) ∧ (∀ b, F b → F' b) ∧ (∀ b, F' b → F b ∨ w.heap.size ≤ b ∨ ∃ n, (L n).isSome ∧ nmb γ n = some b) ∧
    (∀ n k, (L' n).isSome → nmb γ' n = some k → w.heap.size ≤ k ∨ ∃ m, (L m).isSome ∧ nmb γ m = some k) ∧ (∀ n v, γ' n = some v → (L' n).isSome)
  os : w'.os = w.os
  tape : w'.tape = w.tape
  output : w'.output = w.output
  size : w.heap.size ≤ w'.heap.size
  keep : ∀ k, k < w.heap.size → (∀ n, (L n).isSome → nmb γ n ≠ some k) → w'.heap[k]? = w.heap[k]?
structure FnE (P : Program) (g : FuncId) (args : List AV) (L : List (Nat × Blk)) (r : AV) (L' : List (Nat × Blk)) : Prop where
  call : Callable P g
  run : ∀ γ F w vs, Sit γ F (tb1 L) w → VL γ F w args vs.toList → CallsR P g vs w (FnK γ F w (tb1 L) r (tb1 L'))
theorem tb1_some {L : List (Nat × Blk)} {n : Nat} {b : Blk} (h : tb1 L n = some b) : (n, b) ∈ L := by
  unfold tb1 at h
  induction L with
  | nil => cases h
  | cons p L ih =>
    simp only [List.map_cons, tb] at h
    split at h
    · rename_i e
      obtain ⟨m, c⟩ := p
      simp only [Option.some.injEq] at h
      simp only at e
      subst h; subst e
      exact List.mem_cons_self ..
    · exact List.mem_cons_of_mem _ (ih h)
theorem tb1_isSome {L : List (Nat × Blk)} {n : Nat} : (tb1 L n).isSome = (L.map (·.1)).contains n := by
  unfold tb1
  induction L with
  | nil => rfl
  | cons p L ih =>
    simp only [List.map_cons, tb, List.contains_cons]
    by_cases e : n = p.1
    · subst e; simp
    · rw [if_neg e, ih]; simp [e]
end Go.Proofs.YtkbidoikndgheaaDoor.HL

namespace Go.Proofs.YtkbidoikndgheaaDoor.HL
open Go.RowKit

/-! Weakening, loops. -/
mutual
def inU (U : List Nat) : AV → Bool
  | .agg cs => inUL U cs
  | .tup cs => inUL U cs
  | .pt n _ => U.contains n
  | .ow n => U.contains n
  | .po n _ _ _ => U.contains n
  | .os n _ _ _ => U.contains n
  | .fn _ cs => inUL U cs
  | .v _ => true
  | .sl _ _ _ => true
  | .rp _ => true
  | .junk => true
def inUL (U : List Nat) : List AV → Bool
  | [] => true
  | c :: cs => inU U c && inUL U cs
end
mutual
theorem uses_inU {U : List Nat} {n : Nat} : ∀ (a : AV), inU U a = true → uses n a = true → U.contains n = true
  | .agg cs, h, h1 => usesL_inU cs (by simpa [inU] using h) (by simpa [uses] using h1)
  | .tup cs, h, h1 => usesL_inU cs (by simpa [inU] using h) (by simpa [uses] using h1)
  | .fn _ cs, h, h1 => usesL_inU cs (by simpa [inU] using h) (by simpa [uses] using h1)
  | .pt m o, h, h1 => by simp only [inU] at h; simp only [uses, beq_iff_eq] at h1; subst h1; exact h
  | .ow m, h, h1 => by simp only [inU] at h; simp only [uses, beq_iff_eq] at h1; subst h1; exact h
  | .po m _ _ _, h, h1 => by simp only [inU] at h; simp only [uses, beq_iff_eq] at h1; subst h1; exact h
  | .os m _ _ _, h, h1 => by simp only [inU] at h; simp only [uses, beq_iff_eq] at h1; subst h1; exact h
  | .v _, _, h1 => by simp [uses] at h1
  | .sl _ _ _, _, h1 => by simp [uses] at h1
  | .rp _, _, h1 => by simp [uses] at h1
  | .junk, _, h1 => by simp [uses] at h1
theorem usesL_inU {U : List Nat} {n : Nat} : ∀ (cs : List AV), inUL U cs = true → usesL n cs = true → U.contains n = true
  | [], _, h1 => by simp [usesL] at h1
  | c :: cs, h, h1 => by
    simp only [inUL, Bool.and_eq_true] at h
    simp only [usesL, Bool.or_eq_true] at h1
    exact h1.elim (uses_inU c h.1) (usesL_inU cs h.2)
end
/-! Other names. -/
mutual
def ren (σ : Nat → Nat) : AV → AV
  | .v x => .v x
  | .agg cs => .agg (renL σ cs)
  | .tup cs => .tup (renL σ cs)
  | .sl es x rows => .sl es x rows
  | .rp cs => .rp cs
  | .pt n o => .pt (σ n) o
  | .ow n => .ow (σ n)
  | .po n es i k => .po (σ n) es i k
  | .os n es i j => .os (σ n) es i j
  | .fn f cs => .fn f (renL σ cs)
  | .junk => .junk
def renL (σ : Nat → Nat) : List AV → List AV
  | [] => []
  | c :: cs => ren σ c :: renL σ cs
end
def renB (σ : Nat → Nat) : Blk → Blk
  | .box t cs => .box t (renL σ cs)
  | .own t es rows => .own t es rows
  | .mp es => .mp es
mutual
theorem VRel.ren {γ γ' : Nat → Option Value} {F : Nat → Prop} {w : World} {σ : Nat → Nat} : ∀ (a : AV) (y : Value), (∀ n, uses n a = true → ∀ v, γ (σ n) = some v → γ' n = some v) → VRel γ F w (HL.ren σ a) y → VRel γ' F w a y
  | .v x, y, _, h => h
  | .agg cs, y, hu, ⟨vs, e, h⟩ => ⟨vs, e, VL.ren cs _ (fun n hn => hu n (by simpa [uses] using hn)) h⟩
  | .tup cs, y, hu, ⟨vs, e, h⟩ => ⟨vs, e, VL.ren cs _ (fun n hn => hu n (by simpa [uses] using hn)) h⟩
  | .sl es x rows, y, _, h => h
  | .rp cs, y, _, h => h
  | .pt n o, y, hu, ⟨b, e1, e2⟩ => ⟨b, hu n (by simp [uses]) _ e1, e2⟩
  | .ow n, y, hu, ⟨e1, e2⟩ => ⟨hu n (by simp [uses]) _ e1, e2⟩
  | .po n es i k, y, hu, ⟨b, l, c, e1, e2⟩ => ⟨b, l, c, hu n (by simp [uses]) _ e1, e2⟩
  | .os n es i j, y, hu, ⟨b, l, c, o, e1, e2⟩ => ⟨b, l, c, o, hu n (by simp [uses]) _ e1, e2⟩
  | .fn f cs, y, hu, ⟨vs, e, h⟩ => ⟨vs, e, VL.ren cs _ (fun n hn => hu n (by simpa [uses] using hn)) h⟩
  | .junk, _, _, _ => trivial
theorem VL.ren {γ γ' : Nat → Option Value} {F : Nat → Prop} {w : World} {σ : Nat → Nat} : ∀ (cs : List AV) (vs : List Value), (∀ n, usesL n cs = true → ∀ v, γ (σ n) = some v → γ' n = some v) → VL γ F w (renL σ cs) vs → VL γ' F w cs vs
  | [], _, _, h => h
  | c :: cs, vs, hu, ⟨v, vs', e, h1, h2⟩ => ⟨v, vs', e, VRel.ren c v (fun n hn => hu n (by simp [usesL, hn])) h1, VL.ren cs vs' (fun n hn => hu n (by simp [usesL, hn])) h2⟩
end
/-- A state of which just these temporaries and blocks are known. -/
def mkS (e : List (Nat × AV)) (L : List (Nat × Blk)) : St := ⟨tb .junk e, tb none (L.map fun p => (p.1, some p.2)), fun n => (L.map (·.1)).contains n⟩
def okB (U : List Nat) : Blk → Bool
  | .box _ cs => inUL U cs
  | .own _ _ _ => true
  | .mp _ => true
def diff : List Nat → Bool
  | [] => true
  | n :: l => !l.contains n && diff l
/-- The state of these is no more than 's', by other names: 'σ' tells the old name of a name. -/
structure Sub (NL : List Nat) (s : St) (σ : Nat → Nat) (e : List (Nat × AV)) (L : List (Nat × Blk)) : Prop where
  he : ∀ p ∈ e, s.e p.1 = ren σ p.2
  hL : ∀ p ∈ L, s.L (σ p.1) = some (renB σ p.2)
  hU : (e.all (fun p => inU (L.map (·.1)) p.2) && L.all (fun p => okB (L.map (·.1)) p.2) && diff (L.map fun p => σ p.1) && L.all (fun p => !NL.contains p.1 || σ p.1 == p.1) && NL.all (fun n => (L.map (·.1)).contains n)) = true
theorem tb_mem {α : Type} {d : α} : ∀ {l : List (Nat × α)} {n : Nat}, tb d l n = d ∨ (n, tb d l n) ∈ l
  | [], _ => .inl rfl
  | (m, x) :: l, n => by
    simp only [tb]
    split
    · rename_i h; subst h; exact .inr (List.mem_cons_self ..)
    · exact (tb_mem (l := l) (n := n)).imp id (List.mem_cons_of_mem _)
theorem diff_inj {σ : Nat → Nat} : ∀ {l : List (Nat × Blk)}, diff (l.map fun p => σ p.1) = true → ∀ p ∈ l, ∀ q ∈ l, σ p.1 = σ q.1 → p.1 = q.1
  | [], _, p, hp, _, _, _ => by cases hp
  | a :: l, h, p, hp, q, hq, e => by
    simp only [List.map_cons, diff, Bool.and_eq_true, Bool.not_eq_true'] at h
    have hno : ∀ r ∈ l, σ a.1 ≠ σ r.1 := fun r hr he => by
      have : (l.map fun p => σ p.1).contains (σ a.1) = true := by rw [List.contains_iff_mem]; exact List.mem_map.2 ⟨r, hr, he.symm⟩
      rw [this] at h; cases h.1
    rcases List.mem_cons.1 hp with hp' | hp'
    · rcases List.mem_cons.1 hq with hq' | hq'
      · rw [hp', hq']
      · rw [hp'] at e; exact absurd e (hno q hq')
    · rcases List.mem_cons.1 hq with hq' | hq'
      · rw [hq'] at e; exact absurd e.symm (hno p hp')
      · exact diff_inj h.2 p hp' q hq' e
section
variable {X : Cx} {s : St} {k : List Item}
theorem Run.weaken {σ : Nat → Nat} {e : List (Nat × AV)} {L : List (Nat × Blk)} (hs : Sub X.NL s σ e L) (h : Run X k (mkS e L)) : Run X k s := by
  intro γ F a w hi he
  have hU := hs.hU
  simp only [Bool.and_eq_true, List.all_eq_true] at hU
  obtain ⟨⟨⟨⟨hU1, hU2⟩, hU3⟩, hU4⟩, hU5⟩ := hU
  have hLs : ∀ n b, (mkS e L).L n = some b → s.L (σ n) = some (renB σ b) ∧ (n, b) ∈ L := by
    intro n b hn
    simp only [mkS] at hn
    rcases tb_mem (d := none) (l := L.map fun p => (p.1, some p.2)) (n := n) with h0 | h0
    · rw [h0] at hn; cases hn
    · rw [hn] at h0
      obtain ⟨p, hp, hpe⟩ := List.mem_map.1 h0
      simp only [Prod.mk.injEq, Option.some.injEq] at hpe
      obtain ⟨rfl, rfl⟩ := hpe
      exact ⟨hs.hL p hp, hp⟩
  let γ' : Nat → Option Value := fun n => if (L.map (·.1)).contains n = true then γ (σ n) else none
  have hγ : ∀ n v, (L.map (·.1)).contains n = true → γ (σ n) = some v → γ' n = some v := fun n v h1 h2 => by simp only [γ', if_pos h1, h2]
  have hγs : ∀ n v, γ' n = some v → (L.map (·.1)).contains n = true ∧ γ (σ n) = some v := fun n v h1 => by
    simp only [γ'] at h1
    split at h1
    · exact ⟨by assumption, h1⟩
    · cases h1
  have hnm : ∀ n k, nmb γ' n = some k → nmb γ (σ n) = some k := fun n k h1 => by
    unfold nmb at h1 ⊢
    cases hg : γ' n with
    | none => rw [hg] at h1; cases h1
    | some v => rw [hg] at h1; rw [(hγs n v hg).2]; exact h1
  have hmemU : ∀ n b, (n, b) ∈ L → (L.map (·.1)).contains n = true := fun n b hb => by
    rw [List.contains_iff_mem]; exact List.mem_map.2 ⟨_, hb, rfl⟩
  have hi' : Inv X γ' F (mkS e L) w :=
    { blk := fun n b hn => by
        obtain ⟨h1, h2⟩ := hLs n b hn
        have hb := hi.blk (σ n) _ h1
        cases b with
        | box u cs =>
          obtain ⟨b, arr, hg, hh, hv, ho⟩ := hb
          have := hU2 _ h2
          simp only [okB] at this
          exact ⟨b, arr, hγ _ _ (hmemU _ _ h2) hg, hh, VL.ren cs _ (fun m hm v hv' => hγ m v (usesL_inU cs this hm) hv') hv, ho⟩
        | own u es rows =>
          obtain ⟨sv, xs, hg, rest⟩ := hb
          exact ⟨sv, xs, hγ _ _ (hmemU _ _ h2) hg, rest⟩
        | mp es =>
          obtain ⟨r, ents, clock, hg, rest⟩ := hb
          exact ⟨r, ents, clock, hγ _ _ (hmemU _ _ h2) hg, rest⟩
      dom := fun n v hn => (hγs n v hn).1
      sep := fun n m k hn hm h1 h2 => by
        obtain ⟨b, hb⟩ := Option.isSome_iff_exists.1 hn
        obtain ⟨b', hb'⟩ := Option.isSome_iff_exists.1 hm
        have := hi.sep (σ n) (σ m) k (by rw [(hLs n b hb).1]; rfl) (by rw [(hLs m b' hb').1]; rfl) (hnm n k h1) (hnm m k h2)
        exact diff_inj hU3 (n, b) (hLs n b hb).2 (m, b') (hLs m b' hb').2 this
      own := fun n k hn h1 => by
        obtain ⟨b, hb⟩ := Option.isSome_iff_exists.1 hn
        exact hi.own (σ n) k (by rw [(hLs n b hb).1]; rfl) (hnm n k h1)
      fr := hi.fr, fold := hi.fold, fnew := hi.fnew, os := hi.os, tape := hi.tape, output := hi.output, size := hi.size, keep := hi.keep
      nm := fun n v h hn => by
        obtain ⟨b, hb⟩ := Option.isSome_iff_exists.1 hn
        obtain ⟨h1, h2⟩ := hLs n b hb
        have := hU4 _ h2
        simp only [Bool.or_eq_true, Bool.not_eq_true', beq_iff_eq] at this
        have e : σ n = n := this.resolve_left (fun h0 => by rw [List.contains_iff_mem.2 (hi.nl n v h)] at h0; cases h0)
        have h3 := hi.nm n v h (by rw [← e, h1]; rfl)
        exact hγ n v (hmemU _ _ h2) (by rw [e]; exact h3)
      nu := fun n v h => hU5 n (hi.nl n v h)
      nl := hi.nl }
  have he' : ERel X γ' F (mkS e L) a w := by
    refine ⟨he.d, he.n, fun t => ?_⟩
    show VRel γ' F w (tb .junk e t) _
    rcases tb_mem (d := AV.junk) (l := e) (n := t) with h0 | h0
    · rw [h0]; trivial
    · have h1 := hs.he _ h0
      simp only at h1
      have h2 := he.r t
      rw [h1] at h2
      exact VRel.ren _ _ (fun n hn v hv => hγ n v (uses_inU _ (hU1 _ h0) hn) hv) h2
  exact h γ' F a w hi' he'
/-- A slice without room becomes one of the call's own, by a new name. -/
theorem Run.adopt {t n ty es : Nat} (hz : s.e t = .v (.slice none 0 0)) (hU : s.U n = false) (h : Run X k ⟨upd s.e t (.ow n), upd s.L n (some (.own ty es [])), upd s.U n true⟩) : Run X k s := by
  intro γ F a w hi he
  have hs := Step.new (F' := F) (w' := w) (v := .slice none 0 0) (b := .own ty es []) (om := none) hi hU (fun m h => by cases h)
    ⟨.slice none 0 0, [], upd_same _ _ _, .inr ⟨rfl, rfl, none, rfl⟩, rfl, by simp, by simp⟩
    (fun k hk => by cases hk) (fun k hk _ => rfl) (fun _ h => h) (fun _ h => .inl h) hi.fr rfl rfl rfl (Nat.le_refl _)
  refine h _ _ a w ((hi.step hs).congr rfl rfl) ⟨he.d.fwd (hs.fwd hi), he.n, fun t' => ?_⟩
  show VRel _ F w (upd s.e t (.ow n) t') _
  by_cases e : t' = t
  · subst e
    rw [upd_same]
    have := he.r t'
    rw [hz, VRel] at this
    rw [this]
    exact ⟨upd_same _ _ _, .inl ⟨_, _, _, rfl⟩⟩
  · rw [upd_ne _ _ _ _ e]; exact hs.rel hi (he.r t')
/-- A loop: at its head the state is one of a family; each round goes to one of less. -/
theorem Run.loop {α : Type} {c : Code} (e : α → List (Nat × AV)) (L : α → List (Nat × Blk)) (pre : α → Prop) (μ : α → Nat) (i0 : α) (σ0 : Nat → Nat) (hp : pre i0) (h0 : Sub X.NL s σ0 (e i0) (L i0))
    (hr : ∀ i, pre i → (∀ j σ s', pre j → μ j < μ i → Sub X.NL s' σ (e j) (L j) → Run X (.inLoop c :: k) s') → Run X (.code c :: .inLoop c :: k) (mkS (e i) (L i))) : Run X (.code (.loop c) :: k) s := by
  have key : ∀ n i, μ i = n → pre i → Run X (.code c :: .inLoop c :: k) (mkS (e i) (L i)) := by
    intro n
    induction n using Nat.strongRecOn with
    | _ n ih =>
      intro i hn hp
      refine hr i hp (fun j σ s' hj hlt hs => .inLoop (.weaken hs (ih (μ j) (hn ▸ hlt) j rfl hj)))
  exact .loop1 (.weaken h0 (key _ i0 rfl hp))
end

/-! Going on by computing. -/
def Br (b : Bool) (x y : Prop) : Prop := (b = true → x) ∧ (b = false → y)
theorem Br_true (x y : Prop) : Br true x y = x := by simp [Br]
theorem Br_false (x y : Prop) : Br false x y = y := by simp [Br]
mutual
def vc (X : Cx) : Nat → List Item → St → Prop
  | 0, todo, s => Run X todo s
  | _ + 1, [], s => FinAt X none s
  | n + 1, .code (.seq a b) :: k, s => vc X n (.code a :: .code b :: k) s
  | n + 1, .code .skip :: k, s => vc X n k s
  | n + 1, .code (.label _) :: k, s => vc X n k s
  | n + 1, .code (.block id c) :: k, s => vc X n (.code c :: .inBlock id :: k) s
  | n + 1, .inBlock _ :: k, s => vc X n k s
  | n + 1, .code (.exit id) :: k, s => vx X n s (some (.exit id)) (exitTo id k)
  | n + 1, .code (.goto l) :: k, s => vx X n s none (gotoIn l k)
  | n + 1, .code (.cond c a b) :: k, s => vb X n a b k s (eo s.e c)
  | n + 1, .code (.region _ ops false) :: k, s => vo X n ops ops.toList k s
  | _ + 1, .code .ret :: _, s => FinAt X (some .ret) s
  | _ + 1, .code (.region id ops true) :: k, s => Run X (.code (.region id ops true) :: k) s
  | _ + 1, .code (.loop c) :: k, s => Run X (.code (.loop c) :: k) s
  | _ + 1, .inLoop c :: k, s => Run X (.inLoop c :: k) s
  | _ + 1, todo, s => Run X todo s
def vx (X : Cx) (n : Nat) (s : St) : Option Code → Option (List Item) → Prop
  | _, some k => vc X n k s
  | some j, none => FinAt X (some j) s
  | none, none => False
def vb (X : Cx) (n : Nat) (a b : Code) (k : List Item) (s : St) : AV → Prop
  | .v (.bool t) => bc X n a b k s t
  | _ => False
/-- A branch. -/
def bc (X : Cx) (n : Nat) (a b : Code) (k : List Item) (s : St) (t : Bool) : Prop := Br t (vc X n (.code a :: k) s) (vc X n (.code b :: k) s)
def vo (X : Cx) : Nat → Array Oper → List Oper → List Item → St → Prop
  | 0, ops, rest, k, s => RunOps X ops rest k s
  | n + 1, _, [], k, s => vc X n k s
  | _ + 1, ops, ⟨d, .call ⟨.value f, args, _⟩, _, _, _, none⟩ :: rest, k, s => CallAt X (eo s.e f) (args.toList.map (eo s.e)) d ops rest k s
  | n + 1, ops, ⟨d, op, _, _, _, none⟩ :: rest, k, s => v1 X n ops rest k d s (ev X.T d s op)
  | n + 1, ops, ⟨d, op, _, _, _, some (j, want)⟩ :: rest, k, s => vg X n ops d op rest k s (yl ops j s.e) want
def v1 (X : Cx) (n : Nat) (ops : Array Oper) (rest : List Oper) (k : List Item) (d : Option Tmp) (s : St) : Option Eff → Prop
  | some f => v2 X n ops rest k (put X.nt d f s)
  | none => False
def v2 (X : Cx) (n : Nat) (ops : Array Oper) (rest : List Oper) (k : List Item) : Option St → Prop
  | some s => vo X n ops rest k s
  | none => False
def vg (X : Cx) (n : Nat) (ops : Array Oper) (d : Option Tmp) (op : Op) (rest : List Oper) (k : List Item) (s : St) : AV → Bool → Prop
  | .v (.bool b), want => bg X n ops d op rest k s want b
  | .v (.tuple _), _ => v2 X n ops rest k (put X.nt d effU s)
  | _, _ => False
/-- A guard. -/
def bg (X : Cx) (n : Nat) (ops : Array Oper) (d : Option Tmp) (op : Op) (rest : List Oper) (k : List Item) (s : St) (want b : Bool) : Prop := Br (b == want) (vh X n ops d op rest k s) (v2 X n ops rest k (put X.nt d effU s))
def vh (X : Cx) (n : Nat) (ops : Array Oper) (d : Option Tmp) : Op → List Oper → List Item → St → Prop
  | .call ⟨.value f, args, _⟩, rest, k, s => CallAt X (eo s.e f) (args.toList.map (eo s.e)) d ops rest k s
  | op, rest, k, s => v1 X n ops rest k d s (ev X.T d s op)
end
section
variable {X : Cx}
theorem Br.elim {b : Bool} {x y : Prop} (h : Br b x y) : if b = true then x else y := by cases b <;> simp_all [Br]
mutual
theorem vc_ok (hT : TOk X.P X.T) (hF : Fn X) : ∀ (n : Nat) (todo : List Item) (s : St), vc X n todo s → Run X todo s
  | 0, _, _, h => by simpa only [vc] using h
  | _ + 1, [], _, h => .done hT hF (by simpa only [vc] using h)
  | n + 1, .code (.seq a b) :: k, s, h => .seq (vc_ok hT hF n _ s (by simpa only [vc] using h))
  | n + 1, .code .skip :: k, s, h => .skip (vc_ok hT hF n _ s (by simpa only [vc] using h))
  | n + 1, .code (.label _) :: k, s, h => .label (vc_ok hT hF n _ s (by simpa only [vc] using h))
  | n + 1, .code (.block id c) :: k, s, h => .block (vc_ok hT hF n _ s (by simpa only [vc] using h))
  | n + 1, .inBlock _ :: k, s, h => .inBlock (vc_ok hT hF n _ s (by simpa only [vc] using h))
  | n + 1, .code (.exit id) :: k, s, h => by
    simp only [vc] at h
    cases he : exitTo id k with
    | none => rw [he] at h; exact .out he (by simpa only [vx] using h)
    | some k' => rw [he] at h; exact .exit he (vc_ok hT hF n k' s (by simpa only [vx] using h))
  | n + 1, .code (.goto l) :: k, s, h => by
    simp only [vc] at h
    cases he : gotoIn l k with
    | none => rw [he] at h; simp only [vx] at h
    | some k' => rw [he] at h; exact .goto he (vc_ok hT hF n k' s (by simpa only [vx] using h))
  | n + 1, .code (.cond c a b) :: k, s, h => by
    simp only [vc] at h
    unfold vb at h
    split at h
    · rename_i t hc
      refine .cond hc ?_
      simp only [bc] at h
      have h := h.elim
      cases t
      · exact vc_ok hT hF n _ s (by simpa using h)
      · exact vc_ok hT hF n _ s (by simpa using h)
    · exact h.elim
  | n + 1, .code (.region _ ops false) :: k, s, h => .region (vo_ok hT hF n ops ops.toList k s (by simpa only [vc] using h))
  | _ + 1, .code .ret :: _, s, h => .ret hT hF (by simpa only [vc] using h)
  | _ + 1, .code (.region id ops true) :: k, s, h => by simpa only [vc] using h
  | _ + 1, .code (.loop c) :: k, s, h => by simpa only [vc] using h
  | _ + 1, .inLoop c :: k, s, h => by simpa only [vc] using h
  | _ + 1, .code (.rangeFunc _ _ _ _) :: k, s, h => by simpa only [vc] using h
  | _ + 1, .code (.scope _) :: k, s, h => by simpa only [vc] using h
  | _ + 1, .code (.refuse _) :: k, s, h => by simpa only [vc] using h
  | _ + 1, .inScope _ :: k, s, h => by simpa only [vc] using h
  | _ + 1, .inRegion _ _ :: k, s, h => by simpa only [vc] using h
  | _ + 1, .inRangeFunc _ :: k, s, h => by simpa only [vc] using h
  | _ + 1, .endRangeFunc _ :: k, s, h => by simpa only [vc] using h
  | _ + 1, .beginRound :: k, s, h => by simpa only [vc] using h
  | _ + 1, .call _ _ _ _ :: k, s, h => by simpa only [vc] using h
  | _ + 1, .extern _ _ :: k, s, h => by simpa only [vc] using h
theorem vo_ok (hT : TOk X.P X.T) (hF : Fn X) : ∀ (n : Nat) (ops : Array Oper) (rest : List Oper) (k : List Item) (s : St), vo X n ops rest k s → RunOps X ops rest k s
  | 0, _, _, _, _, h => by simpa only [vo] using h
  | n + 1, _, [], k, s, h => .done (vc_ok hT hF n k s (by simpa only [vo] using h))
  | n + 1, ops, ⟨d, op, ty, pos, af, none⟩ :: rest, k, s, h => by
    have go : v1 X n ops rest k d s (ev X.T d s op) → RunOps X ops (⟨d, op, ty, pos, af, none⟩ :: rest) k s := by
      intro h
      cases he : ev X.T d s op with
      | none => rw [he] at h; simp only [v1] at h
      | some p =>
        rw [he] at h
        simp only [v1] at h
        cases hp : put X.nt d p s with
        | none => rw [hp] at h; simp only [v2] at h
        | some s2 => rw [hp] at h; exact .op hT (wanted_none rfl) he hp (vo_ok hT hF n ops rest k s2 (by simpa only [v2] using h))
    cases op with
    | call c =>
      obtain ⟨callee, args, ats⟩ := c
      cases callee with
      | value f => exact .call rfl (wanted_none rfl) (by simpa only [vo] using h)
      | _ => exact go (by simpa only [vo] using h)
    | _ => exact go (by simpa only [vo] using h)
  | n + 1, ops, ⟨d, op, ty, pos, af, some (j, want)⟩ :: rest, k, s, h => by
    simp only [vo] at h
    cases hy : yl ops j s.e with
    | v x =>
      rw [hy] at h
      cases x with
      | bool b =>
        simp only [vg, bg] at h
        have hw := wanted_some (X := X) (ops := ops) (o := ⟨d, op, ty, pos, af, some (j, want)⟩) rfl hy
        have h := h.elim
        cases hb : b == want with
        | false =>
          rw [hb] at h hw
          simp only [Bool.false_eq_true, if_false] at h
          cases hp : put X.nt d effU s with
          | none => rw [hp] at h; simp only [v2] at h
          | some s2 => rw [hp] at h; exact .skip hw hp (vo_ok hT hF n ops rest k s2 (by simpa only [v2] using h))
        | true =>
          rw [hb] at h hw
          simp only [if_true] at h
          have go : v1 X n ops rest k d s (ev X.T d s op) → RunOps X ops (⟨d, op, ty, pos, af, some (j, want)⟩ :: rest) k s := by
            intro h
            cases he : ev X.T d s op with
            | none => rw [he] at h; simp only [v1] at h
            | some p =>
              rw [he] at h
              simp only [v1] at h
              cases hp : put X.nt d p s with
              | none => rw [hp] at h; simp only [v2] at h
              | some s2 => rw [hp] at h; exact .op hT hw he hp (vo_ok hT hF n ops rest k s2 (by simpa only [v2] using h))
          cases op with
          | call c =>
            obtain ⟨callee, args, ats⟩ := c
            cases callee with
            | value f => exact .call rfl hw (by simpa only [vh] using h)
            | _ => exact go (by simpa only [vh] using h)
          | _ => exact go (by simpa only [vh] using h)
      | tuple x =>
        simp only [vg] at h
        cases hp : put X.nt d effU s with
        | none => rw [hp] at h; simp only [v2] at h
        | some s2 => rw [hp] at h; exact .skip (wanted_undef rfl hy) hp (vo_ok hT hF n ops rest k s2 (by simpa only [v2] using h))
      | _ => simp only [vg] at h
    | _ => rw [hy] at h; simp only [vg] at h
end
theorem vg_undef (n : Nat) (ops : Array Oper) (d : Option Tmp) (op : Op) (rest : List Oper) (k : List Item) (s : St) (want : Bool) : vg X n ops d op rest k s (.v undef) want = v2 X n ops rest k (put X.nt d effU s) := by simp only [undef, vg]
theorem bc_true (n : Nat) (a b : Code) (k : List Item) (s : St) : bc X n a b k s true = vc X n (.code a :: k) s := by simp only [bc, Br_true]
theorem bc_false (n : Nat) (a b : Code) (k : List Item) (s : St) : bc X n a b k s false = vc X n (.code b :: k) s := by simp only [bc, Br_false]
theorem bc_split {n : Nat} {a b : Code} {k : List Item} {s : St} {t : Bool} (h : t = true → vc X n (.code a :: k) s) (h' : t = false → vc X n (.code b :: k) s) : bc X n a b k s t := by rw [bc]; exact ⟨h, h'⟩
theorem bg_tt (n : Nat) (ops : Array Oper) (d : Option Tmp) (op : Op) (rest : List Oper) (k : List Item) (s : St) : bg X n ops d op rest k s true true = vh X n ops d op rest k s := by simp [bg, Br]
theorem bg_ff (n : Nat) (ops : Array Oper) (d : Option Tmp) (op : Op) (rest : List Oper) (k : List Item) (s : St) : bg X n ops d op rest k s false false = vh X n ops d op rest k s := by simp [bg, Br]
theorem bg_tf (n : Nat) (ops : Array Oper) (d : Option Tmp) (op : Op) (rest : List Oper) (k : List Item) (s : St) : bg X n ops d op rest k s true false = v2 X n ops rest k (put X.nt d effU s) := by simp [bg, Br]
theorem bg_ft (n : Nat) (ops : Array Oper) (d : Option Tmp) (op : Op) (rest : List Oper) (k : List Item) (s : St) : bg X n ops d op rest k s false true = v2 X n ops rest k (put X.nt d effU s) := by simp [bg, Br]
theorem bg_split {n : Nat} {ops : Array Oper} {d : Option Tmp} {op : Op} {rest : List Oper} {k : List Item} {s : St} {want t : Bool} (h : t = true → bg X n ops d op rest k s want true) (h' : t = false → bg X n ops d op rest k s want false) : bg X n ops d op rest k s want t := by
  cases t
  · exact h' rfl
  · exact h rfl
end
end Go.Proofs.YtkbidoikndgheaaDoor.HL

namespace Go.Proofs.YtkbidoikndgheaaDoor.HL
open Go.RowKit

/-! Functions that are lent named blocks: from their runs. -/
structure FX (P : Program) (T : Nat → TI) (g nt : Nat) (res : List ResultVar) (L : List (Nat × Blk)) (r : AV) (L' : List (Nat × Blk)) (X : Cx) : Prop extends XW P T g nt res X where
  ro : X.ro = none
  J : ¬ X.tag
  K : ∃ γ, X.K = FnK γ X.F0 X.w0 (tb1 L) r (tb1 L') ∧ (X.O = fun k => ∃ n, (tb1 L n).isSome ∧ nmb γ n = some k) ∧ (X.N = fun n => if (L.map (·.1)).contains n = true then γ n else none) ∧ ∀ n, (tb1 L n).isSome → ∃ v, γ n = some v
  NL : X.NL = L.map (·.1)
def okArgs (args : List AV) (L : List (Nat × Blk)) : Bool := inUL (L.map (·.1)) args && L.all fun p => okB (L.map (·.1)) p.2
/-- There are values and blocks of this kind. -/
def RealL (args : List AV) (L : List (Nat × Blk)) : Prop := ∃ γ F w vs, Sit γ F (tb1 L) w ∧ VL γ F w args vs
section
variable {P : Program} {T : Nat → TI} {g : FuncId} {fn : Func} {c : Code} {nt : Nat} {res : List ResultVar} {args : List AV} {r : AV} {L L' : List (Nat × Blk)}
theorem BRel.cut {γ γ' : Nat → Option Value} {F : Nat → Prop} {w : World} {U : List Nat} {n : Nat} {b : Blk} (hγ : ∀ n, U.contains n = true → γ' n = γ n) (hn : U.contains n = true) (hb : okB U b = true) (h : BRel γ F w n b) : BRel γ' F w n b := by
  cases b with
  | box t cs =>
    obtain ⟨b, arr, hg, hh, hv, h1⟩ := h
    exact ⟨b, arr, (hγ n hn).trans hg, hh, hv.mono (fun _ h => h) (fun _ _ => rfl) _ _ (fun m hm v hv => (hγ m (usesL_inU cs (by simpa [okB] using hb) hm)).trans hv), h1⟩
  | own t es rows => obtain ⟨sv, xs, hg, rest⟩ := h; exact ⟨sv, xs, (hγ n hn).trans hg, rest⟩
  | mp es => obtain ⟨r, ents, clock, hg, rest⟩ := h; exact ⟨r, ents, clock, (hγ n hn).trans hg, rest⟩
theorem FnE.of_run (hT : TOk P T) (hf : P.funcs[g]? = some fn) (hb : fn.body = some c)
    (hname : (fn.name == "runtime.NumGoroutine") = false) (hnt : fn.ntmps = nt) (hres : fn.results = res.toArray) (hal : args.length ≤ nt) (hok : okArgs args L = true)
    (h : ∀ X : Cx, FX P T g nt res L r L' X → RealL args L → Run X [.code c] (enterL args L)) : FnE P g args L r L' := by
  refine ⟨⟨fn, hf, by rw [hb]; rfl, hname⟩, fun γ F w vs hS hv => ?_⟩
  let U := L.map (·.1)
  let γ0 : Nat → Option Value := fun n => if U.contains n = true then γ n else none
  have hγ0 : ∀ n, U.contains n = true → γ0 n = γ n := fun n h => by simp only [γ0, if_pos h]
  have hn0 : ∀ n v, γ0 n = some v → U.contains n = true ∧ γ n = some v := fun n v h => by
    simp only [γ0] at h
    split at h
    · exact ⟨by assumption, h⟩
    · cases h
  have hnm0 : ∀ n k, nmb γ0 n = some k → U.contains n = true ∧ nmb γ n = some k := fun n k h => by
    unfold nmb at h ⊢
    cases hg : γ0 n with
    | none => rw [hg] at h; cases h
    | some v => rw [hg] at h; obtain ⟨a, b⟩ := hn0 n v hg; rw [b]; exact ⟨a, h⟩
  simp only [okArgs, Bool.and_eq_true, List.all_eq_true] at hok
  let X : Cx := ⟨P, T, g, nt, res, none, w, fun k => ∃ n, (tb1 L n).isSome ∧ nmb γ n = some k, F, U, γ0, FnK γ F w (tb1 L) r (tb1 L'), fun _ _ => False⟩
  have hX : FX P T g nt res L r L' X := ⟨⟨rfl, rfl, rfl, rfl, rfl, hT, ⟨fn, hf, hres⟩⟩, rfl, id, ⟨γ, rfl, rfl, rfl, fun n hn => by
    obtain ⟨b, hb⟩ := Option.isSome_iff_exists.1 hn
    exact (hS.blk n b hb).named⟩, rfl⟩
  have hv0 : VL γ0 F w args vs.toList := hv.mono (fun _ h => h) (fun _ _ => rfl) _ _ (fun n hn v hv => (hγ0 n (usesL_inU args hok.1 hn)).trans hv)
  have hi : Inv X γ0 F (enterL args L) w :=
    { blk := fun n b hb => (hS.blk n b hb).cut hγ0 (by rw [← tb1_isSome]; show (tb1 L n).isSome = true; rw [show tb1 L n = some b from hb]; rfl) (hok.2 _ (tb1_some hb))
      dom := fun n v h => (hn0 n v h).1
      sep := fun n m k hn hm h1 h2 => hS.sep n m k hn hm (hnm0 n k h1).2 (hnm0 m k h2).2
      own := fun n k hn h1 => by
        obtain ⟨a, b⟩ := hS.own n k hn (hnm0 n k h1).2
        exact ⟨a, b, .inr ⟨n, hn, (hnm0 n k h1).2⟩⟩
      fr := hS.fr
      fold := fun _ h => h
      fnew := fun _ h => .inl h
      os := rfl, tape := rfl, output := rfl, size := Nat.le_refl _, keep := fun _ _ _ => rfl, nm := fun _ _ h _ => h
      nu := fun n v h => (hn0 n v h).1
      nl := fun n v h => by simpa using (hn0 n v h).1 }
  exact .of_calls (calls_of_goes (X := X) hf hb rfl (h X hX ⟨γ, F, w, _, hS, hv⟩ γ0 F _ w hi (start_ok (X := X) hnt hal hv0 rfl))) (fun e w' h => h)
end
/-- The names of what is handed back: (public name, the function's own). -/
def bkOf (sg : List (Nat × Nat)) : Nat → Option Nat := tb none (sg.map fun q => (q.2, some q.1))
theorem tb_get {α : Type} {d : α} : ∀ {l : List (Nat × α)} {n : Nat} {x : α}, (l.map (·.1)).Nodup → (n, x) ∈ l → tb d l n = x
  | [], _, _, _, h => by cases h
  | (m, y) :: l, n, x, hd, h => by
    simp only [List.map_cons, List.nodup_cons] at hd
    simp only [tb]
    rcases List.mem_cons.1 h with h | h
    · cases h; rw [if_pos rfl]
    · have : n ≠ m := fun e => hd.1 (e ▸ List.mem_map.2 ⟨(n, x), h, rfl⟩)
      rw [if_neg this]
      exact tb_get hd.2 h
theorem diff_nodup : ∀ {l : List Nat}, diff l = true → l.Nodup
  | [], _ => .nil
  | a :: l, h => by
    simp only [diff, Bool.and_eq_true, Bool.not_eq_true'] at h
    refine List.nodup_cons.2 ⟨fun hm => ?_, diff_nodup h.2⟩
    rw [List.contains_iff_mem.2 hm] at h
    cases h.1
theorem bkOf_some {sg : List (Nat × Nat)} {n m : Nat} (h : bkOf sg n = some m) : (m, n) ∈ sg := by
  unfold bkOf at h
  rcases tb_mem (d := (none : Option Nat)) (l := sg.map fun q => (q.2, some q.1)) (n := n) with h0 | h0
  · rw [h0] at h; cases h
  · rw [h] at h0
    obtain ⟨q, hq, e⟩ := List.mem_map.1 h0
    simp only [Prod.mk.injEq, Option.some.injEq] at e
    obtain ⟨rfl, rfl⟩ := e
    exact hq
/-- What is to be shown of the names at a return. -/
def sgOk' (NL : List Nat) (sg : List (Nat × Nat)) : Bool := diff (sg.map (·.1)) && diff (sg.map (·.2)) && sg.all fun q => (!NL.contains q.1 || q.2 == q.1)
theorem FX.ret {P : Program} {T : Nat → TI} {g nt : Nat} {res : List ResultVar} {r : AV} {L L' : List (Nat × Blk)} {X : Cx} {s : St} {j : Option Code} (hX : FX P T g nt res L r L' X) (hj : j = none ∨ j = some .ret) (sg : List (Nat × Nat))
    (h : (resA T s res).bind (cv s.L (bkOf sg)) = some r) (h1 : sgOk' (L.map (·.1)) sg = true) (h2 : (sg.map fun q => (q.1, (s.L q.2).bind (cvB s.L (bkOf sg)))) = L'.map fun p => (p.1, some p.2)) : FinAt X j s := by
  unfold FinAt
  rw [hX.ro]
  cases h3 : resA T s res with
  | none => rw [h3] at h; cases h
  | some a =>
    rw [h3] at h
    refine ⟨hj, hX.ro, a, by rw [hX.T, hX.res]; exact h3, fun γ F v w hi hv => ?_⟩
    obtain ⟨γ0, hK, hO, hN, hnmd⟩ := hX.K
    rw [hK]
    simp only [sgOk', Bool.and_eq_true, List.all_eq_true] at h1
    obtain ⟨⟨d1, d2⟩, h1⟩ := h1
    have d1 := diff_nodup d1
    have d2 := diff_nodup d2
    have bk : ∀ q ∈ sg, bkOf sg q.2 = some q.1 := fun q hq => by
      refine tb_get ?_ (List.mem_map.2 ⟨q, hq, rfl⟩)
      rw [List.map_map]
      exact d2
    let γ' : Nat → Option Value := fun m => (tb none (sg.map fun q => (q.1, some q.2)) m).bind γ
    have hγ1 : ∀ q ∈ sg, γ' q.1 = γ q.2 := fun q hq => by
      have : tb none (sg.map fun q => (q.1, some q.2)) q.1 = some q.2 := tb_get (by rw [List.map_map]; exact d1) (List.mem_map.2 ⟨q, hq, rfl⟩)
      simp only [γ', this, Option.bind_some]
    have hγ2 : ∀ m v, γ' m = some v → ∃ n, (m, n) ∈ sg ∧ γ n = some v := fun m v h => by
      simp only [γ'] at h
      rcases tb_mem (d := (none : Option Nat)) (l := sg.map fun q => (q.1, some q.2)) (n := m) with h0 | h0
      · rw [h0] at h; cases h
      · obtain ⟨q, hq, e⟩ := List.mem_map.1 h0
        simp only [Prod.mk.injEq] at e
        obtain ⟨rfl, e⟩ := e
        rw [← e] at h
        exact ⟨q.2, hq, h⟩
    have hnm : ∀ m k, nmb γ' m = some k → ∃ n, (m, n) ∈ sg ∧ nmb γ n = some k := fun m k h => by
      unfold nmb at h
      cases hg : γ' m with
      | none => rw [hg] at h; cases h
      | some v =>
        rw [hg] at h
        obtain ⟨n, hn, hv⟩ := hγ2 m v hg
        exact ⟨n, hn, by unfold nmb; rw [hv]; exact h⟩
    have hγB : ∀ n m, bkOf sg n = some m → γ' m = γ n := fun n m h => hγ1 _ (bkOf_some h)
    have hL' : ∀ m b', tb1 L' m = some b' → ∃ n b, (m, n) ∈ sg ∧ s.L n = some b ∧ cvB s.L (bkOf sg) b = some b' := fun m b' h => by
      have := tb1_some h
      have : (m, some b') ∈ L'.map fun p => (p.1, some p.2) := List.mem_map.2 ⟨_, this, rfl⟩
      rw [← h2] at this
      obtain ⟨q, hq, e⟩ := List.mem_map.1 this
      simp only [Prod.mk.injEq] at e
      obtain ⟨rfl, e⟩ := e
      cases hs : s.L q.2 with
      | none => rw [hs] at e; cases e
      | some b => rw [hs] at e; exact ⟨q.2, b, hq, hs, e⟩
    have hsg : ∀ q ∈ sg, ∃ b, s.L q.2 = some b := fun q hq => by
      have : (q.1, (s.L q.2).bind (cvB s.L (bkOf sg))) ∈ L'.map fun p => (p.1, some p.2) := by rw [← h2]; exact List.mem_map.2 ⟨q, hq, rfl⟩
      obtain ⟨p, _, e⟩ := List.mem_map.1 this
      simp only [Prod.mk.injEq] at e
      cases hs : s.L q.2 with
      | none => rw [hs] at e; cases e.2
      | some b => exact ⟨b, rfl⟩
    have hbl : ∀ n b, s.L n = some b → BRel γ F w n b := fun n b hb => hi.blk n b hb
    have hr := cv_ok (γ' := γ') hbl hγB a v r hv h
    have hOi : ∀ k, X.O k → ∃ n, (tb1 L n).isSome ∧ nmb γ0 n = some k := fun k h => by rw [hO] at h; exact h
    refine ⟨⟨γ', FF γ F s.L (bkOf sg), hr, ⟨fun m b' hb' => ?_, fun n m k hn hm h3 h4 => ?_, fun m k hm h3 => ?_, ?_⟩, fun n hn hn' => ?_, fun b hb => .inl (hi.fold b hb), ?_, fun m k hm h3 => ?_, fun m v h => ?_⟩, hi.os, hi.tape, hi.output, hi.size, fun k hk ho => hi.keep k hk (fun h => ?_)⟩
    · obtain ⟨n, b, hq, hs, hc⟩ := hL' m b' hb'
      have hb := hbl n b hs
      have hg : γ' m = γ n := hγ1 _ hq
      cases b with
      | box t cs =>
        simp only [cvB, Option.map_eq_some_iff] at hc
        obtain ⟨rs, hrs, rfl⟩ := hc
        obtain ⟨b, arr, hg', hh, hv', h5⟩ := hb
        exact ⟨b, arr, hg.trans hg', hh, cvL_ok hbl hγB cs _ rs hv' hrs, h5⟩
      | own t es rows =>
        simp only [cvB, Option.some.injEq] at hc
        subst hc
        obtain ⟨sv, xs, hg', ho, hv', h5⟩ := hb
        exact ⟨sv, xs, hg.trans hg', ho, hv'.mono (fun _ h => .inl h) (fun _ _ => rfl) _ _ (fun _ _ _ h => h), h5⟩
      | mp es =>
        simp only [cvB, Option.some.injEq] at hc
        subst hc
        obtain ⟨r, ents, clock, hg', hh, hml⟩ := hb
        exact ⟨r, ents, clock, hg.trans hg', hh, hml.mono (fun _ h => .inl h) (fun _ _ => rfl)⟩
    · obtain ⟨n1, q1, e1⟩ := hnm n k h3
      obtain ⟨m1, q2, e2⟩ := hnm m k h4
      obtain ⟨b1, hb1⟩ := hsg _ q1
      obtain ⟨b2, hb2⟩ := hsg _ q2
      have e := hi.sep n1 m1 k (by simp at hb1; simp [hb1]) (by simp at hb2; simp [hb2]) e1 e2
      subst e
      have e3 := bk _ q1
      have e4 := bk _ q2
      simp only at e3 e4
      rw [e3] at e4
      injection e4
    · obtain ⟨n1, q1, e1⟩ := hnm m k h3
      obtain ⟨b1, hb1⟩ := hsg _ q1
      simp only at hb1
      obtain ⟨x, y, _⟩ := hi.own n1 k (by simp [hb1]) e1
      refine ⟨?_, y⟩
      rintro (hF | ⟨n2, hn2, hB, e2⟩)
      · exact x hF
      · have e := hi.sep n1 n2 k (by simp [hb1]) hn2 e1 e2
        subst e
        have := bk _ q1
        simp only at this
        rw [this] at hB
        cases hB
    · rintro k (hF | ⟨n, hn, _, hk⟩)
      · exact hi.fr k hF
      · exact (hi.own n k hn hk).2.1
    · obtain ⟨b', hb'⟩ := Option.isSome_iff_exists.1 hn'
      obtain ⟨n1, b, hq, hs, _⟩ := hL' n b' hb'
      have hc : (L.map (·.1)).contains n = true := by rw [← tb1_isSome]; exact hn
      have e : n1 = n := by
        have := h1 _ hq
        simp only [Bool.or_eq_true, Bool.not_eq_true', beq_iff_eq] at this
        exact this.resolve_left (fun h => by rw [hc] at h; cases h)
      subst e
      rw [hγ1 _ hq]
      have hNn : X.N n1 = γ0 n1 := by rw [hN]; simp only [if_pos hc]
      have hs' : (s.L n1).isSome := by rw [hs]; rfl
      obtain ⟨v0, hg0⟩ := hnmd n1 hn
      rw [hi.nm n1 v0 (by rw [hNn, hg0]) hs', hg0]
    · rintro b (hb | ⟨n, hn, _, hk⟩)
      · rcases hi.fnew b hb with h | h | h
        · exact .inl h
        · exact .inr (.inl h)
        · exact .inr (.inr (hOi b h))
      · rcases (hi.own n b hn hk).2.2 with h | h
        · exact .inr (.inl h)
        · exact .inr (.inr (hOi b h))
    · obtain ⟨n1, q1, e1⟩ := hnm m k h3
      obtain ⟨b1, hb1⟩ := hsg _ q1
      simp only at hb1
      exact (hi.own n1 k (by simp [hb1]) e1).2.2.imp id (hOi k)
    · obtain ⟨n, hq, _⟩ := hγ2 m v h
      have : (m, (s.L n).bind (cvB s.L (bkOf sg))) ∈ L'.map fun p => (p.1, some p.2) := by rw [← h2]; exact List.mem_map.2 ⟨(m, n), hq, rfl⟩
      obtain ⟨p, hp, e⟩ := List.mem_map.1 this
      simp only [Prod.mk.injEq] at e
      rw [tb1_isSome, List.contains_iff_mem]
      exact List.mem_map.2 ⟨p, hp, e.1⟩
    · obtain ⟨n, hn, hk'⟩ := hOi k h
      exact ho n hn hk'
/-- The first rows of a named slice become one of its own, by a new name. -/
theorem Run.recut {X : Cx} {s : St} {k : List Item} {t n es m n' t' : Nat} {rows : List (List AV)} (hz : s.e t = .os n es 0 m) (hL : s.L n = some (.own t' es rows)) (hm : m ≤ rows.length) (h0 : 0 < rows.length) (hU : s.U n' = false)
    (h : Run X k ⟨upd s.e t (.ow n'), upd (upd s.L n none) n' (some (.own t' es (rows.take m))), upd s.U n' true⟩) : Run X k s := by
  intro γ F a w hi he
  have hv := he.r t
  rw [hz] at hv
  obtain ⟨b, l, c, o, hg, _, hmc, ho, hval⟩ := hv
  obtain ⟨sv, xs, hg', hown, hvx, hrl, h1⟩ := hi.blk n _ hL
  rw [hg] at hg'
  injection hg' with hg'
  subst hg'
  rcases hown with hown | ⟨hn, _⟩
  · rcases hown.2 with ⟨h, _⟩ | ⟨g, cap, cur, e, hb0, hh, hle, hcm, hcs, htk⟩
    · cases h
    · simp only [Value.slice.injEq, Option.some.injEq, Addr.mk.injEq] at e
      obtain ⟨⟨rfl, _⟩, _, rfl⟩ := e
      have ho0 : o = 0 := by rw [ho (by omega)]; simp
      subst ho0
      have hval' : a.tmps.getD t undef = .slice (some ⟨b, 0, none⟩) m c := by rw [hval]; simp
      have hnm : nmb γ n = some b := by
        obtain ⟨c', rfl⟩ : ∃ c', c = c' + 1 := ⟨c - 1, by omega⟩
        simp [nmb, hg, blockOf]
      have hs := Step.new (F' := F) (w' := w) (v := .slice (some ⟨b, 0, none⟩) m c) (b := .own t' es (rows.take m)) (om := some n) hi hU (fun q hq => by
          cases hq
          intro e
          subst e
          have := hi.dom n _ hg
          rw [hU] at this
          cases this)
        ⟨_, xs.take (m * es), upd_same _ _ _, .inl ⟨by
            have hx := hown.1
            have : m * es ≤ rows.length * es := Nat.mul_le_mul_right _ hm
            simp only [List.length_take]
            rw [Nat.min_eq_left (by omega), Nat.min_eq_left hm], .inr ⟨b, c, cur, by simp [Nat.min_eq_left hm], hb0, hh, by simp only [List.length_take]; omega, hcm, hcs, by
            rw [← htk, List.length_take, Nat.min_eq_left hm, List.take_take, Nat.min_eq_left (Nat.mul_le_mul_right _ hm)]⟩⟩,
          VL.takeRows m hvx hrl, fun r hr => hrl r (List.mem_of_mem_take hr), fun u hu => h1 u (List.mem_of_mem_take hu)⟩
        (fun k hk => by
          have : k = b := by
            obtain ⟨c', rfl⟩ : ∃ c', c = c' + 1 := ⟨c - 1, by omega⟩
            simp [blockOf] at hk; exact hk.symm
          subst this
          obtain ⟨x, y, _⟩ := hi.own n k (by simp [hL]) hnm
          exact ⟨x, y, .inr ⟨n, rfl, by simp [hL], hnm⟩⟩) (fun k hk _ => rfl) (fun _ h => h) (fun _ h => .inl h) hi.fr rfl rfl rfl (Nat.le_refl _)
      refine h _ _ a w ((hi.step hs).congr rfl rfl) ⟨he.d.fwd (hs.fwd hi), he.n, fun t' => ?_⟩
      show VRel _ F w (upd s.e t (.ow n') t') _
      by_cases e : t' = t
      · subst e
        rw [upd_same, hval']
        exact ⟨upd_same _ _ _, .inl ⟨_, _, _, rfl⟩⟩
      · rw [upd_ne _ _ _ _ e]; exact hs.rel hi (he.r t')
  · omega
end Go.Proofs.YtkbidoikndgheaaDoor.HL

