/- Regions whose order is drawn; effects of calls. -/
import Derived.Test.YtkbidoikndgheaaDoorH2
import Derived.Orders
set_option linter.unusedVariables false
set_option linter.unusedSimpArgs false
namespace Go.Proofs.YtkbidoikndgheaaDoor.HL
open Go.RowKit

/-! Regions that draw their order: whatever order is drawn, the state behind is that of the text's order. -/
def gd (ops : Array Oper) (o : Oper) (e : Nat → AV) : Option Bool :=
  match o.guard with
  | none => some true
  | some (j, want) => match yl ops j e with | .v (.bool b) => some (b == want) | .v (.tuple _) => some false | _ => none
inductive ES (X : Cx) (ops : Array Oper) (o : Oper) (s : St) : Eff → Prop
  | skip : gd ops o s.e = some false → ES X ops o s effU
  | op {f : Eff} : gd ops o s.e = some true → ev X.T o.dst s o.op = some f → ES X ops o s f
  | call {fv : Operand} {asx : Array Operand} {ats : Array TypeId} {f : Eff} : gd ops o s.e = some true → o.op = .call ⟨.value fv, asx, ats⟩ → CallE X s o.dst (eo s.e fv) (asx.toList.map (eo s.e)) f → ES X ops o s f
inductive ESeq (X : Cx) (ops : Array Oper) : List (Nat × Eff) → St → St → Prop
  | nil (s : St) : ESeq X ops [] s s
  | cons {i : Nat} {l : List (Nat × Eff)} {o : Oper} {f : Eff} {s s' : St} : ops[i]? = some o → ES X ops o s f → ESeq X ops l (f.ap o.dst s) s' → ESeq X ops ((i, f) :: l) s s'
/-- The names that there were, of blocks that are other ones behind it. -/
def Eff.wr (f : Eff) : List Nat := (f.l.map (·.1)).filter fun n => !f.u.contains n
def indE (f g : Eff) : Bool := f.wr.all (fun n => !g.rd.contains n) && g.wr.all (fun n => !f.rd.contains n) && f.u.all (fun n => !g.rd.contains n)

section
variable {X : Cx} {ops : Array Oper} {s s' : St} {k : List Item}
theorem apL_not {n : Nat} : ∀ {l : List (Nat × Option Blk)} {L : Nat → Option Blk}, (∀ p ∈ l, p.1 ≠ n) → apL L l n = L n
  | [], _, _ => rfl
  | (m, b) :: l, L, h => by
    rw [apL, apL_not (fun p hp => h p (List.mem_cons_of_mem _ hp)), upd_ne _ _ _ _ (Ne.symm (h (m, b) (List.mem_cons_self ..)))]
theorem apL_upd {n : Nat} {b : Option Blk} : ∀ {l : List (Nat × Option Blk)} {L : Nat → Option Blk}, (∀ p ∈ l, p.1 ≠ n) → apL (upd L n b) l = upd (apL L l) n b
  | [], _, _ => rfl
  | (m, c) :: l, L, h => by
    rw [apL, apL, upd_comm _ _ _ _ _ (Ne.symm (h (m, c) (List.mem_cons_self ..))), apL_upd (fun p hp => h p (List.mem_cons_of_mem _ hp))]
theorem apL_comm : ∀ {l1 l2 : List (Nat × Option Blk)} {L : Nat → Option Blk}, (∀ p ∈ l1, ∀ q ∈ l2, p.1 ≠ q.1) → apL (apL L l1) l2 = apL (apL L l2) l1
  | [], _, _, _ => rfl
  | (n, b) :: l1, l2, L, h => by
    rw [apL, apL_comm (fun p hp => h p (List.mem_cons_of_mem _ hp)), apL_upd (fun q hq => (h (n, b) (List.mem_cons_self ..) q hq).symm), apL]
theorem gd_wanted {o : Oper} {b : Bool} (h : gd ops o s.e = some b) : Wanted X ops o s b := by
  unfold gd at h
  cases hg : o.guard with
  | none => rw [hg] at h; simp only [Option.some.injEq] at h; subst h; exact wanted_none hg
  | some p =>
    obtain ⟨j, want⟩ := p
    rw [hg] at h
    simp only at h
    split at h
    · rename_i b' hy
      simp only [Option.some.injEq] at h
      subst h
      exact wanted_some hg hy
    · rename_i hy
      simp only [Option.some.injEq] at h
      subst h
      exact wanted_undef hg hy
    · cases h
/-- One operation, in whatever place of the order. -/
theorem ES.run (hT : TOk X.P X.T) {o : Oper} {f : Eff} {i : Nat} {l : List Nat} (h : ES X ops o s f) (ho : ops[i]? = some o) (hd : ∀ t, o.dst = some t → t < X.nt) (hk : Run X (.inRegion ops l :: k) (f.ap o.dst s)) : Run X (.inRegion ops (i :: l) :: k) s := by
  intro γ F a w hi he
  cases h with
  | skip hg => exact .skip ho (gd_wanted hg γ F a w he) (hk γ F _ w (hi.congr rfl rfl) (ERel.ap he.d he.n he.r hd rfl))
  | op hg h1 =>
    obtain ⟨nx, v, w', γ', F', hr, hn, hi', ht, hv⟩ := ev_ok hT hi (fun x => eo_ok he.r x) o h1
    exact .op ho (gd_wanted hg γ F a w he) (ev_defer h1) hr hn (hk γ' F' _ w' (hi'.congr rfl rfl) (ERel.ap (he.d.fwd ht) he.n (fun t => ht.rel (he.r t)) hd hv))
  | call hg hop hE =>
    rename_i fv asx ats
    obtain ⟨g, caps, hf, hc, hC⟩ := hE.ok s (fun _ _ => rfl) (fun n hn => (hE.u n hn).2) γ F w (a.eval fv) (asx.toList.map a.eval) hi (eo_ok he.r fv) (VL.map_eo _ (fun x => eo_ok he.r x))
    refine .call ho (gd_wanted hg γ F a w he) (fun c h => by rw [hop] at h; cases h) (run_call X.P hop hf hc) ?_
    have e1 : (asx.toList.map a.eval).toArray ++ caps = asx.map a.eval ++ caps := by congr 1; apply Array.ext'; simp
    rw [e1] at hC
    exact hC.mono fun v w' ⟨γ', F', h2, h3, h4⟩ => hk γ' F' _ w' (h2.congr rfl rfl) (ERel.ap (he.d.fwd h3) he.n (fun t => h3.rel (he.r t)) hd h4)

/-! What an effect depends on. -/
theorem ev_props {T : Nat → TI} {d : Option Tmp} {op : Op} {f : Eff} (h : ev T d s op = some f) :
    (∀ p ∈ f.l, p.1 ∈ f.rd ∨ p.1 ∈ f.u) ∧ ∀ n ∈ f.u, d = some (n % 4096) ∧ s.U n = false := by
  unfold ev at h
  cases hA : isA op with
  | false =>
    rw [hA] at h
    simp only [cond_false] at h
    cases hv : evV T s.L s.e op with
    | none => rw [hv] at h; cases h
    | some r =>
      rw [hv] at h
      simp only [eff0, Option.some.injEq] at h
      subst h
      exact ⟨fun p hp => (by cases hp), fun n hn => (by cases hn)⟩
  | true =>
    rw [hA] at h
    simp only [cond_true] at h
    have hmk : ∀ {r : Nat → AV} {b : Option Blk}, mk s.U r d b = some f → (∀ p ∈ f.l, p.1 ∈ f.rd ∨ p.1 ∈ f.u) ∧ ∀ n ∈ f.u, d = some (n % 4096) ∧ s.U n = false := by
      intro r b h
      obtain ⟨d', b', rfl, _, hU, hlt, rfl⟩ := mk_eq h
      refine ⟨fun p hp => ?_, fun n hn => ?_⟩
      · simp only [List.mem_singleton] at hp; subst hp; exact .inr (List.mem_singleton.2 rfl)
      · simp only [List.mem_singleton] at hn; subst hn; exact ⟨by rw [Nat.mod_eq_of_lt hlt], hU⟩
    have hW : ∀ {r : AV} {m : Nat} {b : Option Blk}, f = ⟨r, [(m, b)], [], [m]⟩ → (∀ p ∈ f.l, p.1 ∈ f.rd ∨ p.1 ∈ f.u) ∧ ∀ n ∈ f.u, d = some (n % 4096) ∧ s.U n = false := by
      intro r m b h
      subst h
      refine ⟨fun p hp => ?_, fun n hn => by cases hn⟩
      simp only [List.mem_singleton] at hp; subst hp; exact .inl (List.mem_singleton.2 rfl)
    have hS : ∀ {m : Nat} {b : Option Blk}, effS m b = some f → (∀ p ∈ f.l, p.1 ∈ f.rd ∨ p.1 ∈ f.u) ∧ ∀ n ∈ f.u, d = some (n % 4096) ∧ s.U n = false := by
      intro m b h
      cases b with
      | none => cases h
      | some b =>
        simp only [effS, Option.some.injEq] at h
        exact hW h.symm
    cases op with
    | alloc t =>
      simp only [evA] at h
      split at h
      · cases h
      · exact hmk h
    | box t x => exact hmk (by simpa only [evA] using h)
    | store t a x =>
      simp only [evA] at h
      split at h
      · cases h
      · unfold eStore at h
        split at h
        · exact hS h
        · exact hS h
        · cases h
    | buildSlice t n ps =>
      obtain ⟨ps⟩ := ps
      simp only [evA, Option.map_eq_some_iff] at h
      obtain ⟨r, _, rfl⟩ := h
      exact ⟨fun p hp => (by cases hp), fun n hn => by cases hn⟩
    | makeMap t r =>
      cases r with
      | some _ => cases h
      | none =>
        simp only [evA] at h
        split at h
        · exact hmk h
        · cases h
    | makeSlice t l c =>
      simp only [evA] at h
      split at h
      · unfold mkSl at h
        split at h
        · split at h
          · exact hmk h
          · cases h
        · cases h
      · cases h
    | mapUpdate t m k x =>
      simp only [evA] at h
      split at h
      · split at h
        · unfold eMapU at h
          split at h
          · split at h
            · split at h
              · simp only [Option.some.injEq] at h
                exact hW h.symm
              · cases h
            · cases h
          · cases h
        · cases h
      · cases h
    | call c =>
      obtain ⟨callee, ⟨asx⟩, ⟨ts⟩⟩ := c
      cases callee with
      | builtin b =>
        cases b with
        | append =>
          simp only [evA] at h
          unfold eApp at h
          split at h
          · rename_i t u x y
            split at h
            · split at h
              · unfold appX at h
                split at h
                · split at h
                  · unfold appI at h
                    split at h
                    · split at h
                      · simp only [Option.some.injEq] at h
                        exact hW h.symm
                      · cases h
                    · cases h
                  · cases h
                · unfold app2 at h
                  split at h
                  · rename_i d' om rows news hD hSS
                    split at h
                    · cases h
                    · rename_i hU
                      split at h
                      · rename_i hb
                        simp only [Option.some.injEq] at h
                        subst h
                        have hom : ∀ m, om = some m → m ∈ nmO (eo s.e x) := by
                          intro m hm
                          subst hm
                          unfold appD at hD
                          split at hD
                          · rename_i e
                            split at hD
                            · split at hD
                              · simp only [Option.some.injEq, Prod.mk.injEq] at hD
                                obtain ⟨h1, _⟩ := hD
                                rw [e, ← h1]; simp [nmO]
                              · cases hD
                            · cases hD
                          · simp at hD
                          · split at hD
                            · simp at hD
                            · cases hD
                          · cases hD
                        refine ⟨fun p hp => ?_, fun n hn => ?_⟩
                        · rcases List.mem_append.1 hp with hp | hp
                          · cases om with
                            | none => cases hp
                            | some m =>
                              simp only [kill, List.mem_singleton] at hp
                              subst hp
                              exact .inl (List.mem_append_left _ (hom m rfl))
                          · simp only [List.mem_singleton] at hp; subst hp; exact .inr (List.mem_singleton.2 rfl)
                        · simp only [List.mem_singleton] at hn; subst hn; exact ⟨by rw [Nat.mod_eq_of_lt hb.2.2], by simpa using hU⟩
                      · cases h
                  · cases h
              · cases h
            · cases h
          · cases h
        | clear =>
          simp only [evA] at h
          unfold eClr at h
          split at h
          · split at h
            · unfold clrI at h
              split at h
              · split at h
                · simp only [Option.some.injEq] at h
                  exact hW h.symm
                · cases h
              · cases h
            · cases h
          · cases h
        | copy =>
          simp only [evA] at h
          unfold eCpy at h
          split at h
          · split at h
            · unfold cpy at h
              split at h
              · split at h
                · split at h
                  · simp only [Option.some.injEq] at h
                    exact hW h.symm
                  · cases h
                · cases h
              · cases h
            · cases h
          · cases h
        | _ => cases h
      | _ => cases h
    | _ => cases h
end
end Go.Proofs.YtkbidoikndgheaaDoor.HL

namespace Go.Proofs.YtkbidoikndgheaaDoor.HL
open Go.RowKit
section
variable {X : Cx} {ops : Array Oper} {s s' : St} {k : List Item}
theorem evV_congr {T : Nat → TI} {L L2 : Nat → Option Blk} {e e2 : Nat → AV} {op : Op} {r : AV} (h : evV T L e op = some r) (he : ∀ x ∈ op.operands, eo e2 x = eo e x)
    (hL : ∀ n ∈ rdV e op, L2 n = L n) : evV T L2 e2 op = some r := by
  have mp : ∀ (o : Option Operand), (∀ x ∈ o, eo e2 x = eo e x) → o.map (eo e2) = o.map (eo e) := by
    intro o ho
    cases o with
    | none => rfl
    | some x => simp [ho x rfl]
  have ml : ∀ (l : List Operand), (∀ x ∈ l, eo e2 x = eo e x) → l.map (eo e2) = l.map (eo e) := fun l hl => List.map_congr_left hl
  cases op with
  | move x => simp only [evV] at h ⊢; rw [he x (by simp [Op.operands])]; exact h
  | assign x => simp only [evV] at h ⊢; rw [he x (by simp [Op.operands])]; exact h
  | pick c a b => simp only [evV] at h ⊢; rw [he c (by simp [Op.operands]), he a (by simp [Op.operands]), he b (by simp [Op.operands])]; exact h
  | load t a =>
    simp only [evV] at h ⊢
    rw [he a (by simp [Op.operands])]
    have : eLoad L2 (T t).k.isAgg (T t).size (eo e a) = eLoad L (T t).k.isAgg (T t).size (eo e a) := by
      simp only [rdV] at hL
      cases hA : eo e a with
      | pt m kk => simp only [eLoad]; rw [hL m (by rw [hA]; simp [nmO])]
      | po m es i kk => simp only [eLoad]; rw [hL m (by rw [hA]; simp [nmO])]
      | _ => rfl
    rw [this]; exact h
  | binOp op t x y u => simp only [evV] at h ⊢; rw [he x (by simp [Op.operands]), he y (by simp [Op.operands])]; exact h
  | unOp op t x => simp only [evV] at h ⊢; rw [he x (by simp [Op.operands])]; exact h
  | fieldAddr t x f => simp only [evV] at h ⊢; rw [he x (by simp [Op.operands])]; exact h
  | field t x f => simp only [evV] at h ⊢; rw [he x (by simp [Op.operands])]; exact h
  | indexAddr t x i =>
    simp only [evV] at h ⊢
    rw [he x (by simp [Op.operands]), he i (by simp [Op.operands])]
    have : eIdxA T L2 (T t).k (eo e x) (eo e i) = eIdxA T L (T t).k (eo e x) (eo e i) := by
      simp only [rdV] at hL
      unfold eIdxA
      split
      · rfl
      · rename_i e _; rw [hL _ (by rw [e]; exact List.mem_singleton.2 rfl)]
      · rename_i e _; rw [hL _ (by rw [e]; exact List.mem_singleton.2 rfl)]
      · rfl
      · rfl
    rw [this]; exact h
  | lookup t x i ok =>
    simp only [evV] at h ⊢
    rw [he x (by simp [Op.operands]), he i (by simp [Op.operands])]
    have : eLook T L2 ok (T t).k (eo e x) (eo e i) = eLook T L ok (T t).k (eo e x) (eo e i) := by
      simp only [rdV] at hL
      unfold eLook
      split
      · rename_i e _; rw [hL _ (by rw [e]; exact List.mem_singleton.2 rfl)]
      · rfl
    rw [this]; exact h
  | index t x i => simp only [evV] at h ⊢; rw [he x (by simp [Op.operands]), he i (by simp [Op.operands])]; exact h
  | extract x i => simp only [evV] at h ⊢; rw [he x (by simp [Op.operands])]; exact h
  | slice t x lo hi mx =>
    have hlo := mp lo (fun y hy => he y (by simp [Op.operands]; simp at hy; simp [hy]))
    have hhi := mp hi (fun y hy => he y (by simp [Op.operands]; simp at hy; simp [hy]))
    cases mx with
    | some mx =>
      simp only [evV] at h ⊢
      rw [he x (by simp [Op.operands]), hlo, hhi, he mx (by simp [Op.operands])]
      have : eSlice3 T L2 (T t).k (eo e x) (lo.map (eo e)) (hi.map (eo e)) (some (eo e mx)) = eSlice3 T L (T t).k (eo e x) (lo.map (eo e)) (hi.map (eo e)) (some (eo e mx)) := by
        simp only [rdV] at hL
        unfold eSlice3
        split
        · rename_i e; rw [hL _ (by rw [e]; exact List.mem_singleton.2 rfl)]
        · rfl
      rw [this]; exact h
    | none =>
      simp only [evV] at h ⊢
      rw [he x (by simp [Op.operands]), hlo, hhi]
      have : eSlice T L2 (T t).k (eo e x) (lo.map (eo e)) (hi.map (eo e)) = eSlice T L (T t).k (eo e x) (lo.map (eo e)) (hi.map (eo e)) := by
        simp only [rdV] at hL
        unfold eSlice
        split
        · rfl
        · rfl
        · rename_i e; rw [hL _ (by rw [e]; exact List.mem_singleton.2 rfl)]
        · rename_i e; rw [hL _ (by rw [e]; exact List.mem_singleton.2 rfl)]
        · rfl
      rw [this]; exact h
  | convert u t x => simp only [evV] at h ⊢; rw [he x (by simp [Op.operands])]; exact h
  | nilCheck x => simp only [evV] at h ⊢; rw [he x (by simp [Op.operands])]; exact h
  | makeFunc f a b =>
    obtain ⟨a⟩ := a
    obtain ⟨b⟩ := b
    cases f with
    | func f =>
      cases a with
      | nil => simp only [evV] at h ⊢; rw [ml b (fun x hx => he x (by simp [Op.operands, hx]))]; exact h
      | cons _ _ => cases h
    | _ => cases h
  | build t ps =>
    obtain ⟨ps⟩ := ps
    simp only [evV] at h ⊢
    have hps : ∀ p ∈ ps, eo e2 p.2 = eo e p.2 := fun p hp => he p.2 (by simp only [Op.operands, List.mem_toArray, List.mem_map]; exact ⟨p, hp, rfl⟩)
    have hf : ∀ (fs : List (Nat × TypeId)) (ps : List (Nat × Operand)) (cs : List AV), (∀ p ∈ ps, eo e2 p.2 = eo e p.2) → fillA T fs (eo e2) ps cs = fillA T fs (eo e) ps cs := by
      intro fs ps
      induction ps with
      | nil => intro cs _; rfl
      | cons p ps ih =>
        intro cs hp
        obtain ⟨i, x⟩ := p
        simp only [fillA]
        rw [hp (i, x) (List.mem_cons_self ..)]
        congr 1; funext q; congr 1; funext new
        rw [ih _ (fun p h => hp p (List.mem_cons_of_mem _ h))]
    have hb : eBuild T (T t).zero (eo e2) ps (T t).k = eBuild T (T t).zero (eo e) ps (T t).k := by
      cases (T t).k <;> simp only [eBuild]
      rw [hf _ ps _ hps]
    rw [hb]; exact h
  | call c =>
    obtain ⟨callee, ⟨asx⟩, ⟨ts⟩⟩ := c
    cases callee with
    | builtin b =>
      cases b with
      | len =>
        simp only [evV] at h ⊢
        unfold eLenR at h ⊢
        split at h
        · rename_i t a
          have hm : a ∈ (Op.call ⟨.builtin .len, ⟨[a]⟩, ⟨[t]⟩⟩).operands := by simp [Op.operands, Call.operands]
          rw [he a hm]
          have : eLen L2 (T t).k (eo e a) = eLen L (T t).k (eo e a) := by
            simp only [rdV] at hL
            unfold eLen
            split
            · rfl
            · rfl
            · rfl
            · rename_i e; rw [hL _ (by rw [e]; exact List.mem_singleton.2 rfl)]
            · rename_i e; rw [hL _ (by rw [e]; exact List.mem_singleton.2 rfl)]
            · rfl
          rw [this]; exact h
        · cases h
      | _ => cases h
    | _ => cases h
  | _ => cases h


theorem rdV_congr {e e2 : Nat → AV} {op : Op} (he : ∀ x ∈ op.operands, eo e2 x = eo e x) : rdV e2 op = rdV e op := by
  cases op with
  | load t a => simp only [rdV]; rw [he a (by simp [Op.operands])]
  | indexAddr t x i => simp only [rdV]; rw [he x (by simp [Op.operands])]
  | lookup t x i ok => simp only [rdV]; rw [he x (by simp [Op.operands])]
  | slice t x lo hi mx => simp only [rdV]; rw [he x (by simp [Op.operands])]
  | call c =>
    obtain ⟨callee, ⟨asx⟩, ats⟩ := c
    cases callee with
    | builtin b =>
      cases b with
      | len =>
        cases asx with
        | nil => rfl
        | cons a asx =>
          cases asx with
          | nil => simp only [rdV]; rw [he a (by simp [Op.operands, Call.operands])]
          | cons _ _ => rfl
      | _ => rfl
    | _ => rfl
  | _ => rfl
theorem ev_congr {T : Nat → TI} {d : Option Tmp} {op : Op} {f : Eff} {s2 : St} (h : ev T d s op = some f) (he : ∀ x ∈ op.operands, eo s2.e x = eo s.e x) (hL : ∀ n ∈ f.rd, s2.L n = s.L n) (hU : ∀ n ∈ f.u, s2.U n = false) : ev T d s2 op = some f := by
  unfold ev at h ⊢
  cases hA : isA op with
  | false =>
    rw [hA] at h
    simp only [cond_false] at h ⊢
    cases hv : evV T s.L s.e op with
    | none => rw [hv] at h; cases h
    | some r =>
      rw [hv] at h
      simp only [eff0, Option.some.injEq] at h
      subst h
      rw [evV_congr hv he hL, rdV_congr he]
      rfl
  | true =>
    rw [hA] at h
    simp only [cond_true] at h ⊢
    have hmk : ∀ {r : Nat → AV} {b : Option Blk}, mk s.U r d b = some f → mk s2.U r d b = some f := by
      intro r b h
      obtain ⟨d', b', rfl, rfl, _, hlt, rfl⟩ := mk_eq h
      have := hU d' (List.mem_singleton.2 rfl)
      simp [mk, this, hlt]
    cases op with
    | alloc t =>
      simp only [evA] at h ⊢
      split at h
      · cases h
      · rename_i h0; rw [if_neg h0]; exact hmk h
    | box t x =>
      simp only [evA] at h ⊢
      rw [he x (by simp [Op.operands])]
      exact hmk h
    | store t a x =>
      simp only [evA] at h ⊢
      split at h
      · cases h
      · rename_i h0
        rw [if_neg h0, he x (by simp [Op.operands]), he a (by simp [Op.operands])]
        unfold eStore at h ⊢
        have key : ∀ {m : Nat} {b : Option Blk}, effS m b = some f → m ∈ f.rd := by
          intro m b h
          cases b with
          | none => cases h
          | some b => simp only [effS, Option.some.injEq] at h; subst h; exact List.mem_singleton.2 rfl
        split at h
        · rw [hL _ (key h)]; exact h
        · rw [hL _ (key h)]; exact h
        · cases h
    | buildSlice t n ps =>
      obtain ⟨ps⟩ := ps
      simp only [evA] at h ⊢
      have hps : ∀ p ∈ ps, eo s2.e p.2 = eo s.e p.2 := fun p hp => he p.2 (by simp only [Op.operands, List.mem_toArray, List.mem_map]; exact ⟨p, hp, rfl⟩)
      have hb : ∀ (sz : Nat) (ps : List (Nat × Operand)) (i : Nat), (∀ p ∈ ps, eo s2.e p.2 = eo s.e p.2) → bsRows sz (eo s2.e) i ps = bsRows sz (eo s.e) i ps := by
        intro sz ps
        induction ps with
        | nil => intro i _; rfl
        | cons p ps ih =>
          intro i hp
          obtain ⟨j, x⟩ := p
          simp only [bsRows]
          rw [hp (j, x) (List.mem_cons_self ..), ih (i + 1) (fun p h => hp p (List.mem_cons_of_mem _ h))]
      have : eBS T (eo s2.e) n ps (T t).k = eBS T (eo s.e) n ps (T t).k := by
        cases (T t).k <;> simp only [eBS]
        rw [hb _ ps 0 hps]
      rw [this]; exact h
    | makeMap t r =>
      cases r with
      | some _ => cases h
      | none =>
        simp only [evA] at h ⊢
        split at h
        · exact hmk h
        · cases h
    | makeSlice t l c =>
      simp only [evA] at h ⊢
      rw [he l (by simp [Op.operands]), he c (by simp [Op.operands])]
      split at h
      · unfold mkSl at h ⊢
        split at h
        · split at h
          · rename_i hb; rw [if_pos hb]; exact hmk h
          · cases h
        · cases h
      · cases h
    | mapUpdate t m k x =>
      simp only [evA] at h ⊢
      split at h
      · split at h
        · rename_i h0
          rw [if_pos h0, he m (by simp [Op.operands]), he k (by simp [Op.operands]), he x (by simp [Op.operands])]
          unfold eMapU at h ⊢
          split at h
          · rename_i m' n _ _
            split at h
            · rename_i es hes
              split at h
              · rename_i hnf
                simp only [Option.some.injEq] at h
                subst h
                rw [hL m' (List.mem_singleton.2 rfl), hes]
                simp only
                rw [if_pos hnf]
              · cases h
            · cases h
          · cases h
        · cases h
      · cases h
    | call c =>
      obtain ⟨callee, ⟨asx⟩, ⟨ts⟩⟩ := c
      cases callee with
      | builtin b =>
        cases b with
        | append =>
          simp only [evA] at h ⊢
          unfold eApp at h ⊢
          split at h
          · rename_i t u x y
            rw [he x (by simp [Op.operands, Call.operands]), he y (by simp [Op.operands, Call.operands])]
            split at h
            · rename_i e hk
              split at h
              · rename_i hss
                rw [if_pos hss]
                unfold appX at h ⊢
                split at h
                · rename_i n es i n' es' j k _ _
                  split at h
                  · rename_i hb
                    rw [if_pos hb]
                    have hrd : n ∈ f.rd := by
                      unfold appI at h
                      split at h
                      · split at h
                        · simp only [Option.some.injEq] at h; subst h; exact List.mem_singleton.2 rfl
                        · cases h
                      · cases h
                    rw [hL n hrd]; exact h
                  · cases h
                · rename_i hno
                  have hrd : f.rd = nmO (eo s.e x) ++ nmO (eo s.e y) ∧ ∃ d', d = some d' ∧ f.u = [d'] := by
                    unfold app2 at h
                    split at h
                    · split at h
                      · cases h
                      · split at h
                        · simp only [Option.some.injEq] at h; subst h; exact ⟨rfl, _, rfl, rfl⟩
                        · cases h
                    · cases h
                  obtain ⟨hrd, d', rfl, hu⟩ := hrd
                  have h1 : appD s2.L e (T e).size (eo s.e x) = appD s.L e (T e).size (eo s.e x) := by
                    unfold appD
                    split
                    · rename_i em; rw [hL _ (by rw [hrd, em]; simp [nmO])]
                    · rfl
                    · rfl
                    · rfl
                  have h2 : appS s2.L (T e).size (isU8 (T e).k) (eo s.e y) = appS s.L (T e).size (isU8 (T e).k) (eo s.e y) := by
                    unfold appS
                    split
                    · rename_i em; rw [hL _ (by rw [hrd, em]; simp [nmO])]
                    · rfl
                    · rfl
                    · rfl
                    · rfl
                  rw [h1, h2]
                  have hU1 := hU d' (by rw [hu]; exact List.mem_singleton.2 rfl)
                  have key : app2 s2.U e (T e).size (T e).bytes (nmO (eo s.e x) ++ nmO (eo s.e y)) (some d') (appD s.L e (T e).size (eo s.e x)) (appS s.L (T e).size (isU8 (T e).k) (eo s.e y)) = some f := by
                    unfold app2 at h ⊢
                    split at h
                    · rename_i d'' om rows news hd _ _
                      cases hd
                      split at h
                      · cases h
                      · split at h
                        · rename_i hb
                          rw [if_neg (by rw [hU1]; simp), if_pos hb]
                          exact h
                        · cases h
                    · cases h
                  first
                    | exact key
                    | (split
                       · rename_i hx hy; exact absurd (And.intro hx hy) (by rintro ⟨hx, hy⟩; exact hno _ _ _ _ _ _ _ hx hy)
                       · exact key)
              · cases h
            · cases h
          · cases h
        | clear =>
          simp only [evA] at h ⊢
          unfold eClr at h ⊢
          split at h
          · rename_i t x
            rw [he x (by simp [Op.operands, Call.operands])]
            split at h
            · rename_i e n es i j _ _
              have hrd : n ∈ f.rd := by
                unfold clrI at h
                split at h
                · split at h
                  · simp only [Option.some.injEq] at h; subst h; exact List.mem_singleton.2 rfl
                  · cases h
                · cases h
              rw [hL n hrd]; exact h
            · cases h
          · cases h
        | copy =>
          simp only [evA] at h ⊢
          unfold eCpy at h ⊢
          split at h
          · rename_i t u x y
            rw [he x (by simp [Op.operands, Call.operands]), he y (by simp [Op.operands, Call.operands])]
            split at h
            · unfold cpy at h ⊢
              split at h
              · rename_i m es x' rows _ _
                have hrd : m ∈ f.rd := by
                  split at h
                  · split at h
                    · simp only [Option.some.injEq] at h; subst h; exact List.mem_singleton.2 rfl
                    · cases h
                  · cases h
                rw [hL m hrd]; exact h
              · cases h
            · cases h
          · cases h
        | _ => cases h
      | _ => cases h
    | _ => cases h
theorem looks_operand {o : Oper} {t : Nat} (h : Operand.tmp t ∈ o.op.operands) : t ∈ o.looksAt ops := by
  unfold Oper.looksAt
  exact List.mem_append_left _ (List.mem_filterMap.2 ⟨.tmp t, by simpa using h, rfl⟩)
theorem eo_congr {o : Oper} {e e2 : Nat → AV} (h : ∀ t ∈ o.looksAt ops, e2 t = e t) : ∀ x ∈ o.op.operands, eo e2 x = eo e x := by
  intro x hx
  cases x with
  | tmp t => exact h t (looks_operand hx)
  | _ => rfl
theorem gd_congr {o : Oper} {e e2 : Nat → AV} (h : ∀ t ∈ o.looksAt ops, e2 t = e t) : gd ops o e2 = gd ops o e := by
  unfold gd
  cases hg : o.guard with
  | none => rfl
  | some p =>
    obtain ⟨j, want⟩ := p
    simp only
    have : yl ops j e2 = yl ops j e := by
      unfold yl
      cases hd : (ops[j]?).bind (·.dst) with
      | none => rfl
      | some d => exact h d (by unfold Oper.looksAt; rw [hg]; simp [hd])
    rw [this]

theorem ES.wr {o : Oper} {f : Eff} (h : ES X ops o s f) : ∀ p ∈ f.l, p.1 ∈ f.rd ∨ p.1 ∈ f.u := by
  cases h with
  | skip _ => intro n hn; cases hn
  | op _ h => exact (ev_props h).1
  | call _ hop hE => exact hE.wr
theorem ES.u {o : Oper} {f : Eff} (h : ES X ops o s f) : ∀ n ∈ f.u, o.dst = some (n % 4096) ∧ s.U n = false := by
  cases h with
  | skip _ => intro n hn; cases hn
  | op _ h => exact (ev_props h).2
  | call _ hop hE => exact hE.u
theorem ES.congr {s2 : St} {o : Oper} {f : Eff} (h : ES X ops o s f) (he : ∀ t ∈ o.looksAt ops, s2.e t = s.e t) (hL : ∀ n ∈ f.rd, s2.L n = s.L n) (hU : ∀ n ∈ f.u, s2.U n = false) : ES X ops o s2 f := by
  have hx := eo_congr he
  have hg := gd_congr (ops := ops) he
  cases h with
  | skip h => exact .skip (hg ▸ h)
  | op h hv => exact .op (hg ▸ h) (ev_congr hv hx hL hU)
  | call h hop hE =>
    rename_i fv asx ats
    rw [hop] at hx
    have h1 : asx.toList.map (eo s2.e) = asx.toList.map (eo s.e) := List.map_congr_left (fun x h => hx x (by simp [Op.operands, Call.operands]; exact .inr (by simpa using h)))
    have h2 : eo s2.e fv = eo s.e fv := hx fv (by simp [Op.operands, Call.operands])
    refine .call (hg ▸ h) hop ?_
    rw [h1, h2]
    exact ⟨fun s3 a b => hE.ok s3 (fun n hn => (a n hn).trans (hL n hn)) b, fun n hn => by rw [hL n hn]; exact hE.rdL n hn, hE.wr, fun n hn => ⟨(hE.u n hn).1, hU n hn⟩⟩
end
end Go.Proofs.YtkbidoikndgheaaDoor.HL

namespace Go.Proofs.YtkbidoikndgheaaDoor.HL
open Go.RowKit
section
variable {X : Cx} {ops : Array Oper} {s s' : St} {k : List Item}
theorem apE_ne {e : Nat → AV} {r : AV} {d : Option Tmp} {t : Nat} (h : d ≠ some t) : apE e r d t = e t := by
  cases d with
  | none => rfl
  | some d => exact upd_ne _ _ _ _ (fun e => h (by rw [e]))
theorem apU_true : ∀ {u : List Nat} {U : Nat → Bool} {n : Nat}, apU U u n = true ↔ U n = true ∨ n ∈ u
  | [], U, n => by simp [apU]
  | m :: u, U, n => by
    rw [apU, apU_true]
    by_cases e : n = m
    · subst e; simp [upd_same]
    · rw [upd_ne _ _ _ _ e]; simp [e]
theorem apU_mono {U : Nat → Bool} {u : List Nat} {n : Nat} (h : U n = true) : apU U u n = true := apU_true.2 (.inl h)
theorem apU_false {U : Nat → Bool} {u : List Nat} {n : Nat} (h : apU U u n = false) : U n = false ∧ n ∉ u := by
  constructor
  · cases hU : U n with
    | false => rfl
    | true => rw [apU_mono hU] at h; cases h
  · intro hn; rw [apU_true.2 (.inr hn)] at h; cases h
theorem mem_wr {f : Eff} {p : Nat × Option Blk} (hp : p ∈ f.l) (hu : p.1 ∉ f.u) : p.1 ∈ f.wr := by
  simp only [Eff.wr, List.mem_filter, List.mem_map]
  exact ⟨⟨p, hp, rfl⟩, by simpa using hu⟩
theorem indE_spec {f g : Eff} (h : indE f g = true) : (∀ n ∈ f.wr, n ∉ g.rd) ∧ (∀ n ∈ g.wr, n ∉ f.rd) ∧ ∀ n ∈ f.u, n ∉ g.rd := by
  simp only [indE, Bool.and_eq_true, List.all_eq_true, Bool.not_eq_true'] at h
  refine ⟨fun n hn hr => ?_, fun n hn hr => ?_, fun n hn hr => ?_⟩
  · have := h.1.1 n hn; rw [List.contains_iff_mem.2 hr] at this; cases this
  · have := h.1.2 n hn; rw [List.contains_iff_mem.2 hr] at this; cases this
  · have := h.2 n hn; rw [List.contains_iff_mem.2 hr] at this; cases this
theorem evV_rdL {T : Nat → TI} {L : Nat → Option Blk} {e : Nat → AV} {op : Op} {r : AV} (h : evV T L e op = some r) : ∀ n ∈ rdV e op, L n ≠ none := by
  intro n hn h0
  unfold rdV at hn
  split at hn
  · rename_i t a
    simp only [evV] at h
    cases hA : eo e a <;> rw [hA] at h hn <;> simp only [nmO, List.mem_singleton, List.not_mem_nil] at hn
    all_goals (subst hn; simp [eLoad, h0, boxOf, ownOf, cutR] at h)
  · rename_i t x i
    simp only [evV] at h
    cases hA : eo e x <;> rw [hA] at h hn <;> simp only [nmO, List.mem_singleton, List.not_mem_nil] at hn
    all_goals (subst hn; unfold eIdxA at h; split at h <;> simp_all [ownOf, idxO, boxOf])
  · rename_i t x i ok
    simp only [evV] at h
    cases hA : eo e x <;> rw [hA] at h hn <;> simp only [nmO, List.mem_singleton, List.not_mem_nil] at hn
    all_goals (subst hn; unfold eLook at h; split at h <;> simp_all [mapOf, lkp])
  · rename_i t x lo hi mx
    cases mx with
    | none =>
      simp only [evV] at h
      cases hA : eo e x <;> rw [hA] at h hn <;> simp only [nmO, List.mem_singleton, List.not_mem_nil] at hn
      all_goals (subst hn; unfold eSlice at h; split at h <;> simp_all [ownOf, eCutO])
    | some mx =>
      simp only [evV] at h
      cases hA : eo e x <;> rw [hA] at h hn <;> simp only [nmO, List.mem_singleton, List.not_mem_nil] at hn
      all_goals (subst hn; unfold eSlice3 at h; split at h <;> simp_all [ownOf])
  · rename_i ts a ats
    obtain ⟨ts⟩ := ats
    simp only [evV] at h
    unfold eLenR at h
    split at h
    · rename_i t a' hts has
      simp only [List.cons.injEq, and_true] at has
      subst has
      cases hA : eo e a <;> rw [hA] at h hn <;> simp only [nmO, List.mem_singleton, List.not_mem_nil] at hn
      all_goals (subst hn; unfold eLen at h; split at h <;> simp_all [rowsOf])
    · cases h
  · cases hn
theorem ev_rdL {T : Nat → TI} {d : Option Tmp} {op : Op} {f : Eff} (h : ev T d s op = some f) : ∀ n ∈ f.rd, s.L n ≠ none := by
  unfold ev at h
  cases hA : isA op with
  | false =>
    rw [hA] at h
    simp only [cond_false] at h
    cases hv : evV T s.L s.e op with
    | none => rw [hv] at h; cases h
    | some r =>
      rw [hv] at h
      simp only [eff0, Option.some.injEq] at h
      subst h
      exact evV_rdL hv
  | true =>
    rw [hA] at h
    simp only [cond_true] at h
    have hmk : ∀ {r : Nat → AV} {b : Option Blk}, mk s.U r d b = some f → ∀ n ∈ f.rd, s.L n ≠ none := by
      intro r b h
      obtain ⟨d', b', rfl, _, hU, _, rfl⟩ := mk_eq h
      intro n hn; cases hn
    have hS : ∀ {m : Nat} {b : Option Blk}, effS m b = some f → (s.L m = none → b = none) → ∀ n ∈ f.rd, s.L n ≠ none := by
      intro m b h hb n hn h0
      cases b with
      | none => cases h
      | some b =>
        simp only [effS, Option.some.injEq] at h
        subst h
        simp only [List.mem_singleton] at hn
        subst hn
        cases hb h0
    have hW : ∀ {r : AV} {m : Nat} {b : Option Blk}, f = ⟨r, [(m, b)], [], [m]⟩ → ownOf (s.L m) ≠ none → ∀ n ∈ f.rd, s.L n ≠ none := by
      intro r m b h h1 n hn h0
      subst h
      simp only [List.mem_singleton] at hn
      subst hn
      exact h1 (by rw [h0]; rfl)
    cases op with
    | makeSlice t l c =>
      simp only [evA] at h
      split at h
      · unfold mkSl at h
        split at h
        · split at h
          · exact hmk h
          · cases h
        · cases h
      · cases h
    | alloc t =>
      simp only [evA] at h
      split at h
      · cases h
      · exact hmk h
    | box t x => exact hmk (by simpa only [evA] using h)
    | store t a x =>
      simp only [evA] at h
      split at h
      · cases h
      · unfold eStore at h
        split at h
        · exact hS h (fun h0 => by rw [h0]; rfl)
        · exact hS h (fun h0 => by rw [h0]; rfl)
        · cases h
    | buildSlice t n ps =>
      obtain ⟨ps⟩ := ps
      simp only [evA, Option.map_eq_some_iff] at h
      obtain ⟨r, _, rfl⟩ := h
      intro n hn; cases hn
    | makeMap t r =>
      cases r with
      | some _ => cases h
      | none =>
        simp only [evA] at h
        split at h
        · exact hmk h
        · cases h
    | mapUpdate t m k x =>
      simp only [evA] at h
      split at h
      · split at h
        · unfold eMapU at h
          split at h
          · split at h
            · rename_i hes
              split at h
              · simp only [Option.some.injEq] at h
                subst h
                intro n hn h0
                simp only [List.mem_singleton] at hn
                subst hn
                rw [h0] at hes
                cases hes
              · cases h
            · cases h
          · cases h
        · cases h
      · cases h
    | call c =>
      obtain ⟨callee, ⟨asx⟩, ⟨ts⟩⟩ := c
      cases callee with
      | builtin b =>
        cases b with
        | append =>
          simp only [evA] at h
          unfold eApp at h
          split at h
          · rename_i t u x y
            split at h
            · split at h
              · unfold appX at h
                split at h
                · split at h
                  · unfold appI at h
                    split at h
                    · rename_i hm
                      split at h
                      · simp only [Option.some.injEq] at h
                        exact hW h.symm (by rw [hm]; exact fun h => by cases h)
                      · cases h
                    · cases h
                  · cases h
                · unfold app2 at h
                  split at h
                  · rename_i d' om rows news hD hSS
                    split at h
                    · cases h
                    · split at h
                      · simp only [Option.some.injEq] at h
                        subst h
                        intro n hn h0
                        rcases List.mem_append.1 hn with hn | hn
                        · cases hA : eo s.e x <;> rw [hA] at hD hn <;> simp only [nmO, List.mem_singleton, List.not_mem_nil] at hn
                          all_goals (subst hn; simp [appD, h0, ownOf] at hD)
                        · cases hA : eo s.e y <;> rw [hA] at hSS hn <;> simp only [nmO, List.mem_singleton, List.not_mem_nil] at hn
                          all_goals (subst hn; simp [appS, h0, ownOf] at hSS)
                      · cases h
                  · cases h
              · cases h
            · cases h
          · cases h
        | clear =>
          simp only [evA] at h
          unfold eClr at h
          split at h
          · split at h
            · unfold clrI at h
              split at h
              · rename_i hm
                split at h
                · simp only [Option.some.injEq] at h
                  exact hW h.symm (by rw [hm]; exact fun h => by cases h)
                · cases h
              · cases h
            · cases h
          · cases h
        | copy =>
          simp only [evA] at h
          unfold eCpy at h
          split at h
          · split at h
            · unfold cpy at h
              split at h
              · split at h
                · rename_i hm
                  split at h
                  · simp only [Option.some.injEq] at h
                    exact hW h.symm (by rw [hm]; exact fun h => by cases h)
                  · cases h
                · cases h
              · cases h
            · cases h
          · cases h
        | _ => cases h
      | _ => cases h
    | _ => cases h
theorem ES.rdL {o : Oper} {f : Eff} (h : ES X ops o s f) : ∀ n ∈ f.rd, s.L n ≠ none := by
  cases h with
  | skip _ => intro n hn; cases hn
  | op _ h => exact ev_rdL h
  | call _ hop hE => exact hE.rdL
/-- Two operations that do not meet can be done the other way round. -/
theorem ES.swap {x y : Oper} {f g : Eff} (hap : x.apart ops y = true) (hi : indE f g = true) (hx : ES X ops x s f) (hy : ES X ops y (f.ap x.dst s) g)
    (hw : ∀ n, s.L n ≠ none → s.U n = true) (hw' : ∀ n, (f.ap x.dst s).L n ≠ none → (f.ap x.dst s).U n = true) : ES X ops y s g ∧ ES X ops x (g.ap y.dst s) f ∧ f.ap x.dst (g.ap y.dst s) = g.ap y.dst (f.ap x.dst s) := by
  obtain ⟨i1, i2, i3⟩ := indE_spec hi
  obtain ⟨a1, a2, a3⟩ := Oper.apart_spec hap
  have ey : ∀ t ∈ y.looksAt ops, s.e t = (f.ap x.dst s).e t := fun t ht => (apE_ne (fun e => a1 t e ht)).symm
  have ex : ∀ t ∈ x.looksAt ops, (g.ap y.dst s).e t = s.e t := fun t ht => apE_ne (fun e => a3 t e ht)
  have rx : ∀ n ∈ f.rd, s.U n = true := fun n hn => hw n (hx.rdL n hn)
  have ux : ∀ n ∈ f.u, s.U n = false := fun n hn => (hx.u n hn).2
  have uy : ∀ n ∈ g.u, s.U n = false ∧ n ∉ f.u := fun n hn => apU_false (hy.u n hn).2
  have lx : ∀ p ∈ f.l, p.1 ∉ g.rd := fun p hp hr => by
    by_cases e : p.1 ∈ f.u
    · exact i3 _ e hr
    · exact i1 _ (mem_wr hp e) hr
  have ly : ∀ p ∈ g.l, p.1 ∉ f.rd := fun p hp hr => by
    by_cases e : p.1 ∈ g.u
    · have := (uy _ e).1; rw [rx _ hr] at this; cases this
    · exact i2 _ (mem_wr hp e) hr
  have hdis : ∀ p ∈ g.l, ∀ q ∈ f.l, p.1 ≠ q.1 := by
    intro p hp q hq e
    rcases hy.wr p hp with h | h
    · exact lx q hq (e ▸ h)
    · rcases hx.wr q hq with h' | h'
      · exact ly p hp (e ▸ h')
      · exact (uy _ h).2 (by rw [e]; exact h')
  refine ⟨hy.congr ey (fun n hn => (apL_not (fun p hp e => lx p hp (e ▸ hn))).symm) (fun n hn => (uy n hn).1),
    hx.congr ex (fun n hn => apL_not (fun p hp e => ly p hp (e ▸ hn))) (fun n hn => ?_), ?_⟩
  · show apU s.U g.u n = false
    cases hh : apU s.U g.u n with
    | false => rfl
    | true =>
      rcases apU_true.1 hh with h | h
      · rw [ux n hn] at h; cases h
      · exact absurd hn (uy n h).2
  · simp only [Eff.ap]
    have e1 : apE (apE s.e g.r y.dst) f.r x.dst = apE (apE s.e f.r x.dst) g.r y.dst := by
      cases h1 : x.dst with
      | none => rfl
      | some d =>
        cases h2 : y.dst with
        | none => rfl
        | some d' => exact upd_comm _ _ _ _ _ (fun e => a2 d h1 (by rw [h2, e]))
    have e2 : apU (apU s.U g.u) f.u = apU (apU s.U f.u) g.u := by
      funext n
      rw [Bool.eq_iff_iff, apU_true, apU_true, apU_true, apU_true]
      constructor <;> (rintro ((h | h) | h) <;> simp [h])
    rw [e1, e2, apL_comm hdis]
theorem ES.wl {o : Oper} {f : Eff} (h : ES X ops o s f) (hw : ∀ n, s.L n ≠ none → s.U n = true) : ∀ n, (f.ap o.dst s).L n ≠ none → (f.ap o.dst s).U n = true := by
  intro n hn
  by_cases hm : ∃ p ∈ f.l, p.1 = n
  · obtain ⟨p, hp, rfl⟩ := hm
    rcases h.wr p hp with h1 | h1
    · exact apU_mono (hw _ (h.rdL _ h1))
    · exact apU_true.2 (.inr h1)
  · have : (f.ap o.dst s).L n = s.L n := apL_not (fun p hp e => hm ⟨p, hp, e⟩)
    rw [this] at hn
    exact apU_mono (hw n hn)
/-- An operation that does not meet those ahead of it can be done first. -/
theorem ESeq.pull {i : Nat} {o : Oper} (ho : ops[i]? = some o) {E : Nat → Eff} {post : List (Nat × Eff)} : ∀ (pre : List Nat) (s s' : St), (∀ j ∈ pre, indE (E j) (E i) = true ∧ ∀ x, ops[j]? = some x → x.apart ops o = true) →
    (∀ n, s.L n ≠ none → s.U n = true) → ESeq X ops (pre.map (fun i => (i, E i)) ++ (i, E i) :: post) s s' → ES X ops o s (E i) ∧ ESeq X ops (pre.map (fun i => (i, E i)) ++ post) ((E i).ap o.dst s) s'
  | [], s, s', _, _, h => by
    cases h with
    | cons ho' h1 h2 =>
      rw [ho] at ho'
      injection ho' with ho'
      subst ho'
      exact ⟨h1, h2⟩
  | j :: pre, s, s', hj, hw, h => by
    cases h with
    | cons ho' h1 h2 =>
      rename_i x
      obtain ⟨hind, hap⟩ := hj j (List.mem_cons_self ..)
      have hap := hap x ho'
      obtain ⟨hf, hs⟩ := ESeq.pull ho pre _ s' (fun j hj' => hj j (List.mem_cons_of_mem _ hj')) (h1.wl hw) h2
      obtain ⟨b1, b2, b3⟩ := ES.swap hap hind h1 hf hw (h1.wl hw)
      exact ⟨b1, .cons ho' b2 (b3 ▸ hs)⟩

/-- What an operation comes after, by the text's edges. -/
def dp (ops : Array Oper) (i : Nat) : List Nat := ((ops[i]?).map fun o => o.after.toList.filterMap fun e => if Region.binds .any e = true then some e.on else none).getD []
/-- A region whose order does not matter; 'cl': for each operation those that are ahead of it in every order. -/
def drawOk (ops : Array Oper) (nt : Nat) (cl : List (List Nat)) : Bool := (List.range ops.size).all fun i => match ops[i]? with
  | none => true
  | some o => (match o.dst with | some d => decide (d < nt) | none => true) && (dp ops i).all (· < i) && ((cl.getD i []).all fun j => (dp ops i).contains j || (dp ops i).any fun m => (cl.getD m []).contains j) &&
    (List.range i).all fun j => (cl.getD i []).contains j || (match ops[j]? with | some x => x.apart ops o | none => true)
structure DrawOk (ops : Array Oper) (nt : Nat) (cl : List (List Nat)) : Prop where
  hdst : ∀ (i : Nat) (o : Oper), ops[i]? = some o → ∀ d, o.dst = some d → d < nt
  hdp : ∀ (i : Nat) (o : Oper), ops[i]? = some o → ∀ m ∈ dp ops i, m < i
  hcl : ∀ (i : Nat) (o : Oper), ops[i]? = some o → ∀ j ∈ cl.getD i [], j ∈ dp ops i ∨ ∃ m ∈ dp ops i, j ∈ cl.getD m []
  hind : ∀ (i : Nat) (o : Oper), ops[i]? = some o → ∀ j, j < i → j ∉ cl.getD i [] → ∀ x, ops[j]? = some x → x.apart ops o = true
theorem drawOk_ok {nt : Nat} {cl : List (List Nat)} (h : drawOk ops nt cl = true) : DrawOk ops nt cl := by
  have h' : ∀ (i : Nat) (o : Oper), ops[i]? = some o → (match o.dst with | some d => decide (d < nt) | none => true) = true ∧ (dp ops i).all (· < i) = true ∧ ((cl.getD i []).all fun j => (dp ops i).contains j || (dp ops i).any fun m => (cl.getD m []).contains j) = true ∧
      ((List.range i).all fun j => (cl.getD i []).contains j || (match ops[j]? with | some x => x.apart ops o | none => true)) = true := by
    intro i o ho
    have hi : i < ops.size := (Array.getElem?_eq_some_iff.1 ho).1
    have := List.all_eq_true.1 h i (by simpa using hi)
    simp only [ho, Bool.and_eq_true] at this
    exact ⟨this.1.1.1, this.1.1.2, this.1.2, this.2⟩
  refine ⟨fun i o ho d hd => ?_, fun i o ho m hm => ?_, fun i o ho j hj => ?_, fun i o ho j hji hj x hx => ?_⟩
  · have := (h' i o ho).1; rw [hd] at this; exact of_decide_eq_true this
  · exact of_decide_eq_true (List.all_eq_true.1 (h' i o ho).2.1 m hm)
  · have := List.all_eq_true.1 (h' i o ho).2.2.1 j hj
    simp only [Bool.or_eq_true, List.contains_iff_mem, List.any_eq_true] at this
    exact this
  · have := List.all_eq_true.1 (h' i o ho).2.2.2 j (by simpa using hji)
    simp only [Bool.or_eq_true, List.contains_iff_mem, hx] at this
    exact this.resolve_left hj

theorem ready_mem {listed : Array Bool} {i : Nat} (h : i ∈ Region.ready .any ops listed) : i < ops.size ∧ listed.getD i true = false ∧ ∀ m ∈ dp ops i, listed.getD m false = true := by
  simp only [Region.ready, List.mem_filter, List.mem_range, Bool.and_eq_true, Bool.not_eq_true'] at h
  refine ⟨h.1, h.2.1, fun m hm => ?_⟩
  cases ho : ops[i]? with
  | none => simp [dp, ho] at hm
  | some o =>
    have h2 := h.2.2
    rw [ho] at h2
    simp only [Option.map_some, Option.getD_some] at h2
    simp only [dp, ho, Option.map_some, Option.getD_some, List.mem_filterMap] at hm
    obtain ⟨e, he, hem⟩ := hm
    split at hem
    · rename_i hb
      simp only [Option.some.injEq] at hem
      subst hem
      have := (Array.all_eq_true_iff_forall_mem.1 h2) e (by simpa using he)
      simpa [hb] using this
    · cases hem
theorem mem_ready {listed : Array Bool} {i : Nat} (h1 : i < ops.size) (h2 : listed.getD i true = false) (h3 : ∀ m ∈ dp ops i, listed.getD m false = true) : i ∈ Region.ready .any ops listed := by
  simp only [Region.ready, List.mem_filter, List.mem_range, Bool.and_eq_true, Bool.not_eq_true']
  refine ⟨h1, h2, ?_⟩
  have ho : ops[i]? = some ops[i] := Array.getElem?_eq_getElem h1
  rw [ho]
  simp only [Option.map_some, Option.getD_some]
  refine Array.all_eq_true_iff_forall_mem.2 (fun e he => ?_)
  cases hb : Region.binds .any e with
  | false => rfl
  | true =>
    have := h3 e.on (by simp only [dp, ho, Option.map_some, Option.getD_some, List.mem_filterMap]; exact ⟨e, by simpa using he, by simp [hb]⟩)
    simpa using this
theorem draw_go (hT : TOk X.P X.T) {cl : List (List Nat)} (hok : DrawOk ops X.nt cl) {E : Nat → Eff} (hE : ∀ i, i < ops.size → ∀ j, j < i → j ∉ cl.getD i [] → indE (E j) (E i) = true) (hk : Run X k s') : ∀ (fuel t : Nat) (listed : Array Bool) (s : St) (rem : List Nat), listed.size = ops.size → rem = (List.range ops.size).filter (fun i => !listed.getD i true) → rem.length = fuel →
    (∀ i, i < ops.size → listed.getD i true = true → ∀ m ∈ dp ops i, listed.getD m false = true) → ESeq X ops (rem.map fun i => (i, E i)) s s' → Run X (.inRegion ops (Region.linearise.go .any ops fuel t listed []) :: k) s := by
  intro fuel
  induction fuel with
  | zero =>
    intro t listed s rem hsz hrem hlen hdc hs
    have : rem = [] := List.eq_nil_of_length_eq_zero hlen
    subst this
    cases hs
    simp only [Region.linearise.go, List.reverse_nil]
    exact RunOps.done (ops := ops) hk [] rfl
  | succ fuel ih =>
    intro t listed s rem hsz hrem hlen hdc hs
    have hmem : ∀ i, i ∈ rem ↔ i < ops.size ∧ listed.getD i true = false := by intro i; rw [hrem]; simp
    have hex : ∀ n i, i ≤ n → i < ops.size → listed.getD i true = false → ∃ i0, i0 ∈ Region.ready .any ops listed := by
      intro n
      induction n with
      | zero =>
        intro i hi h1 h2
        refine ⟨i, mem_ready h1 h2 (fun m hm => ?_)⟩
        have := hok.hdp i _ (Array.getElem?_eq_getElem h1) m hm
        omega
      | succ n ihn =>
        intro i hi h1 h2
        by_cases hall : ∀ m ∈ dp ops i, listed.getD m false = true
        · exact ⟨i, mem_ready h1 h2 hall⟩
        · have : ∃ m, m ∈ dp ops i ∧ ¬ listed.getD m false = true := by
            refine Classical.byContradiction (fun hne => hall (fun m hm => Classical.byContradiction (fun hm' => hne ⟨m, hm, hm'⟩)))
          obtain ⟨m, hm, hml⟩ := this
          have hlt := hok.hdp i _ (Array.getElem?_eq_getElem h1) m hm
          refine ihn m (by omega) (by omega) ?_
          have hms : m < listed.size := by omega
          simp [hms] at hml ⊢
          exact hml
    obtain ⟨i00, hi00⟩ : ∃ i, i ∈ rem := by
      cases hr : rem with
      | nil => rw [hr] at hlen; cases hlen
      | cons a l => exact ⟨a, List.mem_cons_self ..⟩
    obtain ⟨i0, hi0⟩ := hex i00 i00 (Nat.le_refl _) ((hmem i00).1 hi00).1 ((hmem i00).1 hi00).2
    simp only [Region.linearise.go]
    change Run X (.inRegion ops (match (Region.ready .any ops listed)[t % (Region.ready .any ops listed).length]? with
      | some i => Region.linearise.go .any ops fuel (t / (Region.ready .any ops listed).length) (listed.setIfInBounds i true) [i]
      | none => [].reverse) :: k) s
    have hne : 0 < (Region.ready .any ops listed).length := List.length_pos_of_mem hi0
    have hlt : t % (Region.ready .any ops listed).length < (Region.ready .any ops listed).length := Nat.mod_lt _ hne
    rw [List.getElem?_eq_getElem hlt]
    simp only
    have hir : (Region.ready .any ops listed)[t % (Region.ready .any ops listed).length] ∈ Region.ready .any ops listed := List.getElem_mem hlt
    generalize (Region.ready .any ops listed)[t % (Region.ready .any ops listed).length] = i at hir ⊢
    rw [linearise_go_acc, List.reverse_singleton, List.singleton_append]
    obtain ⟨h1, h2, h3⟩ := ready_mem hir
    obtain ⟨pre, post, hsplit⟩ := List.append_of_mem ((hmem i).2 ⟨h1, h2⟩)
    have ho : ops[i]? = some ops[i] := Array.getElem?_eq_getElem h1
    have hsorted : rem.Pairwise (· < ·) := by rw [hrem]; exact List.pairwise_lt_range.filter _
    have hnd : rem.Nodup := by rw [hrem]; exact List.nodup_range.filter _
    have hcl : ∀ n i, i ≤ n → (∀ o, ops[i]? = some o → (∀ m ∈ dp ops i, listed.getD m false = true) → ∀ j ∈ cl.getD i [], listed.getD j false = true) := by
      intro n
      induction n with
      | zero =>
        intro i hi o ho hall j hj
        rcases hok.hcl i o ho j hj with h | ⟨m, hm, _⟩
        · exact hall j h
        · have := hok.hdp i o ho m hm; omega
      | succ n ihn =>
        intro i hi o ho hall j hj
        rcases hok.hcl i o ho j hj with h | ⟨m, hm, hjm⟩
        · exact hall j h
        · have hmi := hok.hdp i o ho m hm
          have his : i < ops.size := (Array.getElem?_eq_some_iff.1 ho).1
          have hms : m < ops.size := by omega
          have hml := hall m hm
          refine ihn m (by omega) _ (Array.getElem?_eq_getElem hms) (hdc m hms ?_) j hjm
          have hml' : m < listed.size := by omega
          simp [hml'] at hml ⊢
          exact hml
    have hpre : ∀ j ∈ pre, indE (E j) (E i) = true ∧ ∀ x, ops[j]? = some x → x.apart ops ops[i] = true := by
      intro j hj
      have hjr : j ∈ rem := by rw [hsplit]; exact List.mem_append_left _ hj
      have hji : j < i := by
        rw [hsplit] at hsorted
        exact (List.pairwise_append.1 hsorted).2.2 j hj i (List.mem_cons_self ..)
      have hno : j ∉ cl.getD i [] := fun hjc => ?_
      · exact ⟨hE i h1 j hji hno, hok.hind i _ ho j hji hno⟩
      have := hcl i i (Nat.le_refl _) _ ho h3 j hjc
      have hu := ((hmem j).1 hjr).2
      have hjs : j < listed.size := by have := ((hmem j).1 hjr).1; omega
      simp [hjs] at this hu
      rw [this] at hu
      cases hu
    intro γ F a w hi he
    rw [hsplit, List.map_append, List.map_cons] at hs
    obtain ⟨hf, hs'⟩ := ESeq.pull ho pre s s' hpre (fun n hn => by
        obtain ⟨b, hb⟩ := Option.ne_none_iff_exists'.1 hn
        obtain ⟨v, hv⟩ := (hi.blk n b hb).named
        exact hi.dom n v hv) hs
    rw [← List.map_append] at hs'
    refine ES.run hT hf ho (hok.hdst i _ ho) (ih _ (listed.setIfInBounds i true) _ (pre ++ post) (by simpa using hsz) ?_ ?_ ?_ hs') γ F a w hi he
    · have hget : ∀ j, (listed.setIfInBounds i true).getD j true = (listed.getD j true || decide (j = i)) := by
        intro j
        by_cases e : j = i
        · subst e
          have : j < listed.size := by omega
          simp [this]
        · simp [Array.getElem?_setIfInBounds_ne (Ne.symm e), e]
      have e1 : (List.range ops.size).filter (fun j => !(listed.setIfInBounds i true).getD j true) = rem.filter (fun j => !decide (j = i)) := by
        rw [hrem, List.filter_filter]
        congr 1
        funext j
        rw [hget j]
        cases listed.getD j true <;> simp
      rw [e1, hsplit, List.filter_append, List.filter_cons_of_neg (by simp)]
      rw [hsplit] at hnd
      have hnd' := List.nodup_append.1 hnd
      have hp : ∀ j ∈ pre, (!decide (j = i)) = true := fun j hj => by simpa using hnd'.2.2 j hj i (List.mem_cons_self ..)
      have hq : ∀ j ∈ post, (!decide (j = i)) = true := fun j hj => by
        have := (List.nodup_cons.1 hnd'.2.1).1
        simp
        exact fun e => this (e ▸ hj)
      rw [List.filter_eq_self.2 hp, List.filter_eq_self.2 hq]
    · rw [hsplit] at hlen
      simp at hlen ⊢
      omega
    · intro j hj hjl m hm
      have hget : ∀ j, listed.getD j false = true → (listed.setIfInBounds i true).getD j false = true := by
        intro j hj
        by_cases e : j = i
        · subst e
          have : j < listed.size := by omega
          simp [this]
        · simpa [Array.getElem?_setIfInBounds_ne (Ne.symm e)] using hj
      by_cases e : j = i
      · subst e; exact hget m (h3 m hm)
      · refine hget m (hdc j hj ?_ m hm)
        simpa [Array.getElem?_setIfInBounds_ne (Ne.symm e)] using hjl
/-- A region that draws its order. -/
theorem Run.draw (hT : TOk X.P X.T) (hm : X.P.follows .mixedOrders = true) {id : Nat} (cl : List (List Nat)) (hok : drawOk ops X.nt cl = true) {E : Nat → Eff} (hE : ∀ i, i < ops.size → ∀ j, j < i → j ∉ cl.getD i [] → indE (E j) (E i) = true) (hs : ESeq X ops ((List.range ops.size).map fun i => (i, E i)) s s') (hk : Run X k s') : Run X (.code (.region id ops true) :: k) s := by
  intro γ F a w hi he
  refine .of_step (fun cs => stepR_region_draw) ?_
  have hsch : Region.schedule (X.P.follows .mixedOrders) ops (w.tape w.drawn (.order (base X).fn id)) = Region.linearise.go .any ops ops.size (w.tape w.drawn (.order (base X).fn id)) (Array.replicate ops.size false) [] := by
    simp only [Region.schedule, hm, Bool.true_or, if_true]
    rfl
  rw [hsch]
  have hrep : ∀ i, i < ops.size → (Array.replicate ops.size false).getD i true = false := by
    intro i hi
    simp [hi]
  have hg := draw_go hT (drawOk_ok hok) hE hk ops.size (w.tape w.drawn (.order (base X).fn id)) (Array.replicate ops.size false) s (List.range ops.size) (by simp)
    (by symm; apply List.filter_eq_self.2; intro i hi; rw [hrep i (by simpa using hi)]; rfl) (by simp)
    (fun i hi h => by rw [hrep i hi] at h; cases h) hs
  have hi' : Inv X γ F s { w with drawn := w.drawn + 1 } := hi.grow ⟨rfl, rfl, rfl, Nat.le_refl _, fun _ _ => rfl⟩ (fun _ h => h) (fun _ h => .inl h) hi.fr
  have he' : ERel X γ F s a { w with drawn := w.drawn + 1 } := ⟨he.d.fwd (.grow hi ⟨rfl, rfl, rfl, Nat.le_refl _, fun _ _ => rfl⟩ (fun _ h => h)), he.n, fun t => VRel.grow (w' := { w with drawn := w.drawn + 1 }) hi ⟨rfl, rfl, rfl, Nat.le_refl _, fun _ _ => rfl⟩ (fun _ h => h) (he.r t)⟩
  exact hg γ F a _ hi' he'
end
end Go.Proofs.YtkbidoikndgheaaDoor.HL

namespace Go.Proofs.YtkbidoikndgheaaDoor.HL
open Go.RowKit

/-- What is kept of an effect: the names looked at, those of changed blocks. -/
structure Sg where
  rd : List Nat
  wr : List Nat
  u : List Nat
def Eff.sg (f : Eff) : Sg := ⟨f.rd, f.wr, f.u⟩
def indS (f g : Sg) : Bool := f.wr.all (fun n => !g.rd.contains n) && g.wr.all (fun n => !f.rd.contains n) && f.u.all (fun n => !g.rd.contains n)
def sgOk (cl : List (List Nat)) (l : List Sg) : Bool := (List.range l.length).all fun i => (List.range i).all fun j => (cl.getD i []).contains j || indS (l.getD j ⟨[], [], []⟩) (l.getD i ⟨[], [], []⟩)
/-- The operations that are ahead of each one. -/
def clo (ops : Array Oper) : List (List Nat) := ops.toList.foldl (init := []) fun acc o =>
  let d := o.after.toList.filterMap fun e => if Region.binds .any e = true then some e.on else none
  acc ++ [(d ++ d.flatMap fun m => acc.getD m []).eraseDups]
/-- The rest of a region, in the text's order, behind operations of these effects. -/
def DrawTo (X : Cx) (ops : Array Oper) (rest : List Oper) (k : List Item) (acc : List Sg) (s : St) : Prop :=
  ∀ l : List Nat, l.map (fun i => ops[i]?) = rest.map some → ∃ (fs : List Eff) (s' : St), fs.length = l.length ∧ ESeq X ops (l.zip fs) s s' ∧ sgOk (clo ops) (acc ++ fs.map Eff.sg) = true ∧ Run X k s'
/-- At a call in a region that draws. -/
def CallD (X : Cx) (fv : AV) (args : List AV) (d : Option Tmp) (ops : Array Oper) (rest : List Oper) (k : List Item) (acc : List Sg) (s : St) : Prop :=
  ∃ f s', CallE X s d fv args f ∧ put X.nt d f s = some s' ∧ DrawTo X ops rest k (acc ++ [f.sg]) s'
section
variable {X : Cx} {ops : Array Oper} {s s' : St} {k : List Item} {rest : List Oper} {acc : List Sg}
theorem CallD.pure {g : FuncId} {caps args : List AV} {d : Option Tmp} {r : AV} (h : PureFn X.P g (args ++ caps) r) (hn : nfL (args ++ caps) = true) (hp : put X.nt d ⟨r, [], [], []⟩ s = some s') (hk : DrawTo X ops rest k (acc ++ [⟨[], [], []⟩]) s') :
    CallD X (.fn g caps) args d ops rest k acc s := ⟨_, s', .pure h hn, hp, hk⟩
theorem DrawTo.cons {o : Oper} {f : Eff} (hE : ES X ops o s f) (hk : DrawTo X ops rest k (acc ++ [f.sg]) (f.ap o.dst s)) : DrawTo X ops (o :: rest) k acc s := by
  intro l hl
  obtain ⟨i, l', rfl, ho, hl'⟩ := idx_cons hl
  obtain ⟨fs, s', h1, h2, h3, h4⟩ := hk l' hl'
  exact ⟨f :: fs, s', by simp [h1], .cons ho hE h2, by simpa using h3, h4⟩
theorem DrawTo.op {o : Oper} {f : Eff} {s2 : St} (hg : gd ops o s.e = some true) (h : ev X.T o.dst s o.op = some f) (hp : put X.nt o.dst f s = some s2) (hk : DrawTo X ops rest k (acc ++ [f.sg]) s2) : DrawTo X ops (o :: rest) k acc s := by
  obtain ⟨rfl, _⟩ := put_eq hp
  exact .cons (.op hg h) hk
theorem DrawTo.skip {o : Oper} {s2 : St} (hg : gd ops o s.e = some false) (hp : put X.nt o.dst effU s = some s2) (hk : DrawTo X ops rest k (acc ++ [⟨[], [], []⟩]) s2) : DrawTo X ops (o :: rest) k acc s := by
  obtain ⟨rfl, _⟩ := put_eq hp
  exact .cons (.skip hg) hk
theorem DrawTo.call {o : Oper} {f : Operand} {asx : Array Operand} {ats : Array TypeId} (ho : o.op = .call ⟨.value f, asx, ats⟩) (hg : gd ops o s.e = some true)
    (h : CallD X (eo s.e f) (asx.toList.map (eo s.e)) o.dst ops rest k acc s) : DrawTo X ops (o :: rest) k acc s := by
  obtain ⟨ff, s2, hE, hp, hk⟩ := h
  obtain ⟨rfl, _⟩ := put_eq hp
  exact .cons (.call hg ho hE) hk
theorem DrawTo.done (hs : sgOk (clo ops) acc = true) (h : Run X k s) : DrawTo X ops [] k acc s := by
  intro l hl
  have : l = [] := by cases l <;> simp_all
  subst this
  exact ⟨[], s, rfl, .nil s, by simpa using hs, h⟩

mutual
def vp (X : Cx) : Nat → Array Oper → List Oper → List Item → List Sg → St → Prop
  | 0, ops, rest, k, acc, s => DrawTo X ops rest k acc s
  | _ + 1, ops, [], k, acc, s => sgOk (clo ops) acc = true ∧ Run X k s
  | _ + 1, ops, ⟨d, .call ⟨.value f, args, _⟩, _, _, _, none⟩ :: rest, k, acc, s => CallD X (eo s.e f) (args.toList.map (eo s.e)) d ops rest k acc s
  | n + 1, ops, ⟨d, op, _, _, _, none⟩ :: rest, k, acc, s => p1 X n ops rest k acc d s (ev X.T d s op)
  | n + 1, ops, ⟨d, op, _, _, _, some (j, want)⟩ :: rest, k, acc, s => pg X n ops d op rest k acc s (yl ops j s.e) want
def p1 (X : Cx) (n : Nat) (ops : Array Oper) (rest : List Oper) (k : List Item) (acc : List Sg) (d : Option Tmp) (s : St) : Option Eff → Prop
  | some f => p2 X n ops rest k (acc ++ [f.sg]) (put X.nt d f s)
  | none => False
def p2 (X : Cx) (n : Nat) (ops : Array Oper) (rest : List Oper) (k : List Item) (acc : List Sg) : Option St → Prop
  | some s => vp X n ops rest k acc s
  | none => False
def pg (X : Cx) (n : Nat) (ops : Array Oper) (d : Option Tmp) (op : Op) (rest : List Oper) (k : List Item) (acc : List Sg) (s : St) : AV → Bool → Prop
  | .v (.bool b), want => pb X n ops d op rest k acc s want b
  | .v (.tuple _), _ => p2 X n ops rest k (acc ++ [⟨[], [], []⟩]) (put X.nt d effU s)
  | _, _ => False
def pb (X : Cx) (n : Nat) (ops : Array Oper) (d : Option Tmp) (op : Op) (rest : List Oper) (k : List Item) (acc : List Sg) (s : St) (want b : Bool) : Prop :=
  Br (b == want) (ph X n ops d op rest k acc s) (p2 X n ops rest k (acc ++ [⟨[], [], []⟩]) (put X.nt d effU s))
def ph (X : Cx) (n : Nat) (ops : Array Oper) (d : Option Tmp) : Op → List Oper → List Item → List Sg → St → Prop
  | .call ⟨.value f, args, _⟩, rest, k, acc, s => CallD X (eo s.e f) (args.toList.map (eo s.e)) d ops rest k acc s
  | op, rest, k, acc, s => p1 X n ops rest k acc d s (ev X.T d s op)
end
theorem gd_some {o : Oper} {j : Nat} {want b : Bool} {e : Nat → AV} (h : o.guard = some (j, want)) (hy : yl ops j e = .v (.bool b)) : gd ops o e = some (b == want) := by
  simp only [gd, h, hy]
theorem gd_none {o : Oper} {e : Nat → AV} (h : o.guard = none) : gd ops o e = some true := by simp only [gd, h]
theorem vp_ok : ∀ (n : Nat) (ops : Array Oper) (rest : List Oper) (k : List Item) (acc : List Sg) (s : St), vp X n ops rest k acc s → DrawTo X ops rest k acc s
  | 0, _, _, _, _, _, h => by simpa only [vp] using h
  | n + 1, _, [], k, acc, s, h => by
    simp only [vp] at h
    exact .done h.1 h.2
  | n + 1, ops, ⟨d, op, ty, pos, af, none⟩ :: rest, k, acc, s, h => by
    have go : p1 X n ops rest k acc d s (ev X.T d s op) → DrawTo X ops (⟨d, op, ty, pos, af, none⟩ :: rest) k acc s := by
      intro h
      cases he : ev X.T d s op with
      | none => rw [he] at h; simp only [p1] at h
      | some p =>
        rw [he] at h
        simp only [p1] at h
        cases hp : put X.nt d p s with
        | none => rw [hp] at h; simp only [p2] at h
        | some s2 => rw [hp] at h; exact .op (gd_none rfl) he hp (vp_ok n ops rest k _ s2 (by simpa only [p2] using h))
    cases op with
    | call c =>
      obtain ⟨callee, args, ats⟩ := c
      cases callee with
      | value f => exact .call rfl (gd_none rfl) (by simpa only [vp] using h)
      | _ => exact go (by simpa only [vp] using h)
    | _ => exact go (by simpa only [vp] using h)
  | n + 1, ops, ⟨d, op, ty, pos, af, some (j, want)⟩ :: rest, k, acc, s, h => by
    simp only [vp] at h
    cases hy : yl ops j s.e with
    | v x =>
      rw [hy] at h
      cases x with
      | bool b =>
        simp only [pg, pb] at h
        have hw := gd_some (ops := ops) (o := ⟨d, op, ty, pos, af, some (j, want)⟩) (e := s.e) rfl hy
        have h := h.elim
        cases hb : b == want with
        | false =>
          rw [hb] at h hw
          simp only [Bool.false_eq_true, if_false] at h
          cases hp : put X.nt d effU s with
          | none => rw [hp] at h; simp only [p2] at h
          | some s2 => rw [hp] at h; exact .skip hw hp (vp_ok n ops rest k _ s2 (by simpa only [p2] using h))
        | true =>
          rw [hb] at h hw
          simp only [if_true] at h
          have go : p1 X n ops rest k acc d s (ev X.T d s op) → DrawTo X ops (⟨d, op, ty, pos, af, some (j, want)⟩ :: rest) k acc s := by
            intro h
            cases he : ev X.T d s op with
            | none => rw [he] at h; simp only [p1] at h
            | some p =>
              rw [he] at h
              simp only [p1] at h
              cases hp : put X.nt d p s with
              | none => rw [hp] at h; simp only [p2] at h
              | some s2 => rw [hp] at h; exact .op hw he hp (vp_ok n ops rest k _ s2 (by simpa only [p2] using h))
          cases op with
          | call c =>
            obtain ⟨callee, args, ats⟩ := c
            cases callee with
            | value f => exact .call rfl hw (by simpa only [ph] using h)
            | _ => exact go (by simpa only [ph] using h)
          | _ => exact go (by simpa only [ph] using h)
      | tuple x =>
        simp only [pg] at h
        have hw : gd ops ⟨d, op, ty, pos, af, some (j, want)⟩ s.e = some false := by simp only [gd, hy]
        cases hp : put X.nt d effU s with
        | none => rw [hp] at h; simp only [p2] at h
        | some s2 => rw [hp] at h; exact .skip hw hp (vp_ok n ops rest k _ s2 (by simpa only [p2] using h))
      | _ => simp only [pg] at h
    | _ => rw [hy] at h; simp only [pg] at h
theorem pg_undef (n : Nat) (ops : Array Oper) (d : Option Tmp) (op : Op) (rest : List Oper) (k : List Item) (acc : List Sg) (s : St) (want : Bool) : pg X n ops d op rest k acc s (.v undef) want = p2 X n ops rest k (acc ++ [⟨[], [], []⟩]) (put X.nt d effU s) := by simp only [undef, pg]
theorem pb_tt (n : Nat) (ops : Array Oper) (d : Option Tmp) (op : Op) (rest : List Oper) (k : List Item) (acc : List Sg) (s : St) : pb X n ops d op rest k acc s true true = ph X n ops d op rest k acc s := by simp [pb, Br]
theorem pb_ff (n : Nat) (ops : Array Oper) (d : Option Tmp) (op : Op) (rest : List Oper) (k : List Item) (acc : List Sg) (s : St) : pb X n ops d op rest k acc s false false = ph X n ops d op rest k acc s := by simp [pb, Br]
theorem pb_tf (n : Nat) (ops : Array Oper) (d : Option Tmp) (op : Op) (rest : List Oper) (k : List Item) (acc : List Sg) (s : St) : pb X n ops d op rest k acc s true false = p2 X n ops rest k (acc ++ [⟨[], [], []⟩]) (put X.nt d effU s) := by simp [pb, Br]
theorem pb_ft (n : Nat) (ops : Array Oper) (d : Option Tmp) (op : Op) (rest : List Oper) (k : List Item) (acc : List Sg) (s : St) : pb X n ops d op rest k acc s false true = p2 X n ops rest k (acc ++ [⟨[], [], []⟩]) (put X.nt d effU s) := by simp [pb, Br]
theorem pb_split {n : Nat} {ops : Array Oper} {d : Option Tmp} {op : Op} {rest : List Oper} {k : List Item} {acc : List Sg} {s : St} {want t : Bool} (h : t = true → pb X n ops d op rest k acc s want true) (h' : t = false → pb X n ops d op rest k acc s want false) : pb X n ops d op rest k acc s want t := by
  cases t
  · exact h' rfl
  · exact h rfl
theorem XW.draw {P : Program} {T : Nat → TI} {g nt : Nat} {res : List ResultVar} {id : Nat} (hX : XW P T g nt res X) (hm : P.follows .mixedOrders = true) (hok : drawOk ops nt (clo ops) = true) (h : vp X 1000 ops ops.toList k [] s) : Run X (.code (.region id ops true) :: k) s := by
  obtain ⟨fs, s', h0, h1, h2, h3⟩ := vp_ok 1000 ops ops.toList k [] s h (List.range ops.size) (by
    apply List.ext_getElem?
    intro n
    simp only [List.getElem?_map, Array.getElem?_toList]
    by_cases hn : n < ops.size
    · simp [hn]
    · simp [hn])
  rw [List.length_range] at h0
  have hz : (List.range ops.size).zip fs = (List.range ops.size).map fun i => (i, fs.getD i effU) := by
    apply List.ext_getElem (by simp [h0])
    intro i h1 h2
    have hi : i < fs.length := by simp at h1; omega
    simp [hi]
  rw [hz] at h1
  refine .draw hX.ok (hX.P ▸ hm) (clo ops) (hX.nt ▸ hok) ?_ h1 h3
  intro i hi j hj hno
  have := List.all_eq_true.1 h2 i (by simpa [h0] using hi)
  have := List.all_eq_true.1 this j (by simpa using hj)
  simp only [List.nil_append, Bool.or_eq_true, List.contains_iff_mem] at this
  have := this.resolve_left hno
  have e1 : ∀ c, c < fs.length → (fs.map Eff.sg).getD c ⟨[], [], []⟩ = (fs.getD c effU).sg := by
    intro c hc
    simp [hc]
  rw [e1 j (by omega), e1 i (by omega)] at this
  exact this
end
end Go.Proofs.YtkbidoikndgheaaDoor.HL

namespace Go.Proofs.YtkbidoikndgheaaDoor.HL
open Go.RowKit

/-! Calls: lending, and functions that are lent named blocks. -/
mutual
def plain : AV → Bool
  | .v _ => true
  | .agg cs => plainL cs
  | .tup cs => plainL cs
  | .sl _ _ _ => false
  | .rp _ => false
  | .pt _ _ => false
  | .ow _ => false
  | .po _ _ _ _ => false
  | .os _ _ _ _ => false
  | .fn _ _ => false
  | .junk => true
def plainL : List AV → Bool
  | [] => true
  | c :: cs => plain c && plainL cs
end
mutual
theorem VRel.plainly {γ γ' : Nat → Option Value} {F F' : Nat → Prop} {w w' : World} : ∀ (a : AV) (y : Value), plain a = true → VRel γ F w a y → VRel γ' F' w' a y
  | .v x, y, _, h => h
  | .agg cs, y, hp, ⟨vs, e, h⟩ => ⟨vs, e, VL.plainly cs _ (by simpa [HL.plain] using hp) h⟩
  | .tup cs, y, hp, ⟨vs, e, h⟩ => ⟨vs, e, VL.plainly cs _ (by simpa [HL.plain] using hp) h⟩
  | .sl _ _ _, y, hp, _ => by simp [HL.plain] at hp
  | .rp _, y, hp, _ => by simp [HL.plain] at hp
  | .pt _ _, y, hp, _ => by simp [HL.plain] at hp
  | .ow _, y, hp, _ => by simp [HL.plain] at hp
  | .po _ _ _ _, y, hp, _ => by simp [HL.plain] at hp
  | .os _ _ _ _, y, hp, _ => by simp [HL.plain] at hp
  | .fn _ _, y, hp, _ => by simp [HL.plain] at hp
  | .junk, _, _, _ => trivial
theorem VL.plainly {γ γ' : Nat → Option Value} {F F' : Nat → Prop} {w w' : World} : ∀ (cs : List AV) (vs : List Value), plainL cs = true → VL γ F w cs vs → VL γ' F' w' cs vs
  | [], _, _, h => h
  | c :: cs, vs, hp, ⟨v, vs', e, h1, h2⟩ => by
    simp only [plainL, Bool.and_eq_true] at hp
    exact ⟨v, vs', e, VRel.plainly c v hp.1 h1, VL.plainly cs vs' hp.2 h2⟩
end
mutual
/-- The names of a value. -/
def nms : AV → List Nat
  | .v _ => []
  | .agg cs => nmsL cs
  | .tup cs => nmsL cs
  | .sl _ _ _ => []
  | .rp _ => []
  | .pt n _ => [n]
  | .ow n => [n]
  | .po n _ _ _ => [n]
  | .os n _ _ _ => [n]
  | .fn _ cs => nmsL cs
  | .junk => []
def nmsL : List AV → List Nat
  | [] => []
  | c :: cs => nms c ++ nmsL cs
end
mutual
theorem cv_congr {L L2 : Nat → Option Blk} : ∀ (a : AV), (∀ n ∈ nms a, L2 n = L n) → cv L2 noB a = cv L noB a
  | .v _, _ => rfl
  | .agg cs, h => by simp only [cv]; rw [cvL_congr cs (by simpa [nms] using h)]
  | .tup cs, h => by simp only [cv]; rw [cvL_congr cs (by simpa [nms] using h)]
  | .sl _ _ _, _ => rfl
  | .rp _, _ => rfl
  | .pt n o, h => by simp only [cv, noB]; rw [h n (by simp [nms])]
  | .po _ _ _ _, _ => rfl
  | .os _ _ _ _, _ => rfl
  | .ow n, h => by simp only [cv, noB]; rw [h n (by simp [nms])]
  | .fn f cs, h => by simp only [cv]; rw [cvL_congr cs (by simpa [nms] using h)]
  | .junk, _ => rfl
theorem cvL_congr {L L2 : Nat → Option Blk} : ∀ (cs : List AV), (∀ n ∈ nmsL cs, L2 n = L n) → cvL L2 noB cs = cvL L noB cs
  | [], _ => rfl
  | c :: cs, h => by
    simp only [cvL]
    rw [cv_congr c (fun n hn => h n (by simp [nmsL, hn])), cvL_congr cs (fun n hn => h n (by simp [nmsL, hn]))]
end
mutual
theorem cv_some {L : Nat → Option Blk} : ∀ (a r : AV), cv L noB a = some r → ∀ n ∈ nms a, L n ≠ none
  | .v _, _, _, n, h => by simp [nms] at h
  | .agg cs, _, e, n, h => by
    simp only [cv, Option.map_eq_some_iff] at e
    obtain ⟨rs, e, _⟩ := e
    exact cvL_some cs rs e n (by simpa [nms] using h)
  | .tup cs, _, e, n, h => by
    simp only [cv, Option.map_eq_some_iff] at e
    obtain ⟨rs, e, _⟩ := e
    exact cvL_some cs rs e n (by simpa [nms] using h)
  | .sl _ _ _, _, _, n, h => by simp [nms] at h
  | .rp _, _, _, n, h => by simp [nms] at h
  | .pt m _, _, e, n, h => by simp [nms] at h; subst h; intro h0; simp [cv, noB, h0, frzB] at e
  | .ow m, _, e, n, h => by simp [nms] at h; subst h; intro h0; simp [cv, noB, h0, ownOf] at e
  | .po _ _ _ _, _, e, n, h => by simp [cv, noB] at e
  | .os _ _ _ _, _, e, n, h => by simp [cv, noB] at e
  | .fn f cs, _, e, n, h => by
    simp only [cv, Option.map_eq_some_iff] at e
    obtain ⟨rs, e, _⟩ := e
    exact cvL_some cs rs e n (by simpa [nms] using h)
  | .junk, _, e, n, h => by simp [nms] at h
theorem cvL_some {L : Nat → Option Blk} : ∀ (cs rs : List AV), cvL L noB cs = some rs → ∀ n ∈ nmsL cs, L n ≠ none
  | [], _, _, n, h => by simp [nmsL] at h
  | c :: cs, rs, e, n, h => by
    simp only [cvL] at e
    cases e2 : cv L noB c with
    | none => simp [e2] at e
    | some a =>
      cases e3 : cvL L noB cs with
      | none => simp [e2, e3] at e
      | some asx =>
        simp only [nmsL, List.mem_append] at h
        exact h.elim (cv_some c a e2 n) (cvL_some cs asx e3 n)
end
mutual
theorem VRel.to_ren {γ γ' : Nat → Option Value} {F : Nat → Prop} {w : World} {ρ : Nat → Nat} : ∀ (a : AV) (y : Value), (∀ n, uses n a = true → ∀ v, γ' n = some v → γ (ρ n) = some v) → VRel γ' F w a y → VRel γ F w (HL.ren ρ a) y
  | .v x, y, _, h => h
  | .agg cs, y, hu, ⟨vs, e, h⟩ => ⟨vs, e, VL.to_ren cs _ (fun n hn => hu n (by simpa [uses] using hn)) h⟩
  | .tup cs, y, hu, ⟨vs, e, h⟩ => ⟨vs, e, VL.to_ren cs _ (fun n hn => hu n (by simpa [uses] using hn)) h⟩
  | .sl es x rows, y, _, h => h
  | .rp cs, y, _, h => h
  | .pt n o, y, hu, ⟨b, e1, e2⟩ => ⟨b, hu n (by simp [uses]) _ e1, e2⟩
  | .ow n, y, hu, ⟨e1, e2⟩ => ⟨hu n (by simp [uses]) _ e1, e2⟩
  | .po n es i k, y, hu, ⟨b, l, c, e1, e2⟩ => ⟨b, l, c, hu n (by simp [uses]) _ e1, e2⟩
  | .os n es i j, y, hu, ⟨b, l, c, o, e1, e2⟩ => ⟨b, l, c, o, hu n (by simp [uses]) _ e1, e2⟩
  | .fn f cs, y, hu, ⟨vs, e, h⟩ => ⟨vs, e, VL.to_ren cs _ (fun n hn => hu n (by simpa [uses] using hn)) h⟩
  | .junk, _, _, _ => trivial
theorem VL.to_ren {γ γ' : Nat → Option Value} {F : Nat → Prop} {w : World} {ρ : Nat → Nat} : ∀ (cs : List AV) (vs : List Value), (∀ n, usesL n cs = true → ∀ v, γ' n = some v → γ (ρ n) = some v) → VL γ' F w cs vs → VL γ F w (renL ρ cs) vs
  | [], _, _, h => h
  | c :: cs, vs, hu, ⟨v, vs', e, h1, h2⟩ => ⟨v, vs', e, VRel.to_ren c v (fun n hn => hu n (by simp [usesL, hn])) h1, VL.to_ren cs vs' (fun n hn => hu n (by simp [usesL, hn])) h2⟩
end
theorem BRel.to_ren {γ γ' : Nat → Option Value} {F : Nat → Prop} {w : World} {ρ : Nat → Nat} {U : List Nat} {n : Nat} {b : Blk} (hγ : ∀ n, U.contains n = true → ∀ v, γ' n = some v → γ (ρ n) = some v) (hn : U.contains n = true) (hb : okB U b = true) (h : BRel γ' F w n b) : BRel γ F w (ρ n) (renB ρ b) := by
  cases b with
  | box t cs =>
    obtain ⟨b, arr, hg, hh, hv, h1⟩ := h
    exact ⟨b, arr, hγ n hn _ hg, hh, VL.to_ren cs _ (fun m hm v hv => hγ m (usesL_inU cs (by simpa [okB] using hb) hm) v hv) hv, h1⟩
  | own t es rows => obtain ⟨sv, xs, hg, rest⟩ := h; exact ⟨sv, xs, hγ n hn _ hg, rest⟩
  | mp es => obtain ⟨r, ents, clock, hg, rest⟩ := h; exact ⟨r, ents, clock, hγ n hn _ hg, rest⟩
theorem BRel.of_ren {γ γ' : Nat → Option Value} {F : Nat → Prop} {w : World} {ρ : Nat → Nat} {U : List Nat} {n : Nat} {b : Blk} (hγ : ∀ n, U.contains n = true → ∀ v, γ (ρ n) = some v → γ' n = some v) (hn : U.contains n = true) (hb : okB U b = true) (h : BRel γ F w (ρ n) (renB ρ b)) : BRel γ' F w n b := by
  cases b with
  | box t cs =>
    obtain ⟨b, arr, hg, hh, hv, h1⟩ := h
    exact ⟨b, arr, hγ n hn _ hg, hh, VL.ren cs _ (fun m hm v hv => hγ m (usesL_inU cs (by simpa [okB] using hb) hm) v hv) hv, h1⟩
  | own t es rows => obtain ⟨sv, xs, hg, rest⟩ := h; exact ⟨sv, xs, hγ n hn _ hg, rest⟩
  | mp es => obtain ⟨r, ents, clock, hg, rest⟩ := h; exact ⟨r, ents, clock, hγ n hn _ hg, rest⟩
theorem nodup_key {l : List (Nat × Blk)} {a : Nat} {b c : Blk} (h : (l.map (·.1)).Nodup) (h1 : (a, b) ∈ l) (h2 : (a, c) ∈ l) : (a, b) = (a, c) := by
  induction l with
  | nil => cases h1
  | cons p l ih =>
    rw [List.map_cons, List.nodup_cons] at h
    rcases List.mem_cons.1 h1 with e1 | h1
    · rcases List.mem_cons.1 h2 with e2 | h2
      · rw [e1, e2]
      · exact absurd (List.mem_map.2 ⟨_, h2, by rw [← e1]⟩) h.1
    · rcases List.mem_cons.1 h2 with e2 | h2
      · exact absurd (List.mem_map.2 ⟨_, h1, by rw [← e2]⟩) h.1
      · exact ih h.2 h1 h2
theorem apL_append : ∀ {l1 l2 : List (Nat × Option Blk)} {L : Nat → Option Blk}, apL L (l1 ++ l2) = apL (apL L l1) l2
  | [], _, _ => rfl
  | (n, b) :: l1, l2, L => by rw [List.cons_append, apL, apL, apL_append]
theorem apL_get : ∀ {l : List (Nat × Option Blk)} {L : Nat → Option Blk} {n : Nat} {x : Option Blk}, (l.map (·.1)).Nodup → (n, x) ∈ l → apL L l n = x
  | [], _, _, _, _, h => by cases h
  | (m, y) :: l, L, n, x, hd, h => by
    simp only [List.map_cons, List.nodup_cons] at hd
    rw [apL]
    rcases List.mem_cons.1 h with h | h
    · cases h
      rw [apL_not (fun p hp e => hd.1 (List.mem_map.2 ⟨p, hp, e⟩)), upd_same]
    · exact apL_get hd.2 h
theorem apL_nones : ∀ {l : List (Nat × Option Blk)} {L : Nat → Option Blk} {n : Nat} {b : Blk}, (∀ p ∈ l, p.2 = none) → apL L l n = some b → (∀ p ∈ l, p.1 ≠ n) ∧ L n = some b
  | [], _, _, _, _, h => ⟨by simp, h⟩
  | (m, y) :: l, L, n, b, hn, h => by
    rw [apL] at h
    obtain ⟨h1, h2⟩ := apL_nones (fun p hp => hn p (List.mem_cons_of_mem _ hp)) h
    have hy := hn (m, y) (List.mem_cons_self ..)
    simp only at hy
    subst hy
    have : n ≠ m := fun e => by subst e; rw [upd_same] at h2; cases h2
    rw [upd_ne _ _ _ _ this] at h2
    exact ⟨fun p hp => by
      rcases List.mem_cons.1 hp with rfl | hp
      · exact this.symm
      · exact h1 p hp, h2⟩
section
variable {X : Cx} {ops : Array Oper} {s s' : St} {k : List Item} {rest : List Oper} {acc : List Sg}
/-- A call of a function of plain data that is lent boxes and slices, and tells plain values. -/
theorem CallE.lend {g : FuncId} {caps args args' : List AV} {d : Option Tmp} {r : AV} (h : PureFn X.P g args' r) (hl : frzL s.L (args ++ caps) = some args') (hp : plain r = true) :
    CallE X s d (.fn g caps) args ⟨r, [], [], nmsL (args ++ caps)⟩ where
  ok := by
    intro s2 hs2 _ γ F w fr vs hi hf hv
    obtain ⟨cs, rfl, hcs⟩ := hf
    have hl2 : frzL s2.L (args ++ caps) = some args' := (cvL_congr _ hs2).trans hl
    have hvs := frzL_ok hi (args ++ caps) (vs ++ cs.toList) args' (hv.append hcs) hl2
    have hFF : ∀ b, FF γ F s2.L noB b → b < w.heap.size := by
      rintro b (hb | ⟨n, hn, _, hk⟩)
      · exact hi.fr b hb
      · exact (hi.own n b hn hk).2.1
    refine ⟨g, cs, rfl, h.call, (h.run (FF γ F s2.L noB) w (vs.toArray ++ cs) hFF (by simpa using hvs)).mono ?_⟩
    rintro v w2 ⟨F', hr, hb, h1, h2, h3⟩
    exact ⟨γ, F, hi.grow hb (fun _ h => h) (fun _ h => .inl h) (fun b h => Nat.lt_of_lt_of_le (hi.fr b h) hb.size), Fwd.grow hi hb (fun _ h => h), hr.plainly _ _ hp⟩
  rdL := fun n h => cvL_some _ _ hl n h
  wr := fun n h => by cases h
  u := fun n h => by cases h
/-- What is to be shown of the names at a call: 'rg' tells the caller's name of each of the function's public names. -/
def fnOk (L L' : List (Nat × Blk)) (args0 : List AV) (r : AV) (ρ : Nat → Nat) (U : Nat → Bool) (d : Option Tmp) : Bool :=
  diff (L.map (·.1)) && diff (L'.map (·.1)) && diff (L.map fun p => ρ p.1) && diff (L'.map fun p => ρ p.1) && okArgs args0 L && okArgs [r] L' &&
    L'.all fun p => (L.map (·.1)).contains p.1 || (!U (ρ p.1) && d == some (ρ p.1 % 4096))
def fnEff (L L' : List (Nat × Blk)) (r : AV) (ρ : Nat → Nat) : Eff :=
  ⟨ren ρ r, (L.map fun p => (ρ p.1, none)) ++ L'.map fun p => (ρ p.1, some (renB ρ p.2)), (L'.filter fun p => !(L.map (·.1)).contains p.1).map fun p => ρ p.1, L.map fun p => ρ p.1⟩
theorem CallE.fn {g : FuncId} {caps args args0 : List AV} {d : Option Tmp} {r : AV} {L L' : List (Nat × Blk)} (h : FnE X.P g args0 L r L') (rg : List (Nat × Nat)) (h1 : renL (tb 0 rg) args0 = args ++ caps) (h2 : ∀ p ∈ L, s.L (tb 0 rg p.1) = some (renB (tb 0 rg) p.2))
    (hok : fnOk L L' args0 r (tb 0 rg) s.U d = true) : CallE X s d (.fn g caps) args (fnEff L L' r (tb 0 rg)) := by
  generalize tb 0 rg = ρ at *
  simp only [fnOk, Bool.and_eq_true, List.all_eq_true, okArgs] at hok
  obtain ⟨⟨⟨⟨⟨⟨dL, dL'⟩, dρ⟩, dρ'⟩, oa, oL⟩, or, oL'⟩, onew⟩ := hok
  have nρ := diff_nodup dρ
  have nρ' := diff_nodup dρ'
  have hmem : ∀ {M : List (Nat × Blk)} {n : Nat}, (M.map (·.1)).contains n = true ↔ ∃ b, (n, b) ∈ M := fun {M n} => by
    rw [List.contains_iff_mem, List.mem_map]
    exact ⟨fun ⟨p, hp, e⟩ => ⟨p.2, by rw [← e]; exact hp⟩, fun ⟨b, hb⟩ => ⟨_, hb, rfl⟩⟩
  have injL : ∀ {m m' : Nat}, (L.map (·.1)).contains m = true → (L.map (·.1)).contains m' = true → ρ m = ρ m' → m = m' := fun {m m'} h h' e => by
    obtain ⟨b, hb⟩ := hmem.1 h
    obtain ⟨b', hb'⟩ := hmem.1 h'
    exact diff_inj dρ _ hb _ hb' e
  have injL' : ∀ {m m' : Nat}, (L'.map (·.1)).contains m = true → (L'.map (·.1)).contains m' = true → ρ m = ρ m' → m = m' := fun {m m'} h h' e => by
    obtain ⟨b, hb⟩ := hmem.1 h
    obtain ⟨b', hb'⟩ := hmem.1 h'
    exact diff_inj dρ' _ hb _ hb' e
  have hu : ∀ n, n ∈ (fnEff L L' r ρ).u ↔ ∃ m b, (m, b) ∈ L' ∧ (L.map (·.1)).contains m = false ∧ n = ρ m := fun n => by
    simp only [fnEff, List.mem_map, List.mem_filter, Bool.not_eq_true']
    exact ⟨fun ⟨p, ⟨h1, h2⟩, h3⟩ => ⟨p.1, p.2, h1, h2, h3.symm⟩, fun ⟨m, b, h1, h2, h3⟩ => ⟨(m, b), ⟨h1, h2⟩, h3.symm⟩⟩
  have hnewU : ∀ n ∈ (fnEff L L' r ρ).u, s.U n = false ∧ d = some (n % 4096) := fun n hn => by
    obtain ⟨m, b, hb, hm, rfl⟩ := (hu n).1 hn
    have := onew _ hb
    simp only [Bool.or_eq_true, hm, Bool.false_eq_true, false_or, Bool.and_eq_true, Bool.not_eq_true', beq_iff_eq] at this
    exact this
  refine ⟨fun s2 hs2 hU2 γ F w fr vs hi hf hv => ?_, fun n hn => ?_, fun p hp => ?_, fun n hn => ⟨(hnewU n hn).2, (hnewU n hn).1⟩⟩
  · obtain ⟨cs, rfl, hcs⟩ := hf
    have hlent : ∀ p ∈ L, s2.L (ρ p.1) = some (renB ρ p.2) := fun p hp => (hs2 _ (List.mem_map.2 ⟨p, hp, rfl⟩)).trans (h2 p hp)
    let γl : Nat → Option Value := fun n => if (L.map (·.1)).contains n = true then γ (ρ n) else none
    have hγl : ∀ n, (L.map (·.1)).contains n = true → ∀ v, γ (ρ n) = some v → γl n = some v := fun n h1 v h2 => by simp only [γl, if_pos h1, h2]
    have hγl' : ∀ n v, γl n = some v → (L.map (·.1)).contains n = true ∧ γ (ρ n) = some v := fun n v h1 => by
      simp only [γl] at h1
      split at h1
      · exact ⟨by assumption, h1⟩
      · cases h1
    have hnml : ∀ n k, nmb γl n = some k → (L.map (·.1)).contains n = true ∧ nmb γ (ρ n) = some k := fun n k h1 => by
      unfold nmb at h1 ⊢
      cases hg : γl n with
      | none => rw [hg] at h1; cases h1
      | some v => rw [hg] at h1; obtain ⟨a, b⟩ := hγl' n v hg; rw [b]; exact ⟨a, h1⟩
    have hnml' : ∀ n k, (L.map (·.1)).contains n = true → nmb γ (ρ n) = some k → nmb γl n = some k := fun n k h1 h2 => by
      unfold nmb at h2 ⊢
      simp only [γl, if_pos h1]; exact h2
    have hsome : ∀ n, (L.map (·.1)).contains n = true → (s2.L (ρ n)).isSome := fun n hn => by
      obtain ⟨b, hb⟩ := hmem.1 hn
      rw [hlent _ hb]; rfl
    have hS : Sit γl F (tb1 L) w :=
      { blk := fun n b hb => by
          have hp := tb1_some hb
          have := hi.blk _ _ (hlent _ hp)
          exact this.of_ren hγl (hmem.2 ⟨b, hp⟩) (oL _ hp)
        sep := fun n m k hn hm e1 e2 => by
          obtain ⟨a1, b1⟩ := hnml n k e1
          obtain ⟨a2, b2⟩ := hnml m k e2
          exact injL a1 a2 (hi.sep _ _ k (hsome n a1) (hsome m a2) b1 b2)
        own := fun n k hn e1 => by
          obtain ⟨a1, b1⟩ := hnml n k e1
          obtain ⟨x, y, _⟩ := hi.own _ k (hsome n a1) b1
          exact ⟨x, y⟩
        fr := hi.fr }
    have hv0 : VL γl F w args0 (vs.toArray ++ cs).toList := by
      have hvv : VL γ F w (renL ρ args0) (vs ++ cs.toList) := by rw [h1]; exact hv.append hcs
      have := VL.ren (γ' := γl) args0 _ (fun n hn v hv' => hγl n (usesL_inU args0 oa hn) v hv') hvv
      simpa using this
    refine ⟨g, cs, rfl, h.call, (h.run γl F w _ hS hv0).mono ?_⟩
    rintro v w2 ⟨⟨γ', F', hr, hS', hsame, f1, f2, hblk, hdom'⟩, hos, htape, hout, hsize, hkeep⟩
    have lentb : ∀ k, (∃ m, (tb1 L m).isSome ∧ nmb γl m = some k) → ∃ m, (L.map (·.1)).contains m = true ∧ nmb γ (ρ m) = some k ∧ (s2.L (ρ m)).isSome := fun k ⟨m, hm, e⟩ => by
      obtain ⟨a, b⟩ := hnml m k e
      exact ⟨m, a, b, hsome m a⟩
    have isl : ∀ n, (tb1 L n).isSome = true ↔ (L.map (·.1)).contains n = true := fun n => by rw [tb1_isSome]
    have isl' : ∀ n, (tb1 L' n).isSome = true ↔ (L'.map (·.1)).contains n = true := fun n => by rw [tb1_isSome]
    -- the caller's naming behind the call
    let new : Nat → Option Nat := fun n => (L'.find? fun p => ρ p.1 == n && !(L.map (·.1)).contains p.1).map (·.1)
    let γ2 : Nat → Option Value := fun n => match new n with | some m => γ' m | none => γ n
    have hnew : ∀ n m, new n = some m → ρ m = n ∧ (L'.map (·.1)).contains m = true ∧ (L.map (·.1)).contains m = false := fun n m h => by
      simp only [new, Option.map_eq_some_iff] at h
      obtain ⟨p, hp, rfl⟩ := h
      have h3 := List.find?_some hp
      simp only [Bool.and_eq_true, beq_iff_eq, Bool.not_eq_true'] at h3
      exact ⟨h3.1, hmem.2 ⟨p.2, List.mem_of_find?_eq_some hp⟩, h3.2⟩
    have hnew' : ∀ m, (L'.map (·.1)).contains m = true → (L.map (·.1)).contains m = false → new (ρ m) = some m := fun m h3 h4 => by
      obtain ⟨b, hb⟩ := hmem.1 h3
      cases hf : L'.find? fun p => ρ p.1 == ρ m && !(L.map (·.1)).contains p.1 with
      | none =>
        have := List.find?_eq_none.1 hf _ hb
        rw [h4] at this
        simp at this
      | some p =>
        have h5 := List.find?_some hf
        simp only [Bool.and_eq_true, beq_iff_eq, Bool.not_eq_true'] at h5
        have := injL' (hmem.2 ⟨p.2, List.mem_of_find?_eq_some hf⟩) h3 h5.1
        simp only [new, hf, Option.map_some, this]
    have hnewU' : ∀ n m, new n = some m → n ∈ (fnEff L L' r ρ).u := fun n m h => by
      obtain ⟨a, b, c⟩ := hnew n m h
      obtain ⟨bb, hb⟩ := hmem.1 b
      exact (hu n).2 ⟨m, bb, hb, c, a.symm⟩
    have hγnone : ∀ n m, new n = some m → γ n = none := fun n m h => hi.unnamed (hU2 n (hnewU' n m h))
    have hext : Ext γ γ2 := fun n v hn => by
      show (match new n with | some m => γ' m | none => γ n) = some v
      cases hh : new n with
      | none => exact hn
      | some m => rw [hγnone n m hh] at hn; cases hn
    have hγ2 : ∀ m, (L'.map (·.1)).contains m = true → γ2 (ρ m) = γ' m := fun m hm => by
      by_cases hL : (L.map (·.1)).contains m = true
      · have hg : γ' m = γ (ρ m) := by
          rw [hsame m ((isl m).2 hL) ((isl' m).2 hm)]
          simp only [γl, if_pos hL]
        have : new (ρ m) = none := by
          cases hh : new (ρ m) with
          | none => rfl
          | some q =>
            obtain ⟨a, b, c⟩ := hnew _ _ hh
            have := injL' b hm a
            rw [this, hL] at c
            cases c
        show (match new (ρ m) with | some q => γ' q | none => γ (ρ m)) = γ' m
        rw [this, hg]
      · have := hnew' m hm (by simpa using hL)
        show (match new (ρ m) with | some q => γ' q | none => γ (ρ m)) = γ' m
        rw [this]
    have hγ2v : ∀ m, (L'.map (·.1)).contains m = true → ∀ v, γ' m = some v → γ2 (ρ m) = some v := fun m hm v h => (hγ2 m hm).trans h
    have hnmb2 : ∀ (m k : Nat), (L'.map (·.1)).contains m = true → nmb γ2 (ρ m) = nmb γ' m := fun m k hm => by unfold nmb; rw [hγ2 m hm]
    -- the blocks behind the call
    have hLs : ∀ n b, apL s2.L (fnEff L L' r ρ).l n = some b → (∃ m b', (m, b') ∈ L' ∧ n = ρ m ∧ b = renB ρ b') ∨ ((∀ m, (L'.map (·.1)).contains m = true → ρ m ≠ n) ∧ (∀ m, (L.map (·.1)).contains m = true → ρ m ≠ n) ∧ s2.L n = some b) := fun n b hb => by
      simp only [fnEff, apL_append] at hb
      by_cases hm : ∃ p ∈ L', ρ p.1 = n
      · obtain ⟨p, hp, rfl⟩ := hm
        rw [apL_get (x := some (renB ρ p.2)) (by rw [List.map_map]; exact nρ') (List.mem_map.2 ⟨p, hp, rfl⟩)] at hb
        exact .inl ⟨p.1, p.2, hp, rfl, by injection hb with hb; exact hb.symm⟩
      · rw [apL_not (fun q hq e => by
          obtain ⟨p, hp, rfl⟩ := List.mem_map.1 hq
          exact hm ⟨p, hp, e⟩)] at hb
        obtain ⟨h3, h4⟩ := apL_nones (fun q hq => by obtain ⟨p, _, rfl⟩ := List.mem_map.1 hq; rfl) hb
        refine .inr ⟨fun m hmm e => ?_, fun m hmm e => ?_, h4⟩
        · obtain ⟨b', hb'⟩ := hmem.1 hmm
          exact hm ⟨_, hb', e⟩
        · obtain ⟨b', hb'⟩ := hmem.1 hmm
          exact h3 _ (List.mem_map.2 ⟨_, hb', rfl⟩) e
    have hold : ∀ n b, (∀ m, (L'.map (·.1)).contains m = true → ρ m ≠ n) → s2.L n = some b → γ2 n = γ n := fun n b h3 h4 => by
      have : new n = none := by
        cases hh : new n with
        | none => rfl
        | some q => obtain ⟨a, b, _⟩ := hnew _ _ hh; exact absurd a (h3 q b)
      show (match new n with | some q => γ' q | none => γ n) = γ n
      rw [this]
    have hFw : ∀ b, F b → w2.heap[b]? = w.heap[b]? := fun b hb => hkeep b (hi.fr b hb) (fun n hn e => by
      obtain ⟨m, a, b', c⟩ := lentb b ⟨n, hn, e⟩
      exact (hi.own _ b c b').1 hb)
    have hnotl : ∀ n k, (∀ m, (L.map (·.1)).contains m = true → ρ m ≠ n) → (s2.L n).isSome → nmb γ n = some k → ∀ q, (tb1 L q).isSome → nmb γl q ≠ some k := fun n k h3 h4 h5 q hq e => by
      obtain ⟨a, b⟩ := hnml q k e
      exact h3 q a (hi.sep _ _ k (hsome q a) h4 b h5)
    have hInv : Inv X γ2 F' ⟨s2.e, apL s2.L (fnEff L L' r ρ).l, apU s2.U (fnEff L L' r ρ).u⟩ w2 :=
      { blk := fun n b hb => by
          rcases hLs n b hb with ⟨m, b', hm, rfl, rfl⟩ | ⟨h3, h4, h5⟩
          · have hm' : (L'.map (·.1)).contains m = true := hmem.2 ⟨b', hm⟩
            have hb1 : tb1 L' m = some b' := by
              obtain ⟨b2, hb2⟩ := Option.isSome_iff_exists.1 ((isl' m).2 hm')
              have := tb1_some hb2
              have e : (m, b') = (m, b2) := by
                have nd := diff_nodup dL'
                exact nodup_key nd hm this
              rw [hb2]; cases e; rfl
            exact (hS'.blk m b' hb1).to_ren hγ2v hm' (oL' _ hm)
          · refine (hi.blk n b h5).mono hext f1 hFw (fun k hk => hkeep k (hi.own n k (by rw [h5]; rfl) hk).2.1 (hnotl n k h4 (by rw [h5]; rfl) hk))
        dom := fun n v hn => by
          rw [apU_true]
          have hn : (match new n with | some m => γ' m | none => γ n) = some v := hn
          cases hh : new n with
          | none => rw [hh] at hn; exact .inl (hi.dom n v hn)
          | some m => exact .inr (hnewU' n m hh)
        sep := fun n m k hn hm e1 e2 => by
          obtain ⟨b1, hb1⟩ := Option.isSome_iff_exists.1 hn
          obtain ⟨b2, hb2⟩ := Option.isSome_iff_exists.1 hm
          have cross : ∀ a n b', (L'.map (·.1)).contains a = true → nmb γ2 (ρ a) = some k → (∀ m, (L'.map (·.1)).contains m = true → ρ m ≠ n) → (∀ m, (L.map (·.1)).contains m = true → ρ m ≠ n) → s2.L n = some b' → nmb γ2 n = some k → False := by
            intro a n b' ha e1 h3 h4 h5 e2
            rw [hnmb2 a k ha] at e1
            have e2' : nmb γ n = some k := by unfold nmb at e2 ⊢; rw [hold n b' h3 h5] at e2; exact e2
            rcases hblk a k ((isl' a).2 ha) e1 with h6 | ⟨q, hq, h6⟩
            · have := (hi.own n k (by rw [h5]; rfl) e2').2.1; omega
            · exact hnotl n k h4 (by rw [h5]; rfl) e2' q hq h6
          rcases hLs n b1 hb1 with ⟨a, b', ha, rfl, rfl⟩ | ⟨h3, h4, h5⟩
          · have ha' : (L'.map (·.1)).contains a = true := hmem.2 ⟨b', ha⟩
            rcases hLs m b2 hb2 with ⟨c, b'', hc, rfl, rfl⟩ | ⟨h6, h7, h8⟩
            · have hc' : (L'.map (·.1)).contains c = true := hmem.2 ⟨b'', hc⟩
              rw [hnmb2 a k ha'] at e1
              rw [hnmb2 c k hc'] at e2
              rw [hS'.sep a c k ((isl' a).2 ha') ((isl' c).2 hc') e1 e2]
            · exact (cross a m b2 ha' e1 h6 h7 h8 e2).elim
          · rcases hLs m b2 hb2 with ⟨c, b'', hc, rfl, rfl⟩ | ⟨h6, h7, h8⟩
            · exact (cross c n b1 (hmem.2 ⟨b'', hc⟩) e2 h3 h4 h5 e1).elim
            · refine hi.sep n m k (by rw [h5]; rfl) (by rw [h8]; rfl) ?_ ?_
              · unfold nmb at e1 ⊢; rw [hold n b1 h3 h5] at e1; exact e1
              · unfold nmb at e2 ⊢; rw [hold m b2 h6 h8] at e2; exact e2
        own := fun n k hn e1 => by
          obtain ⟨b1, hb1⟩ := Option.isSome_iff_exists.1 hn
          rcases hLs n b1 hb1 with ⟨a, b', ha, rfl, rfl⟩ | ⟨h3, h4, h5⟩
          · have ha' : (L'.map (·.1)).contains a = true := hmem.2 ⟨b', ha⟩
            rw [hnmb2 a k ha'] at e1
            obtain ⟨x, y⟩ := hS'.own a k ((isl' a).2 ha') e1
            refine ⟨x, y, ?_⟩
            rcases hblk a k ((isl' a).2 ha') e1 with h6 | h6
            · exact .inl (Nat.le_trans hi.size h6)
            · obtain ⟨m, _, e, hm⟩ := lentb k h6
              exact (hi.own _ k hm e).2.2
          · have e1' : nmb γ n = some k := by unfold nmb at e1 ⊢; rw [hold n b1 h3 h5] at e1; exact e1
            obtain ⟨x, y, z⟩ := hi.own n k (by rw [h5]; rfl) e1'
            refine ⟨fun hF => ?_, Nat.lt_of_lt_of_le y hsize, z⟩
            rcases f2 k hF with h6 | h6 | ⟨q, hq, h6⟩
            · exact x h6
            · omega
            · exact hnotl n k h4 (by rw [h5]; rfl) e1' q hq h6
        fr := hS'.fr
        fold := fun k hk => f1 k (hi.fold k hk)
        fnew := fun k hk => by
          rcases f2 k hk with h6 | h6 | h6
          · exact hi.fnew k h6
          · exact .inr (.inl (Nat.le_trans hi.size h6))
          · obtain ⟨m, _, e, hm⟩ := lentb k h6
            exact .inr (hi.own _ k hm e).2.2
        os := hos.trans hi.os
        tape := htape.trans hi.tape
        output := hout.trans hi.output
        size := Nat.le_trans hi.size hsize
        keep := fun k hk ho => (hkeep k (Nat.lt_of_lt_of_le hk hi.size) (fun n hn e => by
          obtain ⟨m, _, e', hm⟩ := lentb k ⟨n, hn, e⟩
          rcases (hi.own _ k hm e').2.2 with h6 | h6
          · omega
          · exact ho h6)).trans (hi.keep k hk ho)
        nm := fun n v hn hs => by
          obtain ⟨b1, hb1⟩ := Option.isSome_iff_exists.1 hs
          refine hext n v (hi.nm n v hn ?_)
          rcases hLs n b1 hb1 with ⟨a, b', ha, rfl, rfl⟩ | ⟨h3, h4, h5⟩
          · by_cases hL : (L.map (·.1)).contains a = true
            · exact hsome a hL
            · have := hnewU' _ _ (hnew' a (hmem.2 ⟨b', ha⟩) (by simpa using hL))
              have := hU2 _ this
              rw [hi.nu _ v hn] at this
              cases this
          · rw [h5]; rfl
        nu := fun n v hn => apU_true.2 (.inl (hi.nu n v hn))
        nl := hi.nl }
    refine ⟨γ2, F', hInv, ⟨hext, f1, hFw⟩, ?_⟩
    have hor : inU (L'.map (·.1)) r = true := by simpa [inUL] using or
    exact VRel.to_ren r v (fun n hn v hv => hγ2v n (uses_inU r hor hn) v hv) hr
  · obtain ⟨p, hp, rfl⟩ := List.mem_map.1 hn
    rw [h2 p hp]; exact fun h => by cases h
  · simp only [fnEff, List.mem_append] at hp
    rcases hp with hp | hp
    · obtain ⟨q, hq, rfl⟩ := List.mem_map.1 hp
      exact .inl (List.mem_map.2 ⟨q, hq, rfl⟩)
    · obtain ⟨q, hq, rfl⟩ := List.mem_map.1 hp
      by_cases hL : (L.map (·.1)).contains q.1 = true
      · obtain ⟨b, hb⟩ := hmem.1 hL
        exact .inl (List.mem_map.2 ⟨_, hb, rfl⟩)
      · exact .inr ((hu _).2 ⟨q.1, q.2, hq, by simpa using hL, rfl⟩)
end
end Go.Proofs.YtkbidoikndgheaaDoor.HL

namespace Go.Proofs.YtkbidoikndgheaaDoor.HL
open Go.RowKit
theorem eqL_int {k : IntKind} {z : Int} {zs : List AV} {cs ds : List Value} {b : Bool} (h : eqL (.v (.int k z) :: zs) (cs.map .v) (ds.map .v) = some b) :
    ∃ a c cs' ds' b', cs = .int k a :: cs' ∧ ds = .int k c :: ds' ∧ eqL zs (cs'.map .v) (ds'.map .v) = some b' ∧ b = ((a == c) && b') := by
  cases cs with
  | nil => simp [eqL] at h
  | cons x cs =>
    cases ds with
    | nil => cases x <;> simp [eqL] at h
    | cons y ds =>
      cases x <;> cases y <;> simp only [List.map_cons, eqL, reduceCtorEq] at h
      rename_i k1 a k2 c
      split at h
      · split at h
        · rename_i e1 e2
          subst e1
          subst e2
          simp only [Option.map_eq_some_iff] at h
          obtain ⟨b', h1, h2⟩ := h
          exact ⟨a, c, cs, ds, b', rfl, rfl, h1, h2.symm⟩
        · cases h
      · cases h
theorem eqL_str {z : ByteArray} {zs : List AV} {cs ds : List Value} {b : Bool} (h : eqL (.v (.string z) :: zs) (cs.map .v) (ds.map .v) = some b) :
    ∃ a c cs' ds' b', cs = .string a :: cs' ∧ ds = .string c :: ds' ∧ eqL zs (cs'.map .v) (ds'.map .v) = some b' ∧ b = ((a.toList == c.toList) && b') := by
  cases cs with
  | nil => simp [eqL] at h
  | cons x cs =>
    cases ds with
    | nil => cases x <;> simp [eqL] at h
    | cons y ds =>
      cases x <;> cases y <;> simp only [List.map_cons, eqL, reduceCtorEq, Option.map_eq_some_iff] at h
      rename_i a c
      obtain ⟨b', h1, h2⟩ := h
      exact ⟨a, c, cs, ds, b', rfl, rfl, h1, h2.symm⟩
theorem eqL_nil {cs ds : List Value} {b : Bool} (h : eqL [] (cs.map .v) (ds.map .v) = some b) : cs = [] ∧ ds = [] ∧ b = true := by
  cases cs with
  | nil =>
    cases ds with
    | nil => simp [eqL] at h; exact ⟨rfl, rfl, h⟩
    | cons _ _ => simp [eqL] at h
  | cons x cs => cases x <;> simp [eqL] at h
end Go.Proofs.YtkbidoikndgheaaDoor.HL

/-! How a proof goes on at a call, at a region that draws, at a loop. -/
namespace Go.Proofs.YtkbidoikndgheaaDoor.HL
open Go.RowKit
section
variable {P : Program} {T : Nat → TI} {g0 nt : Nat} {res : List ResultVar} {X : Cx} {ops : Array Oper} {rest : List Oper} {k : List Item} {s : St} {acc : List Sg}
theorem put_some {d : Nat} {f : Eff} (hX : XW P T g0 nt res X) (hd : d < nt) : put X.nt (some d) f s = some (f.ap (some d) s) := by
  obtain ⟨e, L, U⟩ := s
  obtain ⟨r, l, u, rd⟩ := f
  simp only [put, hX.nt, if_pos hd]
  rfl
theorem put_none {f : Eff} : put nt none f s = some (f.ap none s) := by
  obtain ⟨e, L, U⟩ := s
  obtain ⟨r, l, u, rd⟩ := f
  rfl
theorem XW.pure {g : FuncId} {caps args args' : List AV} {d : Nat} {r : AV} (hX : XW P T g0 nt res X) (h : PureFn P g args' r) (ha : args ++ caps = args') (hn : nfL args' = true) (hd : d < nt) (hk : vo X 1000 ops rest k ⟨upd s.e d r, s.L, s.U⟩) : CallAt X (.fn g caps) args (some d) ops rest k s :=
  ⟨_, _, .pure (by rw [hX.P, ha]; exact h) (by rw [ha]; exact hn), put_some hX hd, vo_ok hX.ok hX.fn 1000 _ _ _ _ hk⟩
theorem XW.pureD {g : FuncId} {caps args args' : List AV} {d : Nat} {r : AV} (hX : XW P T g0 nt res X) (h : PureFn P g args' r) (ha : args ++ caps = args') (hn : nfL args' = true) (hd : d < nt) (hk : vp X 1000 ops rest k (acc ++ [⟨[], [], []⟩]) ⟨upd s.e d r, s.L, s.U⟩) : CallD X (.fn g caps) args (some d) ops rest k acc s :=
  ⟨_, _, .pure (by rw [hX.P, ha]; exact h) (by rw [ha]; exact hn), put_some hX hd, vp_ok 1000 _ _ _ _ _ hk⟩
/-- A call that returns nothing that is kept. -/
theorem XW.pure0 {g : FuncId} {caps args args' : List AV} {r : AV} (hX : XW P T g0 nt res X) (h : PureFn P g args' r) (ha : args ++ caps = args') (hn : nfL args' = true) (hk : vo X 1000 ops rest k s) : CallAt X (.fn g caps) args none ops rest k s :=
  ⟨_, _, .pure (by rw [hX.P, ha]; exact h) (by rw [ha]; exact hn), put_none, vo_ok hX.ok hX.fn 1000 _ _ _ _ hk⟩
theorem XW.lend {g : FuncId} {caps args args' : List AV} {d : Nat} {r : AV} (hX : XW P T g0 nt res X) (h : PureFn P g args' r) (ha : frzL s.L (args ++ caps) = some args') (hp : plain r = true) (hd : d < nt) (hk : vo X 1000 ops rest k ⟨upd s.e d r, s.L, s.U⟩) : CallAt X (.fn g caps) args (some d) ops rest k s :=
  ⟨_, _, .lend (by rw [hX.P]; exact h) ha hp, put_some hX hd, vo_ok hX.ok hX.fn 1000 _ _ _ _ hk⟩
theorem XW.lendD {g : FuncId} {caps args args' : List AV} {d : Nat} {r : AV} (hX : XW P T g0 nt res X) (h : PureFn P g args' r) (ha : frzL s.L (args ++ caps) = some args') (hp : plain r = true) (hd : d < nt) (hk : vp X 1000 ops rest k (acc ++ [⟨nmsL (args ++ caps), [], []⟩]) ⟨upd s.e d r, s.L, s.U⟩) : CallD X (.fn g caps) args (some d) ops rest k acc s :=
  ⟨_, _, .lend (by rw [hX.P]; exact h) ha hp, put_some hX hd, vp_ok 1000 _ _ _ _ _ hk⟩
/-- The state behind a call of a function that is lent named blocks. -/
def fnSt (L L' : List (Nat × Blk)) (r : AV) (ρ : Nat → Nat) (d : Nat) (s : St) : St := (fnEff L L' r ρ).ap (some d) s
theorem XW.fnE {g : FuncId} {caps args args0 : List AV} {d : Nat} {r : AV} {L L' : List (Nat × Blk)} (hX : XW P T g0 nt res X) (h : FnE P g args0 L r L') (rg : List (Nat × Nat)) (h1 : renL (tb 0 rg) args0 = args ++ caps) (h2 : ∀ p ∈ L, s.L (tb 0 rg p.1) = some (renB (tb 0 rg) p.2))
    (hok : fnOk L L' args0 r (tb 0 rg) s.U (some d) = true) (hd : d < nt) (hk : vo X 1000 ops rest k (fnSt L L' r (tb 0 rg) d s)) : CallAt X (.fn g caps) args (some d) ops rest k s :=
  ⟨_, _, .fn (by rw [hX.P]; exact h) rg h1 h2 hok, put_some hX hd, vo_ok hX.ok hX.fn 1000 _ _ _ _ hk⟩
theorem XW.fnED {g : FuncId} {caps args args0 : List AV} {d : Nat} {r : AV} {L L' : List (Nat × Blk)} (hX : XW P T g0 nt res X) (h : FnE P g args0 L r L') (rg : List (Nat × Nat)) (h1 : renL (tb 0 rg) args0 = args ++ caps) (h2 : ∀ p ∈ L, s.L (tb 0 rg p.1) = some (renB (tb 0 rg) p.2))
    (hok : fnOk L L' args0 r (tb 0 rg) s.U (some d) = true) (hd : d < nt) (hk : vp X 1000 ops rest k (acc ++ [(fnEff L L' r (tb 0 rg)).sg]) (fnSt L L' r (tb 0 rg) d s)) : CallD X (.fn g caps) args (some d) ops rest k acc s :=
  ⟨_, _, .fn (by rw [hX.P]; exact h) rg h1 h2 hok, put_some hX hd, vp_ok 1000 _ _ _ _ _ hk⟩
theorem XW.pureN (n : Nat) {g : FuncId} {caps args args' : List AV} {d : Nat} {r : AV} (hX : XW P T g0 nt res X) (h : PureFn P g args' r) (ha : args ++ caps = args') (hn : nfL args' = true) (hd : d < nt) (hk : vo X n ops rest k ⟨upd s.e d r, s.L, s.U⟩) : CallAt X (.fn g caps) args (some d) ops rest k s :=
  ⟨_, _, .pure (by rw [hX.P, ha]; exact h) (by rw [ha]; exact hn), put_some hX hd, vo_ok hX.ok hX.fn n _ _ _ _ hk⟩
theorem XW.goN (n : Nat) (hX : XW P T g0 nt res X) (h : vc X n k s) : Run X k s := vc_ok hX.ok hX.fn n _ _ h
theorem XW.go (hX : XW P T g0 nt res X) (h : vc X 1000 k s) : Run X k s := vc_ok hX.ok hX.fn 1000 _ _ h
theorem XW.gos (hX : XW P T g0 nt res X) {b : Bool} (hb : b = true) (h : vc X 1000 k s) : b = true ∧ Run X k s := ⟨hb, vc_ok hX.ok hX.fn 1000 _ _ h⟩
theorem XW.gosN (n : Nat) (hX : XW P T g0 nt res X) {b : Bool} (hb : b = true) (h : vc X n k s) : b = true ∧ Run X k s := ⟨hb, vc_ok hX.ok hX.fn n _ _ h⟩
end
end Go.Proofs.YtkbidoikndgheaaDoor.HL
namespace Go.Proofs.YtkbidoikndgheaaDoor.HL
def subU (NL : List Nat) (σ : Nat → Nat) (e : List (Nat × AV)) (L : List (Nat × Blk)) : Bool :=
  e.all (fun p => inU (L.map (·.1)) p.2) && L.all (fun p => okB (L.map (·.1)) p.2) && diff (L.map fun p => σ p.1) && L.all (fun p => !NL.contains p.1 || σ p.1 == p.1) && NL.all (fun n => (L.map (·.1)).contains n)
theorem Sub.of {NL NL0 : List Nat} {s : St} {σ : Nat → Nat} {e : List (Nat × AV)} {L : List (Nat × Blk)} (hNL : NL = NL0) (he : (e.map fun p => s.e p.1) = e.map fun p => ren σ p.2) (hL : (L.map fun p => s.L (σ p.1)) = L.map fun p => some (renB σ p.2))
    (hU : subU NL0 σ e L = true) : Sub NL s σ e L := by
  subst hNL
  have key : ∀ {α β : Type} {l : List α} {f g : α → β}, l.map f = l.map g → ∀ x ∈ l, f x = g x := by
    intro α β l f g h x hx
    induction l with
    | nil => cases hx
    | cons a l ih =>
      simp only [List.map_cons, List.cons.injEq] at h
      rcases List.mem_cons.1 hx with rfl | hx
      · exact h.1
      · exact ih h.2 hx
  exact ⟨key he, key hL, hU⟩
/-- Where a thing stands in a list, from place 'i' on; -1: nowhere. -/
def idxP {α : Type} (p : α → Bool) : List α → Int → Int
  | [], _ => -1
  | x :: l, i => if p x = true then i else idxP p l (i + 1)
theorem idxP_step {α : Type} {p : α → Bool} {l : List α} {i : Nat} (h : i < l.length) : idxP p (l.drop i) i = if p l[i] = true then (i : Int) else idxP p (l.drop (i + 1)) ((i + 1 : Nat) : Int) := by
  rw [List.drop_eq_getElem_cons h, idxP]; rfl
theorem idxP_end {α : Type} {p : α → Bool} {l : List α} {i : Nat} (h : l.length ≤ i) : idxP p (l.drop i) i = -1 := by rw [List.drop_eq_nil_of_le h]; rfl
theorem wr0 : IntKind.i64.wrap 0 = 0 := rfl
theorem wr1 : IntKind.i64.wrap 1 = 1 := rfl
theorem wr2 : IntKind.i64.wrap 2 = 2 := rfl
theorem wr3 : IntKind.i64.wrap 3 = 3 := rfl
theorem wr4 : IntKind.i64.wrap 4 = 4 := rfl
theorem wr5 : IntKind.i64.wrap 5 = 5 := rfl
theorem wr6 : IntKind.i64.wrap 6 = 6 := rfl
theorem wr7 : IntKind.i64.wrap 7 = 7 := rfl
theorem wr8 : IntKind.i64.wrap 8 = 8 := rfl
theorem wr9 : IntKind.i64.wrap 9 = 9 := rfl
theorem wr10 : IntKind.i64.wrap 10 = 10 := rfl
theorem wr11 : IntKind.i64.wrap 11 = 11 := rfl
theorem wr12 : IntKind.i64.wrap 12 = 12 := rfl
theorem wr13 : IntKind.i64.wrap 13 = 13 := rfl
theorem wr14 : IntKind.i64.wrap 14 = 14 := rfl
theorem wr15 : IntKind.i64.wrap 15 = 15 := rfl
theorem wr16 : IntKind.i64.wrap 16 = 16 := rfl
theorem wr17 : IntKind.i64.wrap 17 = 17 := rfl
theorem wr18 : IntKind.i64.wrap 18 = 18 := rfl
theorem wr19 : IntKind.i64.wrap 19 = 19 := rfl
theorem wr20 : IntKind.i64.wrap 20 = 20 := rfl
theorem wr21 : IntKind.i64.wrap 21 = 21 := rfl
theorem wr22 : IntKind.i64.wrap 22 = 22 := rfl
theorem wr23 : IntKind.i64.wrap 23 = 23 := rfl
theorem wr24 : IntKind.i64.wrap 24 = 24 := rfl
theorem wr25 : IntKind.i64.wrap 25 = 25 := rfl
theorem wr26 : IntKind.i64.wrap 26 = 26 := rfl
theorem wr27 : IntKind.i64.wrap 27 = 27 := rfl
theorem wr28 : IntKind.i64.wrap 28 = 28 := rfl
theorem wr29 : IntKind.i64.wrap 29 = 29 := rfl
theorem wr30 : IntKind.i64.wrap 30 = 30 := rfl
theorem wr31 : IntKind.i64.wrap 31 = 31 := rfl
theorem wr32 : IntKind.i64.wrap 32 = 32 := rfl
theorem wr33 : IntKind.i64.wrap 33 = 33 := rfl
theorem wr34 : IntKind.i64.wrap 34 = 34 := rfl
theorem wr35 : IntKind.i64.wrap 35 = 35 := rfl
theorem wr36 : IntKind.i64.wrap 36 = 36 := rfl
theorem wr37 : IntKind.i64.wrap 37 = 37 := rfl
theorem wr38 : IntKind.i64.wrap 38 = 38 := rfl
theorem wr39 : IntKind.i64.wrap 39 = 39 := rfl
theorem wr40 : IntKind.i64.wrap 40 = 40 := rfl
end Go.Proofs.YtkbidoikndgheaaDoor.HL

/-! Nil slices as empty ones. -/
namespace Go.Proofs.YtkbidoikndgheaaDoor.HL
open Go.RowKit
/-- What stands for one thing stands for another too. -/
def Le (a b : AV) : Prop := ∀ (γ : Nat → Option Value) (F : Nat → Prop) (w : World) (y : Value), VRel γ F w a y → VRel γ F w b y
def LeL (asx bs : List AV) : Prop := ∀ (γ : Nat → Option Value) (F : Nat → Prop) (w : World) (vs : List Value), VL γ F w asx vs → VL γ F w bs vs
theorem Le.refl (a : AV) : Le a a := fun _ _ _ _ h => h
theorem LeL.refl (a : List AV) : LeL a a := fun _ _ _ _ h => h
theorem Le.nil (es : Nat) (x : Bool) : Le (.v (.slice none 0 0)) (.sl es x []) := fun γ F w y h => by
  rw [VRel] at h
  subst h
  rw [VRel]
  exact ⟨none, 0, rfl, Nat.le_refl _, Nat.zero_le _, fun _ => rfl, fun _ => rfl, .inl rfl⟩
theorem Le.notx {es : Nat} {x : Bool} {rows : List (List AV)} : Le (.sl es x rows) (.sl es false rows) := fun γ F w y h => by
  rw [VRel] at h ⊢
  obtain ⟨A, cap, e, h1, h4, h2, h5, h3⟩ := h
  exact ⟨A, cap, e, h1, h4, (fun e => by cases e), h5, h3⟩
theorem LeL.cons {a b : AV} {asx bs : List AV} (h : Le a b) (hs : LeL asx bs) : LeL (a :: asx) (b :: bs) := fun γ F w vs hv => by
  obtain ⟨v, vs', e, h1, h2⟩ := hv
  exact ⟨v, vs', e, h γ F w v h1, hs γ F w vs' h2⟩
theorem Le.agg {asx bs : List AV} (h : LeL asx bs) : Le (.agg asx) (.agg bs) := fun γ F w y hv => by
  obtain ⟨vs, e, h1⟩ := hv
  exact ⟨vs, e, h γ F w _ h1⟩
theorem Le.tup {asx bs : List AV} (h : LeL asx bs) : Le (.tup asx) (.tup bs) := fun γ F w y hv => by
  obtain ⟨vs, e, h1⟩ := hv
  exact ⟨vs, e, h γ F w _ h1⟩
theorem Le.trans {a b c : AV} (h : Le a b) (h' : Le b c) : Le a c := fun γ F w y hv => h' γ F w y (h γ F w y hv)
theorem PureFn.le {P : Program} {g : FuncId} {args args' : List AV} {r r' : AV} (h : PureFn P g args r) (h1 : LeL args' args) (h2 : Le r r') : PureFn P g args' r' where
  call := h.call
  run := fun F w vs hF hv => (h.run F w vs hF (h1 _ _ _ _ hv)).mono fun v w' hk => by
    obtain ⟨F', hr, rest⟩ := hk
    exact ⟨F', h2 _ _ _ _ hr, rest⟩
theorem PX.retLe {P : Program} {T : Nat → TI} {g nt : Nat} {res : List ResultVar} {r r0 : AV} {X : Cx} {s : St} {j : Option Code} (hX : PX P T g nt res r X) (hj : j = none ∨ j = some .ret) (h : (resA T s res).bind (frz s.L) = some r0) (hl : Le r0 r) : FinAt X j s := by
  unfold FinAt
  rw [hX.ro]
  cases h1 : resA T s res with
  | none => rw [h1] at h; cases h
  | some a =>
    rw [h1] at h
    refine ⟨hj, hX.ro, a, by rw [hX.T, hX.res]; exact h1, fun γ F v w hi hv => ?_⟩
    rw [hX.K]
    have hr := hl _ _ _ _ (frz_ok hi a v r0 hv h)
    have hO : ∀ k, ¬ X.O k := fun k => by rw [hX.O]; exact fun h => h
    refine ⟨FF γ F s.L noB, hr, ⟨hi.os, hi.tape, hi.output, hi.size, fun k hk => hi.keep k hk (hO k)⟩, fun b hb => .inl (hi.fold b hb), ?_, ?_⟩
    · rintro b (hb | ⟨n, hn, _, hk⟩)
      · exact (hi.fnew b hb).imp id (fun h => h.elim id (fun h => (hO _ h).elim))
      · exact .inr ((hi.own n b hn hk).2.2.elim id (fun h => (hO _ h).elim))
    · rintro b (hb | ⟨n, hn, _, hk⟩)
      · exact hi.fr b hb
      · exact (hi.own n b hn hk).2.1
section
variable {X : Cx} {s : St} {k : List Item}
theorem VL.set {γ : Nat → Option Value} {F : Nat → Prop} {w : World} {c c' : AV} (hc : ∀ y, VRel γ F w c y → VRel γ F w c' y) : ∀ {cs : List AV} {vs : List Value} {i : Nat}, cs[i]? = some c → VL γ F w cs vs → VL γ F w (cs.set i c') vs
  | [], _, _, h, _ => by simp at h
  | d :: cs, vs, 0, h, ⟨v, vs', e, h1, h2⟩ => by
    simp only [List.getElem?_cons_zero, Option.some.injEq] at h
    subst h
    exact ⟨v, vs', e, hc _ h1, h2⟩
  | d :: cs, vs, i + 1, h, ⟨v, vs', e, h1, h2⟩ => ⟨v, vs', e, h1, VL.set hc (by simpa using h) h2⟩
theorem Inv.reblk {γ : Nat → Option Value} {F : Nat → Prop} {w : World} {m : Nat} {b b' : Blk} (hi : Inv X γ F s w) (hm : s.L m = some b) (hb : BRel γ F w m b') : Inv X γ F ⟨s.e, upd s.L m (some b'), s.U⟩ w := by
  have hs : ∀ n, (upd s.L m (some b') n).isSome → (s.L n).isSome := by
    intro n h
    by_cases e : n = m
    · subst e; rw [hm]; rfl
    · rwa [upd_ne _ _ _ _ e] at h
  refine ⟨fun n c hn => ?_, hi.dom, fun n m' k' h1 h2 => hi.sep n m' k' (hs n h1) (hs m' h2), fun n k' h1 => hi.own n k' (hs n h1), hi.fr, hi.fold, hi.fnew, hi.os, hi.tape, hi.output, hi.size, hi.keep, fun n v h1 h2 => hi.nm n v h1 (hs n h2), hi.nu, hi.nl⟩
  by_cases e : n = m
  · subst e
    have hn : upd s.L n (some b') n = some c := hn
    rw [upd_same] at hn
    injection hn with hn
    subst hn
    exact hb
  · have hn : upd s.L m (some b') n = some c := hn
    rw [upd_ne _ _ _ _ e] at hn
    exact hi.blk n c hn
/-- A nil slice in a box as an own one without rows. -/
theorem Run.adoptB {m t i n ty es : Nat} {cs : List AV} (hL : s.L m = some (.box t cs)) (hk : cs[i]? = some (.v (.slice none 0 0))) (hU : s.U n = false)
    (h : Run X k ⟨s.e, upd (upd s.L n (some (.own ty es []))) m (some (.box t (cs.set i (.ow n)))), upd s.U n true⟩) : Run X k s := by
  intro γ F a w hi he
  have hs := Step.new (F' := F) (w' := w) (v := .slice none 0 0) (b := .own ty es []) (om := none) hi hU (fun m h => by cases h)
    ⟨.slice none 0 0, [], upd_same _ _ _, .inr ⟨rfl, rfl, none, rfl⟩, rfl, by simp, by simp⟩
    (fun k hk => by cases hk) (fun k hk _ => rfl) (fun _ h => h) (fun _ h => .inl h) hi.fr rfl rfl rfl (Nat.le_refl _)
  have hi1 : Inv X _ F ⟨s.e, upd s.L n (some (.own ty es [])), upd s.U n true⟩ w := (hi.step hs).congr rfl rfl
  have hmn : m ≠ n := by
    rintro rfl
    obtain ⟨v, hv⟩ := (hi.blk m _ hL).named
    rw [hi.dom m v hv] at hU
    cases hU
  have hL1 : upd s.L n (some (.own ty es [])) m = some (.box t cs) := by rw [upd_ne _ _ _ _ hmn, hL]
  obtain ⟨b, arr, h1, h2, h3, h4⟩ := hi1.blk m _ hL1
  have hb : BRel (upd γ n (some (.slice none 0 0))) F w m (.box t (cs.set i (.ow n))) := ⟨b, arr, h1, h2, VL.set (c := .v (.slice none 0 0)) (fun y hy => by
    have hy : y = .slice none 0 0 := by simpa only [VRel] using hy
    subst hy
    exact ⟨upd_same _ _ _, .inl ⟨_, _, _, rfl⟩⟩) hk h3, h4⟩
  exact h _ _ a w (hi1.reblk hL1 hb) ⟨he.d.fwd (hs.fwd hi), he.n, fun t' => hs.rel hi (he.r t')⟩
end
end Go.Proofs.YtkbidoikndgheaaDoor.HL

