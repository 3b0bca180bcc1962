/- From readings to abstract values; contracts of the law functions. -/
import Derived.Test.YtkbidoikndgheaaDoorH7
import Derived.Deep.Slices
set_option linter.unusedVariables false
set_option linter.unusedSimpArgs false
/-! From a statement's reading of its arguments to abstract values. -/
namespace Go.Proofs.YtkbidoikndgheaaDoor.HL
open Go.RowKit Go.Deep
section
variable {H : Type} {enc : TypeId × Value → H} {P : Program} {w : World}
def inW (w : World) (b : Nat) : Prop := b < w.heap.size
abbrev Rds (enc : TypeId × Value → H) (P : Program) (w : World) (t : TypeId) (cs : List Value) : Prop := ∃ n x, DataW.trod enc P w 0 (fun _ => true) true n t cs = some x
/-- A reading of cells. -/
structure RowV (w : World) (asx : List AV) (cs : List Value) : Prop where
  vl : VL noName (inW w) w asx cs
  one : ∀ v ∈ cs, v.oneCell' = true
theorem RowV.append {asx bs : List AV} {cs ds : List Value} (h : RowV w asx cs) (h' : RowV w bs ds) : RowV w (asx ++ bs) (cs ++ ds) :=
  ⟨h.vl.append h'.vl, fun v hv => (List.mem_append.1 hv).elim (h.one v) (h'.one v)⟩
theorem RowV.int (n : Int) : RowV w [I n] [.int .i64 n] := ⟨⟨_, _, rfl, rfl, rfl⟩, by intro v hv; simp at hv; subst hv; rfl⟩
theorem RowV.str (s : ByteArray) : RowV w [Str s] [.string s] := ⟨⟨_, _, rfl, rfl, rfl⟩, by intro v hv; simp at hv; subst hv; rfl⟩
theorem VC_of {b : Nat} : ∀ {asx : List AV} {cs : List Value} {o : Nat}, VL noName (inW w) w asx cs → (∀ k, k < cs.length → w.cell? ⟨b, o + k, none⟩ = cs[k]?) → (∀ v ∈ cs, v.oneCell' = true) → VC (inW w) w b o asx
  | [], _, _, _, _, _ => trivial
  | a :: al, _, o, ⟨v, vs, rfl, h1, h2⟩, hc, h1c => by
    refine ⟨⟨v, by simpa using hc 0 (by simp), h1c v (List.mem_cons_self ..), h1⟩, VC_of h2 (fun k hk => ?_) (fun u hu => h1c u (List.mem_cons_of_mem _ hu))⟩
    have := hc (k + 1) (by simpa using hk)
    rw [show o + 1 + k = o + (k + 1) by omega]
    simpa using this
theorem cells_get {a : Addr} {n : Nat} {cs : List Value} (h : w.cells? 0 a n = some cs) : cs.length = n ∧ ∀ k, k < n → w.cell? (a.add k) = cs[k]? := by
  unfold World.cells? at h
  rw [if_pos (Nat.zero_le _)] at h
  have key : ∀ (l : List Nat) (cs : List Value), l.mapM (fun i => w.cell? (a.add i)) = some cs → cs.length = l.length ∧ ∀ k, k < l.length → w.cell? (a.add (l.getD k 0)) = cs[k]? := by
    intro l
    induction l with
    | nil => intro cs h; simp at h; subst h; simp
    | cons i l ih =>
      intro cs h
      simp only [List.mapM_cons] at h
      cases h1 : w.cell? (a.add i) with
      | none => simp [h1] at h
      | some v =>
        cases h2 : l.mapM (fun i => w.cell? (a.add i)) with
        | none => simp [h1, h2] at h
        | some vs =>
          simp [h1, h2] at h
          subst h
          obtain ⟨e1, e2⟩ := ih vs h2
          refine ⟨by simp [e1], fun k hk => ?_⟩
          cases k with
          | zero => simpa using h1
          | succ k => simpa using e2 k (by simpa using hk)
  obtain ⟨e1, e2⟩ := key _ _ h
  rw [List.length_range] at e1 e2
  refine ⟨e1, fun k hk => ?_⟩
  have := e2 k hk
  rw [List.getD_eq_getElem?_getD, List.getElem?_range hk] at this
  exact this
theorem add_none (b o j : Nat) : (⟨b, o, none⟩ : Addr).add j = ⟨b, o + j, none⟩ := by unfold Addr.add; split <;> simp_all
theorem VR_of {α : Type} {f : α → List AV} {es b : Nat} {C : Nat → List Value} : ∀ {l : List α} {i o : Nat}, (∀ k (hk : k < l.length), RowV w (f l[k]) (C (i + k)) ∧ (C (i + k)).length = es ∧ ∀ j, j < es → w.cell? ⟨b, o + k * es + j, none⟩ = (C (i + k))[j]?) → VR (inW w) w es b o (l.map f)
  | [], _, _, _ => trivial
  | a :: l, i, o, h => by
    obtain ⟨h1, h2, h3⟩ := h 0 (by simp)
    rw [List.map_cons, VR]
    have h1l := h1.vl.length
    simp only [List.getElem_cons_zero] at h1l
    refine ⟨by omega, VC_of h1.vl (fun k hk => by simpa using h3 k (by omega)) h1.one, VR_of (i := i + 1) (C := C) (fun k hk => ?_)⟩
    have := h (k + 1) (by simpa using hk)
    simp only [List.getElem_cons_succ] at this
    rw [show i + 1 + k = i + (k + 1) by omega, show o + es + k * es = o + (k + 1) * es by rw [Nat.succ_mul]; omega]
    exact this
theorem rdSl {α : Type} {t e : TypeId} {es : Nat} (f : α → List AV) (Q : α → Prop) (ht : P.underlying t = some (.slice e)) (ce : P.cellsOf e = es) (he : 0 < es)
    (hrow : ∀ cs, Rds enc P w e cs → ∃ a, Q a ∧ RowV w (f a) cs) {cs : List Value} (h : Rds enc P w t cs) : ∃ l : List α, (∀ a ∈ l, Q a) ∧ RowV w [.sl es false (l.map f)] cs := by
  obtain ⟨n, x, h⟩ := h
  rcases open_slice ht h with ⟨rfl, _⟩ | ⟨a, len, cap, m, n', D, Pl, rfl, _, hlc, hcm, hm, _, hel⟩
  · refine ⟨[], by simp, ⟨_, _, rfl, ?_, rfl⟩, by intro v hv; simp at hv; subst hv; rfl⟩
    rw [List.map_nil, VRel]
    exact ⟨none, 0, rfl, Nat.le_refl _, Nat.zero_le _, (fun h => by cases h), fun _ => rfl, .inl rfl⟩
  · simp only [if_true] at hm
    have hex : ∀ i, i < len → ∃ (c : List Value) (y : α), Q y ∧ RowV w (f y) c ∧ c.length = es ∧ ∀ j, j < es → w.cell? (a.add (i * es + j)) = c[j]? := by
      intro i hi
      obtain ⟨c, h1, h2⟩ := hel i (by omega)
      rw [ce] at h1
      obtain ⟨y, hq, hy⟩ := hrow c ⟨_, _, h2⟩
      obtain ⟨e1, e2⟩ := cells_get h1
      refine ⟨c, y, hq, hy, e1, fun j hj => ?_⟩
      have := e2 j hj
      rw [← Addr.add_add]; exact this
    have key : ∀ len, (∀ i, i < len → ∃ (c : List Value) (y : α), Q y ∧ RowV w (f y) c ∧ c.length = es ∧ ∀ j, j < es → w.cell? (a.add (i * es + j)) = c[j]?) → ∃ (C : Nat → List Value) (l : List α), l.length = len ∧ (∀ y ∈ l, Q y) ∧ ∀ i (hi : i < l.length), RowV w (f l[i]) (C i) ∧ (C i).length = es ∧ ∀ j, j < es → w.cell? (a.add (i * es + j)) = (C i)[j]? := by
      clear hex hel hm hlc h
      intro len
      induction len with
      | zero => intro _; exact ⟨fun _ => [], [], rfl, by simp, fun i hi => by simp at hi⟩
      | succ len ih =>
        intro hex
        obtain ⟨C, l, e1, e2, e3⟩ := ih (fun i hi => hex i (by omega))
        obtain ⟨c, y, g1, g2, g3, g4⟩ := hex len (by omega)
        refine ⟨fun i => if i = len then c else C i, l ++ [y], by simp [e1], fun z hz => ?_, fun i hi => ?_⟩
        · rcases List.mem_append.1 hz with hz | hz
          · exact e2 z hz
          · simp at hz; subst hz; exact g1
        · by_cases hil : i = len
          · subst hil
            simp only [if_true]
            rw [List.getElem_append_right (by omega)]
            simp only [e1, Nat.sub_self, List.getElem_cons_zero]
            exact ⟨g2, g3, g4⟩
          · have hi' : i < l.length := by simp at hi; omega
            simp only [hil, if_false]
            rw [List.getElem_append_left hi']
            exact e3 i hi'
    obtain ⟨C, l, e1, e2, e3⟩ := key len hex
    refine ⟨l, e2, ⟨_, _, rfl, ?_, rfl⟩, by intro v hv; simp at hv; subst hv; rfl⟩
    rw [VRel]
    refine ⟨some a, cap, by rw [List.length_map, e1], by rw [List.length_map]; omega, hcm, (fun h => by cases h), (fun h => by cases h), ?_⟩
    cases l with
    | nil => exact .inl rfl
    | cons y l =>
      right
      obtain ⟨g1, g2, g3⟩ := e3 0 (by simp)
      have hc := g3 0 he
      have hsome : ∃ v, w.cell? (a.add (0 * es + 0)) = some v := by
        rw [hc]
        exact ⟨_, List.getElem?_eq_getElem (by omega)⟩
      obtain ⟨v, hv⟩ := hsome
      have e0 : a.add (0 * es + 0) = a := by simp [Addr.add]
      rw [e0] at hv
      have hspot : a.spot = none ∧ a.block < w.heap.size := by
        unfold World.cell? at hv
        split at hv
        · rename_i c _ _ hh
          refine ⟨?_, (Array.getElem?_eq_some_iff.1 hh).1⟩
          cases hs : a.spot with
          | none => rfl
          | some _ => simp [hs] at hv
        · cases hv
      obtain ⟨blk, off, spot⟩ := a
      simp only at hspot
      obtain ⟨rfl, hb⟩ := hspot
      refine ⟨blk, off, rfl, hb, VR_of (i := 0) (C := C) (fun k hk => ?_)⟩
      obtain ⟨g1, g2, g3⟩ := e3 k hk
      refine ⟨by rw [Nat.zero_add]; exact g1, by rw [Nat.zero_add]; exact g2, fun j hj => ?_⟩
      rw [Nat.zero_add, ← g3 j hj, add_none, Nat.add_assoc]
end
end Go.Proofs.YtkbidoikndgheaaDoor.HL

namespace Go.Proofs.YtkbidoikndgheaaDoor.HL
open Go.Proofs
set_option maxRecDepth 100000
section
variable {H : Type} {enc : TypeId × Value → H} {w : World}
theorem rdFields {P : Program} {t : TypeId} {fs : Array Field} {cs : List Value} (ht : P.underlying t = some (.struct fs)) (h : Rds enc P w t cs) :
    cs.length = P.cellsOf t ∧ ∀ (i : Nat) (f : Field), fs[i]? = some f → Rds enc P w f.type ((cs.drop f.offset).take (P.cellsOf f.type)) := by
  obtain ⟨n, x, h⟩ := h
  obtain ⟨xs, n', _, _, h1, h2, h3⟩ := DataW.trod_struct ht h
  refine ⟨h1, fun i f hf => ?_⟩
  have hi : i < xs.length := by
    have := (Array.getElem?_eq_some_iff.1 hf).1
    omega
  exact ⟨n', xs[i], by rw [h3 i f hf, List.getElem?_eq_getElem hi]⟩
def i64b (c : Int) : Prop := -9223372036854775808 ≤ c ∧ c ≤ 9223372036854775807
theorem rdInt {cs : List Value} (h : Rds enc Tryd.prog w 3 cs) : ∃ n, i64b n ∧ cs = [.int .i64 n] := by
  obtain ⟨_, _, h⟩ := h
  obtain ⟨n, rfl, _, hw⟩ := DataW.trod_int Tryd.underlying3 h
  refine ⟨n, ?_, rfl⟩
  have hw : (decide (IntKind.i64.min ≤ n) && decide (n ≤ IntKind.i64.max)) = true := hw
  simp only [Bool.and_eq_true, decide_eq_true_eq] at hw
  exact hw
theorem rdStr {cs : List Value} (h : Rds enc Tryd.prog w 9 cs) : ∃ s : Bs, cs = [.string (bs s)] := by
  obtain ⟨_, _, h⟩ := h
  obtain ⟨s, rfl, _, _⟩ := DataW.trod_string Tryd.underlying9 h
  exact ⟨s.data.toList, by rw [← bs_of]⟩
theorem c3 : Tryd.prog.cellsOf 3 = 1 := by kernel_rfl
theorem c9 : Tryd.prog.cellsOf 9 = 1 := by kernel_rfl
theorem c43 : Tryd.prog.cellsOf 43 = 3 := by kernel_rfl
theorem c45 : Tryd.prog.cellsOf 45 = 6 := by kernel_rfl
theorem c35 : Tryd.prog.cellsOf 35 = 3 := by kernel_rfl
theorem c48 : Tryd.prog.cellsOf 48 = 7 := by kernel_rfl
theorem c25 : Tryd.prog.cellsOf 25 = 2 := by kernel_rfl
theorem c33 : Tryd.prog.cellsOf 33 = 1 := by kernel_rfl
theorem c23 : Tryd.prog.cellsOf 23 = 1 := by kernel_rfl
theorem RowV.cons {al bl : List AV} {c : Value} {ds : List Value} (h : RowV w al [c]) (h' : RowV w bl ds) : RowV w (al ++ bl) (c :: ds) := h.append h'
theorem RowV.nil : RowV w [] [] := ⟨rfl, by simp⟩
theorem rdVal {cs : List Value} (h : Rds enc Tryd.prog w 43 cs) : ∃ v : Val, RowV w (encV v) cs := by
  obtain ⟨hl, hf⟩ := rdFields Tryd.underlying43 h
  rw [c43] at hl
  match cs, hl with
  | [a, b, c], _ =>
    have h0 : Rds enc Tryd.prog w 3 (([a, b, c].drop 0).take (Tryd.prog.cellsOf 3)) := hf 0 _ rfl
    have h1 : Rds enc Tryd.prog w 3 (([a, b, c].drop 1).take (Tryd.prog.cellsOf 3)) := hf 1 _ rfl
    have h2 : Rds enc Tryd.prog w 9 (([a, b, c].drop 2).take (Tryd.prog.cellsOf 9)) := hf 2 _ rfl
    simp only [c3, c9] at h0 h1 h2
    obtain ⟨k, _, e0⟩ := rdInt h0
    obtain ⟨n, _, e1⟩ := rdInt h1
    obtain ⟨s, e2⟩ := rdStr h2
    obtain rfl : a = .int .i64 k := by simpa using e0
    obtain rfl : b = .int .i64 n := by simpa using e1
    obtain rfl : c = .string (bs s) := by simpa using e2
    exact ⟨⟨k, n, s⟩, .cons (.int k) (.cons (.int n) (.str _))⟩
theorem rdFld {cs : List Value} (h : Rds enc Tryd.prog w 45 cs) : ∃ f : Fld, RowV w (encF f) cs := by
  obtain ⟨hl, hf⟩ := rdFields Tryd.underlying45 h
  rw [c45] at hl
  match cs, hl with
  | [a, b, c, d1, d2, d3], _ =>
    have h0 : Rds enc Tryd.prog w 3 (([a, b, c, d1, d2, d3].drop 0).take (Tryd.prog.cellsOf 3)) := hf 0 _ rfl
    have h1 : Rds enc Tryd.prog w 3 (([a, b, c, d1, d2, d3].drop 1).take (Tryd.prog.cellsOf 3)) := hf 1 _ rfl
    have h2 : Rds enc Tryd.prog w 9 (([a, b, c, d1, d2, d3].drop 2).take (Tryd.prog.cellsOf 9)) := hf 2 _ rfl
    have h3 : Rds enc Tryd.prog w 43 (([a, b, c, d1, d2, d3].drop 3).take (Tryd.prog.cellsOf 43)) := hf 3 _ rfl
    simp only [c3, c9, c43] at h0 h1 h2 h3
    obtain ⟨k, _, e0⟩ := rdInt h0
    obtain ⟨n, _, e1⟩ := rdInt h1
    obtain ⟨s, e2⟩ := rdStr h2
    obtain ⟨v, e3⟩ := rdVal h3
    obtain rfl : a = .int .i64 k := by simpa using e0
    obtain rfl : b = .int .i64 n := by simpa using e1
    obtain rfl : c = .string (bs s) := by simpa using e2
    exact ⟨⟨k, n, s, v⟩, .cons (.int k) (.cons (.int n) (.cons (.str _) e3))⟩
theorem rdVals {cs : List Value} (h : Rds enc Tryd.prog w 23 cs) : ∃ l : List Val, RowV w [slV l] cs := by
  obtain ⟨l, _, h⟩ := rdSl encV (fun _ => True) Tryd.underlying23 c43 (by decide) (fun cs h => by obtain ⟨v, h⟩ := rdVal h; exact ⟨v, trivial, h⟩) h
  exact ⟨l, h⟩
theorem rdFlds {cs : List Value} (h : Rds enc Tryd.prog w 33 cs) : ∃ l : List Fld, RowV w [slF l] cs := by
  obtain ⟨l, _, h⟩ := rdSl encF (fun _ => True) Tryd.underlying33 c45 (by decide) (fun cs h => by obtain ⟨v, h⟩ := rdFld h; exact ⟨v, trivial, h⟩) h
  exact ⟨l, h⟩
theorem rdSch {cs : List Value} (h : Rds enc Tryd.prog w 35 cs) : ∃ s : Sch, RowV w (encS s) cs := by
  obtain ⟨hl, hf⟩ := rdFields Tryd.underlying35 h
  rw [c35] at hl
  match cs, hl with
  | [a, b, c], _ =>
    have h0 : Rds enc Tryd.prog w 3 (([a, b, c].drop 0).take (Tryd.prog.cellsOf 3)) := hf 0 _ rfl
    have h1 : Rds enc Tryd.prog w 3 (([a, b, c].drop 1).take (Tryd.prog.cellsOf 3)) := hf 1 _ rfl
    have h2 : Rds enc Tryd.prog w 33 (([a, b, c].drop 2).take (Tryd.prog.cellsOf 33)) := hf 2 _ rfl
    simp only [c3, c33] at h0 h1 h2
    obtain ⟨k, _, e0⟩ := rdInt h0
    obtain ⟨n, _, e1⟩ := rdInt h1
    obtain ⟨l, e2⟩ := rdFlds h2
    obtain rfl : a = .int .i64 k := by simpa using e0
    obtain rfl : b = .int .i64 n := by simpa using e1
    exact ⟨⟨k, n, l⟩, .cons (.int k) (.cons (.int n) e2)⟩
theorem rdSchs {cs : List Value} (h : Rds enc Tryd.prog w 22 cs) : ∃ l : List Sch, RowV w [slS l] cs := by
  obtain ⟨l, _, h⟩ := rdSl encS (fun _ => True) Tryd.underlying22 c35 (by decide) (fun cs h => by obtain ⟨v, h⟩ := rdSch h; exact ⟨v, trivial, h⟩) h
  exact ⟨l, h⟩
theorem rdRow {cs : List Value} (h : Rds enc Tryd.prog w 25 cs) : ∃ r : Rw, RowV w (encR r) cs := by
  obtain ⟨hl, hf⟩ := rdFields Tryd.underlying25 h
  rw [c25] at hl
  match cs, hl with
  | [a, b], _ =>
    have h0 : Rds enc Tryd.prog w 3 (([a, b].drop 0).take (Tryd.prog.cellsOf 3)) := hf 0 _ rfl
    have h1 : Rds enc Tryd.prog w 23 (([a, b].drop 1).take (Tryd.prog.cellsOf 23)) := hf 1 _ rfl
    simp only [c3, c23] at h0 h1
    obtain ⟨k, _, e0⟩ := rdInt h0
    obtain ⟨l, e1⟩ := rdVals h1
    obtain rfl : a = .int .i64 k := by simpa using e0
    exact ⟨⟨k, l⟩, .cons (.int k) e1⟩
theorem rdAlt {cs : List Value} (h : Rds enc Tryd.prog w 48 cs) : ∃ a : Alt, RowV w (encA a) cs := by
  obtain ⟨hl, hf⟩ := rdFields Tryd.underlying48 h
  rw [c48] at hl
  match cs, hl with
  | [a, b, c, d, d1, d2, d3], _ =>
    have h0 : Rds enc Tryd.prog w 3 (([a, b, c, d, d1, d2, d3].drop 0).take (Tryd.prog.cellsOf 3)) := hf 0 _ rfl
    have h1 : Rds enc Tryd.prog w 9 (([a, b, c, d, d1, d2, d3].drop 1).take (Tryd.prog.cellsOf 9)) := hf 1 _ rfl
    have h2 : Rds enc Tryd.prog w 9 (([a, b, c, d, d1, d2, d3].drop 2).take (Tryd.prog.cellsOf 9)) := hf 2 _ rfl
    have h3 : Rds enc Tryd.prog w 3 (([a, b, c, d, d1, d2, d3].drop 3).take (Tryd.prog.cellsOf 3)) := hf 3 _ rfl
    have h4 : Rds enc Tryd.prog w 43 (([a, b, c, d, d1, d2, d3].drop 4).take (Tryd.prog.cellsOf 43)) := hf 4 _ rfl
    simp only [c3, c9, c43] at h0 h1 h2 h3 h4
    obtain ⟨k, _, e0⟩ := rdInt h0
    obtain ⟨n, e1⟩ := rdStr h1
    obtain ⟨s, e2⟩ := rdStr h2
    obtain ⟨q, _, e3⟩ := rdInt h3
    obtain ⟨v, e4⟩ := rdVal h4
    obtain rfl : a = .int .i64 k := by simpa using e0
    obtain rfl : b = .string (bs n) := by simpa using e1
    obtain rfl : c = .string (bs s) := by simpa using e2
    obtain rfl : d = .int .i64 q := by simpa using e3
    exact ⟨⟨k, n, s, q, v⟩, .cons (.int k) (.cons (.str _) (.cons (.str _) (.cons (.int q) e4)))⟩
end
end Go.Proofs.YtkbidoikndgheaaDoor.HL

/-! Law functions: the call itself, whoever calls. -/
namespace Go.Proofs.YtkbidoikndgheaaDoor.HL
open Go.RowKit
structure LawFn (P : Program) (g : FuncId) (args : List AV) (r : AV) : Prop where
  run : ∀ (F : Nat → Prop) (w : World) (vs : Array Value), (∀ b, F b → b < w.heap.size) → VL noName F w args vs.toList → Calls P g vs w fun e w' => ∃ v, e = .returned v ∧ PureK w F r v w'
theorem LawFn.of_run {P : Program} {T : Nat → TI} {g : FuncId} {fn : Func} {c : Code} {nt : Nat} {res : List ResultVar} {args : List AV} {r : AV} (hT : TOk P T) (hf : P.funcs[g]? = some fn) (hb : fn.body = some c)
    (_ : (fn.name == "runtime.NumGoroutine") = false) (hnt : fn.ntmps = nt) (hres : fn.results = res.toArray) (hal : args.length ≤ nt)
    (h : ∀ X : Cx, PX P T g nt res r X → Real args → Run X [.code c] (enter args)) : LawFn P g args r :=
  ⟨fun F w vs hF hv => calls_of_run hT hf hb hnt hres hal h F w vs hF hv⟩
/-- A law's call with arguments of this kind returns true, and changes nothing that was there. -/
theorem LawFn.yes {P : Program} {g : FuncId} {args : List AV} (h : LawFn P g args (B true)) {w : World} {vs : Array Value} (hv : VL noName (inW w) w args vs.toList) : Calls P g vs w fun e w' => e = .returned (.bool true) ∧ Below w.heap.size w w' :=
  (h.run (inW w) w vs (fun _ h => h) hv).mono fun e w' ⟨v, he, F', hr, hb, _⟩ => by
    have hr : v = .bool true := hr
    subst hr
    exact ⟨he, hb⟩
section
variable {H : Type} {enc : TypeId × Value → H} {w : World}
theorem one_arg {a : AV} {v : Value} (h : RowV w [a] v.cells.toList) (hv : v.cells = #[v]) : VRel noName (inW w) w a v := by
  have h := h.vl
  rw [hv] at h
  obtain ⟨u, us, e, h1, _⟩ := h
  simp only [List.cons.injEq] at e
  rw [e.1]
  exact h1
theorem agg_arg {al : List AV} {cs : Array Value} (h : RowV w al (Value.agg cs).cells.toList) : VRel noName (inW w) w (.agg al) (.agg cs) := ⟨cs, rfl, h.vl⟩
end
end Go.Proofs.YtkbidoikndgheaaDoor.HL

namespace Go.Proofs.YtkbidoikndgheaaDoor.HL
open Go.Proofs
set_option maxRecDepth 100000
set_option maxHeartbeats 4000000
def i64 (c : Int) : Prop := -9223372036854775808 ≤ c ∧ c ≤ 9223372036854775807
theorem p21 (c : Int) (n : Nat) (hc : i64 c) (hn : 1 ≤ n) : PureFn Tryd.prog 21 [I c, I n] (I (pickN c n)) := by
  obtain ⟨c1, c2⟩ := hc
  have hn0 : ¬ (n : Int) = 0 := by omega
  (refine PureFn.of_run ty_ok Tryd.func21 (c := Tryd.f21.body.get!) rfl (by decide) Tryd.ntmps21 (res := [.tmp 4]) Tryd.results21 (Nat.le_of_ble_eq_true rfl) ?_; intro X hX hR; refine vc_ok hX.ok hX.fn 1000 _ _ ?_; simp only [Tryd.f21, Option.get!])
  simp only [zS, hX.T, hX.nt, reduceIte, Nat.reduceEqDiff, Nat.reduceLT, Nat.reduceLeDiff, Nat.reduceAdd, Nat.reduceSub, Nat.reduceBEq, reduceCtorEq, Int.reduceNeg, bs_nil, bs_beq, bs_size, bs_append]
  refine bc_split (fun h => ?_) (fun h => ?_)
  · have h := of_decide_eq_true h
    have w1 : IntKind.i64.wrap (c + 1) = c + 1 := wrap_id (by omega) (by omega)
    have w2 : IntKind.i64.wrap (0 - (c + 1)) = -(c + 1) := by rw [wrap_id (by omega) (by omega)]; omega
    simp only [zS, hX.T, hX.nt, reduceIte, Nat.reduceEqDiff, Nat.reduceLT, Nat.reduceLeDiff, Nat.reduceAdd, Nat.reduceSub, Nat.reduceBEq, reduceCtorEq, Int.reduceNeg, bs_nil, bs_beq, bs_size, bs_append, w1, w2, hn0]
    (refine hX.ret (by first | exact .inl rfl | exact .inr rfl) ?_; simp only [zR, zS, hX.T, hX.nt, reduceIte, Nat.reduceEqDiff, Nat.reduceLT, Nat.reduceLeDiff, Nat.reduceAdd, Nat.reduceSub, Nat.reduceBEq, reduceCtorEq, Int.reduceNeg] <;> try rfl)
    rw [pickN, if_pos h, Int.tmod_eq_emod_of_nonneg (by omega), Int.toNat_of_nonneg (Int.emod_nonneg _ hn0)]
  · have h := of_decide_eq_false h
    simp only [zS, hX.T, hX.nt, reduceIte, Nat.reduceEqDiff, Nat.reduceLT, Nat.reduceLeDiff, Nat.reduceAdd, Nat.reduceSub, Nat.reduceBEq, reduceCtorEq, Int.reduceNeg, bs_nil, bs_beq, bs_size, bs_append, hn0]
    (refine hX.ret (by first | exact .inl rfl | exact .inr rfl) ?_; simp only [zR, zS, hX.T, hX.nt, reduceIte, Nat.reduceEqDiff, Nat.reduceLT, Nat.reduceLeDiff, Nat.reduceAdd, Nat.reduceSub, Nat.reduceBEq, reduceCtorEq, Int.reduceNeg] <;> try rfl)
    rw [pickN, if_neg h, Int.tmod_eq_emod_of_nonneg (by omega), Int.toNat_of_nonneg (Int.emod_nonneg _ hn0)]
theorem eq_step {α : Type} {a b : List α} {i : Nat} (ha : i < a.length) (hb : i < b.length) : (a.drop i = b.drop i) ↔ (a[i] = b[i] ∧ a.drop (i + 1) = b.drop (i + 1)) := by
  rw [List.drop_eq_getElem_cons ha, List.drop_eq_getElem_cons hb, List.cons.injEq]
theorem val_ext {v u : Val} (h : v.k = u.k ∧ v.n = u.n ∧ v.s = u.s) : v = u := by
  obtain ⟨a, b, c⟩ := v
  obtain ⟨a', b', c'⟩ := u
  simpa using h
theorem fld_ext {v u : Fld} (h : v.id = u.id ∧ v.kind = u.kind ∧ v.name = u.name ∧ v.d.k = u.d.k ∧ v.d.n = u.d.n ∧ v.d.s = u.d.s) : v = u := by
  obtain ⟨a, b, c, x, y, z⟩ := v
  obtain ⟨a', b', c', x', y', z'⟩ := u
  simpa using h
theorem p64 (a b : List Val) : PureFn Tryd.prog 64 [slV a, slV b] (B (decide (a = b))) := by
  (refine PureFn.of_run ty_ok Tryd.func64 (c := Tryd.f64.body.get!) rfl (by decide) Tryd.ntmps64 (res := [.tmp 4]) Tryd.results64 (Nat.le_of_ble_eq_true rfl) ?_; intro X hX hR; refine vc_ok hX.ok hX.fn 1000 _ _ ?_; simp only [Tryd.f64, Option.get!])
  have hlen := hR.len (show AV.sl 3 false (a.map encV) ∈ _ by simp [slV])
  rw [List.length_map] at hlen
  simp only [zS, hX.T, hX.nt, reduceIte, Nat.reduceEqDiff, Nat.reduceLT, Nat.reduceLeDiff, Nat.reduceAdd, Nat.reduceSub, Nat.reduceBEq, reduceCtorEq, Int.reduceNeg, bs_nil, bs_beq, bs_size, bs_append]
  refine bc_split (fun h0 => ?_) (fun h0 => ?_)
  · simp only [zS, hX.T, hX.nt, reduceIte, Nat.reduceEqDiff, Nat.reduceLT, Nat.reduceLeDiff, Nat.reduceAdd, Nat.reduceSub, Nat.reduceBEq, reduceCtorEq, Int.reduceNeg, bs_nil, bs_beq, bs_size, bs_append]
    rw [decide_eq_false (fun e => by subst e; simp at h0)] at hX
    (refine hX.ret (by first | exact .inl rfl | exact .inr rfl) ?_; simp only [zR, zS, hX.T, hX.nt, reduceIte, Nat.reduceEqDiff, Nat.reduceLT, Nat.reduceLeDiff, Nat.reduceAdd, Nat.reduceSub, Nat.reduceBEq, reduceCtorEq, Int.reduceNeg] <;> try rfl)
  · have hl : a.length = b.length := by simp at h0; omega
    simp only [zS, hX.T, hX.nt, reduceIte, Nat.reduceEqDiff, Nat.reduceLT, Nat.reduceLeDiff, Nat.reduceAdd, Nat.reduceSub, Nat.reduceBEq, reduceCtorEq, Int.reduceNeg, bs_nil, bs_beq, bs_size, bs_append]
    refine Run.loop (α := Nat) (fun i => [(0, slV a), (1, slV b), (5, I i)]) (fun _ => []) (fun i => i ≤ a.length ∧ (a.drop i = b.drop i ↔ a = b)) (fun i => a.length - i) 0 id ⟨Nat.zero_le _, by simp⟩ (.of hX.NL (by simp only [zS, hX.T, hX.nt, reduceIte, Nat.reduceEqDiff, Nat.reduceLT, Nat.reduceLeDiff, Nat.reduceAdd, Nat.reduceSub, Nat.reduceBEq, reduceCtorEq, Int.reduceNeg, bs_nil, bs_beq, bs_size, bs_append, ren, renL, renB] <;> rfl) (by simp only [zS, hX.T, hX.nt, reduceIte, Nat.reduceEqDiff, Nat.reduceLT, Nat.reduceLeDiff, Nat.reduceAdd, Nat.reduceSub, Nat.reduceBEq, reduceCtorEq, Int.reduceNeg, bs_nil, bs_beq, bs_size, bs_append, ren, renL, renB] <;> rfl) rfl) ?_
    intro i ⟨hi, hn⟩ ih
    refine hX.go ?_
    simp only [zS, hX.T, hX.nt, reduceIte, Nat.reduceEqDiff, Nat.reduceLT, Nat.reduceLeDiff, Nat.reduceAdd, Nat.reduceSub, Nat.reduceBEq, reduceCtorEq, Int.reduceNeg, bs_nil, bs_beq, bs_size, bs_append]
    refine bc_split (fun h => ?_) (fun h => ?_)
    · have h := of_decide_eq_true h
      have hlt : i < a.length := by omega
      have hlb : i < b.length := by omega
      have hlb' : (i : Int) < (b.length : Int) := by omega
      have hra := row_nat encV a i hlt
      have hrb := row_nat encV b i hlb
      rw [eq_step hlt hlb] at hn
      simp only [zS, hX.T, hX.nt, reduceIte, Nat.reduceEqDiff, Nat.reduceLT, Nat.reduceLeDiff, Nat.reduceAdd, Nat.reduceSub, Nat.reduceBEq, reduceCtorEq, Int.reduceNeg, bs_nil, bs_beq, bs_size, bs_append]
      refine hX.draw (by kernel_rfl) (by decide) ?_
      simp only [zS, hX.T, hX.nt, reduceIte, Nat.reduceEqDiff, Nat.reduceLT, Nat.reduceLeDiff, Nat.reduceAdd, Nat.reduceSub, Nat.reduceBEq, reduceCtorEq, Int.reduceNeg, bs_nil, bs_beq, bs_size, bs_append, h, hlb', Int.natCast_nonneg, hra, hrb]
      refine hX.gos (by rfl) ?_
      simp only [zS, hX.T, hX.nt, reduceIte, Nat.reduceEqDiff, Nat.reduceLT, Nat.reduceLeDiff, Nat.reduceAdd, Nat.reduceSub, Nat.reduceBEq, reduceCtorEq, Int.reduceNeg, bs_nil, bs_beq, bs_size, bs_append]
      refine bc_split (fun h1 => ?_) (fun h1 => ?_)
      · simp only [zS, hX.T, hX.nt, reduceIte, Nat.reduceEqDiff, Nat.reduceLT, Nat.reduceLeDiff, Nat.reduceAdd, Nat.reduceSub, Nat.reduceBEq, reduceCtorEq, Int.reduceNeg, bs_nil, bs_beq, bs_size, bs_append]
        rw [decide_eq_false (fun e => by have := (hn.2 e).1; simp [this] at h1)] at hX
        (refine hX.ret (by first | exact .inl rfl | exact .inr rfl) ?_; simp only [zR, zS, hX.T, hX.nt, reduceIte, Nat.reduceEqDiff, Nat.reduceLT, Nat.reduceLeDiff, Nat.reduceAdd, Nat.reduceSub, Nat.reduceBEq, reduceCtorEq, Int.reduceNeg] <;> try rfl)
      · simp only [zS, hX.T, hX.nt, reduceIte, Nat.reduceEqDiff, Nat.reduceLT, Nat.reduceLeDiff, Nat.reduceAdd, Nat.reduceSub, Nat.reduceBEq, reduceCtorEq, Int.reduceNeg, bs_nil, bs_beq, bs_size, bs_append]
        refine ih (i + 1) id _ ⟨hlt, by rw [← hn]; simp at h1; exact ⟨fun h => ⟨val_ext h1, h⟩, fun h => h.2⟩⟩ (by omega) (.of hX.NL (by simp only [zS, hX.T, hX.nt, reduceIte, Nat.reduceEqDiff, Nat.reduceLT, Nat.reduceLeDiff, Nat.reduceAdd, Nat.reduceSub, Nat.reduceBEq, reduceCtorEq, Int.reduceNeg, bs_nil, bs_beq, bs_size, bs_append, ren, renL, renB, wrap_succ hlt hlen] <;> rfl) (by simp only [zS, hX.T, hX.nt, reduceIte, Nat.reduceEqDiff, Nat.reduceLT, Nat.reduceLeDiff, Nat.reduceAdd, Nat.reduceSub, Nat.reduceBEq, reduceCtorEq, Int.reduceNeg, bs_nil, bs_beq, bs_size, bs_append, ren, renL, renB] <;> rfl) rfl)
    · have h := of_decide_eq_false h
      rw [decide_eq_true (hn.1 (by rw [List.drop_eq_nil_of_le (by omega), List.drop_eq_nil_of_le (by omega)]))] at hX
      simp only [zS, hX.T, hX.nt, reduceIte, Nat.reduceEqDiff, Nat.reduceLT, Nat.reduceLeDiff, Nat.reduceAdd, Nat.reduceSub, Nat.reduceBEq, reduceCtorEq, Int.reduceNeg, bs_nil, bs_beq, bs_size, bs_append]
      (refine hX.ret (by first | exact .inl rfl | exact .inr rfl) ?_; simp only [zR, zS, hX.T, hX.nt, reduceIte, Nat.reduceEqDiff, Nat.reduceLT, Nat.reduceLeDiff, Nat.reduceAdd, Nat.reduceSub, Nat.reduceBEq, reduceCtorEq, Int.reduceNeg] <;> try rfl)
theorem p19 (r q : Rw) : PureFn Tryd.prog 19 [.agg (encR r), .agg (encR q)] (B (decide (r = q))) := by
  (refine PureFn.of_run ty_ok Tryd.func19 (c := Tryd.f19.body.get!) rfl (by decide) Tryd.ntmps19 (res := [.tmp 4]) Tryd.results19 (Nat.le_of_ble_eq_true rfl) ?_; intro X hX hR; refine vc_ok hX.ok hX.fn 1000 _ _ ?_; simp only [Tryd.f19, Option.get!])
  simp only [zS, hX.T, hX.nt, reduceIte, Nat.reduceEqDiff, Nat.reduceLT, Nat.reduceLeDiff, Nat.reduceAdd, Nat.reduceSub, Nat.reduceBEq, reduceCtorEq, Int.reduceNeg, bs_nil, bs_beq, bs_size, bs_append]
  repeat' first | (refine bc_split (fun h => ?_) (fun h => ?_) <;> simp only [zS, hX.T, hX.nt, reduceIte, Nat.reduceEqDiff, Nat.reduceLT, Nat.reduceLeDiff, Nat.reduceAdd, Nat.reduceSub, Nat.reduceBEq, reduceCtorEq, Int.reduceNeg, bs_nil, bs_beq, bs_size, bs_append, zS, h]) | (refine bg_split (fun h => ?_) (fun h => ?_) <;> simp only [zS, hX.T, hX.nt, reduceIte, Nat.reduceEqDiff, Nat.reduceLT, Nat.reduceLeDiff, Nat.reduceAdd, Nat.reduceSub, Nat.reduceBEq, reduceCtorEq, Int.reduceNeg, bs_nil, bs_beq, bs_size, bs_append, zS, h]) | (refine pb_split (fun h => ?_) (fun h => ?_) <;> simp only [zS, hX.T, hX.nt, reduceIte, Nat.reduceEqDiff, Nat.reduceLT, Nat.reduceLeDiff, Nat.reduceAdd, Nat.reduceSub, Nat.reduceBEq, reduceCtorEq, Int.reduceNeg, bs_nil, bs_beq, bs_size, bs_append, zS, h]) | (refine hX.gos (by rfl) ?_; simp only [zS, hX.T, hX.nt, reduceIte, Nat.reduceEqDiff, Nat.reduceLT, Nat.reduceLeDiff, Nat.reduceAdd, Nat.reduceSub, Nat.reduceBEq, reduceCtorEq, Int.reduceNeg, bs_nil, bs_beq, bs_size, bs_append, zS]) | (refine hX.pure (p64 r.vs q.vs) rfl rfl (by decide) ?_; simp only [zS, hX.T, hX.nt, reduceIte, Nat.reduceEqDiff, Nat.reduceLT, Nat.reduceLeDiff, Nat.reduceAdd, Nat.reduceSub, Nat.reduceBEq, reduceCtorEq, Int.reduceNeg, bs_nil, bs_beq, bs_size, bs_append, zS]) | (refine hX.pureD (p64 r.vs q.vs) rfl rfl (by decide) ?_; simp only [zS, hX.T, hX.nt, reduceIte, Nat.reduceEqDiff, Nat.reduceLT, Nat.reduceLeDiff, Nat.reduceAdd, Nat.reduceSub, Nat.reduceBEq, reduceCtorEq, Int.reduceNeg, bs_nil, bs_beq, bs_size, bs_append, zS])
  all_goals ((refine hX.ret (by first | exact .inl rfl | exact .inr rfl) ?_; simp only [zR, zS, hX.T, hX.nt, reduceIte, Nat.reduceEqDiff, Nat.reduceLT, Nat.reduceLeDiff, Nat.reduceAdd, Nat.reduceSub, Nat.reduceBEq, reduceCtorEq, Int.reduceNeg] <;> try rfl) <;> (clear hX hR; obtain ⟨a, b⟩ := r; obtain ⟨c, d⟩ := q; simp_all))
theorem p35 (s t : Sch) : PureFn Tryd.prog 35 [.agg (encS s), .agg (encS t)] (B (decide (s = t))) := by
  (refine PureFn.of_run ty_ok Tryd.func35 (c := Tryd.f35.body.get!) rfl (by decide) Tryd.ntmps35 (res := [.tmp 4]) Tryd.results35 (Nat.le_of_ble_eq_true rfl) ?_; intro X hX hR; refine vc_ok hX.ok hX.fn 1000 _ _ ?_; simp only [Tryd.f35, Option.get!])
  have hlen := (hR.agg (List.mem_cons_self ..)).len (show AV.sl 6 false (s.fs.map encF) ∈ encS s by simp [encS])
  rw [List.length_map] at hlen
  by_cases h0 : s.ver = t.ver ∧ s.next = t.next ∧ s.fs.length = t.fs.length
  · obtain ⟨h1, h2, h3⟩ := h0
    have e0 : (s = t) ↔ s.fs = t.fs := by
      obtain ⟨a, b, c⟩ := s
      obtain ⟨a', b', c'⟩ := t
      simp only at h1 h2
      simp [h1, h2]
    have d1 : (s.ver != t.ver) = false := by simp [h1]
    have d2 : (s.next != t.next) = false := by simp [h2]
    have d3 : ((s.fs.length : Int) != (t.fs.length : Int)) = false := by simp [h3]
    simp only [zS, hX.T, hX.nt, reduceIte, Nat.reduceEqDiff, Nat.reduceLT, Nat.reduceLeDiff, Nat.reduceAdd, Nat.reduceSub, Nat.reduceBEq, reduceCtorEq, Int.reduceNeg, bs_nil, bs_beq, bs_size, bs_append, d1, d2, d3]
    refine Run.loop (α := Nat) (fun i => [(2, .pt 2 0), (3, .pt 3 0), (5, I i)]) (fun _ => [(2, .box 35 (encS s)), (3, .box 35 (encS t))]) (fun i => i ≤ s.fs.length ∧ (s.fs.drop i = t.fs.drop i ↔ s = t)) (fun i => s.fs.length - i) 0 id ⟨Nat.zero_le _, by simp [e0]⟩ (.of hX.NL (by simp only [zS, hX.T, hX.nt, reduceIte, Nat.reduceEqDiff, Nat.reduceLT, Nat.reduceLeDiff, Nat.reduceAdd, Nat.reduceSub, Nat.reduceBEq, reduceCtorEq, Int.reduceNeg, bs_nil, bs_beq, bs_size, bs_append, ren, renL, renB] <;> rfl) (by simp only [zS, hX.T, hX.nt, reduceIte, Nat.reduceEqDiff, Nat.reduceLT, Nat.reduceLeDiff, Nat.reduceAdd, Nat.reduceSub, Nat.reduceBEq, reduceCtorEq, Int.reduceNeg, bs_nil, bs_beq, bs_size, bs_append, ren, renL, renB] <;> rfl) rfl) ?_
    intro i ⟨hi, hn⟩ ih
    refine hX.go ?_
    simp only [zS, hX.T, hX.nt, reduceIte, Nat.reduceEqDiff, Nat.reduceLT, Nat.reduceLeDiff, Nat.reduceAdd, Nat.reduceSub, Nat.reduceBEq, reduceCtorEq, Int.reduceNeg, bs_nil, bs_beq, bs_size, bs_append]
    refine bc_split (fun h => ?_) (fun h => ?_)
    · have h := of_decide_eq_true h
      have hlt : i < s.fs.length := by omega
      have hlb : i < t.fs.length := by omega
      have hlb' : (i : Int) < (t.fs.length : Int) := by omega
      have hra := row_nat encF s.fs i hlt
      have hrb := row_nat encF t.fs i hlb
      rw [eq_step hlt hlb] at hn
      simp only [zS, hX.T, hX.nt, reduceIte, Nat.reduceEqDiff, Nat.reduceLT, Nat.reduceLeDiff, Nat.reduceAdd, Nat.reduceSub, Nat.reduceBEq, reduceCtorEq, Int.reduceNeg, bs_nil, bs_beq, bs_size, bs_append]
      refine hX.draw (by kernel_rfl) (by decide) ?_
      simp only [zS, hX.T, hX.nt, reduceIte, Nat.reduceEqDiff, Nat.reduceLT, Nat.reduceLeDiff, Nat.reduceAdd, Nat.reduceSub, Nat.reduceBEq, reduceCtorEq, Int.reduceNeg, bs_nil, bs_beq, bs_size, bs_append, h, hlb', Int.natCast_nonneg, hra, hrb]
      refine hX.gos (by rfl) ?_
      simp only [zS, hX.T, hX.nt, reduceIte, Nat.reduceEqDiff, Nat.reduceLT, Nat.reduceLeDiff, Nat.reduceAdd, Nat.reduceSub, Nat.reduceBEq, reduceCtorEq, Int.reduceNeg, bs_nil, bs_beq, bs_size, bs_append]
      refine bc_split (fun h1 => ?_) (fun h1 => ?_)
      · simp only [zS, hX.T, hX.nt, reduceIte, Nat.reduceEqDiff, Nat.reduceLT, Nat.reduceLeDiff, Nat.reduceAdd, Nat.reduceSub, Nat.reduceBEq, reduceCtorEq, Int.reduceNeg, bs_nil, bs_beq, bs_size, bs_append]
        rw [decide_eq_false (fun e => by have := (hn.2 e).1; simp [this] at h1)] at hX
        (refine hX.ret (by first | exact .inl rfl | exact .inr rfl) ?_; simp only [zR, zS, hX.T, hX.nt, reduceIte, Nat.reduceEqDiff, Nat.reduceLT, Nat.reduceLeDiff, Nat.reduceAdd, Nat.reduceSub, Nat.reduceBEq, reduceCtorEq, Int.reduceNeg] <;> try rfl)
      · simp only [zS, hX.T, hX.nt, reduceIte, Nat.reduceEqDiff, Nat.reduceLT, Nat.reduceLeDiff, Nat.reduceAdd, Nat.reduceSub, Nat.reduceBEq, reduceCtorEq, Int.reduceNeg, bs_nil, bs_beq, bs_size, bs_append]
        refine ih (i + 1) id _ ⟨hlt, by rw [← hn]; simp at h1; exact ⟨fun h => ⟨fld_ext h1, h⟩, fun h => h.2⟩⟩ (by omega) (.of hX.NL (by simp only [zS, hX.T, hX.nt, reduceIte, Nat.reduceEqDiff, Nat.reduceLT, Nat.reduceLeDiff, Nat.reduceAdd, Nat.reduceSub, Nat.reduceBEq, reduceCtorEq, Int.reduceNeg, bs_nil, bs_beq, bs_size, bs_append, ren, renL, renB, wrap_succ hlt hlen] <;> rfl) (by simp only [zS, hX.T, hX.nt, reduceIte, Nat.reduceEqDiff, Nat.reduceLT, Nat.reduceLeDiff, Nat.reduceAdd, Nat.reduceSub, Nat.reduceBEq, reduceCtorEq, Int.reduceNeg, bs_nil, bs_beq, bs_size, bs_append, ren, renL, renB] <;> rfl) rfl)
    · have h := of_decide_eq_false h
      rw [decide_eq_true (hn.1 (by rw [List.drop_eq_nil_of_le (by omega), List.drop_eq_nil_of_le (by omega)]))] at hX
      simp only [zS, hX.T, hX.nt, reduceIte, Nat.reduceEqDiff, Nat.reduceLT, Nat.reduceLeDiff, Nat.reduceAdd, Nat.reduceSub, Nat.reduceBEq, reduceCtorEq, Int.reduceNeg, bs_nil, bs_beq, bs_size, bs_append]
      (refine hX.ret (by first | exact .inl rfl | exact .inr rfl) ?_; simp only [zR, zS, hX.T, hX.nt, reduceIte, Nat.reduceEqDiff, Nat.reduceLT, Nat.reduceLeDiff, Nat.reduceAdd, Nat.reduceSub, Nat.reduceBEq, reduceCtorEq, Int.reduceNeg] <;> try rfl)
  · rw [decide_eq_false (fun e => by subst e; simp at h0)] at hX
    simp only [zS, hX.T, hX.nt, reduceIte, Nat.reduceEqDiff, Nat.reduceLT, Nat.reduceLeDiff, Nat.reduceAdd, Nat.reduceSub, Nat.reduceBEq, reduceCtorEq, Int.reduceNeg, bs_nil, bs_beq, bs_size, bs_append]
    repeat' first | (refine bc_split (fun h => ?_) (fun h => ?_) <;> simp only [zS, hX.T, hX.nt, reduceIte, Nat.reduceEqDiff, Nat.reduceLT, Nat.reduceLeDiff, Nat.reduceAdd, Nat.reduceSub, Nat.reduceBEq, reduceCtorEq, Int.reduceNeg, bs_nil, bs_beq, bs_size, bs_append, zS, h]) | (refine bg_split (fun h => ?_) (fun h => ?_) <;> simp only [zS, hX.T, hX.nt, reduceIte, Nat.reduceEqDiff, Nat.reduceLT, Nat.reduceLeDiff, Nat.reduceAdd, Nat.reduceSub, Nat.reduceBEq, reduceCtorEq, Int.reduceNeg, bs_nil, bs_beq, bs_size, bs_append, zS, h]) | (refine pb_split (fun h => ?_) (fun h => ?_) <;> simp only [zS, hX.T, hX.nt, reduceIte, Nat.reduceEqDiff, Nat.reduceLT, Nat.reduceLeDiff, Nat.reduceAdd, Nat.reduceSub, Nat.reduceBEq, reduceCtorEq, Int.reduceNeg, bs_nil, bs_beq, bs_size, bs_append, zS, h]) | (refine hX.gos (by rfl) ?_; simp only [zS, hX.T, hX.nt, reduceIte, Nat.reduceEqDiff, Nat.reduceLT, Nat.reduceLeDiff, Nat.reduceAdd, Nat.reduceSub, Nat.reduceBEq, reduceCtorEq, Int.reduceNeg, bs_nil, bs_beq, bs_size, bs_append, zS])
    all_goals first
      | (exfalso; clear hX hR; simp at *; omega)
      | ((refine hX.ret (by first | exact .inl rfl | exact .inr rfl) ?_; simp only [zR, zS, hX.T, hX.nt, reduceIte, Nat.reduceEqDiff, Nat.reduceLT, Nat.reduceLeDiff, Nat.reduceAdd, Nat.reduceSub, Nat.reduceBEq, reduceCtorEq, Int.reduceNeg] <;> try rfl); done)
end Go.Proofs.YtkbidoikndgheaaDoor.HL

namespace Go.Proofs.YtkbidoikndgheaaDoor.HL
open Go.Proofs
set_option maxRecDepth 100000
set_option maxHeartbeats 4000000
theorem p25 (a b : List Sch) : PureFn Tryd.prog 25 [slS a, slS b] (B (decide (a = b))) := by
  (refine PureFn.of_run ty_ok Tryd.func25 (c := Tryd.f25.body.get!) rfl (by decide) Tryd.ntmps25 (res := [.tmp 4]) Tryd.results25 (Nat.le_of_ble_eq_true rfl) ?_; intro X hX hR; refine vc_ok hX.ok hX.fn 1000 _ _ ?_; simp only [Tryd.f25, Option.get!])
  have hlen := hR.len (show AV.sl 3 false (a.map encS) ∈ _ by simp [slS])
  rw [List.length_map] at hlen
  simp only [zS, hX.T, hX.nt, reduceIte, Nat.reduceEqDiff, Nat.reduceLT, Nat.reduceLeDiff, Nat.reduceAdd, Nat.reduceSub, Nat.reduceBEq, reduceCtorEq, Int.reduceNeg, bs_nil, bs_beq, bs_size, bs_append]
  refine bc_split (fun h0 => ?_) (fun h0 => ?_)
  · simp only [zS, hX.T, hX.nt, reduceIte, Nat.reduceEqDiff, Nat.reduceLT, Nat.reduceLeDiff, Nat.reduceAdd, Nat.reduceSub, Nat.reduceBEq, reduceCtorEq, Int.reduceNeg, bs_nil, bs_beq, bs_size, bs_append]
    rw [decide_eq_false (fun e => by subst e; simp at h0)] at hX
    (refine hX.ret (by first | exact .inl rfl | exact .inr rfl) ?_; simp only [zR, zS, hX.T, hX.nt, reduceIte, Nat.reduceEqDiff, Nat.reduceLT, Nat.reduceLeDiff, Nat.reduceAdd, Nat.reduceSub, Nat.reduceBEq, reduceCtorEq, Int.reduceNeg] <;> try rfl)
  · have hl : a.length = b.length := by simp at h0; omega
    simp only [zS, hX.T, hX.nt, reduceIte, Nat.reduceEqDiff, Nat.reduceLT, Nat.reduceLeDiff, Nat.reduceAdd, Nat.reduceSub, Nat.reduceBEq, reduceCtorEq, Int.reduceNeg, bs_nil, bs_beq, bs_size, bs_append]
    refine Run.loop (α := Nat) (fun i => [(0, slS a), (1, slS b), (5, I i)]) (fun _ => []) (fun i => i ≤ a.length ∧ (a.drop i = b.drop i ↔ a = b)) (fun i => a.length - i) 0 id ⟨Nat.zero_le _, by simp⟩ (.of hX.NL (by simp only [zS, hX.T, hX.nt, reduceIte, Nat.reduceEqDiff, Nat.reduceLT, Nat.reduceLeDiff, Nat.reduceAdd, Nat.reduceSub, Nat.reduceBEq, reduceCtorEq, Int.reduceNeg, bs_nil, bs_beq, bs_size, bs_append, ren, renL, renB] <;> rfl) (by simp only [zS, hX.T, hX.nt, reduceIte, Nat.reduceEqDiff, Nat.reduceLT, Nat.reduceLeDiff, Nat.reduceAdd, Nat.reduceSub, Nat.reduceBEq, reduceCtorEq, Int.reduceNeg, bs_nil, bs_beq, bs_size, bs_append, ren, renL, renB] <;> rfl) rfl) ?_
    intro i ⟨hi, hn⟩ ih
    refine hX.go ?_
    simp only [zS, hX.T, hX.nt, reduceIte, Nat.reduceEqDiff, Nat.reduceLT, Nat.reduceLeDiff, Nat.reduceAdd, Nat.reduceSub, Nat.reduceBEq, reduceCtorEq, Int.reduceNeg, bs_nil, bs_beq, bs_size, bs_append]
    refine bc_split (fun h => ?_) (fun h => ?_)
    · have h := of_decide_eq_true h
      have hlt : i < a.length := by omega
      have hlb : i < b.length := by omega
      have hlb' : (i : Int) < (b.length : Int) := by omega
      have hra := row_nat encS a i hlt
      have hrb := row_nat encS b i hlb
      rw [eq_step hlt hlb] at hn
      simp only [zS, hX.T, hX.nt, reduceIte, Nat.reduceEqDiff, Nat.reduceLT, Nat.reduceLeDiff, Nat.reduceAdd, Nat.reduceSub, Nat.reduceBEq, reduceCtorEq, Int.reduceNeg, bs_nil, bs_beq, bs_size, bs_append]
      refine hX.draw (by kernel_rfl) (by decide) ?_
      simp only [zS, hX.T, hX.nt, reduceIte, Nat.reduceEqDiff, Nat.reduceLT, Nat.reduceLeDiff, Nat.reduceAdd, Nat.reduceSub, Nat.reduceBEq, reduceCtorEq, Int.reduceNeg, bs_nil, bs_beq, bs_size, bs_append, h, hlb', Int.natCast_nonneg, hra, hrb]
      refine hX.pureD (p35 a[i] b[i]) rfl rfl (by decide) ?_
      simp only [zS, hX.T, hX.nt, reduceIte, Nat.reduceEqDiff, Nat.reduceLT, Nat.reduceLeDiff, Nat.reduceAdd, Nat.reduceSub, Nat.reduceBEq, reduceCtorEq, Int.reduceNeg, bs_nil, bs_beq, bs_size, bs_append]
      refine hX.gos (by rfl) ?_
      simp only [zS, hX.T, hX.nt, reduceIte, Nat.reduceEqDiff, Nat.reduceLT, Nat.reduceLeDiff, Nat.reduceAdd, Nat.reduceSub, Nat.reduceBEq, reduceCtorEq, Int.reduceNeg, bs_nil, bs_beq, bs_size, bs_append]
      refine bc_split (fun h1 => ?_) (fun h1 => ?_)
      · simp only [zS, hX.T, hX.nt, reduceIte, Nat.reduceEqDiff, Nat.reduceLT, Nat.reduceLeDiff, Nat.reduceAdd, Nat.reduceSub, Nat.reduceBEq, reduceCtorEq, Int.reduceNeg, bs_nil, bs_beq, bs_size, bs_append]
        rw [decide_eq_false (fun e => by have := (hn.2 e).1; simp [this] at h1)] at hX
        (refine hX.ret (by first | exact .inl rfl | exact .inr rfl) ?_; simp only [zR, zS, hX.T, hX.nt, reduceIte, Nat.reduceEqDiff, Nat.reduceLT, Nat.reduceLeDiff, Nat.reduceAdd, Nat.reduceSub, Nat.reduceBEq, reduceCtorEq, Int.reduceNeg] <;> try rfl)
      · simp only [zS, hX.T, hX.nt, reduceIte, Nat.reduceEqDiff, Nat.reduceLT, Nat.reduceLeDiff, Nat.reduceAdd, Nat.reduceSub, Nat.reduceBEq, reduceCtorEq, Int.reduceNeg, bs_nil, bs_beq, bs_size, bs_append]
        refine ih (i + 1) id _ ⟨hlt, by rw [← hn]; simp at h1; exact ⟨fun h => ⟨h1, h⟩, fun h => h.2⟩⟩ (by omega) (.of hX.NL (by simp only [zS, hX.T, hX.nt, reduceIte, Nat.reduceEqDiff, Nat.reduceLT, Nat.reduceLeDiff, Nat.reduceAdd, Nat.reduceSub, Nat.reduceBEq, reduceCtorEq, Int.reduceNeg, bs_nil, bs_beq, bs_size, bs_append, ren, renL, renB, wrap_succ hlt hlen] <;> rfl) (by simp only [zS, hX.T, hX.nt, reduceIte, Nat.reduceEqDiff, Nat.reduceLT, Nat.reduceLeDiff, Nat.reduceAdd, Nat.reduceSub, Nat.reduceBEq, reduceCtorEq, Int.reduceNeg, bs_nil, bs_beq, bs_size, bs_append, ren, renL, renB] <;> rfl) rfl)
    · have h := of_decide_eq_false h
      rw [decide_eq_true (hn.1 (by rw [List.drop_eq_nil_of_le (by omega), List.drop_eq_nil_of_le (by omega)]))] at hX
      simp only [zS, hX.T, hX.nt, reduceIte, Nat.reduceEqDiff, Nat.reduceLT, Nat.reduceLeDiff, Nat.reduceAdd, Nat.reduceSub, Nat.reduceBEq, reduceCtorEq, Int.reduceNeg, bs_nil, bs_beq, bs_size, bs_append]
      (refine hX.ret (by first | exact .inl rfl | exact .inr rfl) ?_; simp only [zR, zS, hX.T, hX.nt, reduceIte, Nat.reduceEqDiff, Nat.reduceLT, Nat.reduceLeDiff, Nat.reduceAdd, Nat.reduceSub, Nat.reduceBEq, reduceCtorEq, Int.reduceNeg] <;> try rfl)
def ltF (f : Fld) : Bool := decide (f.name.length ≤ 100) && decide (f.d.s.length ≤ 1500)
def ltS (s : Sch) : Bool := decide (s.fs.length ≤ 30) && s.fs.all ltF
theorem all_step {α : Type} {p : α → Bool} {l : List α} {i : Nat} (h : i < l.length) : (l.drop i).all p = (p l[i] && (l.drop (i + 1)).all p) := by
  rw [List.drop_eq_getElem_cons h, List.all_cons]
theorem all_end {α : Type} {p : α → Bool} {l : List α} {i : Nat} (h : l.length ≤ i) : (l.drop i).all p = true := by rw [List.drop_eq_nil_of_le h]; rfl
theorem p60 (s : Sch) : PureFn Tryd.prog 60 [.agg (encS s)] (B (ltS s)) := by
  (refine PureFn.of_run ty_ok Tryd.func60 (c := Tryd.f60.body.get!) rfl (by decide) Tryd.ntmps60 (res := [.tmp 2]) Tryd.results60 (Nat.le_of_ble_eq_true rfl) ?_; intro X hX hR; refine vc_ok hX.ok hX.fn 1000 _ _ ?_; simp only [Tryd.f60, Option.get!])
  have hlen := (hR.agg (List.mem_cons_self ..)).len (show AV.sl 6 false (s.fs.map encF) ∈ encS s by simp [encS])
  rw [List.length_map] at hlen
  simp only [zS, hX.T, hX.nt, reduceIte, Nat.reduceEqDiff, Nat.reduceLT, Nat.reduceLeDiff, Nat.reduceAdd, Nat.reduceSub, Nat.reduceBEq, reduceCtorEq, Int.reduceNeg, bs_nil, bs_beq, bs_size, bs_append]
  refine bc_split (fun h0 => ?_) (fun h0 => ?_)
  · simp only [zS, hX.T, hX.nt, reduceIte, Nat.reduceEqDiff, Nat.reduceLT, Nat.reduceLeDiff, Nat.reduceAdd, Nat.reduceSub, Nat.reduceBEq, reduceCtorEq, Int.reduceNeg, bs_nil, bs_beq, bs_size, bs_append]
    have h0 := of_decide_eq_true h0
    rw [ltS, decide_eq_false (by omega), Bool.false_and] at hX
    (refine hX.ret (by first | exact .inl rfl | exact .inr rfl) ?_; simp only [zR, zS, hX.T, hX.nt, reduceIte, Nat.reduceEqDiff, Nat.reduceLT, Nat.reduceLeDiff, Nat.reduceAdd, Nat.reduceSub, Nat.reduceBEq, reduceCtorEq, Int.reduceNeg] <;> try rfl)
  · have h0 := of_decide_eq_false h0
    rw [ltS, decide_eq_true (by omega), Bool.true_and] at hX
    simp only [zS, hX.T, hX.nt, reduceIte, Nat.reduceEqDiff, Nat.reduceLT, Nat.reduceLeDiff, Nat.reduceAdd, Nat.reduceSub, Nat.reduceBEq, reduceCtorEq, Int.reduceNeg, bs_nil, bs_beq, bs_size, bs_append]
    refine Run.loop (α := Nat) (fun i => [(1, .pt 1 0), (3, I i)]) (fun _ => [(1, .box 35 (encS s))]) (fun i => i ≤ s.fs.length ∧ (s.fs.drop i).all ltF = s.fs.all ltF) (fun i => s.fs.length - i) 0 id ⟨Nat.zero_le _, rfl⟩ (.of hX.NL (by simp only [zS, hX.T, hX.nt, reduceIte, Nat.reduceEqDiff, Nat.reduceLT, Nat.reduceLeDiff, Nat.reduceAdd, Nat.reduceSub, Nat.reduceBEq, reduceCtorEq, Int.reduceNeg, bs_nil, bs_beq, bs_size, bs_append, ren, renL, renB] <;> rfl) (by simp only [zS, hX.T, hX.nt, reduceIte, Nat.reduceEqDiff, Nat.reduceLT, Nat.reduceLeDiff, Nat.reduceAdd, Nat.reduceSub, Nat.reduceBEq, reduceCtorEq, Int.reduceNeg, bs_nil, bs_beq, bs_size, bs_append, ren, renL, renB] <;> rfl) rfl) ?_
    intro i ⟨hi, hn⟩ ih
    refine hX.go ?_
    simp only [zS, hX.T, hX.nt, reduceIte, Nat.reduceEqDiff, Nat.reduceLT, Nat.reduceLeDiff, Nat.reduceAdd, Nat.reduceSub, Nat.reduceBEq, reduceCtorEq, Int.reduceNeg, bs_nil, bs_beq, bs_size, bs_append]
    refine bc_split (fun h => ?_) (fun h => ?_)
    · have h := of_decide_eq_true h
      have hlt : i < s.fs.length := by omega
      have hrow := row_nat encF s.fs i hlt
      rw [all_step hlt] at hn
      have hil := h
      simp only [zS, hX.T, hX.nt, reduceIte, Nat.reduceEqDiff, Nat.reduceLT, Nat.reduceLeDiff, Nat.reduceAdd, Nat.reduceSub, Nat.reduceBEq, reduceCtorEq, Int.reduceNeg, bs_nil, bs_beq, bs_size, bs_append, hil, Int.natCast_nonneg, hrow]
      repeat' first | (refine bc_split (fun h => ?_) (fun h => ?_) <;> simp only [zS, hX.T, hX.nt, reduceIte, Nat.reduceEqDiff, Nat.reduceLT, Nat.reduceLeDiff, Nat.reduceAdd, Nat.reduceSub, Nat.reduceBEq, reduceCtorEq, Int.reduceNeg, bs_nil, bs_beq, bs_size, bs_append, zS, hil, Int.natCast_nonneg, hrow, h]) | (refine bg_split (fun h => ?_) (fun h => ?_) <;> simp only [zS, hX.T, hX.nt, reduceIte, Nat.reduceEqDiff, Nat.reduceLT, Nat.reduceLeDiff, Nat.reduceAdd, Nat.reduceSub, Nat.reduceBEq, reduceCtorEq, Int.reduceNeg, bs_nil, bs_beq, bs_size, bs_append, zS, hil, Int.natCast_nonneg, hrow, h]) | (refine pb_split (fun h => ?_) (fun h => ?_) <;> simp only [zS, hX.T, hX.nt, reduceIte, Nat.reduceEqDiff, Nat.reduceLT, Nat.reduceLeDiff, Nat.reduceAdd, Nat.reduceSub, Nat.reduceBEq, reduceCtorEq, Int.reduceNeg, bs_nil, bs_beq, bs_size, bs_append, zS, hil, Int.natCast_nonneg, hrow, h]) | (refine hX.gos (by rfl) ?_; simp only [zS, hX.T, hX.nt, reduceIte, Nat.reduceEqDiff, Nat.reduceLT, Nat.reduceLeDiff, Nat.reduceAdd, Nat.reduceSub, Nat.reduceBEq, reduceCtorEq, Int.reduceNeg, bs_nil, bs_beq, bs_size, bs_append, zS, hil, Int.natCast_nonneg, hrow])
      all_goals first
        | (refine ih (i + 1) id _ ⟨hlt, ?_⟩ (by omega) (.of hX.NL (by simp only [zS, hX.T, hX.nt, reduceIte, Nat.reduceEqDiff, Nat.reduceLT, Nat.reduceLeDiff, Nat.reduceAdd, Nat.reduceSub, Nat.reduceBEq, reduceCtorEq, Int.reduceNeg, bs_nil, bs_beq, bs_size, bs_append, ren, renL, renB, wrap_succ hlt hlen] <;> rfl) (by simp only [zS, hX.T, hX.nt, reduceIte, Nat.reduceEqDiff, Nat.reduceLT, Nat.reduceLeDiff, Nat.reduceAdd, Nat.reduceSub, Nat.reduceBEq, reduceCtorEq, Int.reduceNeg, bs_nil, bs_beq, bs_size, bs_append, ren, renL, renB] <;> rfl) rfl); rw [← hn]; clear hX hR ih hn; simp only [ltF]; grind)
        | (have hf : ltF s.fs[i] = false := by
             clear hX hR ih hn
             simp only [ltF]
             grind
           rw [hf, Bool.false_and] at hn
           rw [← hn] at hX
           (refine hX.ret (by first | exact .inl rfl | exact .inr rfl) ?_; simp only [zR, zS, hX.T, hX.nt, reduceIte, Nat.reduceEqDiff, Nat.reduceLT, Nat.reduceLeDiff, Nat.reduceAdd, Nat.reduceSub, Nat.reduceBEq, reduceCtorEq, Int.reduceNeg] <;> try rfl))
    · have h := of_decide_eq_false h
      rw [all_end (by omega)] at hn
      rw [← hn] at hX
      simp only [zS, hX.T, hX.nt, reduceIte, Nat.reduceEqDiff, Nat.reduceLT, Nat.reduceLeDiff, Nat.reduceAdd, Nat.reduceSub, Nat.reduceBEq, reduceCtorEq, Int.reduceNeg, bs_nil, bs_beq, bs_size, bs_append]
      (refine hX.ret (by first | exact .inl rfl | exact .inr rfl) ?_; simp only [zR, zS, hX.T, hX.nt, reduceIte, Nat.reduceEqDiff, Nat.reduceLT, Nat.reduceLeDiff, Nat.reduceAdd, Nat.reduceSub, Nat.reduceBEq, reduceCtorEq, Int.reduceNeg] <;> try rfl)
theorem p59 (k n : Int) : PureFn Tryd.prog 59 [I k, I n] (.agg (encV ⟨k, n, []⟩)) := by
  (refine PureFn.of_run ty_ok Tryd.func59 (c := Tryd.f59.body.get!) rfl (by decide) Tryd.ntmps59 (res := [.cell 4 43]) Tryd.results59 (Nat.le_of_ble_eq_true rfl) ?_; intro X hX hR; refine vc_ok hX.ok hX.fn 1000 _ _ ?_; simp only [Tryd.f59, Option.get!])
  simp only [zS, hX.T, hX.nt, reduceIte, Nat.reduceEqDiff, Nat.reduceLT, Nat.reduceLeDiff, Nat.reduceAdd, Nat.reduceSub, Nat.reduceBEq, reduceCtorEq, Int.reduceNeg, bs_nil, bs_beq, bs_size, bs_append]
  (refine hX.ret (by first | exact .inl rfl | exact .inr rfl) ?_; simp only [zR, zS, hX.T, hX.nt, reduceIte, Nat.reduceEqDiff, Nat.reduceLT, Nat.reduceLeDiff, Nat.reduceAdd, Nat.reduceSub, Nat.reduceBEq, reduceCtorEq, Int.reduceNeg] <;> try rfl)
end Go.Proofs.YtkbidoikndgheaaDoor.HL

namespace Go.Proofs.YtkbidoikndgheaaDoor.HL
open Go.Proofs
set_option maxRecDepth 100000
set_option maxHeartbeats 4000000
def slA (al : List Alt) : AV := .sl 7 false (al.map encA)
def ltA (a : Alt) : Bool := decide (a.name.length ≤ 100) && decide (a.to.length ≤ 100) && decide (a.d.s.length ≤ 1500)
def ltV (v : Val) : Bool := decide (v.s.length ≤ 1500)
def smallB (l : List Sch) (al : List Alt) (vs : List Val) : Bool := (decide (l.length ≤ 20) && decide (al.length ≤ 20) && decide (vs.length ≤ 30)) && (l.all ltS && (al.all ltA && vs.all ltV))
theorem p16 (l : List Sch) (al : List Alt) (vs : List Val) : PureFn Tryd.prog 16 [slS l, slA al, slV vs] (B (smallB l al vs)) := by
  (refine PureFn.of_run ty_ok Tryd.func16 (c := Tryd.f16.body.get!) rfl (by decide) Tryd.ntmps16 (res := [.tmp 6]) Tryd.results16 (Nat.le_of_ble_eq_true rfl) ?_; intro X hX hR; refine vc_ok hX.ok hX.fn 1000 _ _ ?_; simp only [Tryd.f16, Option.get!])
  by_cases h0 : l.length ≤ 20 ∧ al.length ≤ 20 ∧ vs.length ≤ 30
  · obtain ⟨a1, a2, a3⟩ := h0
    have d1 : decide ((l.length : Int) > 20) = false := by simp only [decide_eq_false_iff_not]; omega
    have d2 : decide ((al.length : Int) > 20) = false := by simp only [decide_eq_false_iff_not]; omega
    have d3 : decide ((vs.length : Int) > 30) = false := by simp only [decide_eq_false_iff_not]; omega
    have hlen1 : l.length ≤ 9223372036854775807 := by omega
    have hlen2 : al.length ≤ 9223372036854775807 := by omega
    have hlen3 : vs.length ≤ 9223372036854775807 := by omega
    rw [smallB, decide_eq_true a1, decide_eq_true a2, decide_eq_true a3, Bool.and_self, Bool.and_self, Bool.true_and] at hX
    simp only [zS, hX.T, hX.nt, reduceIte, Nat.reduceEqDiff, Nat.reduceLT, Nat.reduceLeDiff, Nat.reduceAdd, Nat.reduceSub, Nat.reduceBEq, reduceCtorEq, Int.reduceNeg, bs_nil, bs_beq, bs_size, bs_append, slA, d1, d2, d3]
    refine Run.loop (α := Nat) (fun i => [(0, slS l), (1, slA al), (2, slV vs), (7, I i)]) (fun _ => []) (fun i => i ≤ l.length ∧ (l.drop i).all ltS = l.all ltS) (fun i => l.length - i) 0 id ⟨Nat.zero_le _, rfl⟩ (.of hX.NL (by simp only [zS, hX.T, hX.nt, reduceIte, Nat.reduceEqDiff, Nat.reduceLT, Nat.reduceLeDiff, Nat.reduceAdd, Nat.reduceSub, Nat.reduceBEq, reduceCtorEq, Int.reduceNeg, bs_nil, bs_beq, bs_size, bs_append, ren, renL, renB, slA] <;> rfl) (by simp only [zS, hX.T, hX.nt, reduceIte, Nat.reduceEqDiff, Nat.reduceLT, Nat.reduceLeDiff, Nat.reduceAdd, Nat.reduceSub, Nat.reduceBEq, reduceCtorEq, Int.reduceNeg, bs_nil, bs_beq, bs_size, bs_append, ren, renL, renB] <;> rfl) rfl) ?_
    intro i ⟨hi, hn⟩ ih
    refine hX.go ?_
    simp only [zS, hX.T, hX.nt, reduceIte, Nat.reduceEqDiff, Nat.reduceLT, Nat.reduceLeDiff, Nat.reduceAdd, Nat.reduceSub, Nat.reduceBEq, reduceCtorEq, Int.reduceNeg, bs_nil, bs_beq, bs_size, bs_append, slA]
    refine bc_split (fun h => ?_) (fun h => ?_)
    · have h := of_decide_eq_true h
      have hlt : i < l.length := by omega
      have hrow := row_nat encS l i hlt
      rw [all_step hlt] at hn
      simp only [zS, hX.T, hX.nt, reduceIte, Nat.reduceEqDiff, Nat.reduceLT, Nat.reduceLeDiff, Nat.reduceAdd, Nat.reduceSub, Nat.reduceBEq, reduceCtorEq, Int.reduceNeg, bs_nil, bs_beq, bs_size, bs_append, h, Int.natCast_nonneg, hrow]
      refine hX.pure (p60 l[i]) rfl rfl (by decide) ?_
      simp only [zS, hX.T, hX.nt, reduceIte, Nat.reduceEqDiff, Nat.reduceLT, Nat.reduceLeDiff, Nat.reduceAdd, Nat.reduceSub, Nat.reduceBEq, reduceCtorEq, Int.reduceNeg, bs_nil, bs_beq, bs_size, bs_append]
      refine bc_split (fun h1 => ?_) (fun h1 => ?_)
      · have h1 : ltS l[i] = false := by simpa using h1
        rw [h1, Bool.false_and] at hn
        rw [← hn, Bool.false_and] at hX
        simp only [zS, hX.T, hX.nt, reduceIte, Nat.reduceEqDiff, Nat.reduceLT, Nat.reduceLeDiff, Nat.reduceAdd, Nat.reduceSub, Nat.reduceBEq, reduceCtorEq, Int.reduceNeg, bs_nil, bs_beq, bs_size, bs_append]
        (refine hX.ret (by first | exact .inl rfl | exact .inr rfl) ?_; simp only [zR, zS, hX.T, hX.nt, reduceIte, Nat.reduceEqDiff, Nat.reduceLT, Nat.reduceLeDiff, Nat.reduceAdd, Nat.reduceSub, Nat.reduceBEq, reduceCtorEq, Int.reduceNeg] <;> try rfl)
      · have h1 : ltS l[i] = true := by simpa using h1
        rw [h1, Bool.true_and] at hn
        simp only [zS, hX.T, hX.nt, reduceIte, Nat.reduceEqDiff, Nat.reduceLT, Nat.reduceLeDiff, Nat.reduceAdd, Nat.reduceSub, Nat.reduceBEq, reduceCtorEq, Int.reduceNeg, bs_nil, bs_beq, bs_size, bs_append]
        refine ih (i + 1) id _ ⟨hlt, hn⟩ (by omega) (.of hX.NL (by simp only [zS, hX.T, hX.nt, reduceIte, Nat.reduceEqDiff, Nat.reduceLT, Nat.reduceLeDiff, Nat.reduceAdd, Nat.reduceSub, Nat.reduceBEq, reduceCtorEq, Int.reduceNeg, bs_nil, bs_beq, bs_size, bs_append, ren, renL, renB, slA, wrap_succ hlt hlen1] <;> rfl) (by simp only [zS, hX.T, hX.nt, reduceIte, Nat.reduceEqDiff, Nat.reduceLT, Nat.reduceLeDiff, Nat.reduceAdd, Nat.reduceSub, Nat.reduceBEq, reduceCtorEq, Int.reduceNeg, bs_nil, bs_beq, bs_size, bs_append, ren, renL, renB] <;> rfl) rfl)
    · have h := of_decide_eq_false h
      rw [all_end (by omega)] at hn
      rw [← hn, Bool.true_and] at hX
      clear ih
      simp only [zS, hX.T, hX.nt, reduceIte, Nat.reduceEqDiff, Nat.reduceLT, Nat.reduceLeDiff, Nat.reduceAdd, Nat.reduceSub, Nat.reduceBEq, reduceCtorEq, Int.reduceNeg, bs_nil, bs_beq, bs_size, bs_append]
      refine Run.loop (α := Nat) (fun i => [(1, slA al), (2, slV vs), (9, I i)]) (fun _ => []) (fun i => i ≤ al.length ∧ (al.drop i).all ltA = al.all ltA) (fun i => al.length - i) 0 id ⟨Nat.zero_le _, rfl⟩ (.of hX.NL (by simp only [zS, hX.T, hX.nt, reduceIte, Nat.reduceEqDiff, Nat.reduceLT, Nat.reduceLeDiff, Nat.reduceAdd, Nat.reduceSub, Nat.reduceBEq, reduceCtorEq, Int.reduceNeg, bs_nil, bs_beq, bs_size, bs_append, ren, renL, renB, slA] <;> rfl) (by simp only [zS, hX.T, hX.nt, reduceIte, Nat.reduceEqDiff, Nat.reduceLT, Nat.reduceLeDiff, Nat.reduceAdd, Nat.reduceSub, Nat.reduceBEq, reduceCtorEq, Int.reduceNeg, bs_nil, bs_beq, bs_size, bs_append, ren, renL, renB] <;> rfl) rfl) ?_
      intro i ⟨hi, hn⟩ ih
      refine hX.go ?_
      simp only [zS, hX.T, hX.nt, reduceIte, Nat.reduceEqDiff, Nat.reduceLT, Nat.reduceLeDiff, Nat.reduceAdd, Nat.reduceSub, Nat.reduceBEq, reduceCtorEq, Int.reduceNeg, bs_nil, bs_beq, bs_size, bs_append, slA]
      refine bc_split (fun h => ?_) (fun h => ?_)
      · have hil := of_decide_eq_true h
        have hlt : i < al.length := by omega
        have hrow := row_nat encA al i hlt
        rw [all_step hlt] at hn
        simp only [zS, hX.T, hX.nt, reduceIte, Nat.reduceEqDiff, Nat.reduceLT, Nat.reduceLeDiff, Nat.reduceAdd, Nat.reduceSub, Nat.reduceBEq, reduceCtorEq, Int.reduceNeg, bs_nil, bs_beq, bs_size, bs_append, hil, Int.natCast_nonneg, hrow]
        repeat' first | (refine bc_split (fun h => ?_) (fun h => ?_) <;> simp only [zS, hX.T, hX.nt, reduceIte, Nat.reduceEqDiff, Nat.reduceLT, Nat.reduceLeDiff, Nat.reduceAdd, Nat.reduceSub, Nat.reduceBEq, reduceCtorEq, Int.reduceNeg, bs_nil, bs_beq, bs_size, bs_append, zS, hil, Int.natCast_nonneg, hrow, h]) | (refine bg_split (fun h => ?_) (fun h => ?_) <;> simp only [zS, hX.T, hX.nt, reduceIte, Nat.reduceEqDiff, Nat.reduceLT, Nat.reduceLeDiff, Nat.reduceAdd, Nat.reduceSub, Nat.reduceBEq, reduceCtorEq, Int.reduceNeg, bs_nil, bs_beq, bs_size, bs_append, zS, hil, Int.natCast_nonneg, hrow, h]) | (refine pb_split (fun h => ?_) (fun h => ?_) <;> simp only [zS, hX.T, hX.nt, reduceIte, Nat.reduceEqDiff, Nat.reduceLT, Nat.reduceLeDiff, Nat.reduceAdd, Nat.reduceSub, Nat.reduceBEq, reduceCtorEq, Int.reduceNeg, bs_nil, bs_beq, bs_size, bs_append, zS, hil, Int.natCast_nonneg, hrow, h]) | (refine hX.gos (by rfl) ?_; simp only [zS, hX.T, hX.nt, reduceIte, Nat.reduceEqDiff, Nat.reduceLT, Nat.reduceLeDiff, Nat.reduceAdd, Nat.reduceSub, Nat.reduceBEq, reduceCtorEq, Int.reduceNeg, bs_nil, bs_beq, bs_size, bs_append, zS, hil, Int.natCast_nonneg, hrow])
        all_goals first
          | (refine ih (i + 1) id _ ⟨hlt, ?_⟩ (by omega) (.of hX.NL (by simp only [zS, hX.T, hX.nt, reduceIte, Nat.reduceEqDiff, Nat.reduceLT, Nat.reduceLeDiff, Nat.reduceAdd, Nat.reduceSub, Nat.reduceBEq, reduceCtorEq, Int.reduceNeg, bs_nil, bs_beq, bs_size, bs_append, ren, renL, renB, slA, wrap_succ hlt hlen2] <;> rfl) (by simp only [zS, hX.T, hX.nt, reduceIte, Nat.reduceEqDiff, Nat.reduceLT, Nat.reduceLeDiff, Nat.reduceAdd, Nat.reduceSub, Nat.reduceBEq, reduceCtorEq, Int.reduceNeg, bs_nil, bs_beq, bs_size, bs_append, ren, renL, renB] <;> rfl) rfl); rw [← hn]; clear hX hR ih hn; simp only [ltA]; grind)
          | (have hf : ltA al[i] = false := by
               clear hX hR ih hn
               simp only [ltA]
               grind
             rw [hf, Bool.false_and] at hn
             rw [← hn, Bool.false_and] at hX
             (refine hX.ret (by first | exact .inl rfl | exact .inr rfl) ?_; simp only [zR, zS, hX.T, hX.nt, reduceIte, Nat.reduceEqDiff, Nat.reduceLT, Nat.reduceLeDiff, Nat.reduceAdd, Nat.reduceSub, Nat.reduceBEq, reduceCtorEq, Int.reduceNeg] <;> try rfl))
      · have h := of_decide_eq_false h
        rw [all_end (by omega)] at hn
        rw [← hn, Bool.true_and] at hX
        clear ih
        simp only [zS, hX.T, hX.nt, reduceIte, Nat.reduceEqDiff, Nat.reduceLT, Nat.reduceLeDiff, Nat.reduceAdd, Nat.reduceSub, Nat.reduceBEq, reduceCtorEq, Int.reduceNeg, bs_nil, bs_beq, bs_size, bs_append]
        refine Run.loop (α := Nat) (fun i => [(2, slV vs), (10, I i)]) (fun _ => []) (fun i => i ≤ vs.length ∧ (vs.drop i).all ltV = vs.all ltV) (fun i => vs.length - i) 0 id ⟨Nat.zero_le _, rfl⟩ (.of hX.NL (by simp only [zS, hX.T, hX.nt, reduceIte, Nat.reduceEqDiff, Nat.reduceLT, Nat.reduceLeDiff, Nat.reduceAdd, Nat.reduceSub, Nat.reduceBEq, reduceCtorEq, Int.reduceNeg, bs_nil, bs_beq, bs_size, bs_append, ren, renL, renB] <;> rfl) (by simp only [zS, hX.T, hX.nt, reduceIte, Nat.reduceEqDiff, Nat.reduceLT, Nat.reduceLeDiff, Nat.reduceAdd, Nat.reduceSub, Nat.reduceBEq, reduceCtorEq, Int.reduceNeg, bs_nil, bs_beq, bs_size, bs_append, ren, renL, renB] <;> rfl) rfl) ?_
        intro i ⟨hi, hn⟩ ih
        refine hX.go ?_
        simp only [zS, hX.T, hX.nt, reduceIte, Nat.reduceEqDiff, Nat.reduceLT, Nat.reduceLeDiff, Nat.reduceAdd, Nat.reduceSub, Nat.reduceBEq, reduceCtorEq, Int.reduceNeg, bs_nil, bs_beq, bs_size, bs_append]
        refine bc_split (fun h => ?_) (fun h => ?_)
        · have hil := of_decide_eq_true h
          have hlt : i < vs.length := by omega
          have hrow := row_nat encV vs i hlt
          rw [all_step hlt] at hn
          simp only [zS, hX.T, hX.nt, reduceIte, Nat.reduceEqDiff, Nat.reduceLT, Nat.reduceLeDiff, Nat.reduceAdd, Nat.reduceSub, Nat.reduceBEq, reduceCtorEq, Int.reduceNeg, bs_nil, bs_beq, bs_size, bs_append, hil, Int.natCast_nonneg, hrow]
          repeat' first | (refine bc_split (fun h => ?_) (fun h => ?_) <;> simp only [zS, hX.T, hX.nt, reduceIte, Nat.reduceEqDiff, Nat.reduceLT, Nat.reduceLeDiff, Nat.reduceAdd, Nat.reduceSub, Nat.reduceBEq, reduceCtorEq, Int.reduceNeg, bs_nil, bs_beq, bs_size, bs_append, zS, hil, Int.natCast_nonneg, hrow, h]) | (refine bg_split (fun h => ?_) (fun h => ?_) <;> simp only [zS, hX.T, hX.nt, reduceIte, Nat.reduceEqDiff, Nat.reduceLT, Nat.reduceLeDiff, Nat.reduceAdd, Nat.reduceSub, Nat.reduceBEq, reduceCtorEq, Int.reduceNeg, bs_nil, bs_beq, bs_size, bs_append, zS, hil, Int.natCast_nonneg, hrow, h]) | (refine pb_split (fun h => ?_) (fun h => ?_) <;> simp only [zS, hX.T, hX.nt, reduceIte, Nat.reduceEqDiff, Nat.reduceLT, Nat.reduceLeDiff, Nat.reduceAdd, Nat.reduceSub, Nat.reduceBEq, reduceCtorEq, Int.reduceNeg, bs_nil, bs_beq, bs_size, bs_append, zS, hil, Int.natCast_nonneg, hrow, h]) | (refine hX.gos (by rfl) ?_; simp only [zS, hX.T, hX.nt, reduceIte, Nat.reduceEqDiff, Nat.reduceLT, Nat.reduceLeDiff, Nat.reduceAdd, Nat.reduceSub, Nat.reduceBEq, reduceCtorEq, Int.reduceNeg, bs_nil, bs_beq, bs_size, bs_append, zS, hil, Int.natCast_nonneg, hrow])
          all_goals first
            | (refine ih (i + 1) id _ ⟨hlt, ?_⟩ (by omega) (.of hX.NL (by simp only [zS, hX.T, hX.nt, reduceIte, Nat.reduceEqDiff, Nat.reduceLT, Nat.reduceLeDiff, Nat.reduceAdd, Nat.reduceSub, Nat.reduceBEq, reduceCtorEq, Int.reduceNeg, bs_nil, bs_beq, bs_size, bs_append, ren, renL, renB, wrap_succ hlt hlen3] <;> rfl) (by simp only [zS, hX.T, hX.nt, reduceIte, Nat.reduceEqDiff, Nat.reduceLT, Nat.reduceLeDiff, Nat.reduceAdd, Nat.reduceSub, Nat.reduceBEq, reduceCtorEq, Int.reduceNeg, bs_nil, bs_beq, bs_size, bs_append, ren, renL, renB] <;> rfl) rfl); rw [← hn]; clear hX hR ih hn; simp only [ltV]; grind)
            | (have hf : ltV vs[i] = false := by
                 clear hX hR ih hn
                 simp only [ltV]
                 grind
               rw [hf, Bool.false_and] at hn
               rw [← hn] at hX
               (refine hX.ret (by first | exact .inl rfl | exact .inr rfl) ?_; simp only [zR, zS, hX.T, hX.nt, reduceIte, Nat.reduceEqDiff, Nat.reduceLT, Nat.reduceLeDiff, Nat.reduceAdd, Nat.reduceSub, Nat.reduceBEq, reduceCtorEq, Int.reduceNeg] <;> try rfl))
        · have h := of_decide_eq_false h
          rw [all_end (by omega)] at hn
          rw [← hn] at hX
          simp only [zS, hX.T, hX.nt, reduceIte, Nat.reduceEqDiff, Nat.reduceLT, Nat.reduceLeDiff, Nat.reduceAdd, Nat.reduceSub, Nat.reduceBEq, reduceCtorEq, Int.reduceNeg, bs_nil, bs_beq, bs_size, bs_append]
          (refine hX.ret (by first | exact .inl rfl | exact .inr rfl) ?_; simp only [zR, zS, hX.T, hX.nt, reduceIte, Nat.reduceEqDiff, Nat.reduceLT, Nat.reduceLeDiff, Nat.reduceAdd, Nat.reduceSub, Nat.reduceBEq, reduceCtorEq, Int.reduceNeg] <;> try rfl)
  · have hf : smallB l al vs = false := by
      simp only [smallB, Bool.and_eq_false_iff, decide_eq_false_iff_not]
      omega
    rw [hf] at hX
    simp only [zS, hX.T, hX.nt, reduceIte, Nat.reduceEqDiff, Nat.reduceLT, Nat.reduceLeDiff, Nat.reduceAdd, Nat.reduceSub, Nat.reduceBEq, reduceCtorEq, Int.reduceNeg, bs_nil, bs_beq, bs_size, bs_append, slA]
    repeat' first | (refine bc_split (fun h => ?_) (fun h => ?_) <;> simp only [zS, hX.T, hX.nt, reduceIte, Nat.reduceEqDiff, Nat.reduceLT, Nat.reduceLeDiff, Nat.reduceAdd, Nat.reduceSub, Nat.reduceBEq, reduceCtorEq, Int.reduceNeg, bs_nil, bs_beq, bs_size, bs_append, zS, slA, h]) | (refine bg_split (fun h => ?_) (fun h => ?_) <;> simp only [zS, hX.T, hX.nt, reduceIte, Nat.reduceEqDiff, Nat.reduceLT, Nat.reduceLeDiff, Nat.reduceAdd, Nat.reduceSub, Nat.reduceBEq, reduceCtorEq, Int.reduceNeg, bs_nil, bs_beq, bs_size, bs_append, zS, slA, h]) | (refine pb_split (fun h => ?_) (fun h => ?_) <;> simp only [zS, hX.T, hX.nt, reduceIte, Nat.reduceEqDiff, Nat.reduceLT, Nat.reduceLeDiff, Nat.reduceAdd, Nat.reduceSub, Nat.reduceBEq, reduceCtorEq, Int.reduceNeg, bs_nil, bs_beq, bs_size, bs_append, zS, slA, h]) | (refine hX.gos (by rfl) ?_; simp only [zS, hX.T, hX.nt, reduceIte, Nat.reduceEqDiff, Nat.reduceLT, Nat.reduceLeDiff, Nat.reduceAdd, Nat.reduceSub, Nat.reduceBEq, reduceCtorEq, Int.reduceNeg, bs_nil, bs_beq, bs_size, bs_append, zS, slA])
    all_goals first
      | (exfalso; clear hX hR; simp at *; omega)
      | ((refine hX.ret (by first | exact .inl rfl | exact .inr rfl) ?_; simp only [zR, zS, hX.T, hX.nt, reduceIte, Nat.reduceEqDiff, Nat.reduceLT, Nat.reduceLeDiff, Nat.reduceAdd, Nat.reduceSub, Nat.reduceBEq, reduceCtorEq, Int.reduceNeg] <;> try rfl); done)
def thF : Sch × Int := newA [⟨0, 2, [97], ⟨2, 0, []⟩⟩]
def th1 : Sch := ⟨1, 2, [⟨1, 2, [97], ⟨2, 0, []⟩⟩]⟩
def th2 : Sch := ⟨2, 2, [⟨1, 4, [97], ⟨4, 0, []⟩⟩]⟩
def th3 : Sch := ⟨3, 3, [⟨1, 4, [97], ⟨4, 0, []⟩⟩, ⟨2, 1, [98], ⟨1, 1, []⟩⟩]⟩
def alX : Alt := ⟨4, [97], [], 4, ⟨0, 0, []⟩⟩
def alY : Alt := ⟨1, [98], [], 1, ⟨1, 1, []⟩⟩
theorem th_new : newA [⟨0, 2, [97], ⟨2, 0, []⟩⟩] = (th1, 0) := by decide +kernel
theorem th_ex1 : extendC [th1] alX = ([th1, th2], 0) := by decide +kernel
theorem th_ex2 : extendC [th1, th2] alY = ([th1, th2, th3], 0) := by decide +kernel
theorem p58 : PureFn Tryd.prog 58 [] (.tup [slS [th1, th2, th3], B true]) := by
  have q1 := p65 [⟨0, 2, [97], ⟨2, 0, []⟩⟩] (by simp [smT])
  rw [th_new] at q1
  have q2 := p23 [th1] alX
  rw [th_ex1] at q2
  have q3 := p23 [th1, th2] alY
  rw [th_ex2] at q3
  have q1' := q1.le (args' := [.sl 6 true [encF ⟨0, 2, [97], ⟨2, 0, []⟩⟩]]) (.cons .notx (.refl _)) (.refl _)
  have q2' := q2.le (args' := [.sl 3 true [encS th1], .agg (encA alX)]) (.cons .notx (.refl _)) (.refl _)
  (refine PureFn.of_run ty_ok Tryd.func58 (c := Tryd.f58.body.get!) rfl (by decide) Tryd.ntmps58 (res := [.tmp 0, .tmp 1]) Tryd.results58 (Nat.le_of_ble_eq_true rfl) ?_; intro X hX hR; refine vc_ok hX.ok hX.fn 1000 _ _ ?_; simp only [Tryd.f58, Option.get!])
  simp only [zS, hX.T, hX.nt, reduceIte, Nat.reduceEqDiff, Nat.reduceLT, Nat.reduceLeDiff, Nat.reduceAdd, Nat.reduceSub, Nat.reduceBEq, reduceCtorEq, Int.reduceNeg, bs_nil, bs_beq, bs_size, bs_append]
  refine hX.pure (p59 2 0) rfl rfl (by decide) ?_
  simp only [zS, hX.T, hX.nt, reduceIte, Nat.reduceEqDiff, Nat.reduceLT, Nat.reduceLeDiff, Nat.reduceAdd, Nat.reduceSub, Nat.reduceBEq, reduceCtorEq, Int.reduceNeg, bs_nil, bs_beq, bs_size, bs_append]
  refine hX.pure q1' rfl rfl (by decide) ?_
  simp only [zS, hX.T, hX.nt, reduceIte, Nat.reduceEqDiff, Nat.reduceLT, Nat.reduceLeDiff, Nat.reduceAdd, Nat.reduceSub, Nat.reduceBEq, reduceCtorEq, Int.reduceNeg, bs_nil, bs_beq, bs_size, bs_append]
  refine hX.pure q2' rfl rfl (by decide) ?_
  simp only [zS, hX.T, hX.nt, reduceIte, Nat.reduceEqDiff, Nat.reduceLT, Nat.reduceLeDiff, Nat.reduceAdd, Nat.reduceSub, Nat.reduceBEq, reduceCtorEq, Int.reduceNeg, bs_nil, bs_beq, bs_size, bs_append]
  refine hX.pure (p59 1 1) rfl rfl (by decide) ?_
  simp only [zS, hX.T, hX.nt, reduceIte, Nat.reduceEqDiff, Nat.reduceLT, Nat.reduceLeDiff, Nat.reduceAdd, Nat.reduceSub, Nat.reduceBEq, reduceCtorEq, Int.reduceNeg, bs_nil, bs_beq, bs_size, bs_append]
  refine hX.pure q3 rfl rfl (by decide) ?_
  simp only [zS, hX.T, hX.nt, reduceIte, Nat.reduceEqDiff, Nat.reduceLT, Nat.reduceLeDiff, Nat.reduceAdd, Nat.reduceSub, Nat.reduceBEq, reduceCtorEq, Int.reduceNeg, bs_nil, bs_beq, bs_size, bs_append, wr0, wr1, wr2, wr3, wr4, wr5, wr6, wr7, wr8, wr9, wr10, wr11, wr12, Int.reduceBNe, Int.reduceGE, Int.reduceGT, Int.reduceBEq, Int.reduceLT, Int.reduceLE, Int.reduceEq, Int.reduceAdd, Int.reduceSub, decide_true, decide_false]
  (refine hX.ret (by first | exact .inl rfl | exact .inr rfl) ?_; simp only [zR, zS, hX.T, hX.nt, reduceIte, Nat.reduceEqDiff, Nat.reduceLT, Nat.reduceLeDiff, Nat.reduceAdd, Nat.reduceSub, Nat.reduceBEq, reduceCtorEq, Int.reduceNeg, th1, th2, th3] <;> try rfl)
end Go.Proofs.YtkbidoikndgheaaDoor.HL

namespace Go.Proofs.YtkbidoikndgheaaDoor.HL
open Go.Proofs
set_option maxRecDepth 100000
set_option maxHeartbeats 4000000
def rwA : Rw := ⟨1, [⟨2, 5, []⟩]⟩
def rwB : Rw := ⟨3, [⟨4, 5, []⟩, ⟨1, 1, []⟩]⟩
def thL : List Sch := [th1, th2, th3]
def thM : List Sch := [th1, th3]
def encX (r : Rw) : List AV := [I r.ver, .sl 3 true (r.vs.map encV)]
theorem le_x (r : Rw) : Le (.agg (encX r)) (.agg (encR r)) := .agg (.cons (.refl _) (.cons .notx (.refl _)))
theorem p17x (l : List Sch) (r : Rw) (to : Int) {x : Rw × Int} (h : resolveC l r to = x) : PureFn Tryd.prog 17 [slS l, .agg (encX r), I to] (.tup [.agg (encR x.1), I x.2]) := by
  have q := p17 l r to
  rw [h] at q
  exact q.le (.cons (.refl _) (.cons (le_x r) (.refl _))) (.refl _)
theorem p32x (l : List Sch) (v : Int) {x : List Sch × Int} (h : retireC l v = x) : PureFn Tryd.prog 32 [slS l, I v] (.tup [slS x.1, I x.2]) := by
  have q := p32 l v
  rw [h] at q
  exact q
theorem p19x (r q : Rw) (h : r = q) : PureFn Tryd.prog 19 [.agg (encR r), .agg (encX q)] (B true) := by
  have p := p19 r q
  rw [decide_eq_true h] at p
  exact p.le (.cons (.refl _) (.cons (le_x q) (.refl _))) (.refl _)
theorem p15 : PureFn Tryd.prog 15 [] (B true) := by
  have q1 := p17x thL rwA 3 (x := (rwB, 0)) (by decide +kernel)
  have q2 := p17x thL rwA 1 (x := (rwA, 0)) (by decide +kernel)
  have q3 := p17x thL rwB 1 (x := (rw0, 14)) (by decide +kernel)
  have q4 := p32x thL 2 (x := (thM, 0)) (by decide +kernel)
  have q5 := p17x thM rwA 3 (x := (rwB, 0)) (by decide +kernel)
  have q6 := p17x thM rwA 2 (x := (rw0, 19)) (by decide +kernel)
  have q7 := p32x thM 3 (x := ([], 14)) (by decide +kernel)
  (refine PureFn.of_run ty_ok Tryd.func15 (c := Tryd.f15.body.get!) rfl (by decide) Tryd.ntmps15 (res := [.tmp 0]) Tryd.results15 (Nat.le_of_ble_eq_true rfl) ?_; intro X hX hR; refine vc_ok hX.ok hX.fn 1000 _ _ ?_; simp only [Tryd.f15, Option.get!])
  simp only [zS, hX.T, hX.nt, reduceIte, Nat.reduceEqDiff, Nat.reduceLT, Nat.reduceLeDiff, Nat.reduceAdd, Nat.reduceSub, Nat.reduceBEq, reduceCtorEq, Int.reduceNeg, bs_nil, bs_beq, bs_size, bs_append]
  refine hX.pure p58 rfl rfl (by decide) ?_
  simp only [zS, hX.T, hX.nt, reduceIte, Nat.reduceEqDiff, Nat.reduceLT, Nat.reduceLeDiff, Nat.reduceAdd, Nat.reduceSub, Nat.reduceBEq, reduceCtorEq, Int.reduceNeg, bs_nil, bs_beq, bs_size, bs_append]
  refine hX.pure (p59 2 5) rfl rfl (by decide) ?_
  simp only [zS, hX.T, hX.nt, reduceIte, Nat.reduceEqDiff, Nat.reduceLT, Nat.reduceLeDiff, Nat.reduceAdd, Nat.reduceSub, Nat.reduceBEq, reduceCtorEq, Int.reduceNeg, bs_nil, bs_beq, bs_size, bs_append]
  refine hX.pure (p59 4 5) rfl rfl (by decide) ?_
  simp only [zS, hX.T, hX.nt, reduceIte, Nat.reduceEqDiff, Nat.reduceLT, Nat.reduceLeDiff, Nat.reduceAdd, Nat.reduceSub, Nat.reduceBEq, reduceCtorEq, Int.reduceNeg, bs_nil, bs_beq, bs_size, bs_append]
  refine hX.pure (p59 1 1) rfl rfl (by decide) ?_
  simp only [zS, hX.T, hX.nt, reduceIte, Nat.reduceEqDiff, Nat.reduceLT, Nat.reduceLeDiff, Nat.reduceAdd, Nat.reduceSub, Nat.reduceBEq, reduceCtorEq, Int.reduceNeg, bs_nil, bs_beq, bs_size, bs_append]
  refine hX.pure q1 rfl rfl (by decide) ?_
  simp only [zS, hX.T, hX.nt, reduceIte, Nat.reduceEqDiff, Nat.reduceLT, Nat.reduceLeDiff, Nat.reduceAdd, Nat.reduceSub, Nat.reduceBEq, reduceCtorEq, Int.reduceNeg, bs_nil, bs_beq, bs_size, bs_append]
  refine hX.pure q2 rfl rfl (by decide) ?_
  simp only [zS, hX.T, hX.nt, reduceIte, Nat.reduceEqDiff, Nat.reduceLT, Nat.reduceLeDiff, Nat.reduceAdd, Nat.reduceSub, Nat.reduceBEq, reduceCtorEq, Int.reduceNeg, bs_nil, bs_beq, bs_size, bs_append]
  refine hX.pure q3 rfl rfl (by decide) ?_
  simp only [zS, hX.T, hX.nt, reduceIte, Nat.reduceEqDiff, Nat.reduceLT, Nat.reduceLeDiff, Nat.reduceAdd, Nat.reduceSub, Nat.reduceBEq, reduceCtorEq, Int.reduceNeg, bs_nil, bs_beq, bs_size, bs_append]
  refine hX.pure q4 rfl rfl (by decide) ?_
  simp only [zS, hX.T, hX.nt, reduceIte, Nat.reduceEqDiff, Nat.reduceLT, Nat.reduceLeDiff, Nat.reduceAdd, Nat.reduceSub, Nat.reduceBEq, reduceCtorEq, Int.reduceNeg, bs_nil, bs_beq, bs_size, bs_append]
  refine hX.pure q5 rfl rfl (by decide) ?_
  simp only [zS, hX.T, hX.nt, reduceIte, Nat.reduceEqDiff, Nat.reduceLT, Nat.reduceLeDiff, Nat.reduceAdd, Nat.reduceSub, Nat.reduceBEq, reduceCtorEq, Int.reduceNeg, bs_nil, bs_beq, bs_size, bs_append]
  refine hX.pure q6 rfl rfl (by decide) ?_
  simp only [zS, hX.T, hX.nt, reduceIte, Nat.reduceEqDiff, Nat.reduceLT, Nat.reduceLeDiff, Nat.reduceAdd, Nat.reduceSub, Nat.reduceBEq, reduceCtorEq, Int.reduceNeg, bs_nil, bs_beq, bs_size, bs_append]
  refine hX.pure q7 rfl rfl (by decide) ?_
  simp only [zS, hX.T, hX.nt, reduceIte, Nat.reduceEqDiff, Nat.reduceLT, Nat.reduceLeDiff, Nat.reduceAdd, Nat.reduceSub, Nat.reduceBEq, reduceCtorEq, Int.reduceNeg, bs_nil, bs_beq, bs_size, bs_append]
  refine hX.pure (p19x rwB rwB rfl) rfl rfl (by decide) ?_
  simp only [zS, hX.T, hX.nt, reduceIte, Nat.reduceEqDiff, Nat.reduceLT, Nat.reduceLeDiff, Nat.reduceAdd, Nat.reduceSub, Nat.reduceBEq, reduceCtorEq, Int.reduceNeg, bs_nil, bs_beq, bs_size, bs_append, wr0, wr1, wr2, wr3, wr4, wr5, wr6, wr7, wr8, wr9, wr10, wr11, wr12, Int.reduceBNe, Int.reduceGE, Int.reduceGT, Int.reduceBEq, Int.reduceLT, Int.reduceLE, Int.reduceEq, Int.reduceAdd, Int.reduceSub, decide_true, decide_false]
  refine hX.pure (p19x rwA rwA rfl) rfl rfl (by decide) ?_
  simp only [zS, hX.T, hX.nt, reduceIte, Nat.reduceEqDiff, Nat.reduceLT, Nat.reduceLeDiff, Nat.reduceAdd, Nat.reduceSub, Nat.reduceBEq, reduceCtorEq, Int.reduceNeg, bs_nil, bs_beq, bs_size, bs_append, wr0, wr1, wr2, wr3, wr4, wr5, wr6, wr7, wr8, wr9, wr10, wr11, wr12, Int.reduceBNe, Int.reduceGE, Int.reduceGT, Int.reduceBEq, Int.reduceLT, Int.reduceLE, Int.reduceEq, Int.reduceAdd, Int.reduceSub, decide_true, decide_false]
  refine hX.pure (p19x rwB rwB rfl) rfl rfl (by decide) ?_
  simp only [zS, hX.T, hX.nt, reduceIte, Nat.reduceEqDiff, Nat.reduceLT, Nat.reduceLeDiff, Nat.reduceAdd, Nat.reduceSub, Nat.reduceBEq, reduceCtorEq, Int.reduceNeg, bs_nil, bs_beq, bs_size, bs_append, wr0, wr1, wr2, wr3, wr4, wr5, wr6, wr7, wr8, wr9, wr10, wr11, wr12, Int.reduceBNe, Int.reduceGE, Int.reduceGT, Int.reduceBEq, Int.reduceLT, Int.reduceLE, Int.reduceEq, Int.reduceAdd, Int.reduceSub, decide_true, decide_false]
  (refine hX.ret (by first | exact .inl rfl | exact .inr rfl) ?_; simp only [zR, zS, hX.T, hX.nt, reduceIte, Nat.reduceEqDiff, Nat.reduceLT, Nat.reduceLeDiff, Nat.reduceAdd, Nat.reduceSub, Nat.reduceBEq, reduceCtorEq, Int.reduceNeg] <;> try rfl)
theorem p3 (l : List Sch) (r : Rw) (to : Int) : LawFn Tryd.prog 3 [slS l, .agg (encR r), I to] (B true) := by
  have qs := (p16 l [] r.vs).le (args' := [slS l, .v (.slice none 0 0), slV r.vs]) (.cons (.refl _) (.cons (.nil 7 false) (.refl _))) (.refl _)
  (refine LawFn.of_run ty_ok Tryd.func3 (c := Tryd.f3.body.get!) rfl (by decide) Tryd.ntmps3 (res := [.tmp 6]) Tryd.results3 (Nat.le_of_ble_eq_true rfl) ?_; intro X hX hR; refine vc_ok hX.ok hX.fn 1000 _ _ ?_; simp only [Tryd.f3, Option.get!])
  simp only [zS, hX.T, hX.nt, reduceIte, Nat.reduceEqDiff, Nat.reduceLT, Nat.reduceLeDiff, Nat.reduceAdd, Nat.reduceSub, Nat.reduceBEq, reduceCtorEq, Int.reduceNeg, bs_nil, bs_beq, bs_size, bs_append]
  refine hX.pure p15 rfl rfl (by decide) ?_
  simp only [zS, hX.T, hX.nt, reduceIte, Nat.reduceEqDiff, Nat.reduceLT, Nat.reduceLeDiff, Nat.reduceAdd, Nat.reduceSub, Nat.reduceBEq, reduceCtorEq, Int.reduceNeg, bs_nil, bs_beq, bs_size, bs_append]
  refine hX.pure qs rfl rfl (by decide) ?_
  simp only [zS, hX.T, hX.nt, reduceIte, Nat.reduceEqDiff, Nat.reduceLT, Nat.reduceLeDiff, Nat.reduceAdd, Nat.reduceSub, Nat.reduceBEq, reduceCtorEq, Int.reduceNeg, bs_nil, bs_beq, bs_size, bs_append]
  cases hs : smallB l [] r.vs
  · simp only [zS, hX.T, hX.nt, reduceIte, Nat.reduceEqDiff, Nat.reduceLT, Nat.reduceLeDiff, Nat.reduceAdd, Nat.reduceSub, Nat.reduceBEq, reduceCtorEq, Int.reduceNeg, bs_nil, bs_beq, bs_size, bs_append]
    (refine hX.ret (by first | exact .inl rfl | exact .inr rfl) ?_; simp only [zR, zS, hX.T, hX.nt, reduceIte, Nat.reduceEqDiff, Nat.reduceLT, Nat.reduceLeDiff, Nat.reduceAdd, Nat.reduceSub, Nat.reduceBEq, reduceCtorEq, Int.reduceNeg] <;> try rfl)
  · have hc : smC l := by
      simp only [smallB, Bool.and_eq_true, List.all_eq_true] at hs
      intro s hsl f hf
      have := hs.2.1 s hsl
      simp only [ltS, Bool.and_eq_true, List.all_eq_true, decide_eq_true_eq] at this
      have := this.2 f hf
      simp only [ltF, Bool.and_eq_true, decide_eq_true_eq] at this
      rw [smT]
      omega
    have q := p19 (resolveC l r to).1 (resolveC l r to).1
    rw [decide_eq_true rfl] at q
    simp only [zS, hX.T, hX.nt, reduceIte, Nat.reduceEqDiff, Nat.reduceLT, Nat.reduceLeDiff, Nat.reduceAdd, Nat.reduceSub, Nat.reduceBEq, reduceCtorEq, Int.reduceNeg, bs_nil, bs_beq, bs_size, bs_append]
    refine hX.pure (p17 l r to) rfl rfl (by decide) ?_
    simp only [zS, hX.T, hX.nt, reduceIte, Nat.reduceEqDiff, Nat.reduceLT, Nat.reduceLeDiff, Nat.reduceAdd, Nat.reduceSub, Nat.reduceBEq, reduceCtorEq, Int.reduceNeg, bs_nil, bs_beq, bs_size, bs_append]
    refine hX.pure (p18 l r to hc) rfl rfl (by decide) ?_
    simp only [zS, hX.T, hX.nt, reduceIte, Nat.reduceEqDiff, Nat.reduceLT, Nat.reduceLeDiff, Nat.reduceAdd, Nat.reduceSub, Nat.reduceBEq, reduceCtorEq, Int.reduceNeg, bs_nil, bs_beq, bs_size, bs_append]
    refine hX.pure q rfl rfl (by decide) ?_
    simp only [zS, hX.T, hX.nt, reduceIte, Nat.reduceEqDiff, Nat.reduceLT, Nat.reduceLeDiff, Nat.reduceAdd, Nat.reduceSub, Nat.reduceBEq, reduceCtorEq, Int.reduceNeg, bs_nil, bs_beq, bs_size, bs_append, beq_self_eq_true]
    (refine hX.ret (by first | exact .inl rfl | exact .inr rfl) ?_; simp only [zR, zS, hX.T, hX.nt, reduceIte, Nat.reduceEqDiff, Nat.reduceLT, Nat.reduceLeDiff, Nat.reduceAdd, Nat.reduceSub, Nat.reduceBEq, reduceCtorEq, Int.reduceNeg, beq_self_eq_true] <;> try rfl)
end Go.Proofs.YtkbidoikndgheaaDoor.HL

