/- Contracts of schema and of the checks of alter. -/
import Derived.Test.YtkbidoikndgheaaDoorH5
set_option linter.unusedVariables false
set_option linter.unusedSimpArgs false
namespace Go.Proofs.YtkbidoikndgheaaDoor.HL
open Go.Proofs
set_option maxRecDepth 100000
set_option maxHeartbeats 4000000
abbrev U8 (c : UInt8) : AV := .v (.int .u8 ((c.toNat : Nat) : Int))
def fstI (s : ByteArray) (c : UInt8) : Int := firstIdx s c
theorem p125 (s : ByteArray) (c : UInt8) : PureFn Tryd.prog 125 [Str s, U8 c] (I (fstI s c)) := by
  refine PureFn.of_run ty_ok Tryd.func125 (c := Tryd.f125.body.get!) rfl (by decide) Tryd.ntmps125 (res := [.tmp 4]) Tryd.results125 (Nat.le_of_ble_eq_true rfl) ?_
  intro X hX hR
  refine vc_ok hX.ok hX.fn 8 _ _ ?_
  simp only [Tryd.f125, Option.get!]
  simp only [zS, hX.T, hX.nt, reduceIte, Nat.reduceEqDiff, Nat.reduceLT, Nat.reduceLeDiff, Nat.reduceAdd, Nat.reduceSub, Nat.reduceBEq, reduceCtorEq, Int.reduceNeg, bs_nil, bs_beq, bs_size, bs_append]
  refine RunOps.ext (d := 7) (r := I (fstI s c)) rfl rfl rfl (by rw [hX.nt]; decide) (by rw [hX.P]; exact Tryd.func147) (by kernel_rfl) (by kernel_rfl) (by kernel_rfl) (e := Extern.BytealgIndexByte.indexByte) (by kernel_rfl) ?_ ?_
  · intro γ F w vs hv
    have hv : VL γ F w [Str s, U8 c] vs := hv
    obtain ⟨v1, _, rfl, h1, v2, _, rfl, h2, h3⟩ := hv
    have h3 : _ = [] := h3
    subst h3
    have h1 : v1 = .string s := h1
    have h2 : v2 = .int .u8 ((c.toNat : Nat) : Int) := h2
    subst h1 h2
    refine ⟨.int .i64 (fstI s c), ?_, rfl⟩
    have := run_indexByte_string (P := X.P) s ((c.toNat : Nat) : Int) w
    rw [Int.toNat_natCast] at this
    have e2 : c.toNat.toUInt8 = c := by simp
    rw [e2] at this
    exact this
  · refine vo_ok hX.ok hX.fn 1000 _ _ _ _ ?_
    simp only [zS, hX.T, hX.nt, reduceIte, Nat.reduceEqDiff, Nat.reduceLT, Nat.reduceLeDiff, Nat.reduceAdd, Nat.reduceSub, Nat.reduceBEq, reduceCtorEq, Int.reduceNeg, bs_nil, bs_beq, bs_size, bs_append]
    (refine hX.ret (by first | exact .inl rfl | exact .inr rfl) ?_; simp only [zR, zS, hX.T, hX.nt, reduceIte, Nat.reduceEqDiff, Nat.reduceLT, Nat.reduceLeDiff, Nat.reduceAdd, Nat.reduceSub, Nat.reduceBEq, reduceCtorEq, Int.reduceNeg] <;> try rfl)
end Go.Proofs.YtkbidoikndgheaaDoor.HL

namespace Go.Proofs.YtkbidoikndgheaaDoor.HL
open Go.Proofs
set_option maxRecDepth 100000
set_option maxHeartbeats 4000000
theorem p90 (s : ByteArray) (c : UInt8) : PureFn Tryd.prog 90 [Str s, U8 c] (I (fstI s c)) := by
  (refine PureFn.of_run ty_ok Tryd.func90 (c := Tryd.f90.body.get!) rfl (by decide) Tryd.ntmps90 (res := [.tmp 4]) Tryd.results90 (Nat.le_of_ble_eq_true rfl) ?_; intro X hX hR; refine vc_ok hX.ok hX.fn 1000 _ _ ?_; simp only [Tryd.f90, Option.get!])
  simp only [zS, hX.T, hX.nt, reduceIte, Nat.reduceEqDiff, Nat.reduceLT, Nat.reduceLeDiff, Nat.reduceAdd, Nat.reduceSub, Nat.reduceBEq, reduceCtorEq, Int.reduceNeg, bs_nil, bs_beq, bs_size, bs_append]
  refine hX.pure (p125 s c) rfl rfl (by decide) ?_
  simp only [zS, hX.T, hX.nt, reduceIte, Nat.reduceEqDiff, Nat.reduceLT, Nat.reduceLeDiff, Nat.reduceAdd, Nat.reduceSub, Nat.reduceBEq, reduceCtorEq, Int.reduceNeg, bs_nil, bs_beq, bs_size, bs_append]
  (refine hX.ret (by first | exact .inl rfl | exact .inr rfl) ?_; simp only [zR, zS, hX.T, hX.nt, reduceIte, Nat.reduceEqDiff, Nat.reduceLT, Nat.reduceLeDiff, Nat.reduceAdd, Nat.reduceSub, Nat.reduceBEq, reduceCtorEq, Int.reduceNeg] <;> try rfl)
def setC (p : Nat → Bool) : List AV := (List.range 256).map fun n => B (p n)
theorem setC_len (p : Nat → Bool) : (setC p).length = 256 := by simp [setC]
theorem setC_drop {p : Nat → Bool} {n : Nat} (h : n < 256) : (setC p).drop n = B (p n) :: (setC p).drop (n + 1) := by
  rw [List.drop_eq_getElem_cons (by rw [setC_len]; exact h)]
  simp [setC]
theorem setC_all (p : Nat → Bool) : (setC p).all isCell = true := by
  rw [List.all_eq_true]
  intro x hx
  obtain ⟨n, _, rfl⟩ := List.mem_map.1 hx
  rfl
theorem setC_take (p : Nat → Bool) : (setC p).take 256 = setC p := List.take_of_length_le (by rw [setC_len]; exact Nat.le_refl _)
theorem setC_drop0 (p : Nat → Bool) : (setC p).drop 256 = [] := List.drop_eq_nil_of_le (by rw [setC_len]; exact Nat.le_refl _)
theorem setC_put {p : Nat → Bool} {n : Nat} (h : n < 256) : (setC p).take n ++ [AV.v (.bool true)] ++ (setC p).drop (n + 1) = setC (fun m => p m || n == m) := by
  have e := List.set_eq_take_append_cons_drop (l := setC p) (i := n) (a := B true)
  rw [if_pos (by rw [setC_len]; exact h)] at e
  rw [List.append_assoc, List.cons_append, List.nil_append, ← e]
  apply List.ext_getElem
  · simp [setC]
  · intro i h1 h2
    rw [List.getElem_set]
    simp only [setC, List.getElem_map, List.getElem_range]
    split
    · rename_i e; simp [e]
    · rename_i e; simp [e]
theorem renL_bools {α : Type} {σ : Nat → Nat} (f : α → Bool) : ∀ (l : List α), renL σ (l.map fun n => B (f n)) = l.map fun n => B (f n)
  | [] => rfl
  | x :: l => by rw [List.map_cons, renL, renL_bools f l]; rfl
theorem setC_ren {σ : Nat → Nat} {p : Nat → Bool} : renL σ (setC p) = setC p := renL_bools p _
theorem setC_zero : List.replicate 256 (AV.v (.bool false)) = setC (fun _ => false) := rfl
theorem p148 (p : Nat → Bool) (c : UInt8) : PureFn Tryd.prog 148 [.rp (setC p), U8 c] (B (p c.toNat)) := by
  have hc : c.toNat < 256 := c.toNat_lt
  have hc' : ((c.toNat : Nat) : Int) < 256 := by omega
  (refine PureFn.of_run ty_ok Tryd.func148 (c := Tryd.f148.body.get!) rfl (by decide) Tryd.ntmps148 (res := [.tmp 4]) Tryd.results148 (Nat.le_of_ble_eq_true rfl) ?_; intro X hX hR; refine vc_ok hX.ok hX.fn 1000 _ _ ?_; simp only [Tryd.f148, Option.get!])
  simp only [zS, hX.T, hX.nt, reduceIte, Nat.reduceEqDiff, Nat.reduceLT, Nat.reduceLeDiff, Nat.reduceAdd, Nat.reduceSub, Nat.reduceBEq, reduceCtorEq, Int.reduceNeg, bs_nil, bs_beq, bs_size, bs_append, hc', Int.natCast_nonneg, Int.toNat_natCast, Nat.mul_one, setC_drop hc, Nat.zero_add, Nat.le_add_left]
  (refine hX.ret (by first | exact .inl rfl | exact .inr rfl) ?_; simp only [zR, zS, hX.T, hX.nt, reduceIte, Nat.reduceEqDiff, Nat.reduceLT, Nat.reduceLeDiff, Nat.reduceAdd, Nat.reduceSub, Nat.reduceBEq, reduceCtorEq, Int.reduceNeg] <;> try rfl)
def inCut (ct : Bs) (n : Nat) : Bool := ct.any fun c => c.toNat == n
theorem p128 (ct : Bs) (hl : smT ct) (ha : ∀ c ∈ ct, c.toNat < 128) : PureFn Tryd.prog 128 [Sb ct] (.tup [.agg (setC (inCut ct)), B true]) := by
  (refine PureFn.of_run ty_ok Tryd.func128 (c := Tryd.f128.body.get!) rfl (by decide) Tryd.ntmps128 (res := [.cell 2 159, .tmp 3]) Tryd.results128 (Nat.le_of_ble_eq_true rfl) ?_; intro X hX hR; refine vc_ok hX.ok hX.fn 1000 _ _ ?_; simp only [Tryd.f128, Option.get!])
  simp only [zS, hX.T, hX.nt, reduceIte, Nat.reduceEqDiff, Nat.reduceLT, Nat.reduceLeDiff, Nat.reduceAdd, Nat.reduceSub, Nat.reduceBEq, reduceCtorEq, Int.reduceNeg, bs_nil, bs_beq, bs_size, bs_append, setC_zero]
  refine Run.loop (α := Nat) (fun i => [(0, Sb ct), (2, .pt 2 0), (4, I i)]) (fun i => [(2, .box 159 (setC (inCut (ct.take i))))]) (fun i => i ≤ ct.length) (fun i => ct.length - i) 0 id (Nat.zero_le _) (.of hX.NL (by simp only [zS, hX.T, hX.nt, reduceIte, Nat.reduceEqDiff, Nat.reduceLT, Nat.reduceLeDiff, Nat.reduceAdd, Nat.reduceSub, Nat.reduceBEq, reduceCtorEq, Int.reduceNeg, bs_nil, bs_beq, bs_size, bs_append, ren, renL, renB] <;> rfl) (by simp only [zS, hX.T, hX.nt, reduceIte, Nat.reduceEqDiff, Nat.reduceLT, Nat.reduceLeDiff, Nat.reduceAdd, Nat.reduceSub, Nat.reduceBEq, reduceCtorEq, Int.reduceNeg, bs_nil, bs_beq, bs_size, bs_append, ren, renL, renB] <;> rfl) rfl) ?_
  intro i hi ih
  refine hX.go ?_
  simp only [zS, hX.T, hX.nt, reduceIte, Nat.reduceEqDiff, Nat.reduceLT, Nat.reduceLeDiff, Nat.reduceAdd, Nat.reduceSub, Nat.reduceBEq, reduceCtorEq, Int.reduceNeg, bs_nil, bs_beq, bs_size, bs_append]
  refine bc_split (fun h => ?_) (fun h => ?_)
  · have h := of_decide_eq_true h
    have hlt : i < ct.length := by omega
    have h1 : ct[i].toNat < 128 := ha _ (List.getElem_mem ..)
    have h2 : decide (((ct[i].toNat : Nat) : Int) ≥ 128) = false := by simp only [decide_eq_false_iff_not]; omega
    have h3 : ((ct[i].toNat : Nat) : Int) < 256 := by omega
    have h4 : ct[i].toNat + 1 ≤ 256 := by omega
    have hst : (fun m => inCut (ct.take i) m || ct[i].toNat == m) = inCut (ct.take (i + 1)) := by
      funext m
      rw [inCut, inCut, any_take hlt]
    simp only [zS, hX.T, hX.nt, reduceIte, Nat.reduceEqDiff, Nat.reduceLT, Nat.reduceLeDiff, Nat.reduceAdd, Nat.reduceSub, Nat.reduceBEq, reduceCtorEq, Int.reduceNeg, bs_nil, bs_beq, bs_size, bs_append, h, Int.natCast_nonneg, byte_bs ct i hlt, h2, h3, h4, Int.toNat_natCast, Nat.mul_one, Nat.zero_add, setC_len, setC_put (show ct[i].toNat < 256 by omega), hst]
    refine ih (i + 1) id _ (by omega) (by omega) (.of hX.NL (by simp only [zS, hX.T, hX.nt, reduceIte, Nat.reduceEqDiff, Nat.reduceLT, Nat.reduceLeDiff, Nat.reduceAdd, Nat.reduceSub, Nat.reduceBEq, reduceCtorEq, Int.reduceNeg, bs_nil, bs_beq, bs_size, bs_append, ren, renL, renB, wrap_succ hlt (Nat.le_trans hl (by decide))] <;> rfl) (by simp only [zS, hX.T, hX.nt, reduceIte, Nat.reduceEqDiff, Nat.reduceLT, Nat.reduceLeDiff, Nat.reduceAdd, Nat.reduceSub, Nat.reduceBEq, reduceCtorEq, Int.reduceNeg, bs_nil, bs_beq, bs_size, bs_append, ren, renL, renB, setC_ren, setC_put (show ct[i].toNat < 256 by omega), hst] <;> rfl) rfl)
  · have h := of_decide_eq_false h
    have : ct.take i = ct := List.take_of_length_le (by omega)
    simp only [zS, hX.T, hX.nt, reduceIte, Nat.reduceEqDiff, Nat.reduceLT, Nat.reduceLeDiff, Nat.reduceAdd, Nat.reduceSub, Nat.reduceBEq, reduceCtorEq, Int.reduceNeg, bs_nil, bs_beq, bs_size, bs_append, this, setC_len, setC_take, setC_all, setC_drop0, Nat.le_refl, Nat.zero_add]
    (refine hX.ret (by first | exact .inl rfl | exact .inr rfl) ?_; simp only [zR, zS, hX.T, hX.nt, reduceIte, Nat.reduceEqDiff, Nat.reduceLT, Nat.reduceLeDiff, Nat.reduceAdd, Nat.reduceSub, Nat.reduceBEq, reduceCtorEq, Int.reduceNeg, this, setC_len, setC_take, Nat.le_refl, Nat.zero_add] <;> try rfl)
def inP (p : Nat → Bool) (c : UInt8) : Bool := p c.toNat
theorem bs_slice (c : UInt8) (l : Bs) : (bs (c :: l)).extract 1 (l.length + 1) = bs l := by
  apply ByteArray.ext
  rw [ByteArray.data_extract]
  simp [bs, List.take_of_length_le]
theorem p129 (p : Nat → Bool) (s : Bs) : PureFn Tryd.prog 129 [Sb s, .rp (setC p)] (Sb (s.dropWhile (inP p))) := by
  (refine PureFn.of_run ty_ok Tryd.func129 (c := Tryd.f129.body.get!) rfl (by decide) Tryd.ntmps129 (res := [.tmp 4]) Tryd.results129 (Nat.le_of_ble_eq_true rfl) ?_; intro X hX hR; refine vc_ok hX.ok hX.fn 1000 _ _ ?_; simp only [Tryd.f129, Option.get!])
  simp only [zS, hX.T, hX.nt, reduceIte, Nat.reduceEqDiff, Nat.reduceLT, Nat.reduceLeDiff, Nat.reduceAdd, Nat.reduceSub, Nat.reduceBEq, reduceCtorEq, Int.reduceNeg, bs_nil, bs_beq, bs_size, bs_append]
  refine Run.loop (α := Bs) (fun l => [(0, Sb l), (1, .rp (setC p))]) (fun _ => []) (fun l => l.dropWhile (inP p) = s.dropWhile (inP p)) (fun l => l.length) s id rfl (.of hX.NL (by simp only [zS, hX.T, hX.nt, reduceIte, Nat.reduceEqDiff, Nat.reduceLT, Nat.reduceLeDiff, Nat.reduceAdd, Nat.reduceSub, Nat.reduceBEq, reduceCtorEq, Int.reduceNeg, bs_nil, bs_beq, bs_size, bs_append, ren, renL, renB] <;> rfl) (by simp only [zS, hX.T, hX.nt, reduceIte, Nat.reduceEqDiff, Nat.reduceLT, Nat.reduceLeDiff, Nat.reduceAdd, Nat.reduceSub, Nat.reduceBEq, reduceCtorEq, Int.reduceNeg, bs_nil, bs_beq, bs_size, bs_append, ren, renL, renB] <;> rfl) rfl) ?_
  intro l hl ih
  refine hX.go ?_
  rcases l with _ | ⟨c, l⟩
  · simp only [zS, hX.T, hX.nt, reduceIte, Nat.reduceEqDiff, Nat.reduceLT, Nat.reduceLeDiff, Nat.reduceAdd, Nat.reduceSub, Nat.reduceBEq, reduceCtorEq, Int.reduceNeg, bs_nil, bs_beq, bs_size, bs_append, gt_iff_lt, Int.natCast_zero, Int.lt_irrefl, decide_false]
    rw [← hl] at hX
    (refine hX.ret (by first | exact .inl rfl | exact .inr rfl) ?_; simp only [zR, zS, hX.T, hX.nt, reduceIte, Nat.reduceEqDiff, Nat.reduceLT, Nat.reduceLeDiff, Nat.reduceAdd, Nat.reduceSub, Nat.reduceBEq, reduceCtorEq, Int.reduceNeg, List.dropWhile_nil] <;> try rfl)
  · have h0 : decide ((((l.length + 1 : Nat)) : Int) > 0) = true := by simp only [decide_eq_true_eq]; omega
    have h1 : (0 : Int) < ((l.length + 1 : Nat) : Int) := by omega
    have hb : byteAt (bs (c :: l)) 0 = ((c.toNat : Nat) : Int) := byte_bs (c :: l) 0 (by simp)
    have h2 : (1 : Int) ≤ ((l.length + 1 : Nat) : Int) := by omega
    have hs := bs_slice c l
    simp only [zS, hX.T, hX.nt, reduceIte, Nat.reduceEqDiff, Nat.reduceLT, Nat.reduceLeDiff, Nat.reduceAdd, Nat.reduceSub, Nat.reduceBEq, reduceCtorEq, Int.reduceNeg, bs_nil, bs_beq, bs_size, bs_append, h0, h1, hb, Int.le_refl]
    refine hX.pure (p148 p c) rfl rfl (by decide) ?_
    simp only [zS, hX.T, hX.nt, reduceIte, Nat.reduceEqDiff, Nat.reduceLT, Nat.reduceLeDiff, Nat.reduceAdd, Nat.reduceSub, Nat.reduceBEq, reduceCtorEq, Int.reduceNeg, bs_nil, bs_beq, bs_size, bs_append]
    rw [List.dropWhile_cons] at hl
    refine bc_split (fun h => ?_) (fun h => ?_)
    · simp only [zS, hX.T, hX.nt, reduceIte, Nat.reduceEqDiff, Nat.reduceLT, Nat.reduceLeDiff, Nat.reduceAdd, Nat.reduceSub, Nat.reduceBEq, reduceCtorEq, Int.reduceNeg, bs_nil, bs_beq, bs_size, bs_append]
      rw [if_neg (by simpa [inP] using h)] at hl
      rw [← hl] at hX
      (refine hX.ret (by first | exact .inl rfl | exact .inr rfl) ?_; simp only [zR, zS, hX.T, hX.nt, reduceIte, Nat.reduceEqDiff, Nat.reduceLT, Nat.reduceLeDiff, Nat.reduceAdd, Nat.reduceSub, Nat.reduceBEq, reduceCtorEq, Int.reduceNeg] <;> try rfl)
    · simp only [zS, hX.T, hX.nt, reduceIte, Nat.reduceEqDiff, Nat.reduceLT, Nat.reduceLeDiff, Nat.reduceAdd, Nat.reduceSub, Nat.reduceBEq, reduceCtorEq, Int.reduceNeg, bs_nil, bs_beq, bs_size, bs_append, h2, Int.le_refl, Int.reduceLE, Int.reduceToNat, Int.toNat_natCast, hs]
      rw [if_pos (by simpa [inP] using h)] at hl
      refine ih l id _ hl (by simp) (.of hX.NL (by simp only [zS, hX.T, hX.nt, reduceIte, Nat.reduceEqDiff, Nat.reduceLT, Nat.reduceLeDiff, Nat.reduceAdd, Nat.reduceSub, Nat.reduceBEq, reduceCtorEq, Int.reduceNeg, bs_nil, bs_beq, bs_size, bs_append, ren, renL, renB] <;> rfl) (by simp only [zS, hX.T, hX.nt, reduceIte, Nat.reduceEqDiff, Nat.reduceLT, Nat.reduceLeDiff, Nat.reduceAdd, Nat.reduceSub, Nat.reduceBEq, reduceCtorEq, Int.reduceNeg, bs_nil, bs_beq, bs_size, bs_append, ren, renL, renB] <;> rfl) rfl)
theorem bs_slice2 (c : UInt8) (l : Bs) : (bs (l ++ [c])).extract 0 l.length = bs l := by
  apply ByteArray.ext
  rw [ByteArray.data_extract]
  simp [bs]
def trimR (p : UInt8 → Bool) (l : Bs) : Bs := (l.reverse.dropWhile p).reverse
theorem trimR_snoc (p : UInt8 → Bool) (l : Bs) (c : UInt8) : trimR p (l ++ [c]) = if p c = true then trimR p l else l ++ [c] := by
  unfold trimR
  rw [List.reverse_append, List.reverse_cons, List.reverse_nil, List.nil_append, List.cons_append, List.nil_append, List.dropWhile_cons]
  split <;> simp
theorem p130 (p : Nat → Bool) (s : Bs) (hs : smT s) : PureFn Tryd.prog 130 [Sb s, .rp (setC p)] (Sb (trimR (inP p) s)) := by
  (refine PureFn.of_run ty_ok Tryd.func130 (c := Tryd.f130.body.get!) rfl (by decide) Tryd.ntmps130 (res := [.tmp 4]) Tryd.results130 (Nat.le_of_ble_eq_true rfl) ?_; intro X hX hR; refine vc_ok hX.ok hX.fn 1000 _ _ ?_; simp only [Tryd.f130, Option.get!])
  simp only [zS, hX.T, hX.nt, reduceIte, Nat.reduceEqDiff, Nat.reduceLT, Nat.reduceLeDiff, Nat.reduceAdd, Nat.reduceSub, Nat.reduceBEq, reduceCtorEq, Int.reduceNeg, bs_nil, bs_beq, bs_size, bs_append]
  refine Run.loop (α := Bs) (fun l => [(0, Sb l), (1, .rp (setC p))]) (fun _ => []) (fun l => smT l ∧ trimR (inP p) l = trimR (inP p) s) (fun l => l.length) s id ⟨hs, rfl⟩ (.of hX.NL (by simp only [zS, hX.T, hX.nt, reduceIte, Nat.reduceEqDiff, Nat.reduceLT, Nat.reduceLeDiff, Nat.reduceAdd, Nat.reduceSub, Nat.reduceBEq, reduceCtorEq, Int.reduceNeg, bs_nil, bs_beq, bs_size, bs_append, ren, renL, renB] <;> rfl) (by simp only [zS, hX.T, hX.nt, reduceIte, Nat.reduceEqDiff, Nat.reduceLT, Nat.reduceLeDiff, Nat.reduceAdd, Nat.reduceSub, Nat.reduceBEq, reduceCtorEq, Int.reduceNeg, bs_nil, bs_beq, bs_size, bs_append, ren, renL, renB] <;> rfl) rfl) ?_
  intro l ⟨hm, hl⟩ ih
  refine hX.go ?_
  rcases List.eq_nil_or_concat l with rfl | ⟨l, c, rfl⟩
  · simp only [zS, hX.T, hX.nt, reduceIte, Nat.reduceEqDiff, Nat.reduceLT, Nat.reduceLeDiff, Nat.reduceAdd, Nat.reduceSub, Nat.reduceBEq, reduceCtorEq, Int.reduceNeg, bs_nil, bs_beq, bs_size, bs_append, gt_iff_lt, Int.natCast_zero, Int.lt_irrefl, decide_false]
    rw [← hl] at hX
    (refine hX.ret (by first | exact .inl rfl | exact .inr rfl) ?_; simp only [zR, zS, hX.T, hX.nt, reduceIte, Nat.reduceEqDiff, Nat.reduceLT, Nat.reduceLeDiff, Nat.reduceAdd, Nat.reduceSub, Nat.reduceBEq, reduceCtorEq, Int.reduceNeg, trimR, List.reverse_nil, List.dropWhile_nil] <;> try rfl)
  · rw [List.concat_eq_append] at hl hm
    rw [smT, List.length_append, List.length_cons, List.length_nil, Nat.zero_add] at hm
    have h0 : decide ((((l.length + 1 : Nat)) : Int) > 0) = true := by simp only [decide_eq_true_eq]; omega
    have h1 : ((l.length : Nat) : Int) < ((l.length + 1 : Nat) : Int) := by omega
    have hw : IntKind.i64.wrap (((l.length + 1 : Nat) : Int) - 1) = ((l.length : Nat) : Int) := by rw [wrap_id (by omega) (by omega)]; omega
    have hb : byteAt (bs (l ++ [c])) ((l.length : Nat) : Int) = ((c.toNat : Nat) : Int) := by
      rw [byte_bs (l ++ [c]) l.length (by simp)]; simp
    have h2 : ((l.length : Nat) : Int) ≤ ((l.length + 1 : Nat) : Int) := by omega
    have hs := bs_slice2 c l
    rw [List.concat_eq_append]
    simp only [zS, hX.T, hX.nt, reduceIte, Nat.reduceEqDiff, Nat.reduceLT, Nat.reduceLeDiff, Nat.reduceAdd, Nat.reduceSub, Nat.reduceBEq, reduceCtorEq, Int.reduceNeg, bs_nil, bs_beq, bs_size, bs_append, h0, h1, hw, hb, Int.natCast_nonneg, List.length_append, Nat.zero_add]
    refine hX.pure (p148 p c) rfl rfl (by decide) ?_
    simp only [zS, hX.T, hX.nt, reduceIte, Nat.reduceEqDiff, Nat.reduceLT, Nat.reduceLeDiff, Nat.reduceAdd, Nat.reduceSub, Nat.reduceBEq, reduceCtorEq, Int.reduceNeg, bs_nil, bs_beq, bs_size, bs_append]
    rw [trimR_snoc] at hl
    refine bc_split (fun h => ?_) (fun h => ?_)
    · simp only [zS, hX.T, hX.nt, reduceIte, Nat.reduceEqDiff, Nat.reduceLT, Nat.reduceLeDiff, Nat.reduceAdd, Nat.reduceSub, Nat.reduceBEq, reduceCtorEq, Int.reduceNeg, bs_nil, bs_beq, bs_size, bs_append]
      rw [if_neg (by simpa [inP] using h)] at hl
      rw [← hl] at hX
      (refine hX.ret (by first | exact .inl rfl | exact .inr rfl) ?_; simp only [zR, zS, hX.T, hX.nt, reduceIte, Nat.reduceEqDiff, Nat.reduceLT, Nat.reduceLeDiff, Nat.reduceAdd, Nat.reduceSub, Nat.reduceBEq, reduceCtorEq, Int.reduceNeg] <;> try rfl)
    · simp only [zS, hX.T, hX.nt, reduceIte, Nat.reduceEqDiff, Nat.reduceLT, Nat.reduceLeDiff, Nat.reduceAdd, Nat.reduceSub, Nat.reduceBEq, reduceCtorEq, Int.reduceNeg, bs_nil, bs_beq, bs_size, bs_append, hw, h2, Int.natCast_nonneg, Int.le_refl, Int.toNat_natCast, Int.toNat_zero, List.length_append, Nat.zero_add, hs]
      rw [if_pos (by simpa [inP] using h)] at hl
      refine ih l id _ ⟨by rw [smT]; omega, hl⟩ (by simp) (.of hX.NL (by simp only [zS, hX.T, hX.nt, reduceIte, Nat.reduceEqDiff, Nat.reduceLT, Nat.reduceLeDiff, Nat.reduceAdd, Nat.reduceSub, Nat.reduceBEq, reduceCtorEq, Int.reduceNeg, bs_nil, bs_beq, bs_size, bs_append, ren, renL, renB] <;> rfl) (by simp only [zS, hX.T, hX.nt, reduceIte, Nat.reduceEqDiff, Nat.reduceLT, Nat.reduceLeDiff, Nat.reduceAdd, Nat.reduceSub, Nat.reduceBEq, reduceCtorEq, Int.reduceNeg, bs_nil, bs_beq, bs_size, bs_append, ren, renL, renB] <;> rfl) rfl)
end Go.Proofs.YtkbidoikndgheaaDoor.HL

namespace Go.Proofs.YtkbidoikndgheaaDoor.HL
open Go.Proofs
set_option maxRecDepth 100000
set_option maxHeartbeats 4000000
def trimC (ct l : Bs) : Bs := (trimR (inP (inCut ct)) l).dropWhile (inP (inCut ct))
theorem p91 (l ct : Bs) (hl : smT l) (hc : smT ct) (ha : ∀ c ∈ ct, c.toNat < 128) (h2 : 2 ≤ ct.length) : PureFn Tryd.prog 91 [Sb l, Sb ct] (Sb (trimC ct l)) := by
  have d1 : (ct == []) = false := by cases ct <;> simp_all
  have d2 : ((ct.length : Int) == 1) = false := by simp only [beq_eq_false_iff_ne, ne_eq]; omega
  (refine PureFn.of_run ty_ok Tryd.func91 (c := Tryd.f91.body.get!) rfl (by decide) Tryd.ntmps91 (res := [.tmp 4]) Tryd.results91 (Nat.le_of_ble_eq_true rfl) ?_; intro X hX hR; refine vc_ok hX.ok hX.fn 1000 _ _ ?_; simp only [Tryd.f91, Option.get!])
  simp only [zS, hX.T, hX.nt, reduceIte, Nat.reduceEqDiff, Nat.reduceLT, Nat.reduceLeDiff, Nat.reduceAdd, Nat.reduceSub, Nat.reduceBEq, reduceCtorEq, Int.reduceNeg, bs_nil, bs_beq, bs_size, bs_append]
  cases hle : l == []
  · simp only [zS, hX.T, hX.nt, reduceIte, Nat.reduceEqDiff, Nat.reduceLT, Nat.reduceLeDiff, Nat.reduceAdd, Nat.reduceSub, Nat.reduceBEq, reduceCtorEq, Int.reduceNeg, bs_nil, bs_beq, bs_size, bs_append, d1, d2]
    refine hX.pure (p128 ct hc ha) rfl rfl (by decide) ?_
    simp only [zS, hX.T, hX.nt, reduceIte, Nat.reduceEqDiff, Nat.reduceLT, Nat.reduceLeDiff, Nat.reduceAdd, Nat.reduceSub, Nat.reduceBEq, reduceCtorEq, Int.reduceNeg, bs_nil, bs_beq, bs_size, bs_append, setC_all, setC_len, Nat.le_refl, List.length_replicate]
    refine hX.lend (p130 (inCut ct) l hl) (by simp only [zR, zS, hX.T, hX.nt, reduceIte, Nat.reduceEqDiff, Nat.reduceLT, Nat.reduceLeDiff, Nat.reduceAdd, Nat.reduceSub, Nat.reduceBEq, reduceCtorEq, Int.reduceNeg, setC_all, setC_len, setC_drop0, Nat.le_refl, List.length_replicate, List.drop_replicate, Nat.sub_self, List.replicate_zero] <;> rfl) rfl (by decide) ?_
    simp only [zS, hX.T, hX.nt, reduceIte, Nat.reduceEqDiff, Nat.reduceLT, Nat.reduceLeDiff, Nat.reduceAdd, Nat.reduceSub, Nat.reduceBEq, reduceCtorEq, Int.reduceNeg, bs_nil, bs_beq, bs_size, bs_append]
    refine hX.lend (p129 (inCut ct) (trimR (inP (inCut ct)) l)) (by simp only [zR, zS, hX.T, hX.nt, reduceIte, Nat.reduceEqDiff, Nat.reduceLT, Nat.reduceLeDiff, Nat.reduceAdd, Nat.reduceSub, Nat.reduceBEq, reduceCtorEq, Int.reduceNeg, setC_all, setC_len, setC_drop0, Nat.le_refl, List.length_replicate, List.drop_replicate, Nat.sub_self, List.replicate_zero] <;> rfl) rfl (by decide) ?_
    simp only [zS, hX.T, hX.nt, reduceIte, Nat.reduceEqDiff, Nat.reduceLT, Nat.reduceLeDiff, Nat.reduceAdd, Nat.reduceSub, Nat.reduceBEq, reduceCtorEq, Int.reduceNeg, bs_nil, bs_beq, bs_size, bs_append]
    (refine hX.ret (by first | exact .inl rfl | exact .inr rfl) ?_; simp only [zR, zS, hX.T, hX.nt, reduceIte, Nat.reduceEqDiff, Nat.reduceLT, Nat.reduceLeDiff, Nat.reduceAdd, Nat.reduceSub, Nat.reduceBEq, reduceCtorEq, Int.reduceNeg, trimC] <;> try rfl)
  · have hle : l = [] := by simpa using hle
    subst hle
    simp only [zS, hX.T, hX.nt, reduceIte, Nat.reduceEqDiff, Nat.reduceLT, Nat.reduceLeDiff, Nat.reduceAdd, Nat.reduceSub, Nat.reduceBEq, reduceCtorEq, Int.reduceNeg, bs_nil, bs_beq, bs_size, bs_append]
    (refine hX.ret (by first | exact .inl rfl | exact .inr rfl) ?_; simp only [zR, zS, hX.T, hX.nt, reduceIte, Nat.reduceEqDiff, Nat.reduceLT, Nat.reduceLeDiff, Nat.reduceAdd, Nat.reduceSub, Nat.reduceBEq, reduceCtorEq, Int.reduceNeg, trimC, trimR, List.reverse_nil, List.dropWhile_nil] <;> try rfl)
end Go.Proofs.YtkbidoikndgheaaDoor.HL

namespace Go.Proofs.YtkbidoikndgheaaDoor.HL
open Go.Proofs
set_option maxRecDepth 100000
set_option maxHeartbeats 4000000
def lowers : Bs := [97, 98, 99, 100, 101, 102, 103, 104, 105, 106, 107, 108, 109, 110, 111, 112, 113, 114, 115, 116, 117, 118, 119, 120, 121, 122]
def signs : Bs := [97, 98, 99, 100, 101, 102, 103, 104, 105, 106, 107, 108, 109, 110, 111, 112, 113, 114, 115, 116, 117, 118, 119, 120, 121, 122, 48, 49, 50, 51, 52, 53, 54, 55, 56, 57, 95]
theorem u8_all {p : UInt8 → Bool} (h : (List.range 256).all (fun n => p n.toUInt8) = true) (c : UInt8) : p c = true := by
  have := List.all_eq_true.1 h c.toNat (List.mem_range.2 c.toNat_lt)
  simpa using this
theorem lower_ok (c : UInt8) : decide (fstI (bs lowers) c ≥ 0) = letter c := by
  have := u8_all (p := fun c => decide (fstI (bs lowers) c ≥ 0) == letter c) (by decide +kernel) c
  simpa using this
theorem sign_ok (c : UInt8) : inP (inCut signs) c = sign c := by
  have := u8_all (p := fun c => inP (inCut signs) c == sign c) (by decide +kernel) c
  simpa using this
theorem dropWhile_all {p : UInt8 → Bool} : ∀ (l : Bs), (l.dropWhile p).all p = l.all p
  | [] => rfl
  | c :: l => by
    rw [List.dropWhile_cons]
    split
    · rename_i h; rw [dropWhile_all l, List.all_cons, h, Bool.true_and]
    · rfl
theorem dropWhile_nil {p : UInt8 → Bool} (l : Bs) : (l.dropWhile p == []) = l.all p := by
  rw [← dropWhile_all l]
  cases h : l.dropWhile p with
  | nil => rfl
  | cons c t =>
    have : ¬ p c = true := by
      have := List.head?_dropWhile_not p l
      rw [h] at this
      simpa using this
    simp [this]
theorem trimC_nil (l : Bs) : (trimC signs l == []) = l.all sign := by
  have hp : inP (inCut signs) = sign := funext sign_ok
  rw [trimC, dropWhile_nil, hp, trimR, List.all_reverse, dropWhile_all, List.all_reverse]
theorem p49 (l : Bs) : PureFn Tryd.prog 49 [Sb l] (B (nameOk l)) := by
  (refine PureFn.of_run ty_ok Tryd.func49 (c := Tryd.f49.body.get!) rfl (by decide) Tryd.ntmps49 (res := [.tmp 2]) Tryd.results49 (Nat.le_of_ble_eq_true rfl) ?_; intro X hX hR; refine vc_ok hX.ok hX.fn 1000 _ _ ?_; simp only [Tryd.f49, Option.get!])
  rcases l with _ | ⟨c, l⟩
  · simp only [zS, hX.T, hX.nt, reduceIte, Nat.reduceEqDiff, Nat.reduceLT, Nat.reduceLeDiff, Nat.reduceAdd, Nat.reduceSub, Nat.reduceBEq, reduceCtorEq, Int.reduceNeg, bs_nil, bs_beq, bs_size, bs_append, bne_self_eq_false]
    repeat' first | (refine bc_split (fun h => ?_) (fun h => ?_) <;> simp only [zS, hX.T, hX.nt, reduceIte, Nat.reduceEqDiff, Nat.reduceLT, Nat.reduceLeDiff, Nat.reduceAdd, Nat.reduceSub, Nat.reduceBEq, reduceCtorEq, Int.reduceNeg, bs_nil, bs_beq, bs_size, bs_append, zS, h]) | (refine bg_split (fun h => ?_) (fun h => ?_) <;> simp only [zS, hX.T, hX.nt, reduceIte, Nat.reduceEqDiff, Nat.reduceLT, Nat.reduceLeDiff, Nat.reduceAdd, Nat.reduceSub, Nat.reduceBEq, reduceCtorEq, Int.reduceNeg, bs_nil, bs_beq, bs_size, bs_append, zS, h]) | (refine pb_split (fun h => ?_) (fun h => ?_) <;> simp only [zS, hX.T, hX.nt, reduceIte, Nat.reduceEqDiff, Nat.reduceLT, Nat.reduceLeDiff, Nat.reduceAdd, Nat.reduceSub, Nat.reduceBEq, reduceCtorEq, Int.reduceNeg, bs_nil, bs_beq, bs_size, bs_append, zS, h]) | (refine hX.gos (by rfl) ?_; simp only [zS, hX.T, hX.nt, reduceIte, Nat.reduceEqDiff, Nat.reduceLT, Nat.reduceLeDiff, Nat.reduceAdd, Nat.reduceSub, Nat.reduceBEq, reduceCtorEq, Int.reduceNeg, bs_nil, bs_beq, bs_size, bs_append, zS])
    all_goals ((refine hX.ret (by first | exact .inl rfl | exact .inr rfl) ?_; simp only [zR, zS, hX.T, hX.nt, reduceIte, Nat.reduceEqDiff, Nat.reduceLT, Nat.reduceLeDiff, Nat.reduceAdd, Nat.reduceSub, Nat.reduceBEq, reduceCtorEq, Int.reduceNeg] <;> try rfl))
  · have hb : byteAt (bs (c :: l)) 0 = ((c.toNat : Nat) : Int) := byte_bs (c :: l) 0 (by simp)
    have h1 : (0 : Int) < ((l.length + 1 : Nat) : Int) := by omega
    simp only [zS, hX.T, hX.nt, reduceIte, Nat.reduceEqDiff, Nat.reduceLT, Nat.reduceLeDiff, Nat.reduceAdd, Nat.reduceSub, Nat.reduceBEq, reduceCtorEq, Int.reduceNeg, bs_nil, bs_beq, bs_size, bs_append]
    by_cases h24 : l.length + 1 ≤ 24
    · have q := p91 (c :: l) signs (by simp only [smT, List.length_cons]; omega) (by unfold smT; decide) (by decide) (by decide)
      repeat' first | (refine bc_split (fun h => ?_) (fun h => ?_) <;> simp only [zS, hX.T, hX.nt, reduceIte, Nat.reduceEqDiff, Nat.reduceLT, Nat.reduceLeDiff, Nat.reduceAdd, Nat.reduceSub, Nat.reduceBEq, reduceCtorEq, Int.reduceNeg, bs_nil, bs_beq, bs_size, bs_append, zS, h1, hb, Int.le_refl, h]) | (refine bg_split (fun h => ?_) (fun h => ?_) <;> simp only [zS, hX.T, hX.nt, reduceIte, Nat.reduceEqDiff, Nat.reduceLT, Nat.reduceLeDiff, Nat.reduceAdd, Nat.reduceSub, Nat.reduceBEq, reduceCtorEq, Int.reduceNeg, bs_nil, bs_beq, bs_size, bs_append, zS, h1, hb, Int.le_refl, h]) | (refine pb_split (fun h => ?_) (fun h => ?_) <;> simp only [zS, hX.T, hX.nt, reduceIte, Nat.reduceEqDiff, Nat.reduceLT, Nat.reduceLeDiff, Nat.reduceAdd, Nat.reduceSub, Nat.reduceBEq, reduceCtorEq, Int.reduceNeg, bs_nil, bs_beq, bs_size, bs_append, zS, h1, hb, Int.le_refl, h]) | (refine hX.gos (by rfl) ?_; simp only [zS, hX.T, hX.nt, reduceIte, Nat.reduceEqDiff, Nat.reduceLT, Nat.reduceLeDiff, Nat.reduceAdd, Nat.reduceSub, Nat.reduceBEq, reduceCtorEq, Int.reduceNeg, bs_nil, bs_beq, bs_size, bs_append, zS, h1, hb, Int.le_refl]) | (refine hX.pure (p90 (bs lowers) c) rfl rfl (by decide) ?_; simp only [zS, hX.T, hX.nt, reduceIte, Nat.reduceEqDiff, Nat.reduceLT, Nat.reduceLeDiff, Nat.reduceAdd, Nat.reduceSub, Nat.reduceBEq, reduceCtorEq, Int.reduceNeg, bs_nil, bs_beq, bs_size, bs_append, zS, h1, hb, Int.le_refl]) | (refine hX.pureD (p90 (bs lowers) c) rfl rfl (by decide) ?_; simp only [zS, hX.T, hX.nt, reduceIte, Nat.reduceEqDiff, Nat.reduceLT, Nat.reduceLeDiff, Nat.reduceAdd, Nat.reduceSub, Nat.reduceBEq, reduceCtorEq, Int.reduceNeg, bs_nil, bs_beq, bs_size, bs_append, zS, h1, hb, Int.le_refl]) | (refine hX.pure (q) rfl rfl (by decide) ?_; simp only [zS, hX.T, hX.nt, reduceIte, Nat.reduceEqDiff, Nat.reduceLT, Nat.reduceLeDiff, Nat.reduceAdd, Nat.reduceSub, Nat.reduceBEq, reduceCtorEq, Int.reduceNeg, bs_nil, bs_beq, bs_size, bs_append, zS, h1, hb, Int.le_refl]) | (refine hX.pureD (q) rfl rfl (by decide) ?_; simp only [zS, hX.T, hX.nt, reduceIte, Nat.reduceEqDiff, Nat.reduceLT, Nat.reduceLeDiff, Nat.reduceAdd, Nat.reduceSub, Nat.reduceBEq, reduceCtorEq, Int.reduceNeg, bs_nil, bs_beq, bs_size, bs_append, zS, h1, hb, Int.le_refl])
      all_goals ((refine hX.ret (by first | exact .inl rfl | exact .inr rfl) ?_; simp only [zR, zS, hX.T, hX.nt, reduceIte, Nat.reduceEqDiff, Nat.reduceLT, Nat.reduceLeDiff, Nat.reduceAdd, Nat.reduceSub, Nat.reduceBEq, reduceCtorEq, Int.reduceNeg] <;> try rfl) <;> (clear hX hR q; try simp only [lower_ok, trimC_nil] at *) <;> first | (exfalso; simp at *; omega) | (simp_all [nameOk]; done) | (simp_all [nameOk, sign]; done))
    · repeat' first | (refine bc_split (fun h => ?_) (fun h => ?_) <;> simp only [zS, hX.T, hX.nt, reduceIte, Nat.reduceEqDiff, Nat.reduceLT, Nat.reduceLeDiff, Nat.reduceAdd, Nat.reduceSub, Nat.reduceBEq, reduceCtorEq, Int.reduceNeg, bs_nil, bs_beq, bs_size, bs_append, zS, h1, hb, Int.le_refl, h]) | (refine bg_split (fun h => ?_) (fun h => ?_) <;> simp only [zS, hX.T, hX.nt, reduceIte, Nat.reduceEqDiff, Nat.reduceLT, Nat.reduceLeDiff, Nat.reduceAdd, Nat.reduceSub, Nat.reduceBEq, reduceCtorEq, Int.reduceNeg, bs_nil, bs_beq, bs_size, bs_append, zS, h1, hb, Int.le_refl, h]) | (refine pb_split (fun h => ?_) (fun h => ?_) <;> simp only [zS, hX.T, hX.nt, reduceIte, Nat.reduceEqDiff, Nat.reduceLT, Nat.reduceLeDiff, Nat.reduceAdd, Nat.reduceSub, Nat.reduceBEq, reduceCtorEq, Int.reduceNeg, bs_nil, bs_beq, bs_size, bs_append, zS, h1, hb, Int.le_refl, h]) | (refine hX.gos (by rfl) ?_; simp only [zS, hX.T, hX.nt, reduceIte, Nat.reduceEqDiff, Nat.reduceLT, Nat.reduceLeDiff, Nat.reduceAdd, Nat.reduceSub, Nat.reduceBEq, reduceCtorEq, Int.reduceNeg, bs_nil, bs_beq, bs_size, bs_append, zS, h1, hb, Int.le_refl])
      all_goals first
        | (exfalso; clear hX hR; simp at *; omega)
        | ((refine hX.ret (by first | exact .inl rfl | exact .inr rfl) ?_; simp only [zR, zS, hX.T, hX.nt, reduceIte, Nat.reduceEqDiff, Nat.reduceLT, Nat.reduceLeDiff, Nat.reduceAdd, Nat.reduceSub, Nat.reduceBEq, reduceCtorEq, Int.reduceNeg] <;> try rfl) <;> (clear hX hR; simp_all [nameOk]))
end Go.Proofs.YtkbidoikndgheaaDoor.HL

namespace Go.Proofs.YtkbidoikndgheaaDoor.HL
open Go.Proofs
set_option maxRecDepth 100000
set_option maxHeartbeats 4000000
theorem Real.rp {cs : List AV} : ∀ {args : List AV}, Real args → AV.rp cs ∈ args → Real cs
  | [], _, h => by cases h
  | a :: al, ⟨F, w, _, v, vs', rfl, h1, h2⟩, h => by
    rcases List.mem_cons.1 h with h | h
    · subst h
      obtain ⟨b, o, _, _, hc⟩ := h1
      have : ∀ (cs : List AV) (o : Nat), VC F w b o cs → ∃ vs, VL noName F w cs vs := by
        intro cs
        induction cs with
        | nil => intro o _; exact ⟨[], rfl⟩
        | cons c cs ih =>
          intro o ⟨⟨v, _, _, hv⟩, h⟩
          obtain ⟨vs, hvs⟩ := ih _ h
          exact ⟨v :: vs, v, vs, rfl, hv, hvs⟩
      obtain ⟨vs, hvs⟩ := this cs o hc
      exact ⟨F, w, vs, hvs⟩
    · exact Real.rp ⟨F, w, vs', h2⟩ h
theorem p85 (s : Sch) (c : Nat) (ws : List AV) (hn : nfL ws = true) : PureFn Tryd.prog 85 [.agg (encS s), .fn c ws] (.fn 124 [.rp (encS s), .rp [.fn c ws]]) := by
  (refine PureFn.of_run ty_ok Tryd.func85 (c := Tryd.f85.body.get!) rfl (by decide) Tryd.ntmps85 (res := [.tmp 4]) Tryd.results85 (Nat.le_of_ble_eq_true rfl) ?_; intro X hX hR; refine vc_ok hX.ok hX.fn 1000 _ _ ?_; simp only [Tryd.f85, Option.get!])
  simp only [zS, hX.T, hX.nt, reduceIte, Nat.reduceEqDiff, Nat.reduceLT, Nat.reduceLeDiff, Nat.reduceAdd, Nat.reduceSub, Nat.reduceBEq, reduceCtorEq, Int.reduceNeg, bs_nil, bs_beq, bs_size, bs_append]
  (refine hX.ret (by first | exact .inl rfl | exact .inr rfl) ?_; simp only [zR, zS, hX.T, hX.nt, reduceIte, Nat.reduceEqDiff, Nat.reduceLT, Nat.reduceLeDiff, Nat.reduceAdd, Nat.reduceSub, Nat.reduceBEq, reduceCtorEq, Int.reduceNeg, hn, List.set_cons_zero] <;> try rfl)
theorem p88 (f : Fld) (nm : Bs) : PureFn Tryd.prog 88 [.agg (encF f), .rp [Sb nm]] (B (f.name == nm)) := by
  (refine PureFn.of_run ty_ok Tryd.func88 (c := Tryd.f88.body.get!) rfl (by decide) Tryd.ntmps88 (res := [.tmp 3]) Tryd.results88 (Nat.le_of_ble_eq_true rfl) ?_; intro X hX hR; refine vc_ok hX.ok hX.fn 1000 _ _ ?_; simp only [Tryd.f88, Option.get!])
  simp only [zS, hX.T, hX.nt, reduceIte, Nat.reduceEqDiff, Nat.reduceLT, Nat.reduceLeDiff, Nat.reduceAdd, Nat.reduceSub, Nat.reduceBEq, reduceCtorEq, Int.reduceNeg, bs_nil, bs_beq, bs_size, bs_append]
  (refine hX.ret (by first | exact .inl rfl | exact .inr rfl) ?_; simp only [zR, zS, hX.T, hX.nt, reduceIte, Nat.reduceEqDiff, Nat.reduceLT, Nat.reduceLeDiff, Nat.reduceAdd, Nat.reduceSub, Nat.reduceBEq, reduceCtorEq, Int.reduceNeg] <;> try rfl)
theorem p89 (f : Fld) (n : Int) : PureFn Tryd.prog 89 [.agg (encF f), .rp [I n]] (B (f.id == n)) := by
  (refine PureFn.of_run ty_ok Tryd.func89 (c := Tryd.f89.body.get!) rfl (by decide) Tryd.ntmps89 (res := [.tmp 3]) Tryd.results89 (Nat.le_of_ble_eq_true rfl) ?_; intro X hX hR; refine vc_ok hX.ok hX.fn 1000 _ _ ?_; simp only [Tryd.f89, Option.get!])
  simp only [zS, hX.T, hX.nt, reduceIte, Nat.reduceEqDiff, Nat.reduceLT, Nat.reduceLeDiff, Nat.reduceAdd, Nat.reduceSub, Nat.reduceBEq, reduceCtorEq, Int.reduceNeg, bs_nil, bs_beq, bs_size, bs_append]
  (refine hX.ret (by first | exact .inl rfl | exact .inr rfl) ?_; simp only [zR, zS, hX.T, hX.nt, reduceIte, Nat.reduceEqDiff, Nat.reduceLT, Nat.reduceLeDiff, Nat.reduceAdd, Nat.reduceSub, Nat.reduceBEq, reduceCtorEq, Int.reduceNeg] <;> try rfl)
theorem p86 (f g : Fld) : PureFn Tryd.prog 86 [.agg (encF f), .rp (encF g)] (B (clash g f)) := by
  (refine PureFn.of_run ty_ok Tryd.func86 (c := Tryd.f86.body.get!) rfl (by decide) Tryd.ntmps86 (res := [.tmp 3]) Tryd.results86 (Nat.le_of_ble_eq_true rfl) ?_; intro X hX hR; refine vc_ok hX.ok hX.fn 1000 _ _ ?_; simp only [Tryd.f86, Option.get!])
  simp only [zS, hX.T, hX.nt, reduceIte, Nat.reduceEqDiff, Nat.reduceLT, Nat.reduceLeDiff, Nat.reduceAdd, Nat.reduceSub, Nat.reduceBEq, reduceCtorEq, Int.reduceNeg, bs_nil, bs_beq, bs_size, bs_append]
  repeat' first | (refine bc_split (fun h => ?_) (fun h => ?_) <;> simp only [zS, hX.T, hX.nt, reduceIte, Nat.reduceEqDiff, Nat.reduceLT, Nat.reduceLeDiff, Nat.reduceAdd, Nat.reduceSub, Nat.reduceBEq, reduceCtorEq, Int.reduceNeg, bs_nil, bs_beq, bs_size, bs_append, zS, h]) | (refine bg_split (fun h => ?_) (fun h => ?_) <;> simp only [zS, hX.T, hX.nt, reduceIte, Nat.reduceEqDiff, Nat.reduceLT, Nat.reduceLeDiff, Nat.reduceAdd, Nat.reduceSub, Nat.reduceBEq, reduceCtorEq, Int.reduceNeg, bs_nil, bs_beq, bs_size, bs_append, zS, h]) | (refine pb_split (fun h => ?_) (fun h => ?_) <;> simp only [zS, hX.T, hX.nt, reduceIte, Nat.reduceEqDiff, Nat.reduceLT, Nat.reduceLeDiff, Nat.reduceAdd, Nat.reduceSub, Nat.reduceBEq, reduceCtorEq, Int.reduceNeg, bs_nil, bs_beq, bs_size, bs_append, zS, h]) | (refine hX.gos (by rfl) ?_; simp only [zS, hX.T, hX.nt, reduceIte, Nat.reduceEqDiff, Nat.reduceLT, Nat.reduceLeDiff, Nat.reduceAdd, Nat.reduceSub, Nat.reduceBEq, reduceCtorEq, Int.reduceNeg, bs_nil, bs_beq, bs_size, bs_append, zS])
  all_goals ((refine hX.ret (by first | exact .inl rfl | exact .inr rfl) ?_; simp only [zR, zS, hX.T, hX.nt, reduceIte, Nat.reduceEqDiff, Nat.reduceLT, Nat.reduceLeDiff, Nat.reduceAdd, Nat.reduceSub, Nat.reduceBEq, reduceCtorEq, Int.reduceNeg] <;> try rfl) <;> (clear hX hR; grind [clash]))
end Go.Proofs.YtkbidoikndgheaaDoor.HL

namespace Go.Proofs.YtkbidoikndgheaaDoor.HL
open Go.Proofs
set_option maxRecDepth 100000
set_option maxHeartbeats 4000000
def fstP (p : Fld → Bool) : List Fld → Int → Option (List AV)
  | [], _ => none
  | f :: l, i => if p f = true then some [I i, .agg (encF f)] else fstP p l (i + 1)
theorem fstP_step {p : Fld → Bool} {l : List Fld} {i : Nat} (h : i < l.length) : fstP p (l.drop i) i = if p l[i] = true then some [I i, .agg (encF l[i])] else fstP p (l.drop (i + 1)) ((i + 1 : Nat) : Int) := by
  rw [List.drop_eq_getElem_cons h, fstP]; rfl
theorem fstP_end {p : Fld → Bool} {l : List Fld} {i : Nat} (h : l.length ≤ i) : fstP p (l.drop i) i = none := by rw [List.drop_eq_nil_of_le h]; rfl
theorem fstP_find {p : Fld → Bool} : ∀ {l : List Fld} {i : Int}, (l.find? p = none ∧ fstP p l i = none) ∨ ∃ f j, l.find? p = some f ∧ fstP p l i = some [I j, .agg (encF f)]
  | [], _ => .inl ⟨rfl, rfl⟩
  | f :: l, i => by
    rw [List.find?_cons, fstP]
    cases h : p f
    · simpa using fstP_find (p := p) (l := l) (i := i + 1)
    · exact .inr ⟨f, i, rfl, by simp⟩
theorem it124 (s : Sch) (c : Nat) (ws : List AV) (p : Fld → Bool) (hn : nfL ws = true) (hw : ∀ f, PureFn Tryd.prog c (.agg (encF f) :: ws) (B (p f))) : IterOne Tryd.prog 124 [.rp (encS s), .rp [.fn c ws]] (fstP p s.fs 0) := by
  refine IterOne.of_run ty_ok Tryd.func124 (c := Tryd.f124.body.get!) rfl (by decide) Tryd.ntmps124 (res := []) Tryd.results124 (Nat.le_of_ble_eq_true rfl) ?_
  intro l X hX hR
  have hlen := (hR.rp (List.mem_cons_self ..)).len (show AV.sl 6 false (s.fs.map encF) ∈ encS s by simp [encS])
  rw [List.length_map] at hlen
  refine vc_ok hX.ok hX.fn 1000 _ _ ?_
  simp only [Tryd.f124, Option.get!]
  simp only [zS, hX.T, hX.nt, reduceIte, Nat.reduceEqDiff, Nat.reduceLT, Nat.reduceLeDiff, Nat.reduceAdd, Nat.reduceSub, Nat.reduceBEq, reduceCtorEq, Int.reduceNeg, bs_nil, bs_beq, bs_size, bs_append]
  refine Run.loop (α := Nat) (fun i => [(0, .v (.func (.yield l) #[] #[])), (1, .rp (encS s)), (2, .rp [.fn c ws]), (7, slF s.fs), (8, I s.fs.length), (9, I i)]) (fun _ => []) (fun i => i ≤ s.fs.length ∧ fstP p (s.fs.drop i) i = fstP p s.fs 0) (fun i => s.fs.length - i) 0 id ⟨Nat.zero_le _, rfl⟩ (.of hX.NL (by simp only [zS, hX.T, hX.nt, reduceIte, Nat.reduceEqDiff, Nat.reduceLT, Nat.reduceLeDiff, Nat.reduceAdd, Nat.reduceSub, Nat.reduceBEq, reduceCtorEq, Int.reduceNeg, bs_nil, bs_beq, bs_size, bs_append, ren, renL, renB] <;> rfl) rfl rfl) ?_
  intro i ⟨hi, hp⟩ ih
  refine hX.go ?_
  simp only [zS, hX.T, hX.nt, reduceIte, Nat.reduceEqDiff, Nat.reduceLT, Nat.reduceLeDiff, Nat.reduceAdd, Nat.reduceSub, Nat.reduceBEq, reduceCtorEq, Int.reduceNeg, bs_nil, bs_beq, bs_size, bs_append]
  refine bc_split (fun h => ?_) (fun h => ?_)
  · have h := of_decide_eq_true h
    have hlt : i < s.fs.length := by omega
    have hrow := row_nat encF s.fs i hlt
    rw [fstP_step hlt] at hp
    simp only [zS, hX.T, hX.nt, reduceIte, Nat.reduceEqDiff, Nat.reduceLT, Nat.reduceLeDiff, Nat.reduceAdd, Nat.reduceSub, Nat.reduceBEq, reduceCtorEq, Int.reduceNeg, bs_nil, bs_beq, bs_size, bs_append, h, Int.natCast_nonneg, hrow]
    cases hpf : p s.fs[i]
    · rw [if_neg (by simp [hpf])] at hp
      have q := hw s.fs[i]
      rw [hpf] at q
      refine hX.pure q rfl (by simp only [nfL, nf, encF, hn, Bool.true_and]) (by decide) ?_
      simp only [zS, hX.T, hX.nt, reduceIte, Nat.reduceEqDiff, Nat.reduceLT, Nat.reduceLeDiff, Nat.reduceAdd, Nat.reduceSub, Nat.reduceBEq, reduceCtorEq, Int.reduceNeg, bs_nil, bs_beq, bs_size, bs_append]
      refine ih (i + 1) id _ ⟨hlt, hp⟩ (by omega) (.of hX.NL (by simp only [zS, hX.T, hX.nt, reduceIte, Nat.reduceEqDiff, Nat.reduceLT, Nat.reduceLeDiff, Nat.reduceAdd, Nat.reduceSub, Nat.reduceBEq, reduceCtorEq, Int.reduceNeg, bs_nil, bs_beq, bs_size, bs_append, ren, renL, renB, wrap_succ hlt hlen] <;> rfl) rfl rfl)
    · rw [if_pos hpf] at hp
      have q := hw s.fs[i]
      rw [hpf] at q
      refine hX.pureN 4 q rfl (by simp only [nfL, nf, encF, hn, Bool.true_and]) (by decide) ?_
      simp only [zS, hX.T, hX.nt, reduceIte, Nat.reduceEqDiff, Nat.reduceLT, Nat.reduceLeDiff, Nat.reduceAdd, Nat.reduceSub, Nat.reduceBEq, reduceCtorEq, Int.reduceNeg, bs_nil, bs_beq, bs_size, bs_append]
      refine hX.yld _ hp.symm _ _ _ _ _ (.tmp 18) _ _ 21 rfl (by rfl) rfl (by simp only [zR, zS, hX.T, hX.nt, reduceIte, Nat.reduceEqDiff, Nat.reduceLT, Nat.reduceLeDiff, Nat.reduceAdd, Nat.reduceSub, Nat.reduceBEq, reduceCtorEq, Int.reduceNeg] <;> rfl) rfl (by decide) (fun X2 h2 => ?_)
      refine vo_ok h2.ok h2.fn 1000 _ _ _ _ ?_
      simp only [zS, hX.T, hX.nt, reduceIte, Nat.reduceEqDiff, Nat.reduceLT, Nat.reduceLeDiff, Nat.reduceAdd, Nat.reduceSub, Nat.reduceBEq, reduceCtorEq, Int.reduceNeg, bs_nil, bs_beq, bs_size, bs_append, plainE, h2.T, h2.nt]
      exact h2.ret _ _ (.inr rfl) rfl
  · have h := of_decide_eq_false h
    rw [fstP_end (by omega)] at hp
    simp only [zS, hX.T, hX.nt, reduceIte, Nat.reduceEqDiff, Nat.reduceLT, Nat.reduceLeDiff, Nat.reduceAdd, Nat.reduceSub, Nat.reduceBEq, reduceCtorEq, Int.reduceNeg, bs_nil, bs_beq, bs_size, bs_append]
    exact hX.ret hp.symm _ _ (.inl rfl) rfl
theorem p87 (s : Sch) (c : Nat) (ws : List AV) (p : Fld → Bool) (hn : nfL ws = true) (hw : ∀ f, PureFn Tryd.prog c (.agg (encF f) :: ws) (B (p f))) : PureFn Tryd.prog 87 [.agg (encS s), .fn c ws] (fndF (s.fs.find? p)) := by
  (refine PureFn.of_run ty_ok Tryd.func87 (c := Tryd.f87.body.get!) rfl (by decide) Tryd.ntmps87 (res := [.cell 4 45, .cell 5 4]) Tryd.results87 (Nat.le_of_ble_eq_true rfl) ?_; intro X hX hR; refine vc_ok hX.ok hX.fn 1000 _ _ ?_; simp only [Tryd.f87, Option.get!])
  simp only [zS, hX.T, hX.nt, reduceIte, Nat.reduceEqDiff, Nat.reduceLT, Nat.reduceLeDiff, Nat.reduceAdd, Nat.reduceSub, Nat.reduceBEq, reduceCtorEq, Int.reduceNeg, bs_nil, bs_beq, bs_size, bs_append]
  refine hX.pure (p85 s c ws hn) rfl (by simp only [nfL, nf, encS, hn, Bool.true_and, Bool.and_true]) (by decide) ?_
  simp only [zS, hX.T, hX.nt, reduceIte, Nat.reduceEqDiff, Nat.reduceLT, Nat.reduceLeDiff, Nat.reduceAdd, Nat.reduceSub, Nat.reduceBEq, reduceCtorEq, Int.reduceNeg, bs_nil, bs_beq, bs_size, bs_append]
  refine Run.range1 [4, 5] hX.ok hX.fn hX.ro hX.J rfl (by simp only [nfL, nf, Bool.and_true]) (hX.P ▸ it124 s c ws p hn hw) (by rfl) (by rw [hX.nt]; decide) ?_ ?_
  · intro ho
    have hf : s.fs.find? p = none := by
      rcases fstP_find (p := p) (l := s.fs) (i := 0) with ⟨h, _⟩ | ⟨f, j, _, h⟩
      · exact h
      · rw [h] at ho; cases ho
    rw [hf] at hX
    refine hX.go ?_
    simp only [zS, hX.T, hX.nt, reduceIte, Nat.reduceEqDiff, Nat.reduceLT, Nat.reduceLeDiff, Nat.reduceAdd, Nat.reduceSub, Nat.reduceBEq, reduceCtorEq, Int.reduceNeg, bs_nil, bs_beq, bs_size, bs_append]
    (refine hX.ret (by first | exact .inl rfl | exact .inr rfl) ?_; simp only [zR, zS, hX.T, hX.nt, reduceIte, Nat.reduceEqDiff, Nat.reduceLT, Nat.reduceLeDiff, Nat.reduceAdd, Nat.reduceSub, Nat.reduceBEq, reduceCtorEq, Int.reduceNeg, fndF, encF, Option.getD_none, Option.isSome_none, fld0, val0] <;> try rfl)
  · intro its ho
    obtain ⟨f, j, hf, rfl⟩ : ∃ f j, s.fs.find? p = some f ∧ its = [I j, .agg (encF f)] := by
      rcases fstP_find (p := p) (l := s.fs) (i := 0) with ⟨_, h⟩ | ⟨f, j, h1, h⟩
      · rw [h] at ho; cases ho
      · rw [h] at ho; injection ho with ho; exact ⟨f, j, h1, ho.symm⟩
    rw [hf] at hX
    refine ⟨rfl, fun X1 h1 => ?_⟩
    refine h1.go ?_
    simp only [zS, hX.T, hX.nt, reduceIte, Nat.reduceEqDiff, Nat.reduceLT, Nat.reduceLeDiff, Nat.reduceAdd, Nat.reduceSub, Nat.reduceBEq, reduceCtorEq, Int.reduceNeg, bs_nil, bs_beq, bs_size, bs_append, parE, h1.T, h1.nt]
    refine h1.begin _ _ (fun X2 h2 => ?_)
    refine h2.go ?_
    simp only [zS, hX.T, hX.nt, reduceIte, Nat.reduceEqDiff, Nat.reduceLT, Nat.reduceLeDiff, Nat.reduceAdd, Nat.reduceSub, Nat.reduceBEq, reduceCtorEq, Int.reduceNeg, bs_nil, bs_beq, bs_size, bs_append, parE, h2.T, h2.nt]
    refine h2.ret _ ?_
    refine hX.go ?_
    simp only [zS, hX.T, hX.nt, reduceIte, Nat.reduceEqDiff, Nat.reduceLT, Nat.reduceLeDiff, Nat.reduceAdd, Nat.reduceSub, Nat.reduceBEq, reduceCtorEq, Int.reduceNeg, bs_nil, bs_beq, bs_size, bs_append]
    (refine hX.ret (by first | exact .inl rfl | exact .inr rfl) ?_; simp only [zR, zS, hX.T, hX.nt, reduceIte, Nat.reduceEqDiff, Nat.reduceLT, Nat.reduceLeDiff, Nat.reduceAdd, Nat.reduceSub, Nat.reduceBEq, reduceCtorEq, Int.reduceNeg, fndF, Option.getD_some, Option.isSome_some, aft, inU, inUL, List.filter_cons, List.filter_nil, Option.isSome_none, Option.isSome_some] <;> try rfl)
end Go.Proofs.YtkbidoikndgheaaDoor.HL

namespace Go.Proofs.YtkbidoikndgheaaDoor.HL
open Go.Proofs
set_option maxRecDepth 100000
set_option maxHeartbeats 4000000
theorem p46 (s : Sch) (nm : Bs) : PureFn Tryd.prog 46 [.agg (encS s), Sb nm] (fndF (findN s.fs nm)) := by
  (refine PureFn.of_run ty_ok Tryd.func46 (c := Tryd.f46.body.get!) rfl (by decide) Tryd.ntmps46 (res := [.cell 4 45, .tmp 5]) Tryd.results46 (Nat.le_of_ble_eq_true rfl) ?_; intro X hX hR; refine vc_ok hX.ok hX.fn 1000 _ _ ?_; simp only [Tryd.f46, Option.get!])
  simp only [zS, hX.T, hX.nt, reduceIte, Nat.reduceEqDiff, Nat.reduceLT, Nat.reduceLeDiff, Nat.reduceAdd, Nat.reduceSub, Nat.reduceBEq, reduceCtorEq, Int.reduceNeg, bs_nil, bs_beq, bs_size, bs_append]
  refine hX.lend (p87 s 88 [.rp [Sb nm]] (fun f => f.name == nm) (by rfl) (fun f => p88 f nm)) (by simp only [zR, zS, hX.T, hX.nt, reduceIte, Nat.reduceEqDiff, Nat.reduceLT, Nat.reduceLeDiff, Nat.reduceAdd, Nat.reduceSub, Nat.reduceBEq, reduceCtorEq, Int.reduceNeg, nfL, nf, Bool.and_true, List.drop_zero] <;> rfl) rfl (by decide) ?_
  simp only [zS, hX.T, hX.nt, reduceIte, Nat.reduceEqDiff, Nat.reduceLT, Nat.reduceLeDiff, Nat.reduceAdd, Nat.reduceSub, Nat.reduceBEq, reduceCtorEq, Int.reduceNeg, bs_nil, bs_beq, bs_size, bs_append, fndF]
  (refine hX.ret (by first | exact .inl rfl | exact .inr rfl) ?_; simp only [zR, zS, hX.T, hX.nt, reduceIte, Nat.reduceEqDiff, Nat.reduceLT, Nat.reduceLeDiff, Nat.reduceAdd, Nat.reduceSub, Nat.reduceBEq, reduceCtorEq, Int.reduceNeg, fndF, findN] <;> try rfl)
theorem p48 (s : Sch) (n : Int) : PureFn Tryd.prog 48 [.agg (encS s), I n] (fndF (findI s.fs n)) := by
  (refine PureFn.of_run ty_ok Tryd.func48 (c := Tryd.f48.body.get!) rfl (by decide) Tryd.ntmps48 (res := [.cell 4 45, .tmp 5]) Tryd.results48 (Nat.le_of_ble_eq_true rfl) ?_; intro X hX hR; refine vc_ok hX.ok hX.fn 1000 _ _ ?_; simp only [Tryd.f48, Option.get!])
  simp only [zS, hX.T, hX.nt, reduceIte, Nat.reduceEqDiff, Nat.reduceLT, Nat.reduceLeDiff, Nat.reduceAdd, Nat.reduceSub, Nat.reduceBEq, reduceCtorEq, Int.reduceNeg, bs_nil, bs_beq, bs_size, bs_append]
  refine hX.lend (p87 s 89 [.rp [I n]] (fun f => f.id == n) (by rfl) (fun f => p89 f n)) (by simp only [zR, zS, hX.T, hX.nt, reduceIte, Nat.reduceEqDiff, Nat.reduceLT, Nat.reduceLeDiff, Nat.reduceAdd, Nat.reduceSub, Nat.reduceBEq, reduceCtorEq, Int.reduceNeg, nfL, nf, Bool.and_true, List.drop_zero] <;> rfl) rfl (by decide) ?_
  simp only [zS, hX.T, hX.nt, reduceIte, Nat.reduceEqDiff, Nat.reduceLT, Nat.reduceLeDiff, Nat.reduceAdd, Nat.reduceSub, Nat.reduceBEq, reduceCtorEq, Int.reduceNeg, bs_nil, bs_beq, bs_size, bs_append, fndF]
  (refine hX.ret (by first | exact .inl rfl | exact .inr rfl) ?_; simp only [zR, zS, hX.T, hX.nt, reduceIte, Nat.reduceEqDiff, Nat.reduceLT, Nat.reduceLeDiff, Nat.reduceAdd, Nat.reduceSub, Nat.reduceBEq, reduceCtorEq, Int.reduceNeg, fndF, findI] <;> try rfl)
theorem p44 (s : Sch) : PureFn Tryd.prog 44 [.agg (encS s)] (B (rightS s)) := by
  have q1 := p75 s.ver 1 1000000
  have q2 := p75 s.next 1 1000
  have q3 := p75 s.fs.length 1 12
  by_cases hb : (1 ≤ s.ver ∧ s.ver ≤ 1000000) ∧ (1 ≤ s.next ∧ s.next ≤ 1000) ∧ 1 ≤ s.fs.length ∧ s.fs.length ≤ 12
  · obtain ⟨⟨b1, b2⟩, ⟨b3, b4⟩, b5, b6⟩ := hb
    have e0 : rightS s = rightFs s.next [] s.fs := by simp [rightS, b1, b2, b3, b4, b5, b6]
    rw [e0]
    rw [show (decide (1 ≤ s.ver) && decide (s.ver ≤ 1000000)) = true by simp [b1, b2]] at q1
    rw [show (decide (1 ≤ s.next) && decide (s.next ≤ 1000)) = true by simp [b3, b4]] at q2
    rw [show (decide ((1 : Int) ≤ (s.fs.length : Int)) && decide ((s.fs.length : Int) ≤ 12)) = true by simp; omega] at q3
    have hw : IntKind.i64.wrap (s.next - 1) = s.next - 1 := wrap_id (by omega) (by omega)
    (refine PureFn.of_run ty_ok Tryd.func44 (c := Tryd.f44.body.get!) rfl (by decide) Tryd.ntmps44 (res := [.cell 2 4]) Tryd.results44 (Nat.le_of_ble_eq_true rfl) ?_; intro X hX hR; refine vc_ok hX.ok hX.fn 1000 _ _ ?_; simp only [Tryd.f44, Option.get!])
    have hlen : s.fs.length ≤ 9223372036854775807 := by omega
    simp only [zS, hX.T, hX.nt, reduceIte, Nat.reduceEqDiff, Nat.reduceLT, Nat.reduceLeDiff, Nat.reduceAdd, Nat.reduceSub, Nat.reduceBEq, reduceCtorEq, Int.reduceNeg, bs_nil, bs_beq, bs_size, bs_append]
    refine hX.pure q1 rfl rfl (by decide) ?_
    simp only [zS, hX.T, hX.nt, reduceIte, Nat.reduceEqDiff, Nat.reduceLT, Nat.reduceLeDiff, Nat.reduceAdd, Nat.reduceSub, Nat.reduceBEq, reduceCtorEq, Int.reduceNeg, bs_nil, bs_beq, bs_size, bs_append]
    refine hX.pure q2 rfl rfl (by decide) ?_
    simp only [zS, hX.T, hX.nt, reduceIte, Nat.reduceEqDiff, Nat.reduceLT, Nat.reduceLeDiff, Nat.reduceAdd, Nat.reduceSub, Nat.reduceBEq, reduceCtorEq, Int.reduceNeg, bs_nil, bs_beq, bs_size, bs_append]
    refine hX.pure q3 rfl rfl (by decide) ?_
    simp only [zS, hX.T, hX.nt, reduceIte, Nat.reduceEqDiff, Nat.reduceLT, Nat.reduceLeDiff, Nat.reduceAdd, Nat.reduceSub, Nat.reduceBEq, reduceCtorEq, Int.reduceNeg, bs_nil, bs_beq, bs_size, bs_append]
    refine Run.loop (α := Nat) (fun i => [(1, .pt 1 0), (2, .pt 2 0), (23, slF s.fs), (24, I s.fs.length), (25, I i)]) (fun _ => [(1, .box 35 (encS s)), (2, .box 4 [B false])]) (fun i => i ≤ s.fs.length ∧ rightFs s.next (s.fs.take i) (s.fs.drop i) = rightFs s.next [] s.fs) (fun i => s.fs.length - i) 0 id ⟨Nat.zero_le _, rfl⟩ (.of hX.NL (by simp only [zS, hX.T, hX.nt, reduceIte, Nat.reduceEqDiff, Nat.reduceLT, Nat.reduceLeDiff, Nat.reduceAdd, Nat.reduceSub, Nat.reduceBEq, reduceCtorEq, Int.reduceNeg, bs_nil, bs_beq, bs_size, bs_append, ren, renL, renB] <;> rfl) (by simp only [zS, hX.T, hX.nt, reduceIte, Nat.reduceEqDiff, Nat.reduceLT, Nat.reduceLeDiff, Nat.reduceAdd, Nat.reduceSub, Nat.reduceBEq, reduceCtorEq, Int.reduceNeg, bs_nil, bs_beq, bs_size, bs_append, ren, renL, renB] <;> rfl) rfl) ?_
    intro i ⟨hi, hn⟩ ih
    refine hX.go ?_
    simp only [zS, hX.T, hX.nt, reduceIte, Nat.reduceEqDiff, Nat.reduceLT, Nat.reduceLeDiff, Nat.reduceAdd, Nat.reduceSub, Nat.reduceBEq, reduceCtorEq, Int.reduceNeg, bs_nil, bs_beq, bs_size, bs_append]
    refine bc_split (fun h => ?_) (fun h => ?_)
    · have h := of_decide_eq_true h
      have hlt : i < s.fs.length := by omega
      have hrow := row_nat encF s.fs i hlt
      rw [rightFs_step hlt] at hn
      simp only [zS, hX.T, hX.nt, reduceIte, Nat.reduceEqDiff, Nat.reduceLT, Nat.reduceLeDiff, Nat.reduceAdd, Nat.reduceSub, Nat.reduceBEq, reduceCtorEq, Int.reduceNeg, bs_nil, bs_beq, bs_size, bs_append, h, Int.natCast_nonneg, hrow, hw]
      cases hr : rightF s.fs[i] s.next
      · rw [hr, Bool.false_and, Bool.false_and] at hn
        rw [← hn] at hX
        repeat' first | (refine bc_split (fun h => ?_) (fun h => ?_) <;> simp only [zS, hX.T, hX.nt, reduceIte, Nat.reduceEqDiff, Nat.reduceLT, Nat.reduceLeDiff, Nat.reduceAdd, Nat.reduceSub, Nat.reduceBEq, reduceCtorEq, Int.reduceNeg, bs_nil, bs_beq, bs_size, bs_append, zS, hw, h]) | (refine bg_split (fun h => ?_) (fun h => ?_) <;> simp only [zS, hX.T, hX.nt, reduceIte, Nat.reduceEqDiff, Nat.reduceLT, Nat.reduceLeDiff, Nat.reduceAdd, Nat.reduceSub, Nat.reduceBEq, reduceCtorEq, Int.reduceNeg, bs_nil, bs_beq, bs_size, bs_append, zS, hw, h]) | (refine pb_split (fun h => ?_) (fun h => ?_) <;> simp only [zS, hX.T, hX.nt, reduceIte, Nat.reduceEqDiff, Nat.reduceLT, Nat.reduceLeDiff, Nat.reduceAdd, Nat.reduceSub, Nat.reduceBEq, reduceCtorEq, Int.reduceNeg, bs_nil, bs_beq, bs_size, bs_append, zS, hw, h]) | (refine hX.gos (by rfl) ?_; simp only [zS, hX.T, hX.nt, reduceIte, Nat.reduceEqDiff, Nat.reduceLT, Nat.reduceLeDiff, Nat.reduceAdd, Nat.reduceSub, Nat.reduceBEq, reduceCtorEq, Int.reduceNeg, bs_nil, bs_beq, bs_size, bs_append, zS, hw]) | (refine hX.pure (p75 s.fs[i].id 1 (s.next - 1)) rfl rfl (by decide) ?_; simp only [zS, hX.T, hX.nt, reduceIte, Nat.reduceEqDiff, Nat.reduceLT, Nat.reduceLeDiff, Nat.reduceAdd, Nat.reduceSub, Nat.reduceBEq, reduceCtorEq, Int.reduceNeg, bs_nil, bs_beq, bs_size, bs_append, zS, hw]) | (refine hX.pureD (p75 s.fs[i].id 1 (s.next - 1)) rfl rfl (by decide) ?_; simp only [zS, hX.T, hX.nt, reduceIte, Nat.reduceEqDiff, Nat.reduceLT, Nat.reduceLeDiff, Nat.reduceAdd, Nat.reduceSub, Nat.reduceBEq, reduceCtorEq, Int.reduceNeg, bs_nil, bs_beq, bs_size, bs_append, zS, hw]) | (refine hX.pure (p49 s.fs[i].name) rfl rfl (by decide) ?_; simp only [zS, hX.T, hX.nt, reduceIte, Nat.reduceEqDiff, Nat.reduceLT, Nat.reduceLeDiff, Nat.reduceAdd, Nat.reduceSub, Nat.reduceBEq, reduceCtorEq, Int.reduceNeg, bs_nil, bs_beq, bs_size, bs_append, zS, hw]) | (refine hX.pureD (p49 s.fs[i].name) rfl rfl (by decide) ?_; simp only [zS, hX.T, hX.nt, reduceIte, Nat.reduceEqDiff, Nat.reduceLT, Nat.reduceLeDiff, Nat.reduceAdd, Nat.reduceSub, Nat.reduceBEq, reduceCtorEq, Int.reduceNeg, bs_nil, bs_beq, bs_size, bs_append, zS, hw]) | (refine hX.pure (p84 s.fs[i].d) rfl rfl (by decide) ?_; simp only [zS, hX.T, hX.nt, reduceIte, Nat.reduceEqDiff, Nat.reduceLT, Nat.reduceLeDiff, Nat.reduceAdd, Nat.reduceSub, Nat.reduceBEq, reduceCtorEq, Int.reduceNeg, bs_nil, bs_beq, bs_size, bs_append, zS, hw]) | (refine hX.pureD (p84 s.fs[i].d) rfl rfl (by decide) ?_; simp only [zS, hX.T, hX.nt, reduceIte, Nat.reduceEqDiff, Nat.reduceLT, Nat.reduceLeDiff, Nat.reduceAdd, Nat.reduceSub, Nat.reduceBEq, reduceCtorEq, Int.reduceNeg, bs_nil, bs_beq, bs_size, bs_append, zS, hw])
        all_goals first
          | (exfalso; clear hX hR ih q1 q2 q3; simp only [rightF] at hr; grind)
          | ((refine hX.ret (by first | exact .inl rfl | exact .inr rfl) ?_; simp only [zR, zS, hX.T, hX.nt, reduceIte, Nat.reduceEqDiff, Nat.reduceLT, Nat.reduceLeDiff, Nat.reduceAdd, Nat.reduceSub, Nat.reduceBEq, reduceCtorEq, Int.reduceNeg] <;> try rfl); done)
      · rw [hr, Bool.true_and] at hn
        have hr' := hr
        simp only [rightF, Bool.and_eq_true, decide_eq_true_eq, beq_iff_eq] at hr'
        obtain ⟨⟨⟨⟨r1, r2⟩, r3⟩, r4⟩, r5⟩ := hr'
        have q4 := p75 s.fs[i].id 1 (s.next - 1)
        rw [show (decide (1 ≤ s.fs[i].id) && decide (s.fs[i].id ≤ s.next - 1)) = true by simp; omega] at q4
        have q5 := p49 s.fs[i].name
        rw [r3] at q5
        have q6 := p84 s.fs[i].d
        rw [r4] at q6
        have hne : (s.fs[i].d.k != s.fs[i].kind) = false := by simp [r5]
        refine hX.pure q4 rfl rfl (by decide) ?_
        simp only [zS, hX.T, hX.nt, reduceIte, Nat.reduceEqDiff, Nat.reduceLT, Nat.reduceLeDiff, Nat.reduceAdd, Nat.reduceSub, Nat.reduceBEq, reduceCtorEq, Int.reduceNeg, bs_nil, bs_beq, bs_size, bs_append]
        refine hX.pure q5 rfl rfl (by decide) ?_
        simp only [zS, hX.T, hX.nt, reduceIte, Nat.reduceEqDiff, Nat.reduceLT, Nat.reduceLeDiff, Nat.reduceAdd, Nat.reduceSub, Nat.reduceBEq, reduceCtorEq, Int.reduceNeg, bs_nil, bs_beq, bs_size, bs_append, hne]
        refine hX.pureN 6 q6 rfl rfl (by decide) ?_
        simp only [zS, hX.T, hX.nt, reduceIte, Nat.reduceEqDiff, Nat.reduceLT, Nat.reduceLeDiff, Nat.reduceAdd, Nat.reduceSub, Nat.reduceBEq, reduceCtorEq, Int.reduceNeg, bs_nil, bs_beq, bs_size, bs_append]
        refine Run.frzs [4] ?_
        refine Run.weaken (σ := id) (e := [(1, .pt 1 0), (2, .pt 2 0), (3, I i), (4, .rp (encF s.fs[i])), (23, slF s.fs), (24, I s.fs.length), (25, I i)]) (L := [(1, .box 35 (encS s)), (2, .box 4 [B false])]) (.of hX.NL (by simp only [zS, hX.T, hX.nt, reduceIte, Nat.reduceEqDiff, Nat.reduceLT, Nat.reduceLeDiff, Nat.reduceAdd, Nat.reduceSub, Nat.reduceBEq, reduceCtorEq, Int.reduceNeg, bs_nil, bs_beq, bs_size, bs_append, ren, renL, renB, frzSt, bZ, cv, cvL, frzB, nfL, nf, Option.getD_some] <;> rfl) (by simp only [zS, hX.T, hX.nt, reduceIte, Nat.reduceEqDiff, Nat.reduceLT, Nat.reduceLeDiff, Nat.reduceAdd, Nat.reduceSub, Nat.reduceBEq, reduceCtorEq, Int.reduceNeg, bs_nil, bs_beq, bs_size, bs_append, ren, renL, renB, frzSt, bZ, cv, cvL, frzB, nfL, nf, Option.getD_some] <;> rfl) rfl) ?_
        refine hX.go ?_
        have hmt : List.take i (List.map encF s.fs) = List.map encF (s.fs.take i) := (List.map_take ..).symm
        have hi' : (i : Int) ≤ (s.fs.length : Int) := by omega
        simp only [zS, hX.T, hX.nt, reduceIte, Nat.reduceEqDiff, Nat.reduceLT, Nat.reduceLeDiff, Nat.reduceAdd, Nat.reduceSub, Nat.reduceBEq, reduceCtorEq, Int.reduceNeg, bs_nil, bs_beq, bs_size, bs_append, hi', Int.le_refl, Int.natCast_nonneg, Int.toNat_natCast, Int.toNat_zero, Nat.sub_zero, hmt]
        refine hX.pure (p85 ⟨0, 0, s.fs.take i⟩ 86 [.rp (encF s.fs[i])] (by rfl)) rfl (by rfl) (by decide) ?_
        simp only [zS, hX.T, hX.nt, reduceIte, Nat.reduceEqDiff, Nat.reduceLT, Nat.reduceLeDiff, Nat.reduceAdd, Nat.reduceSub, Nat.reduceBEq, reduceCtorEq, Int.reduceNeg, bs_nil, bs_beq, bs_size, bs_append]
        refine Run.range1 [1, 2] hX.ok hX.fn hX.ro hX.J rfl (by rfl) (hX.P ▸ it124 ⟨0, 0, s.fs.take i⟩ 86 [.rp (encF s.fs[i])] (fun f => clash s.fs[i] f) (by rfl) (fun f => p86 f s.fs[i])) (by rfl) (by rw [hX.nt]; decide) ?_ ?_
        · intro ho
          have hf : (s.fs.take i).any (clash s.fs[i]) = false := by
            rcases fstP_find (p := fun f => clash s.fs[i] f) (l := s.fs.take i) (i := 0) with ⟨h, _⟩ | ⟨f, j, _, h⟩
            · rw [List.find?_eq_none] at h
              rw [List.any_eq_false]
              exact h
            · rw [h] at ho; cases ho
          rw [hf] at hn
          refine hX.go ?_
          simp only [zS, hX.T, hX.nt, reduceIte, Nat.reduceEqDiff, Nat.reduceLT, Nat.reduceLeDiff, Nat.reduceAdd, Nat.reduceSub, Nat.reduceBEq, reduceCtorEq, Int.reduceNeg, bs_nil, bs_beq, bs_size, bs_append]
          refine ih (i + 1) id _ ⟨hlt, by rw [← hn]; simp⟩ (by omega) (.of hX.NL (by simp only [zS, hX.T, hX.nt, reduceIte, Nat.reduceEqDiff, Nat.reduceLT, Nat.reduceLeDiff, Nat.reduceAdd, Nat.reduceSub, Nat.reduceBEq, reduceCtorEq, Int.reduceNeg, bs_nil, bs_beq, bs_size, bs_append, ren, renL, renB, wrap_succ hlt hlen] <;> rfl) (by simp only [zS, hX.T, hX.nt, reduceIte, Nat.reduceEqDiff, Nat.reduceLT, Nat.reduceLeDiff, Nat.reduceAdd, Nat.reduceSub, Nat.reduceBEq, reduceCtorEq, Int.reduceNeg, bs_nil, bs_beq, bs_size, bs_append, ren, renL, renB] <;> rfl) rfl)
        · intro its ho
          obtain ⟨f, j, hf, rfl⟩ : ∃ f j, (s.fs.take i).find? (clash s.fs[i]) = some f ∧ its = [I j, .agg (encF f)] := by
            rcases fstP_find (p := fun f => clash s.fs[i] f) (l := s.fs.take i) (i := 0) with ⟨_, h⟩ | ⟨f, j, h1, h⟩
            · rw [h] at ho; cases ho
            · rw [h] at ho; injection ho with ho; exact ⟨f, j, h1, ho.symm⟩
          have hf2 : (s.fs.take i).any (clash s.fs[i]) = true := List.any_eq_true.2 ⟨f, List.mem_of_find?_eq_some hf, List.find?_some hf⟩
          rw [hf2, Bool.not_true, Bool.false_and] at hn
          rw [← hn] at hX
          refine ⟨rfl, fun X1 h1 => ?_⟩
          refine h1.go ?_
          simp only [zS, hX.T, hX.nt, reduceIte, Nat.reduceEqDiff, Nat.reduceLT, Nat.reduceLeDiff, Nat.reduceAdd, Nat.reduceSub, Nat.reduceBEq, reduceCtorEq, Int.reduceNeg, bs_nil, bs_beq, bs_size, bs_append, parE, h1.T, h1.nt]
          refine h1.begin _ _ (fun X2 h2 => ?_)
          refine h2.go ?_
          simp only [zS, hX.T, hX.nt, reduceIte, Nat.reduceEqDiff, Nat.reduceLT, Nat.reduceLeDiff, Nat.reduceAdd, Nat.reduceSub, Nat.reduceBEq, reduceCtorEq, Int.reduceNeg, bs_nil, bs_beq, bs_size, bs_append, parE, h2.T, h2.nt]
          refine h2.ret _ ?_
          refine hX.go ?_
          simp only [zS, hX.T, hX.nt, reduceIte, Nat.reduceEqDiff, Nat.reduceLT, Nat.reduceLeDiff, Nat.reduceAdd, Nat.reduceSub, Nat.reduceBEq, reduceCtorEq, Int.reduceNeg, bs_nil, bs_beq, bs_size, bs_append]
          (refine hX.ret (by first | exact .inl rfl | exact .inr rfl) ?_; simp only [zR, zS, hX.T, hX.nt, reduceIte, Nat.reduceEqDiff, Nat.reduceLT, Nat.reduceLeDiff, Nat.reduceAdd, Nat.reduceSub, Nat.reduceBEq, reduceCtorEq, Int.reduceNeg, aft, inU, inUL, List.filter_cons, List.filter_nil, Option.isSome_none, Option.isSome_some] <;> try rfl)
    · have h := of_decide_eq_false h
      rw [rightFs_end (by omega)] at hn
      rw [← hn] at hX
      simp only [zS, hX.T, hX.nt, reduceIte, Nat.reduceEqDiff, Nat.reduceLT, Nat.reduceLeDiff, Nat.reduceAdd, Nat.reduceSub, Nat.reduceBEq, reduceCtorEq, Int.reduceNeg, bs_nil, bs_beq, bs_size, bs_append]
      (refine hX.ret (by first | exact .inl rfl | exact .inr rfl) ?_; simp only [zR, zS, hX.T, hX.nt, reduceIte, Nat.reduceEqDiff, Nat.reduceLT, Nat.reduceLeDiff, Nat.reduceAdd, Nat.reduceSub, Nat.reduceBEq, reduceCtorEq, Int.reduceNeg] <;> try rfl)
  · (refine PureFn.of_run ty_ok Tryd.func44 (c := Tryd.f44.body.get!) rfl (by decide) Tryd.ntmps44 (res := [.cell 2 4]) Tryd.results44 (Nat.le_of_ble_eq_true rfl) ?_; intro X hX hR; refine vc_ok hX.ok hX.fn 1000 _ _ ?_; simp only [Tryd.f44, Option.get!])
    simp only [zS, hX.T, hX.nt, reduceIte, Nat.reduceEqDiff, Nat.reduceLT, Nat.reduceLeDiff, Nat.reduceAdd, Nat.reduceSub, Nat.reduceBEq, reduceCtorEq, Int.reduceNeg, bs_nil, bs_beq, bs_size, bs_append]
    repeat' first | (refine bc_split (fun h => ?_) (fun h => ?_) <;> simp only [zS, hX.T, hX.nt, reduceIte, Nat.reduceEqDiff, Nat.reduceLT, Nat.reduceLeDiff, Nat.reduceAdd, Nat.reduceSub, Nat.reduceBEq, reduceCtorEq, Int.reduceNeg, bs_nil, bs_beq, bs_size, bs_append, zS, h]) | (refine bg_split (fun h => ?_) (fun h => ?_) <;> simp only [zS, hX.T, hX.nt, reduceIte, Nat.reduceEqDiff, Nat.reduceLT, Nat.reduceLeDiff, Nat.reduceAdd, Nat.reduceSub, Nat.reduceBEq, reduceCtorEq, Int.reduceNeg, bs_nil, bs_beq, bs_size, bs_append, zS, h]) | (refine pb_split (fun h => ?_) (fun h => ?_) <;> simp only [zS, hX.T, hX.nt, reduceIte, Nat.reduceEqDiff, Nat.reduceLT, Nat.reduceLeDiff, Nat.reduceAdd, Nat.reduceSub, Nat.reduceBEq, reduceCtorEq, Int.reduceNeg, bs_nil, bs_beq, bs_size, bs_append, zS, h]) | (refine hX.gos (by rfl) ?_; simp only [zS, hX.T, hX.nt, reduceIte, Nat.reduceEqDiff, Nat.reduceLT, Nat.reduceLeDiff, Nat.reduceAdd, Nat.reduceSub, Nat.reduceBEq, reduceCtorEq, Int.reduceNeg, bs_nil, bs_beq, bs_size, bs_append, zS]) | (refine hX.pure (p75 s.ver 1 1000000) rfl rfl (by decide) ?_; simp only [zS, hX.T, hX.nt, reduceIte, Nat.reduceEqDiff, Nat.reduceLT, Nat.reduceLeDiff, Nat.reduceAdd, Nat.reduceSub, Nat.reduceBEq, reduceCtorEq, Int.reduceNeg, bs_nil, bs_beq, bs_size, bs_append, zS]) | (refine hX.pureD (p75 s.ver 1 1000000) rfl rfl (by decide) ?_; simp only [zS, hX.T, hX.nt, reduceIte, Nat.reduceEqDiff, Nat.reduceLT, Nat.reduceLeDiff, Nat.reduceAdd, Nat.reduceSub, Nat.reduceBEq, reduceCtorEq, Int.reduceNeg, bs_nil, bs_beq, bs_size, bs_append, zS]) | (refine hX.pure (p75 s.next 1 1000) rfl rfl (by decide) ?_; simp only [zS, hX.T, hX.nt, reduceIte, Nat.reduceEqDiff, Nat.reduceLT, Nat.reduceLeDiff, Nat.reduceAdd, Nat.reduceSub, Nat.reduceBEq, reduceCtorEq, Int.reduceNeg, bs_nil, bs_beq, bs_size, bs_append, zS]) | (refine hX.pureD (p75 s.next 1 1000) rfl rfl (by decide) ?_; simp only [zS, hX.T, hX.nt, reduceIte, Nat.reduceEqDiff, Nat.reduceLT, Nat.reduceLeDiff, Nat.reduceAdd, Nat.reduceSub, Nat.reduceBEq, reduceCtorEq, Int.reduceNeg, bs_nil, bs_beq, bs_size, bs_append, zS]) | (refine hX.pure (p75 s.fs.length 1 12) rfl rfl (by decide) ?_; simp only [zS, hX.T, hX.nt, reduceIte, Nat.reduceEqDiff, Nat.reduceLT, Nat.reduceLeDiff, Nat.reduceAdd, Nat.reduceSub, Nat.reduceBEq, reduceCtorEq, Int.reduceNeg, bs_nil, bs_beq, bs_size, bs_append, zS]) | (refine hX.pureD (p75 s.fs.length 1 12) rfl rfl (by decide) ?_; simp only [zS, hX.T, hX.nt, reduceIte, Nat.reduceEqDiff, Nat.reduceLT, Nat.reduceLeDiff, Nat.reduceAdd, Nat.reduceSub, Nat.reduceBEq, reduceCtorEq, Int.reduceNeg, bs_nil, bs_beq, bs_size, bs_append, zS])
    all_goals first
      | (exfalso; clear hX hR q1 q2 q3; grind)
      | ((refine hX.ret (by first | exact .inl rfl | exact .inr rfl) ?_; simp only [zR, zS, hX.T, hX.nt, reduceIte, Nat.reduceEqDiff, Nat.reduceLT, Nat.reduceLeDiff, Nat.reduceAdd, Nat.reduceSub, Nat.reduceBEq, reduceCtorEq, Int.reduceNeg] <;> try rfl); clear hX hR q1 q2 q3; grind [rightS])
end Go.Proofs.YtkbidoikndgheaaDoor.HL

namespace Go.Proofs.YtkbidoikndgheaaDoor.HL
open Go.Proofs
set_option maxRecDepth 100000
set_option maxHeartbeats 4000000
theorem p155 (s : Sch) (nm : Bs) : PureFn Tryd.prog 155 [.agg (encS s), Sb nm] (I (freshN s nm)) := by
  have q := p46 s nm
  (refine PureFn.of_run ty_ok Tryd.func155 (c := Tryd.f155.body.get!) rfl (by decide) Tryd.ntmps155 (res := [.tmp 4]) Tryd.results155 (Nat.le_of_ble_eq_true rfl) ?_; intro X hX hR; refine vc_ok hX.ok hX.fn 1000 _ _ ?_; simp only [Tryd.f155, Option.get!])
  simp only [zS, hX.T, hX.nt, reduceIte, Nat.reduceEqDiff, Nat.reduceLT, Nat.reduceLeDiff, Nat.reduceAdd, Nat.reduceSub, Nat.reduceBEq, reduceCtorEq, Int.reduceNeg, bs_nil, bs_beq, bs_size, bs_append]
  repeat' first | (refine bc_split (fun h => ?_) (fun h => ?_) <;> simp only [zS, hX.T, hX.nt, reduceIte, Nat.reduceEqDiff, Nat.reduceLT, Nat.reduceLeDiff, Nat.reduceAdd, Nat.reduceSub, Nat.reduceBEq, reduceCtorEq, Int.reduceNeg, bs_nil, bs_beq, bs_size, bs_append, zS, fndF, h]) | (refine bg_split (fun h => ?_) (fun h => ?_) <;> simp only [zS, hX.T, hX.nt, reduceIte, Nat.reduceEqDiff, Nat.reduceLT, Nat.reduceLeDiff, Nat.reduceAdd, Nat.reduceSub, Nat.reduceBEq, reduceCtorEq, Int.reduceNeg, bs_nil, bs_beq, bs_size, bs_append, zS, fndF, h]) | (refine pb_split (fun h => ?_) (fun h => ?_) <;> simp only [zS, hX.T, hX.nt, reduceIte, Nat.reduceEqDiff, Nat.reduceLT, Nat.reduceLeDiff, Nat.reduceAdd, Nat.reduceSub, Nat.reduceBEq, reduceCtorEq, Int.reduceNeg, bs_nil, bs_beq, bs_size, bs_append, zS, fndF, h]) | (refine hX.gos (by rfl) ?_; simp only [zS, hX.T, hX.nt, reduceIte, Nat.reduceEqDiff, Nat.reduceLT, Nat.reduceLeDiff, Nat.reduceAdd, Nat.reduceSub, Nat.reduceBEq, reduceCtorEq, Int.reduceNeg, bs_nil, bs_beq, bs_size, bs_append, zS, fndF]) | (refine hX.pure (p49 nm) rfl rfl (by decide) ?_; simp only [zS, hX.T, hX.nt, reduceIte, Nat.reduceEqDiff, Nat.reduceLT, Nat.reduceLeDiff, Nat.reduceAdd, Nat.reduceSub, Nat.reduceBEq, reduceCtorEq, Int.reduceNeg, bs_nil, bs_beq, bs_size, bs_append, zS, fndF]) | (refine hX.pureD (p49 nm) rfl rfl (by decide) ?_; simp only [zS, hX.T, hX.nt, reduceIte, Nat.reduceEqDiff, Nat.reduceLT, Nat.reduceLeDiff, Nat.reduceAdd, Nat.reduceSub, Nat.reduceBEq, reduceCtorEq, Int.reduceNeg, bs_nil, bs_beq, bs_size, bs_append, zS, fndF]) | (refine hX.pure (q) rfl rfl (by decide) ?_; simp only [zS, hX.T, hX.nt, reduceIte, Nat.reduceEqDiff, Nat.reduceLT, Nat.reduceLeDiff, Nat.reduceAdd, Nat.reduceSub, Nat.reduceBEq, reduceCtorEq, Int.reduceNeg, bs_nil, bs_beq, bs_size, bs_append, zS, fndF]) | (refine hX.pureD (q) rfl rfl (by decide) ?_; simp only [zS, hX.T, hX.nt, reduceIte, Nat.reduceEqDiff, Nat.reduceLT, Nat.reduceLeDiff, Nat.reduceAdd, Nat.reduceSub, Nat.reduceBEq, reduceCtorEq, Int.reduceNeg, bs_nil, bs_beq, bs_size, bs_append, zS, fndF])
  all_goals ((refine hX.ret (by first | exact .inl rfl | exact .inr rfl) ?_; simp only [zR, zS, hX.T, hX.nt, reduceIte, Nat.reduceEqDiff, Nat.reduceLT, Nat.reduceLeDiff, Nat.reduceAdd, Nat.reduceSub, Nat.reduceBEq, reduceCtorEq, Int.reduceNeg] <;> try rfl); clear hX hR q; grind [freshN])
theorem p140 (s : Sch) (a : Alt) (h1 : a.op = 1) : PureFn Tryd.prog 140 [.agg (encS s), .agg (encA a)] (I (rule s a)) := by
  (refine PureFn.of_run ty_ok Tryd.func140 (c := Tryd.f140.body.get!) rfl (by decide) Tryd.ntmps140 (res := [.tmp 4]) Tryd.results140 (Nat.le_of_ble_eq_true rfl) ?_; intro X hX hR; refine vc_ok hX.ok hX.fn 1000 _ _ ?_; simp only [Tryd.f140, Option.get!])
  simp only [zS, hX.T, hX.nt, reduceIte, Nat.reduceEqDiff, Nat.reduceLT, Nat.reduceLeDiff, Nat.reduceAdd, Nat.reduceSub, Nat.reduceBEq, reduceCtorEq, Int.reduceNeg, bs_nil, bs_beq, bs_size, bs_append]
  repeat' first | (refine bc_split (fun h => ?_) (fun h => ?_) <;> simp only [zS, hX.T, hX.nt, reduceIte, Nat.reduceEqDiff, Nat.reduceLT, Nat.reduceLeDiff, Nat.reduceAdd, Nat.reduceSub, Nat.reduceBEq, reduceCtorEq, Int.reduceNeg, bs_nil, bs_beq, bs_size, bs_append, zS, h]) | (refine bg_split (fun h => ?_) (fun h => ?_) <;> simp only [zS, hX.T, hX.nt, reduceIte, Nat.reduceEqDiff, Nat.reduceLT, Nat.reduceLeDiff, Nat.reduceAdd, Nat.reduceSub, Nat.reduceBEq, reduceCtorEq, Int.reduceNeg, bs_nil, bs_beq, bs_size, bs_append, zS, h]) | (refine pb_split (fun h => ?_) (fun h => ?_) <;> simp only [zS, hX.T, hX.nt, reduceIte, Nat.reduceEqDiff, Nat.reduceLT, Nat.reduceLeDiff, Nat.reduceAdd, Nat.reduceSub, Nat.reduceBEq, reduceCtorEq, Int.reduceNeg, bs_nil, bs_beq, bs_size, bs_append, zS, h]) | (refine hX.gos (by rfl) ?_; simp only [zS, hX.T, hX.nt, reduceIte, Nat.reduceEqDiff, Nat.reduceLT, Nat.reduceLeDiff, Nat.reduceAdd, Nat.reduceSub, Nat.reduceBEq, reduceCtorEq, Int.reduceNeg, bs_nil, bs_beq, bs_size, bs_append, zS]) | (refine hX.pure (p155 s a.name) rfl rfl (by decide) ?_; simp only [zS, hX.T, hX.nt, reduceIte, Nat.reduceEqDiff, Nat.reduceLT, Nat.reduceLeDiff, Nat.reduceAdd, Nat.reduceSub, Nat.reduceBEq, reduceCtorEq, Int.reduceNeg, bs_nil, bs_beq, bs_size, bs_append, zS]) | (refine hX.pureD (p155 s a.name) rfl rfl (by decide) ?_; simp only [zS, hX.T, hX.nt, reduceIte, Nat.reduceEqDiff, Nat.reduceLT, Nat.reduceLeDiff, Nat.reduceAdd, Nat.reduceSub, Nat.reduceBEq, reduceCtorEq, Int.reduceNeg, bs_nil, bs_beq, bs_size, bs_append, zS]) | (refine hX.pure (p84 a.d) rfl rfl (by decide) ?_; simp only [zS, hX.T, hX.nt, reduceIte, Nat.reduceEqDiff, Nat.reduceLT, Nat.reduceLeDiff, Nat.reduceAdd, Nat.reduceSub, Nat.reduceBEq, reduceCtorEq, Int.reduceNeg, bs_nil, bs_beq, bs_size, bs_append, zS]) | (refine hX.pureD (p84 a.d) rfl rfl (by decide) ?_; simp only [zS, hX.T, hX.nt, reduceIte, Nat.reduceEqDiff, Nat.reduceLT, Nat.reduceLeDiff, Nat.reduceAdd, Nat.reduceSub, Nat.reduceBEq, reduceCtorEq, Int.reduceNeg, bs_nil, bs_beq, bs_size, bs_append, zS])
  all_goals ((refine hX.ret (by first | exact .inl rfl | exact .inr rfl) ?_; simp only [zR, zS, hX.T, hX.nt, reduceIte, Nat.reduceEqDiff, Nat.reduceLT, Nat.reduceLeDiff, Nat.reduceAdd, Nat.reduceSub, Nat.reduceBEq, reduceCtorEq, Int.reduceNeg] <;> try rfl); clear hX hR; grind [rule])
theorem p139 (s : Sch) (a : Alt) (h1 : a.op = 2 ∨ a.op = 3 ∨ a.op = 4) : PureFn Tryd.prog 139 [.agg (encS s), .agg (encA a)] (I (rule s a)) := by
  have q := p46 s a.name
  rcases h1 with h1 | h1 | h1
  all_goals
    (refine PureFn.of_run ty_ok Tryd.func139 (c := Tryd.f139.body.get!) rfl (by decide) Tryd.ntmps139 (res := [.tmp 4]) Tryd.results139 (Nat.le_of_ble_eq_true rfl) ?_; intro X hX hR; refine vc_ok hX.ok hX.fn 1000 _ _ ?_; simp only [Tryd.f139, Option.get!])
    simp only [zS, hX.T, hX.nt, reduceIte, Nat.reduceEqDiff, Nat.reduceLT, Nat.reduceLeDiff, Nat.reduceAdd, Nat.reduceSub, Nat.reduceBEq, reduceCtorEq, Int.reduceNeg, bs_nil, bs_beq, bs_size, bs_append]
    repeat' first | (refine bc_split (fun h => ?_) (fun h => ?_) <;> simp only [zS, hX.T, hX.nt, reduceIte, Nat.reduceEqDiff, Nat.reduceLT, Nat.reduceLeDiff, Nat.reduceAdd, Nat.reduceSub, Nat.reduceBEq, reduceCtorEq, Int.reduceNeg, bs_nil, bs_beq, bs_size, bs_append, zS, h1, fndF, wr0, wr1, wr2, wr3, wr4, wr5, wr6, wr7, wr8, wr9, wr10, wr11, wr12, Int.reduceBNe, Int.reduceGE, Int.reduceGT, Int.reduceBEq, Int.reduceLT, Int.reduceLE, Int.reduceEq, Int.reduceAdd, Int.reduceSub, decide_true, decide_false, h]) | (refine bg_split (fun h => ?_) (fun h => ?_) <;> simp only [zS, hX.T, hX.nt, reduceIte, Nat.reduceEqDiff, Nat.reduceLT, Nat.reduceLeDiff, Nat.reduceAdd, Nat.reduceSub, Nat.reduceBEq, reduceCtorEq, Int.reduceNeg, bs_nil, bs_beq, bs_size, bs_append, zS, h1, fndF, wr0, wr1, wr2, wr3, wr4, wr5, wr6, wr7, wr8, wr9, wr10, wr11, wr12, Int.reduceBNe, Int.reduceGE, Int.reduceGT, Int.reduceBEq, Int.reduceLT, Int.reduceLE, Int.reduceEq, Int.reduceAdd, Int.reduceSub, decide_true, decide_false, h]) | (refine pb_split (fun h => ?_) (fun h => ?_) <;> simp only [zS, hX.T, hX.nt, reduceIte, Nat.reduceEqDiff, Nat.reduceLT, Nat.reduceLeDiff, Nat.reduceAdd, Nat.reduceSub, Nat.reduceBEq, reduceCtorEq, Int.reduceNeg, bs_nil, bs_beq, bs_size, bs_append, zS, h1, fndF, wr0, wr1, wr2, wr3, wr4, wr5, wr6, wr7, wr8, wr9, wr10, wr11, wr12, Int.reduceBNe, Int.reduceGE, Int.reduceGT, Int.reduceBEq, Int.reduceLT, Int.reduceLE, Int.reduceEq, Int.reduceAdd, Int.reduceSub, decide_true, decide_false, h]) | (refine hX.gos (by rfl) ?_; simp only [zS, hX.T, hX.nt, reduceIte, Nat.reduceEqDiff, Nat.reduceLT, Nat.reduceLeDiff, Nat.reduceAdd, Nat.reduceSub, Nat.reduceBEq, reduceCtorEq, Int.reduceNeg, bs_nil, bs_beq, bs_size, bs_append, zS, h1, fndF, wr0, wr1, wr2, wr3, wr4, wr5, wr6, wr7, wr8, wr9, wr10, wr11, wr12, Int.reduceBNe, Int.reduceGE, Int.reduceGT, Int.reduceBEq, Int.reduceLT, Int.reduceLE, Int.reduceEq, Int.reduceAdd, Int.reduceSub, decide_true, decide_false]) | (refine hX.pure (q) rfl rfl (by decide) ?_; simp only [zS, hX.T, hX.nt, reduceIte, Nat.reduceEqDiff, Nat.reduceLT, Nat.reduceLeDiff, Nat.reduceAdd, Nat.reduceSub, Nat.reduceBEq, reduceCtorEq, Int.reduceNeg, bs_nil, bs_beq, bs_size, bs_append, zS, h1, fndF, wr0, wr1, wr2, wr3, wr4, wr5, wr6, wr7, wr8, wr9, wr10, wr11, wr12, Int.reduceBNe, Int.reduceGE, Int.reduceGT, Int.reduceBEq, Int.reduceLT, Int.reduceLE, Int.reduceEq, Int.reduceAdd, Int.reduceSub, decide_true, decide_false]) | (refine hX.pureD (q) rfl rfl (by decide) ?_; simp only [zS, hX.T, hX.nt, reduceIte, Nat.reduceEqDiff, Nat.reduceLT, Nat.reduceLeDiff, Nat.reduceAdd, Nat.reduceSub, Nat.reduceBEq, reduceCtorEq, Int.reduceNeg, bs_nil, bs_beq, bs_size, bs_append, zS, h1, fndF, wr0, wr1, wr2, wr3, wr4, wr5, wr6, wr7, wr8, wr9, wr10, wr11, wr12, Int.reduceBNe, Int.reduceGE, Int.reduceGT, Int.reduceBEq, Int.reduceLT, Int.reduceLE, Int.reduceEq, Int.reduceAdd, Int.reduceSub, decide_true, decide_false]) | (refine hX.pure (p155 s a.to) rfl rfl (by decide) ?_; simp only [zS, hX.T, hX.nt, reduceIte, Nat.reduceEqDiff, Nat.reduceLT, Nat.reduceLeDiff, Nat.reduceAdd, Nat.reduceSub, Nat.reduceBEq, reduceCtorEq, Int.reduceNeg, bs_nil, bs_beq, bs_size, bs_append, zS, h1, fndF, wr0, wr1, wr2, wr3, wr4, wr5, wr6, wr7, wr8, wr9, wr10, wr11, wr12, Int.reduceBNe, Int.reduceGE, Int.reduceGT, Int.reduceBEq, Int.reduceLT, Int.reduceLE, Int.reduceEq, Int.reduceAdd, Int.reduceSub, decide_true, decide_false]) | (refine hX.pureD (p155 s a.to) rfl rfl (by decide) ?_; simp only [zS, hX.T, hX.nt, reduceIte, Nat.reduceEqDiff, Nat.reduceLT, Nat.reduceLeDiff, Nat.reduceAdd, Nat.reduceSub, Nat.reduceBEq, reduceCtorEq, Int.reduceNeg, bs_nil, bs_beq, bs_size, bs_append, zS, h1, fndF, wr0, wr1, wr2, wr3, wr4, wr5, wr6, wr7, wr8, wr9, wr10, wr11, wr12, Int.reduceBNe, Int.reduceGE, Int.reduceGT, Int.reduceBEq, Int.reduceLT, Int.reduceLE, Int.reduceEq, Int.reduceAdd, Int.reduceSub, decide_true, decide_false]) | (refine hX.pure (p27 ((findN s.fs a.name).getD fld0).kind a.kind) rfl rfl (by decide) ?_; simp only [zS, hX.T, hX.nt, reduceIte, Nat.reduceEqDiff, Nat.reduceLT, Nat.reduceLeDiff, Nat.reduceAdd, Nat.reduceSub, Nat.reduceBEq, reduceCtorEq, Int.reduceNeg, bs_nil, bs_beq, bs_size, bs_append, zS, h1, fndF, wr0, wr1, wr2, wr3, wr4, wr5, wr6, wr7, wr8, wr9, wr10, wr11, wr12, Int.reduceBNe, Int.reduceGE, Int.reduceGT, Int.reduceBEq, Int.reduceLT, Int.reduceLE, Int.reduceEq, Int.reduceAdd, Int.reduceSub, decide_true, decide_false]) | (refine hX.pureD (p27 ((findN s.fs a.name).getD fld0).kind a.kind) rfl rfl (by decide) ?_; simp only [zS, hX.T, hX.nt, reduceIte, Nat.reduceEqDiff, Nat.reduceLT, Nat.reduceLeDiff, Nat.reduceAdd, Nat.reduceSub, Nat.reduceBEq, reduceCtorEq, Int.reduceNeg, bs_nil, bs_beq, bs_size, bs_append, zS, h1, fndF, wr0, wr1, wr2, wr3, wr4, wr5, wr6, wr7, wr8, wr9, wr10, wr11, wr12, Int.reduceBNe, Int.reduceGE, Int.reduceGT, Int.reduceBEq, Int.reduceLT, Int.reduceLE, Int.reduceEq, Int.reduceAdd, Int.reduceSub, decide_true, decide_false])
  all_goals ((refine hX.ret (by first | exact .inl rfl | exact .inr rfl) ?_; simp only [zR, zS, hX.T, hX.nt, reduceIte, Nat.reduceEqDiff, Nat.reduceLT, Nat.reduceLeDiff, Nat.reduceAdd, Nat.reduceSub, Nat.reduceBEq, reduceCtorEq, Int.reduceNeg] <;> try rfl); clear hX hR q)
  all_goals (simp only [rule]; cases hfn : findN s.fs a.name <;> (simp only [hfn, Option.getD_some, Option.getD_none, Option.isSome_some, Option.isSome_none] at *; grind))
theorem p103 (s : Sch) (a : Alt) : PureFn Tryd.prog 103 [.agg (encS s), .agg (encA a)] (I (checkA s a)) := by
  have q1 := p44 s
  by_cases h0 : rightS s = false ∨ a.op < 1 ∨ a.op > 4
  · (refine PureFn.of_run ty_ok Tryd.func103 (c := Tryd.f103.body.get!) rfl (by decide) Tryd.ntmps103 (res := [.tmp 4]) Tryd.results103 (Nat.le_of_ble_eq_true rfl) ?_; intro X hX hR; refine vc_ok hX.ok hX.fn 1000 _ _ ?_; simp only [Tryd.f103, Option.get!])
    simp only [zS, hX.T, hX.nt, reduceIte, Nat.reduceEqDiff, Nat.reduceLT, Nat.reduceLeDiff, Nat.reduceAdd, Nat.reduceSub, Nat.reduceBEq, reduceCtorEq, Int.reduceNeg, bs_nil, bs_beq, bs_size, bs_append]
    repeat' first | (refine bc_split (fun h => ?_) (fun h => ?_) <;> simp only [zS, hX.T, hX.nt, reduceIte, Nat.reduceEqDiff, Nat.reduceLT, Nat.reduceLeDiff, Nat.reduceAdd, Nat.reduceSub, Nat.reduceBEq, reduceCtorEq, Int.reduceNeg, bs_nil, bs_beq, bs_size, bs_append, zS, h]) | (refine bg_split (fun h => ?_) (fun h => ?_) <;> simp only [zS, hX.T, hX.nt, reduceIte, Nat.reduceEqDiff, Nat.reduceLT, Nat.reduceLeDiff, Nat.reduceAdd, Nat.reduceSub, Nat.reduceBEq, reduceCtorEq, Int.reduceNeg, bs_nil, bs_beq, bs_size, bs_append, zS, h]) | (refine pb_split (fun h => ?_) (fun h => ?_) <;> simp only [zS, hX.T, hX.nt, reduceIte, Nat.reduceEqDiff, Nat.reduceLT, Nat.reduceLeDiff, Nat.reduceAdd, Nat.reduceSub, Nat.reduceBEq, reduceCtorEq, Int.reduceNeg, bs_nil, bs_beq, bs_size, bs_append, zS, h]) | (refine hX.gos (by rfl) ?_; simp only [zS, hX.T, hX.nt, reduceIte, Nat.reduceEqDiff, Nat.reduceLT, Nat.reduceLeDiff, Nat.reduceAdd, Nat.reduceSub, Nat.reduceBEq, reduceCtorEq, Int.reduceNeg, bs_nil, bs_beq, bs_size, bs_append, zS]) | (refine hX.pure (q1) rfl rfl (by decide) ?_; simp only [zS, hX.T, hX.nt, reduceIte, Nat.reduceEqDiff, Nat.reduceLT, Nat.reduceLeDiff, Nat.reduceAdd, Nat.reduceSub, Nat.reduceBEq, reduceCtorEq, Int.reduceNeg, bs_nil, bs_beq, bs_size, bs_append, zS]) | (refine hX.pureD (q1) rfl rfl (by decide) ?_; simp only [zS, hX.T, hX.nt, reduceIte, Nat.reduceEqDiff, Nat.reduceLT, Nat.reduceLeDiff, Nat.reduceAdd, Nat.reduceSub, Nat.reduceBEq, reduceCtorEq, Int.reduceNeg, bs_nil, bs_beq, bs_size, bs_append, zS])
    all_goals first
      | ((refine hX.ret (by first | exact .inl rfl | exact .inr rfl) ?_; simp only [zR, zS, hX.T, hX.nt, reduceIte, Nat.reduceEqDiff, Nat.reduceLT, Nat.reduceLeDiff, Nat.reduceAdd, Nat.reduceSub, Nat.reduceBEq, reduceCtorEq, Int.reduceNeg] <;> try rfl); clear hX hR q1; grind [checkA])
      | (exfalso; clear hX hR q1; grind)
  · have r1 : rightS s = true := by simpa using fun e => h0 (.inl e)
    have d1 : decide (a.op < 1) = false := by simp only [decide_eq_false_iff_not]; omega
    have d2 : decide (a.op > 4) = false := by simp only [decide_eq_false_iff_not]; omega
    rw [r1] at q1
    by_cases h1 : a.op = 1
    · have q2 := p140 s a h1
      have d3 : (a.op == 1) = true := by simp [h1]
      (refine PureFn.of_run ty_ok Tryd.func103 (c := Tryd.f103.body.get!) rfl (by decide) Tryd.ntmps103 (res := [.tmp 4]) Tryd.results103 (Nat.le_of_ble_eq_true rfl) ?_; intro X hX hR; refine vc_ok hX.ok hX.fn 1000 _ _ ?_; simp only [Tryd.f103, Option.get!])
      simp only [zS, hX.T, hX.nt, reduceIte, Nat.reduceEqDiff, Nat.reduceLT, Nat.reduceLeDiff, Nat.reduceAdd, Nat.reduceSub, Nat.reduceBEq, reduceCtorEq, Int.reduceNeg, bs_nil, bs_beq, bs_size, bs_append]
      repeat' first | (refine bc_split (fun h => ?_) (fun h => ?_) <;> simp only [zS, hX.T, hX.nt, reduceIte, Nat.reduceEqDiff, Nat.reduceLT, Nat.reduceLeDiff, Nat.reduceAdd, Nat.reduceSub, Nat.reduceBEq, reduceCtorEq, Int.reduceNeg, bs_nil, bs_beq, bs_size, bs_append, zS, d1, d2, d3, h]) | (refine bg_split (fun h => ?_) (fun h => ?_) <;> simp only [zS, hX.T, hX.nt, reduceIte, Nat.reduceEqDiff, Nat.reduceLT, Nat.reduceLeDiff, Nat.reduceAdd, Nat.reduceSub, Nat.reduceBEq, reduceCtorEq, Int.reduceNeg, bs_nil, bs_beq, bs_size, bs_append, zS, d1, d2, d3, h]) | (refine pb_split (fun h => ?_) (fun h => ?_) <;> simp only [zS, hX.T, hX.nt, reduceIte, Nat.reduceEqDiff, Nat.reduceLT, Nat.reduceLeDiff, Nat.reduceAdd, Nat.reduceSub, Nat.reduceBEq, reduceCtorEq, Int.reduceNeg, bs_nil, bs_beq, bs_size, bs_append, zS, d1, d2, d3, h]) | (refine hX.gos (by rfl) ?_; simp only [zS, hX.T, hX.nt, reduceIte, Nat.reduceEqDiff, Nat.reduceLT, Nat.reduceLeDiff, Nat.reduceAdd, Nat.reduceSub, Nat.reduceBEq, reduceCtorEq, Int.reduceNeg, bs_nil, bs_beq, bs_size, bs_append, zS, d1, d2, d3]) | (refine hX.pure (q1) rfl rfl (by decide) ?_; simp only [zS, hX.T, hX.nt, reduceIte, Nat.reduceEqDiff, Nat.reduceLT, Nat.reduceLeDiff, Nat.reduceAdd, Nat.reduceSub, Nat.reduceBEq, reduceCtorEq, Int.reduceNeg, bs_nil, bs_beq, bs_size, bs_append, zS, d1, d2, d3]) | (refine hX.pureD (q1) rfl rfl (by decide) ?_; simp only [zS, hX.T, hX.nt, reduceIte, Nat.reduceEqDiff, Nat.reduceLT, Nat.reduceLeDiff, Nat.reduceAdd, Nat.reduceSub, Nat.reduceBEq, reduceCtorEq, Int.reduceNeg, bs_nil, bs_beq, bs_size, bs_append, zS, d1, d2, d3]) | (refine hX.pure (q2) rfl rfl (by decide) ?_; simp only [zS, hX.T, hX.nt, reduceIte, Nat.reduceEqDiff, Nat.reduceLT, Nat.reduceLeDiff, Nat.reduceAdd, Nat.reduceSub, Nat.reduceBEq, reduceCtorEq, Int.reduceNeg, bs_nil, bs_beq, bs_size, bs_append, zS, d1, d2, d3]) | (refine hX.pureD (q2) rfl rfl (by decide) ?_; simp only [zS, hX.T, hX.nt, reduceIte, Nat.reduceEqDiff, Nat.reduceLT, Nat.reduceLeDiff, Nat.reduceAdd, Nat.reduceSub, Nat.reduceBEq, reduceCtorEq, Int.reduceNeg, bs_nil, bs_beq, bs_size, bs_append, zS, d1, d2, d3])
      all_goals ((refine hX.ret (by first | exact .inl rfl | exact .inr rfl) ?_; simp only [zR, zS, hX.T, hX.nt, reduceIte, Nat.reduceEqDiff, Nat.reduceLT, Nat.reduceLeDiff, Nat.reduceAdd, Nat.reduceSub, Nat.reduceBEq, reduceCtorEq, Int.reduceNeg] <;> try rfl); clear hX hR q1 q2; grind [checkA])
    · have q2 := p139 s a (by omega)
      have d3 : (a.op == 1) = false := by simp [h1]
      (refine PureFn.of_run ty_ok Tryd.func103 (c := Tryd.f103.body.get!) rfl (by decide) Tryd.ntmps103 (res := [.tmp 4]) Tryd.results103 (Nat.le_of_ble_eq_true rfl) ?_; intro X hX hR; refine vc_ok hX.ok hX.fn 1000 _ _ ?_; simp only [Tryd.f103, Option.get!])
      simp only [zS, hX.T, hX.nt, reduceIte, Nat.reduceEqDiff, Nat.reduceLT, Nat.reduceLeDiff, Nat.reduceAdd, Nat.reduceSub, Nat.reduceBEq, reduceCtorEq, Int.reduceNeg, bs_nil, bs_beq, bs_size, bs_append]
      repeat' first | (refine bc_split (fun h => ?_) (fun h => ?_) <;> simp only [zS, hX.T, hX.nt, reduceIte, Nat.reduceEqDiff, Nat.reduceLT, Nat.reduceLeDiff, Nat.reduceAdd, Nat.reduceSub, Nat.reduceBEq, reduceCtorEq, Int.reduceNeg, bs_nil, bs_beq, bs_size, bs_append, zS, d1, d2, d3, h]) | (refine bg_split (fun h => ?_) (fun h => ?_) <;> simp only [zS, hX.T, hX.nt, reduceIte, Nat.reduceEqDiff, Nat.reduceLT, Nat.reduceLeDiff, Nat.reduceAdd, Nat.reduceSub, Nat.reduceBEq, reduceCtorEq, Int.reduceNeg, bs_nil, bs_beq, bs_size, bs_append, zS, d1, d2, d3, h]) | (refine pb_split (fun h => ?_) (fun h => ?_) <;> simp only [zS, hX.T, hX.nt, reduceIte, Nat.reduceEqDiff, Nat.reduceLT, Nat.reduceLeDiff, Nat.reduceAdd, Nat.reduceSub, Nat.reduceBEq, reduceCtorEq, Int.reduceNeg, bs_nil, bs_beq, bs_size, bs_append, zS, d1, d2, d3, h]) | (refine hX.gos (by rfl) ?_; simp only [zS, hX.T, hX.nt, reduceIte, Nat.reduceEqDiff, Nat.reduceLT, Nat.reduceLeDiff, Nat.reduceAdd, Nat.reduceSub, Nat.reduceBEq, reduceCtorEq, Int.reduceNeg, bs_nil, bs_beq, bs_size, bs_append, zS, d1, d2, d3]) | (refine hX.pure (q1) rfl rfl (by decide) ?_; simp only [zS, hX.T, hX.nt, reduceIte, Nat.reduceEqDiff, Nat.reduceLT, Nat.reduceLeDiff, Nat.reduceAdd, Nat.reduceSub, Nat.reduceBEq, reduceCtorEq, Int.reduceNeg, bs_nil, bs_beq, bs_size, bs_append, zS, d1, d2, d3]) | (refine hX.pureD (q1) rfl rfl (by decide) ?_; simp only [zS, hX.T, hX.nt, reduceIte, Nat.reduceEqDiff, Nat.reduceLT, Nat.reduceLeDiff, Nat.reduceAdd, Nat.reduceSub, Nat.reduceBEq, reduceCtorEq, Int.reduceNeg, bs_nil, bs_beq, bs_size, bs_append, zS, d1, d2, d3]) | (refine hX.pure (q2) rfl rfl (by decide) ?_; simp only [zS, hX.T, hX.nt, reduceIte, Nat.reduceEqDiff, Nat.reduceLT, Nat.reduceLeDiff, Nat.reduceAdd, Nat.reduceSub, Nat.reduceBEq, reduceCtorEq, Int.reduceNeg, bs_nil, bs_beq, bs_size, bs_append, zS, d1, d2, d3]) | (refine hX.pureD (q2) rfl rfl (by decide) ?_; simp only [zS, hX.T, hX.nt, reduceIte, Nat.reduceEqDiff, Nat.reduceLT, Nat.reduceLeDiff, Nat.reduceAdd, Nat.reduceSub, Nat.reduceBEq, reduceCtorEq, Int.reduceNeg, bs_nil, bs_beq, bs_size, bs_append, zS, d1, d2, d3])
      all_goals ((refine hX.ret (by first | exact .inl rfl | exact .inr rfl) ?_; simp only [zR, zS, hX.T, hX.nt, reduceIte, Nat.reduceEqDiff, Nat.reduceLT, Nat.reduceLeDiff, Nat.reduceAdd, Nat.reduceSub, Nat.reduceBEq, reduceCtorEq, Int.reduceNeg] <;> try rfl); clear hX hR q1 q2; grind [checkA])
end Go.Proofs.YtkbidoikndgheaaDoor.HL

