/- Contracts of the references and of value and lattice. -/
import Derived.Test.YtkbidoikndgheaaDoorH4
set_option linter.unusedVariables false
set_option linter.unusedSimpArgs false
namespace Go.Proofs.YtkbidoikndgheaaDoor.HL
open Go.Proofs
set_option maxRecDepth 100000
set_option maxHeartbeats 4000000
theorem p66 (v : Val) : PureFn Tryd.prog 66 [.agg (encV v)] (B (rightV v)) := by
  (refine PureFn.of_run ty_ok Tryd.func66 (c := Tryd.f66.body.get!) rfl (by decide) Tryd.ntmps66 (res := [.tmp 2]) Tryd.results66 (Nat.le_of_ble_eq_true rfl) ?_; intro X hX hR; refine vc_ok hX.ok hX.fn 1000 _ _ ?_; simp only [Tryd.f66, Option.get!])
  simp only [zS, hX.T, hX.nt, reduceIte, Nat.reduceEqDiff, Nat.reduceLT, Nat.reduceLeDiff, Nat.reduceAdd, Nat.reduceSub, Nat.reduceBEq, reduceCtorEq, Int.reduceNeg, bs_nil, bs_beq, bs_size, bs_append, encV]
  repeat' first
    | (refine bc_split (fun h => ?_) (fun h => ?_) <;> simp only [zS, hX.T, hX.nt, reduceIte, Nat.reduceEqDiff, Nat.reduceLT, Nat.reduceLeDiff, Nat.reduceAdd, Nat.reduceSub, Nat.reduceBEq, reduceCtorEq, Int.reduceNeg, bs_nil, bs_beq, bs_size, bs_append, h])
    | (refine bg_split (fun h => ?_) (fun h => ?_) <;> simp only [zS, hX.T, hX.nt, reduceIte, Nat.reduceEqDiff, Nat.reduceLT, Nat.reduceLeDiff, Nat.reduceAdd, Nat.reduceSub, Nat.reduceBEq, reduceCtorEq, Int.reduceNeg, bs_nil, bs_beq, bs_size, bs_append, h])
  all_goals ((refine hX.ret (by first | exact .inl rfl | exact .inr rfl) ?_; simp only [zR, zS, hX.T, hX.nt, reduceIte, Nat.reduceEqDiff, Nat.reduceLT, Nat.reduceLeDiff, Nat.reduceAdd, Nat.reduceSub, Nat.reduceBEq, reduceCtorEq, Int.reduceNeg] <;> try rfl); clear hX hR; simp_all [rightV] <;> omega)
theorem p123 (v : Val) (a b : Int) : PureFn Tryd.prog 123 [.agg (encV v), I a, I b] (B (v.s == [] && decide (a ≤ v.n) && decide (v.n ≤ b))) := by
  (refine PureFn.of_run ty_ok Tryd.func123 (c := Tryd.f123.body.get!) rfl (by decide) Tryd.ntmps123 (res := [.tmp 6]) Tryd.results123 (Nat.le_of_ble_eq_true rfl) ?_; intro X hX hR; refine vc_ok hX.ok hX.fn 1000 _ _ ?_; simp only [Tryd.f123, Option.get!])
  simp only [zS, hX.T, hX.nt, reduceIte, Nat.reduceEqDiff, Nat.reduceLT, Nat.reduceLeDiff, Nat.reduceAdd, Nat.reduceSub, Nat.reduceBEq, reduceCtorEq, Int.reduceNeg, bs_nil, bs_beq, bs_size, bs_append, encV]
  repeat' first
    | (refine bc_split (fun h => ?_) (fun h => ?_) <;> simp only [zS, hX.T, hX.nt, reduceIte, Nat.reduceEqDiff, Nat.reduceLT, Nat.reduceLeDiff, Nat.reduceAdd, Nat.reduceSub, Nat.reduceBEq, reduceCtorEq, Int.reduceNeg, bs_nil, bs_beq, bs_size, bs_append, h])
    | (refine bg_split (fun h => ?_) (fun h => ?_) <;> simp only [zS, hX.T, hX.nt, reduceIte, Nat.reduceEqDiff, Nat.reduceLT, Nat.reduceLeDiff, Nat.reduceAdd, Nat.reduceSub, Nat.reduceBEq, reduceCtorEq, Int.reduceNeg, bs_nil, bs_beq, bs_size, bs_append, h])
  all_goals ((refine hX.ret (by first | exact .inl rfl | exact .inr rfl) ?_; simp only [zR, zS, hX.T, hX.nt, reduceIte, Nat.reduceEqDiff, Nat.reduceLT, Nat.reduceLeDiff, Nat.reduceAdd, Nat.reduceSub, Nat.reduceBEq, reduceCtorEq, Int.reduceNeg] <;> try rfl); clear hX hR; grind)
theorem p84 (v : Val) : PureFn Tryd.prog 84 [.agg (encV v)] (B (rightV v)) := by
  (refine PureFn.of_run ty_ok Tryd.func84 (c := Tryd.f84.body.get!) rfl (by decide) Tryd.ntmps84 (res := [.tmp 2]) Tryd.results84 (Nat.le_of_ble_eq_true rfl) ?_; intro X hX hR; refine vc_ok hX.ok hX.fn 1000 _ _ ?_; simp only [Tryd.f84, Option.get!])
  simp only [zS, hX.T, hX.nt, reduceIte, Nat.reduceEqDiff, Nat.reduceLT, Nat.reduceLeDiff, Nat.reduceAdd, Nat.reduceSub, Nat.reduceBEq, reduceCtorEq, Int.reduceNeg, bs_nil, bs_beq, bs_size, bs_append, encV]
  repeat' first
    | (refine bc_split (fun h => ?_) (fun h => ?_) <;> simp only [zS, hX.T, hX.nt, reduceIte, Nat.reduceEqDiff, Nat.reduceLT, Nat.reduceLeDiff, Nat.reduceAdd, Nat.reduceSub, Nat.reduceBEq, reduceCtorEq, Int.reduceNeg, bs_nil, bs_beq, bs_size, bs_append, h])
    | (refine bg_split (fun h => ?_) (fun h => ?_) <;> simp only [zS, hX.T, hX.nt, reduceIte, Nat.reduceEqDiff, Nat.reduceLT, Nat.reduceLeDiff, Nat.reduceAdd, Nat.reduceSub, Nat.reduceBEq, reduceCtorEq, Int.reduceNeg, bs_nil, bs_beq, bs_size, bs_append, h])
    | (refine hX.pure (p123 v _ _) rfl rfl (by decide) ?_; simp only [zS, hX.T, hX.nt, reduceIte, Nat.reduceEqDiff, Nat.reduceLT, Nat.reduceLeDiff, Nat.reduceAdd, Nat.reduceSub, Nat.reduceBEq, reduceCtorEq, Int.reduceNeg, bs_nil, bs_beq, bs_size, bs_append])
  all_goals ((refine hX.ret (by first | exact .inl rfl | exact .inr rfl) ?_; simp only [zR, zS, hX.T, hX.nt, reduceIte, Nat.reduceEqDiff, Nat.reduceLT, Nat.reduceLeDiff, Nat.reduceAdd, Nat.reduceSub, Nat.reduceBEq, reduceCtorEq, Int.reduceNeg] <;> try rfl); clear hX hR; rw [Bool.eq_iff_iff]; simp [rightV] at *; grind)
theorem p144 (k : Int) : PureFn Tryd.prog 144 [I k] (.tup [.agg (encV (if kindOk k = true then ⟨k, 0, []⟩ else val0)), B (kindOk k)]) := by
  (refine PureFn.of_run ty_ok Tryd.func144 (c := Tryd.f144.body.get!) rfl (by decide) Tryd.ntmps144 (res := [.cell 2 43, .tmp 3]) Tryd.results144 (Nat.le_of_ble_eq_true rfl) ?_; intro X hX hR; refine vc_ok hX.ok hX.fn 1000 _ _ ?_; simp only [Tryd.f144, Option.get!])
  simp only [zS, hX.T, hX.nt, reduceIte, Nat.reduceEqDiff, Nat.reduceLT, Nat.reduceLeDiff, Nat.reduceAdd, Nat.reduceSub, Nat.reduceBEq, reduceCtorEq, Int.reduceNeg, bs_nil, bs_beq, bs_size, bs_append, encV]
  repeat' first
    | (refine bc_split (fun h => ?_) (fun h => ?_) <;> simp only [zS, hX.T, hX.nt, reduceIte, Nat.reduceEqDiff, Nat.reduceLT, Nat.reduceLeDiff, Nat.reduceAdd, Nat.reduceSub, Nat.reduceBEq, reduceCtorEq, Int.reduceNeg, bs_nil, bs_beq, bs_size, bs_append, h])
    | (refine bg_split (fun h => ?_) (fun h => ?_) <;> simp only [zS, hX.T, hX.nt, reduceIte, Nat.reduceEqDiff, Nat.reduceLT, Nat.reduceLeDiff, Nat.reduceAdd, Nat.reduceSub, Nat.reduceBEq, reduceCtorEq, Int.reduceNeg, bs_nil, bs_beq, bs_size, bs_append, h])
  all_goals ((refine hX.ret (by first | exact .inl rfl | exact .inr rfl) ?_; simp only [zR, zS, hX.T, hX.nt, reduceIte, Nat.reduceEqDiff, Nat.reduceLT, Nat.reduceLeDiff, Nat.reduceAdd, Nat.reduceSub, Nat.reduceBEq, reduceCtorEq, Int.reduceNeg] <;> try rfl); clear hX hR; grind [kindOk, encV, val0])
theorem p138 (k : Int) : PureFn Tryd.prog 138 [I k] (B (kindOk k)) := by
  (refine PureFn.of_run ty_ok Tryd.func138 (c := Tryd.f138.body.get!) rfl (by decide) Tryd.ntmps138 (res := [.tmp 2]) Tryd.results138 (Nat.le_of_ble_eq_true rfl) ?_; intro X hX hR; refine vc_ok hX.ok hX.fn 1000 _ _ ?_; simp only [Tryd.f138, Option.get!])
  simp only [zS, hX.T, hX.nt, reduceIte, Nat.reduceEqDiff, Nat.reduceLT, Nat.reduceLeDiff, Nat.reduceAdd, Nat.reduceSub, Nat.reduceBEq, reduceCtorEq, Int.reduceNeg, bs_nil, bs_beq, bs_size, bs_append]
  repeat' first
    | (refine bc_split (fun h => ?_) (fun h => ?_) <;> simp only [zS, hX.T, hX.nt, reduceIte, Nat.reduceEqDiff, Nat.reduceLT, Nat.reduceLeDiff, Nat.reduceAdd, Nat.reduceSub, Nat.reduceBEq, reduceCtorEq, Int.reduceNeg, bs_nil, bs_beq, bs_size, bs_append, h])
    | (refine bg_split (fun h => ?_) (fun h => ?_) <;> simp only [zS, hX.T, hX.nt, reduceIte, Nat.reduceEqDiff, Nat.reduceLT, Nat.reduceLeDiff, Nat.reduceAdd, Nat.reduceSub, Nat.reduceBEq, reduceCtorEq, Int.reduceNeg, bs_nil, bs_beq, bs_size, bs_append, h])
  all_goals ((refine hX.ret (by first | exact .inl rfl | exact .inr rfl) ?_; simp only [zR, zS, hX.T, hX.nt, reduceIte, Nat.reduceEqDiff, Nat.reduceLT, Nat.reduceLeDiff, Nat.reduceAdd, Nat.reduceSub, Nat.reduceBEq, reduceCtorEq, Int.reduceNeg] <;> try rfl); clear hX hR; grind [kindOk])
theorem p110 (a b : Int) : PureFn Tryd.prog 110 [I a, I b] (B (below a b)) := by
  (refine PureFn.of_run ty_ok Tryd.func110 (c := Tryd.f110.body.get!) rfl (by decide) Tryd.ntmps110 (res := [.tmp 4]) Tryd.results110 (Nat.le_of_ble_eq_true rfl) ?_; intro X hX hR; refine vc_ok hX.ok hX.fn 1000 _ _ ?_; simp only [Tryd.f110, Option.get!])
  simp only [zS, hX.T, hX.nt, reduceIte, Nat.reduceEqDiff, Nat.reduceLT, Nat.reduceLeDiff, Nat.reduceAdd, Nat.reduceSub, Nat.reduceBEq, reduceCtorEq, Int.reduceNeg, bs_nil, bs_beq, bs_size, bs_append]
  repeat' first
    | (refine bc_split (fun h => ?_) (fun h => ?_) <;> simp only [zS, hX.T, hX.nt, reduceIte, Nat.reduceEqDiff, Nat.reduceLT, Nat.reduceLeDiff, Nat.reduceAdd, Nat.reduceSub, Nat.reduceBEq, reduceCtorEq, Int.reduceNeg, bs_nil, bs_beq, bs_size, bs_append, h])
    | (refine bg_split (fun h => ?_) (fun h => ?_) <;> simp only [zS, hX.T, hX.nt, reduceIte, Nat.reduceEqDiff, Nat.reduceLT, Nat.reduceLeDiff, Nat.reduceAdd, Nat.reduceSub, Nat.reduceBEq, reduceCtorEq, Int.reduceNeg, bs_nil, bs_beq, bs_size, bs_append, h])
    | (refine hX.pure (p138 _) rfl rfl (by decide) ?_; simp only [zS, hX.T, hX.nt, reduceIte, Nat.reduceEqDiff, Nat.reduceLT, Nat.reduceLeDiff, Nat.reduceAdd, Nat.reduceSub, Nat.reduceBEq, reduceCtorEq, Int.reduceNeg, bs_nil, bs_beq, bs_size, bs_append])
  all_goals ((refine hX.ret (by first | exact .inl rfl | exact .inr rfl) ?_; simp only [zR, zS, hX.T, hX.nt, reduceIte, Nat.reduceEqDiff, Nat.reduceLT, Nat.reduceLeDiff, Nat.reduceAdd, Nat.reduceSub, Nat.reduceBEq, reduceCtorEq, Int.reduceNeg] <;> try rfl); clear hX hR; grind [below])
theorem p102 (v : Val) (k : Int) : PureFn Tryd.prog 102 [.agg (encV v), I k] (.tup [.agg (encV (widen v k).1), I (widen v k).2]) := by
  (refine PureFn.of_run ty_ok Tryd.func102 (c := Tryd.f102.body.get!) rfl (by decide) Tryd.ntmps102 (res := [.cell 4 43, .tmp 5]) Tryd.results102 (Nat.le_of_ble_eq_true rfl) ?_; intro X hX hR; refine vc_ok hX.ok hX.fn 1000 _ _ ?_; simp only [Tryd.f102, Option.get!])
  simp only [zS, hX.T, hX.nt, reduceIte, Nat.reduceEqDiff, Nat.reduceLT, Nat.reduceLeDiff, Nat.reduceAdd, Nat.reduceSub, Nat.reduceBEq, reduceCtorEq, Int.reduceNeg, bs_nil, bs_beq, bs_size, bs_append, encV]
  repeat' first
    | (refine bc_split (fun h => ?_) (fun h => ?_) <;> simp only [zS, hX.T, hX.nt, reduceIte, Nat.reduceEqDiff, Nat.reduceLT, Nat.reduceLeDiff, Nat.reduceAdd, Nat.reduceSub, Nat.reduceBEq, reduceCtorEq, Int.reduceNeg, bs_nil, bs_beq, bs_size, bs_append, h])
    | (refine bg_split (fun h => ?_) (fun h => ?_) <;> simp only [zS, hX.T, hX.nt, reduceIte, Nat.reduceEqDiff, Nat.reduceLT, Nat.reduceLeDiff, Nat.reduceAdd, Nat.reduceSub, Nat.reduceBEq, reduceCtorEq, Int.reduceNeg, bs_nil, bs_beq, bs_size, bs_append, h])
    | (refine hX.pure (p66 v) rfl rfl (by decide) ?_; simp only [zS, hX.T, hX.nt, reduceIte, Nat.reduceEqDiff, Nat.reduceLT, Nat.reduceLeDiff, Nat.reduceAdd, Nat.reduceSub, Nat.reduceBEq, reduceCtorEq, Int.reduceNeg, bs_nil, bs_beq, bs_size, bs_append])
    | (refine hX.pure (p138 _) rfl rfl (by decide) ?_; simp only [zS, hX.T, hX.nt, reduceIte, Nat.reduceEqDiff, Nat.reduceLT, Nat.reduceLeDiff, Nat.reduceAdd, Nat.reduceSub, Nat.reduceBEq, reduceCtorEq, Int.reduceNeg, bs_nil, bs_beq, bs_size, bs_append])
    | (refine hX.pure (p110 _ _) rfl rfl (by decide) ?_; simp only [zS, hX.T, hX.nt, reduceIte, Nat.reduceEqDiff, Nat.reduceLT, Nat.reduceLeDiff, Nat.reduceAdd, Nat.reduceSub, Nat.reduceBEq, reduceCtorEq, Int.reduceNeg, bs_nil, bs_beq, bs_size, bs_append])
  all_goals ((refine hX.ret (by first | exact .inl rfl | exact .inr rfl) ?_; simp only [zR, zS, hX.T, hX.nt, reduceIte, Nat.reduceEqDiff, Nat.reduceLT, Nat.reduceLeDiff, Nat.reduceAdd, Nat.reduceSub, Nat.reduceBEq, reduceCtorEq, Int.reduceNeg] <;> try rfl); clear hX hR; grind [encV, widen, val0])
end Go.Proofs.YtkbidoikndgheaaDoor.HL

namespace Go.Proofs.YtkbidoikndgheaaDoor.HL
open Go.Proofs
set_option maxRecDepth 100000
set_option maxHeartbeats 4000000
def slI (xs : List Int) : AV := .sl 1 true (xs.map fun n => [I n])
theorem p112 (xs : List Int) (x : Int) : PureFn Tryd.prog 112 [slI xs, I x] (I (idxP (fun y => x == y) xs 0)) := by
  (refine PureFn.of_run ty_ok Tryd.func112 (c := Tryd.f112.body.get!) rfl (by decide) Tryd.ntmps112 (res := [.tmp 4]) Tryd.results112 (Nat.le_of_ble_eq_true rfl) ?_; intro X hX hR; refine vc_ok hX.ok hX.fn 1000 _ _ ?_; simp only [Tryd.f112, Option.get!])
  have hlen := hR.len (List.mem_cons_self ..)
  rw [List.length_map] at hlen
  simp only [zS, hX.T, hX.nt, reduceIte, Nat.reduceEqDiff, Nat.reduceLT, Nat.reduceLeDiff, Nat.reduceAdd, Nat.reduceSub, Nat.reduceBEq, reduceCtorEq, Int.reduceNeg, bs_nil, bs_beq, bs_size, bs_append, slI]
  refine Run.loop (α := Nat) (fun i => [(0, slI xs), (1, I x), (7, I xs.length), (8, I i)]) (fun _ => []) (fun i => i ≤ xs.length ∧ idxP (fun y => x == y) (xs.drop i) i = idxP (fun y => x == y) xs 0) (fun i => xs.length - i) 0 id ⟨Nat.zero_le _, rfl⟩ (.of hX.NL (by simp only [zS, hX.T, hX.nt, reduceIte, Nat.reduceEqDiff, Nat.reduceLT, Nat.reduceLeDiff, Nat.reduceAdd, Nat.reduceSub, Nat.reduceBEq, reduceCtorEq, Int.reduceNeg, bs_nil, bs_beq, bs_size, bs_append, ren, renL, renB, slI] <;> rfl) rfl rfl) ?_
  intro i ⟨hi, hn⟩ ih
  refine hX.go ?_
  simp only [zS, hX.T, hX.nt, reduceIte, Nat.reduceEqDiff, Nat.reduceLT, Nat.reduceLeDiff, Nat.reduceAdd, Nat.reduceSub, Nat.reduceBEq, reduceCtorEq, Int.reduceNeg, bs_nil, bs_beq, bs_size, bs_append, slI]
  refine bc_split (fun h => ?_) (fun h => ?_)
  · have h := of_decide_eq_true h
    have hlt : i < xs.length := by omega
    have hrow := row_nat (fun n => [I n]) xs i hlt
    simp only [zS, hX.T, hX.nt, reduceIte, Nat.reduceEqDiff, Nat.reduceLT, Nat.reduceLeDiff, Nat.reduceAdd, Nat.reduceSub, Nat.reduceBEq, reduceCtorEq, Int.reduceNeg, bs_nil, bs_beq, bs_size, bs_append, h, Int.natCast_nonneg, hrow]
    rw [idxP_step hlt] at hn
    refine bc_split (fun h1 => ?_) (fun h1 => ?_)
    · simp only [zS, hX.T, hX.nt, reduceIte, Nat.reduceEqDiff, Nat.reduceLT, Nat.reduceLeDiff, Nat.reduceAdd, Nat.reduceSub, Nat.reduceBEq, reduceCtorEq, Int.reduceNeg, bs_nil, bs_beq, bs_size, bs_append, h1]
      (refine hX.ret (by first | exact .inl rfl | exact .inr rfl) ?_; simp only [zR, zS, hX.T, hX.nt, reduceIte, Nat.reduceEqDiff, Nat.reduceLT, Nat.reduceLeDiff, Nat.reduceAdd, Nat.reduceSub, Nat.reduceBEq, reduceCtorEq, Int.reduceNeg] <;> try rfl)
      rw [← hn, if_pos h1]
    · simp only [zS, hX.T, hX.nt, reduceIte, Nat.reduceEqDiff, Nat.reduceLT, Nat.reduceLeDiff, Nat.reduceAdd, Nat.reduceSub, Nat.reduceBEq, reduceCtorEq, Int.reduceNeg, bs_nil, bs_beq, bs_size, bs_append, h1]
      rw [if_neg (by simp [h1])] at hn
      refine ih (i + 1) id _ ⟨hlt, hn⟩ (by omega) (.of hX.NL (by simp only [zS, hX.T, hX.nt, reduceIte, Nat.reduceEqDiff, Nat.reduceLT, Nat.reduceLeDiff, Nat.reduceAdd, Nat.reduceSub, Nat.reduceBEq, reduceCtorEq, Int.reduceNeg, bs_nil, bs_beq, bs_size, bs_append, ren, renL, renB, slI, wrap_succ hlt hlen] <;> rfl) rfl rfl)
  · simp only [zS, hX.T, hX.nt, reduceIte, Nat.reduceEqDiff, Nat.reduceLT, Nat.reduceLeDiff, Nat.reduceAdd, Nat.reduceSub, Nat.reduceBEq, reduceCtorEq, Int.reduceNeg, bs_nil, bs_beq, bs_size, bs_append]
    have h := of_decide_eq_false h
    (refine hX.ret (by first | exact .inl rfl | exact .inr rfl) ?_; simp only [zR, zS, hX.T, hX.nt, reduceIte, Nat.reduceEqDiff, Nat.reduceLT, Nat.reduceLeDiff, Nat.reduceAdd, Nat.reduceSub, Nat.reduceBEq, reduceCtorEq, Int.reduceNeg] <;> try rfl)
    rw [← hn, idxP_end (by omega)]
theorem p112n (x : Int) : PureFn Tryd.prog 112 [.v (.slice none 0 0), I x] (I (-1)) := by
  (refine PureFn.of_run ty_ok Tryd.func112 (c := Tryd.f112.body.get!) rfl (by decide) Tryd.ntmps112 (res := [.tmp 4]) Tryd.results112 (Nat.le_of_ble_eq_true rfl) ?_; intro X hX hR; refine vc_ok hX.ok hX.fn 1000 _ _ ?_; simp only [Tryd.f112, Option.get!])
  simp only [zS, hX.T, hX.nt, reduceIte, Nat.reduceEqDiff, Nat.reduceLT, Nat.reduceLeDiff, Nat.reduceAdd, Nat.reduceSub, Nat.reduceBEq, reduceCtorEq, Int.reduceNeg, bs_nil, bs_beq, bs_size, bs_append]
  refine Run.loop1 (hX.go ?_)
  simp only [zS, hX.T, hX.nt, reduceIte, Nat.reduceEqDiff, Nat.reduceLT, Nat.reduceLeDiff, Nat.reduceAdd, Nat.reduceSub, Nat.reduceBEq, reduceCtorEq, Int.reduceNeg, bs_nil, bs_beq, bs_size, bs_append, decide_eq_true_eq, Int.lt_irrefl, decide_false]
  (refine hX.ret (by first | exact .inl rfl | exact .inr rfl) ?_; simp only [zR, zS, hX.T, hX.nt, reduceIte, Nat.reduceEqDiff, Nat.reduceLT, Nat.reduceLeDiff, Nat.reduceAdd, Nat.reduceSub, Nat.reduceBEq, reduceCtorEq, Int.reduceNeg] <;> try rfl)
def kinds0 : AV := .sl 1 true [[slI [1, 2, 3, 4]], [slI [5, 6]]]
theorem p70 : PureFn Tryd.prog 70 [] kinds0 := by
  (refine PureFn.of_run ty_ok Tryd.func70 (c := Tryd.f70.body.get!) rfl (by decide) Tryd.ntmps70 (res := [.tmp 0]) Tryd.results70 (Nat.le_of_ble_eq_true rfl) ?_; intro X hX hR; refine vc_ok hX.ok hX.fn 1000 _ _ ?_; simp only [Tryd.f70, Option.get!])
  simp only [zS, hX.T, hX.nt, reduceIte, Nat.reduceEqDiff, Nat.reduceLT, Nat.reduceLeDiff, Nat.reduceAdd, Nat.reduceSub, Nat.reduceBEq, reduceCtorEq, Int.reduceNeg, bs_nil, bs_beq, bs_size, bs_append]
  (refine hX.ret (by first | exact .inl rfl | exact .inr rfl) ?_; simp only [zR, zS, hX.T, hX.nt, reduceIte, Nat.reduceEqDiff, Nat.reduceLT, Nat.reduceLeDiff, Nat.reduceAdd, Nat.reduceSub, Nat.reduceBEq, reduceCtorEq, Int.reduceNeg] <;> try rfl)
def ix1 (x : Int) : Int := idxP (fun y => x == y) [1, 2, 3, 4] 0
def ix2 (x : Int) : Int := idxP (fun y => x == y) [5, 6] 0
def find0 (x : Int) : AV := if ix1 x ≥ 0 then .tup [slI [1, 2, 3, 4], I (ix1 x)] else if ix2 x ≥ 0 then .tup [slI [5, 6], I (ix2 x)] else .tup [.v (.slice none 0 0), I (-1)]
theorem p111 (x : Int) : PureFn Tryd.prog 111 [kinds0, I x] (find0 x) := by
  (refine PureFn.of_run ty_ok Tryd.func111 (c := Tryd.f111.body.get!) rfl (by decide) Tryd.ntmps111 (res := [.tmp 4, .tmp 5]) Tryd.results111 (Nat.le_of_ble_eq_true rfl) ?_; intro X hX hR; refine vc_ok hX.ok hX.fn 1000 _ _ ?_; simp only [Tryd.f111, Option.get!])
  simp only [zS, hX.T, hX.nt, reduceIte, Nat.reduceEqDiff, Nat.reduceLT, Nat.reduceLeDiff, Nat.reduceAdd, Nat.reduceSub, Nat.reduceBEq, reduceCtorEq, Int.reduceNeg, bs_nil, bs_beq, bs_size, bs_append, kinds0]
  refine Run.loop1 (hX.go ?_)
  simp only [zS, hX.T, hX.nt, reduceIte, Nat.reduceEqDiff, Nat.reduceLT, Nat.reduceLeDiff, Nat.reduceAdd, Nat.reduceSub, Nat.reduceBEq, reduceCtorEq, Int.reduceNeg, bs_nil, bs_beq, bs_size, bs_append, kinds0, wr0, wr1, wr2, wr3, wr4, wr5, wr6, wr7, wr8, wr9, wr10, wr11, wr12, row, Int.reduceToNat, Int.reduceBNe, Int.reduceGE, Int.reduceGT, List.getD_cons_zero, List.getD_cons_succ, Int.reduceBEq, Int.reduceLT, Int.reduceLE, Int.reduceEq, Int.reduceAdd, Int.reduceSub, decide_true, decide_false]
  refine hX.pure (p112 [1, 2, 3, 4] x) rfl rfl (by decide) ?_
  simp only [zS, hX.T, hX.nt, reduceIte, Nat.reduceEqDiff, Nat.reduceLT, Nat.reduceLeDiff, Nat.reduceAdd, Nat.reduceSub, Nat.reduceBEq, reduceCtorEq, Int.reduceNeg, bs_nil, bs_beq, bs_size, bs_append]
  refine bc_split (fun h => ?_) (fun h => ?_)
  · have h1 : ix1 x ≥ 0 := of_decide_eq_true h
    simp only [zS, hX.T, hX.nt, reduceIte, Nat.reduceEqDiff, Nat.reduceLT, Nat.reduceLeDiff, Nat.reduceAdd, Nat.reduceSub, Nat.reduceBEq, reduceCtorEq, Int.reduceNeg, bs_nil, bs_beq, bs_size, bs_append, h]
    rw [find0, if_pos h1] at hX
    (refine hX.ret (by first | exact .inl rfl | exact .inr rfl) ?_; simp only [zR, zS, hX.T, hX.nt, reduceIte, Nat.reduceEqDiff, Nat.reduceLT, Nat.reduceLeDiff, Nat.reduceAdd, Nat.reduceSub, Nat.reduceBEq, reduceCtorEq, Int.reduceNeg, slI, ix1] <;> try rfl)
  · have h1 : ¬ ix1 x ≥ 0 := of_decide_eq_false h
    simp only [zS, hX.T, hX.nt, reduceIte, Nat.reduceEqDiff, Nat.reduceLT, Nat.reduceLeDiff, Nat.reduceAdd, Nat.reduceSub, Nat.reduceBEq, reduceCtorEq, Int.reduceNeg, bs_nil, bs_beq, bs_size, bs_append, h]
    refine Run.inLoop (hX.go ?_)
    simp only [zS, hX.T, hX.nt, reduceIte, Nat.reduceEqDiff, Nat.reduceLT, Nat.reduceLeDiff, Nat.reduceAdd, Nat.reduceSub, Nat.reduceBEq, reduceCtorEq, Int.reduceNeg, bs_nil, bs_beq, bs_size, bs_append, kinds0, wr0, wr1, wr2, wr3, wr4, wr5, wr6, wr7, wr8, wr9, wr10, wr11, wr12, row, Int.reduceToNat, Int.reduceBNe, Int.reduceGE, Int.reduceGT, List.getD_cons_zero, List.getD_cons_succ, Int.reduceBEq, Int.reduceLT, Int.reduceLE, Int.reduceEq, Int.reduceAdd, Int.reduceSub, decide_true, decide_false]
    refine hX.pure (p112 [5, 6] x) rfl rfl (by decide) ?_
    simp only [zS, hX.T, hX.nt, reduceIte, Nat.reduceEqDiff, Nat.reduceLT, Nat.reduceLeDiff, Nat.reduceAdd, Nat.reduceSub, Nat.reduceBEq, reduceCtorEq, Int.reduceNeg, bs_nil, bs_beq, bs_size, bs_append]
    refine bc_split (fun h => ?_) (fun h => ?_)
    · have h2 : ix2 x ≥ 0 := of_decide_eq_true h
      simp only [zS, hX.T, hX.nt, reduceIte, Nat.reduceEqDiff, Nat.reduceLT, Nat.reduceLeDiff, Nat.reduceAdd, Nat.reduceSub, Nat.reduceBEq, reduceCtorEq, Int.reduceNeg, bs_nil, bs_beq, bs_size, bs_append, h]
      rw [find0, if_neg h1, if_pos h2] at hX
      (refine hX.ret (by first | exact .inl rfl | exact .inr rfl) ?_; simp only [zR, zS, hX.T, hX.nt, reduceIte, Nat.reduceEqDiff, Nat.reduceLT, Nat.reduceLeDiff, Nat.reduceAdd, Nat.reduceSub, Nat.reduceBEq, reduceCtorEq, Int.reduceNeg, slI, ix2] <;> try rfl)
    · have h2 : ¬ ix2 x ≥ 0 := of_decide_eq_false h
      simp only [zS, hX.T, hX.nt, reduceIte, Nat.reduceEqDiff, Nat.reduceLT, Nat.reduceLeDiff, Nat.reduceAdd, Nat.reduceSub, Nat.reduceBEq, reduceCtorEq, Int.reduceNeg, bs_nil, bs_beq, bs_size, bs_append, h]
      refine Run.inLoop (hX.go ?_)
      simp only [zS, hX.T, hX.nt, reduceIte, Nat.reduceEqDiff, Nat.reduceLT, Nat.reduceLeDiff, Nat.reduceAdd, Nat.reduceSub, Nat.reduceBEq, reduceCtorEq, Int.reduceNeg, bs_nil, bs_beq, bs_size, bs_append, kinds0, wr0, wr1, wr2, wr3, wr4, wr5, wr6, wr7, wr8, wr9, wr10, wr11, wr12, row, Int.reduceToNat, Int.reduceBNe, Int.reduceGE, Int.reduceGT, List.getD_cons_zero, List.getD_cons_succ, Int.reduceBEq, Int.reduceLT, Int.reduceLE, Int.reduceEq, Int.reduceAdd, Int.reduceSub, decide_true, decide_false]
      rw [find0, if_neg h1, if_neg h2] at hX
      (refine hX.ret (by first | exact .inl rfl | exact .inr rfl) ?_; simp only [zR, zS, hX.T, hX.nt, reduceIte, Nat.reduceEqDiff, Nat.reduceLT, Nat.reduceLeDiff, Nat.reduceAdd, Nat.reduceSub, Nat.reduceBEq, reduceCtorEq, Int.reduceNeg] <;> try rfl)
theorem ix1_val (x : Int) : ix1 x = if 1 ≤ x ∧ x ≤ 4 then x - 1 else -1 := by
  unfold ix1
  simp only [idxP, beq_iff_eq]
  grind
theorem ix2_val (x : Int) : ix2 x = if 5 ≤ x ∧ x ≤ 6 then x - 5 else -1 := by
  unfold ix2
  simp only [idxP, beq_iff_eq]
  grind
theorem below_ix (a b : Int) : below a b = if ix1 a ≥ 0 then (decide (ix1 b ≥ 0) && decide (ix1 a ≤ ix1 b)) else if ix2 a ≥ 0 then (decide (ix2 b ≥ 0) && decide (ix2 a ≤ ix2 b)) else false := by
  rw [Bool.eq_iff_iff]
  simp only [ix1_val, ix2_val, below, kindOk, Bool.and_eq_true, decide_eq_true_eq, beq_iff_eq, decide_eq_decide]
  grind
def both0 (a b : Int) : AV := if ix1 a ≥ 0 then .tup [slI [1, 2, 3, 4], I (ix1 a), I (ix1 b), B (decide (ix1 b ≥ 0))] else if ix2 a ≥ 0 then .tup [slI [5, 6], I (ix2 a), I (ix2 b), B (decide (ix2 b ≥ 0))] else .tup [.v (.slice none 0 0), I (-1), I (-1), B false]
theorem p71 (a b : Int) : PureFn Tryd.prog 71 [kinds0, I a, I b] (both0 a b) := by
  have hf := p111 a
  (refine PureFn.of_run ty_ok Tryd.func71 (c := Tryd.f71.body.get!) rfl (by decide) Tryd.ntmps71 (res := [.tmp 6, .tmp 7, .tmp 8, .tmp 9]) Tryd.results71 (Nat.le_of_ble_eq_true rfl) ?_; intro X hX hR; refine vc_ok hX.ok hX.fn 1000 _ _ ?_; simp only [Tryd.f71, Option.get!])
  simp only [zS, hX.T, hX.nt, reduceIte, Nat.reduceEqDiff, Nat.reduceLT, Nat.reduceLeDiff, Nat.reduceAdd, Nat.reduceSub, Nat.reduceBEq, reduceCtorEq, Int.reduceNeg, bs_nil, bs_beq, bs_size, bs_append]
  by_cases h1 : ix1 a ≥ 0
  · rw [find0, if_pos h1] at hf
    rw [both0, if_pos h1] at hX
    have d1 : decide (ix1 a ≥ 0) = true := decide_eq_true h1
    refine hX.pure hf rfl rfl (by decide) ?_
    simp only [zS, hX.T, hX.nt, reduceIte, Nat.reduceEqDiff, Nat.reduceLT, Nat.reduceLeDiff, Nat.reduceAdd, Nat.reduceSub, Nat.reduceBEq, reduceCtorEq, Int.reduceNeg, bs_nil, bs_beq, bs_size, bs_append]
    refine hX.pure (p112 [1, 2, 3, 4] b) rfl rfl (by decide) ?_
    simp only [zS, hX.T, hX.nt, reduceIte, Nat.reduceEqDiff, Nat.reduceLT, Nat.reduceLeDiff, Nat.reduceAdd, Nat.reduceSub, Nat.reduceBEq, reduceCtorEq, Int.reduceNeg, bs_nil, bs_beq, bs_size, bs_append, d1]
    (refine hX.ret (by first | exact .inl rfl | exact .inr rfl) ?_; simp only [zR, zS, hX.T, hX.nt, reduceIte, Nat.reduceEqDiff, Nat.reduceLT, Nat.reduceLeDiff, Nat.reduceAdd, Nat.reduceSub, Nat.reduceBEq, reduceCtorEq, Int.reduceNeg, slI, ix1] <;> try rfl)
  · by_cases h2 : ix2 a ≥ 0
    · rw [find0, if_neg h1, if_pos h2] at hf
      rw [both0, if_neg h1, if_pos h2] at hX
      have d1 : decide (ix2 a ≥ 0) = true := decide_eq_true h2
      refine hX.pure hf rfl rfl (by decide) ?_
      simp only [zS, hX.T, hX.nt, reduceIte, Nat.reduceEqDiff, Nat.reduceLT, Nat.reduceLeDiff, Nat.reduceAdd, Nat.reduceSub, Nat.reduceBEq, reduceCtorEq, Int.reduceNeg, bs_nil, bs_beq, bs_size, bs_append]
      refine hX.pure (p112 [5, 6] b) rfl rfl (by decide) ?_
      simp only [zS, hX.T, hX.nt, reduceIte, Nat.reduceEqDiff, Nat.reduceLT, Nat.reduceLeDiff, Nat.reduceAdd, Nat.reduceSub, Nat.reduceBEq, reduceCtorEq, Int.reduceNeg, bs_nil, bs_beq, bs_size, bs_append, d1]
      (refine hX.ret (by first | exact .inl rfl | exact .inr rfl) ?_; simp only [zR, zS, hX.T, hX.nt, reduceIte, Nat.reduceEqDiff, Nat.reduceLT, Nat.reduceLeDiff, Nat.reduceAdd, Nat.reduceSub, Nat.reduceBEq, reduceCtorEq, Int.reduceNeg, slI, ix2] <;> try rfl)
    · rw [find0, if_neg h1, if_neg h2] at hf
      rw [both0, if_neg h1, if_neg h2] at hX
      refine hX.pure hf rfl rfl (by decide) ?_
      simp only [zS, hX.T, hX.nt, reduceIte, Nat.reduceEqDiff, Nat.reduceLT, Nat.reduceLeDiff, Nat.reduceAdd, Nat.reduceSub, Nat.reduceBEq, reduceCtorEq, Int.reduceNeg, bs_nil, bs_beq, bs_size, bs_append]
      refine hX.pure (p112n b) rfl rfl (by decide) ?_
      simp only [zS, hX.T, hX.nt, reduceIte, Nat.reduceEqDiff, Nat.reduceLT, Nat.reduceLeDiff, Nat.reduceAdd, Nat.reduceSub, Nat.reduceBEq, reduceCtorEq, Int.reduceNeg, bs_nil, bs_beq, bs_size, bs_append, wr0, wr1, wr2, wr3, wr4, wr5, wr6, wr7, wr8, wr9, wr10, wr11, wr12, row, Int.reduceToNat, Int.reduceBNe, Int.reduceGE, Int.reduceGT, List.getD_cons_zero, List.getD_cons_succ, Int.reduceBEq, Int.reduceLT, Int.reduceLE, Int.reduceEq, Int.reduceAdd, Int.reduceSub, decide_true, decide_false, Int.reduceGE]
      (refine hX.ret (by first | exact .inl rfl | exact .inr rfl) ?_; simp only [zR, zS, hX.T, hX.nt, reduceIte, Nat.reduceEqDiff, Nat.reduceLT, Nat.reduceLeDiff, Nat.reduceAdd, Nat.reduceSub, Nat.reduceBEq, reduceCtorEq, Int.reduceNeg] <;> try rfl)
theorem p27 (a b : Int) : PureFn Tryd.prog 27 [I a, I b] (B (below a b)) := by
  have hf := p71 a b
  rw [below_ix]
  (refine PureFn.of_run ty_ok Tryd.func27 (c := Tryd.f27.body.get!) rfl (by decide) Tryd.ntmps27 (res := [.tmp 4]) Tryd.results27 (Nat.le_of_ble_eq_true rfl) ?_; intro X hX hR; refine vc_ok hX.ok hX.fn 1000 _ _ ?_; simp only [Tryd.f27, Option.get!])
  simp only [zS, hX.T, hX.nt, reduceIte, Nat.reduceEqDiff, Nat.reduceLT, Nat.reduceLeDiff, Nat.reduceAdd, Nat.reduceSub, Nat.reduceBEq, reduceCtorEq, Int.reduceNeg, bs_nil, bs_beq, bs_size, bs_append]
  refine hX.pure p70 rfl rfl (by decide) ?_
  simp only [zS, hX.T, hX.nt, reduceIte, Nat.reduceEqDiff, Nat.reduceLT, Nat.reduceLeDiff, Nat.reduceAdd, Nat.reduceSub, Nat.reduceBEq, reduceCtorEq, Int.reduceNeg, bs_nil, bs_beq, bs_size, bs_append]
  by_cases h1 : ix1 a ≥ 0
  · rw [both0, if_pos h1] at hf
    rw [if_pos h1] at hX
    refine hX.pure hf rfl rfl (by decide) ?_
    simp only [zS, hX.T, hX.nt, reduceIte, Nat.reduceEqDiff, Nat.reduceLT, Nat.reduceLeDiff, Nat.reduceAdd, Nat.reduceSub, Nat.reduceBEq, reduceCtorEq, Int.reduceNeg, bs_nil, bs_beq, bs_size, bs_append]
    refine bg_split (fun h => ?_) (fun h => ?_) <;> simp only [zS, hX.T, hX.nt, reduceIte, Nat.reduceEqDiff, Nat.reduceLT, Nat.reduceLeDiff, Nat.reduceAdd, Nat.reduceSub, Nat.reduceBEq, reduceCtorEq, Int.reduceNeg, bs_nil, bs_beq, bs_size, bs_append, h] <;> (refine hX.ret (by first | exact .inl rfl | exact .inr rfl) ?_; simp only [zR, zS, hX.T, hX.nt, reduceIte, Nat.reduceEqDiff, Nat.reduceLT, Nat.reduceLeDiff, Nat.reduceAdd, Nat.reduceSub, Nat.reduceBEq, reduceCtorEq, Int.reduceNeg, h] <;> try rfl)
  · by_cases h2 : ix2 a ≥ 0
    · rw [both0, if_neg h1, if_pos h2] at hf
      rw [if_neg h1, if_pos h2] at hX
      refine hX.pure hf rfl rfl (by decide) ?_
      simp only [zS, hX.T, hX.nt, reduceIte, Nat.reduceEqDiff, Nat.reduceLT, Nat.reduceLeDiff, Nat.reduceAdd, Nat.reduceSub, Nat.reduceBEq, reduceCtorEq, Int.reduceNeg, bs_nil, bs_beq, bs_size, bs_append]
      refine bg_split (fun h => ?_) (fun h => ?_) <;> simp only [zS, hX.T, hX.nt, reduceIte, Nat.reduceEqDiff, Nat.reduceLT, Nat.reduceLeDiff, Nat.reduceAdd, Nat.reduceSub, Nat.reduceBEq, reduceCtorEq, Int.reduceNeg, bs_nil, bs_beq, bs_size, bs_append, h] <;> (refine hX.ret (by first | exact .inl rfl | exact .inr rfl) ?_; simp only [zR, zS, hX.T, hX.nt, reduceIte, Nat.reduceEqDiff, Nat.reduceLT, Nat.reduceLeDiff, Nat.reduceAdd, Nat.reduceSub, Nat.reduceBEq, reduceCtorEq, Int.reduceNeg, h, Bool.true_and, Bool.false_and] <;> try rfl)
    · rw [both0, if_neg h1, if_neg h2] at hf
      rw [if_neg h1, if_neg h2] at hX
      refine hX.pure hf rfl rfl (by decide) ?_
      simp only [zS, hX.T, hX.nt, reduceIte, Nat.reduceEqDiff, Nat.reduceLT, Nat.reduceLeDiff, Nat.reduceAdd, Nat.reduceSub, Nat.reduceBEq, reduceCtorEq, Int.reduceNeg, bs_nil, bs_beq, bs_size, bs_append]
      (refine hX.ret (by first | exact .inl rfl | exact .inr rfl) ?_; simp only [zR, zS, hX.T, hX.nt, reduceIte, Nat.reduceEqDiff, Nat.reduceLT, Nat.reduceLeDiff, Nat.reduceAdd, Nat.reduceSub, Nat.reduceBEq, reduceCtorEq, Int.reduceNeg] <;> try rfl)
end Go.Proofs.YtkbidoikndgheaaDoor.HL

namespace Go.Proofs.YtkbidoikndgheaaDoor.HL
open Go.Proofs
set_option maxRecDepth 100000
set_option maxHeartbeats 4000000
def takeV (v : Val) (k : Int) (ok : Bool) : Val × Int :=
  if rightV v = false ∨ kindOk k = false then (val0, 1) else if ok = false then (val0, 12) else if rightV ⟨k, v.n, v.s⟩ = false then (val0, 2) else (⟨k, v.n, v.s⟩, 0)
theorem takeV_below (v : Val) (k : Int) : takeV v k (below v.k k) = widen v k := by
  unfold takeV widen
  have : rightV v = true → below v.k k = true → rightV ⟨k, v.n, v.s⟩ = true := by
    intro h1 h2
    simp only [below, kindOk, Bool.and_eq_true, decide_eq_true_eq, beq_iff_eq, decide_eq_decide] at h2
    have a : v.k = 1 ∨ v.k = 2 ∨ v.k = 3 ∨ v.k = 4 ∨ v.k = 5 ∨ v.k = 6 := by omega
    have b : k = 1 ∨ k = 2 ∨ k = 3 ∨ k = 4 ∨ k = 5 ∨ k = 6 := by omega
    rcases a with a | a | a | a | a | a <;> rcases b with b | b | b | b | b | b <;> simp_all [rightV] <;> omega
  grind
theorem p137 (v : Val) (k : Int) (ok : Bool) : PureFn Tryd.prog 137 [.agg (encV v), I k, B ok] (.tup [.agg (encV (takeV v k ok).1), I (takeV v k ok).2]) := by
  (refine PureFn.of_run ty_ok Tryd.func137 (c := Tryd.f137.body.get!) rfl (by decide) Tryd.ntmps137 (res := [.cell 6 43, .tmp 7]) Tryd.results137 (Nat.le_of_ble_eq_true rfl) ?_; intro X hX hR; refine vc_ok hX.ok hX.fn 1000 _ _ ?_; simp only [Tryd.f137, Option.get!])
  simp only [zS, hX.T, hX.nt, reduceIte, Nat.reduceEqDiff, Nat.reduceLT, Nat.reduceLeDiff, Nat.reduceAdd, Nat.reduceSub, Nat.reduceBEq, reduceCtorEq, Int.reduceNeg, bs_nil, bs_beq, bs_size, bs_append, encV]
  repeat' first | (refine bc_split (fun h => ?_) (fun h => ?_) <;> simp only [zS, hX.T, hX.nt, reduceIte, Nat.reduceEqDiff, Nat.reduceLT, Nat.reduceLeDiff, Nat.reduceAdd, Nat.reduceSub, Nat.reduceBEq, reduceCtorEq, Int.reduceNeg, bs_nil, bs_beq, bs_size, bs_append, zS, encV, h]) | (refine bg_split (fun h => ?_) (fun h => ?_) <;> simp only [zS, hX.T, hX.nt, reduceIte, Nat.reduceEqDiff, Nat.reduceLT, Nat.reduceLeDiff, Nat.reduceAdd, Nat.reduceSub, Nat.reduceBEq, reduceCtorEq, Int.reduceNeg, bs_nil, bs_beq, bs_size, bs_append, zS, encV, h]) | (refine pb_split (fun h => ?_) (fun h => ?_) <;> simp only [zS, hX.T, hX.nt, reduceIte, Nat.reduceEqDiff, Nat.reduceLT, Nat.reduceLeDiff, Nat.reduceAdd, Nat.reduceSub, Nat.reduceBEq, reduceCtorEq, Int.reduceNeg, bs_nil, bs_beq, bs_size, bs_append, zS, encV, h]) | (refine hX.gos (by rfl) ?_; simp only [zS, hX.T, hX.nt, reduceIte, Nat.reduceEqDiff, Nat.reduceLT, Nat.reduceLeDiff, Nat.reduceAdd, Nat.reduceSub, Nat.reduceBEq, reduceCtorEq, Int.reduceNeg, bs_nil, bs_beq, bs_size, bs_append, zS, encV]) | (refine hX.pure (p144 k) rfl rfl (by decide) ?_; simp only [zS, hX.T, hX.nt, reduceIte, Nat.reduceEqDiff, Nat.reduceLT, Nat.reduceLeDiff, Nat.reduceAdd, Nat.reduceSub, Nat.reduceBEq, reduceCtorEq, Int.reduceNeg, bs_nil, bs_beq, bs_size, bs_append, zS, encV]) | (refine hX.pureD (p144 k) rfl rfl (by decide) ?_; simp only [zS, hX.T, hX.nt, reduceIte, Nat.reduceEqDiff, Nat.reduceLT, Nat.reduceLeDiff, Nat.reduceAdd, Nat.reduceSub, Nat.reduceBEq, reduceCtorEq, Int.reduceNeg, bs_nil, bs_beq, bs_size, bs_append, zS, encV]) | (refine hX.pure (p84 v) rfl rfl (by decide) ?_; simp only [zS, hX.T, hX.nt, reduceIte, Nat.reduceEqDiff, Nat.reduceLT, Nat.reduceLeDiff, Nat.reduceAdd, Nat.reduceSub, Nat.reduceBEq, reduceCtorEq, Int.reduceNeg, bs_nil, bs_beq, bs_size, bs_append, zS, encV]) | (refine hX.pureD (p84 v) rfl rfl (by decide) ?_; simp only [zS, hX.T, hX.nt, reduceIte, Nat.reduceEqDiff, Nat.reduceLT, Nat.reduceLeDiff, Nat.reduceAdd, Nat.reduceSub, Nat.reduceBEq, reduceCtorEq, Int.reduceNeg, bs_nil, bs_beq, bs_size, bs_append, zS, encV]) | (refine hX.pure (p84 ⟨k, v.n, v.s⟩) rfl rfl (by decide) ?_; simp only [zS, hX.T, hX.nt, reduceIte, Nat.reduceEqDiff, Nat.reduceLT, Nat.reduceLeDiff, Nat.reduceAdd, Nat.reduceSub, Nat.reduceBEq, reduceCtorEq, Int.reduceNeg, bs_nil, bs_beq, bs_size, bs_append, zS, encV]) | (refine hX.pureD (p84 ⟨k, v.n, v.s⟩) rfl rfl (by decide) ?_; simp only [zS, hX.T, hX.nt, reduceIte, Nat.reduceEqDiff, Nat.reduceLT, Nat.reduceLeDiff, Nat.reduceAdd, Nat.reduceSub, Nat.reduceBEq, reduceCtorEq, Int.reduceNeg, bs_nil, bs_beq, bs_size, bs_append, zS, encV])
  all_goals ((refine hX.ret (by first | exact .inl rfl | exact .inr rfl) ?_; simp only [zR, zS, hX.T, hX.nt, reduceIte, Nat.reduceEqDiff, Nat.reduceLT, Nat.reduceLeDiff, Nat.reduceAdd, Nat.reduceSub, Nat.reduceBEq, reduceCtorEq, Int.reduceNeg] <;> try rfl); clear hX hR; grind [encV, takeV, val0])
theorem p100 (v : Val) (k : Int) : PureFn Tryd.prog 100 [.agg (encV v), I k] (.tup [.agg (encV (widen v k).1), I (widen v k).2]) := by
  rw [← takeV_below]
  (refine PureFn.of_run ty_ok Tryd.func100 (c := Tryd.f100.body.get!) rfl (by decide) Tryd.ntmps100 (res := [.cell 4 43, .tmp 5]) Tryd.results100 (Nat.le_of_ble_eq_true rfl) ?_; intro X hX hR; refine vc_ok hX.ok hX.fn 1000 _ _ ?_; simp only [Tryd.f100, Option.get!])
  simp only [zS, hX.T, hX.nt, reduceIte, Nat.reduceEqDiff, Nat.reduceLT, Nat.reduceLeDiff, Nat.reduceAdd, Nat.reduceSub, Nat.reduceBEq, reduceCtorEq, Int.reduceNeg, bs_nil, bs_beq, bs_size, bs_append, encV]
  refine hX.draw (by kernel_rfl) (by decide) ?_
  simp only [zS, hX.T, hX.nt, reduceIte, Nat.reduceEqDiff, Nat.reduceLT, Nat.reduceLeDiff, Nat.reduceAdd, Nat.reduceSub, Nat.reduceBEq, reduceCtorEq, Int.reduceNeg, bs_nil, bs_beq, bs_size, bs_append]
  repeat' first | (refine bc_split (fun h => ?_) (fun h => ?_) <;> simp only [zS, hX.T, hX.nt, reduceIte, Nat.reduceEqDiff, Nat.reduceLT, Nat.reduceLeDiff, Nat.reduceAdd, Nat.reduceSub, Nat.reduceBEq, reduceCtorEq, Int.reduceNeg, bs_nil, bs_beq, bs_size, bs_append, zS, encV, h]) | (refine bg_split (fun h => ?_) (fun h => ?_) <;> simp only [zS, hX.T, hX.nt, reduceIte, Nat.reduceEqDiff, Nat.reduceLT, Nat.reduceLeDiff, Nat.reduceAdd, Nat.reduceSub, Nat.reduceBEq, reduceCtorEq, Int.reduceNeg, bs_nil, bs_beq, bs_size, bs_append, zS, encV, h]) | (refine pb_split (fun h => ?_) (fun h => ?_) <;> simp only [zS, hX.T, hX.nt, reduceIte, Nat.reduceEqDiff, Nat.reduceLT, Nat.reduceLeDiff, Nat.reduceAdd, Nat.reduceSub, Nat.reduceBEq, reduceCtorEq, Int.reduceNeg, bs_nil, bs_beq, bs_size, bs_append, zS, encV, h]) | (refine hX.gos (by rfl) ?_; simp only [zS, hX.T, hX.nt, reduceIte, Nat.reduceEqDiff, Nat.reduceLT, Nat.reduceLeDiff, Nat.reduceAdd, Nat.reduceSub, Nat.reduceBEq, reduceCtorEq, Int.reduceNeg, bs_nil, bs_beq, bs_size, bs_append, zS, encV]) | (refine hX.pure (p27 v.k k) rfl rfl (by decide) ?_; simp only [zS, hX.T, hX.nt, reduceIte, Nat.reduceEqDiff, Nat.reduceLT, Nat.reduceLeDiff, Nat.reduceAdd, Nat.reduceSub, Nat.reduceBEq, reduceCtorEq, Int.reduceNeg, bs_nil, bs_beq, bs_size, bs_append, zS, encV]) | (refine hX.pureD (p27 v.k k) rfl rfl (by decide) ?_; simp only [zS, hX.T, hX.nt, reduceIte, Nat.reduceEqDiff, Nat.reduceLT, Nat.reduceLeDiff, Nat.reduceAdd, Nat.reduceSub, Nat.reduceBEq, reduceCtorEq, Int.reduceNeg, bs_nil, bs_beq, bs_size, bs_append, zS, encV]) | (refine hX.pure (p137 v k (below v.k k)) rfl rfl (by decide) ?_; simp only [zS, hX.T, hX.nt, reduceIte, Nat.reduceEqDiff, Nat.reduceLT, Nat.reduceLeDiff, Nat.reduceAdd, Nat.reduceSub, Nat.reduceBEq, reduceCtorEq, Int.reduceNeg, bs_nil, bs_beq, bs_size, bs_append, zS, encV]) | (refine hX.pureD (p137 v k (below v.k k)) rfl rfl (by decide) ?_; simp only [zS, hX.T, hX.nt, reduceIte, Nat.reduceEqDiff, Nat.reduceLT, Nat.reduceLeDiff, Nat.reduceAdd, Nat.reduceSub, Nat.reduceBEq, reduceCtorEq, Int.reduceNeg, bs_nil, bs_beq, bs_size, bs_append, zS, encV])
  (refine hX.ret (by first | exact .inl rfl | exact .inr rfl) ?_; simp only [zR, zS, hX.T, hX.nt, reduceIte, Nat.reduceEqDiff, Nat.reduceLT, Nat.reduceLeDiff, Nat.reduceAdd, Nat.reduceSub, Nat.reduceBEq, reduceCtorEq, Int.reduceNeg, encV] <;> try rfl)
def nameFrom : Nat → Bs → Bool
  | _, [] => true
  | i, c :: l => (letter c || (decide (0 < i) && sign c)) && nameFrom (i + 1) l
theorem nameFrom_all : ∀ (l : Bs) (i : Nat), 0 < i → nameFrom i l = l.all sign
  | [], _, _ => rfl
  | c :: l, i, h => by
    rw [nameFrom, nameFrom_all l (i + 1) (by omega), List.all_cons]
    cases h1 : letter c <;> simp [h, sign, h1]
theorem nameFrom_ok (l : Bs) : nameOk l = (nameFrom 0 l && (decide (1 ≤ l.length) && decide (l.length ≤ 24))) := by
  cases l with
  | nil => rfl
  | cons c l =>
    rw [nameOk, nameFrom, nameFrom_all l 1 (by omega)]
    simp [Bool.and_assoc]
theorem nameFrom_step {l : Bs} {i : Nat} (h : i < l.length) : nameFrom i (l.drop i) = ((letter l[i] || (decide (0 < i) && sign l[i])) && nameFrom (i + 1) (l.drop (i + 1))) := by
  rw [List.drop_eq_getElem_cons h, nameFrom]
theorem nameFrom_end {l : Bs} {i : Nat} (h : l.length ≤ i) : nameFrom i (l.drop i) = true := by rw [List.drop_eq_nil_of_le h]; rfl
theorem byte_bs (l : Bs) (i : Nat) (h : i < l.length) : byteAt (bs l) (i : Int) = ((l[i]).toNat : Int) := by
  rw [byteAt, Int.toNat_natCast, getElem?_pos (bs l) i (by rw [bs_size]; exact h)]
  rfl
def smT (l : Bs) : Prop := l.length ≤ 1048576
theorem letter_nat (c : UInt8) : letter c = (decide (97 ≤ ((c.toNat : Nat) : Int)) && decide (((c.toNat : Nat) : Int) ≤ 122)) := by
  rw [Bool.eq_iff_iff]
  simp only [letter, Bool.and_eq_true, decide_eq_true_eq, UInt8.le_iff_toNat_le]
  have : (97 : UInt8).toNat = 97 := rfl
  have : (122 : UInt8).toNat = 122 := rfl
  omega
theorem sign_nat (c : UInt8) : sign c = (letter c || (decide (48 ≤ ((c.toNat : Nat) : Int)) && decide (((c.toNat : Nat) : Int) ≤ 57)) || ((c.toNat : Nat) : Int) == 95) := by
  rw [Bool.eq_iff_iff]
  have h9 : c = 95 ↔ c.toNat = 95 := by rw [← UInt8.toNat_inj]; rfl
  simp only [sign, Bool.and_eq_true, Bool.or_eq_true, decide_eq_true_eq, UInt8.le_iff_toNat_le, beq_iff_eq, h9]
  have : (48 : UInt8).toNat = 48 := rfl
  have : (57 : UInt8).toNat = 57 := rfl
  have : ((c.toNat : Nat) : Int) = 95 ↔ c.toNat = 95 := by omega
  grind
theorem p50 (l : Bs) (hl : smT l) : PureFn Tryd.prog 50 [Sb l] (B (nameOk l)) := by
  rw [nameFrom_ok]
  (refine PureFn.of_run ty_ok Tryd.func50 (c := Tryd.f50.body.get!) rfl (by decide) Tryd.ntmps50 (res := [.tmp 2]) Tryd.results50 (Nat.le_of_ble_eq_true rfl) ?_; intro X hX hR; refine vc_ok hX.ok hX.fn 1000 _ _ ?_; simp only [Tryd.f50, Option.get!])
  simp only [zS, hX.T, hX.nt, reduceIte, Nat.reduceEqDiff, Nat.reduceLT, Nat.reduceLeDiff, Nat.reduceAdd, Nat.reduceSub, Nat.reduceBEq, reduceCtorEq, Int.reduceNeg, bs_nil, bs_beq, bs_size, bs_append]
  refine Run.loop (α := Nat) (fun i => [(0, Sb l), (3, I i)]) (fun _ => []) (fun i => i ≤ l.length ∧ nameFrom i (l.drop i) = nameFrom 0 l) (fun i => l.length - i) 0 id ⟨Nat.zero_le _, rfl⟩ (.of hX.NL (by simp only [zS, hX.T, hX.nt, reduceIte, Nat.reduceEqDiff, Nat.reduceLT, Nat.reduceLeDiff, Nat.reduceAdd, Nat.reduceSub, Nat.reduceBEq, reduceCtorEq, Int.reduceNeg, bs_nil, bs_beq, bs_size, bs_append, ren, renL, renB] <;> rfl) rfl rfl) ?_
  intro i ⟨hi, hn⟩ ih
  refine hX.go ?_
  simp only [zS, hX.T, hX.nt, reduceIte, Nat.reduceEqDiff, Nat.reduceLT, Nat.reduceLeDiff, Nat.reduceAdd, Nat.reduceSub, Nat.reduceBEq, reduceCtorEq, Int.reduceNeg, bs_nil, bs_beq, bs_size, bs_append]
  refine bc_split (fun h => ?_) (fun h => ?_)
  · have h := of_decide_eq_true h
    have hlt : i < l.length := by omega
    rw [nameFrom_step hlt, sign_nat, letter_nat] at hn
    simp only [zS, hX.T, hX.nt, reduceIte, Nat.reduceEqDiff, Nat.reduceLT, Nat.reduceLeDiff, Nat.reduceAdd, Nat.reduceSub, Nat.reduceBEq, reduceCtorEq, Int.reduceNeg, bs_nil, bs_beq, bs_size, bs_append, h, Int.natCast_nonneg, byte_bs l i hlt]
    repeat' first | (refine bc_split (fun h => ?_) (fun h => ?_) <;> simp only [zS, hX.T, hX.nt, reduceIte, Nat.reduceEqDiff, Nat.reduceLT, Nat.reduceLeDiff, Nat.reduceAdd, Nat.reduceSub, Nat.reduceBEq, reduceCtorEq, Int.reduceNeg, bs_nil, bs_beq, bs_size, bs_append, zS, h]) | (refine bg_split (fun h => ?_) (fun h => ?_) <;> simp only [zS, hX.T, hX.nt, reduceIte, Nat.reduceEqDiff, Nat.reduceLT, Nat.reduceLeDiff, Nat.reduceAdd, Nat.reduceSub, Nat.reduceBEq, reduceCtorEq, Int.reduceNeg, bs_nil, bs_beq, bs_size, bs_append, zS, h]) | (refine pb_split (fun h => ?_) (fun h => ?_) <;> simp only [zS, hX.T, hX.nt, reduceIte, Nat.reduceEqDiff, Nat.reduceLT, Nat.reduceLeDiff, Nat.reduceAdd, Nat.reduceSub, Nat.reduceBEq, reduceCtorEq, Int.reduceNeg, bs_nil, bs_beq, bs_size, bs_append, zS, h]) | (refine hX.gos (by rfl) ?_; simp only [zS, hX.T, hX.nt, reduceIte, Nat.reduceEqDiff, Nat.reduceLT, Nat.reduceLeDiff, Nat.reduceAdd, Nat.reduceSub, Nat.reduceBEq, reduceCtorEq, Int.reduceNeg, bs_nil, bs_beq, bs_size, bs_append, zS])
    all_goals first
      | (refine ih (i + 1) id _ ⟨hlt, ?_⟩ (by omega) (.of hX.NL (by simp only [zS, hX.T, hX.nt, reduceIte, Nat.reduceEqDiff, Nat.reduceLT, Nat.reduceLeDiff, Nat.reduceAdd, Nat.reduceSub, Nat.reduceBEq, reduceCtorEq, Int.reduceNeg, bs_nil, bs_beq, bs_size, bs_append, ren, renL, renB, wrap_succ hlt (Nat.le_trans hl (by decide))] <;> rfl) rfl rfl); rw [← hn]; clear hX hR ih hn; grind)
      | ((refine hX.ret (by first | exact .inl rfl | exact .inr rfl) ?_; simp only [zR, zS, hX.T, hX.nt, reduceIte, Nat.reduceEqDiff, Nat.reduceLT, Nat.reduceLeDiff, Nat.reduceAdd, Nat.reduceSub, Nat.reduceBEq, reduceCtorEq, Int.reduceNeg] <;> try rfl); rw [← hn]; clear hX hR ih hn; grind)
  · simp only [zS, hX.T, hX.nt, reduceIte, Nat.reduceEqDiff, Nat.reduceLT, Nat.reduceLeDiff, Nat.reduceAdd, Nat.reduceSub, Nat.reduceBEq, reduceCtorEq, Int.reduceNeg, bs_nil, bs_beq, bs_size, bs_append]
    have h := of_decide_eq_false h
    repeat' first | (refine bc_split (fun h => ?_) (fun h => ?_) <;> simp only [zS, hX.T, hX.nt, reduceIte, Nat.reduceEqDiff, Nat.reduceLT, Nat.reduceLeDiff, Nat.reduceAdd, Nat.reduceSub, Nat.reduceBEq, reduceCtorEq, Int.reduceNeg, bs_nil, bs_beq, bs_size, bs_append, zS, h]) | (refine bg_split (fun h => ?_) (fun h => ?_) <;> simp only [zS, hX.T, hX.nt, reduceIte, Nat.reduceEqDiff, Nat.reduceLT, Nat.reduceLeDiff, Nat.reduceAdd, Nat.reduceSub, Nat.reduceBEq, reduceCtorEq, Int.reduceNeg, bs_nil, bs_beq, bs_size, bs_append, zS, h]) | (refine pb_split (fun h => ?_) (fun h => ?_) <;> simp only [zS, hX.T, hX.nt, reduceIte, Nat.reduceEqDiff, Nat.reduceLT, Nat.reduceLeDiff, Nat.reduceAdd, Nat.reduceSub, Nat.reduceBEq, reduceCtorEq, Int.reduceNeg, bs_nil, bs_beq, bs_size, bs_append, zS, h]) | (refine hX.gos (by rfl) ?_; simp only [zS, hX.T, hX.nt, reduceIte, Nat.reduceEqDiff, Nat.reduceLT, Nat.reduceLeDiff, Nat.reduceAdd, Nat.reduceSub, Nat.reduceBEq, reduceCtorEq, Int.reduceNeg, bs_nil, bs_beq, bs_size, bs_append, zS])
    all_goals ((refine hX.ret (by first | exact .inl rfl | exact .inr rfl) ?_; simp only [zR, zS, hX.T, hX.nt, reduceIte, Nat.reduceEqDiff, Nat.reduceLT, Nat.reduceLeDiff, Nat.reduceAdd, Nat.reduceSub, Nat.reduceBEq, reduceCtorEq, Int.reduceNeg] <;> try rfl); rw [← hn, nameFrom_end (by omega)]; clear hX hR; grind)
end Go.Proofs.YtkbidoikndgheaaDoor.HL

namespace Go.Proofs.YtkbidoikndgheaaDoor.HL
open Go.Proofs
set_option maxRecDepth 100000
set_option maxHeartbeats 4000000
def smS (s : Sch) : Prop := ∀ f ∈ s.fs, smT f.name
theorem p92 (f : Fld) (next : Int) (hf : smT f.name) : PureFn Tryd.prog 92 [.agg (encF f), I next] (B (rightF f next)) := by
  (refine PureFn.of_run ty_ok Tryd.func92 (c := Tryd.f92.body.get!) rfl (by decide) Tryd.ntmps92 (res := [.tmp 4]) Tryd.results92 (Nat.le_of_ble_eq_true rfl) ?_; intro X hX hR; refine vc_ok hX.ok hX.fn 1000 _ _ ?_; simp only [Tryd.f92, Option.get!])
  simp only [zS, hX.T, hX.nt, reduceIte, Nat.reduceEqDiff, Nat.reduceLT, Nat.reduceLeDiff, Nat.reduceAdd, Nat.reduceSub, Nat.reduceBEq, reduceCtorEq, Int.reduceNeg, bs_nil, bs_beq, bs_size, bs_append, encF]
  repeat' first | (refine bc_split (fun h => ?_) (fun h => ?_) <;> simp only [zS, hX.T, hX.nt, reduceIte, Nat.reduceEqDiff, Nat.reduceLT, Nat.reduceLeDiff, Nat.reduceAdd, Nat.reduceSub, Nat.reduceBEq, reduceCtorEq, Int.reduceNeg, bs_nil, bs_beq, bs_size, bs_append, zS, encF, h]) | (refine bg_split (fun h => ?_) (fun h => ?_) <;> simp only [zS, hX.T, hX.nt, reduceIte, Nat.reduceEqDiff, Nat.reduceLT, Nat.reduceLeDiff, Nat.reduceAdd, Nat.reduceSub, Nat.reduceBEq, reduceCtorEq, Int.reduceNeg, bs_nil, bs_beq, bs_size, bs_append, zS, encF, h]) | (refine pb_split (fun h => ?_) (fun h => ?_) <;> simp only [zS, hX.T, hX.nt, reduceIte, Nat.reduceEqDiff, Nat.reduceLT, Nat.reduceLeDiff, Nat.reduceAdd, Nat.reduceSub, Nat.reduceBEq, reduceCtorEq, Int.reduceNeg, bs_nil, bs_beq, bs_size, bs_append, zS, encF, h]) | (refine hX.gos (by rfl) ?_; simp only [zS, hX.T, hX.nt, reduceIte, Nat.reduceEqDiff, Nat.reduceLT, Nat.reduceLeDiff, Nat.reduceAdd, Nat.reduceSub, Nat.reduceBEq, reduceCtorEq, Int.reduceNeg, bs_nil, bs_beq, bs_size, bs_append, zS, encF]) | (refine hX.pure (p50 f.name hf) rfl rfl (by decide) ?_; simp only [zS, hX.T, hX.nt, reduceIte, Nat.reduceEqDiff, Nat.reduceLT, Nat.reduceLeDiff, Nat.reduceAdd, Nat.reduceSub, Nat.reduceBEq, reduceCtorEq, Int.reduceNeg, bs_nil, bs_beq, bs_size, bs_append, zS, encF]) | (refine hX.pureD (p50 f.name hf) rfl rfl (by decide) ?_; simp only [zS, hX.T, hX.nt, reduceIte, Nat.reduceEqDiff, Nat.reduceLT, Nat.reduceLeDiff, Nat.reduceAdd, Nat.reduceSub, Nat.reduceBEq, reduceCtorEq, Int.reduceNeg, bs_nil, bs_beq, bs_size, bs_append, zS, encF]) | (refine hX.pure (p66 f.d) rfl rfl (by decide) ?_; simp only [zS, hX.T, hX.nt, reduceIte, Nat.reduceEqDiff, Nat.reduceLT, Nat.reduceLeDiff, Nat.reduceAdd, Nat.reduceSub, Nat.reduceBEq, reduceCtorEq, Int.reduceNeg, bs_nil, bs_beq, bs_size, bs_append, zS, encF]) | (refine hX.pureD (p66 f.d) rfl rfl (by decide) ?_; simp only [zS, hX.T, hX.nt, reduceIte, Nat.reduceEqDiff, Nat.reduceLT, Nat.reduceLeDiff, Nat.reduceAdd, Nat.reduceSub, Nat.reduceBEq, reduceCtorEq, Int.reduceNeg, bs_nil, bs_beq, bs_size, bs_append, zS, encF])
  all_goals ((refine hX.ret (by first | exact .inl rfl | exact .inr rfl) ?_; simp only [zR, zS, hX.T, hX.nt, reduceIte, Nat.reduceEqDiff, Nat.reduceLT, Nat.reduceLeDiff, Nat.reduceAdd, Nat.reduceSub, Nat.reduceBEq, reduceCtorEq, Int.reduceNeg] <;> try rfl); clear hX hR; grind [rightF])
theorem rightFs_step {n : Int} {fs : List Fld} {i : Nat} (h : i < fs.length) : rightFs n (fs.take i) (fs.drop i) = (rightF fs[i] n && !((fs.take i).any (clash fs[i])) && rightFs n (fs.take (i + 1)) (fs.drop (i + 1))) := by
  rw [List.drop_eq_getElem_cons h, rightFs, List.take_succ_eq_append_getElem h]
theorem rightFs_end {n : Int} {fs pre : List Fld} {i : Nat} (h : fs.length ≤ i) : rightFs n pre (fs.drop i) = true := by rw [List.drop_eq_nil_of_le h, rightFs]
theorem any_take {α : Type} {p : α → Bool} {l : List α} {j : Nat} (h : j < l.length) : (l.take (j + 1)).any p = ((l.take j).any p || p l[j]) := by
  rw [List.take_succ_eq_append_getElem h, List.any_append, List.any_cons, List.any_nil, Bool.or_false]
theorem any_take_true {α : Type} {p : α → Bool} {l : List α} {i j : Nat} (h : j < l.length) (hij : j < i) (hp : p l[j] = true) : (l.take i).any p = true := by
  rw [List.any_eq_true]
  exact ⟨l[j], by rw [List.mem_take_iff_getElem]; exact ⟨j, by omega, rfl⟩, hp⟩
theorem p51 (s : Sch) (hs : smS s) : PureFn Tryd.prog 51 [.agg (encS s)] (B (rightS s)) := by
  (refine PureFn.of_run ty_ok Tryd.func51 (c := Tryd.f51.body.get!) rfl (by decide) Tryd.ntmps51 (res := [.tmp 2]) Tryd.results51 (Nat.le_of_ble_eq_true rfl) ?_; intro X hX hR; refine vc_ok hX.ok hX.fn 1000 _ _ ?_; simp only [Tryd.f51, Option.get!])
  have hlen := (hR.agg (List.mem_cons_self ..)).len (show AV.sl 6 false (s.fs.map encF) ∈ encS s by simp [encS])
  rw [List.length_map] at hlen
  simp only [zS, hX.T, hX.nt, reduceIte, Nat.reduceEqDiff, Nat.reduceLT, Nat.reduceLeDiff, Nat.reduceAdd, Nat.reduceSub, Nat.reduceBEq, reduceCtorEq, Int.reduceNeg, bs_nil, bs_beq, bs_size, bs_append, encS]
  refine Run.loop (α := Nat) (fun i => [(1, .pt 1 0), (3, I i)]) (fun _ => [(1, .box 35 (encS s))]) (fun i => i ≤ s.fs.length ∧ rightFs s.next (s.fs.take i) (s.fs.drop i) = rightFs s.next [] s.fs) (fun i => s.fs.length - i) 0 id ⟨Nat.zero_le _, rfl⟩ (.of hX.NL (by simp only [zS, hX.T, hX.nt, reduceIte, Nat.reduceEqDiff, Nat.reduceLT, Nat.reduceLeDiff, Nat.reduceAdd, Nat.reduceSub, Nat.reduceBEq, reduceCtorEq, Int.reduceNeg, bs_nil, bs_beq, bs_size, bs_append, ren, renL, renB, encS] <;> rfl) rfl rfl) ?_
  intro i ⟨hi, hn⟩ ih
  refine hX.go ?_
  simp only [zS, hX.T, hX.nt, reduceIte, Nat.reduceEqDiff, Nat.reduceLT, Nat.reduceLeDiff, Nat.reduceAdd, Nat.reduceSub, Nat.reduceBEq, reduceCtorEq, Int.reduceNeg, bs_nil, bs_beq, bs_size, bs_append, encS]
  refine bc_split (fun h => ?_) (fun h => ?_)
  · have h := of_decide_eq_true h
    have hlt : i < s.fs.length := by omega
    have hrow := row_nat encF s.fs i hlt
    rw [rightFs_step hlt] at hn
    simp only [zS, hX.T, hX.nt, reduceIte, Nat.reduceEqDiff, Nat.reduceLT, Nat.reduceLeDiff, Nat.reduceAdd, Nat.reduceSub, Nat.reduceBEq, reduceCtorEq, Int.reduceNeg, bs_nil, bs_beq, bs_size, bs_append, h]
    refine hX.draw (by kernel_rfl) (by decide) ?_
    simp only [zS, hX.T, hX.nt, reduceIte, Nat.reduceEqDiff, Nat.reduceLT, Nat.reduceLeDiff, Nat.reduceAdd, Nat.reduceSub, Nat.reduceBEq, reduceCtorEq, Int.reduceNeg, bs_nil, bs_beq, bs_size, bs_append, h, Int.natCast_nonneg, hrow, encF]
    refine hX.pureD (p92 s.fs[i] s.next (hs _ (List.getElem_mem ..))) rfl rfl (by decide) ?_
    simp only [zS, hX.T, hX.nt, reduceIte, Nat.reduceEqDiff, Nat.reduceLT, Nat.reduceLeDiff, Nat.reduceAdd, Nat.reduceSub, Nat.reduceBEq, reduceCtorEq, Int.reduceNeg, bs_nil, bs_beq, bs_size, bs_append]
    refine hX.gos (by rfl) ?_
    simp only [zS, hX.T, hX.nt, reduceIte, Nat.reduceEqDiff, Nat.reduceLT, Nat.reduceLeDiff, Nat.reduceAdd, Nat.reduceSub, Nat.reduceBEq, reduceCtorEq, Int.reduceNeg, bs_nil, bs_beq, bs_size, bs_append]
    refine bc_split (fun hr => ?_) (fun hr => ?_)
    · simp only [zS, hX.T, hX.nt, reduceIte, Nat.reduceEqDiff, Nat.reduceLT, Nat.reduceLeDiff, Nat.reduceAdd, Nat.reduceSub, Nat.reduceBEq, reduceCtorEq, Int.reduceNeg, bs_nil, bs_beq, bs_size, bs_append]
      (refine hX.ret (by first | exact .inl rfl | exact .inr rfl) ?_; simp only [zR, zS, hX.T, hX.nt, reduceIte, Nat.reduceEqDiff, Nat.reduceLT, Nat.reduceLeDiff, Nat.reduceAdd, Nat.reduceSub, Nat.reduceBEq, reduceCtorEq, Int.reduceNeg] <;> try rfl)
      unfold rightS
      rw [← hn]
      simp at hr
      simp [hr]
    · simp only [zS, hX.T, hX.nt, reduceIte, Nat.reduceEqDiff, Nat.reduceLT, Nat.reduceLeDiff, Nat.reduceAdd, Nat.reduceSub, Nat.reduceBEq, reduceCtorEq, Int.reduceNeg, bs_nil, bs_beq, bs_size, bs_append]
      simp only [Bool.not_eq_false'] at hr
      refine Run.loop (α := Nat) (fun j => [(1, .pt 1 0), (3, I i), (5, I j)]) (fun _ => [(1, .box 35 (encS s))]) (fun j => j ≤ i ∧ (s.fs.take j).any (clash s.fs[i]) = false) (fun j => i - j) 0 id ⟨Nat.zero_le _, rfl⟩ (.of hX.NL (by simp only [zS, hX.T, hX.nt, reduceIte, Nat.reduceEqDiff, Nat.reduceLT, Nat.reduceLeDiff, Nat.reduceAdd, Nat.reduceSub, Nat.reduceBEq, reduceCtorEq, Int.reduceNeg, bs_nil, bs_beq, bs_size, bs_append, ren, renL, renB, encS] <;> rfl) rfl rfl) ?_
      intro j ⟨hj, hm⟩ ih2
      refine hX.go ?_
      simp only [zS, hX.T, hX.nt, reduceIte, Nat.reduceEqDiff, Nat.reduceLT, Nat.reduceLeDiff, Nat.reduceAdd, Nat.reduceSub, Nat.reduceBEq, reduceCtorEq, Int.reduceNeg, bs_nil, bs_beq, bs_size, bs_append, encS]
      refine bc_split (fun h2 => ?_) (fun h2 => ?_)
      · have h2 := of_decide_eq_true h2
        have hlj : j < s.fs.length := by omega
        have hrj := row_nat encF s.fs j hlj
        have hjj : (j : Int) < (s.fs.length : Int) := by omega
        simp only [zS, hX.T, hX.nt, reduceIte, Nat.reduceEqDiff, Nat.reduceLT, Nat.reduceLeDiff, Nat.reduceAdd, Nat.reduceSub, Nat.reduceBEq, reduceCtorEq, Int.reduceNeg, bs_nil, bs_beq, bs_size, bs_append, h2]
        refine hX.draw (by kernel_rfl) (by decide) ?_
        simp only [zS, hX.T, hX.nt, reduceIte, Nat.reduceEqDiff, Nat.reduceLT, Nat.reduceLeDiff, Nat.reduceAdd, Nat.reduceSub, Nat.reduceBEq, reduceCtorEq, Int.reduceNeg, bs_nil, bs_beq, bs_size, bs_append, h, hjj, Int.natCast_nonneg, hrow, hrj, encF]
        refine pb_split (fun h3 => ?_) (fun h3 => ?_)
        · simp only [zS, hX.T, hX.nt, reduceIte, Nat.reduceEqDiff, Nat.reduceLT, Nat.reduceLeDiff, Nat.reduceAdd, Nat.reduceSub, Nat.reduceBEq, reduceCtorEq, Int.reduceNeg, bs_nil, bs_beq, bs_size, bs_append, h3, h, hjj, Int.natCast_nonneg, hrow, hrj, encF]
          refine hX.gos (by rfl) ?_
          simp only [zS, hX.T, hX.nt, reduceIte, Nat.reduceEqDiff, Nat.reduceLT, Nat.reduceLeDiff, Nat.reduceAdd, Nat.reduceSub, Nat.reduceBEq, reduceCtorEq, Int.reduceNeg, bs_nil, bs_beq, bs_size, bs_append, h3]
          (refine hX.ret (by first | exact .inl rfl | exact .inr rfl) ?_; simp only [zR, zS, hX.T, hX.nt, reduceIte, Nat.reduceEqDiff, Nat.reduceLT, Nat.reduceLeDiff, Nat.reduceAdd, Nat.reduceSub, Nat.reduceBEq, reduceCtorEq, Int.reduceNeg] <;> try rfl)
          unfold rightS
          rw [← hn, any_take_true hlj (by omega) (by simp [clash, h3])]
          simp
        · simp only [zS, hX.T, hX.nt, reduceIte, Nat.reduceEqDiff, Nat.reduceLT, Nat.reduceLeDiff, Nat.reduceAdd, Nat.reduceSub, Nat.reduceBEq, reduceCtorEq, Int.reduceNeg, bs_nil, bs_beq, bs_size, bs_append, h3, h, hjj, Int.natCast_nonneg, hrow, hrj, encF]
          refine hX.gos (by rfl) ?_
          simp only [zS, hX.T, hX.nt, reduceIte, Nat.reduceEqDiff, Nat.reduceLT, Nat.reduceLeDiff, Nat.reduceAdd, Nat.reduceSub, Nat.reduceBEq, reduceCtorEq, Int.reduceNeg, bs_nil, bs_beq, bs_size, bs_append, h3]
          refine bc_split (fun h4 => ?_) (fun h4 => ?_)
          · simp only [zS, hX.T, hX.nt, reduceIte, Nat.reduceEqDiff, Nat.reduceLT, Nat.reduceLeDiff, Nat.reduceAdd, Nat.reduceSub, Nat.reduceBEq, reduceCtorEq, Int.reduceNeg, bs_nil, bs_beq, bs_size, bs_append]
            (refine hX.ret (by first | exact .inl rfl | exact .inr rfl) ?_; simp only [zR, zS, hX.T, hX.nt, reduceIte, Nat.reduceEqDiff, Nat.reduceLT, Nat.reduceLeDiff, Nat.reduceAdd, Nat.reduceSub, Nat.reduceBEq, reduceCtorEq, Int.reduceNeg] <;> try rfl)
            unfold rightS
            rw [← hn, any_take_true hlj (by omega) (by simp [clash, h4])]
            simp
          · simp only [zS, hX.T, hX.nt, reduceIte, Nat.reduceEqDiff, Nat.reduceLT, Nat.reduceLeDiff, Nat.reduceAdd, Nat.reduceSub, Nat.reduceBEq, reduceCtorEq, Int.reduceNeg, bs_nil, bs_beq, bs_size, bs_append]
            refine ih2 (j + 1) id _ ⟨by omega, by rw [any_take hlj, hm]; simp [clash, h3, h4]⟩ (by omega) (.of hX.NL (by simp only [zS, hX.T, hX.nt, reduceIte, Nat.reduceEqDiff, Nat.reduceLT, Nat.reduceLeDiff, Nat.reduceAdd, Nat.reduceSub, Nat.reduceBEq, reduceCtorEq, Int.reduceNeg, bs_nil, bs_beq, bs_size, bs_append, ren, renL, renB, encS, wrap_succ hlj hlen] <;> rfl) rfl rfl)
      · have h2 := of_decide_eq_false h2
        have : j = i := by omega
        subst this
        simp only [zS, hX.T, hX.nt, reduceIte, Nat.reduceEqDiff, Nat.reduceLT, Nat.reduceLeDiff, Nat.reduceAdd, Nat.reduceSub, Nat.reduceBEq, reduceCtorEq, Int.reduceNeg, bs_nil, bs_beq, bs_size, bs_append]
        refine ih (j + 1) id _ ⟨by omega, by rw [← hn, hr, hm]; simp⟩ (by omega) (.of hX.NL (by simp only [zS, hX.T, hX.nt, reduceIte, Nat.reduceEqDiff, Nat.reduceLT, Nat.reduceLeDiff, Nat.reduceAdd, Nat.reduceSub, Nat.reduceBEq, reduceCtorEq, Int.reduceNeg, bs_nil, bs_beq, bs_size, bs_append, ren, renL, renB, encS, wrap_succ hlt hlen] <;> rfl) rfl rfl)
  · have h := of_decide_eq_false h
    rw [rightFs_end (by omega)] at hn
    simp only [zS, hX.T, hX.nt, reduceIte, Nat.reduceEqDiff, Nat.reduceLT, Nat.reduceLeDiff, Nat.reduceAdd, Nat.reduceSub, Nat.reduceBEq, reduceCtorEq, Int.reduceNeg, bs_nil, bs_beq, bs_size, bs_append, encS]
    repeat' first | (refine bc_split (fun h => ?_) (fun h => ?_) <;> simp only [zS, hX.T, hX.nt, reduceIte, Nat.reduceEqDiff, Nat.reduceLT, Nat.reduceLeDiff, Nat.reduceAdd, Nat.reduceSub, Nat.reduceBEq, reduceCtorEq, Int.reduceNeg, bs_nil, bs_beq, bs_size, bs_append, zS, encS, h]) | (refine bg_split (fun h => ?_) (fun h => ?_) <;> simp only [zS, hX.T, hX.nt, reduceIte, Nat.reduceEqDiff, Nat.reduceLT, Nat.reduceLeDiff, Nat.reduceAdd, Nat.reduceSub, Nat.reduceBEq, reduceCtorEq, Int.reduceNeg, bs_nil, bs_beq, bs_size, bs_append, zS, encS, h]) | (refine pb_split (fun h => ?_) (fun h => ?_) <;> simp only [zS, hX.T, hX.nt, reduceIte, Nat.reduceEqDiff, Nat.reduceLT, Nat.reduceLeDiff, Nat.reduceAdd, Nat.reduceSub, Nat.reduceBEq, reduceCtorEq, Int.reduceNeg, bs_nil, bs_beq, bs_size, bs_append, zS, encS, h]) | (refine hX.gos (by rfl) ?_; simp only [zS, hX.T, hX.nt, reduceIte, Nat.reduceEqDiff, Nat.reduceLT, Nat.reduceLeDiff, Nat.reduceAdd, Nat.reduceSub, Nat.reduceBEq, reduceCtorEq, Int.reduceNeg, bs_nil, bs_beq, bs_size, bs_append, zS, encS])
    all_goals ((refine hX.ret (by first | exact .inl rfl | exact .inr rfl) ?_; simp only [zR, zS, hX.T, hX.nt, reduceIte, Nat.reduceEqDiff, Nat.reduceLT, Nat.reduceLeDiff, Nat.reduceAdd, Nat.reduceSub, Nat.reduceBEq, reduceCtorEq, Int.reduceNeg] <;> try rfl); unfold rightS; rw [← hn]; clear hX hR ih; grind)
end Go.Proofs.YtkbidoikndgheaaDoor.HL

namespace Go.Proofs.YtkbidoikndgheaaDoor.HL
open Go.Proofs
set_option maxRecDepth 100000
set_option maxHeartbeats 4000000
theorem find_step {α : Type} {p : α → Bool} {l : List α} {i : Nat} (h : i < l.length) : (l.drop i).find? p = if p l[i] = true then some l[i] else (l.drop (i + 1)).find? p := by
  rw [List.drop_eq_getElem_cons h, List.find?_cons]
  cases p l[i] <;> rfl
theorem find_end {α : Type} {p : α → Bool} {l : List α} {i : Nat} (h : l.length ≤ i) : (l.drop i).find? p = none := by rw [List.drop_eq_nil_of_le h]; rfl
def fndF (o : Option Fld) : AV := .tup [.agg (encF (o.getD fld0)), B o.isSome]
theorem p47 (s : Sch) (nm : Bs) : PureFn Tryd.prog 47 [.agg (encS s), Sb nm] (fndF (findN s.fs nm)) := by
  (refine PureFn.of_run ty_ok Tryd.func47 (c := Tryd.f47.body.get!) rfl (by decide) Tryd.ntmps47 (res := [.cell 4 45, .tmp 5]) Tryd.results47 (Nat.le_of_ble_eq_true rfl) ?_; intro X hX hR; refine vc_ok hX.ok hX.fn 1000 _ _ ?_; simp only [Tryd.f47, Option.get!])
  have hlen := (hR.agg (List.mem_cons_self ..)).len (show AV.sl 6 false (s.fs.map encF) ∈ encS s by simp [encS])
  rw [List.length_map] at hlen
  simp only [zS, hX.T, hX.nt, reduceIte, Nat.reduceEqDiff, Nat.reduceLT, Nat.reduceLeDiff, Nat.reduceAdd, Nat.reduceSub, Nat.reduceBEq, reduceCtorEq, Int.reduceNeg, bs_nil, bs_beq, bs_size, bs_append, encS]
  refine Run.loop (α := Nat) (fun i => [(1, Sb nm), (2, .pt 2 0), (4, .pt 4 0), (6, I i)]) (fun _ => [(2, .box 35 (encS s)), (4, .box 45 (encF fld0))]) (fun i => i ≤ s.fs.length ∧ (s.fs.drop i).find? (fun f => f.name == nm) = findN s.fs nm) (fun i => s.fs.length - i) 0 id ⟨Nat.zero_le _, rfl⟩ (.of hX.NL (by simp only [zS, hX.T, hX.nt, reduceIte, Nat.reduceEqDiff, Nat.reduceLT, Nat.reduceLeDiff, Nat.reduceAdd, Nat.reduceSub, Nat.reduceBEq, reduceCtorEq, Int.reduceNeg, bs_nil, bs_beq, bs_size, bs_append, ren, renL, renB, encS] <;> rfl) rfl rfl) ?_
  intro i ⟨hi, hn⟩ ih
  refine hX.go ?_
  simp only [zS, hX.T, hX.nt, reduceIte, Nat.reduceEqDiff, Nat.reduceLT, Nat.reduceLeDiff, Nat.reduceAdd, Nat.reduceSub, Nat.reduceBEq, reduceCtorEq, Int.reduceNeg, bs_nil, bs_beq, bs_size, bs_append, encS, encF]
  refine bc_split (fun h => ?_) (fun h => ?_)
  · have h := of_decide_eq_true h
    have hlt : i < s.fs.length := by omega
    have hrow := row_nat encF s.fs i hlt
    rw [find_step hlt] at hn
    simp only [zS, hX.T, hX.nt, reduceIte, Nat.reduceEqDiff, Nat.reduceLT, Nat.reduceLeDiff, Nat.reduceAdd, Nat.reduceSub, Nat.reduceBEq, reduceCtorEq, Int.reduceNeg, bs_nil, bs_beq, bs_size, bs_append, h, Int.natCast_nonneg, hrow, encF]
    refine bc_split (fun h1 => ?_) (fun h1 => ?_)
    · simp only [zS, hX.T, hX.nt, reduceIte, Nat.reduceEqDiff, Nat.reduceLT, Nat.reduceLeDiff, Nat.reduceAdd, Nat.reduceSub, Nat.reduceBEq, reduceCtorEq, Int.reduceNeg, bs_nil, bs_beq, bs_size, bs_append, h, Int.natCast_nonneg, hrow, encF]
      rw [← hn, if_pos h1] at hX
      (refine hX.ret (by first | exact .inl rfl | exact .inr rfl) ?_; simp only [zR, zS, hX.T, hX.nt, reduceIte, Nat.reduceEqDiff, Nat.reduceLT, Nat.reduceLeDiff, Nat.reduceAdd, Nat.reduceSub, Nat.reduceBEq, reduceCtorEq, Int.reduceNeg, fndF, encF, Option.getD_some, Option.isSome_some] <;> try rfl)
    · simp only [zS, hX.T, hX.nt, reduceIte, Nat.reduceEqDiff, Nat.reduceLT, Nat.reduceLeDiff, Nat.reduceAdd, Nat.reduceSub, Nat.reduceBEq, reduceCtorEq, Int.reduceNeg, bs_nil, bs_beq, bs_size, bs_append]
      refine ih (i + 1) id _ ⟨hlt, by rw [← hn, h1]; rfl⟩ (by omega) (.of hX.NL (by simp only [zS, hX.T, hX.nt, reduceIte, Nat.reduceEqDiff, Nat.reduceLT, Nat.reduceLeDiff, Nat.reduceAdd, Nat.reduceSub, Nat.reduceBEq, reduceCtorEq, Int.reduceNeg, bs_nil, bs_beq, bs_size, bs_append, ren, renL, renB, encS, encF, wrap_succ hlt hlen] <;> rfl) rfl rfl)
  · have h := of_decide_eq_false h
    rw [find_end (by omega)] at hn
    simp only [zS, hX.T, hX.nt, reduceIte, Nat.reduceEqDiff, Nat.reduceLT, Nat.reduceLeDiff, Nat.reduceAdd, Nat.reduceSub, Nat.reduceBEq, reduceCtorEq, Int.reduceNeg, bs_nil, bs_beq, bs_size, bs_append]
    rw [← hn] at hX
    (refine hX.ret (by first | exact .inl rfl | exact .inr rfl) ?_; simp only [zR, zS, hX.T, hX.nt, reduceIte, Nat.reduceEqDiff, Nat.reduceLT, Nat.reduceLeDiff, Nat.reduceAdd, Nat.reduceSub, Nat.reduceBEq, reduceCtorEq, Int.reduceNeg, fndF, encF, Option.getD_none, Option.isSome_none, fld0, val0] <;> try rfl)
theorem p26 (s : Sch) (id' : Int) : PureFn Tryd.prog 26 [.agg (encS s), I id'] (fndF (findI s.fs id')) := by
  (refine PureFn.of_run ty_ok Tryd.func26 (c := Tryd.f26.body.get!) rfl (by decide) Tryd.ntmps26 (res := [.cell 4 45, .tmp 5]) Tryd.results26 (Nat.le_of_ble_eq_true rfl) ?_; intro X hX hR; refine vc_ok hX.ok hX.fn 1000 _ _ ?_; simp only [Tryd.f26, Option.get!])
  have hlen := (hR.agg (List.mem_cons_self ..)).len (show AV.sl 6 false (s.fs.map encF) ∈ encS s by simp [encS])
  rw [List.length_map] at hlen
  simp only [zS, hX.T, hX.nt, reduceIte, Nat.reduceEqDiff, Nat.reduceLT, Nat.reduceLeDiff, Nat.reduceAdd, Nat.reduceSub, Nat.reduceBEq, reduceCtorEq, Int.reduceNeg, bs_nil, bs_beq, bs_size, bs_append, encS]
  refine Run.loop (α := Nat) (fun i => [(1, I id'), (2, .pt 2 0), (4, .pt 4 0), (6, I i)]) (fun _ => [(2, .box 35 (encS s)), (4, .box 45 (encF fld0))]) (fun i => i ≤ s.fs.length ∧ (s.fs.drop i).find? (fun f => f.id == id') = findI s.fs id') (fun i => s.fs.length - i) 0 id ⟨Nat.zero_le _, rfl⟩ (.of hX.NL (by simp only [zS, hX.T, hX.nt, reduceIte, Nat.reduceEqDiff, Nat.reduceLT, Nat.reduceLeDiff, Nat.reduceAdd, Nat.reduceSub, Nat.reduceBEq, reduceCtorEq, Int.reduceNeg, bs_nil, bs_beq, bs_size, bs_append, ren, renL, renB, encS] <;> rfl) rfl rfl) ?_
  intro i ⟨hi, hn⟩ ih
  refine hX.go ?_
  simp only [zS, hX.T, hX.nt, reduceIte, Nat.reduceEqDiff, Nat.reduceLT, Nat.reduceLeDiff, Nat.reduceAdd, Nat.reduceSub, Nat.reduceBEq, reduceCtorEq, Int.reduceNeg, bs_nil, bs_beq, bs_size, bs_append, encS, encF]
  refine bc_split (fun h => ?_) (fun h => ?_)
  · have h := of_decide_eq_true h
    have hlt : i < s.fs.length := by omega
    have hrow := row_nat encF s.fs i hlt
    rw [find_step hlt] at hn
    simp only [zS, hX.T, hX.nt, reduceIte, Nat.reduceEqDiff, Nat.reduceLT, Nat.reduceLeDiff, Nat.reduceAdd, Nat.reduceSub, Nat.reduceBEq, reduceCtorEq, Int.reduceNeg, bs_nil, bs_beq, bs_size, bs_append, h, Int.natCast_nonneg, hrow, encF]
    refine bc_split (fun h1 => ?_) (fun h1 => ?_)
    · simp only [zS, hX.T, hX.nt, reduceIte, Nat.reduceEqDiff, Nat.reduceLT, Nat.reduceLeDiff, Nat.reduceAdd, Nat.reduceSub, Nat.reduceBEq, reduceCtorEq, Int.reduceNeg, bs_nil, bs_beq, bs_size, bs_append, h, Int.natCast_nonneg, hrow, encF]
      rw [← hn, if_pos h1] at hX
      (refine hX.ret (by first | exact .inl rfl | exact .inr rfl) ?_; simp only [zR, zS, hX.T, hX.nt, reduceIte, Nat.reduceEqDiff, Nat.reduceLT, Nat.reduceLeDiff, Nat.reduceAdd, Nat.reduceSub, Nat.reduceBEq, reduceCtorEq, Int.reduceNeg, fndF, encF, Option.getD_some, Option.isSome_some] <;> try rfl)
    · simp only [zS, hX.T, hX.nt, reduceIte, Nat.reduceEqDiff, Nat.reduceLT, Nat.reduceLeDiff, Nat.reduceAdd, Nat.reduceSub, Nat.reduceBEq, reduceCtorEq, Int.reduceNeg, bs_nil, bs_beq, bs_size, bs_append]
      refine ih (i + 1) id _ ⟨hlt, by rw [← hn, h1]; rfl⟩ (by omega) (.of hX.NL (by simp only [zS, hX.T, hX.nt, reduceIte, Nat.reduceEqDiff, Nat.reduceLT, Nat.reduceLeDiff, Nat.reduceAdd, Nat.reduceSub, Nat.reduceBEq, reduceCtorEq, Int.reduceNeg, bs_nil, bs_beq, bs_size, bs_append, ren, renL, renB, encS, encF, wrap_succ hlt hlen] <;> rfl) rfl rfl)
  · have h := of_decide_eq_false h
    rw [find_end (by omega)] at hn
    simp only [zS, hX.T, hX.nt, reduceIte, Nat.reduceEqDiff, Nat.reduceLT, Nat.reduceLeDiff, Nat.reduceAdd, Nat.reduceSub, Nat.reduceBEq, reduceCtorEq, Int.reduceNeg, bs_nil, bs_beq, bs_size, bs_append]
    rw [← hn] at hX
    (refine hX.ret (by first | exact .inl rfl | exact .inr rfl) ?_; simp only [zR, zS, hX.T, hX.nt, reduceIte, Nat.reduceEqDiff, Nat.reduceLT, Nat.reduceLeDiff, Nat.reduceAdd, Nat.reduceSub, Nat.reduceBEq, reduceCtorEq, Int.reduceNeg, fndF, encF, Option.getD_none, Option.isSome_none, fld0, val0] <;> try rfl)
theorem fitsL_step {fs : List Fld} {l : List Val} {i : Nat} (h : i < fs.length) (h' : i < l.length) : fitsL (fs.drop i) (l.drop i) = if rightV l[i] = false then 13 else if l[i].k ≠ fs[i].kind then 12 else fitsL (fs.drop (i + 1)) (l.drop (i + 1)) := by
  rw [List.drop_eq_getElem_cons h, List.drop_eq_getElem_cons h', fitsL]
theorem fitsL_end {fs : List Fld} {l : List Val} {i : Nat} (h' : l.length ≤ i) : fitsL fs (l.drop i) = 0 := by
  rw [List.drop_eq_nil_of_le h']
  cases fs <;> rfl
theorem p22 (s : Sch) (l : List Val) : PureFn Tryd.prog 22 [.agg (encS s), slV l] (I (fits s.fs l)) := by
  (refine PureFn.of_run ty_ok Tryd.func22 (c := Tryd.f22.body.get!) rfl (by decide) Tryd.ntmps22 (res := [.tmp 4]) Tryd.results22 (Nat.le_of_ble_eq_true rfl) ?_; intro X hX hR; refine vc_ok hX.ok hX.fn 1000 _ _ ?_; simp only [Tryd.f22, Option.get!])
  have hlen := hR.len (show AV.sl 3 false (l.map encV) ∈ _ by simp [slV])
  rw [List.length_map] at hlen
  simp only [zS, hX.T, hX.nt, reduceIte, Nat.reduceEqDiff, Nat.reduceLT, Nat.reduceLeDiff, Nat.reduceAdd, Nat.reduceSub, Nat.reduceBEq, reduceCtorEq, Int.reduceNeg, bs_nil, bs_beq, bs_size, bs_append, encS, slV]
  refine bc_split (fun h0 => ?_) (fun h0 => ?_)
  · simp only [zS, hX.T, hX.nt, reduceIte, Nat.reduceEqDiff, Nat.reduceLT, Nat.reduceLeDiff, Nat.reduceAdd, Nat.reduceSub, Nat.reduceBEq, reduceCtorEq, Int.reduceNeg, bs_nil, bs_beq, bs_size, bs_append]
    (refine hX.ret (by first | exact .inl rfl | exact .inr rfl) ?_; simp only [zR, zS, hX.T, hX.nt, reduceIte, Nat.reduceEqDiff, Nat.reduceLT, Nat.reduceLeDiff, Nat.reduceAdd, Nat.reduceSub, Nat.reduceBEq, reduceCtorEq, Int.reduceNeg] <;> try rfl)
    rw [fits, if_pos (by simp at h0; omega)]
  · have hl : l.length = s.fs.length := by simp at h0; omega
    rw [fits, if_neg (by simp [hl])] at hX
    simp only [zS, hX.T, hX.nt, reduceIte, Nat.reduceEqDiff, Nat.reduceLT, Nat.reduceLeDiff, Nat.reduceAdd, Nat.reduceSub, Nat.reduceBEq, reduceCtorEq, Int.reduceNeg, bs_nil, bs_beq, bs_size, bs_append]
    refine Run.loop (α := Nat) (fun i => [(1, slV l), (2, .pt 2 0), (5, I i)]) (fun _ => [(2, .box 35 (encS s))]) (fun i => i ≤ l.length ∧ fitsL (s.fs.drop i) (l.drop i) = fitsL s.fs l) (fun i => l.length - i) 0 id ⟨Nat.zero_le _, rfl⟩ (.of hX.NL (by simp only [zS, hX.T, hX.nt, reduceIte, Nat.reduceEqDiff, Nat.reduceLT, Nat.reduceLeDiff, Nat.reduceAdd, Nat.reduceSub, Nat.reduceBEq, reduceCtorEq, Int.reduceNeg, bs_nil, bs_beq, bs_size, bs_append, ren, renL, renB, encS, slV] <;> rfl) rfl rfl) ?_
    intro i ⟨hi, hn⟩ ih
    refine hX.go ?_
    simp only [zS, hX.T, hX.nt, reduceIte, Nat.reduceEqDiff, Nat.reduceLT, Nat.reduceLeDiff, Nat.reduceAdd, Nat.reduceSub, Nat.reduceBEq, reduceCtorEq, Int.reduceNeg, bs_nil, bs_beq, bs_size, bs_append, encS, slV]
    refine bc_split (fun h => ?_) (fun h => ?_)
    · have h := of_decide_eq_true h
      have hlt : i < l.length := by omega
      have hlf : i < s.fs.length := by omega
      have hlf' : (i : Int) < (s.fs.length : Int) := by omega
      have hrow := row_nat encV l i hlt
      have hrowf := row_nat encF s.fs i hlf
      rw [fitsL_step hlf hlt] at hn
      simp only [zS, hX.T, hX.nt, reduceIte, Nat.reduceEqDiff, Nat.reduceLT, Nat.reduceLeDiff, Nat.reduceAdd, Nat.reduceSub, Nat.reduceBEq, reduceCtorEq, Int.reduceNeg, bs_nil, bs_beq, bs_size, bs_append, h, Int.natCast_nonneg, hrow, encV]
      refine hX.pure (p66 l[i]) rfl rfl (by decide) ?_
      simp only [zS, hX.T, hX.nt, reduceIte, Nat.reduceEqDiff, Nat.reduceLT, Nat.reduceLeDiff, Nat.reduceAdd, Nat.reduceSub, Nat.reduceBEq, reduceCtorEq, Int.reduceNeg, bs_nil, bs_beq, bs_size, bs_append]
      refine bc_split (fun h1 => ?_) (fun h1 => ?_)
      · simp only [zS, hX.T, hX.nt, reduceIte, Nat.reduceEqDiff, Nat.reduceLT, Nat.reduceLeDiff, Nat.reduceAdd, Nat.reduceSub, Nat.reduceBEq, reduceCtorEq, Int.reduceNeg, bs_nil, bs_beq, bs_size, bs_append]
        rw [← hn, if_pos (by simpa using h1)] at hX
        (refine hX.ret (by first | exact .inl rfl | exact .inr rfl) ?_; simp only [zR, zS, hX.T, hX.nt, reduceIte, Nat.reduceEqDiff, Nat.reduceLT, Nat.reduceLeDiff, Nat.reduceAdd, Nat.reduceSub, Nat.reduceBEq, reduceCtorEq, Int.reduceNeg] <;> try rfl)
      · simp only [zS, hX.T, hX.nt, reduceIte, Nat.reduceEqDiff, Nat.reduceLT, Nat.reduceLeDiff, Nat.reduceAdd, Nat.reduceSub, Nat.reduceBEq, reduceCtorEq, Int.reduceNeg, bs_nil, bs_beq, bs_size, bs_append]
        refine hX.draw (by kernel_rfl) (by decide) ?_
        simp only [zS, hX.T, hX.nt, reduceIte, Nat.reduceEqDiff, Nat.reduceLT, Nat.reduceLeDiff, Nat.reduceAdd, Nat.reduceSub, Nat.reduceBEq, reduceCtorEq, Int.reduceNeg, bs_nil, bs_beq, bs_size, bs_append, h, hlf', Int.natCast_nonneg, hrow, hrowf, encV, encF]
        refine hX.gos (by rfl) ?_
        simp only [zS, hX.T, hX.nt, reduceIte, Nat.reduceEqDiff, Nat.reduceLT, Nat.reduceLeDiff, Nat.reduceAdd, Nat.reduceSub, Nat.reduceBEq, reduceCtorEq, Int.reduceNeg, bs_nil, bs_beq, bs_size, bs_append]
        refine bc_split (fun h2 => ?_) (fun h2 => ?_)
        · simp only [zS, hX.T, hX.nt, reduceIte, Nat.reduceEqDiff, Nat.reduceLT, Nat.reduceLeDiff, Nat.reduceAdd, Nat.reduceSub, Nat.reduceBEq, reduceCtorEq, Int.reduceNeg, bs_nil, bs_beq, bs_size, bs_append]
          rw [← hn, if_neg (by simpa using h1), if_pos (by simpa using h2)] at hX
          (refine hX.ret (by first | exact .inl rfl | exact .inr rfl) ?_; simp only [zR, zS, hX.T, hX.nt, reduceIte, Nat.reduceEqDiff, Nat.reduceLT, Nat.reduceLeDiff, Nat.reduceAdd, Nat.reduceSub, Nat.reduceBEq, reduceCtorEq, Int.reduceNeg] <;> try rfl)
        · simp only [zS, hX.T, hX.nt, reduceIte, Nat.reduceEqDiff, Nat.reduceLT, Nat.reduceLeDiff, Nat.reduceAdd, Nat.reduceSub, Nat.reduceBEq, reduceCtorEq, Int.reduceNeg, bs_nil, bs_beq, bs_size, bs_append]
          refine ih (i + 1) id _ ⟨hlt, by rw [← hn, if_neg (by simpa using h1), if_neg (by simpa using h2)]⟩ (by omega) (.of hX.NL (by simp only [zS, hX.T, hX.nt, reduceIte, Nat.reduceEqDiff, Nat.reduceLT, Nat.reduceLeDiff, Nat.reduceAdd, Nat.reduceSub, Nat.reduceBEq, reduceCtorEq, Int.reduceNeg, bs_nil, bs_beq, bs_size, bs_append, ren, renL, renB, encS, slV, wrap_succ hlt hlen] <;> rfl) rfl rfl)
    · have h := of_decide_eq_false h
      rw [fitsL_end (by omega)] at hn
      simp only [zS, hX.T, hX.nt, reduceIte, Nat.reduceEqDiff, Nat.reduceLT, Nat.reduceLeDiff, Nat.reduceAdd, Nat.reduceSub, Nat.reduceBEq, reduceCtorEq, Int.reduceNeg, bs_nil, bs_beq, bs_size, bs_append]
      rw [← hn] at hX
      (refine hX.ret (by first | exact .inl rfl | exact .inr rfl) ?_; simp only [zR, zS, hX.T, hX.nt, reduceIte, Nat.reduceEqDiff, Nat.reduceLT, Nat.reduceLeDiff, Nat.reduceAdd, Nat.reduceSub, Nat.reduceBEq, reduceCtorEq, Int.reduceNeg] <;> try rfl)
theorem p75 (a b c : Int) : PureFn Tryd.prog 75 [I a, I b, I c] (B (decide (b ≤ a) && decide (a ≤ c))) := by
  (refine PureFn.of_run ty_ok Tryd.func75 (c := Tryd.f75.body.get!) rfl (by decide) Tryd.ntmps75 (res := [.tmp 6]) Tryd.results75 (Nat.le_of_ble_eq_true rfl) ?_; intro X hX hR; refine vc_ok hX.ok hX.fn 1000 _ _ ?_; simp only [Tryd.f75, Option.get!])
  simp only [zS, hX.T, hX.nt, reduceIte, Nat.reduceEqDiff, Nat.reduceLT, Nat.reduceLeDiff, Nat.reduceAdd, Nat.reduceSub, Nat.reduceBEq, reduceCtorEq, Int.reduceNeg, bs_nil, bs_beq, bs_size, bs_append]
  repeat' first | (refine bc_split (fun h => ?_) (fun h => ?_) <;> simp only [zS, hX.T, hX.nt, reduceIte, Nat.reduceEqDiff, Nat.reduceLT, Nat.reduceLeDiff, Nat.reduceAdd, Nat.reduceSub, Nat.reduceBEq, reduceCtorEq, Int.reduceNeg, bs_nil, bs_beq, bs_size, bs_append, zS, h]) | (refine bg_split (fun h => ?_) (fun h => ?_) <;> simp only [zS, hX.T, hX.nt, reduceIte, Nat.reduceEqDiff, Nat.reduceLT, Nat.reduceLeDiff, Nat.reduceAdd, Nat.reduceSub, Nat.reduceBEq, reduceCtorEq, Int.reduceNeg, bs_nil, bs_beq, bs_size, bs_append, zS, h]) | (refine pb_split (fun h => ?_) (fun h => ?_) <;> simp only [zS, hX.T, hX.nt, reduceIte, Nat.reduceEqDiff, Nat.reduceLT, Nat.reduceLeDiff, Nat.reduceAdd, Nat.reduceSub, Nat.reduceBEq, reduceCtorEq, Int.reduceNeg, bs_nil, bs_beq, bs_size, bs_append, zS, h]) | (refine hX.gos (by rfl) ?_; simp only [zS, hX.T, hX.nt, reduceIte, Nat.reduceEqDiff, Nat.reduceLT, Nat.reduceLeDiff, Nat.reduceAdd, Nat.reduceSub, Nat.reduceBEq, reduceCtorEq, Int.reduceNeg, bs_nil, bs_beq, bs_size, bs_append, zS])
  all_goals ((refine hX.ret (by first | exact .inl rfl | exact .inr rfl) ?_; simp only [zR, zS, hX.T, hX.nt, reduceIte, Nat.reduceEqDiff, Nat.reduceLT, Nat.reduceLeDiff, Nat.reduceAdd, Nat.reduceSub, Nat.reduceBEq, reduceCtorEq, Int.reduceNeg] <;> try rfl); clear hX hR; grind)
theorem p45 (s : Sch) (l : List Val) : PureFn Tryd.prog 45 [.agg (encS s), slV l] (I (fits s.fs l)) := by
  (refine PureFn.of_run ty_ok Tryd.func45 (c := Tryd.f45.body.get!) rfl (by decide) Tryd.ntmps45 (res := [.tmp 4]) Tryd.results45 (Nat.le_of_ble_eq_true rfl) ?_; intro X hX hR; refine vc_ok hX.ok hX.fn 1000 _ _ ?_; simp only [Tryd.f45, Option.get!])
  have hlen := hR.len (show AV.sl 3 false (l.map encV) ∈ _ by simp [slV])
  rw [List.length_map] at hlen
  simp only [zS, hX.T, hX.nt, reduceIte, Nat.reduceEqDiff, Nat.reduceLT, Nat.reduceLeDiff, Nat.reduceAdd, Nat.reduceSub, Nat.reduceBEq, reduceCtorEq, Int.reduceNeg, bs_nil, bs_beq, bs_size, bs_append, encS, slV]
  refine bc_split (fun h0 => ?_) (fun h0 => ?_)
  · simp only [zS, hX.T, hX.nt, reduceIte, Nat.reduceEqDiff, Nat.reduceLT, Nat.reduceLeDiff, Nat.reduceAdd, Nat.reduceSub, Nat.reduceBEq, reduceCtorEq, Int.reduceNeg, bs_nil, bs_beq, bs_size, bs_append]
    (refine hX.ret (by first | exact .inl rfl | exact .inr rfl) ?_; simp only [zR, zS, hX.T, hX.nt, reduceIte, Nat.reduceEqDiff, Nat.reduceLT, Nat.reduceLeDiff, Nat.reduceAdd, Nat.reduceSub, Nat.reduceBEq, reduceCtorEq, Int.reduceNeg] <;> try rfl)
    rw [fits, if_pos (by simp at h0; omega)]
  · have hl : l.length = s.fs.length := by simp at h0; omega
    rw [fits, if_neg (by simp [hl])] at hX
    simp only [zS, hX.T, hX.nt, reduceIte, Nat.reduceEqDiff, Nat.reduceLT, Nat.reduceLeDiff, Nat.reduceAdd, Nat.reduceSub, Nat.reduceBEq, reduceCtorEq, Int.reduceNeg, bs_nil, bs_beq, bs_size, bs_append]
    refine Run.loop (α := Nat) (fun i => [(13, slV l), (2, .pt 2 0), (14, I l.length), (15, I i)]) (fun _ => [(2, .box 35 (encS s))]) (fun i => i ≤ l.length ∧ fitsL (s.fs.drop i) (l.drop i) = fitsL s.fs l) (fun i => l.length - i) 0 id ⟨Nat.zero_le _, rfl⟩ (.of hX.NL (by simp only [zS, hX.T, hX.nt, reduceIte, Nat.reduceEqDiff, Nat.reduceLT, Nat.reduceLeDiff, Nat.reduceAdd, Nat.reduceSub, Nat.reduceBEq, reduceCtorEq, Int.reduceNeg, bs_nil, bs_beq, bs_size, bs_append, ren, renL, renB, encS, slV] <;> rfl) rfl rfl) ?_
    intro i ⟨hi, hn⟩ ih
    refine hX.go ?_
    simp only [zS, hX.T, hX.nt, reduceIte, Nat.reduceEqDiff, Nat.reduceLT, Nat.reduceLeDiff, Nat.reduceAdd, Nat.reduceSub, Nat.reduceBEq, reduceCtorEq, Int.reduceNeg, bs_nil, bs_beq, bs_size, bs_append, encS, slV]
    refine bc_split (fun h => ?_) (fun h => ?_)
    · have h := of_decide_eq_true h
      have hlt : i < l.length := by omega
      have hlf : i < s.fs.length := by omega
      have hlf' : (i : Int) < (s.fs.length : Int) := by omega
      have hrow := row_nat encV l i hlt
      have hrowf := row_nat encF s.fs i hlf
      rw [fitsL_step hlf hlt] at hn
      simp only [zS, hX.T, hX.nt, reduceIte, Nat.reduceEqDiff, Nat.reduceLT, Nat.reduceLeDiff, Nat.reduceAdd, Nat.reduceSub, Nat.reduceBEq, reduceCtorEq, Int.reduceNeg, bs_nil, bs_beq, bs_size, bs_append, h, Int.natCast_nonneg, hrow, encV]
      refine hX.pure (p84 l[i]) rfl rfl (by decide) ?_
      simp only [zS, hX.T, hX.nt, reduceIte, Nat.reduceEqDiff, Nat.reduceLT, Nat.reduceLeDiff, Nat.reduceAdd, Nat.reduceSub, Nat.reduceBEq, reduceCtorEq, Int.reduceNeg, bs_nil, bs_beq, bs_size, bs_append]
      refine bc_split (fun h1 => ?_) (fun h1 => ?_)
      · simp only [zS, hX.T, hX.nt, reduceIte, Nat.reduceEqDiff, Nat.reduceLT, Nat.reduceLeDiff, Nat.reduceAdd, Nat.reduceSub, Nat.reduceBEq, reduceCtorEq, Int.reduceNeg, bs_nil, bs_beq, bs_size, bs_append]
        rw [← hn, if_pos (by simpa using h1)] at hX
        (refine hX.ret (by first | exact .inl rfl | exact .inr rfl) ?_; simp only [zR, zS, hX.T, hX.nt, reduceIte, Nat.reduceEqDiff, Nat.reduceLT, Nat.reduceLeDiff, Nat.reduceAdd, Nat.reduceSub, Nat.reduceBEq, reduceCtorEq, Int.reduceNeg] <;> try rfl)
      · simp only [zS, hX.T, hX.nt, reduceIte, Nat.reduceEqDiff, Nat.reduceLT, Nat.reduceLeDiff, Nat.reduceAdd, Nat.reduceSub, Nat.reduceBEq, reduceCtorEq, Int.reduceNeg, bs_nil, bs_beq, bs_size, bs_append]
        refine hX.draw (by kernel_rfl) (by decide) ?_
        simp only [zS, hX.T, hX.nt, reduceIte, Nat.reduceEqDiff, Nat.reduceLT, Nat.reduceLeDiff, Nat.reduceAdd, Nat.reduceSub, Nat.reduceBEq, reduceCtorEq, Int.reduceNeg, bs_nil, bs_beq, bs_size, bs_append, h, hlf', Int.natCast_nonneg, hrow, hrowf, encV, encF]
        refine hX.gos (by rfl) ?_
        simp only [zS, hX.T, hX.nt, reduceIte, Nat.reduceEqDiff, Nat.reduceLT, Nat.reduceLeDiff, Nat.reduceAdd, Nat.reduceSub, Nat.reduceBEq, reduceCtorEq, Int.reduceNeg, bs_nil, bs_beq, bs_size, bs_append]
        refine bc_split (fun h2 => ?_) (fun h2 => ?_)
        · simp only [zS, hX.T, hX.nt, reduceIte, Nat.reduceEqDiff, Nat.reduceLT, Nat.reduceLeDiff, Nat.reduceAdd, Nat.reduceSub, Nat.reduceBEq, reduceCtorEq, Int.reduceNeg, bs_nil, bs_beq, bs_size, bs_append]
          rw [← hn, if_neg (by simpa using h1), if_pos (by simpa using h2)] at hX
          (refine hX.ret (by first | exact .inl rfl | exact .inr rfl) ?_; simp only [zR, zS, hX.T, hX.nt, reduceIte, Nat.reduceEqDiff, Nat.reduceLT, Nat.reduceLeDiff, Nat.reduceAdd, Nat.reduceSub, Nat.reduceBEq, reduceCtorEq, Int.reduceNeg] <;> try rfl)
        · simp only [zS, hX.T, hX.nt, reduceIte, Nat.reduceEqDiff, Nat.reduceLT, Nat.reduceLeDiff, Nat.reduceAdd, Nat.reduceSub, Nat.reduceBEq, reduceCtorEq, Int.reduceNeg, bs_nil, bs_beq, bs_size, bs_append]
          refine ih (i + 1) id _ ⟨hlt, by rw [← hn, if_neg (by simpa using h1), if_neg (by simpa using h2)]⟩ (by omega) (.of hX.NL (by simp only [zS, hX.T, hX.nt, reduceIte, Nat.reduceEqDiff, Nat.reduceLT, Nat.reduceLeDiff, Nat.reduceAdd, Nat.reduceSub, Nat.reduceBEq, reduceCtorEq, Int.reduceNeg, bs_nil, bs_beq, bs_size, bs_append, ren, renL, renB, encS, slV, wrap_succ hlt hlen] <;> rfl) rfl rfl)
    · have h := of_decide_eq_false h
      rw [fitsL_end (by omega)] at hn
      simp only [zS, hX.T, hX.nt, reduceIte, Nat.reduceEqDiff, Nat.reduceLT, Nat.reduceLeDiff, Nat.reduceAdd, Nat.reduceSub, Nat.reduceBEq, reduceCtorEq, Int.reduceNeg, bs_nil, bs_beq, bs_size, bs_append]
      rw [← hn] at hX
      (refine hX.ret (by first | exact .inl rfl | exact .inr rfl) ?_; simp only [zR, zS, hX.T, hX.nt, reduceIte, Nat.reduceEqDiff, Nat.reduceLT, Nat.reduceLeDiff, Nat.reduceAdd, Nat.reduceSub, Nat.reduceBEq, reduceCtorEq, Int.reduceNeg] <;> try rfl)
end Go.Proofs.YtkbidoikndgheaaDoor.HL

namespace Go.Proofs.YtkbidoikndgheaaDoor.HL
open Go.Proofs
set_option maxRecDepth 100000
set_option maxHeartbeats 4000000
def ruleV (s : Sch) (a : Alt) : Int := if rule s a ≠ 0 then rule s a else if s.ver ≥ 1000000 then 14 else 0
theorem p69 (s : Sch) (a : Alt) (hn : smT a.name) (ht : smT a.to) (ho : a.op = 1 ∨ a.op = 2 ∨ a.op = 3 ∨ a.op = 4) : PureFn Tryd.prog 69 [.agg (encS s), .agg (encA a)] (I (ruleV s a)) := by
  obtain ⟨op, name, to, kind, d⟩ := a
  simp only at hn ht ho
  have hf := p47 s name
  have hf2 := p47 s to
  rcases ho with rfl | rfl | rfl | rfl
  all_goals
    (refine PureFn.of_run ty_ok Tryd.func69 (c := Tryd.f69.body.get!) rfl (by decide) Tryd.ntmps69 (res := [.tmp 4]) Tryd.results69 (Nat.le_of_ble_eq_true rfl) ?_; intro X hX hR; refine vc_ok hX.ok hX.fn 1000 _ _ ?_; simp only [Tryd.f69, Option.get!])
    simp only [zS, hX.T, hX.nt, reduceIte, Nat.reduceEqDiff, Nat.reduceLT, Nat.reduceLeDiff, Nat.reduceAdd, Nat.reduceSub, Nat.reduceBEq, reduceCtorEq, Int.reduceNeg, bs_nil, bs_beq, bs_size, bs_append, encS, encA]
    repeat' first | (refine bc_split (fun h => ?_) (fun h => ?_) <;> simp only [zS, hX.T, hX.nt, reduceIte, Nat.reduceEqDiff, Nat.reduceLT, Nat.reduceLeDiff, Nat.reduceAdd, Nat.reduceSub, Nat.reduceBEq, reduceCtorEq, Int.reduceNeg, bs_nil, bs_beq, bs_size, bs_append, zS, encF, fndF, wr0, wr1, wr2, wr3, wr4, wr5, wr6, wr7, wr8, wr9, wr10, wr11, wr12, row, Int.reduceToNat, Int.reduceBNe, Int.reduceGE, Int.reduceGT, List.getD_cons_zero, List.getD_cons_succ, Int.reduceBEq, Int.reduceLT, Int.reduceLE, Int.reduceEq, Int.reduceAdd, Int.reduceSub, decide_true, decide_false, h]) | (refine bg_split (fun h => ?_) (fun h => ?_) <;> simp only [zS, hX.T, hX.nt, reduceIte, Nat.reduceEqDiff, Nat.reduceLT, Nat.reduceLeDiff, Nat.reduceAdd, Nat.reduceSub, Nat.reduceBEq, reduceCtorEq, Int.reduceNeg, bs_nil, bs_beq, bs_size, bs_append, zS, encF, fndF, wr0, wr1, wr2, wr3, wr4, wr5, wr6, wr7, wr8, wr9, wr10, wr11, wr12, row, Int.reduceToNat, Int.reduceBNe, Int.reduceGE, Int.reduceGT, List.getD_cons_zero, List.getD_cons_succ, Int.reduceBEq, Int.reduceLT, Int.reduceLE, Int.reduceEq, Int.reduceAdd, Int.reduceSub, decide_true, decide_false, h]) | (refine pb_split (fun h => ?_) (fun h => ?_) <;> simp only [zS, hX.T, hX.nt, reduceIte, Nat.reduceEqDiff, Nat.reduceLT, Nat.reduceLeDiff, Nat.reduceAdd, Nat.reduceSub, Nat.reduceBEq, reduceCtorEq, Int.reduceNeg, bs_nil, bs_beq, bs_size, bs_append, zS, encF, fndF, wr0, wr1, wr2, wr3, wr4, wr5, wr6, wr7, wr8, wr9, wr10, wr11, wr12, row, Int.reduceToNat, Int.reduceBNe, Int.reduceGE, Int.reduceGT, List.getD_cons_zero, List.getD_cons_succ, Int.reduceBEq, Int.reduceLT, Int.reduceLE, Int.reduceEq, Int.reduceAdd, Int.reduceSub, decide_true, decide_false, h]) | (refine hX.gos (by rfl) ?_; simp only [zS, hX.T, hX.nt, reduceIte, Nat.reduceEqDiff, Nat.reduceLT, Nat.reduceLeDiff, Nat.reduceAdd, Nat.reduceSub, Nat.reduceBEq, reduceCtorEq, Int.reduceNeg, bs_nil, bs_beq, bs_size, bs_append, zS, encF, fndF, wr0, wr1, wr2, wr3, wr4, wr5, wr6, wr7, wr8, wr9, wr10, wr11, wr12, row, Int.reduceToNat, Int.reduceBNe, Int.reduceGE, Int.reduceGT, List.getD_cons_zero, List.getD_cons_succ, Int.reduceBEq, Int.reduceLT, Int.reduceLE, Int.reduceEq, Int.reduceAdd, Int.reduceSub, decide_true, decide_false]) | (refine hX.pure (hf) rfl rfl (by decide) ?_; simp only [zS, hX.T, hX.nt, reduceIte, Nat.reduceEqDiff, Nat.reduceLT, Nat.reduceLeDiff, Nat.reduceAdd, Nat.reduceSub, Nat.reduceBEq, reduceCtorEq, Int.reduceNeg, bs_nil, bs_beq, bs_size, bs_append, zS, encF, fndF, wr0, wr1, wr2, wr3, wr4, wr5, wr6, wr7, wr8, wr9, wr10, wr11, wr12, row, Int.reduceToNat, Int.reduceBNe, Int.reduceGE, Int.reduceGT, List.getD_cons_zero, List.getD_cons_succ, Int.reduceBEq, Int.reduceLT, Int.reduceLE, Int.reduceEq, Int.reduceAdd, Int.reduceSub, decide_true, decide_false]) | (refine hX.pureD (hf) rfl rfl (by decide) ?_; simp only [zS, hX.T, hX.nt, reduceIte, Nat.reduceEqDiff, Nat.reduceLT, Nat.reduceLeDiff, Nat.reduceAdd, Nat.reduceSub, Nat.reduceBEq, reduceCtorEq, Int.reduceNeg, bs_nil, bs_beq, bs_size, bs_append, zS, encF, fndF, wr0, wr1, wr2, wr3, wr4, wr5, wr6, wr7, wr8, wr9, wr10, wr11, wr12, row, Int.reduceToNat, Int.reduceBNe, Int.reduceGE, Int.reduceGT, List.getD_cons_zero, List.getD_cons_succ, Int.reduceBEq, Int.reduceLT, Int.reduceLE, Int.reduceEq, Int.reduceAdd, Int.reduceSub, decide_true, decide_false]) | (refine hX.pure (hf2) rfl rfl (by decide) ?_; simp only [zS, hX.T, hX.nt, reduceIte, Nat.reduceEqDiff, Nat.reduceLT, Nat.reduceLeDiff, Nat.reduceAdd, Nat.reduceSub, Nat.reduceBEq, reduceCtorEq, Int.reduceNeg, bs_nil, bs_beq, bs_size, bs_append, zS, encF, fndF, wr0, wr1, wr2, wr3, wr4, wr5, wr6, wr7, wr8, wr9, wr10, wr11, wr12, row, Int.reduceToNat, Int.reduceBNe, Int.reduceGE, Int.reduceGT, List.getD_cons_zero, List.getD_cons_succ, Int.reduceBEq, Int.reduceLT, Int.reduceLE, Int.reduceEq, Int.reduceAdd, Int.reduceSub, decide_true, decide_false]) | (refine hX.pureD (hf2) rfl rfl (by decide) ?_; simp only [zS, hX.T, hX.nt, reduceIte, Nat.reduceEqDiff, Nat.reduceLT, Nat.reduceLeDiff, Nat.reduceAdd, Nat.reduceSub, Nat.reduceBEq, reduceCtorEq, Int.reduceNeg, bs_nil, bs_beq, bs_size, bs_append, zS, encF, fndF, wr0, wr1, wr2, wr3, wr4, wr5, wr6, wr7, wr8, wr9, wr10, wr11, wr12, row, Int.reduceToNat, Int.reduceBNe, Int.reduceGE, Int.reduceGT, List.getD_cons_zero, List.getD_cons_succ, Int.reduceBEq, Int.reduceLT, Int.reduceLE, Int.reduceEq, Int.reduceAdd, Int.reduceSub, decide_true, decide_false]) | (refine hX.pure (p50 name hn) rfl rfl (by decide) ?_; simp only [zS, hX.T, hX.nt, reduceIte, Nat.reduceEqDiff, Nat.reduceLT, Nat.reduceLeDiff, Nat.reduceAdd, Nat.reduceSub, Nat.reduceBEq, reduceCtorEq, Int.reduceNeg, bs_nil, bs_beq, bs_size, bs_append, zS, encF, fndF, wr0, wr1, wr2, wr3, wr4, wr5, wr6, wr7, wr8, wr9, wr10, wr11, wr12, row, Int.reduceToNat, Int.reduceBNe, Int.reduceGE, Int.reduceGT, List.getD_cons_zero, List.getD_cons_succ, Int.reduceBEq, Int.reduceLT, Int.reduceLE, Int.reduceEq, Int.reduceAdd, Int.reduceSub, decide_true, decide_false]) | (refine hX.pureD (p50 name hn) rfl rfl (by decide) ?_; simp only [zS, hX.T, hX.nt, reduceIte, Nat.reduceEqDiff, Nat.reduceLT, Nat.reduceLeDiff, Nat.reduceAdd, Nat.reduceSub, Nat.reduceBEq, reduceCtorEq, Int.reduceNeg, bs_nil, bs_beq, bs_size, bs_append, zS, encF, fndF, wr0, wr1, wr2, wr3, wr4, wr5, wr6, wr7, wr8, wr9, wr10, wr11, wr12, row, Int.reduceToNat, Int.reduceBNe, Int.reduceGE, Int.reduceGT, List.getD_cons_zero, List.getD_cons_succ, Int.reduceBEq, Int.reduceLT, Int.reduceLE, Int.reduceEq, Int.reduceAdd, Int.reduceSub, decide_true, decide_false]) | (refine hX.pure (p50 to ht) rfl rfl (by decide) ?_; simp only [zS, hX.T, hX.nt, reduceIte, Nat.reduceEqDiff, Nat.reduceLT, Nat.reduceLeDiff, Nat.reduceAdd, Nat.reduceSub, Nat.reduceBEq, reduceCtorEq, Int.reduceNeg, bs_nil, bs_beq, bs_size, bs_append, zS, encF, fndF, wr0, wr1, wr2, wr3, wr4, wr5, wr6, wr7, wr8, wr9, wr10, wr11, wr12, row, Int.reduceToNat, Int.reduceBNe, Int.reduceGE, Int.reduceGT, List.getD_cons_zero, List.getD_cons_succ, Int.reduceBEq, Int.reduceLT, Int.reduceLE, Int.reduceEq, Int.reduceAdd, Int.reduceSub, decide_true, decide_false]) | (refine hX.pureD (p50 to ht) rfl rfl (by decide) ?_; simp only [zS, hX.T, hX.nt, reduceIte, Nat.reduceEqDiff, Nat.reduceLT, Nat.reduceLeDiff, Nat.reduceAdd, Nat.reduceSub, Nat.reduceBEq, reduceCtorEq, Int.reduceNeg, bs_nil, bs_beq, bs_size, bs_append, zS, encF, fndF, wr0, wr1, wr2, wr3, wr4, wr5, wr6, wr7, wr8, wr9, wr10, wr11, wr12, row, Int.reduceToNat, Int.reduceBNe, Int.reduceGE, Int.reduceGT, List.getD_cons_zero, List.getD_cons_succ, Int.reduceBEq, Int.reduceLT, Int.reduceLE, Int.reduceEq, Int.reduceAdd, Int.reduceSub, decide_true, decide_false]) | (refine hX.pure (p66 d) rfl rfl (by decide) ?_; simp only [zS, hX.T, hX.nt, reduceIte, Nat.reduceEqDiff, Nat.reduceLT, Nat.reduceLeDiff, Nat.reduceAdd, Nat.reduceSub, Nat.reduceBEq, reduceCtorEq, Int.reduceNeg, bs_nil, bs_beq, bs_size, bs_append, zS, encF, fndF, wr0, wr1, wr2, wr3, wr4, wr5, wr6, wr7, wr8, wr9, wr10, wr11, wr12, row, Int.reduceToNat, Int.reduceBNe, Int.reduceGE, Int.reduceGT, List.getD_cons_zero, List.getD_cons_succ, Int.reduceBEq, Int.reduceLT, Int.reduceLE, Int.reduceEq, Int.reduceAdd, Int.reduceSub, decide_true, decide_false]) | (refine hX.pureD (p66 d) rfl rfl (by decide) ?_; simp only [zS, hX.T, hX.nt, reduceIte, Nat.reduceEqDiff, Nat.reduceLT, Nat.reduceLeDiff, Nat.reduceAdd, Nat.reduceSub, Nat.reduceBEq, reduceCtorEq, Int.reduceNeg, bs_nil, bs_beq, bs_size, bs_append, zS, encF, fndF, wr0, wr1, wr2, wr3, wr4, wr5, wr6, wr7, wr8, wr9, wr10, wr11, wr12, row, Int.reduceToNat, Int.reduceBNe, Int.reduceGE, Int.reduceGT, List.getD_cons_zero, List.getD_cons_succ, Int.reduceBEq, Int.reduceLT, Int.reduceLE, Int.reduceEq, Int.reduceAdd, Int.reduceSub, decide_true, decide_false]) | (refine hX.pure (p110 ((findN s.fs name).getD fld0).kind kind) rfl rfl (by decide) ?_; simp only [zS, hX.T, hX.nt, reduceIte, Nat.reduceEqDiff, Nat.reduceLT, Nat.reduceLeDiff, Nat.reduceAdd, Nat.reduceSub, Nat.reduceBEq, reduceCtorEq, Int.reduceNeg, bs_nil, bs_beq, bs_size, bs_append, zS, encF, fndF, wr0, wr1, wr2, wr3, wr4, wr5, wr6, wr7, wr8, wr9, wr10, wr11, wr12, row, Int.reduceToNat, Int.reduceBNe, Int.reduceGE, Int.reduceGT, List.getD_cons_zero, List.getD_cons_succ, Int.reduceBEq, Int.reduceLT, Int.reduceLE, Int.reduceEq, Int.reduceAdd, Int.reduceSub, decide_true, decide_false]) | (refine hX.pureD (p110 ((findN s.fs name).getD fld0).kind kind) rfl rfl (by decide) ?_; simp only [zS, hX.T, hX.nt, reduceIte, Nat.reduceEqDiff, Nat.reduceLT, Nat.reduceLeDiff, Nat.reduceAdd, Nat.reduceSub, Nat.reduceBEq, reduceCtorEq, Int.reduceNeg, bs_nil, bs_beq, bs_size, bs_append, zS, encF, fndF, wr0, wr1, wr2, wr3, wr4, wr5, wr6, wr7, wr8, wr9, wr10, wr11, wr12, row, Int.reduceToNat, Int.reduceBNe, Int.reduceGE, Int.reduceGT, List.getD_cons_zero, List.getD_cons_succ, Int.reduceBEq, Int.reduceLT, Int.reduceLE, Int.reduceEq, Int.reduceAdd, Int.reduceSub, decide_true, decide_false])
  all_goals ((refine hX.ret (by first | exact .inl rfl | exact .inr rfl) ?_; simp only [zR, zS, hX.T, hX.nt, reduceIte, Nat.reduceEqDiff, Nat.reduceLT, Nat.reduceLeDiff, Nat.reduceAdd, Nat.reduceSub, Nat.reduceBEq, reduceCtorEq, Int.reduceNeg] <;> try rfl); clear hX hR)
  all_goals (simp only [ruleV, rule, freshN]; cases hfn : findN s.fs name <;> (simp only [hfn, Option.getD_some, Option.getD_none, Option.isSome_some, Option.isSome_none] at *; grind))
end Go.Proofs.YtkbidoikndgheaaDoor.HL

namespace Go.Proofs.YtkbidoikndgheaaDoor.HL
open Go.Proofs
set_option maxRecDepth 100000
set_option maxHeartbeats 4000000
def smA (a : Alt) : Prop := smT a.name ∧ smT a.to
theorem p24 (s : Sch) (a : Alt) (hs : smS s) (ha : smA a) : PureFn Tryd.prog 24 [.agg (encS s), .agg (encA a)] (I (checkA s a)) := by
  (refine PureFn.of_run ty_ok Tryd.func24 (c := Tryd.f24.body.get!) rfl (by decide) Tryd.ntmps24 (res := [.tmp 4]) Tryd.results24 (Nat.le_of_ble_eq_true rfl) ?_; intro X hX hR; refine vc_ok hX.ok hX.fn 1000 _ _ ?_; simp only [Tryd.f24, Option.get!])
  simp only [zS, hX.T, hX.nt, reduceIte, Nat.reduceEqDiff, Nat.reduceLT, Nat.reduceLeDiff, Nat.reduceAdd, Nat.reduceSub, Nat.reduceBEq, reduceCtorEq, Int.reduceNeg, bs_nil, bs_beq, bs_size, bs_append, encS, encA]
  have q1 : PureFn Tryd.prog 51 [.agg (encS s)] (B (rightS s)) := p51 s hs
  by_cases ho : a.op = 1 ∨ a.op = 2 ∨ a.op = 3 ∨ a.op = 4
  · have q2 := p69 s a ha.1 ha.2 ho
    repeat' first | (refine bc_split (fun h => ?_) (fun h => ?_) <;> simp only [zS, hX.T, hX.nt, reduceIte, Nat.reduceEqDiff, Nat.reduceLT, Nat.reduceLeDiff, Nat.reduceAdd, Nat.reduceSub, Nat.reduceBEq, reduceCtorEq, Int.reduceNeg, bs_nil, bs_beq, bs_size, bs_append, zS, encS, encA, h]) | (refine bg_split (fun h => ?_) (fun h => ?_) <;> simp only [zS, hX.T, hX.nt, reduceIte, Nat.reduceEqDiff, Nat.reduceLT, Nat.reduceLeDiff, Nat.reduceAdd, Nat.reduceSub, Nat.reduceBEq, reduceCtorEq, Int.reduceNeg, bs_nil, bs_beq, bs_size, bs_append, zS, encS, encA, h]) | (refine pb_split (fun h => ?_) (fun h => ?_) <;> simp only [zS, hX.T, hX.nt, reduceIte, Nat.reduceEqDiff, Nat.reduceLT, Nat.reduceLeDiff, Nat.reduceAdd, Nat.reduceSub, Nat.reduceBEq, reduceCtorEq, Int.reduceNeg, bs_nil, bs_beq, bs_size, bs_append, zS, encS, encA, h]) | (refine hX.gos (by rfl) ?_; simp only [zS, hX.T, hX.nt, reduceIte, Nat.reduceEqDiff, Nat.reduceLT, Nat.reduceLeDiff, Nat.reduceAdd, Nat.reduceSub, Nat.reduceBEq, reduceCtorEq, Int.reduceNeg, bs_nil, bs_beq, bs_size, bs_append, zS, encS, encA]) | (refine hX.pure (q1) rfl rfl (by decide) ?_; simp only [zS, hX.T, hX.nt, reduceIte, Nat.reduceEqDiff, Nat.reduceLT, Nat.reduceLeDiff, Nat.reduceAdd, Nat.reduceSub, Nat.reduceBEq, reduceCtorEq, Int.reduceNeg, bs_nil, bs_beq, bs_size, bs_append, zS, encS, encA]) | (refine hX.pureD (q1) rfl rfl (by decide) ?_; simp only [zS, hX.T, hX.nt, reduceIte, Nat.reduceEqDiff, Nat.reduceLT, Nat.reduceLeDiff, Nat.reduceAdd, Nat.reduceSub, Nat.reduceBEq, reduceCtorEq, Int.reduceNeg, bs_nil, bs_beq, bs_size, bs_append, zS, encS, encA]) | (refine hX.pure (q2) rfl rfl (by decide) ?_; simp only [zS, hX.T, hX.nt, reduceIte, Nat.reduceEqDiff, Nat.reduceLT, Nat.reduceLeDiff, Nat.reduceAdd, Nat.reduceSub, Nat.reduceBEq, reduceCtorEq, Int.reduceNeg, bs_nil, bs_beq, bs_size, bs_append, zS, encS, encA]) | (refine hX.pureD (q2) rfl rfl (by decide) ?_; simp only [zS, hX.T, hX.nt, reduceIte, Nat.reduceEqDiff, Nat.reduceLT, Nat.reduceLeDiff, Nat.reduceAdd, Nat.reduceSub, Nat.reduceBEq, reduceCtorEq, Int.reduceNeg, bs_nil, bs_beq, bs_size, bs_append, zS, encS, encA])
    all_goals ((refine hX.ret (by first | exact .inl rfl | exact .inr rfl) ?_; simp only [zR, zS, hX.T, hX.nt, reduceIte, Nat.reduceEqDiff, Nat.reduceLT, Nat.reduceLeDiff, Nat.reduceAdd, Nat.reduceSub, Nat.reduceBEq, reduceCtorEq, Int.reduceNeg] <;> try rfl); clear hX hR; grind [checkA, ruleV])
  · repeat' first | (refine bc_split (fun h => ?_) (fun h => ?_) <;> simp only [zS, hX.T, hX.nt, reduceIte, Nat.reduceEqDiff, Nat.reduceLT, Nat.reduceLeDiff, Nat.reduceAdd, Nat.reduceSub, Nat.reduceBEq, reduceCtorEq, Int.reduceNeg, bs_nil, bs_beq, bs_size, bs_append, zS, encS, encA, h]) | (refine bg_split (fun h => ?_) (fun h => ?_) <;> simp only [zS, hX.T, hX.nt, reduceIte, Nat.reduceEqDiff, Nat.reduceLT, Nat.reduceLeDiff, Nat.reduceAdd, Nat.reduceSub, Nat.reduceBEq, reduceCtorEq, Int.reduceNeg, bs_nil, bs_beq, bs_size, bs_append, zS, encS, encA, h]) | (refine pb_split (fun h => ?_) (fun h => ?_) <;> simp only [zS, hX.T, hX.nt, reduceIte, Nat.reduceEqDiff, Nat.reduceLT, Nat.reduceLeDiff, Nat.reduceAdd, Nat.reduceSub, Nat.reduceBEq, reduceCtorEq, Int.reduceNeg, bs_nil, bs_beq, bs_size, bs_append, zS, encS, encA, h]) | (refine hX.gos (by rfl) ?_; simp only [zS, hX.T, hX.nt, reduceIte, Nat.reduceEqDiff, Nat.reduceLT, Nat.reduceLeDiff, Nat.reduceAdd, Nat.reduceSub, Nat.reduceBEq, reduceCtorEq, Int.reduceNeg, bs_nil, bs_beq, bs_size, bs_append, zS, encS, encA]) | (refine hX.pure (q1) rfl rfl (by decide) ?_; simp only [zS, hX.T, hX.nt, reduceIte, Nat.reduceEqDiff, Nat.reduceLT, Nat.reduceLeDiff, Nat.reduceAdd, Nat.reduceSub, Nat.reduceBEq, reduceCtorEq, Int.reduceNeg, bs_nil, bs_beq, bs_size, bs_append, zS, encS, encA]) | (refine hX.pureD (q1) rfl rfl (by decide) ?_; simp only [zS, hX.T, hX.nt, reduceIte, Nat.reduceEqDiff, Nat.reduceLT, Nat.reduceLeDiff, Nat.reduceAdd, Nat.reduceSub, Nat.reduceBEq, reduceCtorEq, Int.reduceNeg, bs_nil, bs_beq, bs_size, bs_append, zS, encS, encA])
    all_goals first
      | ((refine hX.ret (by first | exact .inl rfl | exact .inr rfl) ?_; simp only [zR, zS, hX.T, hX.nt, reduceIte, Nat.reduceEqDiff, Nat.reduceLT, Nat.reduceLeDiff, Nat.reduceAdd, Nat.reduceSub, Nat.reduceBEq, reduceCtorEq, Int.reduceNeg] <;> try rfl); clear hX hR; grind [checkA])
      | (exfalso; clear hX hR; simp at *; omega)
def plcI (s : Sch) (id' : Int) : Int := idxP (fun f : Fld => f.id == id') s.fs 0
theorem p101 (s : Sch) (id' : Int) : PureFn Tryd.prog 101 [.agg (encS s), I id'] (I (plcI s id')) := by
  (refine PureFn.of_run ty_ok Tryd.func101 (c := Tryd.f101.body.get!) rfl (by decide) Tryd.ntmps101 (res := [.tmp 4]) Tryd.results101 (Nat.le_of_ble_eq_true rfl) ?_; intro X hX hR; refine vc_ok hX.ok hX.fn 1000 _ _ ?_; simp only [Tryd.f101, Option.get!])
  have hlen := (hR.agg (List.mem_cons_self ..)).len (show AV.sl 6 false (s.fs.map encF) ∈ encS s by simp [encS])
  rw [List.length_map] at hlen
  simp only [zS, hX.T, hX.nt, reduceIte, Nat.reduceEqDiff, Nat.reduceLT, Nat.reduceLeDiff, Nat.reduceAdd, Nat.reduceSub, Nat.reduceBEq, reduceCtorEq, Int.reduceNeg, bs_nil, bs_beq, bs_size, bs_append, encS]
  refine Run.loop (α := Nat) (fun i => [(1, I id'), (2, .pt 2 0), (5, I i)]) (fun _ => [(2, .box 35 (encS s))]) (fun i => i ≤ s.fs.length ∧ idxP (fun f : Fld => f.id == id') (s.fs.drop i) i = plcI s id') (fun i => s.fs.length - i) 0 id ⟨Nat.zero_le _, rfl⟩ (.of hX.NL (by simp only [zS, hX.T, hX.nt, reduceIte, Nat.reduceEqDiff, Nat.reduceLT, Nat.reduceLeDiff, Nat.reduceAdd, Nat.reduceSub, Nat.reduceBEq, reduceCtorEq, Int.reduceNeg, bs_nil, bs_beq, bs_size, bs_append, ren, renL, renB, encS] <;> rfl) rfl rfl) ?_
  intro i ⟨hi, hn⟩ ih
  refine hX.go ?_
  simp only [zS, hX.T, hX.nt, reduceIte, Nat.reduceEqDiff, Nat.reduceLT, Nat.reduceLeDiff, Nat.reduceAdd, Nat.reduceSub, Nat.reduceBEq, reduceCtorEq, Int.reduceNeg, bs_nil, bs_beq, bs_size, bs_append, encS]
  refine bc_split (fun h => ?_) (fun h => ?_)
  · have h := of_decide_eq_true h
    have hlt : i < s.fs.length := by omega
    have hrow := row_nat encF s.fs i hlt
    rw [idxP_step hlt] at hn
    simp only [zS, hX.T, hX.nt, reduceIte, Nat.reduceEqDiff, Nat.reduceLT, Nat.reduceLeDiff, Nat.reduceAdd, Nat.reduceSub, Nat.reduceBEq, reduceCtorEq, Int.reduceNeg, bs_nil, bs_beq, bs_size, bs_append, h, Int.natCast_nonneg, hrow, encF]
    refine bc_split (fun h1 => ?_) (fun h1 => ?_)
    · simp only [zS, hX.T, hX.nt, reduceIte, Nat.reduceEqDiff, Nat.reduceLT, Nat.reduceLeDiff, Nat.reduceAdd, Nat.reduceSub, Nat.reduceBEq, reduceCtorEq, Int.reduceNeg, bs_nil, bs_beq, bs_size, bs_append]
      (refine hX.ret (by first | exact .inl rfl | exact .inr rfl) ?_; simp only [zR, zS, hX.T, hX.nt, reduceIte, Nat.reduceEqDiff, Nat.reduceLT, Nat.reduceLeDiff, Nat.reduceAdd, Nat.reduceSub, Nat.reduceBEq, reduceCtorEq, Int.reduceNeg] <;> try rfl)
      rw [← hn, if_pos h1]
    · simp only [zS, hX.T, hX.nt, reduceIte, Nat.reduceEqDiff, Nat.reduceLT, Nat.reduceLeDiff, Nat.reduceAdd, Nat.reduceSub, Nat.reduceBEq, reduceCtorEq, Int.reduceNeg, bs_nil, bs_beq, bs_size, bs_append]
      refine ih (i + 1) id _ ⟨hlt, by rw [← hn, h1]; rfl⟩ (by omega) (.of hX.NL (by simp only [zS, hX.T, hX.nt, reduceIte, Nat.reduceEqDiff, Nat.reduceLT, Nat.reduceLeDiff, Nat.reduceAdd, Nat.reduceSub, Nat.reduceBEq, reduceCtorEq, Int.reduceNeg, bs_nil, bs_beq, bs_size, bs_append, ren, renL, renB, encS, wrap_succ hlt hlen] <;> rfl) rfl rfl)
  · have h := of_decide_eq_false h
    rw [idxP_end (by omega)] at hn
    simp only [zS, hX.T, hX.nt, reduceIte, Nat.reduceEqDiff, Nat.reduceLT, Nat.reduceLeDiff, Nat.reduceAdd, Nat.reduceSub, Nat.reduceBEq, reduceCtorEq, Int.reduceNeg, bs_nil, bs_beq, bs_size, bs_append]
    (refine hX.ret (by first | exact .inl rfl | exact .inr rfl) ?_; simp only [zR, zS, hX.T, hX.nt, reduceIte, Nat.reduceEqDiff, Nat.reduceLT, Nat.reduceLeDiff, Nat.reduceAdd, Nat.reduceSub, Nat.reduceBEq, reduceCtorEq, Int.reduceNeg] <;> try rfl)
    rw [← hn]
/-- Rows that a function gathers: none yet, or a slice of its own. -/
def gat (n es : Nat) (rows : List (List AV)) : AV := if rows = [] then .v (.slice none 0 0) else .ow n
def numF (i : Nat) (fs : List Fld) : List Fld := number i fs
theorem number_length : ∀ (l : List Fld) (i : Nat), (number i l).length = l.length
  | [], _ => rfl
  | _ :: l, i => by simp [number, number_length l (i + 1)]
theorem number_take {l : List Fld} {i j : Nat} (h : i < l.length) : number j (l.take (i + 1)) = number j (l.take i) ++ [{ l[i] with id := ((j + i : Nat) : Int) + 1 }] := by
  induction l generalizing i j with
  | nil => simp at h
  | cons f l ih =>
    cases i with
    | zero => simp [number]
    | succ i =>
      simp only [List.length_cons, Nat.add_lt_add_iff_right] at h
      rw [List.take_succ_cons, number, ih h, List.take_succ_cons, number]
      simp only [List.cons_append, List.getElem_cons_succ]
      rw [show j + 1 + i = j + (i + 1) by omega]
theorem number_sm {l : List Fld} : ∀ {i : Nat}, (∀ f ∈ l, smT f.name) → ∀ f ∈ number i l, smT f.name := by
  induction l with
  | nil => intro i _ f hf; simp [number] at hf
  | cons g l ih =>
    intro i h f hf
    simp only [number, List.mem_cons] at hf
    rcases hf with rfl | hf
    · exact h g (List.mem_cons_self ..)
    · exact ih (fun f hf => h f (List.mem_cons_of_mem _ hf)) f hf
theorem appOk64 {n : Nat} (h : n ≤ 1000000) : appOk n 64 = true := appOk_small h (by decide)
def newE (fs : List Fld) (i : Nat) : List (Nat × Blk) := if i = 0 then [(4, .box 35 [I 1, I ((fs.length : Int) + 1), .v (.slice none 0 0)])] else [(4, .box 35 [I 1, I ((fs.length : Int) + 1), .ow 100]), (100, .own 45 6 ((number 0 (fs.take i)).map encF))]
theorem le_sch0 (e : Int) : Le (.tup [.agg [I 0, I 0, .v (.slice none 0 0)], I e]) (.tup [.agg (encS sch0), I e]) := .tup (.cons (.agg (.cons (.refl _) (.cons (.refl _) (.cons (.nil 6 false) (.refl _))))) (.refl _))
theorem p65 (fs : List Fld) (hs : ∀ f ∈ fs, smT f.name) : PureFn Tryd.prog 65 [slF fs] (.tup [.agg (encS (newA fs).1), I (newA fs).2]) := by
  (refine PureFn.of_run ty_ok Tryd.func65 (c := Tryd.f65.body.get!) rfl (by decide) Tryd.ntmps65 (res := [.cell 2 35, .tmp 3]) Tryd.results65 (Nat.le_of_ble_eq_true rfl) ?_; intro X hX hR; refine vc_ok hX.ok hX.fn 1000 _ _ ?_; simp only [Tryd.f65, Option.get!])
  by_cases h0 : fs.length = 0 ∨ fs.length > 12
  · rw [newA, if_pos h0] at hX
    simp only [zS, hX.T, hX.nt, reduceIte, Nat.reduceEqDiff, Nat.reduceLT, Nat.reduceLeDiff, Nat.reduceAdd, Nat.reduceSub, Nat.reduceBEq, reduceCtorEq, Int.reduceNeg, bs_nil, bs_beq, bs_size, bs_append, slF]
    repeat' first | (refine bc_split (fun h => ?_) (fun h => ?_) <;> simp only [zS, hX.T, hX.nt, reduceIte, Nat.reduceEqDiff, Nat.reduceLT, Nat.reduceLeDiff, Nat.reduceAdd, Nat.reduceSub, Nat.reduceBEq, reduceCtorEq, Int.reduceNeg, bs_nil, bs_beq, bs_size, bs_append, zS, h]) | (refine bg_split (fun h => ?_) (fun h => ?_) <;> simp only [zS, hX.T, hX.nt, reduceIte, Nat.reduceEqDiff, Nat.reduceLT, Nat.reduceLeDiff, Nat.reduceAdd, Nat.reduceSub, Nat.reduceBEq, reduceCtorEq, Int.reduceNeg, bs_nil, bs_beq, bs_size, bs_append, zS, h]) | (refine pb_split (fun h => ?_) (fun h => ?_) <;> simp only [zS, hX.T, hX.nt, reduceIte, Nat.reduceEqDiff, Nat.reduceLT, Nat.reduceLeDiff, Nat.reduceAdd, Nat.reduceSub, Nat.reduceBEq, reduceCtorEq, Int.reduceNeg, bs_nil, bs_beq, bs_size, bs_append, zS, h]) | (refine hX.gos (by rfl) ?_; simp only [zS, hX.T, hX.nt, reduceIte, Nat.reduceEqDiff, Nat.reduceLT, Nat.reduceLeDiff, Nat.reduceAdd, Nat.reduceSub, Nat.reduceBEq, reduceCtorEq, Int.reduceNeg, bs_nil, bs_beq, bs_size, bs_append, zS])
    all_goals first
      | ((refine hX.retLe (by first | exact .inl rfl | exact .inr rfl) (r0 := .tup [.agg [I 0, I 0, .v (.slice none 0 0)], I 11]) (by simp only [zR, zS, hX.T, hX.nt, reduceIte, Nat.reduceEqDiff, Nat.reduceLT, Nat.reduceLeDiff, Nat.reduceAdd, Nat.reduceSub, Nat.reduceBEq, reduceCtorEq, Int.reduceNeg] <;> try rfl) ?_); exact le_sch0 11)
      | (exfalso; clear hX hR; grind)
  · have hlt : 0 < fs.length ∧ fs.length ≤ 12 := by omega
    have d1 : ((fs.length : Int) == 0) = false := by simp only [beq_eq_false_iff_ne, ne_eq]; omega
    have d2 : decide ((fs.length : Int) > 12) = false := by simp only [decide_eq_false_iff_not]; omega
    have hw : IntKind.i64.wrap ((fs.length : Int) + 1) = (fs.length : Int) + 1 := wrap_id (by omega) (by omega)
    rw [newA, if_neg h0] at hX
    simp only [zS, hX.T, hX.nt, reduceIte, Nat.reduceEqDiff, Nat.reduceLT, Nat.reduceLeDiff, Nat.reduceAdd, Nat.reduceSub, Nat.reduceBEq, reduceCtorEq, Int.reduceNeg, bs_nil, bs_beq, bs_size, bs_append, slF, d1, d2, hw]
    refine Run.loop (α := Nat) (fun i => [(0, slF fs), (2, .pt 2 0), (4, .pt 4 0), (5, I i)]) (fun i => (2, .box 35 [I 0, I 0, .v (.slice none 0 0)]) :: newE fs i) (fun i => i ≤ fs.length) (fun i => fs.length - i) 0 id (Nat.zero_le _) (.of hX.NL (by simp only [zS, hX.T, hX.nt, reduceIte, Nat.reduceEqDiff, Nat.reduceLT, Nat.reduceLeDiff, Nat.reduceAdd, Nat.reduceSub, Nat.reduceBEq, reduceCtorEq, Int.reduceNeg, bs_nil, bs_beq, bs_size, bs_append, ren, renL, renB, slF, newE] <;> rfl) rfl rfl) ?_
    intro i hi ih
    refine hX.go ?_
    rcases i with _ | i
    · simp only [zS, hX.T, hX.nt, reduceIte, Nat.reduceEqDiff, Nat.reduceLT, Nat.reduceLeDiff, Nat.reduceAdd, Nat.reduceSub, Nat.reduceBEq, reduceCtorEq, Int.reduceNeg, bs_nil, bs_beq, bs_size, bs_append, newE, List.take_zero, number, slF]
      refine bc_split (fun h => ?_) (fun h => ?_)
      · have h := of_decide_eq_true h
        have hrow := row_nat encF fs 0 (by omega)
        simp only [Int.natCast_zero] at hrow h
        have ha : appOk 1 64 = true := rfl
        have hnum : (number 0 (fs.take 1)).map encF = [[I 1, I fs[0].kind, Str (bs fs[0].name), I fs[0].d.k, I fs[0].d.n, Str (bs fs[0].d.s)]] := by
          rw [show (1 : Nat) = 0 + 1 from rfl, number_take (by omega : 0 < fs.length)]; rfl
        simp only [zS, hX.T, hX.nt, reduceIte, Nat.reduceEqDiff, Nat.reduceLT, Nat.reduceLeDiff, Nat.reduceAdd, Nat.reduceSub, Nat.reduceBEq, reduceCtorEq, Int.reduceNeg, bs_nil, bs_beq, bs_size, bs_append, h, hrow, encF, Int.le_refl, wr0, wr1, Int.zero_add, Int.add_zero, ha]
        refine ih 1 (mv 100 38) _ (by omega) (by omega) (.of hX.NL (by simp only [zS, hX.T, hX.nt, reduceIte, Nat.reduceEqDiff, Nat.reduceLT, Nat.reduceLeDiff, Nat.reduceAdd, Nat.reduceSub, Nat.reduceBEq, reduceCtorEq, Int.reduceNeg, bs_nil, bs_beq, bs_size, bs_append, ren, renL, renB, slF, newE, mv, hnum, Nat.one_ne_zero, Int.natCast_one] <;> rfl) (by simp only [zS, hX.T, hX.nt, reduceIte, Nat.reduceEqDiff, Nat.reduceLT, Nat.reduceLeDiff, Nat.reduceAdd, Nat.reduceSub, Nat.reduceBEq, reduceCtorEq, Int.reduceNeg, bs_nil, bs_beq, bs_size, bs_append, ren, renL, renB, slF, newE, mv, hnum, Nat.one_ne_zero, Int.natCast_one] <;> rfl) rfl)
      · have h := of_decide_eq_false h
        omega
    · simp only [zS, hX.T, hX.nt, reduceIte, Nat.reduceEqDiff, Nat.reduceLT, Nat.reduceLeDiff, Nat.reduceAdd, Nat.reduceSub, Nat.reduceBEq, reduceCtorEq, Int.reduceNeg, bs_nil, bs_beq, bs_size, bs_append, newE, Nat.add_eq_zero_iff, Nat.one_ne_zero, and_false]
      refine bc_split (fun h => ?_) (fun h => ?_)
      · have h := of_decide_eq_true h
        have hlt : i + 1 < fs.length := by omega
        have hrow := row_nat encF fs (i + 1) hlt
        have ha : appOk (i + 1 + 1) 64 = true := appOk64 (by omega)
        have hmin : min (i + 1) fs.length = i + 1 := by omega
        have hnum : (number 0 (fs.take (i + 1 + 1))).map encF = (number 0 (fs.take (i + 1))).map encF ++ [[I (((i + 1 : Nat) : Int) + 1), I fs[i + 1].kind, Str (bs fs[i + 1].name), I fs[i + 1].d.k, I fs[i + 1].d.n, Str (bs fs[i + 1].d.s)]] := by
          rw [number_take hlt, List.map_append, Nat.zero_add]; rfl
        simp only [zS, hX.T, hX.nt, reduceIte, Nat.reduceEqDiff, Nat.reduceLT, Nat.reduceLeDiff, Nat.reduceAdd, Nat.reduceSub, Nat.reduceBEq, reduceCtorEq, Int.reduceNeg, bs_nil, bs_beq, bs_size, bs_append, h, hrow, encF, Int.natCast_nonneg, ha, wrap_succ hlt (by omega), List.length_append, number_length, List.length_take, hmin]
        refine ih (i + 2) (mv 100 38) _ (by omega) (by omega) (.of hX.NL (by simp only [zS, hX.T, hX.nt, reduceIte, Nat.reduceEqDiff, Nat.reduceLT, Nat.reduceLeDiff, Nat.reduceAdd, Nat.reduceSub, Nat.reduceBEq, reduceCtorEq, Int.reduceNeg, bs_nil, bs_beq, bs_size, bs_append, ren, renL, renB, newE, hnum, and_false] <;> rfl) (by simp only [zS, hX.T, hX.nt, reduceIte, Nat.reduceEqDiff, Nat.reduceLT, Nat.reduceLeDiff, Nat.reduceAdd, Nat.reduceSub, Nat.reduceBEq, reduceCtorEq, Int.reduceNeg, bs_nil, bs_beq, bs_size, bs_append, ren, renL, renB, newE, hnum, and_false] <;> rfl) rfl)
      · have h := of_decide_eq_false h
        have hie : i + 1 = fs.length := by omega
        have hne : ∃ x l, number 0 fs = x :: l := by
          cases fs with
          | nil => simp at hie
          | cons f l => exact ⟨_, _, rfl⟩
        obtain ⟨x, l, hxl⟩ := hne
        simp only [zS, hX.T, hX.nt, reduceIte, Nat.reduceEqDiff, Nat.reduceLT, Nat.reduceLeDiff, Nat.reduceAdd, Nat.reduceSub, Nat.reduceBEq, reduceCtorEq, Int.reduceNeg, bs_nil, bs_beq, bs_size, bs_append, hie, List.take_length]
        refine hX.lend (p51 ⟨1, (fs.length : Int) + 1, number 0 fs⟩ (number_sm hs)) (by simp only [zR, zS, hX.T, hX.nt, reduceIte, Nat.reduceEqDiff, Nat.reduceLT, Nat.reduceLeDiff, Nat.reduceAdd, Nat.reduceSub, Nat.reduceBEq, reduceCtorEq, Int.reduceNeg] <;> rfl) rfl (by decide) ?_
        simp only [zS, hX.T, hX.nt, reduceIte, Nat.reduceEqDiff, Nat.reduceLT, Nat.reduceLeDiff, Nat.reduceAdd, Nat.reduceSub, Nat.reduceBEq, reduceCtorEq, Int.reduceNeg, bs_nil, bs_beq, bs_size, bs_append]
        refine bc_split (fun h1 => ?_) (fun h1 => ?_)
        · simp only [zS, hX.T, hX.nt, reduceIte, Nat.reduceEqDiff, Nat.reduceLT, Nat.reduceLeDiff, Nat.reduceAdd, Nat.reduceSub, Nat.reduceBEq, reduceCtorEq, Int.reduceNeg, bs_nil, bs_beq, bs_size, bs_append]
          rw [if_pos (by simpa using h1)] at hX
          (refine hX.retLe (by first | exact .inl rfl | exact .inr rfl) (r0 := .tup [.agg [I 0, I 0, .v (.slice none 0 0)], I 1]) (by simp only [zR, zS, hX.T, hX.nt, reduceIte, Nat.reduceEqDiff, Nat.reduceLT, Nat.reduceLeDiff, Nat.reduceAdd, Nat.reduceSub, Nat.reduceBEq, reduceCtorEq, Int.reduceNeg] <;> try rfl) ?_)
          exact le_sch0 1
        · simp only [zS, hX.T, hX.nt, reduceIte, Nat.reduceEqDiff, Nat.reduceLT, Nat.reduceLeDiff, Nat.reduceAdd, Nat.reduceSub, Nat.reduceBEq, reduceCtorEq, Int.reduceNeg, bs_nil, bs_beq, bs_size, bs_append]
          rw [if_neg (by simpa using h1)] at hX
          (refine hX.ret (by first | exact .inl rfl | exact .inr rfl) ?_; simp only [zR, zS, hX.T, hX.nt, reduceIte, Nat.reduceEqDiff, Nat.reduceLT, Nat.reduceLeDiff, Nat.reduceAdd, Nat.reduceSub, Nat.reduceBEq, reduceCtorEq, Int.reduceNeg, hxl] <;> try rfl)
end Go.Proofs.YtkbidoikndgheaaDoor.HL

namespace Go.Proofs.YtkbidoikndgheaaDoor.HL
open Go.Proofs
set_option maxRecDepth 100000
set_option maxHeartbeats 4000000
def altR (a : Alt) (fs : List Fld) (i : Nat) : List Fld := (fs.take i).filterMap (altF a)
theorem altR_len (a : Alt) (fs : List Fld) (i : Nat) : (altR a fs i).length ≤ fs.length := Nat.le_trans (List.length_filterMap_le ..) (by rw [List.length_take]; omega)
theorem altR_step {a : Alt} {fs : List Fld} {i : Nat} (h : i < fs.length) : altR a fs (i + 1) = altR a fs i ++ (altF a fs[i]).toList := by
  rw [altR, List.take_succ_eq_append_getElem h, List.filterMap_append, altR]
  cases h : altF a fs[i] <;> simp [h]
theorem altR_end {a : Alt} {fs : List Fld} {i : Nat} (h : fs.length ≤ i) : altR a fs i = fs.filterMap (altF a) := by rw [altR, List.take_of_length_le h]
theorem checkA_ok {s : Sch} {a : Alt} (h : checkA s a = 0) : (a.op = 1 ∨ a.op = 2 ∨ a.op = 3 ∨ a.op = 4) ∧ 1 ≤ s.ver ∧ s.ver < 1000000 ∧ 1 ≤ s.next ∧ s.next ≤ 1000 ∧ s.fs.length ≤ 12 := by
  unfold checkA at h
  split at h
  · cases h
  · rename_i h1
    have hr : rightS s = true := by simpa using fun e => h1 (.inl e)
    simp only [rightS, Bool.and_eq_true, decide_eq_true_eq] at hr
    split at h
    · rename_i h2; exact absurd h h2
    · split at h
      · cases h
      · omega
theorem altF_one {a : Alt} {fs : List Fld} (h : a.op = 1) : fs.filterMap (altF a) = fs := by
  have : altF a = some := by
    funext f
    simp [altF, h]
  rw [this, List.filterMap_some]
theorem p72 (s : Sch) (a : Alt) (hs : smS s) (ha : smA a) : PureFn Tryd.prog 72 [.agg (encS s), .agg (encA a)] (.tup [.agg (encS (nextA s a).1), I (nextA s a).2]) := by
  by_cases hc : checkA s a = 0
  · have p := p24 s a hs ha
    obtain ⟨ho, hv, hv', hn, hn', hl⟩ := checkA_ok hc
    have hw1 : IntKind.i64.wrap (s.ver + 1) = s.ver + 1 := wrap_id (by omega) (by omega)
    have hw2 : IntKind.i64.wrap (s.next + 1) = s.next + 1 := wrap_id (by omega) (by omega)
    rw [nextA, if_neg (by simp [hc])]
    rw [hc] at p
    rcases ho with ho | ho | ho | ho
    all_goals
      (refine PureFn.of_run ty_ok Tryd.func72 (c := Tryd.f72.body.get!) rfl (by decide) Tryd.ntmps72 (res := [.cell 4 35, .tmp 5]) Tryd.results72 (Nat.le_of_ble_eq_true rfl) ?_; intro X hX hR; refine vc_ok hX.ok hX.fn 1000 _ _ ?_; simp only [Tryd.f72, Option.get!])
      simp only [zS, hX.T, hX.nt, reduceIte, Nat.reduceEqDiff, Nat.reduceLT, Nat.reduceLeDiff, Nat.reduceAdd, Nat.reduceSub, Nat.reduceBEq, reduceCtorEq, Int.reduceNeg, bs_nil, bs_beq, bs_size, bs_append]
      refine hX.pure p rfl rfl (by decide) ?_
      simp only [zS, hX.T, hX.nt, reduceIte, Nat.reduceEqDiff, Nat.reduceLT, Nat.reduceLeDiff, Nat.reduceAdd, Nat.reduceSub, Nat.reduceBEq, reduceCtorEq, Int.reduceNeg, bs_nil, bs_beq, bs_size, bs_append, wr0, wr1, wr2, wr3, wr4, wr5, wr6, wr7, wr8, wr9, wr10, wr11, wr12, row, Int.reduceToNat, Int.reduceBNe, Int.reduceGE, Int.reduceGT, List.getD_cons_zero, List.getD_cons_succ, Int.reduceBEq, Int.reduceLT, Int.reduceLE, Int.reduceEq, Int.reduceAdd, Int.reduceSub, decide_true, decide_false, hw1]
      refine Run.adoptB (m := 7) (t := 35) (i := 2) (n := 100) (ty := 45) (es := 6) (cs := [I (s.ver + 1), I s.next, .v (.slice none 0 0)]) (by simp only [zS, hX.T, hX.nt, reduceIte, Nat.reduceEqDiff, Nat.reduceLT, Nat.reduceLeDiff, Nat.reduceAdd, Nat.reduceSub, Nat.reduceBEq, reduceCtorEq, Int.reduceNeg, bs_nil, bs_beq, bs_size, bs_append]) rfl (by simp only [zS, hX.T, hX.nt, reduceIte, Nat.reduceEqDiff, Nat.reduceLT, Nat.reduceLeDiff, Nat.reduceAdd, Nat.reduceSub, Nat.reduceBEq, reduceCtorEq, Int.reduceNeg, bs_nil, bs_beq, bs_size, bs_append]) ?_
      refine Run.loop (α := Nat) (fun i => [(2, .pt 2 0), (3, .pt 3 0), (4, .pt 4 0), (7, .pt 7 0), (8, I i)]) (fun i => [(2, .box 35 (encS s)), (3, .box 48 (encA a)), (4, .box 35 [I 0, I 0, .v (.slice none 0 0)]), (7, .box 35 [I (s.ver + 1), I s.next, .ow 100]), (100, .own 45 6 ((altR a s.fs i).map encF))]) (fun i => i ≤ s.fs.length) (fun i => s.fs.length - i) 0 id (Nat.zero_le _) (.of hX.NL (by simp only [zS, hX.T, hX.nt, reduceIte, Nat.reduceEqDiff, Nat.reduceLT, Nat.reduceLeDiff, Nat.reduceAdd, Nat.reduceSub, Nat.reduceBEq, reduceCtorEq, Int.reduceNeg, bs_nil, bs_beq, bs_size, bs_append, ren, renL, renB] <;> rfl) (by simp only [zS, hX.T, hX.nt, reduceIte, Nat.reduceEqDiff, Nat.reduceLT, Nat.reduceLeDiff, Nat.reduceAdd, Nat.reduceSub, Nat.reduceBEq, reduceCtorEq, Int.reduceNeg, bs_nil, bs_beq, bs_size, bs_append, ren, renL, renB, altR, List.set_cons_succ, List.set_cons_zero, List.filterMap_nil] <;> rfl) rfl) ?_
      intro i hi ih
      refine hX.go ?_
      simp only [zS, hX.T, hX.nt, reduceIte, Nat.reduceEqDiff, Nat.reduceLT, Nat.reduceLeDiff, Nat.reduceAdd, Nat.reduceSub, Nat.reduceBEq, reduceCtorEq, Int.reduceNeg, bs_nil, bs_beq, bs_size, bs_append]
      refine bc_split (fun h => ?_) (fun h => ?_)
      · have h := of_decide_eq_true h
        have hlt : i < s.fs.length := by omega
        have hlen : s.fs.length ≤ 9223372036854775807 := by omega
        have hrow := row_nat encF s.fs i hlt
        have hstep := altR_step (a := a) hlt
        have hap : appOk ((altR a s.fs i).length + 1) 64 = true := appOk64 (by have := altR_len a s.fs i; omega)
        cases hit : s.fs[i].name == a.name
        all_goals
          have hit' := hit
          simp only [beq_iff_eq, beq_eq_false_iff_ne, ne_eq] at hit'
          simp only [altF, ho, hit', Int.reduceEq, if_true, if_false, Option.toList_some, Option.toList_none, List.append_nil] at hstep
          simp only [zS, hX.T, hX.nt, reduceIte, Nat.reduceEqDiff, Nat.reduceLT, Nat.reduceLeDiff, Nat.reduceAdd, Nat.reduceSub, Nat.reduceBEq, reduceCtorEq, Int.reduceNeg, bs_nil, bs_beq, bs_size, bs_append, h, Int.natCast_nonneg, hrow, wr0, wr1, wr2, wr3, wr4, wr5, wr6, wr7, wr8, wr9, wr10, wr11, wr12, Int.reduceBNe, Int.reduceGE, Int.reduceGT, Int.reduceBEq, Int.reduceLT, Int.reduceLE, Int.reduceEq, Int.reduceAdd, Int.reduceSub, decide_true, decide_false, hit, ho, hap, List.length_append]
          first
            | (have hst : altR a s.fs (i + 1) = altR a s.fs i := hstep
               refine ih (i + 1) id _ (by omega) (by omega) (.of hX.NL (by simp only [zS, hX.T, hX.nt, reduceIte, Nat.reduceEqDiff, Nat.reduceLT, Nat.reduceLeDiff, Nat.reduceAdd, Nat.reduceSub, Nat.reduceBEq, reduceCtorEq, Int.reduceNeg, bs_nil, bs_beq, bs_size, bs_append, ren, renL, renB, wrap_succ hlt hlen, ho] <;> rfl) (by simp only [zS, hX.T, hX.nt, reduceIte, Nat.reduceEqDiff, Nat.reduceLT, Nat.reduceLeDiff, Nat.reduceAdd, Nat.reduceSub, Nat.reduceBEq, reduceCtorEq, Int.reduceNeg, bs_nil, bs_beq, bs_size, bs_append, ren, renL, renB, hstep, List.map_append, ho] <;> rfl) rfl))
            | refine ih (i + 1) (mv 100 73) _ (by omega) (by omega) (.of hX.NL (by simp only [zS, hX.T, hX.nt, reduceIte, Nat.reduceEqDiff, Nat.reduceLT, Nat.reduceLeDiff, Nat.reduceAdd, Nat.reduceSub, Nat.reduceBEq, reduceCtorEq, Int.reduceNeg, bs_nil, bs_beq, bs_size, bs_append, ren, renL, renB, wrap_succ hlt hlen, ho] <;> rfl) (by simp only [zS, hX.T, hX.nt, reduceIte, Nat.reduceEqDiff, Nat.reduceLT, Nat.reduceLeDiff, Nat.reduceAdd, Nat.reduceSub, Nat.reduceBEq, reduceCtorEq, Int.reduceNeg, bs_nil, bs_beq, bs_size, bs_append, ren, renL, renB, hstep, List.map_append, ho, hit'] <;> rfl) rfl)
      · have h := of_decide_eq_false h
        have hend := altR_end (a := a) (fs := s.fs) (i := i) (by omega)
        have hap : appOk ((altR a s.fs i).length + 1) 64 = true := appOk64 (by have := altR_len a s.fs i; omega)
        try rw [altF_one ho] at hend
        simp only [zS, hX.T, hX.nt, reduceIte, Nat.reduceEqDiff, Nat.reduceLT, Nat.reduceLeDiff, Nat.reduceAdd, Nat.reduceSub, Nat.reduceBEq, reduceCtorEq, Int.reduceNeg, bs_nil, bs_beq, bs_size, bs_append, h, wr0, wr1, wr2, wr3, wr4, wr5, wr6, wr7, wr8, wr9, wr10, wr11, wr12, Int.reduceBNe, Int.reduceGE, Int.reduceGT, Int.reduceBEq, Int.reduceLT, Int.reduceLE, Int.reduceEq, Int.reduceAdd, Int.reduceSub, decide_true, decide_false, ho, hap, hw2, List.length_append, decide_false]
        (refine hX.ret (by first | exact .inl rfl | exact .inr rfl) ?_; simp only [zR, zS, hX.T, hX.nt, reduceIte, Nat.reduceEqDiff, Nat.reduceLT, Nat.reduceLeDiff, Nat.reduceAdd, Nat.reduceSub, Nat.reduceBEq, reduceCtorEq, Int.reduceNeg, altS, ho, hend, Int.reduceEq, if_true, if_false, List.map_append] <;> try rfl)
  · have p := p24 s a hs ha
    have hd : (checkA s a != 0) = true := by simp [hc]
    rw [nextA, if_pos hc]
    (refine PureFn.of_run ty_ok Tryd.func72 (c := Tryd.f72.body.get!) rfl (by decide) Tryd.ntmps72 (res := [.cell 4 35, .tmp 5]) Tryd.results72 (Nat.le_of_ble_eq_true rfl) ?_; intro X hX hR; refine vc_ok hX.ok hX.fn 1000 _ _ ?_; simp only [Tryd.f72, Option.get!])
    simp only [zS, hX.T, hX.nt, reduceIte, Nat.reduceEqDiff, Nat.reduceLT, Nat.reduceLeDiff, Nat.reduceAdd, Nat.reduceSub, Nat.reduceBEq, reduceCtorEq, Int.reduceNeg, bs_nil, bs_beq, bs_size, bs_append]
    refine hX.pure p rfl rfl (by decide) ?_
    simp only [zS, hX.T, hX.nt, reduceIte, Nat.reduceEqDiff, Nat.reduceLT, Nat.reduceLeDiff, Nat.reduceAdd, Nat.reduceSub, Nat.reduceBEq, reduceCtorEq, Int.reduceNeg, bs_nil, bs_beq, bs_size, bs_append, hd]
    (refine hX.retLe (by first | exact .inl rfl | exact .inr rfl) (r0 := .tup [.agg [I 0, I 0, .v (.slice none 0 0)], I (checkA s a)]) (by simp only [zR, zS, hX.T, hX.nt, reduceIte, Nat.reduceEqDiff, Nat.reduceLT, Nat.reduceLeDiff, Nat.reduceAdd, Nat.reduceSub, Nat.reduceBEq, reduceCtorEq, Int.reduceNeg] <;> try rfl) ?_)
    exact le_sch0 _
end Go.Proofs.YtkbidoikndgheaaDoor.HL

namespace Go.Proofs.YtkbidoikndgheaaDoor.HL
open Go.Proofs
set_option maxRecDepth 100000
set_option maxHeartbeats 4000000
theorem idxP_ge {α : Type} {p : α → Bool} : ∀ {l : List α} {i : Int}, 0 ≤ i → idxP p l i = -1 ∨ (i ≤ idxP p l i ∧ idxP p l i < i + l.length)
  | [], _, _ => .inl rfl
  | x :: l, i, h => by
    rw [idxP]
    split
    · exact .inr ⟨Int.le_refl _, by simp only [List.length_cons]; omega⟩
    · rcases idxP_ge (p := p) (l := l) (i := i + 1) (by omega) with h1 | h1
      · exact .inl h1
      · exact .inr (by simp only [List.length_cons]; omega)
theorem valOf_idx : ∀ {fs : List Fld} {l : List Val} {id' i : Int}, 0 ≤ i → l.length = fs.length →
    (idxP (fun f : Fld => f.id == id') fs i < 0 → valOf fs l id' = none) ∧ (0 ≤ idxP (fun f : Fld => f.id == id') fs i → valOf fs l id' = some (l.getD (idxP (fun f : Fld => f.id == id') fs i - i).toNat val0))
  | [], l, _, _, _, _ => by
    refine ⟨fun _ => by cases l <;> rfl, fun h => ?_⟩
    simp [idxP] at h
  | f :: fs, [], _, _, _, h => by simp at h
  | f :: fs, v :: l, id', i, hi, h => by
    have ih := valOf_idx (fs := fs) (l := l) (id' := id') (i := i + 1) (by omega) (by simpa using h)
    rw [idxP, valOf]
    by_cases hf : f.id = id'
    · simp only [hf, beq_self_eq_true, if_true]
      exact ⟨fun h => by omega, fun _ => by rw [show i - i = 0 by omega]; rfl⟩
    · simp only [hf, beq_iff_eq, if_false]
      refine ⟨ih.1, fun h0 => ?_⟩
      rw [ih.2 h0]
      rcases idxP_ge (p := fun f : Fld => f.id == id') (l := fs) (i := i + 1) (by omega) with h1 | h1
      · omega
      · rw [show (idxP (fun f : Fld => f.id == id') fs (i + 1) - i).toNat = (idxP (fun f : Fld => f.id == id') fs (i + 1) - (i + 1)).toNat + 1 by omega]
        rfl
theorem fits_len {fs : List Fld} {l : List Val} (h : fits fs l = 0) : l.length = fs.length := by
  unfold fits at h
  split at h
  · cases h
  · rename_i h1; simpa using h1
theorem rowL_step {fr to : List Fld} {l : List Val} {i : Nat} (h : i < to.length) : rowL fr l (to.drop i) = match valOf fr l to[i].id with
    | none => (rowL fr l (to.drop (i + 1))).map (to[i].d :: ·)
    | some v => if (widen v to[i].kind).2 ≠ 0 then none else (rowL fr l (to.drop (i + 1))).map ((widen v to[i].kind).1 :: ·) := by
  rw [List.drop_eq_getElem_cons h, rowL]
  cases valOf fr l to[i].id <;> rfl
theorem rowL_end {fr to : List Fld} {l : List Val} {i : Nat} (h : to.length ≤ i) : rowL fr l (to.drop i) = some [] := by rw [List.drop_eq_nil_of_le h, rowL]
theorem appOk32 {n : Nat} (h : n ≤ 1000000) : appOk n 32 = true := appOk_small h (by decide)
theorem le_rw (e : Int) : Le (.tup [.v (.slice none 0 0), I e]) (.tup [slV [], I e]) := .tup (.cons (.nil 3 false) (.refl _))
theorem rightS_len {s : Sch} (h : rightS s = true) : 1 ≤ s.fs.length ∧ s.fs.length ≤ 12 := by
  simp only [rightS, Bool.and_eq_true, decide_eq_true_eq] at h
  omega
theorem p63 (s t : Sch) (l : List Val) (hs : smS s) (ht : smS t) : PureFn Tryd.prog 63 [.agg (encS s), .agg (encS t), slV l] (.tup [slV (rowA s t l).1, I (rowA s t l).2]) := by
  have q1 : PureFn Tryd.prog 51 [.agg (encS s)] (B (rightS s)) := p51 s hs
  have q2 : PureFn Tryd.prog 51 [.agg (encS t)] (B (rightS t)) := p51 t ht
  have q3 := p22 s l
  by_cases h0 : rightS s = false ∨ rightS t = false
  · rw [rowA, if_pos h0]
    (refine PureFn.of_run ty_ok Tryd.func63 (c := Tryd.f63.body.get!) rfl (by decide) Tryd.ntmps63 (res := [.tmp 6, .tmp 7]) Tryd.results63 (Nat.le_of_ble_eq_true rfl) ?_; intro X hX hR; refine vc_ok hX.ok hX.fn 1000 _ _ ?_; simp only [Tryd.f63, Option.get!])
    simp only [zS, hX.T, hX.nt, reduceIte, Nat.reduceEqDiff, Nat.reduceLT, Nat.reduceLeDiff, Nat.reduceAdd, Nat.reduceSub, Nat.reduceBEq, reduceCtorEq, Int.reduceNeg, bs_nil, bs_beq, bs_size, bs_append]
    refine hX.pure q1 rfl rfl (by decide) ?_
    simp only [zS, hX.T, hX.nt, reduceIte, Nat.reduceEqDiff, Nat.reduceLT, Nat.reduceLeDiff, Nat.reduceAdd, Nat.reduceSub, Nat.reduceBEq, reduceCtorEq, Int.reduceNeg, bs_nil, bs_beq, bs_size, bs_append]
    refine hX.pure q2 rfl rfl (by decide) ?_
    simp only [zS, hX.T, hX.nt, reduceIte, Nat.reduceEqDiff, Nat.reduceLT, Nat.reduceLeDiff, Nat.reduceAdd, Nat.reduceSub, Nat.reduceBEq, reduceCtorEq, Int.reduceNeg, bs_nil, bs_beq, bs_size, bs_append]
    repeat' first | (refine bc_split (fun h => ?_) (fun h => ?_) <;> simp only [zS, hX.T, hX.nt, reduceIte, Nat.reduceEqDiff, Nat.reduceLT, Nat.reduceLeDiff, Nat.reduceAdd, Nat.reduceSub, Nat.reduceBEq, reduceCtorEq, Int.reduceNeg, bs_nil, bs_beq, bs_size, bs_append, zS, h]) | (refine bg_split (fun h => ?_) (fun h => ?_) <;> simp only [zS, hX.T, hX.nt, reduceIte, Nat.reduceEqDiff, Nat.reduceLT, Nat.reduceLeDiff, Nat.reduceAdd, Nat.reduceSub, Nat.reduceBEq, reduceCtorEq, Int.reduceNeg, bs_nil, bs_beq, bs_size, bs_append, zS, h]) | (refine pb_split (fun h => ?_) (fun h => ?_) <;> simp only [zS, hX.T, hX.nt, reduceIte, Nat.reduceEqDiff, Nat.reduceLT, Nat.reduceLeDiff, Nat.reduceAdd, Nat.reduceSub, Nat.reduceBEq, reduceCtorEq, Int.reduceNeg, bs_nil, bs_beq, bs_size, bs_append, zS, h]) | (refine hX.gos (by rfl) ?_; simp only [zS, hX.T, hX.nt, reduceIte, Nat.reduceEqDiff, Nat.reduceLT, Nat.reduceLeDiff, Nat.reduceAdd, Nat.reduceSub, Nat.reduceBEq, reduceCtorEq, Int.reduceNeg, bs_nil, bs_beq, bs_size, bs_append, zS])
    all_goals first
      | ((refine hX.retLe (by first | exact .inl rfl | exact .inr rfl) (r0 := .tup [.v (.slice none 0 0), I 1]) (by simp only [zR, zS, hX.T, hX.nt, reduceIte, Nat.reduceEqDiff, Nat.reduceLT, Nat.reduceLeDiff, Nat.reduceAdd, Nat.reduceSub, Nat.reduceBEq, reduceCtorEq, Int.reduceNeg] <;> try rfl) ?_); exact le_rw 1)
      | (exfalso; clear hX hR q1 q2 q3; grind)
  · have r1 : rightS s = true := by simpa using fun e => h0 (.inl e)
    have r2 : rightS t = true := by simpa using fun e => h0 (.inr e)
    rw [rowA, if_neg h0]
    rw [r1] at q1
    rw [r2] at q2
    obtain ⟨hl1, hl2⟩ := rightS_len r2
    by_cases hf : fits s.fs l = 0
    · rw [if_neg (by simp [hf])]
      rw [hf] at q3
      have hll := fits_len hf
      (refine PureFn.of_run ty_ok Tryd.func63 (c := Tryd.f63.body.get!) rfl (by decide) Tryd.ntmps63 (res := [.tmp 6, .tmp 7]) Tryd.results63 (Nat.le_of_ble_eq_true rfl) ?_; intro X hX hR; refine vc_ok hX.ok hX.fn 1000 _ _ ?_; simp only [Tryd.f63, Option.get!])
      simp only [zS, hX.T, hX.nt, reduceIte, Nat.reduceEqDiff, Nat.reduceLT, Nat.reduceLeDiff, Nat.reduceAdd, Nat.reduceSub, Nat.reduceBEq, reduceCtorEq, Int.reduceNeg, bs_nil, bs_beq, bs_size, bs_append]
      refine hX.pure q1 rfl rfl (by decide) ?_
      simp only [zS, hX.T, hX.nt, reduceIte, Nat.reduceEqDiff, Nat.reduceLT, Nat.reduceLeDiff, Nat.reduceAdd, Nat.reduceSub, Nat.reduceBEq, reduceCtorEq, Int.reduceNeg, bs_nil, bs_beq, bs_size, bs_append]
      refine hX.pure q2 rfl rfl (by decide) ?_
      simp only [zS, hX.T, hX.nt, reduceIte, Nat.reduceEqDiff, Nat.reduceLT, Nat.reduceLeDiff, Nat.reduceAdd, Nat.reduceSub, Nat.reduceBEq, reduceCtorEq, Int.reduceNeg, bs_nil, bs_beq, bs_size, bs_append]
      refine hX.pure q3 rfl rfl (by decide) ?_
      simp only [zS, hX.T, hX.nt, reduceIte, Nat.reduceEqDiff, Nat.reduceLT, Nat.reduceLeDiff, Nat.reduceAdd, Nat.reduceSub, Nat.reduceBEq, reduceCtorEq, Int.reduceNeg, bs_nil, bs_beq, bs_size, bs_append, wr0, wr1, wr2, wr3, wr4, wr5, wr6, wr7, wr8, wr9, wr10, wr11, wr12, Int.reduceBNe, Int.reduceGE, Int.reduceGT, Int.reduceBEq, Int.reduceLT, Int.reduceLE, Int.reduceEq, Int.reduceAdd, Int.reduceSub, decide_true, decide_false]
      refine Run.adopt (t := 11) (n := 100) (ty := 43) (es := 3) (by simp only [zS, hX.T, hX.nt, reduceIte, Nat.reduceEqDiff, Nat.reduceLT, Nat.reduceLeDiff, Nat.reduceAdd, Nat.reduceSub, Nat.reduceBEq, reduceCtorEq, Int.reduceNeg, bs_nil, bs_beq, bs_size, bs_append]) (by simp only [zS, hX.T, hX.nt, reduceIte, Nat.reduceEqDiff, Nat.reduceLT, Nat.reduceLeDiff, Nat.reduceAdd, Nat.reduceSub, Nat.reduceBEq, reduceCtorEq, Int.reduceNeg, bs_nil, bs_beq, bs_size, bs_append]) ?_
      refine Run.loop (α := Nat × List Val) (fun p => [(2, slV l), (3, .pt 3 0), (4, .pt 4 0), (11, .ow 100), (12, I p.1)]) (fun p => [(3, .box 35 (encS s)), (4, .box 35 (encS t)), (100, .own 43 3 (p.2.map encV))]) (fun p => p.1 ≤ t.fs.length ∧ p.2.length = p.1 ∧ rowL s.fs l t.fs = (rowL s.fs l (t.fs.drop p.1)).map (p.2 ++ ·)) (fun p => t.fs.length - p.1) (0, []) id ⟨Nat.zero_le _, rfl, by simp⟩ (.of hX.NL (by simp only [zS, hX.T, hX.nt, reduceIte, Nat.reduceEqDiff, Nat.reduceLT, Nat.reduceLeDiff, Nat.reduceAdd, Nat.reduceSub, Nat.reduceBEq, reduceCtorEq, Int.reduceNeg, bs_nil, bs_beq, bs_size, bs_append, ren, renL, renB] <;> rfl) (by simp only [zS, hX.T, hX.nt, reduceIte, Nat.reduceEqDiff, Nat.reduceLT, Nat.reduceLeDiff, Nat.reduceAdd, Nat.reduceSub, Nat.reduceBEq, reduceCtorEq, Int.reduceNeg, bs_nil, bs_beq, bs_size, bs_append, ren, renL, renB] <;> rfl) rfl) ?_
      intro ⟨i, r⟩ ⟨hi, hrl, hn⟩ ih
      simp only at hi hrl hn
      refine hX.go ?_
      simp only [zS, hX.T, hX.nt, reduceIte, Nat.reduceEqDiff, Nat.reduceLT, Nat.reduceLeDiff, Nat.reduceAdd, Nat.reduceSub, Nat.reduceBEq, reduceCtorEq, Int.reduceNeg, bs_nil, bs_beq, bs_size, bs_append]
      refine bc_split (fun h => ?_) (fun h => ?_)
      · have h := of_decide_eq_true h
        have hlt : i < t.fs.length := by omega
        have hlen : t.fs.length ≤ 9223372036854775807 := by omega
        have hrow := row_nat encF t.fs i hlt
        have hap : appOk (r.length + 1) 32 = true := appOk32 (by omega)
        rw [rowL_step hlt] at hn
        simp only [zS, hX.T, hX.nt, reduceIte, Nat.reduceEqDiff, Nat.reduceLT, Nat.reduceLeDiff, Nat.reduceAdd, Nat.reduceSub, Nat.reduceBEq, reduceCtorEq, Int.reduceNeg, bs_nil, bs_beq, bs_size, bs_append, h, Int.natCast_nonneg, hrow]
        refine hX.pure (p101 s t.fs[i].id) rfl rfl (by decide) ?_
        simp only [zS, hX.T, hX.nt, reduceIte, Nat.reduceEqDiff, Nat.reduceLT, Nat.reduceLeDiff, Nat.reduceAdd, Nat.reduceSub, Nat.reduceBEq, reduceCtorEq, Int.reduceNeg, bs_nil, bs_beq, bs_size, bs_append]
        refine bc_split (fun h1 => ?_) (fun h1 => ?_)
        · have h1 := of_decide_eq_true h1
          rw [(valOf_idx (Int.le_refl 0) hll).1 h1] at hn
          simp only [zS, hX.T, hX.nt, reduceIte, Nat.reduceEqDiff, Nat.reduceLT, Nat.reduceLeDiff, Nat.reduceAdd, Nat.reduceSub, Nat.reduceBEq, reduceCtorEq, Int.reduceNeg, bs_nil, bs_beq, bs_size, bs_append, hap, List.length_append]
          refine ih (i + 1, r ++ [t.fs[i].d]) (mv 100 55) _ ⟨hlt, by simp [hrl], by rw [hn]; cases rowL s.fs l (t.fs.drop (i + 1)) <;> simp⟩ (by simp only; omega) (.of hX.NL (by simp only [zS, hX.T, hX.nt, reduceIte, Nat.reduceEqDiff, Nat.reduceLT, Nat.reduceLeDiff, Nat.reduceAdd, Nat.reduceSub, Nat.reduceBEq, reduceCtorEq, Int.reduceNeg, bs_nil, bs_beq, bs_size, bs_append, ren, renL, renB, wrap_succ hlt hlen] <;> rfl) (by simp only [zS, hX.T, hX.nt, reduceIte, Nat.reduceEqDiff, Nat.reduceLT, Nat.reduceLeDiff, Nat.reduceAdd, Nat.reduceSub, Nat.reduceBEq, reduceCtorEq, Int.reduceNeg, bs_nil, bs_beq, bs_size, bs_append, ren, renL, renB, List.map_append] <;> rfl) rfl)
        · have h1 := of_decide_eq_false h1
          have h1' : 0 ≤ plcI s t.fs[i].id := by omega
          have h2 : plcI s t.fs[i].id < (l.length : Int) := by
            rcases idxP_ge (p := fun f : Fld => f.id == t.fs[i].id) (l := s.fs) (i := 0) (by omega) with h2 | h2
            · exact absurd h1' (by rw [plcI, h2]; decide)
            · rw [plcI]; omega
          rw [(valOf_idx (Int.le_refl 0) hll).2 h1', Int.sub_zero] at hn
          have hrv := row_map encV l val0 (plcI s t.fs[i].id) ⟨h1', h2⟩
          simp only [zS, hX.T, hX.nt, reduceIte, Nat.reduceEqDiff, Nat.reduceLT, Nat.reduceLeDiff, Nat.reduceAdd, Nat.reduceSub, Nat.reduceBEq, reduceCtorEq, Int.reduceNeg, bs_nil, bs_beq, bs_size, bs_append]
          refine hX.draw (by kernel_rfl) (by decide) ?_
          simp only [zS, hX.T, hX.nt, reduceIte, Nat.reduceEqDiff, Nat.reduceLT, Nat.reduceLeDiff, Nat.reduceAdd, Nat.reduceSub, Nat.reduceBEq, reduceCtorEq, Int.reduceNeg, bs_nil, bs_beq, bs_size, bs_append, h1', h2, hrv]
          refine hX.pureD (p102 (l.getD (plcI s t.fs[i].id).toNat val0) t.fs[i].kind) rfl rfl (by decide) ?_
          simp only [zS, hX.T, hX.nt, reduceIte, Nat.reduceEqDiff, Nat.reduceLT, Nat.reduceLeDiff, Nat.reduceAdd, Nat.reduceSub, Nat.reduceBEq, reduceCtorEq, Int.reduceNeg, bs_nil, bs_beq, bs_size, bs_append]
          refine hX.gos (by rfl) ?_
          simp only [zS, hX.T, hX.nt, reduceIte, Nat.reduceEqDiff, Nat.reduceLT, Nat.reduceLeDiff, Nat.reduceAdd, Nat.reduceSub, Nat.reduceBEq, reduceCtorEq, Int.reduceNeg, bs_nil, bs_beq, bs_size, bs_append]
          simp only [plcI] at *
          refine bc_split (fun h3 => ?_) (fun h3 => ?_)
          · have h3 : (widen (l.getD (idxP (fun f : Fld => f.id == t.fs[i].id) s.fs 0).toNat val0) t.fs[i].kind).2 ≠ 0 := by simpa using h3
            rw [if_pos h3] at hn
            rw [hn] at hX
            simp only [zS, hX.T, hX.nt, reduceIte, Nat.reduceEqDiff, Nat.reduceLT, Nat.reduceLeDiff, Nat.reduceAdd, Nat.reduceSub, Nat.reduceBEq, reduceCtorEq, Int.reduceNeg, bs_nil, bs_beq, bs_size, bs_append]
            (refine hX.retLe (by first | exact .inl rfl | exact .inr rfl) (r0 := .tup [.v (.slice none 0 0), I 14]) (by simp only [zR, zS, hX.T, hX.nt, reduceIte, Nat.reduceEqDiff, Nat.reduceLT, Nat.reduceLeDiff, Nat.reduceAdd, Nat.reduceSub, Nat.reduceBEq, reduceCtorEq, Int.reduceNeg] <;> try rfl) ?_)
            exact le_rw 14
          · have h3 : ¬ (widen (l.getD (idxP (fun f : Fld => f.id == t.fs[i].id) s.fs 0).toNat val0) t.fs[i].kind).2 ≠ 0 := by simpa using h3
            rw [if_neg h3] at hn
            simp only [zS, hX.T, hX.nt, reduceIte, Nat.reduceEqDiff, Nat.reduceLT, Nat.reduceLeDiff, Nat.reduceAdd, Nat.reduceSub, Nat.reduceBEq, reduceCtorEq, Int.reduceNeg, bs_nil, bs_beq, bs_size, bs_append, hap, List.length_append]
            refine ih (i + 1, r ++ [(widen (l.getD (idxP (fun f : Fld => f.id == t.fs[i].id) s.fs 0).toNat val0) t.fs[i].kind).1]) (mv 100 71) _ ⟨hlt, by simp [hrl], by rw [hn]; cases rowL s.fs l (t.fs.drop (i + 1)) <;> simp⟩ (by simp only; omega) (.of hX.NL (by simp only [zS, hX.T, hX.nt, reduceIte, Nat.reduceEqDiff, Nat.reduceLT, Nat.reduceLeDiff, Nat.reduceAdd, Nat.reduceSub, Nat.reduceBEq, reduceCtorEq, Int.reduceNeg, bs_nil, bs_beq, bs_size, bs_append, ren, renL, renB, wrap_succ hlt hlen] <;> rfl) (by simp only [zS, hX.T, hX.nt, reduceIte, Nat.reduceEqDiff, Nat.reduceLT, Nat.reduceLeDiff, Nat.reduceAdd, Nat.reduceSub, Nat.reduceBEq, reduceCtorEq, Int.reduceNeg, bs_nil, bs_beq, bs_size, bs_append, ren, renL, renB, List.map_append] <;> rfl) rfl)
      · have h := of_decide_eq_false h
        rw [rowL_end (by omega)] at hn
        rw [hn] at hX
        simp only [zS, hX.T, hX.nt, reduceIte, Nat.reduceEqDiff, Nat.reduceLT, Nat.reduceLeDiff, Nat.reduceAdd, Nat.reduceSub, Nat.reduceBEq, reduceCtorEq, Int.reduceNeg, bs_nil, bs_beq, bs_size, bs_append]
        (refine hX.ret (by first | exact .inl rfl | exact .inr rfl) ?_; simp only [zR, zS, hX.T, hX.nt, reduceIte, Nat.reduceEqDiff, Nat.reduceLT, Nat.reduceLeDiff, Nat.reduceAdd, Nat.reduceSub, Nat.reduceBEq, reduceCtorEq, Int.reduceNeg, List.append_nil, Option.map_some] <;> try rfl)
    · have hd : (fits s.fs l != 0) = true := by simp [hf]
      rw [if_pos hf]
      (refine PureFn.of_run ty_ok Tryd.func63 (c := Tryd.f63.body.get!) rfl (by decide) Tryd.ntmps63 (res := [.tmp 6, .tmp 7]) Tryd.results63 (Nat.le_of_ble_eq_true rfl) ?_; intro X hX hR; refine vc_ok hX.ok hX.fn 1000 _ _ ?_; simp only [Tryd.f63, Option.get!])
      simp only [zS, hX.T, hX.nt, reduceIte, Nat.reduceEqDiff, Nat.reduceLT, Nat.reduceLeDiff, Nat.reduceAdd, Nat.reduceSub, Nat.reduceBEq, reduceCtorEq, Int.reduceNeg, bs_nil, bs_beq, bs_size, bs_append]
      refine hX.pure q1 rfl rfl (by decide) ?_
      simp only [zS, hX.T, hX.nt, reduceIte, Nat.reduceEqDiff, Nat.reduceLT, Nat.reduceLeDiff, Nat.reduceAdd, Nat.reduceSub, Nat.reduceBEq, reduceCtorEq, Int.reduceNeg, bs_nil, bs_beq, bs_size, bs_append]
      refine hX.pure q2 rfl rfl (by decide) ?_
      simp only [zS, hX.T, hX.nt, reduceIte, Nat.reduceEqDiff, Nat.reduceLT, Nat.reduceLeDiff, Nat.reduceAdd, Nat.reduceSub, Nat.reduceBEq, reduceCtorEq, Int.reduceNeg, bs_nil, bs_beq, bs_size, bs_append]
      refine hX.pure q3 rfl rfl (by decide) ?_
      simp only [zS, hX.T, hX.nt, reduceIte, Nat.reduceEqDiff, Nat.reduceLT, Nat.reduceLeDiff, Nat.reduceAdd, Nat.reduceSub, Nat.reduceBEq, reduceCtorEq, Int.reduceNeg, bs_nil, bs_beq, bs_size, bs_append, hd]
      (refine hX.retLe (by first | exact .inl rfl | exact .inr rfl) (r0 := .tup [.v (.slice none 0 0), I (fits s.fs l)]) (by simp only [zR, zS, hX.T, hX.nt, reduceIte, Nat.reduceEqDiff, Nat.reduceLT, Nat.reduceLeDiff, Nat.reduceAdd, Nat.reduceSub, Nat.reduceBEq, reduceCtorEq, Int.reduceNeg] <;> try rfl) ?_)
      exact le_rw _
end Go.Proofs.YtkbidoikndgheaaDoor.HL

namespace Go.Proofs.YtkbidoikndgheaaDoor.HL
open Go.Proofs
set_option maxRecDepth 100000
set_option maxHeartbeats 4000000
def lnk : Option Sch → Sch → Bool
  | none, _ => true
  | some p, s => decide (p.ver < s.ver) && decide (p.next ≤ s.next)
def chk : Option Sch → List Sch → Bool
  | _, [] => true
  | p, s :: l => rightS s && lnk p s && chk (some s) l
theorem rightCs_chk' : ∀ (s : Sch) (l : List Sch), rightCs (s :: l) = (rightS s && chk (some s) l)
  | s, [] => by simp [rightCs, chk]
  | s, t :: l => by
    rw [rightCs, rightCs_chk' t l, chk, lnk]
    grind
theorem rightCs_chk (l : List Sch) : rightCs l = chk none l := by
  cases l with
  | nil => rfl
  | cons s l => rw [rightCs_chk', chk, lnk]; simp
def prv (l : List Sch) : Nat → Option Sch
  | 0 => none
  | i + 1 => l[i]?
theorem chk_step {l : List Sch} {p : Option Sch} {i : Nat} (h : i < l.length) : chk p (l.drop i) = (rightS l[i] && lnk p l[i] && chk (prv l (i + 1)) (l.drop (i + 1))) := by
  rw [List.drop_eq_getElem_cons h, chk, prv, List.getElem?_eq_getElem h]
theorem chk_end {l : List Sch} {p : Option Sch} {i : Nat} (h : l.length ≤ i) : chk p (l.drop i) = true := by
  rw [List.drop_eq_nil_of_le h]
  cases p <;> rfl
def smC (l : List Sch) : Prop := ∀ s ∈ l, smS s
theorem p36 (l : List Sch) (hs : smC l) : PureFn Tryd.prog 36 [slS l] (B (rightC l)) := by
  rw [rightC, rightCs_chk]
  (refine PureFn.of_run ty_ok Tryd.func36 (c := Tryd.f36.body.get!) rfl (by decide) Tryd.ntmps36 (res := [.tmp 2]) Tryd.results36 (Nat.le_of_ble_eq_true rfl) ?_; intro X hX hR; refine vc_ok hX.ok hX.fn 1000 _ _ ?_; simp only [Tryd.f36, Option.get!])
  have hlen := hR.len (show AV.sl 3 false (l.map encS) ∈ _ by simp [slS])
  rw [List.length_map] at hlen
  simp only [zS, hX.T, hX.nt, reduceIte, Nat.reduceEqDiff, Nat.reduceLT, Nat.reduceLeDiff, Nat.reduceAdd, Nat.reduceSub, Nat.reduceBEq, reduceCtorEq, Int.reduceNeg, bs_nil, bs_beq, bs_size, bs_append]
  refine Run.loop (α := Nat) (fun i => [(0, slS l), (3, I i)]) (fun _ => []) (fun i => i ≤ l.length ∧ chk (prv l i) (l.drop i) = chk none l) (fun i => l.length - i) 0 id ⟨Nat.zero_le _, rfl⟩ (.of hX.NL (by simp only [zS, hX.T, hX.nt, reduceIte, Nat.reduceEqDiff, Nat.reduceLT, Nat.reduceLeDiff, Nat.reduceAdd, Nat.reduceSub, Nat.reduceBEq, reduceCtorEq, Int.reduceNeg, bs_nil, bs_beq, bs_size, bs_append, ren, renL, renB] <;> rfl) rfl rfl) ?_
  intro i ⟨hi, hn⟩ ih
  refine hX.go ?_
  simp only [zS, hX.T, hX.nt, reduceIte, Nat.reduceEqDiff, Nat.reduceLT, Nat.reduceLeDiff, Nat.reduceAdd, Nat.reduceSub, Nat.reduceBEq, reduceCtorEq, Int.reduceNeg, bs_nil, bs_beq, bs_size, bs_append]
  refine bc_split (fun h => ?_) (fun h => ?_)
  · have h := of_decide_eq_true h
    have hlt : i < l.length := by omega
    have hrow := row_nat encS l i hlt
    have q := p51 l[i] (hs _ (List.getElem_mem ..))
    rw [chk_step hlt] at hn
    simp only [zS, hX.T, hX.nt, reduceIte, Nat.reduceEqDiff, Nat.reduceLT, Nat.reduceLeDiff, Nat.reduceAdd, Nat.reduceSub, Nat.reduceBEq, reduceCtorEq, Int.reduceNeg, bs_nil, bs_beq, bs_size, bs_append, h, Int.natCast_nonneg, hrow]
    cases hr : rightS l[i]
    · rw [hr] at hn q
      simp only [Bool.false_and] at hn
      rw [← hn] at hX
      refine hX.pure q rfl rfl (by decide) ?_
      simp only [zS, hX.T, hX.nt, reduceIte, Nat.reduceEqDiff, Nat.reduceLT, Nat.reduceLeDiff, Nat.reduceAdd, Nat.reduceSub, Nat.reduceBEq, reduceCtorEq, Int.reduceNeg, bs_nil, bs_beq, bs_size, bs_append]
      refine hX.draw (by kernel_rfl) (by decide) ?_
      simp only [zS, hX.T, hX.nt, reduceIte, Nat.reduceEqDiff, Nat.reduceLT, Nat.reduceLeDiff, Nat.reduceAdd, Nat.reduceSub, Nat.reduceBEq, reduceCtorEq, Int.reduceNeg, bs_nil, bs_beq, bs_size, bs_append]
      refine hX.gos (by rfl) ?_
      simp only [zS, hX.T, hX.nt, reduceIte, Nat.reduceEqDiff, Nat.reduceLT, Nat.reduceLeDiff, Nat.reduceAdd, Nat.reduceSub, Nat.reduceBEq, reduceCtorEq, Int.reduceNeg, bs_nil, bs_beq, bs_size, bs_append]
      (refine hX.ret (by first | exact .inl rfl | exact .inr rfl) ?_; simp only [zR, zS, hX.T, hX.nt, reduceIte, Nat.reduceEqDiff, Nat.reduceLT, Nat.reduceLeDiff, Nat.reduceAdd, Nat.reduceSub, Nat.reduceBEq, reduceCtorEq, Int.reduceNeg] <;> try rfl)
    · rw [hr] at hn q
      simp only [Bool.true_and] at hn
      refine hX.pure q rfl rfl (by decide) ?_
      simp only [zS, hX.T, hX.nt, reduceIte, Nat.reduceEqDiff, Nat.reduceLT, Nat.reduceLeDiff, Nat.reduceAdd, Nat.reduceSub, Nat.reduceBEq, reduceCtorEq, Int.reduceNeg, bs_nil, bs_beq, bs_size, bs_append]
      refine hX.draw (by kernel_rfl) (by decide) ?_
      rcases i with _ | j
      · simp only [zS, hX.T, hX.nt, reduceIte, Nat.reduceEqDiff, Nat.reduceLT, Nat.reduceLeDiff, Nat.reduceAdd, Nat.reduceSub, Nat.reduceBEq, reduceCtorEq, Int.reduceNeg, bs_nil, bs_beq, bs_size, bs_append, Int.natCast_zero, Int.lt_irrefl, gt_iff_lt, decide_false]
        refine hX.gos (by rfl) ?_
        simp only [zS, hX.T, hX.nt, reduceIte, Nat.reduceEqDiff, Nat.reduceLT, Nat.reduceLeDiff, Nat.reduceAdd, Nat.reduceSub, Nat.reduceBEq, reduceCtorEq, Int.reduceNeg, bs_nil, bs_beq, bs_size, bs_append]
        refine ih 1 id _ ⟨by omega, by rw [← hn]; rfl⟩ (by omega) (.of hX.NL (by simp only [zS, hX.T, hX.nt, reduceIte, Nat.reduceEqDiff, Nat.reduceLT, Nat.reduceLeDiff, Nat.reduceAdd, Nat.reduceSub, Nat.reduceBEq, reduceCtorEq, Int.reduceNeg, bs_nil, bs_beq, bs_size, bs_append, ren, renL, renB, wr1, Int.zero_add, Int.natCast_one] <;> rfl) rfl rfl)
      · have hg : decide (((j + 1 : Nat) : Int) > 0) = true := by simp only [decide_eq_true_eq]; omega
        have hw : IntKind.i64.wrap (((j + 1 : Nat) : Int) - 1) = (j : Int) := by rw [wrap_id (by omega) (by omega)]; omega
        have hj : j < l.length := by omega
        have hj' : (j : Int) < (l.length : Int) := by omega
        have hrj := row_nat encS l j hj
        have hp : prv l (j + 1) = some l[j] := by rw [prv, List.getElem?_eq_getElem hj]
        rw [hp, lnk] at hn
        simp only [zS, hX.T, hX.nt, reduceIte, Nat.reduceEqDiff, Nat.reduceLT, Nat.reduceLeDiff, Nat.reduceAdd, Nat.reduceSub, Nat.reduceBEq, reduceCtorEq, Int.reduceNeg, bs_nil, bs_beq, bs_size, bs_append, hg, hw, h, hj', Int.natCast_nonneg, hrow, hrj]
        refine pb_split (fun h1 => ?_) (fun h1 => ?_)
        · simp only [zS, hX.T, hX.nt, reduceIte, Nat.reduceEqDiff, Nat.reduceLT, Nat.reduceLeDiff, Nat.reduceAdd, Nat.reduceSub, Nat.reduceBEq, reduceCtorEq, Int.reduceNeg, bs_nil, bs_beq, bs_size, bs_append, hg, hw, h, hj', Int.natCast_nonneg, hrow, hrj, h1]
          refine hX.gos (by rfl) ?_
          simp only [zS, hX.T, hX.nt, reduceIte, Nat.reduceEqDiff, Nat.reduceLT, Nat.reduceLeDiff, Nat.reduceAdd, Nat.reduceSub, Nat.reduceBEq, reduceCtorEq, Int.reduceNeg, bs_nil, bs_beq, bs_size, bs_append, h1]
          have h1 := of_decide_eq_true h1
          rw [decide_eq_false (by omega), Bool.false_and, Bool.false_and] at hn
          rw [← hn] at hX
          (refine hX.ret (by first | exact .inl rfl | exact .inr rfl) ?_; simp only [zR, zS, hX.T, hX.nt, reduceIte, Nat.reduceEqDiff, Nat.reduceLT, Nat.reduceLeDiff, Nat.reduceAdd, Nat.reduceSub, Nat.reduceBEq, reduceCtorEq, Int.reduceNeg] <;> try rfl)
        · simp only [zS, hX.T, hX.nt, reduceIte, Nat.reduceEqDiff, Nat.reduceLT, Nat.reduceLeDiff, Nat.reduceAdd, Nat.reduceSub, Nat.reduceBEq, reduceCtorEq, Int.reduceNeg, bs_nil, bs_beq, bs_size, bs_append, hg, hw, h, hj', Int.natCast_nonneg, hrow, hrj, h1]
          refine hX.gos (by rfl) ?_
          simp only [zS, hX.T, hX.nt, reduceIte, Nat.reduceEqDiff, Nat.reduceLT, Nat.reduceLeDiff, Nat.reduceAdd, Nat.reduceSub, Nat.reduceBEq, reduceCtorEq, Int.reduceNeg, bs_nil, bs_beq, bs_size, bs_append, h1]
          have h1 := of_decide_eq_false h1
          rw [decide_eq_true (by omega : l[j].ver < l[j + 1].ver), Bool.true_and] at hn
          refine bc_split (fun h2 => ?_) (fun h2 => ?_)
          · simp only [zS, hX.T, hX.nt, reduceIte, Nat.reduceEqDiff, Nat.reduceLT, Nat.reduceLeDiff, Nat.reduceAdd, Nat.reduceSub, Nat.reduceBEq, reduceCtorEq, Int.reduceNeg, bs_nil, bs_beq, bs_size, bs_append]
            have h2 := of_decide_eq_true h2
            rw [decide_eq_false (by omega), Bool.false_and] at hn
            rw [← hn] at hX
            (refine hX.ret (by first | exact .inl rfl | exact .inr rfl) ?_; simp only [zR, zS, hX.T, hX.nt, reduceIte, Nat.reduceEqDiff, Nat.reduceLT, Nat.reduceLeDiff, Nat.reduceAdd, Nat.reduceSub, Nat.reduceBEq, reduceCtorEq, Int.reduceNeg] <;> try rfl)
          · simp only [zS, hX.T, hX.nt, reduceIte, Nat.reduceEqDiff, Nat.reduceLT, Nat.reduceLeDiff, Nat.reduceAdd, Nat.reduceSub, Nat.reduceBEq, reduceCtorEq, Int.reduceNeg, bs_nil, bs_beq, bs_size, bs_append]
            have h2 := of_decide_eq_false h2
            rw [decide_eq_true (by omega), Bool.true_and] at hn
            refine ih (j + 1 + 1) id _ ⟨by omega, by rw [← hn]⟩ (by omega) (.of hX.NL (by simp only [zS, hX.T, hX.nt, reduceIte, Nat.reduceEqDiff, Nat.reduceLT, Nat.reduceLeDiff, Nat.reduceAdd, Nat.reduceSub, Nat.reduceBEq, reduceCtorEq, Int.reduceNeg, bs_nil, bs_beq, bs_size, bs_append, ren, renL, renB, wrap_succ hlt hlen] <;> rfl) rfl rfl)
  · have h := of_decide_eq_false h
    rw [chk_end (by omega)] at hn
    rw [← hn] at hX
    simp only [zS, hX.T, hX.nt, reduceIte, Nat.reduceEqDiff, Nat.reduceLT, Nat.reduceLeDiff, Nat.reduceAdd, Nat.reduceSub, Nat.reduceBEq, reduceCtorEq, Int.reduceNeg, bs_nil, bs_beq, bs_size, bs_append]
    repeat' first | (refine bc_split (fun h => ?_) (fun h => ?_) <;> simp only [zS, hX.T, hX.nt, reduceIte, Nat.reduceEqDiff, Nat.reduceLT, Nat.reduceLeDiff, Nat.reduceAdd, Nat.reduceSub, Nat.reduceBEq, reduceCtorEq, Int.reduceNeg, bs_nil, bs_beq, bs_size, bs_append, zS, h]) | (refine bg_split (fun h => ?_) (fun h => ?_) <;> simp only [zS, hX.T, hX.nt, reduceIte, Nat.reduceEqDiff, Nat.reduceLT, Nat.reduceLeDiff, Nat.reduceAdd, Nat.reduceSub, Nat.reduceBEq, reduceCtorEq, Int.reduceNeg, bs_nil, bs_beq, bs_size, bs_append, zS, h]) | (refine pb_split (fun h => ?_) (fun h => ?_) <;> simp only [zS, hX.T, hX.nt, reduceIte, Nat.reduceEqDiff, Nat.reduceLT, Nat.reduceLeDiff, Nat.reduceAdd, Nat.reduceSub, Nat.reduceBEq, reduceCtorEq, Int.reduceNeg, bs_nil, bs_beq, bs_size, bs_append, zS, h]) | (refine hX.gos (by rfl) ?_; simp only [zS, hX.T, hX.nt, reduceIte, Nat.reduceEqDiff, Nat.reduceLT, Nat.reduceLeDiff, Nat.reduceAdd, Nat.reduceSub, Nat.reduceBEq, reduceCtorEq, Int.reduceNeg, bs_nil, bs_beq, bs_size, bs_append, zS])
    all_goals ((refine hX.ret (by first | exact .inl rfl | exact .inr rfl) ?_; simp only [zR, zS, hX.T, hX.nt, reduceIte, Nat.reduceEqDiff, Nat.reduceLT, Nat.reduceLeDiff, Nat.reduceAdd, Nat.reduceSub, Nat.reduceBEq, reduceCtorEq, Int.reduceNeg] <;> try rfl); clear hX hR ih; grind)
def fndS (o : Option Sch) : AV := .tup [.agg (encS (o.getD sch0)), B o.isSome]
theorem p31 (l : List Sch) (v : Int) : PureFn Tryd.prog 31 [slS l, I v] (fndS (findC l v)) := by
  (refine PureFn.of_run ty_ok Tryd.func31 (c := Tryd.f31.body.get!) rfl (by decide) Tryd.ntmps31 (res := [.cell 4 35, .tmp 5]) Tryd.results31 (Nat.le_of_ble_eq_true rfl) ?_; intro X hX hR; refine vc_ok hX.ok hX.fn 1000 _ _ ?_; simp only [Tryd.f31, Option.get!])
  have hlen := hR.len (show AV.sl 3 false (l.map encS) ∈ _ by simp [slS])
  rw [List.length_map] at hlen
  simp only [zS, hX.T, hX.nt, reduceIte, Nat.reduceEqDiff, Nat.reduceLT, Nat.reduceLeDiff, Nat.reduceAdd, Nat.reduceSub, Nat.reduceBEq, reduceCtorEq, Int.reduceNeg, bs_nil, bs_beq, bs_size, bs_append]
  refine Run.loop (α := Nat) (fun i => [(0, slS l), (1, I v), (4, .pt 4 0), (6, I i)]) (fun _ => [(4, .box 35 [I 0, I 0, .v (.slice none 0 0)])]) (fun i => i ≤ l.length ∧ (l.drop i).find? (fun s => s.ver == v) = findC l v) (fun i => l.length - i) 0 id ⟨Nat.zero_le _, rfl⟩ (.of hX.NL (by simp only [zS, hX.T, hX.nt, reduceIte, Nat.reduceEqDiff, Nat.reduceLT, Nat.reduceLeDiff, Nat.reduceAdd, Nat.reduceSub, Nat.reduceBEq, reduceCtorEq, Int.reduceNeg, bs_nil, bs_beq, bs_size, bs_append, ren, renL, renB] <;> rfl) (by simp only [zS, hX.T, hX.nt, reduceIte, Nat.reduceEqDiff, Nat.reduceLT, Nat.reduceLeDiff, Nat.reduceAdd, Nat.reduceSub, Nat.reduceBEq, reduceCtorEq, Int.reduceNeg, bs_nil, bs_beq, bs_size, bs_append, ren, renL, renB] <;> rfl) rfl) ?_
  intro i ⟨hi, hn⟩ ih
  refine hX.go ?_
  simp only [zS, hX.T, hX.nt, reduceIte, Nat.reduceEqDiff, Nat.reduceLT, Nat.reduceLeDiff, Nat.reduceAdd, Nat.reduceSub, Nat.reduceBEq, reduceCtorEq, Int.reduceNeg, bs_nil, bs_beq, bs_size, bs_append]
  refine bc_split (fun h => ?_) (fun h => ?_)
  · have h := of_decide_eq_true h
    have hlt : i < l.length := by omega
    have hrow := row_nat encS l i hlt
    rw [find_step hlt] at hn
    simp only [zS, hX.T, hX.nt, reduceIte, Nat.reduceEqDiff, Nat.reduceLT, Nat.reduceLeDiff, Nat.reduceAdd, Nat.reduceSub, Nat.reduceBEq, reduceCtorEq, Int.reduceNeg, bs_nil, bs_beq, bs_size, bs_append, h, Int.natCast_nonneg, hrow]
    refine bc_split (fun h1 => ?_) (fun h1 => ?_)
    · simp only [zS, hX.T, hX.nt, reduceIte, Nat.reduceEqDiff, Nat.reduceLT, Nat.reduceLeDiff, Nat.reduceAdd, Nat.reduceSub, Nat.reduceBEq, reduceCtorEq, Int.reduceNeg, bs_nil, bs_beq, bs_size, bs_append, h, Int.natCast_nonneg, hrow]
      rw [← hn, if_pos h1] at hX
      (refine hX.ret (by first | exact .inl rfl | exact .inr rfl) ?_; simp only [zR, zS, hX.T, hX.nt, reduceIte, Nat.reduceEqDiff, Nat.reduceLT, Nat.reduceLeDiff, Nat.reduceAdd, Nat.reduceSub, Nat.reduceBEq, reduceCtorEq, Int.reduceNeg, fndS, Option.getD_some, Option.isSome_some] <;> try rfl)
    · simp only [zS, hX.T, hX.nt, reduceIte, Nat.reduceEqDiff, Nat.reduceLT, Nat.reduceLeDiff, Nat.reduceAdd, Nat.reduceSub, Nat.reduceBEq, reduceCtorEq, Int.reduceNeg, bs_nil, bs_beq, bs_size, bs_append]
      refine ih (i + 1) id _ ⟨hlt, by rw [← hn, h1]; rfl⟩ (by omega) (.of hX.NL (by simp only [zS, hX.T, hX.nt, reduceIte, Nat.reduceEqDiff, Nat.reduceLT, Nat.reduceLeDiff, Nat.reduceAdd, Nat.reduceSub, Nat.reduceBEq, reduceCtorEq, Int.reduceNeg, bs_nil, bs_beq, bs_size, bs_append, ren, renL, renB, wrap_succ hlt hlen] <;> rfl) (by simp only [zS, hX.T, hX.nt, reduceIte, Nat.reduceEqDiff, Nat.reduceLT, Nat.reduceLeDiff, Nat.reduceAdd, Nat.reduceSub, Nat.reduceBEq, reduceCtorEq, Int.reduceNeg, bs_nil, bs_beq, bs_size, bs_append, ren, renL, renB] <;> rfl) rfl)
  · have h := of_decide_eq_false h
    rw [find_end (by omega)] at hn
    simp only [zS, hX.T, hX.nt, reduceIte, Nat.reduceEqDiff, Nat.reduceLT, Nat.reduceLeDiff, Nat.reduceAdd, Nat.reduceSub, Nat.reduceBEq, reduceCtorEq, Int.reduceNeg, bs_nil, bs_beq, bs_size, bs_append]
    rw [← hn] at hX
    (refine hX.retLe (by first | exact .inl rfl | exact .inr rfl) (r0 := .tup [.agg [I 0, I 0, .v (.slice none 0 0)], B false]) (by simp only [zR, zS, hX.T, hX.nt, reduceIte, Nat.reduceEqDiff, Nat.reduceLT, Nat.reduceLeDiff, Nat.reduceAdd, Nat.reduceSub, Nat.reduceBEq, reduceCtorEq, Int.reduceNeg] <;> try rfl) ?_)
    exact .tup (.cons (.agg (.cons (.refl _) (.cons (.refl _) (.cons (.nil 6 false) (.refl _))))) (.refl _))
end Go.Proofs.YtkbidoikndgheaaDoor.HL

namespace Go.Proofs.YtkbidoikndgheaaDoor.HL
open Go.Proofs
set_option maxRecDepth 100000
set_option maxHeartbeats 4000000
theorem appOk40 {n : Nat} (h : n ≤ 1000000) : appOk n 40 = true := appOk_small h (by decide)
theorem lastC_get {l : List Sch} (h : 0 < l.length) : l.getD (l.length - 1) sch0 = lastC l := by
  rw [lastC, List.getLastD_eq_getLast?, List.getLast?_eq_getElem?, List.getD_eq_getElem?_getD]
theorem lastC_mm {l : List Sch} (h : 0 < l.length) : lastC l ∈ l := by
  rw [← lastC_get h, List.getD_eq_getElem?_getD, List.getElem?_eq_getElem (by omega)]
  exact List.getElem_mem ..
theorem row_last {l : List Sch} (h : 0 < l.length) : row (l.map encS) ((l.length - 1 : Nat) : Int) = encS (lastC l) := by
  rw [row_nat encS l (l.length - 1) (by omega), ← lastC_get h, List.getD_eq_getElem?_getD, List.getElem?_eq_getElem (by omega)]; rfl
theorem le_ss (e : Int) : Le (.tup [.v (.slice none 0 0), I e]) (.tup [slS [], I e]) := .tup (.cons (.nil 3 false) (.refl _))
theorem rightC_len {l : List Sch} (h : rightC l = true) : 1 ≤ l.length ∧ l.length ≤ 10 := by
  simp only [rightC, Bool.and_eq_true, decide_eq_true_eq] at h
  omega
theorem p29 (l : List Sch) (a : Alt) (hs : smC l) (ha : smA a) : PureFn Tryd.prog 29 [slS l, .agg (encA a)] (.tup [slS (extendC l a).1, I (extendC l a).2]) := by
  have q := p36 l hs
  cases hr : rightC l
  · rw [extendC, if_pos hr]
    rw [hr] at q
    (refine PureFn.of_run ty_ok Tryd.func29 (c := Tryd.f29.body.get!) rfl (by decide) Tryd.ntmps29 (res := [.tmp 4, .tmp 5]) Tryd.results29 (Nat.le_of_ble_eq_true rfl) ?_; intro X hX hR; refine vc_ok hX.ok hX.fn 1000 _ _ ?_; simp only [Tryd.f29, Option.get!])
    simp only [zS, hX.T, hX.nt, reduceIte, Nat.reduceEqDiff, Nat.reduceLT, Nat.reduceLeDiff, Nat.reduceAdd, Nat.reduceSub, Nat.reduceBEq, reduceCtorEq, Int.reduceNeg, bs_nil, bs_beq, bs_size, bs_append]
    refine hX.pure q rfl rfl (by decide) ?_
    simp only [zS, hX.T, hX.nt, reduceIte, Nat.reduceEqDiff, Nat.reduceLT, Nat.reduceLeDiff, Nat.reduceAdd, Nat.reduceSub, Nat.reduceBEq, reduceCtorEq, Int.reduceNeg, bs_nil, bs_beq, bs_size, bs_append]
    (refine hX.retLe (by first | exact .inl rfl | exact .inr rfl) (r0 := .tup [.v (.slice none 0 0), I 1]) (by simp only [zR, zS, hX.T, hX.nt, reduceIte, Nat.reduceEqDiff, Nat.reduceLT, Nat.reduceLeDiff, Nat.reduceAdd, Nat.reduceSub, Nat.reduceBEq, reduceCtorEq, Int.reduceNeg] <;> try rfl) ?_)
    exact le_ss 1
  · obtain ⟨h1, h2⟩ := rightC_len hr
    rw [extendC, if_neg (by simp [hr])]
    rw [hr] at q
    have hw : IntKind.i64.wrap ((l.length : Int) - 1) = ((l.length - 1 : Nat) : Int) := by rw [wrap_id (by omega) (by omega)]; omega
    have hlt : ((l.length - 1 : Nat) : Int) < (l.length : Int) := by omega
    have hrow := row_last h1
    have q2 := p72 (lastC l) a (hs _ (lastC_mm h1)) ha
    (refine PureFn.of_run ty_ok Tryd.func29 (c := Tryd.f29.body.get!) rfl (by decide) Tryd.ntmps29 (res := [.tmp 4, .tmp 5]) Tryd.results29 (Nat.le_of_ble_eq_true rfl) ?_; intro X hX hR; refine vc_ok hX.ok hX.fn 1000 _ _ ?_; simp only [Tryd.f29, Option.get!])
    simp only [zS, hX.T, hX.nt, reduceIte, Nat.reduceEqDiff, Nat.reduceLT, Nat.reduceLeDiff, Nat.reduceAdd, Nat.reduceSub, Nat.reduceBEq, reduceCtorEq, Int.reduceNeg, bs_nil, bs_beq, bs_size, bs_append]
    refine hX.pure q rfl rfl (by decide) ?_
    simp only [zS, hX.T, hX.nt, reduceIte, Nat.reduceEqDiff, Nat.reduceLT, Nat.reduceLeDiff, Nat.reduceAdd, Nat.reduceSub, Nat.reduceBEq, reduceCtorEq, Int.reduceNeg, bs_nil, bs_beq, bs_size, bs_append]
    refine hX.draw (by kernel_rfl) (by decide) ?_
    simp only [zS, hX.T, hX.nt, reduceIte, Nat.reduceEqDiff, Nat.reduceLT, Nat.reduceLeDiff, Nat.reduceAdd, Nat.reduceSub, Nat.reduceBEq, reduceCtorEq, Int.reduceNeg, bs_nil, bs_beq, bs_size, bs_append, hw, hlt, Int.natCast_nonneg, hrow]
    refine hX.pureD q2 rfl rfl (by decide) ?_
    simp only [zS, hX.T, hX.nt, reduceIte, Nat.reduceEqDiff, Nat.reduceLT, Nat.reduceLeDiff, Nat.reduceAdd, Nat.reduceSub, Nat.reduceBEq, reduceCtorEq, Int.reduceNeg, bs_nil, bs_beq, bs_size, bs_append]
    refine hX.gos (by rfl) ?_
    simp only [zS, hX.T, hX.nt, reduceIte, Nat.reduceEqDiff, Nat.reduceLT, Nat.reduceLeDiff, Nat.reduceAdd, Nat.reduceSub, Nat.reduceBEq, reduceCtorEq, Int.reduceNeg, bs_nil, bs_beq, bs_size, bs_append]
    refine bc_split (fun h3 => ?_) (fun h3 => ?_)
    · have h3 : (nextA (lastC l) a).2 ≠ 0 := by simpa using h3
      rw [if_pos h3] at hX
      simp only [zS, hX.T, hX.nt, reduceIte, Nat.reduceEqDiff, Nat.reduceLT, Nat.reduceLeDiff, Nat.reduceAdd, Nat.reduceSub, Nat.reduceBEq, reduceCtorEq, Int.reduceNeg, bs_nil, bs_beq, bs_size, bs_append]
      (refine hX.retLe (by first | exact .inl rfl | exact .inr rfl) (r0 := .tup [.v (.slice none 0 0), I (nextA (lastC l) a).2]) (by simp only [zR, zS, hX.T, hX.nt, reduceIte, Nat.reduceEqDiff, Nat.reduceLT, Nat.reduceLeDiff, Nat.reduceAdd, Nat.reduceSub, Nat.reduceBEq, reduceCtorEq, Int.reduceNeg] <;> try rfl) ?_)
      exact le_ss _
    · have h3 : ¬ (nextA (lastC l) a).2 ≠ 0 := by simpa using h3
      rw [if_neg h3] at hX
      simp only [zS, hX.T, hX.nt, reduceIte, Nat.reduceEqDiff, Nat.reduceLT, Nat.reduceLeDiff, Nat.reduceAdd, Nat.reduceSub, Nat.reduceBEq, reduceCtorEq, Int.reduceNeg, bs_nil, bs_beq, bs_size, bs_append]
      refine bc_split (fun h4 => ?_) (fun h4 => ?_)
      · have h4 := of_decide_eq_true h4
        rw [if_pos (by omega)] at hX
        simp only [zS, hX.T, hX.nt, reduceIte, Nat.reduceEqDiff, Nat.reduceLT, Nat.reduceLeDiff, Nat.reduceAdd, Nat.reduceSub, Nat.reduceBEq, reduceCtorEq, Int.reduceNeg, bs_nil, bs_beq, bs_size, bs_append]
        (refine hX.retLe (by first | exact .inl rfl | exact .inr rfl) (r0 := .tup [.v (.slice none 0 0), I 15]) (by simp only [zR, zS, hX.T, hX.nt, reduceIte, Nat.reduceEqDiff, Nat.reduceLT, Nat.reduceLeDiff, Nat.reduceAdd, Nat.reduceSub, Nat.reduceBEq, reduceCtorEq, Int.reduceNeg] <;> try rfl) ?_)
        exact le_ss _
      · have h4 := of_decide_eq_false h4
        rw [if_neg (by omega)] at hX
        have hap1 : appOk l.length 40 = true := appOk40 (by omega)
        have hap2 : appOk (l.length + 1) 40 = true := appOk40 (by omega)
        simp only [zS, hX.T, hX.nt, reduceIte, Nat.reduceEqDiff, Nat.reduceLT, Nat.reduceLeDiff, Nat.reduceAdd, Nat.reduceSub, Nat.reduceBEq, reduceCtorEq, Int.reduceNeg, bs_nil, bs_beq, bs_size, bs_append]
        refine hX.draw (by kernel_rfl) (by decide) ?_
        simp only [zS, hX.T, hX.nt, reduceIte, Nat.reduceEqDiff, Nat.reduceLT, Nat.reduceLeDiff, Nat.reduceAdd, Nat.reduceSub, Nat.reduceBEq, reduceCtorEq, Int.reduceNeg, bs_nil, bs_beq, bs_size, bs_append, hap1, hap2, List.length_append]
        refine hX.gos (by rfl) ?_
        simp only [zS, hX.T, hX.nt, reduceIte, Nat.reduceEqDiff, Nat.reduceLT, Nat.reduceLeDiff, Nat.reduceAdd, Nat.reduceSub, Nat.reduceBEq, reduceCtorEq, Int.reduceNeg, bs_nil, bs_beq, bs_size, bs_append]
        (refine hX.ret (by first | exact .inl rfl | exact .inr rfl) ?_; simp only [zR, zS, hX.T, hX.nt, reduceIte, Nat.reduceEqDiff, Nat.reduceLT, Nat.reduceLeDiff, Nat.reduceAdd, Nat.reduceSub, Nat.reduceBEq, reduceCtorEq, Int.reduceNeg, List.map_append] <;> try rfl)
theorem le_r0 (e : Int) : Le (.tup [.agg [I 0, .v (.slice none 0 0)], I e]) (.tup [.agg (encR rw0), I e]) := .tup (.cons (.agg (.cons (.refl _) (.cons (.nil 3 false) (.refl _)))) (.refl _))
theorem findC_mm {l : List Sch} {v : Int} {s : Sch} (h : findC l v = some s) : s ∈ l := List.mem_of_find?_eq_some h
theorem p18 (l : List Sch) (r : Rw) (to : Int) (hs : smC l) : PureFn Tryd.prog 18 [slS l, .agg (encR r), I to] (.tup [.agg (encR (resolveC l r to).1), I (resolveC l r to).2]) := by
  have q := p36 l hs
  have q1 := p31 l r.ver
  have q2 := p31 l to
  cases hr : rightC l
  · rw [resolveC, if_pos hr]
    rw [hr] at q
    (refine PureFn.of_run ty_ok Tryd.func18 (c := Tryd.f18.body.get!) rfl (by decide) Tryd.ntmps18 (res := [.cell 6 25, .tmp 7]) Tryd.results18 (Nat.le_of_ble_eq_true rfl) ?_; intro X hX hR; refine vc_ok hX.ok hX.fn 1000 _ _ ?_; simp only [Tryd.f18, Option.get!])
    simp only [zS, hX.T, hX.nt, reduceIte, Nat.reduceEqDiff, Nat.reduceLT, Nat.reduceLeDiff, Nat.reduceAdd, Nat.reduceSub, Nat.reduceBEq, reduceCtorEq, Int.reduceNeg, bs_nil, bs_beq, bs_size, bs_append]
    refine hX.pure q rfl rfl (by decide) ?_
    simp only [zS, hX.T, hX.nt, reduceIte, Nat.reduceEqDiff, Nat.reduceLT, Nat.reduceLeDiff, Nat.reduceAdd, Nat.reduceSub, Nat.reduceBEq, reduceCtorEq, Int.reduceNeg, bs_nil, bs_beq, bs_size, bs_append]
    (refine hX.retLe (by first | exact .inl rfl | exact .inr rfl) (r0 := .tup [.agg [I 0, .v (.slice none 0 0)], I 1]) (by simp only [zR, zS, hX.T, hX.nt, reduceIte, Nat.reduceEqDiff, Nat.reduceLT, Nat.reduceLeDiff, Nat.reduceAdd, Nat.reduceSub, Nat.reduceBEq, reduceCtorEq, Int.reduceNeg] <;> try rfl) ?_)
    exact le_r0 1
  · rw [resolveC, if_neg (by simp [hr])]
    rw [hr] at q
    have bad : ∀ (o1 o2 : Option Sch), findC l r.ver = o1 → findC l to = o2 → (o1.isSome && o2.isSome) = false → PureFn Tryd.prog 18 [slS l, .agg (encR r), I to] (.tup [.agg (encR rw0), I 19]) := by
      intro o1 o2 e1 e2 hb
      rw [e1] at q1
      rw [e2] at q2
      (refine PureFn.of_run ty_ok Tryd.func18 (c := Tryd.f18.body.get!) rfl (by decide) Tryd.ntmps18 (res := [.cell 6 25, .tmp 7]) Tryd.results18 (Nat.le_of_ble_eq_true rfl) ?_; intro X hX hR; refine vc_ok hX.ok hX.fn 1000 _ _ ?_; simp only [Tryd.f18, Option.get!])
      simp only [zS, hX.T, hX.nt, reduceIte, Nat.reduceEqDiff, Nat.reduceLT, Nat.reduceLeDiff, Nat.reduceAdd, Nat.reduceSub, Nat.reduceBEq, reduceCtorEq, Int.reduceNeg, bs_nil, bs_beq, bs_size, bs_append]
      refine hX.pure q rfl rfl (by decide) ?_
      simp only [zS, hX.T, hX.nt, reduceIte, Nat.reduceEqDiff, Nat.reduceLT, Nat.reduceLeDiff, Nat.reduceAdd, Nat.reduceSub, Nat.reduceBEq, reduceCtorEq, Int.reduceNeg, bs_nil, bs_beq, bs_size, bs_append]
      refine hX.pure q1 rfl rfl (by decide) ?_
      simp only [zS, hX.T, hX.nt, reduceIte, Nat.reduceEqDiff, Nat.reduceLT, Nat.reduceLeDiff, Nat.reduceAdd, Nat.reduceSub, Nat.reduceBEq, reduceCtorEq, Int.reduceNeg, bs_nil, bs_beq, bs_size, bs_append, fndS]
      refine hX.pure q2 rfl rfl (by decide) ?_
      simp only [zS, hX.T, hX.nt, reduceIte, Nat.reduceEqDiff, Nat.reduceLT, Nat.reduceLeDiff, Nat.reduceAdd, Nat.reduceSub, Nat.reduceBEq, reduceCtorEq, Int.reduceNeg, bs_nil, bs_beq, bs_size, bs_append, fndS]
      repeat' first | (refine bc_split (fun h => ?_) (fun h => ?_) <;> simp only [zS, hX.T, hX.nt, reduceIte, Nat.reduceEqDiff, Nat.reduceLT, Nat.reduceLeDiff, Nat.reduceAdd, Nat.reduceSub, Nat.reduceBEq, reduceCtorEq, Int.reduceNeg, bs_nil, bs_beq, bs_size, bs_append, zS, h]) | (refine bg_split (fun h => ?_) (fun h => ?_) <;> simp only [zS, hX.T, hX.nt, reduceIte, Nat.reduceEqDiff, Nat.reduceLT, Nat.reduceLeDiff, Nat.reduceAdd, Nat.reduceSub, Nat.reduceBEq, reduceCtorEq, Int.reduceNeg, bs_nil, bs_beq, bs_size, bs_append, zS, h]) | (refine pb_split (fun h => ?_) (fun h => ?_) <;> simp only [zS, hX.T, hX.nt, reduceIte, Nat.reduceEqDiff, Nat.reduceLT, Nat.reduceLeDiff, Nat.reduceAdd, Nat.reduceSub, Nat.reduceBEq, reduceCtorEq, Int.reduceNeg, bs_nil, bs_beq, bs_size, bs_append, zS, h]) | (refine hX.gos (by rfl) ?_; simp only [zS, hX.T, hX.nt, reduceIte, Nat.reduceEqDiff, Nat.reduceLT, Nat.reduceLeDiff, Nat.reduceAdd, Nat.reduceSub, Nat.reduceBEq, reduceCtorEq, Int.reduceNeg, bs_nil, bs_beq, bs_size, bs_append, zS])
      all_goals first
        | (exfalso; clear hX hR q q1 q2; grind)
        | ((refine hX.retLe (by first | exact .inl rfl | exact .inr rfl) (r0 := .tup [.agg [I 0, .v (.slice none 0 0)], I 19]) (by simp only [zR, zS, hX.T, hX.nt, reduceIte, Nat.reduceEqDiff, Nat.reduceLT, Nat.reduceLeDiff, Nat.reduceAdd, Nat.reduceSub, Nat.reduceBEq, reduceCtorEq, Int.reduceNeg] <;> try rfl) ?_); exact le_r0 19)
    cases e1 : findC l r.ver with
    | none => exact bad _ _ e1 rfl rfl
    | some a =>
      cases e2 : findC l to with
      | none => exact bad _ _ e1 e2 rfl
      | some b =>
        rw [e1] at q1
        rw [e2] at q2
        have q3 := p63 a b r.vs (hs _ (findC_mm e1)) (hs _ (findC_mm e2))
        clear bad
        simp only
        (refine PureFn.of_run ty_ok Tryd.func18 (c := Tryd.f18.body.get!) rfl (by decide) Tryd.ntmps18 (res := [.cell 6 25, .tmp 7]) Tryd.results18 (Nat.le_of_ble_eq_true rfl) ?_; intro X hX hR; refine vc_ok hX.ok hX.fn 1000 _ _ ?_; simp only [Tryd.f18, Option.get!])
        simp only [zS, hX.T, hX.nt, reduceIte, Nat.reduceEqDiff, Nat.reduceLT, Nat.reduceLeDiff, Nat.reduceAdd, Nat.reduceSub, Nat.reduceBEq, reduceCtorEq, Int.reduceNeg, bs_nil, bs_beq, bs_size, bs_append]
        refine hX.pure q rfl rfl (by decide) ?_
        simp only [zS, hX.T, hX.nt, reduceIte, Nat.reduceEqDiff, Nat.reduceLT, Nat.reduceLeDiff, Nat.reduceAdd, Nat.reduceSub, Nat.reduceBEq, reduceCtorEq, Int.reduceNeg, bs_nil, bs_beq, bs_size, bs_append]
        refine hX.pure q1 rfl rfl (by decide) ?_
        simp only [zS, hX.T, hX.nt, reduceIte, Nat.reduceEqDiff, Nat.reduceLT, Nat.reduceLeDiff, Nat.reduceAdd, Nat.reduceSub, Nat.reduceBEq, reduceCtorEq, Int.reduceNeg, bs_nil, bs_beq, bs_size, bs_append, fndS, Option.getD_some, Option.isSome_some]
        refine hX.pure q2 rfl rfl (by decide) ?_
        simp only [zS, hX.T, hX.nt, reduceIte, Nat.reduceEqDiff, Nat.reduceLT, Nat.reduceLeDiff, Nat.reduceAdd, Nat.reduceSub, Nat.reduceBEq, reduceCtorEq, Int.reduceNeg, bs_nil, bs_beq, bs_size, bs_append, fndS, Option.getD_some, Option.isSome_some]
        refine bc_split (fun h => ?_) (fun h => ?_)
        · have h := of_decide_eq_true h
          rw [if_pos h] at hX
          simp only [zS, hX.T, hX.nt, reduceIte, Nat.reduceEqDiff, Nat.reduceLT, Nat.reduceLeDiff, Nat.reduceAdd, Nat.reduceSub, Nat.reduceBEq, reduceCtorEq, Int.reduceNeg, bs_nil, bs_beq, bs_size, bs_append]
          (refine hX.retLe (by first | exact .inl rfl | exact .inr rfl) (r0 := .tup [.agg [I 0, .v (.slice none 0 0)], I 14]) (by simp only [zR, zS, hX.T, hX.nt, reduceIte, Nat.reduceEqDiff, Nat.reduceLT, Nat.reduceLeDiff, Nat.reduceAdd, Nat.reduceSub, Nat.reduceBEq, reduceCtorEq, Int.reduceNeg] <;> try rfl) ?_)
          exact le_r0 14
        · have h := of_decide_eq_false h
          rw [if_neg h] at hX
          simp only [zS, hX.T, hX.nt, reduceIte, Nat.reduceEqDiff, Nat.reduceLT, Nat.reduceLeDiff, Nat.reduceAdd, Nat.reduceSub, Nat.reduceBEq, reduceCtorEq, Int.reduceNeg, bs_nil, bs_beq, bs_size, bs_append]
          refine hX.pure q3 rfl rfl (by decide) ?_
          simp only [zS, hX.T, hX.nt, reduceIte, Nat.reduceEqDiff, Nat.reduceLT, Nat.reduceLeDiff, Nat.reduceAdd, Nat.reduceSub, Nat.reduceBEq, reduceCtorEq, Int.reduceNeg, bs_nil, bs_beq, bs_size, bs_append]
          refine bc_split (fun h => ?_) (fun h => ?_)
          · have h : (rowA a b r.vs).2 ≠ 0 := by simpa using h
            rw [if_pos h] at hX
            simp only [zS, hX.T, hX.nt, reduceIte, Nat.reduceEqDiff, Nat.reduceLT, Nat.reduceLeDiff, Nat.reduceAdd, Nat.reduceSub, Nat.reduceBEq, reduceCtorEq, Int.reduceNeg, bs_nil, bs_beq, bs_size, bs_append]
            (refine hX.retLe (by first | exact .inl rfl | exact .inr rfl) (r0 := .tup [.agg [I 0, .v (.slice none 0 0)], I (rowA a b r.vs).2]) (by simp only [zR, zS, hX.T, hX.nt, reduceIte, Nat.reduceEqDiff, Nat.reduceLT, Nat.reduceLeDiff, Nat.reduceAdd, Nat.reduceSub, Nat.reduceBEq, reduceCtorEq, Int.reduceNeg] <;> try rfl) ?_)
            exact le_r0 _
          · have h : ¬ (rowA a b r.vs).2 ≠ 0 := by simpa using h
            rw [if_neg h] at hX
            simp only [zS, hX.T, hX.nt, reduceIte, Nat.reduceEqDiff, Nat.reduceLT, Nat.reduceLeDiff, Nat.reduceAdd, Nat.reduceSub, Nat.reduceBEq, reduceCtorEq, Int.reduceNeg, bs_nil, bs_beq, bs_size, bs_append]
            (refine hX.ret (by first | exact .inl rfl | exact .inr rfl) ?_; simp only [zR, zS, hX.T, hX.nt, reduceIte, Nat.reduceEqDiff, Nat.reduceLT, Nat.reduceLeDiff, Nat.reduceAdd, Nat.reduceSub, Nat.reduceBEq, reduceCtorEq, Int.reduceNeg] <;> try rfl)
def keepR (l : List Sch) (v : Int) (i : Nat) : List Sch := (l.take i).filter fun s => s.ver != v
theorem keepR_step {l : List Sch} {v : Int} {i : Nat} (h : i < l.length) : keepR l v (i + 1) = keepR l v i ++ if (l[i].ver != v) = true then [l[i]] else [] := by
  rw [keepR, List.take_succ_eq_append_getElem h, List.filter_append, keepR]
  cases h : l[i].ver != v <;> simp [h]
theorem p33 (l : List Sch) (v : Int) (hs : smC l) : PureFn Tryd.prog 33 [slS l, I v] (.tup [slS (retireC l v).1, I (retireC l v).2]) := by
  have q := p36 l hs
  have q1 := p31 l v
  cases hr : rightC l
  · rw [retireC, if_pos hr]
    rw [hr] at q
    (refine PureFn.of_run ty_ok Tryd.func33 (c := Tryd.f33.body.get!) rfl (by decide) Tryd.ntmps33 (res := [.tmp 4, .tmp 5]) Tryd.results33 (Nat.le_of_ble_eq_true rfl) ?_; intro X hX hR; refine vc_ok hX.ok hX.fn 1000 _ _ ?_; simp only [Tryd.f33, Option.get!])
    simp only [zS, hX.T, hX.nt, reduceIte, Nat.reduceEqDiff, Nat.reduceLT, Nat.reduceLeDiff, Nat.reduceAdd, Nat.reduceSub, Nat.reduceBEq, reduceCtorEq, Int.reduceNeg, bs_nil, bs_beq, bs_size, bs_append]
    refine hX.pure q rfl rfl (by decide) ?_
    simp only [zS, hX.T, hX.nt, reduceIte, Nat.reduceEqDiff, Nat.reduceLT, Nat.reduceLeDiff, Nat.reduceAdd, Nat.reduceSub, Nat.reduceBEq, reduceCtorEq, Int.reduceNeg, bs_nil, bs_beq, bs_size, bs_append]
    (refine hX.retLe (by first | exact .inl rfl | exact .inr rfl) (r0 := .tup [.v (.slice none 0 0), I 1]) (by simp only [zR, zS, hX.T, hX.nt, reduceIte, Nat.reduceEqDiff, Nat.reduceLT, Nat.reduceLeDiff, Nat.reduceAdd, Nat.reduceSub, Nat.reduceBEq, reduceCtorEq, Int.reduceNeg] <;> try rfl) ?_)
    exact le_ss 1
  · obtain ⟨h1, h2⟩ := rightC_len hr
    rw [retireC, if_neg (by simp [hr])]
    rw [hr] at q
    cases e1 : findC l v with
    | none =>
      rw [if_pos (show (none : Option Sch).isNone = true from rfl)]
      rw [e1] at q1
      (refine PureFn.of_run ty_ok Tryd.func33 (c := Tryd.f33.body.get!) rfl (by decide) Tryd.ntmps33 (res := [.tmp 4, .tmp 5]) Tryd.results33 (Nat.le_of_ble_eq_true rfl) ?_; intro X hX hR; refine vc_ok hX.ok hX.fn 1000 _ _ ?_; simp only [Tryd.f33, Option.get!])
      simp only [zS, hX.T, hX.nt, reduceIte, Nat.reduceEqDiff, Nat.reduceLT, Nat.reduceLeDiff, Nat.reduceAdd, Nat.reduceSub, Nat.reduceBEq, reduceCtorEq, Int.reduceNeg, bs_nil, bs_beq, bs_size, bs_append]
      refine hX.pure q rfl rfl (by decide) ?_
      simp only [zS, hX.T, hX.nt, reduceIte, Nat.reduceEqDiff, Nat.reduceLT, Nat.reduceLeDiff, Nat.reduceAdd, Nat.reduceSub, Nat.reduceBEq, reduceCtorEq, Int.reduceNeg, bs_nil, bs_beq, bs_size, bs_append]
      refine hX.pure q1 rfl rfl (by decide) ?_
      simp only [zS, hX.T, hX.nt, reduceIte, Nat.reduceEqDiff, Nat.reduceLT, Nat.reduceLeDiff, Nat.reduceAdd, Nat.reduceSub, Nat.reduceBEq, reduceCtorEq, Int.reduceNeg, bs_nil, bs_beq, bs_size, bs_append, fndS, Option.getD_none, Option.isSome_none]
      (refine hX.retLe (by first | exact .inl rfl | exact .inr rfl) (r0 := .tup [.v (.slice none 0 0), I 19]) (by simp only [zR, zS, hX.T, hX.nt, reduceIte, Nat.reduceEqDiff, Nat.reduceLT, Nat.reduceLeDiff, Nat.reduceAdd, Nat.reduceSub, Nat.reduceBEq, reduceCtorEq, Int.reduceNeg] <;> try rfl) ?_)
      exact le_ss 19
    | some a =>
      rw [if_neg (by exact fun h => by cases h)]
      rw [e1] at q1
      have hw : IntKind.i64.wrap ((l.length : Int) - 1) = ((l.length - 1 : Nat) : Int) := by rw [wrap_id (by omega) (by omega)]; omega
      have hlt : ((l.length - 1 : Nat) : Int) < (l.length : Int) := by omega
      have hrow := row_last h1
      (refine PureFn.of_run ty_ok Tryd.func33 (c := Tryd.f33.body.get!) rfl (by decide) Tryd.ntmps33 (res := [.tmp 4, .tmp 5]) Tryd.results33 (Nat.le_of_ble_eq_true rfl) ?_; intro X hX hR; refine vc_ok hX.ok hX.fn 1000 _ _ ?_; simp only [Tryd.f33, Option.get!])
      simp only [zS, hX.T, hX.nt, reduceIte, Nat.reduceEqDiff, Nat.reduceLT, Nat.reduceLeDiff, Nat.reduceAdd, Nat.reduceSub, Nat.reduceBEq, reduceCtorEq, Int.reduceNeg, bs_nil, bs_beq, bs_size, bs_append]
      refine hX.pure q rfl rfl (by decide) ?_
      simp only [zS, hX.T, hX.nt, reduceIte, Nat.reduceEqDiff, Nat.reduceLT, Nat.reduceLeDiff, Nat.reduceAdd, Nat.reduceSub, Nat.reduceBEq, reduceCtorEq, Int.reduceNeg, bs_nil, bs_beq, bs_size, bs_append]
      refine hX.pure q1 rfl rfl (by decide) ?_
      simp only [zS, hX.T, hX.nt, reduceIte, Nat.reduceEqDiff, Nat.reduceLT, Nat.reduceLeDiff, Nat.reduceAdd, Nat.reduceSub, Nat.reduceBEq, reduceCtorEq, Int.reduceNeg, bs_nil, bs_beq, bs_size, bs_append, fndS, Option.getD_some, Option.isSome_some, hw, hlt, Int.natCast_nonneg, hrow]
      refine bc_split (fun h => ?_) (fun h => ?_)
      · rw [if_pos (by simpa using h)] at hX
        simp only [zS, hX.T, hX.nt, reduceIte, Nat.reduceEqDiff, Nat.reduceLT, Nat.reduceLeDiff, Nat.reduceAdd, Nat.reduceSub, Nat.reduceBEq, reduceCtorEq, Int.reduceNeg, bs_nil, bs_beq, bs_size, bs_append]
        (refine hX.retLe (by first | exact .inl rfl | exact .inr rfl) (r0 := .tup [.v (.slice none 0 0), I 14]) (by simp only [zR, zS, hX.T, hX.nt, reduceIte, Nat.reduceEqDiff, Nat.reduceLT, Nat.reduceLeDiff, Nat.reduceAdd, Nat.reduceSub, Nat.reduceBEq, reduceCtorEq, Int.reduceNeg] <;> try rfl) ?_)
        exact le_ss 14
      · rw [if_neg (by simpa using h)] at hX
        simp only [zS, hX.T, hX.nt, reduceIte, Nat.reduceEqDiff, Nat.reduceLT, Nat.reduceLeDiff, Nat.reduceAdd, Nat.reduceSub, Nat.reduceBEq, reduceCtorEq, Int.reduceNeg, bs_nil, bs_beq, bs_size, bs_append]
        refine Run.adopt (t := 9) (n := 100) (ty := 35) (es := 3) (by simp only [zS, hX.T, hX.nt, reduceIte, Nat.reduceEqDiff, Nat.reduceLT, Nat.reduceLeDiff, Nat.reduceAdd, Nat.reduceSub, Nat.reduceBEq, reduceCtorEq, Int.reduceNeg, bs_nil, bs_beq, bs_size, bs_append]) (by simp only [zS, hX.T, hX.nt, reduceIte, Nat.reduceEqDiff, Nat.reduceLT, Nat.reduceLeDiff, Nat.reduceAdd, Nat.reduceSub, Nat.reduceBEq, reduceCtorEq, Int.reduceNeg, bs_nil, bs_beq, bs_size, bs_append]) ?_
        refine Run.loop (α := Nat) (fun i => [(0, slS l), (1, I v), (9, .ow 100), (10, I i)]) (fun i => [(100, .own 35 3 ((keepR l v i).map encS))]) (fun i => i ≤ l.length) (fun i => l.length - i) 0 id (Nat.zero_le _) (.of hX.NL (by simp only [zS, hX.T, hX.nt, reduceIte, Nat.reduceEqDiff, Nat.reduceLT, Nat.reduceLeDiff, Nat.reduceAdd, Nat.reduceSub, Nat.reduceBEq, reduceCtorEq, Int.reduceNeg, bs_nil, bs_beq, bs_size, bs_append, ren, renL, renB] <;> rfl) (by simp only [zS, hX.T, hX.nt, reduceIte, Nat.reduceEqDiff, Nat.reduceLT, Nat.reduceLeDiff, Nat.reduceAdd, Nat.reduceSub, Nat.reduceBEq, reduceCtorEq, Int.reduceNeg, bs_nil, bs_beq, bs_size, bs_append, ren, renL, renB, keepR, List.filter_nil] <;> rfl) rfl) ?_
        intro i hi ih
        refine hX.go ?_
        simp only [zS, hX.T, hX.nt, reduceIte, Nat.reduceEqDiff, Nat.reduceLT, Nat.reduceLeDiff, Nat.reduceAdd, Nat.reduceSub, Nat.reduceBEq, reduceCtorEq, Int.reduceNeg, bs_nil, bs_beq, bs_size, bs_append]
        refine bc_split (fun h => ?_) (fun h => ?_)
        · have h := of_decide_eq_true h
          have hlt : i < l.length := by omega
          have hlen : l.length ≤ 9223372036854775807 := by omega
          have hrow := row_nat encS l i hlt
          have hap : appOk ((keepR l v i).length + 1) 40 = true := appOk40 (by
            have : (keepR l v i).length ≤ (l.take i).length := List.length_filter_le ..
            rw [List.length_take] at this; omega)
          have hst := keepR_step (v := v) hlt
          simp only [zS, hX.T, hX.nt, reduceIte, Nat.reduceEqDiff, Nat.reduceLT, Nat.reduceLeDiff, Nat.reduceAdd, Nat.reduceSub, Nat.reduceBEq, reduceCtorEq, Int.reduceNeg, bs_nil, bs_beq, bs_size, bs_append, h, Int.natCast_nonneg, hrow]
          refine bc_split (fun h3 => ?_) (fun h3 => ?_)
          · rw [if_pos h3] at hst
            simp only [zS, hX.T, hX.nt, reduceIte, Nat.reduceEqDiff, Nat.reduceLT, Nat.reduceLeDiff, Nat.reduceAdd, Nat.reduceSub, Nat.reduceBEq, reduceCtorEq, Int.reduceNeg, bs_nil, bs_beq, bs_size, bs_append, h, Int.natCast_nonneg, hrow, hap, List.length_append]
            refine ih (i + 1) (mv 100 51) _ (by omega) (by omega) (.of hX.NL (by simp only [zS, hX.T, hX.nt, reduceIte, Nat.reduceEqDiff, Nat.reduceLT, Nat.reduceLeDiff, Nat.reduceAdd, Nat.reduceSub, Nat.reduceBEq, reduceCtorEq, Int.reduceNeg, bs_nil, bs_beq, bs_size, bs_append, ren, renL, renB, wrap_succ hlt hlen] <;> rfl) (by simp only [zS, hX.T, hX.nt, reduceIte, Nat.reduceEqDiff, Nat.reduceLT, Nat.reduceLeDiff, Nat.reduceAdd, Nat.reduceSub, Nat.reduceBEq, reduceCtorEq, Int.reduceNeg, bs_nil, bs_beq, bs_size, bs_append, ren, renL, renB, hst, List.map_append] <;> rfl) rfl)
          · rw [if_neg (by simp [h3]), List.append_nil] at hst
            simp only [zS, hX.T, hX.nt, reduceIte, Nat.reduceEqDiff, Nat.reduceLT, Nat.reduceLeDiff, Nat.reduceAdd, Nat.reduceSub, Nat.reduceBEq, reduceCtorEq, Int.reduceNeg, bs_nil, bs_beq, bs_size, bs_append]
            refine ih (i + 1) id _ (by omega) (by omega) (.of hX.NL (by simp only [zS, hX.T, hX.nt, reduceIte, Nat.reduceEqDiff, Nat.reduceLT, Nat.reduceLeDiff, Nat.reduceAdd, Nat.reduceSub, Nat.reduceBEq, reduceCtorEq, Int.reduceNeg, bs_nil, bs_beq, bs_size, bs_append, ren, renL, renB, wrap_succ hlt hlen] <;> rfl) (by simp only [zS, hX.T, hX.nt, reduceIte, Nat.reduceEqDiff, Nat.reduceLT, Nat.reduceLeDiff, Nat.reduceAdd, Nat.reduceSub, Nat.reduceBEq, reduceCtorEq, Int.reduceNeg, bs_nil, bs_beq, bs_size, bs_append, ren, renL, renB, hst] <;> rfl) rfl)
        · have h := of_decide_eq_false h
          have : keepR l v i = l.filter fun s => s.ver != v := by rw [keepR, List.take_of_length_le (by omega)]
          simp only [zS, hX.T, hX.nt, reduceIte, Nat.reduceEqDiff, Nat.reduceLT, Nat.reduceLeDiff, Nat.reduceAdd, Nat.reduceSub, Nat.reduceBEq, reduceCtorEq, Int.reduceNeg, bs_nil, bs_beq, bs_size, bs_append]
          (refine hX.ret (by first | exact .inl rfl | exact .inr rfl) ?_; simp only [zR, zS, hX.T, hX.nt, reduceIte, Nat.reduceEqDiff, Nat.reduceLT, Nat.reduceLeDiff, Nat.reduceAdd, Nat.reduceSub, Nat.reduceBEq, reduceCtorEq, Int.reduceNeg, this] <;> try rfl)
end Go.Proofs.YtkbidoikndgheaaDoor.HL

