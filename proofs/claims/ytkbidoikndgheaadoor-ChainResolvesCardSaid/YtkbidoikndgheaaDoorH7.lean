/- Contracts of alter and chain. -/
import Derived.Test.YtkbidoikndgheaaDoorH6
set_option linter.unusedVariables false
set_option linter.unusedSimpArgs false
namespace Go.Proofs.YtkbidoikndgheaaDoor.HL
open Go.Proofs
set_option maxRecDepth 100000
set_option maxHeartbeats 4000000
theorem p104 (fs : List Fld) (hl : fs.length ≤ 12) : FnE Tryd.prog 104 [slF fs, I 1] [] (.ow 4094) [(4094, .own 45 6 (fs.map encF))] := by
  have hw : IntKind.i64.wrap ((fs.length : Int) + 1) = (fs.length : Int) + 1 := wrap_id (by omega) (by omega)
  have h1 : (fs.length : Int) ≤ (fs.length : Int) + 1 := by omega
  have h2 : (fs.length : Int) + 1 ≤ 1000000 := by omega
  (refine FnE.of_run ty_ok Tryd.func104 (c := Tryd.f104.body.get!) rfl (by decide) Tryd.ntmps104 (res := [.tmp 4]) Tryd.results104 (Nat.le_of_ble_eq_true rfl) (by rfl) ?_; intro X hX hR; refine vc_ok hX.ok hX.fn 1000 _ _ ?_; simp only [Tryd.f104, Option.get!])
  simp only [zS, hX.T, hX.nt, reduceIte, Nat.reduceEqDiff, Nat.reduceLT, Nat.reduceLeDiff, Nat.reduceAdd, Nat.reduceSub, Nat.reduceBEq, reduceCtorEq, Int.reduceNeg, bs_nil, bs_beq, bs_size, bs_append, hw, h1, h2, Int.natCast_nonneg, Int.toNat_natCast, List.length_replicate, Nat.reduceLeDiff]
  (refine hX.ret (by first | exact .inl rfl | exact .inr rfl) [(4094, 12)] (by simp only [zR, zS, hX.T, hX.nt, reduceIte, Nat.reduceEqDiff, Nat.reduceLT, Nat.reduceLeDiff, Nat.reduceAdd, Nat.reduceSub, Nat.reduceBEq, reduceCtorEq, Int.reduceNeg, bkOf, tb, Option.map_some] <;> try rfl) (by rfl) (by simp only [zR, zS, hX.T, hX.nt, reduceIte, Nat.reduceEqDiff, Nat.reduceLT, Nat.reduceLeDiff, Nat.reduceAdd, Nat.reduceSub, Nat.reduceBEq, reduceCtorEq, Int.reduceNeg, bkOf, tb, Option.map_some] <;> try rfl))
theorem p106 (f : Fld) (a : Alt) : PureFn Tryd.prog 106 [.agg (encF f), .rp (encA a)] (B (f.name == a.name)) := by
  (refine PureFn.of_run ty_ok Tryd.func106 (c := Tryd.f106.body.get!) rfl (by decide) Tryd.ntmps106 (res := [.tmp 3]) Tryd.results106 (Nat.le_of_ble_eq_true rfl) ?_; intro X hX hR; refine vc_ok hX.ok hX.fn 1000 _ _ ?_; simp only [Tryd.f106, Option.get!])
  simp only [zS, hX.T, hX.nt, reduceIte, Nat.reduceEqDiff, Nat.reduceLT, Nat.reduceLeDiff, Nat.reduceAdd, Nat.reduceSub, Nat.reduceBEq, reduceCtorEq, Int.reduceNeg, bs_nil, bs_beq, bs_size, bs_append]
  (refine hX.ret (by first | exact .inl rfl | exact .inr rfl) ?_; simp only [zR, zS, hX.T, hX.nt, reduceIte, Nat.reduceEqDiff, Nat.reduceLT, Nat.reduceLeDiff, Nat.reduceAdd, Nat.reduceSub, Nat.reduceBEq, reduceCtorEq, Int.reduceNeg] <;> try rfl)
def hitN (a : Alt) (f : Fld) : Bool := f.name == a.name
theorem p105 (fs : List Fld) (a : Alt) : PureFn Tryd.prog 105 [slF fs, .fn 106 [.rp (encA a)]] (I (idxP (hitN a) fs 0)) := by
  (refine PureFn.of_run ty_ok Tryd.func105 (c := Tryd.f105.body.get!) rfl (by decide) Tryd.ntmps105 (res := [.tmp 4]) Tryd.results105 (Nat.le_of_ble_eq_true rfl) ?_; intro X hX hR; refine vc_ok hX.ok hX.fn 1000 _ _ ?_; simp only [Tryd.f105, Option.get!])
  have hlen := hR.len (show AV.sl 6 false (fs.map encF) ∈ _ by simp [slF])
  rw [List.length_map] at hlen
  simp only [zS, hX.T, hX.nt, reduceIte, Nat.reduceEqDiff, Nat.reduceLT, Nat.reduceLeDiff, Nat.reduceAdd, Nat.reduceSub, Nat.reduceBEq, reduceCtorEq, Int.reduceNeg, bs_nil, bs_beq, bs_size, bs_append]
  refine Run.loop (α := Nat) (fun i => [(0, slF fs), (1, .fn 106 [.rp (encA a)]), (7, I fs.length), (8, I i)]) (fun _ => []) (fun i => i ≤ fs.length ∧ idxP (hitN a) (fs.drop i) i = idxP (hitN a) fs 0) (fun i => fs.length - i) 0 id ⟨Nat.zero_le _, rfl⟩ (.of hX.NL (by simp only [zS, hX.T, hX.nt, reduceIte, Nat.reduceEqDiff, Nat.reduceLT, Nat.reduceLeDiff, Nat.reduceAdd, Nat.reduceSub, Nat.reduceBEq, reduceCtorEq, Int.reduceNeg, bs_nil, bs_beq, bs_size, bs_append, ren, renL, renB] <;> rfl) rfl rfl) ?_
  intro i ⟨hi, hp⟩ ih
  refine hX.go ?_
  simp only [zS, hX.T, hX.nt, reduceIte, Nat.reduceEqDiff, Nat.reduceLT, Nat.reduceLeDiff, Nat.reduceAdd, Nat.reduceSub, Nat.reduceBEq, reduceCtorEq, Int.reduceNeg, bs_nil, bs_beq, bs_size, bs_append]
  refine bc_split (fun h => ?_) (fun h => ?_)
  · have h := of_decide_eq_true h
    have hlt : i < fs.length := by omega
    have hrow := row_nat encF fs i hlt
    rw [idxP_step hlt] at hp
    simp only [zS, hX.T, hX.nt, reduceIte, Nat.reduceEqDiff, Nat.reduceLT, Nat.reduceLeDiff, Nat.reduceAdd, Nat.reduceSub, Nat.reduceBEq, reduceCtorEq, Int.reduceNeg, bs_nil, bs_beq, bs_size, bs_append, h, Int.natCast_nonneg, hrow]
    refine hX.pure (p106 fs[i] a) rfl rfl (by decide) ?_
    simp only [zS, hX.T, hX.nt, reduceIte, Nat.reduceEqDiff, Nat.reduceLT, Nat.reduceLeDiff, Nat.reduceAdd, Nat.reduceSub, Nat.reduceBEq, reduceCtorEq, Int.reduceNeg, bs_nil, bs_beq, bs_size, bs_append]
    refine bc_split (fun h1 => ?_) (fun h1 => ?_)
    · simp only [zS, hX.T, hX.nt, reduceIte, Nat.reduceEqDiff, Nat.reduceLT, Nat.reduceLeDiff, Nat.reduceAdd, Nat.reduceSub, Nat.reduceBEq, reduceCtorEq, Int.reduceNeg, bs_nil, bs_beq, bs_size, bs_append]
      rw [if_pos (by simpa [hitN] using h1)] at hp
      (refine hX.ret (by first | exact .inl rfl | exact .inr rfl) ?_; simp only [zR, zS, hX.T, hX.nt, reduceIte, Nat.reduceEqDiff, Nat.reduceLT, Nat.reduceLeDiff, Nat.reduceAdd, Nat.reduceSub, Nat.reduceBEq, reduceCtorEq, Int.reduceNeg] <;> try rfl)
      rw [← hp]
    · simp only [zS, hX.T, hX.nt, reduceIte, Nat.reduceEqDiff, Nat.reduceLT, Nat.reduceLeDiff, Nat.reduceAdd, Nat.reduceSub, Nat.reduceBEq, reduceCtorEq, Int.reduceNeg, bs_nil, bs_beq, bs_size, bs_append]
      rw [if_neg (by simpa [hitN] using h1)] at hp
      refine ih (i + 1) id _ ⟨hlt, hp⟩ (by omega) (.of hX.NL (by simp only [zS, hX.T, hX.nt, reduceIte, Nat.reduceEqDiff, Nat.reduceLT, Nat.reduceLeDiff, Nat.reduceAdd, Nat.reduceSub, Nat.reduceBEq, reduceCtorEq, Int.reduceNeg, bs_nil, bs_beq, bs_size, bs_append, ren, renL, renB, wrap_succ hlt hlen] <;> rfl) rfl rfl)
  · have h := of_decide_eq_false h
    rw [idxP_end (by omega)] at hp
    simp only [zS, hX.T, hX.nt, reduceIte, Nat.reduceEqDiff, Nat.reduceLT, Nat.reduceLeDiff, Nat.reduceAdd, Nat.reduceSub, Nat.reduceBEq, reduceCtorEq, Int.reduceNeg, bs_nil, bs_beq, bs_size, bs_append]
    (refine hX.ret (by first | exact .inl rfl | exact .inr rfl) ?_; simp only [zR, zS, hX.T, hX.nt, reduceIte, Nat.reduceEqDiff, Nat.reduceLT, Nat.reduceLeDiff, Nat.reduceAdd, Nat.reduceSub, Nat.reduceBEq, reduceCtorEq, Int.reduceNeg] <;> try rfl)
    rw [← hp]
theorem del_rows {α : Type} {rows : List α} {z : α} {i : Nat} (h : i < rows.length) : (rows.take i ++ (rows.drop (i + 1)).take (rows.length - (i + 1)) ++ rows.drop (i + (rows.length - (i + 1)))).length = rows.length ∧
    ((rows.take i ++ (rows.drop (i + 1)).take (rows.length - (i + 1)) ++ rows.drop (i + (rows.length - (i + 1)))).take (i + (rows.length - (i + 1))) ++ List.replicate (rows.length - (i + (rows.length - (i + 1)))) z ++ (rows.take i ++ (rows.drop (i + 1)).take (rows.length - (i + 1)) ++ rows.drop (i + (rows.length - (i + 1)))).drop rows.length).take (i + (rows.length - (i + 1))) = rows.take i ++ rows.drop (i + 1) := by
  have e1 : (rows.drop (i + 1)).take (rows.length - (i + 1)) = rows.drop (i + 1) := List.take_of_length_le (by rw [List.length_drop]; exact Nat.le_refl _)
  rw [e1]
  have e2 : (rows.take i ++ rows.drop (i + 1)).length = i + (rows.length - (i + 1)) := by
    rw [List.length_append, List.length_take, List.length_drop]; omega
  refine ⟨by rw [List.length_append, e2, List.length_drop]; omega, ?_⟩
  rw [List.append_assoc, List.take_append_of_le_length (by rw [List.length_take, List.length_append, e2, List.length_drop]; omega), List.take_take, Nat.min_self, List.take_append_of_le_length (by rw [e2]; exact Nat.le_refl _), ← e2, List.take_length]
theorem appM_del {rows : List (List AV)} {i : Nat} (h : i < rows.length) : (appM rows i (i + 1) rows.length).length = rows.length := (del_rows (z := ([] : List AV)) h).1
def delR (rows : List (List AV)) (i : Nat) (z : List AV) : List (List AV) := (appM rows i (i + 1) rows.length).take (rows.length - 1) ++ List.replicate (rows.length - (rows.length - 1)) z ++ (appM rows i (i + 1) rows.length).drop rows.length
theorem delR_take {rows : List (List AV)} {i : Nat} {z : List AV} (h : i < rows.length) : (delR rows i z).take (rows.length - 1) = rows.take i ++ rows.drop (i + 1) := by
  have := (del_rows (z := z) h).2
  have e : i + (rows.length - (i + 1)) = rows.length - 1 := by omega
  rw [e] at this
  rw [← this, delR, appM, e]
theorem delR_len {rows : List (List AV)} {i : Nat} {z : List AV} (h : i < rows.length) : rows.length - 1 ≤ (delR rows i z).length ∧ 0 < (delR rows i z).length := by
  rw [delR, List.length_append, List.length_append, List.length_replicate, List.length_take, List.length_drop, appM_del h]
  omega
theorem p107 (rows : List (List AV)) (i : Nat) (hi : i < rows.length) : FnE Tryd.prog 107 [.ow 4095, I i, I ((i + 1 : Nat) : Int)] [(4095, .own 45 6 rows)] (.ow 4094) [(4094, .own 45 6 (rows.take i ++ rows.drop (i + 1)))] := by
  have i1 : (i : Int) ≤ ((i + 1 : Nat) : Int) := by omega
  have i2 : ((i + 1 : Nat) : Int) ≤ (rows.length : Int) := by omega
  have i3 : ((i : Int) == ((i + 1 : Nat) : Int)) = false := by simp only [beq_eq_false_iff_ne, ne_eq]; omega
  have i4 : 0 < rows.length := by omega
  have i5 : i + 1 ≤ rows.length := by omega
  have i6 : (i : Int) ≤ (rows.length : Int) := by omega
  have i7 : i ≤ i + 1 := Nat.le_succ i
  have i8 : i + (rows.length - (i + 1)) = rows.length - 1 := by omega
  have i9 : ((rows.length - 1 : Nat) : Int) ≤ (rows.length : Int) := by omega
  have ia : rows.length - 1 ≤ rows.length := by omega
  have ib : rows.length - 1 < rows.length := by omega
  have hlen := appM_del hi
  (refine FnE.of_run ty_ok Tryd.func107 (c := Tryd.f107.body.get!) rfl (by decide) Tryd.ntmps107 (res := [.tmp 6]) Tryd.results107 (Nat.le_of_ble_eq_true rfl) (by rfl) ?_; intro X hX hR; refine vc_ok hX.ok hX.fn 1000 _ _ ?_; simp only [Tryd.f107, Option.get!])
  simp only [zS, hX.T, hX.nt, reduceIte, Nat.reduceEqDiff, Nat.reduceLT, Nat.reduceLeDiff, Nat.reduceAdd, Nat.reduceSub, Nat.reduceBEq, reduceCtorEq, Int.reduceNeg, bs_nil, bs_beq, bs_size, bs_append, i1, i2, Int.le_refl, Int.natCast_nonneg, i3]
  refine hX.draw (by kernel_rfl) (by decide) ?_
  simp only [zS, hX.T, hX.nt, reduceIte, Nat.reduceEqDiff, Nat.reduceLT, Nat.reduceLeDiff, Nat.reduceAdd, Nat.reduceSub, Nat.reduceBEq, reduceCtorEq, Int.reduceNeg, bs_nil, bs_beq, bs_size, bs_append, i1, i2, i4, i5, i6, i7, hi, Int.le_refl, Int.natCast_nonneg, Int.toNat_natCast, Int.toNat_zero, Nat.zero_add, Nat.add_zero, Int.natCast_zero, Int.zero_add, Int.sub_zero, Nat.le_refl, i8]
  refine hX.gosN 9 (by rfl) ?_
  simp only [zS, hX.T, hX.nt, reduceIte, Nat.reduceEqDiff, Nat.reduceLT, Nat.reduceLeDiff, Nat.reduceAdd, Nat.reduceSub, Nat.reduceBEq, reduceCtorEq, Int.reduceNeg, bs_nil, bs_beq, bs_size, bs_append, i4, i8, i9, ia, ib, hlen, Int.le_refl, Int.natCast_nonneg, Int.toNat_natCast, Int.toNat_zero, Nat.zero_add, Nat.add_zero, Int.natCast_zero, Int.zero_add, Int.sub_zero, Nat.le_refl]
  refine Run.recut (t := 0) (n := 4095) (es := 6) (m := rows.length - 1) (n' := 100) (t' := 45) (rows := delR rows i [AV.v (.int .i64 0), .v (.int .i64 0), .v (.string (bs [])), .v (.int .i64 0), .v (.int .i64 0), .v (.string (bs []))]) (by simp only [zS, hX.T, hX.nt, reduceIte, Nat.reduceEqDiff, Nat.reduceLT, Nat.reduceLeDiff, Nat.reduceAdd, Nat.reduceSub, Nat.reduceBEq, reduceCtorEq, Int.reduceNeg, bs_nil, bs_beq, bs_size, bs_append]) (by simp only [zS, hX.T, hX.nt, reduceIte, Nat.reduceEqDiff, Nat.reduceLT, Nat.reduceLeDiff, Nat.reduceAdd, Nat.reduceSub, Nat.reduceBEq, reduceCtorEq, Int.reduceNeg, bs_nil, bs_beq, bs_size, bs_append, delR] <;> try rfl) (delR_len hi).1 (delR_len hi).2 (by simp only [zS, hX.T, hX.nt, reduceIte, Nat.reduceEqDiff, Nat.reduceLT, Nat.reduceLeDiff, Nat.reduceAdd, Nat.reduceSub, Nat.reduceBEq, reduceCtorEq, Int.reduceNeg, bs_nil, bs_beq, bs_size, bs_append]) ?_
  rw [delR_take hi]
  refine hX.go ?_
  simp only [zS, hX.T, hX.nt, reduceIte, Nat.reduceEqDiff, Nat.reduceLT, Nat.reduceLeDiff, Nat.reduceAdd, Nat.reduceSub, Nat.reduceBEq, reduceCtorEq, Int.reduceNeg, bs_nil, bs_beq, bs_size, bs_append]
  (refine hX.ret (by first | exact .inl rfl | exact .inr rfl) [(4094, 100)] (by simp only [zR, zS, hX.T, hX.nt, reduceIte, Nat.reduceEqDiff, Nat.reduceLT, Nat.reduceLeDiff, Nat.reduceAdd, Nat.reduceSub, Nat.reduceBEq, reduceCtorEq, Int.reduceNeg, bkOf, tb, Option.map_some] <;> try rfl) (by rfl) (by simp only [zR, zS, hX.T, hX.nt, reduceIte, Nat.reduceEqDiff, Nat.reduceLT, Nat.reduceLeDiff, Nat.reduceAdd, Nat.reduceSub, Nat.reduceBEq, reduceCtorEq, Int.reduceNeg, bkOf, tb, Option.map_some] <;> try rfl))
end Go.Proofs.YtkbidoikndgheaaDoor.HL

namespace Go.Proofs.YtkbidoikndgheaaDoor.HL
open Go.Proofs
set_option maxRecDepth 100000
set_option maxHeartbeats 4000000
theorem idxP_some {α : Type} {p : α → Bool} : ∀ {l : List α} {i : Int}, l.any p = true → ∃ j : Nat, ∃ hj : j < l.length, idxP p l i = i + (j : Int) ∧ p l[j] = true ∧ l.find? p = some l[j]
  | [], _, h => by simp at h
  | x :: l, i, h => by
    rw [idxP, List.find?_cons]
    cases hx : p x
    · have h' : l.any p = true := by simpa [hx] using h
      obtain ⟨j, hj, e1, e2, e3⟩ := idxP_some (i := i + 1) h'
      refine ⟨j + 1, by simpa using hj, ?_, by simpa using e2, by simpa using e3⟩
      simp only [Bool.false_eq_true, if_false, e1]
      omega
    · exact ⟨0, by simp, by simp, by simpa using hx, by simp⟩
theorem filterMap_id {α : Type} {g : α → Option α} : ∀ {l : List α}, (∀ x ∈ l, g x = some x) → l.filterMap g = l
  | [], _ => rfl
  | x :: l, h => by
    rw [List.filterMap_cons, h x (List.mem_cons_self ..), filterMap_id (fun y hy => h y (List.mem_cons_of_mem _ hy))]
structure Hit (s : Sch) (a : Alt) (j : Nat) (hj : j < s.fs.length) : Prop where
  idx : idxP (hitN a) s.fs 0 = (j : Int)
  name : s.fs[j].name = a.name
  find : findN s.fs a.name = some s.fs[j]
  fm : s.fs.filterMap (altF a) = s.fs.take j ++ (altF a s.fs[j]).toList ++ s.fs.drop (j + 1)
  right : rightV s.fs[j].d = true ∧ s.fs[j].d.k = s.fs[j].kind
theorem hit_of {s : Sch} {a : Alt} (h : checkA s a = 0) (h1 : a.op ≠ 1) : ∃ j hj, Hit s a j hj := by
  obtain ⟨hr, _, _, hru, _⟩ := checkA_zero h
  have hf : (findN s.fs a.name).isSome = true := by
    cases hfn : findN s.fs a.name with
    | none => simp [rule, h1, hfn] at hru
    | some f => rfl
  obtain ⟨f, hf⟩ := Option.isSome_iff_exists.1 hf
  obtain ⟨hm, hn⟩ := findN_some hf
  have hany : s.fs.any (hitN a) = true := List.any_eq_true.2 ⟨f, hm, by simp [hitN, hn]⟩
  obtain ⟨j, hj, e1, e2, e3⟩ := idxP_some (i := 0) hany
  have e2' : s.fs[j].name = a.name := by simpa [hitN] using e2
  refine ⟨j, hj, by rw [e1]; omega, e2', e3, ?_, ?_⟩
  · have hne : ∀ k (hk : k < s.fs.length), k ≠ j → altF a s.fs[k] = some s.fs[k] := by
      intro k hk hkj
      have : s.fs[k].name ≠ a.name := by
        intro e
        rcases Nat.lt_or_gt_of_ne hkj with hlt | hlt
        · exact List.pairwise_iff_getElem.1 hr.names k j hk hj hlt (by rw [e, e2'])
        · exact List.pairwise_iff_getElem.1 hr.names j k hj hk hlt (by rw [e, e2'])
      rw [altF, if_neg this]
    have hsp : s.fs = s.fs.take j ++ s.fs[j] :: s.fs.drop (j + 1) := by rw [← List.drop_eq_getElem_cons hj, List.take_append_drop]
    have ht : (s.fs.take j).filterMap (altF a) = s.fs.take j := filterMap_id (fun x hx => by
      obtain ⟨k, hk, rfl⟩ := List.mem_take_iff_getElem.1 hx
      exact hne k (by omega) (by omega))
    have hd : (s.fs.drop (j + 1)).filterMap (altF a) = s.fs.drop (j + 1) := filterMap_id (fun x hx => by
      obtain ⟨k, hk, rfl⟩ := List.mem_drop_iff_getElem.1 hx
      exact hne (j + 1 + k) (by omega) (by omega))
    conv => lhs; rw [hsp]
    rw [List.filterMap_append, ht, List.filterMap_cons, hd]
    cases altF a s.fs[j] <;> simp
  · have := hr.fs s.fs[j] (List.getElem_mem ..)
    rw [rightF_iff] at this
    exact ⟨this.2.2.2.1, this.2.2.2.2⟩
theorem set_tad {fs : List Fld} {j : Nat} (hj : j < fs.length) (g : Fld) : (fs.map encF).set j (encF g) = (fs.take j ++ [g] ++ fs.drop (j + 1)).map encF := by
  rw [← List.map_set, List.set_eq_take_append_cons_drop, if_pos hj]
  simp
theorem row_set {rows : List (List AV)} {r : List AV} {j : Nat} (h : j < rows.length) : row (rows.set j r) (j : Int) = r := by
  rw [row, Int.toNat_natCast, List.getD_eq_getElem?_getD, List.getElem?_set_self h]; rfl
theorem p67 (s : Sch) (a : Alt) : PureFn Tryd.prog 67 [.agg (encS s), .agg (encA a)] (.tup [.agg (encS (nextA s a).1), I (nextA s a).2]) := by
  have p := p103 s a
  by_cases hc : checkA s a = 0
  · obtain ⟨ho, hv, hv', hn, hn', hl⟩ := checkA_ok hc
    have hw1 : IntKind.i64.wrap (s.ver + 1) = s.ver + 1 := wrap_id (by omega) (by omega)
    have hw2 : IntKind.i64.wrap (s.next + 1) = s.next + 1 := wrap_id (by omega) (by omega)
    rw [nextA, if_neg (by simp [hc])]
    rw [hc] at p
    have q5 := p105 s.fs a
    rcases ho with ho | ho | ho | ho
    · (refine PureFn.of_run ty_ok Tryd.func67 (c := Tryd.f67.body.get!) rfl (by decide) Tryd.ntmps67 (res := [.cell 4 35, .tmp 5]) Tryd.results67 (Nat.le_of_ble_eq_true rfl) ?_; intro X hX hR; refine vc_ok hX.ok hX.fn 1000 _ _ ?_; simp only [Tryd.f67, Option.get!])
      simp only [zS, hX.T, hX.nt, reduceIte, Nat.reduceEqDiff, Nat.reduceLT, Nat.reduceLeDiff, Nat.reduceAdd, Nat.reduceSub, Nat.reduceBEq, reduceCtorEq, Int.reduceNeg, bs_nil, bs_beq, bs_size, bs_append]
      refine hX.pure p rfl rfl (by decide) ?_
      simp only [zS, hX.T, hX.nt, reduceIte, Nat.reduceEqDiff, Nat.reduceLT, Nat.reduceLeDiff, Nat.reduceAdd, Nat.reduceSub, Nat.reduceBEq, reduceCtorEq, Int.reduceNeg, bs_nil, bs_beq, bs_size, bs_append, wr0, wr1, wr2, wr3, wr4, wr5, wr6, wr7, wr8, wr9, wr10, wr11, wr12, Int.reduceBNe, Int.reduceGE, Int.reduceGT, Int.reduceBEq, Int.reduceLT, Int.reduceLE, Int.reduceEq, Int.reduceAdd, Int.reduceSub, decide_true, decide_false]
      refine hX.draw (by kernel_rfl) (by decide) ?_
      simp only [zS, hX.T, hX.nt, reduceIte, Nat.reduceEqDiff, Nat.reduceLT, Nat.reduceLeDiff, Nat.reduceAdd, Nat.reduceSub, Nat.reduceBEq, reduceCtorEq, Int.reduceNeg, bs_nil, bs_beq, bs_size, bs_append, hw1]
      refine hX.fnED (p104 s.fs hl) [(4094, 24)] rfl (fun p hp => by cases hp) (by rfl) (by decide) ?_
      simp only [zS, hX.T, hX.nt, reduceIte, Nat.reduceEqDiff, Nat.reduceLT, Nat.reduceLeDiff, Nat.reduceAdd, Nat.reduceSub, Nat.reduceBEq, reduceCtorEq, Int.reduceNeg, bs_nil, bs_beq, bs_size, bs_append, fnSt, fnEff, Eff.ap, apE, tb, ren, renL, renB, List.filter_cons, List.filter_nil]
      refine hX.gos (by rfl) ?_
      simp only [zS, hX.T, hX.nt, reduceIte, Nat.reduceEqDiff, Nat.reduceLT, Nat.reduceLeDiff, Nat.reduceAdd, Nat.reduceSub, Nat.reduceBEq, reduceCtorEq, Int.reduceNeg, bs_nil, bs_beq, bs_size, bs_append]
      refine hX.lend q5 (by simp only [zR, zS, hX.T, hX.nt, reduceIte, Nat.reduceEqDiff, Nat.reduceLT, Nat.reduceLeDiff, Nat.reduceAdd, Nat.reduceSub, Nat.reduceBEq, reduceCtorEq, Int.reduceNeg, nfL, nf, Bool.and_true, List.drop_zero] <;> rfl) rfl (by decide) ?_
      have hap : appOk (s.fs.length + 1) 64 = true := appOk64 (by omega)
      simp only [zS, hX.T, hX.nt, reduceIte, Nat.reduceEqDiff, Nat.reduceLT, Nat.reduceLeDiff, Nat.reduceAdd, Nat.reduceSub, Nat.reduceBEq, reduceCtorEq, Int.reduceNeg, bs_nil, bs_beq, bs_size, bs_append, ho, wr0, wr1, wr2, wr3, wr4, wr5, wr6, wr7, wr8, wr9, wr10, wr11, wr12, Int.reduceBNe, Int.reduceGE, Int.reduceGT, Int.reduceBEq, Int.reduceLT, Int.reduceLE, Int.reduceEq, Int.reduceAdd, Int.reduceSub, decide_true, decide_false, hap, hw2, List.length_append]
      (refine hX.ret (by first | exact .inl rfl | exact .inr rfl) ?_; simp only [zR, zS, hX.T, hX.nt, reduceIte, Nat.reduceEqDiff, Nat.reduceLT, Nat.reduceLeDiff, Nat.reduceAdd, Nat.reduceSub, Nat.reduceBEq, reduceCtorEq, Int.reduceNeg, altS, ho, Int.reduceEq, if_true, if_false, List.map_append] <;> try rfl)
    · obtain ⟨j, hj, hh⟩ := hit_of hc (by omega)
      rw [hh.idx] at q5
      have hwj : IntKind.i64.wrap ((j : Int) + 1) = ((j + 1 : Nat) : Int) := by rw [wrap_id (by omega) (by omega)]; rfl
      have hfm := hh.fm
      simp only [altF, hh.name, ho, if_true, Option.toList_none, List.append_nil] at hfm
      (refine PureFn.of_run ty_ok Tryd.func67 (c := Tryd.f67.body.get!) rfl (by decide) Tryd.ntmps67 (res := [.cell 4 35, .tmp 5]) Tryd.results67 (Nat.le_of_ble_eq_true rfl) ?_; intro X hX hR; refine vc_ok hX.ok hX.fn 1000 _ _ ?_; simp only [Tryd.f67, Option.get!])
      simp only [zS, hX.T, hX.nt, reduceIte, Nat.reduceEqDiff, Nat.reduceLT, Nat.reduceLeDiff, Nat.reduceAdd, Nat.reduceSub, Nat.reduceBEq, reduceCtorEq, Int.reduceNeg, bs_nil, bs_beq, bs_size, bs_append]
      refine hX.pure p rfl rfl (by decide) ?_
      simp only [zS, hX.T, hX.nt, reduceIte, Nat.reduceEqDiff, Nat.reduceLT, Nat.reduceLeDiff, Nat.reduceAdd, Nat.reduceSub, Nat.reduceBEq, reduceCtorEq, Int.reduceNeg, bs_nil, bs_beq, bs_size, bs_append, wr0, wr1, wr2, wr3, wr4, wr5, wr6, wr7, wr8, wr9, wr10, wr11, wr12, Int.reduceBNe, Int.reduceGE, Int.reduceGT, Int.reduceBEq, Int.reduceLT, Int.reduceLE, Int.reduceEq, Int.reduceAdd, Int.reduceSub, decide_true, decide_false]
      refine hX.draw (by kernel_rfl) (by decide) ?_
      simp only [zS, hX.T, hX.nt, reduceIte, Nat.reduceEqDiff, Nat.reduceLT, Nat.reduceLeDiff, Nat.reduceAdd, Nat.reduceSub, Nat.reduceBEq, reduceCtorEq, Int.reduceNeg, bs_nil, bs_beq, bs_size, bs_append, hw1]
      refine hX.fnED (p104 s.fs hl) [(4094, 24)] rfl (fun p hp => by cases hp) (by rfl) (by decide) ?_
      simp only [zS, hX.T, hX.nt, reduceIte, Nat.reduceEqDiff, Nat.reduceLT, Nat.reduceLeDiff, Nat.reduceAdd, Nat.reduceSub, Nat.reduceBEq, reduceCtorEq, Int.reduceNeg, bs_nil, bs_beq, bs_size, bs_append, fnSt, fnEff, Eff.ap, apE, tb, ren, renL, renB, List.filter_cons, List.filter_nil]
      refine hX.gos (by rfl) ?_
      simp only [zS, hX.T, hX.nt, reduceIte, Nat.reduceEqDiff, Nat.reduceLT, Nat.reduceLeDiff, Nat.reduceAdd, Nat.reduceSub, Nat.reduceBEq, reduceCtorEq, Int.reduceNeg, bs_nil, bs_beq, bs_size, bs_append]
      refine hX.lend q5 (by simp only [zR, zS, hX.T, hX.nt, reduceIte, Nat.reduceEqDiff, Nat.reduceLT, Nat.reduceLeDiff, Nat.reduceAdd, Nat.reduceSub, Nat.reduceBEq, reduceCtorEq, Int.reduceNeg, nfL, nf, Bool.and_true, List.drop_zero] <;> rfl) rfl (by decide) ?_
      simp only [zS, hX.T, hX.nt, reduceIte, Nat.reduceEqDiff, Nat.reduceLT, Nat.reduceLeDiff, Nat.reduceAdd, Nat.reduceSub, Nat.reduceBEq, reduceCtorEq, Int.reduceNeg, bs_nil, bs_beq, bs_size, bs_append, ho, wr0, wr1, wr2, wr3, wr4, wr5, wr6, wr7, wr8, wr9, wr10, wr11, wr12, Int.reduceBNe, Int.reduceGE, Int.reduceGT, Int.reduceBEq, Int.reduceLT, Int.reduceLE, Int.reduceEq, Int.reduceAdd, Int.reduceSub, decide_true, decide_false, hwj]
      refine hX.fnE (p107 (s.fs.map encF) j (by simpa using hj)) [(4095, 24), (4094, 59)] rfl (fun p hp => by
        simp only [List.mem_singleton] at hp
        subst hp
        simp only [zS, hX.T, hX.nt, reduceIte, Nat.reduceEqDiff, Nat.reduceLT, Nat.reduceLeDiff, Nat.reduceAdd, Nat.reduceSub, Nat.reduceBEq, reduceCtorEq, Int.reduceNeg, bs_nil, bs_beq, bs_size, bs_append, tb, renB] <;> rfl) (by rfl) (by decide) ?_
      simp only [zS, hX.T, hX.nt, reduceIte, Nat.reduceEqDiff, Nat.reduceLT, Nat.reduceLeDiff, Nat.reduceAdd, Nat.reduceSub, Nat.reduceBEq, reduceCtorEq, Int.reduceNeg, bs_nil, bs_beq, bs_size, bs_append, fnSt, fnEff, Eff.ap, apE, tb, ren, renL, renB, List.filter_cons, List.filter_nil]
      (refine hX.ret (by first | exact .inl rfl | exact .inr rfl) ?_; simp only [zR, zS, hX.T, hX.nt, reduceIte, Nat.reduceEqDiff, Nat.reduceLT, Nat.reduceLeDiff, Nat.reduceAdd, Nat.reduceSub, Nat.reduceBEq, reduceCtorEq, Int.reduceNeg, altS, ho, Int.reduceEq, if_true, if_false, hfm, List.map_append, List.map_take, List.map_drop] <;> try rfl)
    · obtain ⟨j, hj, hh⟩ := hit_of hc (by omega)
      rw [hh.idx] at q5
      have hfm := hh.fm
      simp only [altF, hh.name, ho, Int.reduceEq, if_false, if_true, Option.toList_some] at hfm
      have hrow := row_nat encF s.fs j hj
      have hjl : (j : Int) < (s.fs.length : Int) := by omega
      have hst := set_tad hj { s.fs[j] with name := a.to }
      (refine PureFn.of_run ty_ok Tryd.func67 (c := Tryd.f67.body.get!) rfl (by decide) Tryd.ntmps67 (res := [.cell 4 35, .tmp 5]) Tryd.results67 (Nat.le_of_ble_eq_true rfl) ?_; intro X hX hR; refine vc_ok hX.ok hX.fn 1000 _ _ ?_; simp only [Tryd.f67, Option.get!])
      simp only [zS, hX.T, hX.nt, reduceIte, Nat.reduceEqDiff, Nat.reduceLT, Nat.reduceLeDiff, Nat.reduceAdd, Nat.reduceSub, Nat.reduceBEq, reduceCtorEq, Int.reduceNeg, bs_nil, bs_beq, bs_size, bs_append]
      refine hX.pure p rfl rfl (by decide) ?_
      simp only [zS, hX.T, hX.nt, reduceIte, Nat.reduceEqDiff, Nat.reduceLT, Nat.reduceLeDiff, Nat.reduceAdd, Nat.reduceSub, Nat.reduceBEq, reduceCtorEq, Int.reduceNeg, bs_nil, bs_beq, bs_size, bs_append, wr0, wr1, wr2, wr3, wr4, wr5, wr6, wr7, wr8, wr9, wr10, wr11, wr12, Int.reduceBNe, Int.reduceGE, Int.reduceGT, Int.reduceBEq, Int.reduceLT, Int.reduceLE, Int.reduceEq, Int.reduceAdd, Int.reduceSub, decide_true, decide_false]
      refine hX.draw (by kernel_rfl) (by decide) ?_
      simp only [zS, hX.T, hX.nt, reduceIte, Nat.reduceEqDiff, Nat.reduceLT, Nat.reduceLeDiff, Nat.reduceAdd, Nat.reduceSub, Nat.reduceBEq, reduceCtorEq, Int.reduceNeg, bs_nil, bs_beq, bs_size, bs_append, hw1]
      refine hX.fnED (p104 s.fs hl) [(4094, 24)] rfl (fun p hp => by cases hp) (by rfl) (by decide) ?_
      simp only [zS, hX.T, hX.nt, reduceIte, Nat.reduceEqDiff, Nat.reduceLT, Nat.reduceLeDiff, Nat.reduceAdd, Nat.reduceSub, Nat.reduceBEq, reduceCtorEq, Int.reduceNeg, bs_nil, bs_beq, bs_size, bs_append, fnSt, fnEff, Eff.ap, apE, tb, ren, renL, renB, List.filter_cons, List.filter_nil]
      refine hX.gos (by rfl) ?_
      simp only [zS, hX.T, hX.nt, reduceIte, Nat.reduceEqDiff, Nat.reduceLT, Nat.reduceLeDiff, Nat.reduceAdd, Nat.reduceSub, Nat.reduceBEq, reduceCtorEq, Int.reduceNeg, bs_nil, bs_beq, bs_size, bs_append]
      refine hX.lend q5 (by simp only [zR, zS, hX.T, hX.nt, reduceIte, Nat.reduceEqDiff, Nat.reduceLT, Nat.reduceLeDiff, Nat.reduceAdd, Nat.reduceSub, Nat.reduceBEq, reduceCtorEq, Int.reduceNeg, nfL, nf, Bool.and_true, List.drop_zero] <;> rfl) rfl (by decide) ?_
      simp only [zS, hX.T, hX.nt, reduceIte, Nat.reduceEqDiff, Nat.reduceLT, Nat.reduceLeDiff, Nat.reduceAdd, Nat.reduceSub, Nat.reduceBEq, reduceCtorEq, Int.reduceNeg, bs_nil, bs_beq, bs_size, bs_append, ho, wr0, wr1, wr2, wr3, wr4, wr5, wr6, wr7, wr8, wr9, wr10, wr11, wr12, Int.reduceBNe, Int.reduceGE, Int.reduceGT, Int.reduceBEq, Int.reduceLT, Int.reduceLE, Int.reduceEq, Int.reduceAdd, Int.reduceSub, decide_true, decide_false, hjl, hrow, Int.natCast_nonneg, nfL, nf, Int.toNat_natCast, Nat.zero_add, hst]
      (refine hX.ret (by first | exact .inl rfl | exact .inr rfl) ?_; simp only [zR, zS, hX.T, hX.nt, reduceIte, Nat.reduceEqDiff, Nat.reduceLT, Nat.reduceLeDiff, Nat.reduceAdd, Nat.reduceSub, Nat.reduceBEq, reduceCtorEq, Int.reduceNeg, altS, ho, Int.reduceEq, if_true, if_false, hfm, and_true] <;> try rfl)
      exact congrArg (AV.sl 6 false) hst
    · obtain ⟨j, hj, hh⟩ := hit_of hc (by omega)
      rw [hh.idx] at q5
      have hfm := hh.fm
      simp only [altF, hh.name, ho, Int.reduceEq, if_false, if_true, Option.toList_some] at hfm
      have hrow := row_nat encF s.fs j hj
      have hjl : (j : Int) < (s.fs.length : Int) := by omega
      have hwid : widen s.fs[j].d a.kind = (⟨a.kind, s.fs[j].d.n, s.fs[j].d.s⟩, 0) := by
        obtain ⟨_, _, _, hru, _⟩ := checkA_zero hc
        have hb : below s.fs[j].kind a.kind = true := by
          simp only [rule, ho, hh.find, Int.reduceEq, if_false, true_and, false_and] at hru
          grind
        obtain ⟨g1, g2⟩ := hh.right
        have hk : kindOk a.kind = true := by
          rw [below_iff] at hb
          simp only [kindOk, Bool.and_eq_true, decide_eq_true_eq]
          omega
        rw [widen, if_neg (by simp [g1, hk]), if_neg (by rw [g2, hb]; decide)]
      have q6 := p100 s.fs[j].d a.kind
      rw [hwid] at q6
      have hst := set_tad hj ⟨s.fs[j].id, a.kind, a.name, ⟨a.kind, s.fs[j].d.n, s.fs[j].d.s⟩⟩
      have hrow1 := row_set (rows := s.fs.map encF) (r := [I s.fs[j].id, I a.kind, Str (bs s.fs[j].name), I s.fs[j].d.k, I s.fs[j].d.n, Str (bs s.fs[j].d.s)]) (j := j) (by simpa using hj)
      (refine PureFn.of_run ty_ok Tryd.func67 (c := Tryd.f67.body.get!) rfl (by decide) Tryd.ntmps67 (res := [.cell 4 35, .tmp 5]) Tryd.results67 (Nat.le_of_ble_eq_true rfl) ?_; intro X hX hR; refine vc_ok hX.ok hX.fn 1000 _ _ ?_; simp only [Tryd.f67, Option.get!])
      simp only [zS, hX.T, hX.nt, reduceIte, Nat.reduceEqDiff, Nat.reduceLT, Nat.reduceLeDiff, Nat.reduceAdd, Nat.reduceSub, Nat.reduceBEq, reduceCtorEq, Int.reduceNeg, bs_nil, bs_beq, bs_size, bs_append]
      refine hX.pure p rfl rfl (by decide) ?_
      simp only [zS, hX.T, hX.nt, reduceIte, Nat.reduceEqDiff, Nat.reduceLT, Nat.reduceLeDiff, Nat.reduceAdd, Nat.reduceSub, Nat.reduceBEq, reduceCtorEq, Int.reduceNeg, bs_nil, bs_beq, bs_size, bs_append, wr0, wr1, wr2, wr3, wr4, wr5, wr6, wr7, wr8, wr9, wr10, wr11, wr12, Int.reduceBNe, Int.reduceGE, Int.reduceGT, Int.reduceBEq, Int.reduceLT, Int.reduceLE, Int.reduceEq, Int.reduceAdd, Int.reduceSub, decide_true, decide_false]
      refine hX.draw (by kernel_rfl) (by decide) ?_
      simp only [zS, hX.T, hX.nt, reduceIte, Nat.reduceEqDiff, Nat.reduceLT, Nat.reduceLeDiff, Nat.reduceAdd, Nat.reduceSub, Nat.reduceBEq, reduceCtorEq, Int.reduceNeg, bs_nil, bs_beq, bs_size, bs_append, hw1]
      refine hX.fnED (p104 s.fs hl) [(4094, 24)] rfl (fun p hp => by cases hp) (by rfl) (by decide) ?_
      simp only [zS, hX.T, hX.nt, reduceIte, Nat.reduceEqDiff, Nat.reduceLT, Nat.reduceLeDiff, Nat.reduceAdd, Nat.reduceSub, Nat.reduceBEq, reduceCtorEq, Int.reduceNeg, bs_nil, bs_beq, bs_size, bs_append, fnSt, fnEff, Eff.ap, apE, tb, ren, renL, renB, List.filter_cons, List.filter_nil]
      refine hX.gos (by rfl) ?_
      simp only [zS, hX.T, hX.nt, reduceIte, Nat.reduceEqDiff, Nat.reduceLT, Nat.reduceLeDiff, Nat.reduceAdd, Nat.reduceSub, Nat.reduceBEq, reduceCtorEq, Int.reduceNeg, bs_nil, bs_beq, bs_size, bs_append]
      refine hX.lend q5 (by simp only [zR, zS, hX.T, hX.nt, reduceIte, Nat.reduceEqDiff, Nat.reduceLT, Nat.reduceLeDiff, Nat.reduceAdd, Nat.reduceSub, Nat.reduceBEq, reduceCtorEq, Int.reduceNeg, nfL, nf, Bool.and_true, List.drop_zero] <;> rfl) rfl (by decide) ?_
      simp only [zS, hX.T, hX.nt, reduceIte, Nat.reduceEqDiff, Nat.reduceLT, Nat.reduceLeDiff, Nat.reduceAdd, Nat.reduceSub, Nat.reduceBEq, reduceCtorEq, Int.reduceNeg, bs_nil, bs_beq, bs_size, bs_append, ho, wr0, wr1, wr2, wr3, wr4, wr5, wr6, wr7, wr8, wr9, wr10, wr11, wr12, Int.reduceBNe, Int.reduceGE, Int.reduceGT, Int.reduceBEq, Int.reduceLT, Int.reduceLE, Int.reduceEq, Int.reduceAdd, Int.reduceSub, decide_true, decide_false, hjl, hrow, Int.natCast_nonneg, nfL, nf, Int.toNat_natCast, Nat.zero_add]
      refine hX.draw (by kernel_rfl) (by decide) ?_
      simp only [zS, hX.T, hX.nt, reduceIte, Nat.reduceEqDiff, Nat.reduceLT, Nat.reduceLeDiff, Nat.reduceAdd, Nat.reduceSub, Nat.reduceBEq, reduceCtorEq, Int.reduceNeg, bs_nil, bs_beq, bs_size, bs_append, hjl, hrow1, Int.natCast_nonneg, nfL, nf, Int.toNat_natCast, Nat.zero_add, List.length_set]
      refine hX.pureD q6 rfl rfl (by decide) ?_
      simp only [zS, hX.T, hX.nt, reduceIte, Nat.reduceEqDiff, Nat.reduceLT, Nat.reduceLeDiff, Nat.reduceAdd, Nat.reduceSub, Nat.reduceBEq, reduceCtorEq, Int.reduceNeg, bs_nil, bs_beq, bs_size, bs_append, hjl, hrow1, Int.natCast_nonneg, nfL, nf, Int.toNat_natCast, Nat.zero_add, List.length_set, List.set_set]
      refine hX.gos (by rfl) ?_
      simp only [zS, hX.T, hX.nt, reduceIte, Nat.reduceEqDiff, Nat.reduceLT, Nat.reduceLeDiff, Nat.reduceAdd, Nat.reduceSub, Nat.reduceBEq, reduceCtorEq, Int.reduceNeg, bs_nil, bs_beq, bs_size, bs_append]
      (refine hX.ret (by first | exact .inl rfl | exact .inr rfl) ?_; simp only [zR, zS, hX.T, hX.nt, reduceIte, Nat.reduceEqDiff, Nat.reduceLT, Nat.reduceLeDiff, Nat.reduceAdd, Nat.reduceSub, Nat.reduceBEq, reduceCtorEq, Int.reduceNeg, altS, ho, Int.reduceEq, if_true, if_false, hfm, and_true] <;> try rfl)
      rw [hh.name]
      exact congrArg (AV.sl 6 false) hst
  · have hd : (checkA s a != 0) = true := by simp [hc]
    rw [nextA, if_pos hc]
    (refine PureFn.of_run ty_ok Tryd.func67 (c := Tryd.f67.body.get!) rfl (by decide) Tryd.ntmps67 (res := [.cell 4 35, .tmp 5]) Tryd.results67 (Nat.le_of_ble_eq_true rfl) ?_; intro X hX hR; refine vc_ok hX.ok hX.fn 1000 _ _ ?_; simp only [Tryd.f67, Option.get!])
    simp only [zS, hX.T, hX.nt, reduceIte, Nat.reduceEqDiff, Nat.reduceLT, Nat.reduceLeDiff, Nat.reduceAdd, Nat.reduceSub, Nat.reduceBEq, reduceCtorEq, Int.reduceNeg, bs_nil, bs_beq, bs_size, bs_append]
    refine hX.pure p rfl rfl (by decide) ?_
    simp only [zS, hX.T, hX.nt, reduceIte, Nat.reduceEqDiff, Nat.reduceLT, Nat.reduceLeDiff, Nat.reduceAdd, Nat.reduceSub, Nat.reduceBEq, reduceCtorEq, Int.reduceNeg, bs_nil, bs_beq, bs_size, bs_append, hd]
    (refine hX.retLe (by first | exact .inl rfl | exact .inr rfl) (r0 := .tup [.agg [I 0, I 0, .v (.slice none 0 0)], I (checkA s a)]) (by simp only [zR, zS, hX.T, hX.nt, reduceIte, Nat.reduceEqDiff, Nat.reduceLT, Nat.reduceLeDiff, Nat.reduceAdd, Nat.reduceSub, Nat.reduceBEq, reduceCtorEq, Int.reduceNeg] <;> try rfl) ?_)
    exact le_sch0 _
end Go.Proofs.YtkbidoikndgheaaDoor.HL

namespace Go.Proofs.YtkbidoikndgheaaDoor.HL
open Go.Proofs
set_option maxRecDepth 100000
set_option maxHeartbeats 4000000
theorem mset_find : ∀ (es : List (Int × AV)) (k : Int) (v : AV) (n : Int), (mset es k v).find? (fun p => p.1 == n) = if n = k then some (k, v) else es.find? (fun p => p.1 == n)
  | [], k, v, n => by
    by_cases h : n = k
    · simp [mset, h]
    · have h' : ¬ k = n := fun e => h e.symm
      simp [mset, h, h']
  | p :: ps, k, v, n => by
    rw [mset]
    by_cases hp : p.1 = k
    · rw [if_pos hp]
      by_cases h : n = k
      · simp [h]
      · have h' : ¬ k = n := fun e => h e.symm
        have h'' : ¬ p.1 = n := fun e => h (by rw [← e, hp])
        simp [List.find?_cons, h, h', h'']
    · rw [if_neg hp, List.find?_cons, mset_find ps k v n, List.find?_cons]
      by_cases h : n = k
      · subst h
        have hp' : (p.1 == n) = false := by simpa using hp
        simp [hp']
      · simp [h]
theorem mh_mset (es : List (Int × AV)) (k : Int) (v : AV) (n : Int) : mh (mset es k v) n = (decide (n = k) || mh es n) := by
  rw [mh, mset_find, mh]
  by_cases h : n = k <;> simp [h]
theorem mg_mset (es : List (Int × AV)) (k : Int) (v : AV) (n : Int) (z : AV) : mg (mset es k v) n z = if n = k then v else mg es n z := by
  rw [mg, mset_find, mg]
  by_cases h : n = k <;> simp [h]
/-- A map of a row's values by the fields' numbers. -/
def MapOf (fs : List Fld) (l : List Val) (es : List (Int × AV)) : Prop := ∀ n z, (valOf fs l n = none → mh es n = false ∧ mg es n z = z) ∧ ∀ v, valOf fs l n = some v → mh es n = true ∧ mg es n z = .agg (encV v)
theorem valOf_snoc : ∀ {fs : List Fld} {l : List Val} {f : Fld} {v : Val} {n : Int}, l.length = fs.length → valOf (fs ++ [f]) (l ++ [v]) n = match valOf fs l n with | some x => some x | none => if f.id = n then some v else none
  | [], [], f, v, n, _ => by simp [valOf]
  | [], _ :: _, _, _, _, h => by simp at h
  | _ :: _, [], _, _, _, h => by simp at h
  | g :: fs, x :: l, f, v, n, h => by
    simp only [List.cons_append, valOf]
    by_cases hg : g.id = n
    · simp [hg]
    · simp only [hg, if_false]
      exact valOf_snoc (by simpa using h)
theorem MapOf.nil : MapOf [] [] [] := fun n z => ⟨fun _ => ⟨rfl, rfl⟩, fun v h => by cases h⟩
theorem MapOf.snoc {fs : List Fld} {l : List Val} {es : List (Int × AV)} {f : Fld} {v : Val} (h : MapOf fs l es) (hl : l.length = fs.length) (hd : ∀ g ∈ fs, g.id ≠ f.id) : MapOf (fs ++ [f]) (l ++ [v]) (mset es f.id (.agg (encV v))) := by
  intro n z
  rw [valOf_snoc hl, mh_mset, mg_mset]
  have h0 := h n z
  cases hv : valOf fs l n with
  | none =>
    obtain ⟨e1, e2⟩ := h0.1 hv
    by_cases hn : f.id = n
    · simp [hn]
    · have hn' : ¬ n = f.id := fun e => hn e.symm
      simp [hn, hn', e1, e2]
  | some x =>
    obtain ⟨e1, e2⟩ := h0.2 x hv
    have hn' : ¬ n = f.id := by
      intro e
      subst e
      have := valOf_none' (vs := l) hd
      rw [hv] at this
      cases this
    simp [hn', e1, e2]
theorem widen_self {g : Fld} {n : Int} (h : rightF g n = true) : widen g.d g.kind = (g.d, 0) := by
  rw [rightF_iff] at h
  obtain ⟨_, _, _, h4, h5⟩ := h
  have hk := rightV_kind h4
  rw [← h5, widen, if_neg (by simp [h4, hk]), if_neg (by rw [below_refl hk]; decide)]
theorem p62 (s t : Sch) (l : List Val) : PureFn Tryd.prog 62 [.agg (encS s), .agg (encS t), slV l] (.tup [slV (rowA s t l).1, I (rowA s t l).2]) := by
  have q1 := p44 s
  have q2 := p44 t
  have q3 := p45 s l
  by_cases h0 : rightS s = false ∨ rightS t = false
  · rw [rowA, if_pos h0]
    (refine PureFn.of_run ty_ok Tryd.func62 (c := Tryd.f62.body.get!) rfl (by decide) Tryd.ntmps62 (res := [.tmp 6, .tmp 7]) Tryd.results62 (Nat.le_of_ble_eq_true rfl) ?_; intro X hX hR; refine vc_ok hX.ok hX.fn 1000 _ _ ?_; simp only [Tryd.f62, Option.get!])
    simp only [zS, hX.T, hX.nt, reduceIte, Nat.reduceEqDiff, Nat.reduceLT, Nat.reduceLeDiff, Nat.reduceAdd, Nat.reduceSub, Nat.reduceBEq, reduceCtorEq, Int.reduceNeg, bs_nil, bs_beq, bs_size, bs_append]
    repeat' first | (refine bc_split (fun h => ?_) (fun h => ?_) <;> simp only [zS, hX.T, hX.nt, reduceIte, Nat.reduceEqDiff, Nat.reduceLT, Nat.reduceLeDiff, Nat.reduceAdd, Nat.reduceSub, Nat.reduceBEq, reduceCtorEq, Int.reduceNeg, bs_nil, bs_beq, bs_size, bs_append, zS, h]) | (refine bg_split (fun h => ?_) (fun h => ?_) <;> simp only [zS, hX.T, hX.nt, reduceIte, Nat.reduceEqDiff, Nat.reduceLT, Nat.reduceLeDiff, Nat.reduceAdd, Nat.reduceSub, Nat.reduceBEq, reduceCtorEq, Int.reduceNeg, bs_nil, bs_beq, bs_size, bs_append, zS, h]) | (refine pb_split (fun h => ?_) (fun h => ?_) <;> simp only [zS, hX.T, hX.nt, reduceIte, Nat.reduceEqDiff, Nat.reduceLT, Nat.reduceLeDiff, Nat.reduceAdd, Nat.reduceSub, Nat.reduceBEq, reduceCtorEq, Int.reduceNeg, bs_nil, bs_beq, bs_size, bs_append, zS, h]) | (refine hX.gos (by rfl) ?_; simp only [zS, hX.T, hX.nt, reduceIte, Nat.reduceEqDiff, Nat.reduceLT, Nat.reduceLeDiff, Nat.reduceAdd, Nat.reduceSub, Nat.reduceBEq, reduceCtorEq, Int.reduceNeg, bs_nil, bs_beq, bs_size, bs_append, zS]) | (refine hX.pure (q1) rfl rfl (by decide) ?_; simp only [zS, hX.T, hX.nt, reduceIte, Nat.reduceEqDiff, Nat.reduceLT, Nat.reduceLeDiff, Nat.reduceAdd, Nat.reduceSub, Nat.reduceBEq, reduceCtorEq, Int.reduceNeg, bs_nil, bs_beq, bs_size, bs_append, zS]) | (refine hX.pureD (q1) rfl rfl (by decide) ?_; simp only [zS, hX.T, hX.nt, reduceIte, Nat.reduceEqDiff, Nat.reduceLT, Nat.reduceLeDiff, Nat.reduceAdd, Nat.reduceSub, Nat.reduceBEq, reduceCtorEq, Int.reduceNeg, bs_nil, bs_beq, bs_size, bs_append, zS]) | (refine hX.pure (q2) rfl rfl (by decide) ?_; simp only [zS, hX.T, hX.nt, reduceIte, Nat.reduceEqDiff, Nat.reduceLT, Nat.reduceLeDiff, Nat.reduceAdd, Nat.reduceSub, Nat.reduceBEq, reduceCtorEq, Int.reduceNeg, bs_nil, bs_beq, bs_size, bs_append, zS]) | (refine hX.pureD (q2) rfl rfl (by decide) ?_; simp only [zS, hX.T, hX.nt, reduceIte, Nat.reduceEqDiff, Nat.reduceLT, Nat.reduceLeDiff, Nat.reduceAdd, Nat.reduceSub, Nat.reduceBEq, reduceCtorEq, Int.reduceNeg, bs_nil, bs_beq, bs_size, bs_append, zS])
    all_goals first
      | (exfalso; clear hX hR q1 q2 q3; grind)
      | ((refine hX.retLe (by first | exact .inl rfl | exact .inr rfl) (r0 := .tup [.v (.slice none 0 0), I 1]) (by simp only [zR, zS, hX.T, hX.nt, reduceIte, Nat.reduceEqDiff, Nat.reduceLT, Nat.reduceLeDiff, Nat.reduceAdd, Nat.reduceSub, Nat.reduceBEq, reduceCtorEq, Int.reduceNeg] <;> try rfl) ?_); exact le_rw 1)
  · have r1 : rightS s = true := by simpa using fun e => h0 (.inl e)
    have r2 : rightS t = true := by simpa using fun e => h0 (.inr e)
    rw [rowA, if_neg h0]
    rw [r1] at q1
    rw [r2] at q2
    obtain ⟨hl1, hl2⟩ := rightS_len r2
    obtain ⟨hm1, hm2⟩ := rightS_len r1
    have hRs := rightS_iff.1 r1
    have hRt := rightS_iff.1 r2
    by_cases hf : fits s.fs l = 0
    · rw [if_neg (by simp [hf])]
      rw [hf] at q3
      have hll := fits_len hf
      (refine PureFn.of_run ty_ok Tryd.func62 (c := Tryd.f62.body.get!) rfl (by decide) Tryd.ntmps62 (res := [.tmp 6, .tmp 7]) Tryd.results62 (Nat.le_of_ble_eq_true rfl) ?_; intro X hX hR; refine vc_ok hX.ok hX.fn 1000 _ _ ?_; simp only [Tryd.f62, Option.get!])
      simp only [zS, hX.T, hX.nt, reduceIte, Nat.reduceEqDiff, Nat.reduceLT, Nat.reduceLeDiff, Nat.reduceAdd, Nat.reduceSub, Nat.reduceBEq, reduceCtorEq, Int.reduceNeg, bs_nil, bs_beq, bs_size, bs_append]
      refine hX.pure q1 rfl rfl (by decide) ?_
      simp only [zS, hX.T, hX.nt, reduceIte, Nat.reduceEqDiff, Nat.reduceLT, Nat.reduceLeDiff, Nat.reduceAdd, Nat.reduceSub, Nat.reduceBEq, reduceCtorEq, Int.reduceNeg, bs_nil, bs_beq, bs_size, bs_append]
      refine hX.pure q2 rfl rfl (by decide) ?_
      simp only [zS, hX.T, hX.nt, reduceIte, Nat.reduceEqDiff, Nat.reduceLT, Nat.reduceLeDiff, Nat.reduceAdd, Nat.reduceSub, Nat.reduceBEq, reduceCtorEq, Int.reduceNeg, bs_nil, bs_beq, bs_size, bs_append]
      refine hX.pure q3 rfl rfl (by decide) ?_
      simp only [zS, hX.T, hX.nt, reduceIte, Nat.reduceEqDiff, Nat.reduceLT, Nat.reduceLeDiff, Nat.reduceAdd, Nat.reduceSub, Nat.reduceBEq, reduceCtorEq, Int.reduceNeg, bs_nil, bs_beq, bs_size, bs_append, wr0, wr1, wr2, wr3, wr4, wr5, wr6, wr7, wr8, wr9, wr10, wr11, wr12, Int.reduceBNe, Int.reduceGE, Int.reduceGT, Int.reduceBEq, Int.reduceLT, Int.reduceLE, Int.reduceEq, Int.reduceAdd, Int.reduceSub, decide_true, decide_false]
      refine Run.loop (α := Nat × List (Int × AV)) (fun p => [(2, slV l), (3, .pt 3 0), (4, .pt 4 0), (9, .ow 33), (35, slF s.fs), (36, I s.fs.length), (37, I p.1)]) (fun p => [(3, .box 35 (encS s)), (4, .box 35 (encS t)), (33, .mp p.2)]) (fun p => p.1 ≤ s.fs.length ∧ MapOf (s.fs.take p.1) (l.take p.1) p.2) (fun p => s.fs.length - p.1) (0, []) id ⟨Nat.zero_le _, MapOf.nil⟩ (.of hX.NL (by simp only [zS, hX.T, hX.nt, reduceIte, Nat.reduceEqDiff, Nat.reduceLT, Nat.reduceLeDiff, Nat.reduceAdd, Nat.reduceSub, Nat.reduceBEq, reduceCtorEq, Int.reduceNeg, bs_nil, bs_beq, bs_size, bs_append, ren, renL, renB] <;> rfl) (by simp only [zS, hX.T, hX.nt, reduceIte, Nat.reduceEqDiff, Nat.reduceLT, Nat.reduceLeDiff, Nat.reduceAdd, Nat.reduceSub, Nat.reduceBEq, reduceCtorEq, Int.reduceNeg, bs_nil, bs_beq, bs_size, bs_append, ren, renL, renB] <;> rfl) rfl) ?_
      intro ⟨i, es⟩ ⟨hi, hm⟩ ih
      simp only at hi hm
      refine hX.go ?_
      simp only [zS, hX.T, hX.nt, reduceIte, Nat.reduceEqDiff, Nat.reduceLT, Nat.reduceLeDiff, Nat.reduceAdd, Nat.reduceSub, Nat.reduceBEq, reduceCtorEq, Int.reduceNeg, bs_nil, bs_beq, bs_size, bs_append]
      refine bc_split (fun h => ?_) (fun h => ?_)
      · have h := of_decide_eq_true h
        have hlt : i < s.fs.length := by omega
        have hlv : i < l.length := by omega
        have hlv' : (i : Int) < (l.length : Int) := by omega
        have hlen : s.fs.length ≤ 9223372036854775807 := by omega
        have hrow := row_nat encF s.fs i hlt
        have hrv := row_nat encV l i hlv
        simp only [zS, hX.T, hX.nt, reduceIte, Nat.reduceEqDiff, Nat.reduceLT, Nat.reduceLeDiff, Nat.reduceAdd, Nat.reduceSub, Nat.reduceBEq, reduceCtorEq, Int.reduceNeg, bs_nil, bs_beq, bs_size, bs_append, h, Int.natCast_nonneg, hrow]
        refine hX.draw (by kernel_rfl) (by decide) ?_
        simp only [zS, hX.T, hX.nt, reduceIte, Nat.reduceEqDiff, Nat.reduceLT, Nat.reduceLeDiff, Nat.reduceAdd, Nat.reduceSub, Nat.reduceBEq, reduceCtorEq, Int.reduceNeg, bs_nil, bs_beq, bs_size, bs_append, hlv', Int.natCast_nonneg, hrv, nf, nfL]
        refine hX.gos (by rfl) ?_
        simp only [zS, hX.T, hX.nt, reduceIte, Nat.reduceEqDiff, Nat.reduceLT, Nat.reduceLeDiff, Nat.reduceAdd, Nat.reduceSub, Nat.reduceBEq, reduceCtorEq, Int.reduceNeg, bs_nil, bs_beq, bs_size, bs_append]
        refine ih (i + 1, mset es s.fs[i].id (.agg (encV l[i]))) id _ ⟨hlt, ?_⟩ (by simp only; omega) (.of hX.NL (by simp only [zS, hX.T, hX.nt, reduceIte, Nat.reduceEqDiff, Nat.reduceLT, Nat.reduceLeDiff, Nat.reduceAdd, Nat.reduceSub, Nat.reduceBEq, reduceCtorEq, Int.reduceNeg, bs_nil, bs_beq, bs_size, bs_append, ren, renL, renB, wrap_succ hlt hlen] <;> rfl) (by simp only [zS, hX.T, hX.nt, reduceIte, Nat.reduceEqDiff, Nat.reduceLT, Nat.reduceLeDiff, Nat.reduceAdd, Nat.reduceSub, Nat.reduceBEq, reduceCtorEq, Int.reduceNeg, bs_nil, bs_beq, bs_size, bs_append, ren, renL, renB] <;> rfl) rfl)
        simp only [List.take_succ_eq_append_getElem hlt, List.take_succ_eq_append_getElem hlv]
        refine hm.snoc (by rw [List.length_take, List.length_take]; omega) (fun g hg => ?_)
        obtain ⟨k, hk, rfl⟩ := List.mem_take_iff_getElem.1 hg
        exact List.pairwise_iff_getElem.1 hRs.ids k i (by omega) hlt (by omega)
      · have h := of_decide_eq_false h
        rw [List.take_of_length_le (by omega), List.take_of_length_le (by omega)] at hm
        simp only [zS, hX.T, hX.nt, reduceIte, Nat.reduceEqDiff, Nat.reduceLT, Nat.reduceLeDiff, Nat.reduceAdd, Nat.reduceSub, Nat.reduceBEq, reduceCtorEq, Int.reduceNeg, bs_nil, bs_beq, bs_size, bs_append]
        refine Run.adopt (t := 12) (n := 100) (ty := 43) (es := 3) (by simp only [zS, hX.T, hX.nt, reduceIte, Nat.reduceEqDiff, Nat.reduceLT, Nat.reduceLeDiff, Nat.reduceAdd, Nat.reduceSub, Nat.reduceBEq, reduceCtorEq, Int.reduceNeg, bs_nil, bs_beq, bs_size, bs_append]) (by simp only [zS, hX.T, hX.nt, reduceIte, Nat.reduceEqDiff, Nat.reduceLT, Nat.reduceLeDiff, Nat.reduceAdd, Nat.reduceSub, Nat.reduceBEq, reduceCtorEq, Int.reduceNeg, bs_nil, bs_beq, bs_size, bs_append]) ?_
        refine Run.loop (α := Nat × List Val) (fun p => [(9, .ow 33), (12, .ow 100), (51, slF t.fs), (52, I t.fs.length), (53, I p.1)]) (fun p => [(33, .mp es), (100, .own 43 3 (p.2.map encV))]) (fun p => p.1 ≤ t.fs.length ∧ p.2.length = p.1 ∧ rowL s.fs l t.fs = (rowL s.fs l (t.fs.drop p.1)).map (p.2 ++ ·)) (fun p => t.fs.length - p.1) (0, []) id ⟨Nat.zero_le _, rfl, by simp⟩ (.of hX.NL (by simp only [zS, hX.T, hX.nt, reduceIte, Nat.reduceEqDiff, Nat.reduceLT, Nat.reduceLeDiff, Nat.reduceAdd, Nat.reduceSub, Nat.reduceBEq, reduceCtorEq, Int.reduceNeg, bs_nil, bs_beq, bs_size, bs_append, ren, renL, renB] <;> rfl) (by simp only [zS, hX.T, hX.nt, reduceIte, Nat.reduceEqDiff, Nat.reduceLT, Nat.reduceLeDiff, Nat.reduceAdd, Nat.reduceSub, Nat.reduceBEq, reduceCtorEq, Int.reduceNeg, bs_nil, bs_beq, bs_size, bs_append, ren, renL, renB] <;> rfl) rfl) ?_
        intro ⟨i, r⟩ ⟨hi, hrl, hn⟩ ih2
        simp only at hi hrl hn
        refine hX.go ?_
        simp only [zS, hX.T, hX.nt, reduceIte, Nat.reduceEqDiff, Nat.reduceLT, Nat.reduceLeDiff, Nat.reduceAdd, Nat.reduceSub, Nat.reduceBEq, reduceCtorEq, Int.reduceNeg, bs_nil, bs_beq, bs_size, bs_append]
        refine bc_split (fun h => ?_) (fun h => ?_)
        · have h := of_decide_eq_true h
          have hlt : i < t.fs.length := by omega
          have hlen : t.fs.length ≤ 9223372036854775807 := by omega
          have hrow := row_nat encF t.fs i hlt
          have hap : appOk (r.length + 1) 32 = true := appOk32 (by omega)
          rw [rowL_step hlt] at hn
          cases hv : valOf s.fs l t.fs[i].id with
          | none =>
            obtain ⟨e1, e2⟩ := (hm t.fs[i].id (.agg [I 0, I 0, Str (bs [])])).1 hv
            rw [hv] at hn
            have q4 := p100 t.fs[i].d t.fs[i].kind
            rw [widen_self (hRt.fs _ (List.getElem_mem hlt))] at q4
            simp only [zS, hX.T, hX.nt, reduceIte, Nat.reduceEqDiff, Nat.reduceLT, Nat.reduceLeDiff, Nat.reduceAdd, Nat.reduceSub, Nat.reduceBEq, reduceCtorEq, Int.reduceNeg, bs_nil, bs_beq, bs_size, bs_append, h, Int.natCast_nonneg, hrow, e1, e2]
            refine hX.pure q4 rfl rfl (by decide) ?_
            simp only [zS, hX.T, hX.nt, reduceIte, Nat.reduceEqDiff, Nat.reduceLT, Nat.reduceLeDiff, Nat.reduceAdd, Nat.reduceSub, Nat.reduceBEq, reduceCtorEq, Int.reduceNeg, bs_nil, bs_beq, bs_size, bs_append, hap, List.length_append, wr0, wr1, wr2, wr3, wr4, wr5, wr6, wr7, wr8, wr9, wr10, wr11, wr12, Int.reduceBNe, Int.reduceGE, Int.reduceGT, Int.reduceBEq, Int.reduceLT, Int.reduceLE, Int.reduceEq, Int.reduceAdd, Int.reduceSub, decide_true, decide_false]
            refine ih2 (i + 1, r ++ [t.fs[i].d]) (mv 100 80) _ ⟨hlt, by simp [hrl], by rw [hn]; cases rowL s.fs l (t.fs.drop (i + 1)) <;> simp⟩ (by simp only; omega) (.of hX.NL (by simp only [zS, hX.T, hX.nt, reduceIte, Nat.reduceEqDiff, Nat.reduceLT, Nat.reduceLeDiff, Nat.reduceAdd, Nat.reduceSub, Nat.reduceBEq, reduceCtorEq, Int.reduceNeg, bs_nil, bs_beq, bs_size, bs_append, ren, renL, renB, wrap_succ hlt hlen] <;> rfl) (by simp only [zS, hX.T, hX.nt, reduceIte, Nat.reduceEqDiff, Nat.reduceLT, Nat.reduceLeDiff, Nat.reduceAdd, Nat.reduceSub, Nat.reduceBEq, reduceCtorEq, Int.reduceNeg, bs_nil, bs_beq, bs_size, bs_append, ren, renL, renB, List.map_append] <;> rfl) rfl)
          | some v =>
            obtain ⟨e1, e2⟩ := (hm t.fs[i].id (.agg [I 0, I 0, Str (bs [])])).2 v hv
            rw [hv] at hn
            simp only [zS, hX.T, hX.nt, reduceIte, Nat.reduceEqDiff, Nat.reduceLT, Nat.reduceLeDiff, Nat.reduceAdd, Nat.reduceSub, Nat.reduceBEq, reduceCtorEq, Int.reduceNeg, bs_nil, bs_beq, bs_size, bs_append, h, Int.natCast_nonneg, hrow, e1, e2]
            refine hX.pure (p100 v t.fs[i].kind) rfl rfl (by decide) ?_
            simp only [zS, hX.T, hX.nt, reduceIte, Nat.reduceEqDiff, Nat.reduceLT, Nat.reduceLeDiff, Nat.reduceAdd, Nat.reduceSub, Nat.reduceBEq, reduceCtorEq, Int.reduceNeg, bs_nil, bs_beq, bs_size, bs_append]
            refine bc_split (fun h3 => ?_) (fun h3 => ?_)
            · have h3 : (widen v t.fs[i].kind).2 ≠ 0 := by simpa using h3
              simp only [if_pos h3] at hn
              rw [hn] at hX
              simp only [zS, hX.T, hX.nt, reduceIte, Nat.reduceEqDiff, Nat.reduceLT, Nat.reduceLeDiff, Nat.reduceAdd, Nat.reduceSub, Nat.reduceBEq, reduceCtorEq, Int.reduceNeg, bs_nil, bs_beq, bs_size, bs_append]
              (refine hX.retLe (by first | exact .inl rfl | exact .inr rfl) (r0 := .tup [.v (.slice none 0 0), I 14]) (by simp only [zR, zS, hX.T, hX.nt, reduceIte, Nat.reduceEqDiff, Nat.reduceLT, Nat.reduceLeDiff, Nat.reduceAdd, Nat.reduceSub, Nat.reduceBEq, reduceCtorEq, Int.reduceNeg] <;> try rfl) ?_)
              exact le_rw 14
            · have h3 : ¬ (widen v t.fs[i].kind).2 ≠ 0 := by simpa using h3
              simp only [if_neg h3] at hn
              simp only [zS, hX.T, hX.nt, reduceIte, Nat.reduceEqDiff, Nat.reduceLT, Nat.reduceLeDiff, Nat.reduceAdd, Nat.reduceSub, Nat.reduceBEq, reduceCtorEq, Int.reduceNeg, bs_nil, bs_beq, bs_size, bs_append, hap, List.length_append]
              refine ih2 (i + 1, r ++ [(widen v t.fs[i].kind).1]) (mv 100 80) _ ⟨hlt, by simp [hrl], by rw [hn]; cases rowL s.fs l (t.fs.drop (i + 1)) <;> simp⟩ (by simp only; omega) (.of hX.NL (by simp only [zS, hX.T, hX.nt, reduceIte, Nat.reduceEqDiff, Nat.reduceLT, Nat.reduceLeDiff, Nat.reduceAdd, Nat.reduceSub, Nat.reduceBEq, reduceCtorEq, Int.reduceNeg, bs_nil, bs_beq, bs_size, bs_append, ren, renL, renB, wrap_succ hlt hlen] <;> rfl) (by simp only [zS, hX.T, hX.nt, reduceIte, Nat.reduceEqDiff, Nat.reduceLT, Nat.reduceLeDiff, Nat.reduceAdd, Nat.reduceSub, Nat.reduceBEq, reduceCtorEq, Int.reduceNeg, bs_nil, bs_beq, bs_size, bs_append, ren, renL, renB, List.map_append] <;> rfl) rfl)
        · have h := of_decide_eq_false h
          rw [rowL_end (by omega)] at hn
          rw [hn] at hX
          simp only [zS, hX.T, hX.nt, reduceIte, Nat.reduceEqDiff, Nat.reduceLT, Nat.reduceLeDiff, Nat.reduceAdd, Nat.reduceSub, Nat.reduceBEq, reduceCtorEq, Int.reduceNeg, bs_nil, bs_beq, bs_size, bs_append]
          (refine hX.ret (by first | exact .inl rfl | exact .inr rfl) ?_; simp only [zR, zS, hX.T, hX.nt, reduceIte, Nat.reduceEqDiff, Nat.reduceLT, Nat.reduceLeDiff, Nat.reduceAdd, Nat.reduceSub, Nat.reduceBEq, reduceCtorEq, Int.reduceNeg, List.append_nil, Option.map_some] <;> try rfl)
    · have hd : (fits s.fs l != 0) = true := by simp [hf]
      rw [if_pos hf]
      (refine PureFn.of_run ty_ok Tryd.func62 (c := Tryd.f62.body.get!) rfl (by decide) Tryd.ntmps62 (res := [.tmp 6, .tmp 7]) Tryd.results62 (Nat.le_of_ble_eq_true rfl) ?_; intro X hX hR; refine vc_ok hX.ok hX.fn 1000 _ _ ?_; simp only [Tryd.f62, Option.get!])
      simp only [zS, hX.T, hX.nt, reduceIte, Nat.reduceEqDiff, Nat.reduceLT, Nat.reduceLeDiff, Nat.reduceAdd, Nat.reduceSub, Nat.reduceBEq, reduceCtorEq, Int.reduceNeg, bs_nil, bs_beq, bs_size, bs_append]
      refine hX.pure q1 rfl rfl (by decide) ?_
      simp only [zS, hX.T, hX.nt, reduceIte, Nat.reduceEqDiff, Nat.reduceLT, Nat.reduceLeDiff, Nat.reduceAdd, Nat.reduceSub, Nat.reduceBEq, reduceCtorEq, Int.reduceNeg, bs_nil, bs_beq, bs_size, bs_append]
      refine hX.pure q2 rfl rfl (by decide) ?_
      simp only [zS, hX.T, hX.nt, reduceIte, Nat.reduceEqDiff, Nat.reduceLT, Nat.reduceLeDiff, Nat.reduceAdd, Nat.reduceSub, Nat.reduceBEq, reduceCtorEq, Int.reduceNeg, bs_nil, bs_beq, bs_size, bs_append]
      refine hX.pure q3 rfl rfl (by decide) ?_
      simp only [zS, hX.T, hX.nt, reduceIte, Nat.reduceEqDiff, Nat.reduceLT, Nat.reduceLeDiff, Nat.reduceAdd, Nat.reduceSub, Nat.reduceBEq, reduceCtorEq, Int.reduceNeg, bs_nil, bs_beq, bs_size, bs_append, hd]
      (refine hX.retLe (by first | exact .inl rfl | exact .inr rfl) (r0 := .tup [.v (.slice none 0 0), I (fits s.fs l)]) (by simp only [zR, zS, hX.T, hX.nt, reduceIte, Nat.reduceEqDiff, Nat.reduceLT, Nat.reduceLeDiff, Nat.reduceAdd, Nat.reduceSub, Nat.reduceBEq, reduceCtorEq, Int.reduceNeg] <;> try rfl) ?_)
      exact le_rw _
end Go.Proofs.YtkbidoikndgheaaDoor.HL

namespace Go.Proofs.YtkbidoikndgheaaDoor.HL
open Go.Proofs
set_option maxRecDepth 100000
set_option maxHeartbeats 4000000
theorem p28 (l : List Sch) : PureFn Tryd.prog 28 [slS l] (B (rightC l)) := by
  rw [rightC, rightCs_chk]
  (refine PureFn.of_run ty_ok Tryd.func28 (c := Tryd.f28.body.get!) rfl (by decide) Tryd.ntmps28 (res := [.tmp 2]) Tryd.results28 (Nat.le_of_ble_eq_true rfl) ?_; intro X hX hR; refine vc_ok hX.ok hX.fn 1000 _ _ ?_; simp only [Tryd.f28, Option.get!])
  have hlen := hR.len (show AV.sl 3 false (l.map encS) ∈ _ by simp [slS])
  rw [List.length_map] at hlen
  simp only [zS, hX.T, hX.nt, reduceIte, Nat.reduceEqDiff, Nat.reduceLT, Nat.reduceLeDiff, Nat.reduceAdd, Nat.reduceSub, Nat.reduceBEq, reduceCtorEq, Int.reduceNeg, bs_nil, bs_beq, bs_size, bs_append]
  refine Run.loop (α := Nat) (fun i => [(0, slS l), (5, slS l), (6, I l.length), (7, I i)]) (fun _ => []) (fun i => i ≤ l.length ∧ chk (prv l i) (l.drop i) = chk none l) (fun i => l.length - i) 0 id ⟨Nat.zero_le _, rfl⟩ (.of hX.NL (by simp only [zS, hX.T, hX.nt, reduceIte, Nat.reduceEqDiff, Nat.reduceLT, Nat.reduceLeDiff, Nat.reduceAdd, Nat.reduceSub, Nat.reduceBEq, reduceCtorEq, Int.reduceNeg, bs_nil, bs_beq, bs_size, bs_append, ren, renL, renB] <;> rfl) rfl rfl) ?_
  intro i ⟨hi, hn⟩ ih
  refine hX.go ?_
  simp only [zS, hX.T, hX.nt, reduceIte, Nat.reduceEqDiff, Nat.reduceLT, Nat.reduceLeDiff, Nat.reduceAdd, Nat.reduceSub, Nat.reduceBEq, reduceCtorEq, Int.reduceNeg, bs_nil, bs_beq, bs_size, bs_append]
  refine bc_split (fun h => ?_) (fun h => ?_)
  · have h := of_decide_eq_true h
    have hlt : i < l.length := by omega
    have hrow := row_nat encS l i hlt
    have q := p44 l[i]
    rw [chk_step hlt] at hn
    simp only [zS, hX.T, hX.nt, reduceIte, Nat.reduceEqDiff, Nat.reduceLT, Nat.reduceLeDiff, Nat.reduceAdd, Nat.reduceSub, Nat.reduceBEq, reduceCtorEq, Int.reduceNeg, bs_nil, bs_beq, bs_size, bs_append, h, Int.natCast_nonneg, hrow]
    refine hX.draw (by kernel_rfl) (by decide) ?_
    simp only [zS, hX.T, hX.nt, reduceIte, Nat.reduceEqDiff, Nat.reduceLT, Nat.reduceLeDiff, Nat.reduceAdd, Nat.reduceSub, Nat.reduceBEq, reduceCtorEq, Int.reduceNeg, bs_nil, bs_beq, bs_size, bs_append]
    cases hr : rightS l[i]
    · rw [hr] at hn q
      simp only [Bool.false_and] at hn
      rw [← hn] at hX
      refine hX.pureD q rfl rfl (by decide) ?_
      simp only [zS, hX.T, hX.nt, reduceIte, Nat.reduceEqDiff, Nat.reduceLT, Nat.reduceLeDiff, Nat.reduceAdd, Nat.reduceSub, Nat.reduceBEq, reduceCtorEq, Int.reduceNeg, bs_nil, bs_beq, bs_size, bs_append]
      refine hX.gos (by rfl) ?_
      simp only [zS, hX.T, hX.nt, reduceIte, Nat.reduceEqDiff, Nat.reduceLT, Nat.reduceLeDiff, Nat.reduceAdd, Nat.reduceSub, Nat.reduceBEq, reduceCtorEq, Int.reduceNeg, bs_nil, bs_beq, bs_size, bs_append]
      (refine hX.ret (by first | exact .inl rfl | exact .inr rfl) ?_; simp only [zR, zS, hX.T, hX.nt, reduceIte, Nat.reduceEqDiff, Nat.reduceLT, Nat.reduceLeDiff, Nat.reduceAdd, Nat.reduceSub, Nat.reduceBEq, reduceCtorEq, Int.reduceNeg] <;> try rfl)
    · rw [hr] at hn q
      simp only [Bool.true_and] at hn
      refine hX.pureD q rfl rfl (by decide) ?_
      rcases i with _ | j
      · simp only [zS, hX.T, hX.nt, reduceIte, Nat.reduceEqDiff, Nat.reduceLT, Nat.reduceLeDiff, Nat.reduceAdd, Nat.reduceSub, Nat.reduceBEq, reduceCtorEq, Int.reduceNeg, bs_nil, bs_beq, bs_size, bs_append, Int.natCast_zero, Int.lt_irrefl, gt_iff_lt]
        refine hX.gos (by rfl) ?_
        simp only [zS, hX.T, hX.nt, reduceIte, Nat.reduceEqDiff, Nat.reduceLT, Nat.reduceLeDiff, Nat.reduceAdd, Nat.reduceSub, Nat.reduceBEq, reduceCtorEq, Int.reduceNeg, bs_nil, bs_beq, bs_size, bs_append]
        refine ih 1 id _ ⟨by omega, by rw [← hn]; rfl⟩ (by omega) (.of hX.NL (by simp only [zS, hX.T, hX.nt, reduceIte, Nat.reduceEqDiff, Nat.reduceLT, Nat.reduceLeDiff, Nat.reduceAdd, Nat.reduceSub, Nat.reduceBEq, reduceCtorEq, Int.reduceNeg, bs_nil, bs_beq, bs_size, bs_append, ren, renL, renB, wr1, Int.zero_add, Int.natCast_one] <;> rfl) rfl rfl)
      · have hg : decide (((j + 1 : Nat) : Int) > 0) = true := by simp only [decide_eq_true_eq]; omega
        have hw : IntKind.i64.wrap (((j + 1 : Nat) : Int) - 1) = (j : Int) := by rw [wrap_id (by omega) (by omega)]; omega
        have hj : j < l.length := by omega
        have hj' : (j : Int) < (l.length : Int) := by omega
        have hrj := row_nat encS l j hj
        have hp : prv l (j + 1) = some l[j] := by rw [prv, List.getElem?_eq_getElem hj]
        rw [hp, lnk] at hn
        simp only [zS, hX.T, hX.nt, reduceIte, Nat.reduceEqDiff, Nat.reduceLT, Nat.reduceLeDiff, Nat.reduceAdd, Nat.reduceSub, Nat.reduceBEq, reduceCtorEq, Int.reduceNeg, bs_nil, bs_beq, bs_size, bs_append, hg, hw, h, hj', Int.natCast_nonneg, hrow, hrj]
        refine pb_split (fun h1 => ?_) (fun h1 => ?_)
        · simp only [zS, hX.T, hX.nt, reduceIte, Nat.reduceEqDiff, Nat.reduceLT, Nat.reduceLeDiff, Nat.reduceAdd, Nat.reduceSub, Nat.reduceBEq, reduceCtorEq, Int.reduceNeg, bs_nil, bs_beq, bs_size, bs_append, hg, hw, h, hj', Int.natCast_nonneg, hrow, hrj, h1]
          refine hX.gos (by rfl) ?_
          simp only [zS, hX.T, hX.nt, reduceIte, Nat.reduceEqDiff, Nat.reduceLT, Nat.reduceLeDiff, Nat.reduceAdd, Nat.reduceSub, Nat.reduceBEq, reduceCtorEq, Int.reduceNeg, bs_nil, bs_beq, bs_size, bs_append, h1]
          have h1 := of_decide_eq_true h1
          rw [decide_eq_false (by omega), Bool.false_and, Bool.false_and] at hn
          rw [← hn] at hX
          (refine hX.ret (by first | exact .inl rfl | exact .inr rfl) ?_; simp only [zR, zS, hX.T, hX.nt, reduceIte, Nat.reduceEqDiff, Nat.reduceLT, Nat.reduceLeDiff, Nat.reduceAdd, Nat.reduceSub, Nat.reduceBEq, reduceCtorEq, Int.reduceNeg] <;> try rfl)
        · simp only [zS, hX.T, hX.nt, reduceIte, Nat.reduceEqDiff, Nat.reduceLT, Nat.reduceLeDiff, Nat.reduceAdd, Nat.reduceSub, Nat.reduceBEq, reduceCtorEq, Int.reduceNeg, bs_nil, bs_beq, bs_size, bs_append, hg, hw, h, hj', Int.natCast_nonneg, hrow, hrj, h1]
          refine hX.gos (by rfl) ?_
          simp only [zS, hX.T, hX.nt, reduceIte, Nat.reduceEqDiff, Nat.reduceLT, Nat.reduceLeDiff, Nat.reduceAdd, Nat.reduceSub, Nat.reduceBEq, reduceCtorEq, Int.reduceNeg, bs_nil, bs_beq, bs_size, bs_append, h1]
          have h1 := of_decide_eq_false h1
          rw [decide_eq_true (by omega : l[j].ver < l[j + 1].ver), Bool.true_and] at hn
          refine bc_split (fun h2 => ?_) (fun h2 => ?_)
          · simp only [zS, hX.T, hX.nt, reduceIte, Nat.reduceEqDiff, Nat.reduceLT, Nat.reduceLeDiff, Nat.reduceAdd, Nat.reduceSub, Nat.reduceBEq, reduceCtorEq, Int.reduceNeg, bs_nil, bs_beq, bs_size, bs_append]
            have h2 := of_decide_eq_true h2
            rw [decide_eq_false (by omega), Bool.false_and] at hn
            rw [← hn] at hX
            (refine hX.ret (by first | exact .inl rfl | exact .inr rfl) ?_; simp only [zR, zS, hX.T, hX.nt, reduceIte, Nat.reduceEqDiff, Nat.reduceLT, Nat.reduceLeDiff, Nat.reduceAdd, Nat.reduceSub, Nat.reduceBEq, reduceCtorEq, Int.reduceNeg] <;> try rfl)
          · simp only [zS, hX.T, hX.nt, reduceIte, Nat.reduceEqDiff, Nat.reduceLT, Nat.reduceLeDiff, Nat.reduceAdd, Nat.reduceSub, Nat.reduceBEq, reduceCtorEq, Int.reduceNeg, bs_nil, bs_beq, bs_size, bs_append]
            have h2 := of_decide_eq_false h2
            rw [decide_eq_true (by omega), Bool.true_and] at hn
            refine ih (j + 1 + 1) id _ ⟨by omega, by rw [← hn]⟩ (by omega) (.of hX.NL (by simp only [zS, hX.T, hX.nt, reduceIte, Nat.reduceEqDiff, Nat.reduceLT, Nat.reduceLeDiff, Nat.reduceAdd, Nat.reduceSub, Nat.reduceBEq, reduceCtorEq, Int.reduceNeg, bs_nil, bs_beq, bs_size, bs_append, ren, renL, renB, wrap_succ hlt hlen] <;> rfl) rfl rfl)
  · have h := of_decide_eq_false h
    rw [chk_end (by omega)] at hn
    rw [← hn] at hX
    simp only [zS, hX.T, hX.nt, reduceIte, Nat.reduceEqDiff, Nat.reduceLT, Nat.reduceLeDiff, Nat.reduceAdd, Nat.reduceSub, Nat.reduceBEq, reduceCtorEq, Int.reduceNeg, bs_nil, bs_beq, bs_size, bs_append]
    repeat' first | (refine bc_split (fun h => ?_) (fun h => ?_) <;> simp only [zS, hX.T, hX.nt, reduceIte, Nat.reduceEqDiff, Nat.reduceLT, Nat.reduceLeDiff, Nat.reduceAdd, Nat.reduceSub, Nat.reduceBEq, reduceCtorEq, Int.reduceNeg, bs_nil, bs_beq, bs_size, bs_append, zS, h]) | (refine bg_split (fun h => ?_) (fun h => ?_) <;> simp only [zS, hX.T, hX.nt, reduceIte, Nat.reduceEqDiff, Nat.reduceLT, Nat.reduceLeDiff, Nat.reduceAdd, Nat.reduceSub, Nat.reduceBEq, reduceCtorEq, Int.reduceNeg, bs_nil, bs_beq, bs_size, bs_append, zS, h]) | (refine pb_split (fun h => ?_) (fun h => ?_) <;> simp only [zS, hX.T, hX.nt, reduceIte, Nat.reduceEqDiff, Nat.reduceLT, Nat.reduceLeDiff, Nat.reduceAdd, Nat.reduceSub, Nat.reduceBEq, reduceCtorEq, Int.reduceNeg, bs_nil, bs_beq, bs_size, bs_append, zS, h]) | (refine hX.gos (by rfl) ?_; simp only [zS, hX.T, hX.nt, reduceIte, Nat.reduceEqDiff, Nat.reduceLT, Nat.reduceLeDiff, Nat.reduceAdd, Nat.reduceSub, Nat.reduceBEq, reduceCtorEq, Int.reduceNeg, bs_nil, bs_beq, bs_size, bs_append, zS])
    all_goals ((refine hX.ret (by first | exact .inl rfl | exact .inr rfl) ?_; simp only [zR, zS, hX.T, hX.nt, reduceIte, Nat.reduceEqDiff, Nat.reduceLT, Nat.reduceLeDiff, Nat.reduceAdd, Nat.reduceSub, Nat.reduceBEq, reduceCtorEq, Int.reduceNeg] <;> try rfl) <;> (clear hX hR ih; grind))
theorem p99 (s : Sch) (v : Int) : PureFn Tryd.prog 99 [.agg (encS s), .rp [I v]] (B (s.ver == v)) := by
  (refine PureFn.of_run ty_ok Tryd.func99 (c := Tryd.f99.body.get!) rfl (by decide) Tryd.ntmps99 (res := [.tmp 3]) Tryd.results99 (Nat.le_of_ble_eq_true rfl) ?_; intro X hX hR; refine vc_ok hX.ok hX.fn 1000 _ _ ?_; simp only [Tryd.f99, Option.get!])
  simp only [zS, hX.T, hX.nt, reduceIte, Nat.reduceEqDiff, Nat.reduceLT, Nat.reduceLeDiff, Nat.reduceAdd, Nat.reduceSub, Nat.reduceBEq, reduceCtorEq, Int.reduceNeg, bs_nil, bs_beq, bs_size, bs_append]
  (refine hX.ret (by first | exact .inl rfl | exact .inr rfl) ?_; simp only [zR, zS, hX.T, hX.nt, reduceIte, Nat.reduceEqDiff, Nat.reduceLT, Nat.reduceLeDiff, Nat.reduceAdd, Nat.reduceSub, Nat.reduceBEq, reduceCtorEq, Int.reduceNeg] <;> try rfl)
def hitV (v : Int) (s : Sch) : Bool := s.ver == v
theorem p98 (l : List Sch) (v : Int) : PureFn Tryd.prog 98 [slS l, .fn 99 [.rp [I v]]] (I (idxP (hitV v) l 0)) := by
  (refine PureFn.of_run ty_ok Tryd.func98 (c := Tryd.f98.body.get!) rfl (by decide) Tryd.ntmps98 (res := [.tmp 4]) Tryd.results98 (Nat.le_of_ble_eq_true rfl) ?_; intro X hX hR; refine vc_ok hX.ok hX.fn 1000 _ _ ?_; simp only [Tryd.f98, Option.get!])
  have hlen := hR.len (show AV.sl 3 false (l.map encS) ∈ _ by simp [slS])
  rw [List.length_map] at hlen
  simp only [zS, hX.T, hX.nt, reduceIte, Nat.reduceEqDiff, Nat.reduceLT, Nat.reduceLeDiff, Nat.reduceAdd, Nat.reduceSub, Nat.reduceBEq, reduceCtorEq, Int.reduceNeg, bs_nil, bs_beq, bs_size, bs_append]
  refine Run.loop (α := Nat) (fun i => [(0, slS l), (1, .fn 99 [.rp [I v]]), (7, I l.length), (8, I i)]) (fun _ => []) (fun i => i ≤ l.length ∧ idxP (hitV v) (l.drop i) i = idxP (hitV v) l 0) (fun i => l.length - i) 0 id ⟨Nat.zero_le _, rfl⟩ (.of hX.NL (by simp only [zS, hX.T, hX.nt, reduceIte, Nat.reduceEqDiff, Nat.reduceLT, Nat.reduceLeDiff, Nat.reduceAdd, Nat.reduceSub, Nat.reduceBEq, reduceCtorEq, Int.reduceNeg, bs_nil, bs_beq, bs_size, bs_append, ren, renL, renB] <;> rfl) rfl rfl) ?_
  intro i ⟨hi, hp⟩ ih
  refine hX.go ?_
  simp only [zS, hX.T, hX.nt, reduceIte, Nat.reduceEqDiff, Nat.reduceLT, Nat.reduceLeDiff, Nat.reduceAdd, Nat.reduceSub, Nat.reduceBEq, reduceCtorEq, Int.reduceNeg, bs_nil, bs_beq, bs_size, bs_append]
  refine bc_split (fun h => ?_) (fun h => ?_)
  · have h := of_decide_eq_true h
    have hlt : i < l.length := by omega
    have hrow := row_nat encS l i hlt
    rw [idxP_step hlt] at hp
    simp only [zS, hX.T, hX.nt, reduceIte, Nat.reduceEqDiff, Nat.reduceLT, Nat.reduceLeDiff, Nat.reduceAdd, Nat.reduceSub, Nat.reduceBEq, reduceCtorEq, Int.reduceNeg, bs_nil, bs_beq, bs_size, bs_append, h, Int.natCast_nonneg, hrow]
    refine hX.pure (p99 l[i] v) rfl rfl (by decide) ?_
    simp only [zS, hX.T, hX.nt, reduceIte, Nat.reduceEqDiff, Nat.reduceLT, Nat.reduceLeDiff, Nat.reduceAdd, Nat.reduceSub, Nat.reduceBEq, reduceCtorEq, Int.reduceNeg, bs_nil, bs_beq, bs_size, bs_append]
    refine bc_split (fun h1 => ?_) (fun h1 => ?_)
    · simp only [zS, hX.T, hX.nt, reduceIte, Nat.reduceEqDiff, Nat.reduceLT, Nat.reduceLeDiff, Nat.reduceAdd, Nat.reduceSub, Nat.reduceBEq, reduceCtorEq, Int.reduceNeg, bs_nil, bs_beq, bs_size, bs_append]
      rw [if_pos (by simpa [hitV] using h1)] at hp
      (refine hX.ret (by first | exact .inl rfl | exact .inr rfl) ?_; simp only [zR, zS, hX.T, hX.nt, reduceIte, Nat.reduceEqDiff, Nat.reduceLT, Nat.reduceLeDiff, Nat.reduceAdd, Nat.reduceSub, Nat.reduceBEq, reduceCtorEq, Int.reduceNeg] <;> try rfl)
      rw [← hp]
    · simp only [zS, hX.T, hX.nt, reduceIte, Nat.reduceEqDiff, Nat.reduceLT, Nat.reduceLeDiff, Nat.reduceAdd, Nat.reduceSub, Nat.reduceBEq, reduceCtorEq, Int.reduceNeg, bs_nil, bs_beq, bs_size, bs_append]
      rw [if_neg (by simpa [hitV] using h1)] at hp
      refine ih (i + 1) id _ ⟨hlt, hp⟩ (by omega) (.of hX.NL (by simp only [zS, hX.T, hX.nt, reduceIte, Nat.reduceEqDiff, Nat.reduceLT, Nat.reduceLeDiff, Nat.reduceAdd, Nat.reduceSub, Nat.reduceBEq, reduceCtorEq, Int.reduceNeg, bs_nil, bs_beq, bs_size, bs_append, ren, renL, renB, wrap_succ hlt hlen] <;> rfl) rfl rfl)
  · have h := of_decide_eq_false h
    rw [idxP_end (by omega)] at hp
    simp only [zS, hX.T, hX.nt, reduceIte, Nat.reduceEqDiff, Nat.reduceLT, Nat.reduceLeDiff, Nat.reduceAdd, Nat.reduceSub, Nat.reduceBEq, reduceCtorEq, Int.reduceNeg, bs_nil, bs_beq, bs_size, bs_append]
    (refine hX.ret (by first | exact .inl rfl | exact .inr rfl) ?_; simp only [zR, zS, hX.T, hX.nt, reduceIte, Nat.reduceEqDiff, Nat.reduceLT, Nat.reduceLeDiff, Nat.reduceAdd, Nat.reduceSub, Nat.reduceBEq, reduceCtorEq, Int.reduceNeg] <;> try rfl)
    rw [← hp]
theorem p61 (l : List Sch) (v : Int) : PureFn Tryd.prog 61 [slS l, I v] (I (idxP (hitV v) l 0)) := by
  (refine PureFn.of_run ty_ok Tryd.func61 (c := Tryd.f61.body.get!) rfl (by decide) Tryd.ntmps61 (res := [.tmp 4]) Tryd.results61 (Nat.le_of_ble_eq_true rfl) ?_; intro X hX hR; refine vc_ok hX.ok hX.fn 1000 _ _ ?_; simp only [Tryd.f61, Option.get!])
  simp only [zS, hX.T, hX.nt, reduceIte, Nat.reduceEqDiff, Nat.reduceLT, Nat.reduceLeDiff, Nat.reduceAdd, Nat.reduceSub, Nat.reduceBEq, reduceCtorEq, Int.reduceNeg, bs_nil, bs_beq, bs_size, bs_append]
  refine hX.lend (p98 l v) (by simp only [zR, zS, hX.T, hX.nt, reduceIte, Nat.reduceEqDiff, Nat.reduceLT, Nat.reduceLeDiff, Nat.reduceAdd, Nat.reduceSub, Nat.reduceBEq, reduceCtorEq, Int.reduceNeg, nfL, nf, Bool.and_true, List.drop_zero] <;> rfl) rfl (by decide) ?_
  simp only [zS, hX.T, hX.nt, reduceIte, Nat.reduceEqDiff, Nat.reduceLT, Nat.reduceLeDiff, Nat.reduceAdd, Nat.reduceSub, Nat.reduceBEq, reduceCtorEq, Int.reduceNeg, bs_nil, bs_beq, bs_size, bs_append]
  (refine hX.ret (by first | exact .inl rfl | exact .inr rfl) ?_; simp only [zR, zS, hX.T, hX.nt, reduceIte, Nat.reduceEqDiff, Nat.reduceLT, Nat.reduceLeDiff, Nat.reduceAdd, Nat.reduceSub, Nat.reduceBEq, reduceCtorEq, Int.reduceNeg] <;> try rfl)
theorem p109 (f : Fld) (fs : List Fld) (hl : fs.length ≤ 1000) : PureFn Tryd.prog 109 [slF (f :: fs)] (slF (f :: fs)) := by
  have hap : appOk (fs.length + 1) 64 = true := appOk64 (by omega)
  (refine PureFn.of_run ty_ok Tryd.func109 (c := Tryd.f109.body.get!) rfl (by decide) Tryd.ntmps109 (res := [.tmp 2]) Tryd.results109 (Nat.le_of_ble_eq_true rfl) ?_; intro X hX hR; refine vc_ok hX.ok hX.fn 1000 _ _ ?_; simp only [Tryd.f109, Option.get!])
  simp only [zS, hX.T, hX.nt, reduceIte, Nat.reduceEqDiff, Nat.reduceLT, Nat.reduceLeDiff, Nat.reduceAdd, Nat.reduceSub, Nat.reduceBEq, reduceCtorEq, Int.reduceNeg, bs_nil, bs_beq, bs_size, bs_append, hap]
  (refine hX.ret (by first | exact .inl rfl | exact .inr rfl) ?_; simp only [zR, zS, hX.T, hX.nt, reduceIte, Nat.reduceEqDiff, Nat.reduceLT, Nat.reduceLeDiff, Nat.reduceAdd, Nat.reduceSub, Nat.reduceBEq, reduceCtorEq, Int.reduceNeg] <;> try rfl)
theorem p108 (s : Sch) (l : List Sch) (hl : l.length ≤ 1000) : FnE Tryd.prog 108 [slS (s :: l)] [] (.ow 4094) [(4094, .own 35 3 ((s :: l).map encS))] := by
  have hap : appOk (l.length + 1) 40 = true := appOk40 (by omega)
  (refine FnE.of_run ty_ok Tryd.func108 (c := Tryd.f108.body.get!) rfl (by decide) Tryd.ntmps108 (res := [.tmp 2]) Tryd.results108 (Nat.le_of_ble_eq_true rfl) (by rfl) ?_; intro X hX hR; refine vc_ok hX.ok hX.fn 1000 _ _ ?_; simp only [Tryd.f108, Option.get!])
  simp only [zS, hX.T, hX.nt, reduceIte, Nat.reduceEqDiff, Nat.reduceLT, Nat.reduceLeDiff, Nat.reduceAdd, Nat.reduceSub, Nat.reduceBEq, reduceCtorEq, Int.reduceNeg, bs_nil, bs_beq, bs_size, bs_append, hap]
  (refine hX.ret (by first | exact .inl rfl | exact .inr rfl) [(4094, 7)] (by simp only [zR, zS, hX.T, hX.nt, reduceIte, Nat.reduceEqDiff, Nat.reduceLT, Nat.reduceLeDiff, Nat.reduceAdd, Nat.reduceSub, Nat.reduceBEq, reduceCtorEq, Int.reduceNeg, bkOf, tb, Option.map_some] <;> try rfl) (by rfl) (by simp only [zR, zS, hX.T, hX.nt, reduceIte, Nat.reduceEqDiff, Nat.reduceLT, Nat.reduceLeDiff, Nat.reduceAdd, Nat.reduceSub, Nat.reduceBEq, reduceCtorEq, Int.reduceNeg, bkOf, tb, Option.map_some] <;> try rfl))
end Go.Proofs.YtkbidoikndgheaaDoor.HL

namespace Go.Proofs.YtkbidoikndgheaaDoor.HL
open Go.Proofs
set_option maxRecDepth 100000
set_option maxHeartbeats 4000000
structure OkL (l : List Sch) : Prop where
  ne : 1 ≤ l.length
  le : l.length ≤ 1000
  fs : ∀ s ∈ l, 1 ≤ s.fs.length ∧ s.fs.length ≤ 1000
theorem OkL.of {l : List Sch} (h : rightC l = true) : OkL l := by
  obtain ⟨h1, h2⟩ := rightC_len h
  refine ⟨h1, by omega, fun s hs => ?_⟩
  simp only [rightC, Bool.and_eq_true] at h
  have := (rightCs_iff.1 h.1.1).1 s hs
  have := rightS_len (rightS_iff.2 this)
  omega
theorem set_self {l : List Sch} {i : Nat} (h : i < l.length) : (l.map encS).set i [I l[i].ver, I l[i].next, .sl 6 false (l[i].fs.map encF)] = l.map encS := by
  apply List.ext_getElem
  · simp
  · intro k h1 h2
    rw [List.getElem_set]
    split
    · rename_i e
      subst e
      simp [encS]
    · rfl
theorem p68 (l : List Sch) (hl : OkL l) : FnE Tryd.prog 68 [slS l] [] (.ow 4094) [(4094, .own 35 3 (l.map encS))] := by
  obtain ⟨s0, l0, e0⟩ : ∃ s l', l = s :: l' := by
    have := hl.ne
    cases l with
    | nil => simp at this
    | cons s l => exact ⟨s, l, rfl⟩
  have q := p108 s0 l0 (by have := hl.le; rw [e0] at this; simp at this; omega)
  rw [← e0] at q
  (refine FnE.of_run ty_ok Tryd.func68 (c := Tryd.f68.body.get!) rfl (by decide) Tryd.ntmps68 (res := [.tmp 2]) Tryd.results68 (Nat.le_of_ble_eq_true rfl) (by rfl) ?_; intro X hX hR; refine vc_ok hX.ok hX.fn 1000 _ _ ?_; simp only [Tryd.f68, Option.get!])
  simp only [zS, hX.T, hX.nt, reduceIte, Nat.reduceEqDiff, Nat.reduceLT, Nat.reduceLeDiff, Nat.reduceAdd, Nat.reduceSub, Nat.reduceBEq, reduceCtorEq, Int.reduceNeg, bs_nil, bs_beq, bs_size, bs_append]
  refine hX.fnE q [(4094, 6)] rfl (fun p hp => by cases hp) (by rfl) (by decide) ?_
  simp only [zS, hX.T, hX.nt, reduceIte, Nat.reduceEqDiff, Nat.reduceLT, Nat.reduceLeDiff, Nat.reduceAdd, Nat.reduceSub, Nat.reduceBEq, reduceCtorEq, Int.reduceNeg, bs_nil, bs_beq, bs_size, bs_append, fnSt, fnEff, Eff.ap, apE, tb, ren, renL, renB, List.filter_cons, List.filter_nil]
  refine Run.loop (α := Nat) (fun i => [(3, .ow 100), (8, I l.length), (9, I i)]) (fun _ => [(100, .own 35 3 (l.map encS))]) (fun i => i ≤ l.length) (fun i => l.length - i) 0 (mv 100 6) (Nat.zero_le _) (.of hX.NL (by simp only [zS, hX.T, hX.nt, reduceIte, Nat.reduceEqDiff, Nat.reduceLT, Nat.reduceLeDiff, Nat.reduceAdd, Nat.reduceSub, Nat.reduceBEq, reduceCtorEq, Int.reduceNeg, bs_nil, bs_beq, bs_size, bs_append, ren, renL, renB] <;> rfl) (by simp only [zS, hX.T, hX.nt, reduceIte, Nat.reduceEqDiff, Nat.reduceLT, Nat.reduceLeDiff, Nat.reduceAdd, Nat.reduceSub, Nat.reduceBEq, reduceCtorEq, Int.reduceNeg, bs_nil, bs_beq, bs_size, bs_append, ren, renL, renB] <;> rfl) rfl) ?_
  intro i hi ih
  refine hX.go ?_
  simp only [zS, hX.T, hX.nt, reduceIte, Nat.reduceEqDiff, Nat.reduceLT, Nat.reduceLeDiff, Nat.reduceAdd, Nat.reduceSub, Nat.reduceBEq, reduceCtorEq, Int.reduceNeg, bs_nil, bs_beq, bs_size, bs_append]
  refine bc_split (fun h => ?_) (fun h => ?_)
  · have h := of_decide_eq_true h
    have hlt : i < l.length := by omega
    have hlen : l.length ≤ 9223372036854775807 := by have := hl.le; omega
    have hrow := row_nat encS l i hlt
    obtain ⟨f1, f2⟩ := hl.fs l[i] (List.getElem_mem ..)
    obtain ⟨f, fs, hfs⟩ : ∃ f fs', l[i].fs = f :: fs' := by
      cases hc : l[i].fs with
      | nil => rw [hc] at f1; simp at f1
      | cons f fs => exact ⟨f, fs, rfl⟩
    have q2 := p109 f fs (by rw [hfs] at f2; simp at f2; omega)
    rw [← hfs] at q2
    simp only [zS, hX.T, hX.nt, reduceIte, Nat.reduceEqDiff, Nat.reduceLT, Nat.reduceLeDiff, Nat.reduceAdd, Nat.reduceSub, Nat.reduceBEq, reduceCtorEq, Int.reduceNeg, bs_nil, bs_beq, bs_size, bs_append, h, Int.natCast_nonneg, hrow]
    refine hX.pure q2 rfl rfl (by decide) ?_
    simp only [zS, hX.T, hX.nt, reduceIte, Nat.reduceEqDiff, Nat.reduceLT, Nat.reduceLeDiff, Nat.reduceAdd, Nat.reduceSub, Nat.reduceBEq, reduceCtorEq, Int.reduceNeg, bs_nil, bs_beq, bs_size, bs_append, h, Int.natCast_nonneg, hrow, nfL, nf, Int.toNat_natCast, set_self hlt]
    refine ih (i + 1) id _ (by omega) (by omega) (.of hX.NL (by simp only [zS, hX.T, hX.nt, reduceIte, Nat.reduceEqDiff, Nat.reduceLT, Nat.reduceLeDiff, Nat.reduceAdd, Nat.reduceSub, Nat.reduceBEq, reduceCtorEq, Int.reduceNeg, bs_nil, bs_beq, bs_size, bs_append, ren, renL, renB, wrap_succ hlt hlen] <;> rfl) (by simp only [zS, hX.T, hX.nt, reduceIte, Nat.reduceEqDiff, Nat.reduceLT, Nat.reduceLeDiff, Nat.reduceAdd, Nat.reduceSub, Nat.reduceBEq, reduceCtorEq, Int.reduceNeg, bs_nil, bs_beq, bs_size, bs_append, ren, renL, renB, set_self hlt] <;> rfl) rfl)
  · simp only [zS, hX.T, hX.nt, reduceIte, Nat.reduceEqDiff, Nat.reduceLT, Nat.reduceLeDiff, Nat.reduceAdd, Nat.reduceSub, Nat.reduceBEq, reduceCtorEq, Int.reduceNeg, bs_nil, bs_beq, bs_size, bs_append]
    (refine hX.ret (by first | exact .inl rfl | exact .inr rfl) [(4094, 100)] (by simp only [zR, zS, hX.T, hX.nt, reduceIte, Nat.reduceEqDiff, Nat.reduceLT, Nat.reduceLeDiff, Nat.reduceAdd, Nat.reduceSub, Nat.reduceBEq, reduceCtorEq, Int.reduceNeg, bkOf, tb, Option.map_some] <;> try rfl) (by rfl) (by simp only [zR, zS, hX.T, hX.nt, reduceIte, Nat.reduceEqDiff, Nat.reduceLT, Nat.reduceLeDiff, Nat.reduceAdd, Nat.reduceSub, Nat.reduceBEq, reduceCtorEq, Int.reduceNeg, bkOf, tb, Option.map_some] <;> try rfl))
theorem p74 (rows : List (List AV)) (i : Nat) (hi : i < rows.length) : FnE Tryd.prog 74 [.ow 4095, I i, I ((i + 1 : Nat) : Int)] [(4095, .own 35 3 rows)] (.ow 4094) [(4094, .own 35 3 (rows.take i ++ rows.drop (i + 1)))] := by
  have i1 : (i : Int) ≤ ((i + 1 : Nat) : Int) := by omega
  have i2 : ((i + 1 : Nat) : Int) ≤ (rows.length : Int) := by omega
  have i3 : ((i : Int) == ((i + 1 : Nat) : Int)) = false := by simp only [beq_eq_false_iff_ne, ne_eq]; omega
  have i4 : 0 < rows.length := by omega
  have i5 : i + 1 ≤ rows.length := by omega
  have i6 : (i : Int) ≤ (rows.length : Int) := by omega
  have i7 : i ≤ i + 1 := Nat.le_succ i
  have i8 : i + (rows.length - (i + 1)) = rows.length - 1 := by omega
  have i9 : ((rows.length - 1 : Nat) : Int) ≤ (rows.length : Int) := by omega
  have ia : rows.length - 1 ≤ rows.length := by omega
  have ib : rows.length - 1 < rows.length := by omega
  have hlen := appM_del hi
  (refine FnE.of_run ty_ok Tryd.func74 (c := Tryd.f74.body.get!) rfl (by decide) Tryd.ntmps74 (res := [.tmp 6]) Tryd.results74 (Nat.le_of_ble_eq_true rfl) (by rfl) ?_; intro X hX hR; refine vc_ok hX.ok hX.fn 1000 _ _ ?_; simp only [Tryd.f74, Option.get!])
  simp only [zS, hX.T, hX.nt, reduceIte, Nat.reduceEqDiff, Nat.reduceLT, Nat.reduceLeDiff, Nat.reduceAdd, Nat.reduceSub, Nat.reduceBEq, reduceCtorEq, Int.reduceNeg, bs_nil, bs_beq, bs_size, bs_append, i1, i2, Int.le_refl, Int.natCast_nonneg, i3]
  refine hX.draw (by kernel_rfl) (by decide) ?_
  simp only [zS, hX.T, hX.nt, reduceIte, Nat.reduceEqDiff, Nat.reduceLT, Nat.reduceLeDiff, Nat.reduceAdd, Nat.reduceSub, Nat.reduceBEq, reduceCtorEq, Int.reduceNeg, bs_nil, bs_beq, bs_size, bs_append, i1, i2, i4, i5, i6, i7, hi, Int.le_refl, Int.natCast_nonneg, Int.toNat_natCast, Int.toNat_zero, Nat.zero_add, Nat.add_zero, Int.natCast_zero, Int.zero_add, Int.sub_zero, Nat.le_refl, i8]
  refine hX.gosN 9 (by rfl) ?_
  simp only [zS, hX.T, hX.nt, reduceIte, Nat.reduceEqDiff, Nat.reduceLT, Nat.reduceLeDiff, Nat.reduceAdd, Nat.reduceSub, Nat.reduceBEq, reduceCtorEq, Int.reduceNeg, bs_nil, bs_beq, bs_size, bs_append, i4, i8, i9, ia, ib, hlen, Int.le_refl, Int.natCast_nonneg, Int.toNat_natCast, Int.toNat_zero, Nat.zero_add, Nat.add_zero, Int.natCast_zero, Int.zero_add, Int.sub_zero, Nat.le_refl]
  refine Run.recut (t := 0) (n := 4095) (es := 3) (m := rows.length - 1) (n' := 100) (t' := 35) (rows := delR rows i [AV.v (.int .i64 0), .v (.int .i64 0), .v (.slice none 0 0)]) (by simp only [zS, hX.T, hX.nt, reduceIte, Nat.reduceEqDiff, Nat.reduceLT, Nat.reduceLeDiff, Nat.reduceAdd, Nat.reduceSub, Nat.reduceBEq, reduceCtorEq, Int.reduceNeg, bs_nil, bs_beq, bs_size, bs_append]) (by simp only [zS, hX.T, hX.nt, reduceIte, Nat.reduceEqDiff, Nat.reduceLT, Nat.reduceLeDiff, Nat.reduceAdd, Nat.reduceSub, Nat.reduceBEq, reduceCtorEq, Int.reduceNeg, bs_nil, bs_beq, bs_size, bs_append, delR] <;> try rfl) (delR_len hi).1 (delR_len hi).2 (by simp only [zS, hX.T, hX.nt, reduceIte, Nat.reduceEqDiff, Nat.reduceLT, Nat.reduceLeDiff, Nat.reduceAdd, Nat.reduceSub, Nat.reduceBEq, reduceCtorEq, Int.reduceNeg, bs_nil, bs_beq, bs_size, bs_append]) ?_
  rw [delR_take hi]
  refine hX.go ?_
  simp only [zS, hX.T, hX.nt, reduceIte, Nat.reduceEqDiff, Nat.reduceLT, Nat.reduceLeDiff, Nat.reduceAdd, Nat.reduceSub, Nat.reduceBEq, reduceCtorEq, Int.reduceNeg, bs_nil, bs_beq, bs_size, bs_append]
  (refine hX.ret (by first | exact .inl rfl | exact .inr rfl) [(4094, 100)] (by simp only [zR, zS, hX.T, hX.nt, reduceIte, Nat.reduceEqDiff, Nat.reduceLT, Nat.reduceLeDiff, Nat.reduceAdd, Nat.reduceSub, Nat.reduceBEq, reduceCtorEq, Int.reduceNeg, bkOf, tb, Option.map_some] <;> try rfl) (by rfl) (by simp only [zR, zS, hX.T, hX.nt, reduceIte, Nat.reduceEqDiff, Nat.reduceLT, Nat.reduceLeDiff, Nat.reduceAdd, Nat.reduceSub, Nat.reduceBEq, reduceCtorEq, Int.reduceNeg, bkOf, tb, Option.map_some] <;> try rfl))
theorem p73n (l : List Sch) (i : Int) (h : i < 0) : PureFn Tryd.prog 73 [slS l, I i] (fndS none) := by
  have hd : decide (i < 0) = true := by simp [h]
  (refine PureFn.of_run ty_ok Tryd.func73 (c := Tryd.f73.body.get!) rfl (by decide) Tryd.ntmps73 (res := [.cell 4 35, .tmp 5]) Tryd.results73 (Nat.le_of_ble_eq_true rfl) ?_; intro X hX hR; refine vc_ok hX.ok hX.fn 1000 _ _ ?_; simp only [Tryd.f73, Option.get!])
  simp only [zS, hX.T, hX.nt, reduceIte, Nat.reduceEqDiff, Nat.reduceLT, Nat.reduceLeDiff, Nat.reduceAdd, Nat.reduceSub, Nat.reduceBEq, reduceCtorEq, Int.reduceNeg, bs_nil, bs_beq, bs_size, bs_append, hd]
  (refine hX.retLe (by first | exact .inl rfl | exact .inr rfl) (r0 := .tup [.agg [I 0, I 0, .v (.slice none 0 0)], B false]) (by simp only [zR, zS, hX.T, hX.nt, reduceIte, Nat.reduceEqDiff, Nat.reduceLT, Nat.reduceLeDiff, Nat.reduceAdd, Nat.reduceSub, Nat.reduceBEq, reduceCtorEq, Int.reduceNeg] <;> try rfl) ?_)
  exact .tup (.cons (.agg (.cons (.refl _) (.cons (.refl _) (.cons (.nil 6 false) (.refl _))))) (.refl _))
theorem p73 (l : List Sch) (i : Nat) (h : i < l.length) (hl : OkL l) : PureFn Tryd.prog 73 [slS l, I i] (fndS (some l[i])) := by
  have hd : decide ((i : Int) < 0) = false := by simp only [decide_eq_false_iff_not]; omega
  have hw : IntKind.i64.wrap ((i : Int) + 1) = ((i + 1 : Nat) : Int) := by have := hl.le; rw [wrap_id (by omega) (by omega)]; rfl
  have i1 : (i : Int) ≤ ((i + 1 : Nat) : Int) := by omega
  have i2 : ((i + 1 : Nat) : Int) ≤ (l.length : Int) := by omega
  have hcut : List.take (i + 1 - i) (List.drop i (List.map encS l)) = [encS l[i]] := by
    rw [← List.map_drop, List.drop_eq_getElem_cons h, show i + 1 - i = 1 by omega]
    rfl
  have hq : OkL [l[i]] := ⟨by simp, by simp, fun s hs => by simp at hs; subst hs; exact hl.fs _ (List.getElem_mem ..)⟩
  (refine PureFn.of_run ty_ok Tryd.func73 (c := Tryd.f73.body.get!) rfl (by decide) Tryd.ntmps73 (res := [.cell 4 35, .tmp 5]) Tryd.results73 (Nat.le_of_ble_eq_true rfl) ?_; intro X hX hR; refine vc_ok hX.ok hX.fn 1000 _ _ ?_; simp only [Tryd.f73, Option.get!])
  simp only [zS, hX.T, hX.nt, reduceIte, Nat.reduceEqDiff, Nat.reduceLT, Nat.reduceLeDiff, Nat.reduceAdd, Nat.reduceSub, Nat.reduceBEq, reduceCtorEq, Int.reduceNeg, bs_nil, bs_beq, bs_size, bs_append, hd, hw, i1, i2, Int.natCast_nonneg, Int.toNat_natCast, hcut]
  refine hX.fnE (p68 [l[i]] hq) [(4094, 14)] rfl (fun p hp => by cases hp) (by rfl) (by decide) ?_
  simp only [zS, hX.T, hX.nt, reduceIte, Nat.reduceEqDiff, Nat.reduceLT, Nat.reduceLeDiff, Nat.reduceAdd, Nat.reduceSub, Nat.reduceBEq, reduceCtorEq, Int.reduceNeg, bs_nil, bs_beq, bs_size, bs_append, fnSt, fnEff, Eff.ap, apE, tb, ren, renL, renB, List.filter_cons, List.filter_nil, wr0, wr1, wr2, wr3, wr4, wr5, wr6, wr7, wr8, wr9, wr10, wr11, wr12, row, Int.reduceToNat, Int.reduceBNe, Int.reduceGE, Int.reduceGT, List.getD_cons_zero, List.getD_cons_succ, Int.reduceBEq, Int.reduceLT, Int.reduceLE, Int.reduceEq, Int.reduceAdd, Int.reduceSub, decide_true, decide_false]
  (refine hX.ret (by first | exact .inl rfl | exact .inr rfl) ?_; simp only [zR, zS, hX.T, hX.nt, reduceIte, Nat.reduceEqDiff, Nat.reduceLT, Nat.reduceLeDiff, Nat.reduceAdd, Nat.reduceSub, Nat.reduceBEq, reduceCtorEq, Int.reduceNeg, fndS, Option.getD_some, Option.isSome_some] <;> try rfl)
end Go.Proofs.YtkbidoikndgheaaDoor.HL

namespace Go.Proofs.YtkbidoikndgheaaDoor.HL
open Go.Proofs
set_option maxRecDepth 100000
set_option maxHeartbeats 4000000
theorem idxP_none {α : Type} {p : α → Bool} : ∀ {l : List α} {i : Int}, l.any p = false → idxP p l i = -1 ∧ l.find? p = none
  | [], _, _ => ⟨rfl, rfl⟩
  | x :: l, i, h => by
    simp only [List.any_cons, Bool.or_eq_false_iff] at h
    obtain ⟨e1, e2⟩ := idxP_none (i := i + 1) h.2
    rw [idxP, List.find?_cons, h.1]
    exact ⟨by simpa using e1, by simpa using e2⟩
theorem idx_find (l : List Sch) (v : Int) : (findC l v = none ∧ idxP (hitV v) l 0 = -1) ∨ ∃ j : Nat, ∃ hj : j < l.length, findC l v = some l[j] ∧ idxP (hitV v) l 0 = (j : Int) ∧ l[j].ver = v := by
  cases h : l.any (hitV v)
  · obtain ⟨e1, e2⟩ := idxP_none (i := 0) h
    exact .inl ⟨e2, e1⟩
  · obtain ⟨j, hj, e1, e2, e3⟩ := idxP_some (i := 0) h
    exact .inr ⟨j, hj, e3, by rw [e1]; omega, by simpa [hitV] using e2⟩
theorem p30 (l : List Sch) (v : Int) (hl : OkL l) : PureFn Tryd.prog 30 [slS l, I v] (fndS (findC l v)) := by
  have q := p61 l v
  rcases idx_find l v with ⟨e1, e2⟩ | ⟨j, hj, e1, e2, _⟩
  · rw [e2] at q
    rw [e1]
    (refine PureFn.of_run ty_ok Tryd.func30 (c := Tryd.f30.body.get!) rfl (by decide) Tryd.ntmps30 (res := [.cell 4 35, .tmp 5]) Tryd.results30 (Nat.le_of_ble_eq_true rfl) ?_; intro X hX hR; refine vc_ok hX.ok hX.fn 1000 _ _ ?_; simp only [Tryd.f30, Option.get!])
    simp only [zS, hX.T, hX.nt, reduceIte, Nat.reduceEqDiff, Nat.reduceLT, Nat.reduceLeDiff, Nat.reduceAdd, Nat.reduceSub, Nat.reduceBEq, reduceCtorEq, Int.reduceNeg, bs_nil, bs_beq, bs_size, bs_append]
    refine hX.pure q rfl rfl (by decide) ?_
    simp only [zS, hX.T, hX.nt, reduceIte, Nat.reduceEqDiff, Nat.reduceLT, Nat.reduceLeDiff, Nat.reduceAdd, Nat.reduceSub, Nat.reduceBEq, reduceCtorEq, Int.reduceNeg, bs_nil, bs_beq, bs_size, bs_append]
    refine hX.pure (p73n l (-1) (by decide)) rfl rfl (by decide) ?_
    simp only [zS, hX.T, hX.nt, reduceIte, Nat.reduceEqDiff, Nat.reduceLT, Nat.reduceLeDiff, Nat.reduceAdd, Nat.reduceSub, Nat.reduceBEq, reduceCtorEq, Int.reduceNeg, bs_nil, bs_beq, bs_size, bs_append, fndS]
    (refine hX.ret (by first | exact .inl rfl | exact .inr rfl) ?_; simp only [zR, zS, hX.T, hX.nt, reduceIte, Nat.reduceEqDiff, Nat.reduceLT, Nat.reduceLeDiff, Nat.reduceAdd, Nat.reduceSub, Nat.reduceBEq, reduceCtorEq, Int.reduceNeg, fndS] <;> try rfl)
  · rw [e2] at q
    rw [e1]
    (refine PureFn.of_run ty_ok Tryd.func30 (c := Tryd.f30.body.get!) rfl (by decide) Tryd.ntmps30 (res := [.cell 4 35, .tmp 5]) Tryd.results30 (Nat.le_of_ble_eq_true rfl) ?_; intro X hX hR; refine vc_ok hX.ok hX.fn 1000 _ _ ?_; simp only [Tryd.f30, Option.get!])
    simp only [zS, hX.T, hX.nt, reduceIte, Nat.reduceEqDiff, Nat.reduceLT, Nat.reduceLeDiff, Nat.reduceAdd, Nat.reduceSub, Nat.reduceBEq, reduceCtorEq, Int.reduceNeg, bs_nil, bs_beq, bs_size, bs_append]
    refine hX.pure q rfl rfl (by decide) ?_
    simp only [zS, hX.T, hX.nt, reduceIte, Nat.reduceEqDiff, Nat.reduceLT, Nat.reduceLeDiff, Nat.reduceAdd, Nat.reduceSub, Nat.reduceBEq, reduceCtorEq, Int.reduceNeg, bs_nil, bs_beq, bs_size, bs_append]
    refine hX.pure (p73 l j hj hl) rfl rfl (by decide) ?_
    simp only [zS, hX.T, hX.nt, reduceIte, Nat.reduceEqDiff, Nat.reduceLT, Nat.reduceLeDiff, Nat.reduceAdd, Nat.reduceSub, Nat.reduceBEq, reduceCtorEq, Int.reduceNeg, bs_nil, bs_beq, bs_size, bs_append, fndS]
    (refine hX.ret (by first | exact .inl rfl | exact .inr rfl) ?_; simp only [zR, zS, hX.T, hX.nt, reduceIte, Nat.reduceEqDiff, Nat.reduceLT, Nat.reduceLeDiff, Nat.reduceAdd, Nat.reduceSub, Nat.reduceBEq, reduceCtorEq, Int.reduceNeg, fndS] <;> try rfl)
theorem p34 (l : List Sch) (hl : OkL l) : PureFn Tryd.prog 34 [slS l] (fndS (some (lastC l))) := by
  have h1 := hl.ne
  have h2 := hl.le
  have hw : IntKind.i64.wrap ((l.length : Int) - 1) = ((l.length - 1 : Nat) : Int) := by rw [wrap_id (by omega) (by omega)]; omega
  have q := p73 l (l.length - 1) (by omega) hl
  have e : l[l.length - 1]'(by omega) = lastC l := by
    rw [← lastC_get h1, List.getD_eq_getElem?_getD, List.getElem?_eq_getElem (by omega)]; rfl
  rw [e] at q
  (refine PureFn.of_run ty_ok Tryd.func34 (c := Tryd.f34.body.get!) rfl (by decide) Tryd.ntmps34 (res := [.cell 2 35, .tmp 3]) Tryd.results34 (Nat.le_of_ble_eq_true rfl) ?_; intro X hX hR; refine vc_ok hX.ok hX.fn 1000 _ _ ?_; simp only [Tryd.f34, Option.get!])
  simp only [zS, hX.T, hX.nt, reduceIte, Nat.reduceEqDiff, Nat.reduceLT, Nat.reduceLeDiff, Nat.reduceAdd, Nat.reduceSub, Nat.reduceBEq, reduceCtorEq, Int.reduceNeg, bs_nil, bs_beq, bs_size, bs_append, hw]
  refine hX.pure q rfl rfl (by decide) ?_
  simp only [zS, hX.T, hX.nt, reduceIte, Nat.reduceEqDiff, Nat.reduceLT, Nat.reduceLeDiff, Nat.reduceAdd, Nat.reduceSub, Nat.reduceBEq, reduceCtorEq, Int.reduceNeg, bs_nil, bs_beq, bs_size, bs_append, fndS]
  (refine hX.ret (by first | exact .inl rfl | exact .inr rfl) ?_; simp only [zR, zS, hX.T, hX.nt, reduceIte, Nat.reduceEqDiff, Nat.reduceLT, Nat.reduceLeDiff, Nat.reduceAdd, Nat.reduceSub, Nat.reduceBEq, reduceCtorEq, Int.reduceNeg, fndS] <;> try rfl)
theorem p23 (l : List Sch) (a : Alt) : PureFn Tryd.prog 23 [slS l, .agg (encA a)] (.tup [slS (extendC l a).1, I (extendC l a).2]) := by
  have q := p28 l
  cases hr : rightC l
  · rw [extendC, if_pos hr]
    rw [hr] at q
    (refine PureFn.of_run ty_ok Tryd.func23 (c := Tryd.f23.body.get!) rfl (by decide) Tryd.ntmps23 (res := [.tmp 4, .tmp 5]) Tryd.results23 (Nat.le_of_ble_eq_true rfl) ?_; intro X hX hR; refine vc_ok hX.ok hX.fn 1000 _ _ ?_; simp only [Tryd.f23, Option.get!])
    simp only [zS, hX.T, hX.nt, reduceIte, Nat.reduceEqDiff, Nat.reduceLT, Nat.reduceLeDiff, Nat.reduceAdd, Nat.reduceSub, Nat.reduceBEq, reduceCtorEq, Int.reduceNeg, bs_nil, bs_beq, bs_size, bs_append]
    refine hX.pure q rfl rfl (by decide) ?_
    simp only [zS, hX.T, hX.nt, reduceIte, Nat.reduceEqDiff, Nat.reduceLT, Nat.reduceLeDiff, Nat.reduceAdd, Nat.reduceSub, Nat.reduceBEq, reduceCtorEq, Int.reduceNeg, bs_nil, bs_beq, bs_size, bs_append]
    (refine hX.retLe (by first | exact .inl rfl | exact .inr rfl) (r0 := .tup [.v (.slice none 0 0), I 1]) (by simp only [zR, zS, hX.T, hX.nt, reduceIte, Nat.reduceEqDiff, Nat.reduceLT, Nat.reduceLeDiff, Nat.reduceAdd, Nat.reduceSub, Nat.reduceBEq, reduceCtorEq, Int.reduceNeg] <;> try rfl) ?_)
    exact le_ss 1
  · obtain ⟨h1, h2⟩ := rightC_len hr
    rw [extendC, if_neg (by simp [hr])]
    rw [hr] at q
    have hw : IntKind.i64.wrap ((l.length : Int) - 1) = ((l.length - 1 : Nat) : Int) := by rw [wrap_id (by omega) (by omega)]; omega
    have hlt : ((l.length - 1 : Nat) : Int) < (l.length : Int) := by omega
    have hrow := row_last h1
    have q2 := p67 (lastC l) a
    (refine PureFn.of_run ty_ok Tryd.func23 (c := Tryd.f23.body.get!) rfl (by decide) Tryd.ntmps23 (res := [.tmp 4, .tmp 5]) Tryd.results23 (Nat.le_of_ble_eq_true rfl) ?_; intro X hX hR; refine vc_ok hX.ok hX.fn 1000 _ _ ?_; simp only [Tryd.f23, Option.get!])
    simp only [zS, hX.T, hX.nt, reduceIte, Nat.reduceEqDiff, Nat.reduceLT, Nat.reduceLeDiff, Nat.reduceAdd, Nat.reduceSub, Nat.reduceBEq, reduceCtorEq, Int.reduceNeg, bs_nil, bs_beq, bs_size, bs_append]
    refine hX.pure q rfl rfl (by decide) ?_
    simp only [zS, hX.T, hX.nt, reduceIte, Nat.reduceEqDiff, Nat.reduceLT, Nat.reduceLeDiff, Nat.reduceAdd, Nat.reduceSub, Nat.reduceBEq, reduceCtorEq, Int.reduceNeg, bs_nil, bs_beq, bs_size, bs_append]
    refine hX.draw (by kernel_rfl) (by decide) ?_
    simp only [zS, hX.T, hX.nt, reduceIte, Nat.reduceEqDiff, Nat.reduceLT, Nat.reduceLeDiff, Nat.reduceAdd, Nat.reduceSub, Nat.reduceBEq, reduceCtorEq, Int.reduceNeg, bs_nil, bs_beq, bs_size, bs_append, hw, hlt, Int.natCast_nonneg, hrow]
    refine hX.pureD q2 rfl rfl (by decide) ?_
    simp only [zS, hX.T, hX.nt, reduceIte, Nat.reduceEqDiff, Nat.reduceLT, Nat.reduceLeDiff, Nat.reduceAdd, Nat.reduceSub, Nat.reduceBEq, reduceCtorEq, Int.reduceNeg, bs_nil, bs_beq, bs_size, bs_append]
    refine hX.gos (by rfl) ?_
    simp only [zS, hX.T, hX.nt, reduceIte, Nat.reduceEqDiff, Nat.reduceLT, Nat.reduceLeDiff, Nat.reduceAdd, Nat.reduceSub, Nat.reduceBEq, reduceCtorEq, Int.reduceNeg, bs_nil, bs_beq, bs_size, bs_append]
    refine bc_split (fun h3 => ?_) (fun h3 => ?_)
    · have h3 : (nextA (lastC l) a).2 ≠ 0 := by simpa using h3
      rw [if_pos h3] at hX
      simp only [zS, hX.T, hX.nt, reduceIte, Nat.reduceEqDiff, Nat.reduceLT, Nat.reduceLeDiff, Nat.reduceAdd, Nat.reduceSub, Nat.reduceBEq, reduceCtorEq, Int.reduceNeg, bs_nil, bs_beq, bs_size, bs_append]
      (refine hX.retLe (by first | exact .inl rfl | exact .inr rfl) (r0 := .tup [.v (.slice none 0 0), I (nextA (lastC l) a).2]) (by simp only [zR, zS, hX.T, hX.nt, reduceIte, Nat.reduceEqDiff, Nat.reduceLT, Nat.reduceLeDiff, Nat.reduceAdd, Nat.reduceSub, Nat.reduceBEq, reduceCtorEq, Int.reduceNeg] <;> try rfl) ?_)
      exact le_ss _
    · have h3 : ¬ (nextA (lastC l) a).2 ≠ 0 := by simpa using h3
      rw [if_neg h3] at hX
      simp only [zS, hX.T, hX.nt, reduceIte, Nat.reduceEqDiff, Nat.reduceLT, Nat.reduceLeDiff, Nat.reduceAdd, Nat.reduceSub, Nat.reduceBEq, reduceCtorEq, Int.reduceNeg, bs_nil, bs_beq, bs_size, bs_append]
      refine bc_split (fun h4 => ?_) (fun h4 => ?_)
      · have h4 : (l.length : Int) = 10 := by simpa using h4
        rw [if_pos (by omega)] at hX
        simp only [zS, hX.T, hX.nt, reduceIte, Nat.reduceEqDiff, Nat.reduceLT, Nat.reduceLeDiff, Nat.reduceAdd, Nat.reduceSub, Nat.reduceBEq, reduceCtorEq, Int.reduceNeg, bs_nil, bs_beq, bs_size, bs_append]
        (refine hX.retLe (by first | exact .inl rfl | exact .inr rfl) (r0 := .tup [.v (.slice none 0 0), I 15]) (by simp only [zR, zS, hX.T, hX.nt, reduceIte, Nat.reduceEqDiff, Nat.reduceLT, Nat.reduceLeDiff, Nat.reduceAdd, Nat.reduceSub, Nat.reduceBEq, reduceCtorEq, Int.reduceNeg] <;> try rfl) ?_)
        exact le_ss _
      · have h4 : ¬ (l.length : Int) = 10 := by simpa using h4
        rw [if_neg (by omega)] at hX
        have hap2 : appOk (l.length + 1) 40 = true := appOk40 (by omega)
        simp only [zS, hX.T, hX.nt, reduceIte, Nat.reduceEqDiff, Nat.reduceLT, Nat.reduceLeDiff, Nat.reduceAdd, Nat.reduceSub, Nat.reduceBEq, reduceCtorEq, Int.reduceNeg, bs_nil, bs_beq, bs_size, bs_append]
        refine hX.draw (by kernel_rfl) (by decide) ?_
        simp only [zS, hX.T, hX.nt, reduceIte, Nat.reduceEqDiff, Nat.reduceLT, Nat.reduceLeDiff, Nat.reduceAdd, Nat.reduceSub, Nat.reduceBEq, reduceCtorEq, Int.reduceNeg, bs_nil, bs_beq, bs_size, bs_append]
        refine hX.fnED (p68 l (OkL.of hr)) [(4094, 31)] rfl (fun p hp => by cases hp) (by rfl) (by decide) ?_
        simp only [zS, hX.T, hX.nt, reduceIte, Nat.reduceEqDiff, Nat.reduceLT, Nat.reduceLeDiff, Nat.reduceAdd, Nat.reduceSub, Nat.reduceBEq, reduceCtorEq, Int.reduceNeg, bs_nil, bs_beq, bs_size, bs_append, fnSt, fnEff, Eff.ap, apE, tb, ren, renL, renB, List.filter_cons, List.filter_nil, hap2, List.length_append]
        refine hX.gos (by rfl) ?_
        simp only [zS, hX.T, hX.nt, reduceIte, Nat.reduceEqDiff, Nat.reduceLT, Nat.reduceLeDiff, Nat.reduceAdd, Nat.reduceSub, Nat.reduceBEq, reduceCtorEq, Int.reduceNeg, bs_nil, bs_beq, bs_size, bs_append]
        (refine hX.ret (by first | exact .inl rfl | exact .inr rfl) ?_; simp only [zR, zS, hX.T, hX.nt, reduceIte, Nat.reduceEqDiff, Nat.reduceLT, Nat.reduceLeDiff, Nat.reduceAdd, Nat.reduceSub, Nat.reduceBEq, reduceCtorEq, Int.reduceNeg, List.map_append] <;> try rfl)
theorem vers_lt {l : List Sch} (h : rightC l = true) {i j : Nat} (hi : i < l.length) (hj : j < l.length) : (l[i].ver < l[j].ver ↔ i < j) := by
  simp only [rightC, Bool.and_eq_true] at h
  have hp := (rightCs_iff.1 h.1.1).2
  rw [List.pairwise_iff_getElem] at hp
  rcases Nat.lt_trichotomy i j with hlt | heq | hgt
  · have := (hp i j hi hj hlt).1
    omega
  · subst heq; omega
  · have := (hp j i hj hi hgt).1
    omega
theorem p17 (l : List Sch) (r : Rw) (to : Int) : PureFn Tryd.prog 17 [slS l, .agg (encR r), I to] (.tup [.agg (encR (resolveC l r to).1), I (resolveC l r to).2]) := by
  have q := p28 l
  have q1 := p61 l r.ver
  have q2 := p61 l to
  cases hr : rightC l
  · rw [resolveC, if_pos hr]
    rw [hr] at q
    (refine PureFn.of_run ty_ok Tryd.func17 (c := Tryd.f17.body.get!) rfl (by decide) Tryd.ntmps17 (res := [.cell 6 25, .tmp 7]) Tryd.results17 (Nat.le_of_ble_eq_true rfl) ?_; intro X hX hR; refine vc_ok hX.ok hX.fn 1000 _ _ ?_; simp only [Tryd.f17, Option.get!])
    simp only [zS, hX.T, hX.nt, reduceIte, Nat.reduceEqDiff, Nat.reduceLT, Nat.reduceLeDiff, Nat.reduceAdd, Nat.reduceSub, Nat.reduceBEq, reduceCtorEq, Int.reduceNeg, bs_nil, bs_beq, bs_size, bs_append]
    refine hX.pure q1 rfl rfl (by decide) ?_
    simp only [zS, hX.T, hX.nt, reduceIte, Nat.reduceEqDiff, Nat.reduceLT, Nat.reduceLeDiff, Nat.reduceAdd, Nat.reduceSub, Nat.reduceBEq, reduceCtorEq, Int.reduceNeg, bs_nil, bs_beq, bs_size, bs_append]
    refine hX.pure q2 rfl rfl (by decide) ?_
    simp only [zS, hX.T, hX.nt, reduceIte, Nat.reduceEqDiff, Nat.reduceLT, Nat.reduceLeDiff, Nat.reduceAdd, Nat.reduceSub, Nat.reduceBEq, reduceCtorEq, Int.reduceNeg, bs_nil, bs_beq, bs_size, bs_append]
    refine hX.pure q rfl rfl (by decide) ?_
    simp only [zS, hX.T, hX.nt, reduceIte, Nat.reduceEqDiff, Nat.reduceLT, Nat.reduceLeDiff, Nat.reduceAdd, Nat.reduceSub, Nat.reduceBEq, reduceCtorEq, Int.reduceNeg, bs_nil, bs_beq, bs_size, bs_append]
    (refine hX.retLe (by first | exact .inl rfl | exact .inr rfl) (r0 := .tup [.agg [I 0, .v (.slice none 0 0)], I 1]) (by simp only [zR, zS, hX.T, hX.nt, reduceIte, Nat.reduceEqDiff, Nat.reduceLT, Nat.reduceLeDiff, Nat.reduceAdd, Nat.reduceSub, Nat.reduceBEq, reduceCtorEq, Int.reduceNeg] <;> try rfl) ?_)
    exact le_r0 1
  · rw [resolveC, if_neg (by simp [hr])]
    rw [hr] at q
    obtain ⟨hc1, hc2⟩ := rightC_len hr
    have bad : ∀ i j : Int, idxP (hitV r.ver) l 0 = i → idxP (hitV to) l 0 = j → (i < 0 ∨ j < 0) → PureFn Tryd.prog 17 [slS l, .agg (encR r), I to] (.tup [.agg (encR rw0), I 19]) := by
      intro i j e1 e2 hb
      rw [e1] at q1
      rw [e2] at q2
      (refine PureFn.of_run ty_ok Tryd.func17 (c := Tryd.f17.body.get!) rfl (by decide) Tryd.ntmps17 (res := [.cell 6 25, .tmp 7]) Tryd.results17 (Nat.le_of_ble_eq_true rfl) ?_; intro X hX hR; refine vc_ok hX.ok hX.fn 1000 _ _ ?_; simp only [Tryd.f17, Option.get!])
      simp only [zS, hX.T, hX.nt, reduceIte, Nat.reduceEqDiff, Nat.reduceLT, Nat.reduceLeDiff, Nat.reduceAdd, Nat.reduceSub, Nat.reduceBEq, reduceCtorEq, Int.reduceNeg, bs_nil, bs_beq, bs_size, bs_append]
      refine hX.pure q1 rfl rfl (by decide) ?_
      simp only [zS, hX.T, hX.nt, reduceIte, Nat.reduceEqDiff, Nat.reduceLT, Nat.reduceLeDiff, Nat.reduceAdd, Nat.reduceSub, Nat.reduceBEq, reduceCtorEq, Int.reduceNeg, bs_nil, bs_beq, bs_size, bs_append]
      refine hX.pure q2 rfl rfl (by decide) ?_
      simp only [zS, hX.T, hX.nt, reduceIte, Nat.reduceEqDiff, Nat.reduceLT, Nat.reduceLeDiff, Nat.reduceAdd, Nat.reduceSub, Nat.reduceBEq, reduceCtorEq, Int.reduceNeg, bs_nil, bs_beq, bs_size, bs_append]
      refine hX.pure q rfl rfl (by decide) ?_
      simp only [zS, hX.T, hX.nt, reduceIte, Nat.reduceEqDiff, Nat.reduceLT, Nat.reduceLeDiff, Nat.reduceAdd, Nat.reduceSub, Nat.reduceBEq, reduceCtorEq, Int.reduceNeg, bs_nil, bs_beq, bs_size, bs_append]
      repeat' first | (refine bc_split (fun h => ?_) (fun h => ?_) <;> simp only [zS, hX.T, hX.nt, reduceIte, Nat.reduceEqDiff, Nat.reduceLT, Nat.reduceLeDiff, Nat.reduceAdd, Nat.reduceSub, Nat.reduceBEq, reduceCtorEq, Int.reduceNeg, bs_nil, bs_beq, bs_size, bs_append, zS, h]) | (refine bg_split (fun h => ?_) (fun h => ?_) <;> simp only [zS, hX.T, hX.nt, reduceIte, Nat.reduceEqDiff, Nat.reduceLT, Nat.reduceLeDiff, Nat.reduceAdd, Nat.reduceSub, Nat.reduceBEq, reduceCtorEq, Int.reduceNeg, bs_nil, bs_beq, bs_size, bs_append, zS, h]) | (refine pb_split (fun h => ?_) (fun h => ?_) <;> simp only [zS, hX.T, hX.nt, reduceIte, Nat.reduceEqDiff, Nat.reduceLT, Nat.reduceLeDiff, Nat.reduceAdd, Nat.reduceSub, Nat.reduceBEq, reduceCtorEq, Int.reduceNeg, bs_nil, bs_beq, bs_size, bs_append, zS, h]) | (refine hX.gos (by rfl) ?_; simp only [zS, hX.T, hX.nt, reduceIte, Nat.reduceEqDiff, Nat.reduceLT, Nat.reduceLeDiff, Nat.reduceAdd, Nat.reduceSub, Nat.reduceBEq, reduceCtorEq, Int.reduceNeg, bs_nil, bs_beq, bs_size, bs_append, zS])
      all_goals first
        | (exfalso; clear hX hR q q1 q2; grind)
        | ((refine hX.retLe (by first | exact .inl rfl | exact .inr rfl) (r0 := .tup [.agg [I 0, .v (.slice none 0 0)], I 19]) (by simp only [zR, zS, hX.T, hX.nt, reduceIte, Nat.reduceEqDiff, Nat.reduceLT, Nat.reduceLeDiff, Nat.reduceAdd, Nat.reduceSub, Nat.reduceBEq, reduceCtorEq, Int.reduceNeg] <;> try rfl) ?_); exact le_r0 19)
    rcases idx_find l r.ver with ⟨f1, f2⟩ | ⟨i, hi, f1, f2, f3⟩
    · simp only [f1]
      exact bad _ _ f2 rfl (.inl (by decide))
    · rcases idx_find l to with ⟨g1, g2⟩ | ⟨j, hj, g1, g2, g3⟩
      · simp only [f1, g1]
        exact bad _ _ rfl g2 (.inr (by decide))
      · clear bad
        rw [f2] at q1
        rw [g2] at q2
        simp only [f1, g1]
        have q3 := p62 l[i] l[j] r.vs
        have hcmp : (to < r.ver ↔ j < i) := by rw [← f3, ← g3]; exact vers_lt hr hj hi
        have d1 : decide ((i : Int) < 0) = false := by simp only [decide_eq_false_iff_not]; omega
        have d2 : decide ((j : Int) < 0) = false := by simp only [decide_eq_false_iff_not]; omega
        have hil : (i : Int) < (l.length : Int) := by omega
        have hjl : (j : Int) < (l.length : Int) := by omega
        have hri := row_nat encS l i hi
        have hrj := row_nat encS l j hj
        (refine PureFn.of_run ty_ok Tryd.func17 (c := Tryd.f17.body.get!) rfl (by decide) Tryd.ntmps17 (res := [.cell 6 25, .tmp 7]) Tryd.results17 (Nat.le_of_ble_eq_true rfl) ?_; intro X hX hR; refine vc_ok hX.ok hX.fn 1000 _ _ ?_; simp only [Tryd.f17, Option.get!])
        simp only [zS, hX.T, hX.nt, reduceIte, Nat.reduceEqDiff, Nat.reduceLT, Nat.reduceLeDiff, Nat.reduceAdd, Nat.reduceSub, Nat.reduceBEq, reduceCtorEq, Int.reduceNeg, bs_nil, bs_beq, bs_size, bs_append]
        refine hX.pure q1 rfl rfl (by decide) ?_
        simp only [zS, hX.T, hX.nt, reduceIte, Nat.reduceEqDiff, Nat.reduceLT, Nat.reduceLeDiff, Nat.reduceAdd, Nat.reduceSub, Nat.reduceBEq, reduceCtorEq, Int.reduceNeg, bs_nil, bs_beq, bs_size, bs_append]
        refine hX.pure q2 rfl rfl (by decide) ?_
        simp only [zS, hX.T, hX.nt, reduceIte, Nat.reduceEqDiff, Nat.reduceLT, Nat.reduceLeDiff, Nat.reduceAdd, Nat.reduceSub, Nat.reduceBEq, reduceCtorEq, Int.reduceNeg, bs_nil, bs_beq, bs_size, bs_append]
        refine hX.pure q rfl rfl (by decide) ?_
        simp only [zS, hX.T, hX.nt, reduceIte, Nat.reduceEqDiff, Nat.reduceLT, Nat.reduceLeDiff, Nat.reduceAdd, Nat.reduceSub, Nat.reduceBEq, reduceCtorEq, Int.reduceNeg, bs_nil, bs_beq, bs_size, bs_append, d1, d2]
        refine bc_split (fun h => ?_) (fun h => ?_)
        · have h := of_decide_eq_true h
          rw [if_pos (hcmp.2 (by omega))] at hX
          simp only [zS, hX.T, hX.nt, reduceIte, Nat.reduceEqDiff, Nat.reduceLT, Nat.reduceLeDiff, Nat.reduceAdd, Nat.reduceSub, Nat.reduceBEq, reduceCtorEq, Int.reduceNeg, bs_nil, bs_beq, bs_size, bs_append]
          (refine hX.retLe (by first | exact .inl rfl | exact .inr rfl) (r0 := .tup [.agg [I 0, .v (.slice none 0 0)], I 14]) (by simp only [zR, zS, hX.T, hX.nt, reduceIte, Nat.reduceEqDiff, Nat.reduceLT, Nat.reduceLeDiff, Nat.reduceAdd, Nat.reduceSub, Nat.reduceBEq, reduceCtorEq, Int.reduceNeg] <;> try rfl) ?_)
          exact le_r0 14
        · have h := of_decide_eq_false h
          rw [if_neg (fun e => by have := hcmp.1 e; omega)] at hX
          simp only [zS, hX.T, hX.nt, reduceIte, Nat.reduceEqDiff, Nat.reduceLT, Nat.reduceLeDiff, Nat.reduceAdd, Nat.reduceSub, Nat.reduceBEq, reduceCtorEq, Int.reduceNeg, bs_nil, bs_beq, bs_size, bs_append]
          refine hX.draw (by kernel_rfl) (by decide) ?_
          simp only [zS, hX.T, hX.nt, reduceIte, Nat.reduceEqDiff, Nat.reduceLT, Nat.reduceLeDiff, Nat.reduceAdd, Nat.reduceSub, Nat.reduceBEq, reduceCtorEq, Int.reduceNeg, bs_nil, bs_beq, bs_size, bs_append, hil, hjl, Int.natCast_nonneg, hri, hrj]
          refine hX.pureD q3 rfl rfl (by decide) ?_
          simp only [zS, hX.T, hX.nt, reduceIte, Nat.reduceEqDiff, Nat.reduceLT, Nat.reduceLeDiff, Nat.reduceAdd, Nat.reduceSub, Nat.reduceBEq, reduceCtorEq, Int.reduceNeg, bs_nil, bs_beq, bs_size, bs_append]
          refine hX.gos (by rfl) ?_
          simp only [zS, hX.T, hX.nt, reduceIte, Nat.reduceEqDiff, Nat.reduceLT, Nat.reduceLeDiff, Nat.reduceAdd, Nat.reduceSub, Nat.reduceBEq, reduceCtorEq, Int.reduceNeg, bs_nil, bs_beq, bs_size, bs_append]
          refine bc_split (fun h => ?_) (fun h => ?_)
          · have h : (rowA l[i] l[j] r.vs).2 ≠ 0 := by simpa using h
            rw [if_pos h] at hX
            simp only [zS, hX.T, hX.nt, reduceIte, Nat.reduceEqDiff, Nat.reduceLT, Nat.reduceLeDiff, Nat.reduceAdd, Nat.reduceSub, Nat.reduceBEq, reduceCtorEq, Int.reduceNeg, bs_nil, bs_beq, bs_size, bs_append]
            (refine hX.retLe (by first | exact .inl rfl | exact .inr rfl) (r0 := .tup [.agg [I 0, .v (.slice none 0 0)], I (rowA l[i] l[j] r.vs).2]) (by simp only [zR, zS, hX.T, hX.nt, reduceIte, Nat.reduceEqDiff, Nat.reduceLT, Nat.reduceLeDiff, Nat.reduceAdd, Nat.reduceSub, Nat.reduceBEq, reduceCtorEq, Int.reduceNeg] <;> try rfl) ?_)
            exact le_r0 _
          · have h : ¬ (rowA l[i] l[j] r.vs).2 ≠ 0 := by simpa using h
            rw [if_neg h] at hX
            simp only [zS, hX.T, hX.nt, reduceIte, Nat.reduceEqDiff, Nat.reduceLT, Nat.reduceLeDiff, Nat.reduceAdd, Nat.reduceSub, Nat.reduceBEq, reduceCtorEq, Int.reduceNeg, bs_nil, bs_beq, bs_size, bs_append]
            (refine hX.ret (by first | exact .inl rfl | exact .inr rfl) ?_; simp only [zR, zS, hX.T, hX.nt, reduceIte, Nat.reduceEqDiff, Nat.reduceLT, Nat.reduceLeDiff, Nat.reduceAdd, Nat.reduceSub, Nat.reduceBEq, reduceCtorEq, Int.reduceNeg] <;> try rfl)
end Go.Proofs.YtkbidoikndgheaaDoor.HL

namespace Go.Proofs.YtkbidoikndgheaaDoor.HL
open Go.Proofs
set_option maxRecDepth 100000
set_option maxHeartbeats 4000000
theorem filter_del {l : List Sch} (h : rightC l = true) {j : Nat} (hj : j < l.length) : (l.filter fun s => s.ver != l[j].ver) = l.take j ++ l.drop (j + 1) := by
  have hsp : l = l.take j ++ l[j] :: l.drop (j + 1) := by rw [← List.drop_eq_getElem_cons hj, List.take_append_drop]
  have ht : (l.take j).filter (fun s => s.ver != l[j].ver) = l.take j := List.filter_eq_self.2 (fun s hs => by
    obtain ⟨k, hk, rfl⟩ := List.mem_take_iff_getElem.1 hs
    have := (vers_lt h (show k < l.length by omega) hj).2 (by omega)
    simp only [bne_iff_ne, ne_eq]
    omega)
  have hd : (l.drop (j + 1)).filter (fun s => s.ver != l[j].ver) = l.drop (j + 1) := List.filter_eq_self.2 (fun s hs => by
    obtain ⟨k, hk, rfl⟩ := List.mem_drop_iff_getElem.1 hs
    have := (vers_lt h hj (show j + 1 + k < l.length by omega)).2 (by omega)
    simp only [bne_iff_ne, ne_eq]
    omega)
  have e : ∀ p : Sch → Bool, l.filter p = (l.take j).filter p ++ (if p l[j] = true then l[j] :: (l.drop (j + 1)).filter p else (l.drop (j + 1)).filter p) := fun p => by
    conv => lhs; rw [hsp]
    rw [List.filter_append, List.filter_cons]
  rw [e, ht, hd]
  simp
theorem p32 (l : List Sch) (v : Int) : PureFn Tryd.prog 32 [slS l, I v] (.tup [slS (retireC l v).1, I (retireC l v).2]) := by
  have q := p28 l
  have q1 := p61 l v
  cases hr : rightC l
  · rw [retireC, if_pos hr]
    rw [hr] at q
    (refine PureFn.of_run ty_ok Tryd.func32 (c := Tryd.f32.body.get!) rfl (by decide) Tryd.ntmps32 (res := [.tmp 4, .tmp 5]) Tryd.results32 (Nat.le_of_ble_eq_true rfl) ?_; intro X hX hR; refine vc_ok hX.ok hX.fn 1000 _ _ ?_; simp only [Tryd.f32, Option.get!])
    simp only [zS, hX.T, hX.nt, reduceIte, Nat.reduceEqDiff, Nat.reduceLT, Nat.reduceLeDiff, Nat.reduceAdd, Nat.reduceSub, Nat.reduceBEq, reduceCtorEq, Int.reduceNeg, bs_nil, bs_beq, bs_size, bs_append]
    refine hX.pure q1 rfl rfl (by decide) ?_
    simp only [zS, hX.T, hX.nt, reduceIte, Nat.reduceEqDiff, Nat.reduceLT, Nat.reduceLeDiff, Nat.reduceAdd, Nat.reduceSub, Nat.reduceBEq, reduceCtorEq, Int.reduceNeg, bs_nil, bs_beq, bs_size, bs_append]
    refine hX.pure q rfl rfl (by decide) ?_
    simp only [zS, hX.T, hX.nt, reduceIte, Nat.reduceEqDiff, Nat.reduceLT, Nat.reduceLeDiff, Nat.reduceAdd, Nat.reduceSub, Nat.reduceBEq, reduceCtorEq, Int.reduceNeg, bs_nil, bs_beq, bs_size, bs_append]
    (refine hX.retLe (by first | exact .inl rfl | exact .inr rfl) (r0 := .tup [.v (.slice none 0 0), I 1]) (by simp only [zR, zS, hX.T, hX.nt, reduceIte, Nat.reduceEqDiff, Nat.reduceLT, Nat.reduceLeDiff, Nat.reduceAdd, Nat.reduceSub, Nat.reduceBEq, reduceCtorEq, Int.reduceNeg] <;> try rfl) ?_)
    exact le_ss 1
  · obtain ⟨h1, h2⟩ := rightC_len hr
    rw [retireC, if_neg (by simp [hr])]
    rw [hr] at q
    have hw : IntKind.i64.wrap ((l.length : Int) - 1) = ((l.length - 1 : Nat) : Int) := by rw [wrap_id (by omega) (by omega)]; omega
    rcases idx_find l v with ⟨f1, f2⟩ | ⟨j, hj, f1, f2, f3⟩
    · rw [f1, if_pos (show (none : Option Sch).isNone = true from rfl)]
      rw [f2] at q1
      (refine PureFn.of_run ty_ok Tryd.func32 (c := Tryd.f32.body.get!) rfl (by decide) Tryd.ntmps32 (res := [.tmp 4, .tmp 5]) Tryd.results32 (Nat.le_of_ble_eq_true rfl) ?_; intro X hX hR; refine vc_ok hX.ok hX.fn 1000 _ _ ?_; simp only [Tryd.f32, Option.get!])
      simp only [zS, hX.T, hX.nt, reduceIte, Nat.reduceEqDiff, Nat.reduceLT, Nat.reduceLeDiff, Nat.reduceAdd, Nat.reduceSub, Nat.reduceBEq, reduceCtorEq, Int.reduceNeg, bs_nil, bs_beq, bs_size, bs_append]
      refine hX.pure q1 rfl rfl (by decide) ?_
      simp only [zS, hX.T, hX.nt, reduceIte, Nat.reduceEqDiff, Nat.reduceLT, Nat.reduceLeDiff, Nat.reduceAdd, Nat.reduceSub, Nat.reduceBEq, reduceCtorEq, Int.reduceNeg, bs_nil, bs_beq, bs_size, bs_append]
      refine hX.pure q rfl rfl (by decide) ?_
      simp only [zS, hX.T, hX.nt, reduceIte, Nat.reduceEqDiff, Nat.reduceLT, Nat.reduceLeDiff, Nat.reduceAdd, Nat.reduceSub, Nat.reduceBEq, reduceCtorEq, Int.reduceNeg, bs_nil, bs_beq, bs_size, bs_append, wr0, wr1, wr2, wr3, wr4, wr5, wr6, wr7, wr8, wr9, wr10, wr11, wr12, Int.reduceBNe, Int.reduceGE, Int.reduceGT, Int.reduceBEq, Int.reduceLT, Int.reduceLE, Int.reduceEq, Int.reduceAdd, Int.reduceSub, decide_true, decide_false]
      (refine hX.retLe (by first | exact .inl rfl | exact .inr rfl) (r0 := .tup [.v (.slice none 0 0), I 19]) (by simp only [zR, zS, hX.T, hX.nt, reduceIte, Nat.reduceEqDiff, Nat.reduceLT, Nat.reduceLeDiff, Nat.reduceAdd, Nat.reduceSub, Nat.reduceBEq, reduceCtorEq, Int.reduceNeg] <;> try rfl) ?_)
      exact le_ss 19
    · rw [f1, if_neg (by exact fun h => by cases h)]
      rw [f2] at q1
      have d1 : decide ((j : Int) < 0) = false := by simp only [decide_eq_false_iff_not]; omega
      have elast : l[l.length - 1]'(by omega) = lastC l := by
        rw [← lastC_get h1, List.getD_eq_getElem?_getD, List.getElem?_eq_getElem (by omega)]; rfl
      have hlast : (lastC l).ver = v ↔ j = l.length - 1 := by
        rw [← elast, ← f3]
        constructor
        · intro e
          rcases Nat.lt_or_ge j (l.length - 1) with hlt | hge
          · have := (vers_lt hr hj (show l.length - 1 < l.length by omega)).2 hlt
            omega
          · omega
        · intro e
          subst e
          rfl
      have hfd := filter_del hr hj
      rw [f3] at hfd
      have hwj : IntKind.i64.wrap ((j : Int) + 1) = ((j + 1 : Nat) : Int) := by rw [wrap_id (by omega) (by omega)]; rfl
      (refine PureFn.of_run ty_ok Tryd.func32 (c := Tryd.f32.body.get!) rfl (by decide) Tryd.ntmps32 (res := [.tmp 4, .tmp 5]) Tryd.results32 (Nat.le_of_ble_eq_true rfl) ?_; intro X hX hR; refine vc_ok hX.ok hX.fn 1000 _ _ ?_; simp only [Tryd.f32, Option.get!])
      simp only [zS, hX.T, hX.nt, reduceIte, Nat.reduceEqDiff, Nat.reduceLT, Nat.reduceLeDiff, Nat.reduceAdd, Nat.reduceSub, Nat.reduceBEq, reduceCtorEq, Int.reduceNeg, bs_nil, bs_beq, bs_size, bs_append]
      refine hX.pure q1 rfl rfl (by decide) ?_
      simp only [zS, hX.T, hX.nt, reduceIte, Nat.reduceEqDiff, Nat.reduceLT, Nat.reduceLeDiff, Nat.reduceAdd, Nat.reduceSub, Nat.reduceBEq, reduceCtorEq, Int.reduceNeg, bs_nil, bs_beq, bs_size, bs_append]
      refine hX.pure q rfl rfl (by decide) ?_
      simp only [zS, hX.T, hX.nt, reduceIte, Nat.reduceEqDiff, Nat.reduceLT, Nat.reduceLeDiff, Nat.reduceAdd, Nat.reduceSub, Nat.reduceBEq, reduceCtorEq, Int.reduceNeg, bs_nil, bs_beq, bs_size, bs_append, d1, hw]
      refine bc_split (fun h => ?_) (fun h => ?_)
      · have h : (j : Int) = ((l.length - 1 : Nat) : Int) := by simpa using h
        rw [if_pos (hlast.2 (by omega))] at hX
        simp only [zS, hX.T, hX.nt, reduceIte, Nat.reduceEqDiff, Nat.reduceLT, Nat.reduceLeDiff, Nat.reduceAdd, Nat.reduceSub, Nat.reduceBEq, reduceCtorEq, Int.reduceNeg, bs_nil, bs_beq, bs_size, bs_append]
        (refine hX.retLe (by first | exact .inl rfl | exact .inr rfl) (r0 := .tup [.v (.slice none 0 0), I 14]) (by simp only [zR, zS, hX.T, hX.nt, reduceIte, Nat.reduceEqDiff, Nat.reduceLT, Nat.reduceLeDiff, Nat.reduceAdd, Nat.reduceSub, Nat.reduceBEq, reduceCtorEq, Int.reduceNeg] <;> try rfl) ?_)
        exact le_ss 14
      · have h : ¬ (j : Int) = ((l.length - 1 : Nat) : Int) := by simpa using h
        rw [if_neg (fun e => h (by rw [hlast.1 e])), hfd] at hX
        simp only [zS, hX.T, hX.nt, reduceIte, Nat.reduceEqDiff, Nat.reduceLT, Nat.reduceLeDiff, Nat.reduceAdd, Nat.reduceSub, Nat.reduceBEq, reduceCtorEq, Int.reduceNeg, bs_nil, bs_beq, bs_size, bs_append]
        refine hX.fnE (p68 l (OkL.of hr)) [(4094, 24)] rfl (fun p hp => by cases hp) (by rfl) (by decide) ?_
        simp only [zS, hX.T, hX.nt, reduceIte, Nat.reduceEqDiff, Nat.reduceLT, Nat.reduceLeDiff, Nat.reduceAdd, Nat.reduceSub, Nat.reduceBEq, reduceCtorEq, Int.reduceNeg, bs_nil, bs_beq, bs_size, bs_append, fnSt, fnEff, Eff.ap, apE, tb, ren, renL, renB, List.filter_cons, List.filter_nil, hwj]
        refine hX.fnE (p74 (l.map encS) j (by simpa using hj)) [(4095, 24), (4094, 28)] rfl (fun p hp => by
          simp only [List.mem_singleton] at hp
          subst hp
          simp only [zS, hX.T, hX.nt, reduceIte, Nat.reduceEqDiff, Nat.reduceLT, Nat.reduceLeDiff, Nat.reduceAdd, Nat.reduceSub, Nat.reduceBEq, reduceCtorEq, Int.reduceNeg, bs_nil, bs_beq, bs_size, bs_append, tb, renB] <;> rfl) (by rfl) (by decide) ?_
        simp only [zS, hX.T, hX.nt, reduceIte, Nat.reduceEqDiff, Nat.reduceLT, Nat.reduceLeDiff, Nat.reduceAdd, Nat.reduceSub, Nat.reduceBEq, reduceCtorEq, Int.reduceNeg, bs_nil, bs_beq, bs_size, bs_append, fnSt, fnEff, Eff.ap, apE, tb, ren, renL, renB, List.filter_cons, List.filter_nil]
        (refine hX.ret (by first | exact .inl rfl | exact .inr rfl) ?_; simp only [zR, zS, hX.T, hX.nt, reduceIte, Nat.reduceEqDiff, Nat.reduceLT, Nat.reduceLeDiff, Nat.reduceAdd, Nat.reduceSub, Nat.reduceBEq, reduceCtorEq, Int.reduceNeg, List.map_append, List.map_take, List.map_drop] <;> try rfl)
end Go.Proofs.YtkbidoikndgheaaDoor.HL

