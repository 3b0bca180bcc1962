/- The types of this program; plain laws of schemas and chains; ranges over functions. -/
import Derived.Test.YtkbidoikndgheaaDoorH3
import Derived.Test.YtkbidoikndgheaaDoorProg
import Derived.Laws.Externs
set_option linter.unusedVariables false
set_option linter.unusedSimpArgs false
namespace Go.Proofs.YtkbidoikndgheaaDoor.HL
open Go.Proofs
def ty : Nat → TI
  | 2 => ⟨.int .i64, 1, 8, [.v (.int .i64 0)], false⟩
  | 3 => ⟨.int .i64, 1, 8, [.v (.int .i64 0)], false⟩
  | 4 => ⟨.bool, 1, 1, [.v (.bool false)], false⟩
  | 5 => ⟨.int .u8, 1, 1, [.v (.int .u8 0)], false⟩
  | 6 => ⟨.int .u8, 1, 1, [.v (.int .u8 0)], false⟩
  | 7 => ⟨.struct [(0, 2), (1, 3), (2, 4), (3, 6)], 4, 24, [.v (.int .i64 0), .v (.int .i64 0), .v (.bool false), .v (.int .u8 0)], false⟩
  | 8 => ⟨.struct [(0, 2), (1, 3), (2, 4), (3, 6)], 4, 24, [.v (.int .i64 0), .v (.int .i64 0), .v (.bool false), .v (.int .u8 0)], false⟩
  | 9 => ⟨.str, 1, 16, [.v (.string ⟨#[]⟩)], false⟩
  | 10 => ⟨.str, 1, 16, [.v (.string ⟨#[]⟩)], false⟩
  | 11 => ⟨.str, 1, 16, [.v (.string ⟨#[]⟩)], false⟩
  | 12 => ⟨.int .u64, 1, 8, [.v (.int .u64 0)], false⟩
  | 13 => ⟨.struct [(0, 9), (1, 12)], 2, 24, [.v (.string ⟨#[]⟩), .v (.int .u64 0)], false⟩
  | 14 => ⟨.struct [(0, 9), (1, 12)], 2, 24, [.v (.string ⟨#[]⟩), .v (.int .u64 0)], false⟩
  | 15 => ⟨.ptr 202, 1, 8, [.v (.pointer none)], false⟩
  | 16 => ⟨.ptr 205, 1, 8, [.v (.pointer none)], false⟩
  | 17 => ⟨.ptr 213, 1, 8, [.v (.pointer none)], false⟩
  | 18 => ⟨.struct [(0, 17)], 1, 8, [.v (.pointer none)], false⟩
  | 19 => ⟨.struct [(0, 17)], 1, 8, [.v (.pointer none)], false⟩
  | 20 => ⟨.other, 1, 16, [.v (.nilIface)], false⟩
  | 21 => ⟨.int .i32, 1, 4, [.v (.int .i32 0)], false⟩
  | 22 => ⟨.slice 35, 1, 24, [.v (.slice none 0 0)], false⟩
  | 23 => ⟨.slice 43, 1, 24, [.v (.slice none 0 0)], false⟩
  | 24 => ⟨.struct [(0, 3), (1, 23)], 2, 32, [.v (.int .i64 0), .v (.slice none 0 0)], false⟩
  | 25 => ⟨.struct [(0, 3), (1, 23)], 2, 32, [.v (.int .i64 0), .v (.slice none 0 0)], false⟩
  | 28 => ⟨.int .i64, 1, 8, [.v (.int .i64 0)], false⟩
  | 33 => ⟨.slice 45, 1, 24, [.v (.slice none 0 0)], false⟩
  | 34 => ⟨.struct [(0, 3), (1, 3), (2, 33)], 3, 40, [.v (.int .i64 0), .v (.int .i64 0), .v (.slice none 0 0)], false⟩
  | 35 => ⟨.struct [(0, 3), (1, 3), (2, 33)], 3, 40, [.v (.int .i64 0), .v (.int .i64 0), .v (.slice none 0 0)], false⟩
  | 36 => ⟨.slice 48, 1, 24, [.v (.slice none 0 0)], false⟩
  | 37 => ⟨.slice 3, 1, 24, [.v (.slice none 0 0)], false⟩
  | 42 => ⟨.struct [(0, 3), (1, 3), (2, 9)], 3, 32, [.v (.int .i64 0), .v (.int .i64 0), .v (.string ⟨#[]⟩)], false⟩
  | 43 => ⟨.struct [(0, 3), (1, 3), (2, 9)], 3, 32, [.v (.int .i64 0), .v (.int .i64 0), .v (.string ⟨#[]⟩)], true⟩
  | 44 => ⟨.struct [(0, 3), (1, 3), (2, 9), (3, 43)], 6, 64, [.v (.int .i64 0), .v (.int .i64 0), .v (.string ⟨#[]⟩), .v (.int .i64 0), .v (.int .i64 0), .v (.string ⟨#[]⟩)], false⟩
  | 45 => ⟨.struct [(0, 3), (1, 3), (2, 9), (3, 43)], 6, 64, [.v (.int .i64 0), .v (.int .i64 0), .v (.string ⟨#[]⟩), .v (.int .i64 0), .v (.int .i64 0), .v (.string ⟨#[]⟩)], true⟩
  | 47 => ⟨.struct [(0, 3), (1, 9), (2, 9), (3, 3), (4, 43)], 7, 80, [.v (.int .i64 0), .v (.string ⟨#[]⟩), .v (.string ⟨#[]⟩), .v (.int .i64 0), .v (.int .i64 0), .v (.int .i64 0), .v (.string ⟨#[]⟩)], false⟩
  | 48 => ⟨.struct [(0, 3), (1, 9), (2, 9), (3, 3), (4, 43)], 7, 80, [.v (.int .i64 0), .v (.string ⟨#[]⟩), .v (.string ⟨#[]⟩), .v (.int .i64 0), .v (.int .i64 0), .v (.int .i64 0), .v (.string ⟨#[]⟩)], false⟩
  | 79 => ⟨.slice 5, 1, 24, [.v (.slice none 0 0)], false⟩
  | 95 => ⟨.slice 37, 1, 24, [.v (.slice none 0 0)], false⟩
  | 96 => ⟨.slice 37, 1, 24, [.v (.slice none 0 0)], false⟩
  | 107 => ⟨.ptr 3, 1, 8, [.v (.pointer none)], false⟩
  | 114 => ⟨.other, 1, 8, [.v (.nilFunc)], false⟩
  | 116 => ⟨.other, 1, 8, [.v (.nilFunc)], false⟩
  | 121 => ⟨.ptr 123, 1, 8, [.v (.pointer none)], false⟩
  | 122 => ⟨.struct [(0, 121), (1, 79)], 2, 32, [.v (.pointer none), .v (.slice none 0 0)], false⟩
  | 123 => ⟨.struct [(0, 121), (1, 79)], 2, 32, [.v (.pointer none), .v (.slice none 0 0)], false⟩
  | 124 => ⟨.other, 1, 16, [.v (.nilIface)], false⟩
  | 125 => ⟨.other, 1, 16, [.v (.nilIface)], false⟩
  | 132 => ⟨.map 3 43, 1, 8, [.v (.map none)], false⟩
  | 140 => ⟨.ptr 45, 1, 8, [.v (.pointer none)], false⟩
  | 146 => ⟨.int .u64, 1, 8, [.v (.int .u64 0)], false⟩
  | 150 => ⟨.slice 107, 1, 24, [.v (.slice none 0 0)], false⟩
  | 159 => ⟨.array 256 4, 256, 256, List.replicate 256 (.v (.bool false)), false⟩
  | 163 => ⟨.ptr 159, 1, 8, [.v (.pointer none)], false⟩
  | 166 => ⟨.ptr 5, 1, 8, [.v (.pointer none)], false⟩
  | 170 => ⟨.array 9 5, 9, 9, [.v (.int .u8 0), .v (.int .u8 0), .v (.int .u8 0), .v (.int .u8 0), .v (.int .u8 0), .v (.int .u8 0), .v (.int .u8 0), .v (.int .u8 0), .v (.int .u8 0)], false⟩
  | 171 => ⟨.int .u64, 1, 8, [.v (.int .u64 0)], false⟩
  | 184 => ⟨.array 5 3, 5, 40, [.v (.int .i64 0), .v (.int .i64 0), .v (.int .i64 0), .v (.int .i64 0), .v (.int .i64 0)], false⟩
  | 193 => ⟨.struct [(0, 5), (1, 5)], 2, 2, [.v (.int .u8 0), .v (.int .u8 0)], false⟩
  | 194 => ⟨.struct [(0, 5), (1, 5)], 2, 2, [.v (.int .u8 0), .v (.int .u8 0)], false⟩
  | 195 => ⟨.array 16 194, 32, 32, [.v (.int .u8 0), .v (.int .u8 0), .v (.int .u8 0), .v (.int .u8 0), .v (.int .u8 0), .v (.int .u8 0), .v (.int .u8 0), .v (.int .u8 0), .v (.int .u8 0), .v (.int .u8 0), .v (.int .u8 0), .v (.int .u8 0), .v (.int .u8 0), .v (.int .u8 0), .v (.int .u8 0), .v (.int .u8 0), .v (.int .u8 0), .v (.int .u8 0), .v (.int .u8 0), .v (.int .u8 0), .v (.int .u8 0), .v (.int .u8 0), .v (.int .u8 0), .v (.int .u8 0), .v (.int .u8 0), .v (.int .u8 0), .v (.int .u8 0), .v (.int .u8 0), .v (.int .u8 0), .v (.int .u8 0), .v (.int .u8 0), .v (.int .u8 0)], false⟩
  | 198 => ⟨.int .u32, 1, 4, [.v (.int .u32 0)], false⟩
  | 201 => ⟨.struct [(0, 17), (1, 17), (2, 17), (3, 9)], 4, 40, [.v (.pointer none), .v (.pointer none), .v (.pointer none), .v (.string ⟨#[]⟩)], false⟩
  | 202 => ⟨.struct [(0, 17), (1, 17), (2, 17), (3, 9)], 4, 40, [.v (.pointer none), .v (.pointer none), .v (.pointer none), .v (.string ⟨#[]⟩)], false⟩
  | 207 => ⟨.int .u8, 1, 1, [.v (.int .u8 0)], false⟩
  | 208 => ⟨.int .u8, 1, 1, [.v (.int .u8 0)], false⟩
  | 210 => ⟨.int .i32, 1, 4, [.v (.int .i32 0)], false⟩
  | 211 => ⟨.int .i32, 1, 4, [.v (.int .i32 0)], false⟩
  | 212 => ⟨.struct [(0, 12), (1, 12), (2, 198), (3, 207), (4, 5), (5, 5), (6, 208), (7, 209), (8, 166), (9, 210), (10, 211)], 11, 48, [.v (.int .u64 0), .v (.int .u64 0), .v (.int .u32 0), .v (.int .u8 0), .v (.int .u8 0), .v (.int .u8 0), .v (.int .u8 0), .v (.nilFunc), .v (.pointer none), .v (.int .i32 0), .v (.int .i32 0)], false⟩
  | 213 => ⟨.struct [(0, 12), (1, 12), (2, 198), (3, 207), (4, 5), (5, 5), (6, 208), (7, 209), (8, 166), (9, 210), (10, 211)], 11, 48, [.v (.int .u64 0), .v (.int .u64 0), .v (.int .u32 0), .v (.int .u8 0), .v (.int .u8 0), .v (.int .u8 0), .v (.int .u8 0), .v (.nilFunc), .v (.pointer none), .v (.int .i32 0), .v (.int .i32 0)], false⟩
  | _ => default
set_option maxRecDepth 100000
structure TyI (P : Program) (t : Nat) (x : TI) : Prop where
  i : ∃ i z, P.info? t = some i ∧ i.size = x.size ∧ i.bytes = x.bytes ∧ i.zero = some z ∧ z.cells.toList.map .v = x.zero ∧ (∀ v ∈ z.cells.toList, v.oneCell' = true) ∧ z.cells.size = x.size ∧ zok x.k.isAgg z = true
  k : ∃ d, P.underlying t = some d ∧ TKok P d x.k
  n : x.size ≠ 0
theorem ty_all (t : Nat) : ty t = default ∨ TyI Tryd.prog t (ty t) := by
  unfold ty
  split
  all_goals first
      | exact .inl rfl
      | exact .inr ⟨⟨_, .agg _, rfl, rfl, rfl, rfl, rfl, by decide, rfl, rfl⟩, ⟨_, rfl, _, rfl, rfl, by simp only [List.mem_cons, List.not_mem_nil, or_false, forall_eq_or_imp, forall_eq]; (repeat' apply And.intro) <;> exact ⟨_, rfl, by decide⟩⟩, by decide⟩
      | exact .inr ⟨⟨_, _, rfl, rfl, rfl, rfl, rfl, by decide, rfl, rfl⟩, ⟨_, rfl, rfl⟩, by decide⟩
      | exact .inr ⟨⟨_, _, rfl, rfl, rfl, rfl, rfl, by decide, rfl, rfl⟩, ⟨_, rfl, trivial⟩, by decide⟩
theorem ty_eq (t : Nat) (h : (ty t).eq = true) : t = 43 ∨ t = 45 := by
  unfold ty at h
  split at h <;> first | (cases h; done) | simp
theorem eqv43 (n : Nat) (w : World) (a1 a2 c1 c2 : Int) (a3 c3 : ByteArray) : (Op.equalIn (n + 2) 43 (.agg #[.int .i64 a1, .int .i64 a2, .string a3]) (.agg #[.int .i64 c1, .int .i64 c2, .string c3])).run Tryd.prog w = .ok ((a1 == c1) && ((a2 == c2) && ((a3.toList == c3.toList) && true))) w := by
  have h0 : Tryd.prog.underlying 43 = some (.struct (Tryd.prog.fieldsOf 43)) := by kernel_rfl
  have u3 := Tryd.underlying3
  have a3' := Tryd.isAgg3
  have z3 := Tryd.sizeOf3
  have u9 := Tryd.underlying9
  have a9 := Tryd.isAgg9
  have z9 := Tryd.sizeOf9
  rw [run_equalIn_struct w (n + 1) 43 _ _ h0 (by kernel_rfl)]
  simp only [Program.fieldsOf, Tryd.underlying43]
  go_simp
  by_cases h1 : a1 = c1 <;> by_cases h2 : a2 = c2 <;> by_cases h3 : a3.toList = c3.toList <;> simp [h1, h2, h3]
theorem eqv45 (w : World) (a1 a2 c1 c2 b1 b2 d1 d2 : Int) (a3 c3 b3 d3 : ByteArray) :
    (Op.equalIn 10000 45 (.agg #[.int .i64 a1, .int .i64 a2, .string a3, .int .i64 b1, .int .i64 b2, .string b3]) (.agg #[.int .i64 c1, .int .i64 c2, .string c3, .int .i64 d1, .int .i64 d2, .string d3])).run Tryd.prog w = .ok ((a1 == c1) && ((a2 == c2) && ((a3.toList == c3.toList) && ((b1 == d1) && ((b2 == d2) && ((b3.toList == d3.toList) && true)))))) w := by
  have h0 : Tryd.prog.underlying 45 = some (.struct (Tryd.prog.fieldsOf 45)) := by kernel_rfl
  have u3 := Tryd.underlying3
  have a3' := Tryd.isAgg3
  have z3 := Tryd.sizeOf3
  have u9 := Tryd.underlying9
  have a9 := Tryd.isAgg9
  have z9 := Tryd.sizeOf9
  have u43 := Tryd.underlying43
  have a43 := Tryd.isAgg43
  have z43 := Tryd.sizeOf43
  have e43 := eqv43 9997 w
  rw [show (10000 : Nat) = 9999 + 1 from rfl, run_equalIn_struct w 9999 45 _ _ h0 (by kernel_rfl)]
  simp only [Program.fieldsOf, Tryd.underlying45]
  go_simp
  by_cases h1 : a1 = c1 <;> by_cases h2 : a2 = c2 <;> by_cases h3 : a3.toList = c3.toList <;> by_cases h4 : b1 = d1 <;> by_cases h5 : b2 = d2 <;> by_cases h6 : b3.toList = d3.toList <;> simp [h1, h2, h3, h4, h5, h6]
theorem ty_ok : TOk Tryd.prog ty where
  info := fun t h => (ty_all t).elim (fun e => absurd (by rw [e]; rfl) h) (·.i)
  kind := fun t h => (ty_all t).elim (fun e => absurd (by rw [e]; rfl) h) (·.k)
  eq := fun t h => by
    refine ⟨by rcases ty_eq t h with rfl | rfl <;> kernel_rfl, fun w cs ds b hb => ?_⟩
    rcases ty_eq t h with rfl | rfl
    · obtain ⟨a1, c1, cs1, ds1, b1, rfl, rfl, h1, rfl⟩ := eqL_int (show eqL [.v (.int .i64 0), .v (.int .i64 0), .v (.string ⟨#[]⟩)] _ _ = some b from hb)
      obtain ⟨a2, c2, cs2, ds2, b2, rfl, rfl, h2, rfl⟩ := eqL_int h1
      obtain ⟨a3, c3, cs3, ds3, b3, rfl, rfl, h3, rfl⟩ := eqL_str h2
      obtain ⟨rfl, rfl, rfl⟩ := eqL_nil h3
      exact eqv43 9998 w a1 a2 c1 c2 a3 c3
    · obtain ⟨a1, c1, cs1, ds1, b1, rfl, rfl, h1, rfl⟩ := eqL_int (show eqL [.v (.int .i64 0), .v (.int .i64 0), .v (.string ⟨#[]⟩), .v (.int .i64 0), .v (.int .i64 0), .v (.string ⟨#[]⟩)] _ _ = some b from hb)
      obtain ⟨a2, c2, cs2, ds2, b2, rfl, rfl, h2, rfl⟩ := eqL_int h1
      obtain ⟨a3, c3, cs3, ds3, b3, rfl, rfl, h3, rfl⟩ := eqL_str h2
      obtain ⟨a4, c4, cs4, ds4, b4, rfl, rfl, h4, rfl⟩ := eqL_int h3
      obtain ⟨a5, c5, cs5, ds5, b5, rfl, rfl, h5, rfl⟩ := eqL_int h4
      obtain ⟨a6, c6, cs6, ds6, b6, rfl, rfl, h6, rfl⟩ := eqL_str h5
      obtain ⟨rfl, rfl, rfl⟩ := eqL_nil h6
      exact eqv45 w a1 a2 c1 c2 a4 a5 c4 c5 a3 c3 a6 c6
  dflt := fun t h => (ty_all t).elim (fun e => by rw [e]; rfl) (fun hi => absurd h hi.n)
end Go.Proofs.YtkbidoikndgheaaDoor.HL

/-! Plain data and plain functions: what the program's and the references' functions of the layers value, lattice, schema, alter and chain compute. -/
namespace Go.Proofs.YtkbidoikndgheaaDoor.HL
abbrev Bs := List UInt8
structure Val where
  k : Int
  n : Int
  s : Bs
  deriving DecidableEq
structure Fld where
  id : Int
  kind : Int
  name : Bs
  d : Val
  deriving DecidableEq
structure Sch where
  ver : Int
  next : Int
  fs : List Fld
  deriving DecidableEq
structure Alt where
  op : Int
  name : Bs
  to : Bs
  kind : Int
  d : Val
structure Rw where
  ver : Int
  vs : List Val
  deriving DecidableEq
def val0 : Val := ⟨0, 0, []⟩
def fld0 : Fld := ⟨0, 0, [], val0⟩
def sch0 : Sch := ⟨0, 0, []⟩
def rw0 : Rw := ⟨0, []⟩

/-! value -/
def rightV (v : Val) : Bool :=
  if v.k = 1 then (v.n == 0 || v.n == 1) && v.s == []
  else if v.k = 2 then decide (-32768 ≤ v.n) && decide (v.n ≤ 32767) && v.s == []
  else if v.k = 3 then decide (-2147483648 ≤ v.n) && decide (v.n ≤ 2147483647) && v.s == []
  else if v.k = 4 then v.s == []
  else if v.k = 5 then v.n == 0 && decide (v.s.length ≤ 32)
  else if v.k = 6 then v.n == 0 && decide (v.s.length ≤ 1000)
  else false
/-! lattice -/
def kindOk (k : Int) : Bool := decide (1 ≤ k) && decide (k ≤ 6)
def below (a b : Int) : Bool := kindOk a && kindOk b && (decide (a ≤ 4) == decide (b ≤ 4)) && decide (a ≤ b)
def widen (v : Val) (k : Int) : Val × Int :=
  if rightV v = false ∨ kindOk k = false then (val0, 1) else if below v.k k = false then (val0, 12) else (⟨k, v.n, v.s⟩, 0)
/-! schema -/
def letter (c : UInt8) : Bool := decide (97 ≤ c) && decide (c ≤ 122)
def sign (c : UInt8) : Bool := letter c || (decide (48 ≤ c) && decide (c ≤ 57)) || c == 95
def nameOk : Bs → Bool
  | [] => false
  | c :: l => letter c && l.all sign && decide (l.length + 1 ≤ 24)
def rightF (f : Fld) (next : Int) : Bool := decide (1 ≤ f.id) && decide (f.id < next) && nameOk f.name && rightV f.d && f.d.k == f.kind
def clash (f g : Fld) : Bool := g.id == f.id || g.name == f.name
def rightFs (next : Int) : List Fld → List Fld → Bool
  | _, [] => true
  | pre, f :: l => rightF f next && !(pre.any (clash f)) && rightFs next (pre ++ [f]) l
def rightS (s : Sch) : Bool :=
  rightFs s.next [] s.fs && decide (1 ≤ s.ver) && decide (s.ver ≤ 1000000) && decide (1 ≤ s.next) && decide (s.next ≤ 1000) && decide (1 ≤ s.fs.length) && decide (s.fs.length ≤ 12)
def findN (fs : List Fld) (nm : Bs) : Option Fld := fs.find? fun f => f.name == nm
def findI (fs : List Fld) (id : Int) : Option Fld := fs.find? fun f => f.id == id
def fitsL : List Fld → List Val → Int
  | f :: fs, v :: vs => if rightV v = false then 13 else if v.k ≠ f.kind then 12 else fitsL fs vs
  | _, _ => 0
def fits (fs : List Fld) (l : List Val) : Int := if l.length ≠ fs.length then 13 else fitsL fs l
/-! alter -/
def freshN (s : Sch) (nm : Bs) : Int := if nameOk nm = false then 3 else if (findN s.fs nm).isSome then 5 else 0
def rule (s : Sch) (a : Alt) : Int :=
  if a.op = 1 then
    (if freshN s a.name ≠ 0 then freshN s a.name else if s.fs.length ≥ 12 ∨ s.next ≥ 1000 then 11 else if rightV a.d = false ∨ a.d.k ≠ a.kind then 12 else 0)
  else match findN s.fs a.name with
    | none => 4
    | some f =>
      if a.op = 2 ∧ s.fs.length = 1 then 14
      else if a.op = 3 then freshN s a.to
      else if a.op = 4 ∧ (below f.kind a.kind = false ∨ f.kind = a.kind) then 12
      else 0
def checkA (s : Sch) (a : Alt) : Int :=
  if rightS s = false ∨ a.op < 1 ∨ a.op > 4 then 1 else if rule s a ≠ 0 then rule s a else if s.ver ≥ 1000000 then 14 else 0
def altF (a : Alt) (f : Fld) : Option Fld :=
  if f.name = a.name then
    (if a.op = 2 then none else if a.op = 3 then some { f with name := a.to } else if a.op = 4 then some { f with kind := a.kind, d := { f.d with k := a.kind } } else some f)
  else some f
def altS (s : Sch) (a : Alt) : Sch :=
  if a.op = 1 then ⟨s.ver + 1, s.next + 1, s.fs ++ [⟨s.next, a.kind, a.name, a.d⟩]⟩ else ⟨s.ver + 1, s.next, s.fs.filterMap (altF a)⟩
def nextA (s : Sch) (a : Alt) : Sch × Int := if checkA s a ≠ 0 then (sch0, checkA s a) else (altS s a, 0)
def number (i : Nat) : List Fld → List Fld
  | [] => []
  | f :: l => { f with id := (i : Int) + 1 } :: number (i + 1) l
def newA (fs : List Fld) : Sch × Int :=
  if fs.length = 0 ∨ fs.length > 12 then (sch0, 11) else
  if rightS ⟨1, fs.length + 1, number 0 fs⟩ = false then (sch0, 1) else (⟨1, fs.length + 1, number 0 fs⟩, 0)
def valOf : List Fld → List Val → Int → Option Val
  | f :: fs, v :: vs, id => if f.id = id then some v else valOf fs vs id
  | _, _, _ => none
def rowL (from_ : List Fld) (l : List Val) : List Fld → Option (List Val)
  | [] => some []
  | g :: gs => match valOf from_ l g.id with
    | none => (rowL from_ l gs).map (g.d :: ·)
    | some v => if (widen v g.kind).2 ≠ 0 then none else (rowL from_ l gs).map ((widen v g.kind).1 :: ·)
def rowA (from_ to : Sch) (l : List Val) : List Val × Int :=
  if rightS from_ = false ∨ rightS to = false then ([], 1) else if fits from_.fs l ≠ 0 then ([], fits from_.fs l) else
  match rowL from_.fs l to.fs with
  | none => ([], 14)
  | some r => (r, 0)
/-! chain -/
def rightCs : List Sch → Bool
  | [] => true
  | [s] => rightS s
  | s :: t :: l => rightS s && decide (s.ver < t.ver) && decide (s.next ≤ t.next) && rightCs (t :: l)
def rightC (l : List Sch) : Bool := rightCs l && decide (1 ≤ l.length) && decide (l.length ≤ 10)
def findC (l : List Sch) (v : Int) : Option Sch := l.find? fun s => s.ver == v
def lastC (l : List Sch) : Sch := l.getLastD sch0
def extendC (l : List Sch) (a : Alt) : List Sch × Int :=
  if rightC l = false then ([], 1) else if (nextA (lastC l) a).2 ≠ 0 then ([], (nextA (lastC l) a).2) else if l.length ≥ 10 then ([], 15) else (l ++ [(nextA (lastC l) a).1], 0)
def resolveC (l : List Sch) (r : Rw) (to : Int) : Rw × Int :=
  if rightC l = false then (rw0, 1) else
  match findC l r.ver, findC l to with
  | some a, some b => if to < r.ver then (rw0, 14) else if (rowA a b r.vs).2 ≠ 0 then (rw0, (rowA a b r.vs).2) else (⟨to, (rowA a b r.vs).1⟩, 0)
  | _, _ => (rw0, 19)
def retireC (l : List Sch) (v : Int) : List Sch × Int :=
  if rightC l = false then ([], 1) else if (findC l v).isNone then ([], 19) else if (lastC l).ver = v then ([], 14) else (l.filter fun s => s.ver != v, 0)
end Go.Proofs.YtkbidoikndgheaaDoor.HL

/-! The plain laws of chapter 16: what the functions of S1 compute, without the program. -/
namespace Go.Proofs.YtkbidoikndgheaaDoor.HL
theorem below_iff {a b : Int} : below a b = true ↔ 1 ≤ a ∧ a ≤ b ∧ b ≤ 6 ∧ (b ≤ 4 ∨ 5 ≤ a) := by
  simp only [below, kindOk, Bool.and_eq_true, decide_eq_true_eq, beq_iff_eq, decide_eq_decide]
  omega
theorem below_refl {a : Int} (h : kindOk a = true) : below a a = true := by
  simp only [kindOk, Bool.and_eq_true, decide_eq_true_eq] at h
  rw [below_iff]; omega
theorem below_trans {a b c : Int} (h : below a b = true) (k : below b c = true) : below a c = true := by
  rw [below_iff] at *; omega
theorem rightV_kind {v : Val} (h : rightV v = true) : kindOk v.k = true := by
  unfold rightV at h
  simp only [kindOk, Bool.and_eq_true, decide_eq_true_eq]
  split at h
  · omega
  · split at h
    · omega
    · split at h
      · omega
      · split at h
        · omega
        · split at h
          · omega
          · split at h
            · omega
            · cases h
theorem rightV_widen {v : Val} {k : Int} (h : rightV v = true) (hb : below v.k k = true) : rightV ⟨k, v.n, v.s⟩ = true := by
  rw [below_iff] at hb
  obtain ⟨vk, n, s⟩ := v
  simp only at hb
  have h1 : vk = 1 ∨ vk = 2 ∨ vk = 3 ∨ vk = 4 ∨ vk = 5 ∨ vk = 6 := by omega
  have h2 : k = 1 ∨ k = 2 ∨ k = 3 ∨ k = 4 ∨ k = 5 ∨ k = 6 := by omega
  rcases h1 with rfl | rfl | rfl | rfl | rfl | rfl <;> rcases h2 with rfl | rfl | rfl | rfl | rfl | rfl <;>
    first
    | exact h
    | omega
    | (simp [rightV] at h ⊢
       first
       | exact h.2
       | exact ⟨by omega, h.2⟩
       | exact ⟨⟨by omega, by omega⟩, h.2⟩
       | exact ⟨h.1, by omega⟩
       | (obtain ⟨h1 | h1, h2⟩ := h <;> simp [h1, h2]))

/-! right schemas -/
theorem rightFs_iff {next : Int} : ∀ {l pre : List Fld}, rightFs next pre l = true ↔ (∀ f ∈ l, rightF f next = true) ∧ (∀ f ∈ l, ∀ g ∈ pre, clash f g = false) ∧ l.Pairwise fun f g => clash g f = false
  | [], pre => by simp [rightFs]
  | f :: l, pre => by
    simp only [rightFs, Bool.and_eq_true, Bool.not_eq_true', List.any_eq_false, rightFs_iff (l := l), List.pairwise_cons, List.mem_cons, forall_eq_or_imp, List.mem_append, List.not_mem_nil, or_false, Bool.not_eq_true]
    constructor
    · rintro ⟨⟨h1, h2⟩, h3, h4, h5⟩
      exact ⟨⟨h1, h3⟩, ⟨h2, fun g hg x hx => h4 g hg x (.inl hx)⟩, fun g hg => h4 g hg f (.inr rfl), h5⟩
    · rintro ⟨⟨h1, h3⟩, ⟨h2, h4⟩, h6, h5⟩
      refine ⟨⟨h1, h2⟩, h3, fun g hg x hx => ?_, h5⟩
      rcases hx with hx | rfl
      · exact h4 g hg x hx
      · exact h6 g hg
structure RightS (s : Sch) : Prop where
  fs : ∀ f ∈ s.fs, rightF f s.next = true
  pw : s.fs.Pairwise fun f g => clash g f = false
  v1 : 1 ≤ s.ver
  v2 : s.ver ≤ 1000000
  n1 : 1 ≤ s.next
  n2 : s.next ≤ 1000
  l1 : 1 ≤ s.fs.length
  l2 : s.fs.length ≤ 12
theorem rightS_iff {s : Sch} : rightS s = true ↔ RightS s := by
  simp only [rightS, Bool.and_eq_true, decide_eq_true_eq, rightFs_iff]
  constructor
  · rintro ⟨⟨⟨⟨⟨⟨⟨h1, _, h2⟩, h3⟩, h4⟩, h5⟩, h6⟩, h7⟩, h8⟩
    exact ⟨h1, h2, h3, h4, h5, h6, h7, h8⟩
  · rintro ⟨h1, h2, h3, h4, h5, h6, h7, h8⟩
    exact ⟨⟨⟨⟨⟨⟨⟨h1, by simp, h2⟩, h3⟩, h4⟩, h5⟩, h6⟩, h7⟩, h8⟩
theorem rightF_iff {f : Fld} {n : Int} : rightF f n = true ↔ 1 ≤ f.id ∧ f.id < n ∧ nameOk f.name = true ∧ rightV f.d = true ∧ f.d.k = f.kind := by
  simp only [rightF, Bool.and_eq_true, decide_eq_true_eq, beq_iff_eq, and_assoc]
theorem clash_false {f g : Fld} : clash f g = false ↔ g.id ≠ f.id ∧ g.name ≠ f.name := by
  simp [clash]
theorem RightS.ids {s : Sch} (h : RightS s) : s.fs.Pairwise fun f g => f.id ≠ g.id := h.pw.imp fun h => (clash_false.1 h).1
theorem RightS.names {s : Sch} (h : RightS s) : s.fs.Pairwise fun f g => f.name ≠ g.name := h.pw.imp fun h => (clash_false.1 h).2
theorem pw_eq {α : Type} {R : α → α → Prop} (hs : ∀ x y, R x y → R y x) : ∀ {l : List α}, l.Pairwise R → ∀ x ∈ l, ∀ y ∈ l, x = y ∨ R x y
  | [], _, x, hx, _, _ => by cases hx
  | a :: l, h, x, hx, y, hy => by
    rw [List.pairwise_cons] at h
    rcases List.mem_cons.1 hx with rfl | hx
    · rcases List.mem_cons.1 hy with rfl | hy
      · exact .inl rfl
      · exact .inr (h.1 y hy)
    · rcases List.mem_cons.1 hy with e | hy
      · exact .inr (hs _ _ (e ▸ h.1 x hx))
      · exact pw_eq hs h.2 x hx y hy
theorem RightS.id_eq {s : Sch} (h : RightS s) {f g : Fld} (hf : f ∈ s.fs) (hg : g ∈ s.fs) (e : f.id = g.id) : f = g :=
  (pw_eq (fun _ _ h => h.symm) h.ids f hf g hg).resolve_right (fun h => h e)
theorem RightS.name_eq {s : Sch} (h : RightS s) {f g : Fld} (hf : f ∈ s.fs) (hg : g ∈ s.fs) (e : f.name = g.name) : f = g :=
  (pw_eq (fun _ _ h => h.symm) h.names f hf g hg).resolve_right (fun h => h e)
theorem findN_some {fs : List Fld} {nm : Bs} {f : Fld} (h : findN fs nm = some f) : f ∈ fs ∧ f.name = nm :=
  ⟨List.mem_of_find?_eq_some h, by simpa using List.find?_some h⟩
theorem findN_none {fs : List Fld} {nm : Bs} (h : findN fs nm = none) : ∀ f ∈ fs, f.name ≠ nm := fun f hf => by
  have := List.find?_eq_none.1 h f hf
  simpa using this
theorem findI_some {fs : List Fld} {id : Int} {f : Fld} (h : findI fs id = some f) : f ∈ fs ∧ f.id = id :=
  ⟨List.mem_of_find?_eq_some h, by simpa using List.find?_some h⟩
theorem findI_none {fs : List Fld} {id : Int} (h : findI fs id = none) : ∀ f ∈ fs, f.id ≠ id := fun f hf => by
  have := List.find?_eq_none.1 h f hf
  simpa using this
theorem RightS.findI {s : Sch} (h : RightS s) {f : Fld} (hf : f ∈ s.fs) : findI s.fs f.id = some f := by
  cases hg : HL.findI s.fs f.id with
  | none => exact absurd rfl (findI_none hg f hf)
  | some g => rw [h.id_eq (findI_some hg).1 hf (findI_some hg).2]
theorem RightS.findN {s : Sch} (h : RightS s) {f : Fld} (hf : f ∈ s.fs) : findN s.fs f.name = some f := by
  cases hg : HL.findN s.fs f.name with
  | none => exact absurd rfl (findN_none hg f hf)
  | some g => rw [h.name_eq (findN_some hg).1 hf (findN_some hg).2]

/-! A later version of a schema. -/
structure Comp (a b : Sch) : Prop where
  next : a.next ≤ b.next
  fs : ∀ g ∈ b.fs, (∃ f ∈ a.fs, f.id = g.id ∧ below f.kind g.kind = true ∧ g.d.n = f.d.n ∧ g.d.s = f.d.s) ∨ a.next ≤ g.id
theorem RightS.kind {s : Sch} (h : RightS s) {f : Fld} (hf : f ∈ s.fs) : kindOk f.kind = true := by
  obtain ⟨_, _, _, h4, h5⟩ := rightF_iff.1 (h.fs f hf)
  rw [← h5]; exact rightV_kind h4
theorem Comp.refl {s : Sch} (h : RightS s) : Comp s s := ⟨Int.le_refl _, fun g hg => .inl ⟨g, hg, rfl, below_refl (h.kind hg), rfl, rfl⟩⟩
theorem Comp.trans {a b c : Sch} (h : Comp a b) (k : Comp b c) : Comp a c := ⟨Int.le_trans h.next k.next, fun g hg => by
  rcases k.fs g hg with ⟨f, hf, e1, e2, e3, e4⟩ | h1
  · rcases h.fs f hf with ⟨f', hf', e1', e2', e3', e4'⟩ | h2
    · exact .inl ⟨f', hf', e1'.trans e1, below_trans e2' e2, e3.trans e3', e4.trans e4'⟩
    · exact .inr (by omega)
  · exact .inr (Int.le_trans h.next h1)⟩
theorem checkA_zero {s : Sch} {a : Alt} (h : checkA s a = 0) : RightS s ∧ 1 ≤ a.op ∧ a.op ≤ 4 ∧ rule s a = 0 ∧ s.ver < 1000000 := by
  unfold checkA at h
  split at h
  · cases h
  · rename_i h1
    split at h
    · exact absurd h (by assumption)
    · rename_i h2
      split at h
      · cases h
      · rename_i h3
        simp only [not_or, Bool.not_eq_false, Int.not_lt] at h1
        exact ⟨rightS_iff.1 h1.1, h1.2.1, by have := h1.2.2; omega, by simpa using h2, by omega⟩
theorem freshN_zero {s : Sch} {nm : Bs} (h : freshN s nm = 0) : nameOk nm = true ∧ ∀ f ∈ s.fs, f.name ≠ nm := by
  unfold freshN at h
  split at h
  · cases h
  · rename_i h1
    split at h
    · cases h
    · rename_i h2
      exact ⟨by simpa using h1, findN_none (by simpa using h2)⟩
theorem fltMap_pw {α : Type} {R : α → α → Prop} {p : α → Option α} (hp : ∀ x y x' y', R x y → p x = some x' → p y = some y' → R x' y') : ∀ {l : List α}, l.Pairwise R → (l.filterMap p).Pairwise R
  | [], _ => by simp
  | a :: l, h => by
    rw [List.pairwise_cons] at h
    rw [List.filterMap_cons]
    split
    · exact fltMap_pw hp h.2
    · rename_i b hb
      rw [List.pairwise_cons]
      refine ⟨fun y hy => ?_, fltMap_pw hp h.2⟩
      obtain ⟨x, hx, hxy⟩ := List.mem_filterMap.1 hy
      exact hp a x b y (h.1 x hx) hb hxy
theorem altF_id {a : Alt} {f f' : Fld} (h : altF a f = some f') : f'.id = f.id ∧ f'.d.n = f.d.n ∧ f'.d.s = f.d.s := by
  unfold altF at h
  split at h
  · split at h
    · cases h
    · split at h
      · cases h; exact ⟨rfl, rfl, rfl⟩
      · split at h <;> (cases h; exact ⟨rfl, rfl, rfl⟩)
  · cases h; exact ⟨rfl, rfl, rfl⟩
theorem filterMap_len_le {α β : Type} (p : α → Option β) (l : List α) : (l.filterMap p).length ≤ l.length := List.length_filterMap_le p l
theorem altS_ok {s : Sch} {a : Alt} (h : checkA s a = 0) : RightS (altS s a) ∧ Comp s (altS s a) ∧ (altS s a).ver = s.ver + 1 ∧ ∀ g ∈ (altS s a).fs, (∃ f ∈ s.fs, f.id = g.id) ∨ g.id = s.next := by
  obtain ⟨hs, h1, h2, hr, hv⟩ := checkA_zero h
  by_cases ho : a.op = 1
  · rw [rule, if_pos ho] at hr
    split at hr
    · rename_i h0; exact absurd hr h0
    · rename_i h0
      split at hr
      · cases hr
      · rename_i hm
        split at hr
        · cases hr
        · rename_i hk
          simp only [not_or, Bool.not_eq_false, ne_eq, Decidable.not_not] at hk h0
          obtain ⟨hn, hnew⟩ := freshN_zero h0
          have hd : ∀ f ∈ s.fs, f.id < s.next := fun f hf => (rightF_iff.1 (hs.fs f hf)).2.1
          have hmem : ∀ g, g ∈ (altS s a).fs ↔ g ∈ s.fs ∨ g = ⟨s.next, a.kind, a.name, a.d⟩ := fun g => by simp [altS, ho]
          have e : altS s a = ⟨s.ver + 1, s.next + 1, s.fs ++ [⟨s.next, a.kind, a.name, a.d⟩]⟩ := by simp [altS, ho]
          refine ⟨⟨fun f hf => ?_, ?_, ?_, ?_, ?_, ?_, ?_, ?_⟩, ⟨?_, fun g hg => ?_⟩, by rw [e], fun g hg => ?_⟩
          · rcases (hmem f).1 hf with hf | rfl
            · have := rightF_iff.1 (hs.fs f hf)
              rw [rightF_iff, e]
              exact ⟨this.1, by have := this.2.1; simp only; omega, this.2.2⟩
            · rw [rightF_iff, e]
              exact ⟨hs.n1, by simp only; omega, hn, hk.1, hk.2⟩
          · rw [e]
            refine List.pairwise_append.2 ⟨hs.pw, by simp, fun f hf g hg => ?_⟩
            rw [List.mem_singleton] at hg
            subst hg
            exact clash_false.2 ⟨by have := hd f hf; simp only; omega, hnew f hf⟩
          · rw [e]; have := hs.v1; simp only; omega
          · rw [e]; simp only; omega
          · rw [e]; have := hs.n1; simp only; omega
          · rw [e]; simp only [not_or, Nat.not_le, ge_iff_le, Int.not_le] at hm; have := hm.2; simp only; omega
          · rw [e]; simp
          · rw [e]; simp only [not_or, Nat.not_le, ge_iff_le] at hm; have := hm.1; simp; omega
          · rw [e]; simp only; omega
          · rcases (hmem g).1 hg with hg | rfl
            · exact .inl ⟨g, hg, rfl, below_refl (hs.kind hg), rfl, rfl⟩
            · exact .inr (Int.le_refl _)
          · rcases (hmem g).1 hg with hg | rfl
            · exact .inl ⟨g, hg, rfl⟩
            · exact .inr rfl
  · rw [rule, if_neg ho] at hr
    cases hf0 : findN s.fs a.name with
    | none => rw [hf0] at hr; cases hr
    | some f0 =>
      rw [hf0] at hr
      simp only at hr
      obtain ⟨hf0m, hf0n⟩ := findN_some hf0
      have huniq : ∀ f ∈ s.fs, f.name = a.name → f = f0 := fun f hf e => hs.name_eq hf hf0m (e.trans hf0n.symm)
      have e : altS s a = ⟨s.ver + 1, s.next, s.fs.filterMap (altF a)⟩ := by simp [altS, ho]
      have h3 : ∀ f ∈ s.fs, ∀ f', altF a f = some f' → rightF f' s.next = true ∧ below f.kind f'.kind = true ∧ (f'.name = f.name ∨ (a.op = 3 ∧ f'.name = a.to)) := by
        intro f hf f' hf'
        have hfr := rightF_iff.1 (hs.fs f hf)
        unfold altF at hf'
        split at hf'
        · rename_i hnm
          have hff := huniq f hf hnm
          split at hf'
          · cases hf'
          · split at hf'
            · rename_i h2' h3'
              cases hf'
              rw [if_neg (by rw [h3']; omega), if_pos h3'] at hr
              obtain ⟨q1, q2⟩ := freshN_zero hr
              exact ⟨rightF_iff.2 ⟨hfr.1, hfr.2.1, q1, hfr.2.2.2⟩, below_refl (hs.kind hf), .inr ⟨h3', rfl⟩⟩
            · rename_i h2' h3'
              split at hf'
              · rename_i h4'
                cases hf'
                rw [if_neg (by rw [h4']; omega), if_neg h3'] at hr
                split at hr
                · cases hr
                · rename_i hb
                  simp only [not_and, not_or, Bool.not_eq_false] at hb
                  have hb := (hb h4').1
                  rw [← hff] at hb
                  refine ⟨rightF_iff.2 ⟨hfr.1, hfr.2.1, hfr.2.2.1, ?_, rfl⟩, hb, .inl rfl⟩
                  exact rightV_widen (v := f.d) hfr.2.2.2.1 (by rw [hfr.2.2.2.2]; exact hb)
              · cases hf'
                exact ⟨hs.fs f hf, below_refl (hs.kind hf), .inl rfl⟩
        · cases hf'
          exact ⟨hs.fs f hf, below_refl (hs.kind hf), .inl rfl⟩
      have hlen : 1 ≤ (s.fs.filterMap (altF a)).length := by
        by_cases h2' : a.op = 2
        · rw [h2'] at hr
          simp only [true_and] at hr
          split at hr
          · cases hr
          · rename_i hl
            have hl1 := hs.l1
            obtain ⟨g, hg, hgn⟩ : ∃ g ∈ s.fs, g.name ≠ a.name := by
              have hpw := hs.names
              match hfs : s.fs, hl, hl1, hpw with
              | [], _, hl1, _ => simp at hl1
              | [_], hl, _, _ => simp at hl
              | x :: y :: r, _, _, hpw =>
                rw [List.pairwise_cons] at hpw
                have hxy := hpw.1 y (by simp)
                by_cases hx : x.name = a.name
                · exact ⟨y, by simp, fun hy => hxy (hx.trans hy.symm)⟩
                · exact ⟨x, by simp, hx⟩
            have : g ∈ s.fs.filterMap (altF a) := List.mem_filterMap.2 ⟨g, hg, by simp [altF, hgn]⟩
            exact List.length_pos_of_mem this
        · obtain ⟨g, hg⟩ : ∃ g, altF a f0 = some g := by
            unfold altF
            rw [if_neg h2']
            by_cases hn : f0.name = a.name
            · rw [if_pos hn]
              by_cases h3 : a.op = 3
              · rw [if_pos h3]; exact ⟨_, rfl⟩
              · rw [if_neg h3]
                by_cases h4 : a.op = 4
                · rw [if_pos h4]; exact ⟨_, rfl⟩
                · rw [if_neg h4]; exact ⟨_, rfl⟩
            · rw [if_neg hn]; exact ⟨_, rfl⟩
          exact List.length_pos_of_mem (List.mem_filterMap.2 ⟨f0, hf0m, hg⟩)
      have hpw : (s.fs.filterMap (altF a)).Pairwise fun f g => clash g f = false := by
        have : s.fs.Pairwise fun f g => clash g f = false ∧ f ∈ s.fs ∧ g ∈ s.fs := by
          have key : ∀ (l : List Fld), (∀ x ∈ l, x ∈ s.fs) → l.Pairwise (fun f g => clash g f = false) → l.Pairwise fun f g => clash g f = false ∧ f ∈ s.fs ∧ g ∈ s.fs := by
            intro l
            induction l with
            | nil => intro _ _; exact .nil
            | cons x l ih =>
              intro hl hp
              rw [List.pairwise_cons] at hp ⊢
              exact ⟨fun y hy => ⟨hp.1 y hy, hl x (by simp), hl y (by simp [hy])⟩, ih (fun y hy => hl y (by simp [hy])) hp.2⟩
          exact key s.fs (fun _ h => h) hs.pw
        have main : ∀ (l : List Fld), (l.Pairwise fun f g => clash g f = false ∧ f ∈ s.fs ∧ g ∈ s.fs) → (l.filterMap (altF a)).Pairwise fun f g => clash g f = false := by
          intro l
          induction l with
          | nil => intro _; exact .nil
          | cons x l ih =>
            intro hp
            rw [List.pairwise_cons] at hp
            rw [List.filterMap_cons]
            split
            · exact ih hp.2
            · rename_i x' hx'
              rw [List.pairwise_cons]
              refine ⟨fun y' hy' => ?_, ih hp.2⟩
              obtain ⟨y, hy, hyy⟩ := List.mem_filterMap.1 hy'
              obtain ⟨hc, hxs, hys⟩ := hp.1 y hy
              rw [clash_false] at hc ⊢
              have ix := altF_id hx'
              have iy := altF_id hyy
              refine ⟨by rw [ix.1, iy.1]; exact hc.1, ?_⟩
              rcases (h3 x hxs x' hx').2.2 with e1 | ⟨e0, e1⟩
              · rcases (h3 y hys y' hyy).2.2 with e2 | ⟨e0', e2⟩
                · rw [e1, e2]; exact hc.2
                · rw [e1, e2]
                  rw [if_neg (by rw [e0']; omega), if_pos e0'] at hr
                  exact (freshN_zero hr).2 x hxs
              · rw [if_neg (by rw [e0]; omega), if_pos e0] at hr
                have hfz := (freshN_zero hr).2
                rcases (h3 y hys y' hyy).2.2 with e2 | ⟨_, e2⟩
                · rw [e1, e2]; exact (hfz y hys).symm
                · -- both would be the field of that name
                  have hxn : x.name = a.name := by
                    by_cases hxn : x.name = a.name
                    · exact hxn
                    · exfalso
                      simp only [altF, if_neg hxn, Option.some.injEq] at hx'
                      subst hx'
                      exact hfz x hxs e1
                  have hyn : y.name = a.name := by
                    by_cases hyn : y.name = a.name
                    · exact hyn
                    · exfalso
                      simp only [altF, if_neg hyn, Option.some.injEq] at hyy
                      subst hyy
                      exact hfz y hys e2
                  exact absurd (hxn.trans hyn.symm) hc.2
        exact main s.fs this
      refine ⟨⟨fun f hf => ?_, ?_, ?_, ?_, ?_, ?_, ?_, ?_⟩, ⟨?_, fun g hg => ?_⟩, by rw [e], fun g hg => ?_⟩
      · rw [e] at hf ⊢
        obtain ⟨g, hg, hgf⟩ := List.mem_filterMap.1 hf
        exact (h3 g hg f hgf).1
      · rw [e]; exact hpw
      · rw [e]; have := hs.v1; simp only; omega
      · rw [e]; simp only; omega
      · rw [e]; exact hs.n1
      · rw [e]; exact hs.n2
      · rw [e]; exact hlen
      · rw [e]; exact Nat.le_trans (filterMap_len_le _ _) hs.l2
      · rw [e]; exact Int.le_refl _
      · rw [e] at hg
        obtain ⟨f, hf, hfg⟩ := List.mem_filterMap.1 hg
        have := altF_id hfg
        exact .inl ⟨f, hf, this.1.symm, (h3 f hf g hfg).2.1, this.2.1, this.2.2⟩
      · rw [e] at hg
        obtain ⟨f, hf, hfg⟩ := List.mem_filterMap.1 hg
        exact .inl ⟨f, hf, (altF_id hfg).1.symm⟩
end Go.Proofs.YtkbidoikndgheaaDoor.HL

/-! The plain laws of chapter 16, chains. -/
namespace Go.Proofs.YtkbidoikndgheaaDoor.HL
theorem rightCs_iff : ∀ {l : List Sch}, rightCs l = true ↔ (∀ s ∈ l, RightS s) ∧ l.Pairwise fun s t => s.ver < t.ver ∧ s.next ≤ t.next
  | [] => by simp [rightCs]
  | [s] => by simp [rightCs, rightS_iff]
  | s :: t :: l => by
    simp only [rightCs, Bool.and_eq_true, decide_eq_true_eq, rightCs_iff (l := t :: l), rightS_iff]
    constructor
    · rintro ⟨⟨⟨h1, h2⟩, h3⟩, h4, h5⟩
      refine ⟨fun x hx => ?_, List.pairwise_cons.2 ⟨fun x hx => ?_, h5⟩⟩
      · rcases List.mem_cons.1 hx with rfl | hx
        · exact h1
        · exact h4 x hx
      · rcases List.mem_cons.1 hx with rfl | hx
        · exact ⟨h2, h3⟩
        · have := (List.pairwise_cons.1 h5).1 x hx
          exact ⟨by omega, by omega⟩
    · rintro ⟨h1, h2⟩
      rw [List.pairwise_cons] at h2
      have := h2.1 t (by simp)
      exact ⟨⟨⟨h1 s (by simp), this.1⟩, this.2⟩, fun x hx => h1 x (List.mem_cons_of_mem _ hx), h2.2⟩
structure GoodC (l : List Sch) : Prop where
  rs : ∀ s ∈ l, RightS s
  pw : l.Pairwise fun s t => s.ver < t.ver ∧ Comp s t
  l1 : 1 ≤ l.length
  l2 : l.length ≤ 10
theorem GoodC.right {l : List Sch} (h : GoodC l) : rightC l = true := by
  simp only [rightC, Bool.and_eq_true, decide_eq_true_eq, rightCs_iff]
  exact ⟨⟨⟨h.rs, h.pw.imp fun h => ⟨h.1, h.2.next⟩⟩, h.l1⟩, h.l2⟩
theorem lastC_eq {l : List Sch} (h : 1 ≤ l.length) : ∃ i, l = i ++ [lastC l] := by
  have hne : l ≠ [] := by intro e; subst e; simp at h
  refine ⟨l.dropLast, ?_⟩
  have := List.dropLast_concat_getLast hne
  rw [lastC, List.getLastD_eq_getLast?, List.getLast?_eq_some_getLast hne]
  simpa using this.symm
theorem lastC_mem {l : List Sch} (h : 1 ≤ l.length) : lastC l ∈ l := by
  obtain ⟨i, hi⟩ := lastC_eq h
  have : lastC l ∈ i ++ [lastC l] := by simp
  rw [← hi] at this
  exact this
theorem lastC_snoc (l : List Sch) (s : Sch) : lastC (l ++ [s]) = s := by simp [lastC]
theorem extendC_zero {l : List Sch} {a : Alt} (h : (extendC l a).2 = 0) : rightC l = true ∧ checkA (lastC l) a = 0 ∧ l.length < 10 ∧ (extendC l a).1 = l ++ [altS (lastC l) a] := by
  unfold extendC at h ⊢
  split at h
  · cases h
  · rename_i h1
    split at h
    · rename_i h2; exact absurd h h2
    · rename_i h2
      split at h
      · cases h
      · rename_i h3
        have h4 : checkA (lastC l) a = 0 := by
          simp only [nextA] at h2
          split at h2
          · rename_i h5; exact absurd (Decidable.not_not.1 h2) h5
          · rename_i h5; simpa using h5
        refine ⟨by simpa using h1, h4, by omega, ?_⟩
        rw [if_neg h1, if_neg h2, if_neg h3]
        simp [nextA, h4]
theorem extend_good {l : List Sch} {a : Alt} (hl : GoodC l) (h : (extendC l a).2 = 0) : GoodC (extendC l a).1 := by
  obtain ⟨_, h2, h3, h4⟩ := extendC_zero h
  obtain ⟨a1, a2, a3, _⟩ := altS_ok h2
  rw [h4]
  refine ⟨fun s hs => ?_, List.pairwise_append.2 ⟨hl.pw, by simp, fun x hx y hy => ?_⟩, by simp, by simp; omega⟩
  · rcases List.mem_append.1 hs with hs | hs
    · exact hl.rs s hs
    · rw [List.mem_singleton] at hs; subst hs; exact a1
  · rw [List.mem_singleton] at hy
    subst hy
    obtain ⟨i, hi⟩ := lastC_eq hl.l1
    rw [hi] at hx
    have hp := hl.pw
    rw [hi] at hp
    rcases List.mem_append.1 hx with hx | hx
    · have := (List.pairwise_append.1 hp).2.2 x hx _ (List.mem_singleton.2 rfl)
      exact ⟨by have := this.1; omega, this.2.trans a2⟩
    · rw [List.mem_singleton] at hx
      subst hx
      exact ⟨by omega, a2⟩
theorem findC_mem {l : List Sch} (h : l.Pairwise fun s t => s.ver < t.ver) {s : Sch} (hs : s ∈ l) : findC l s.ver = some s := by
  cases hf : findC l s.ver with
  | none =>
    have := List.find?_eq_none.1 hf s hs
    simp at this
  | some t =>
    have ht := List.mem_of_find?_eq_some hf
    have he : t.ver = s.ver := by simpa using List.find?_some hf
    have hn : l.Pairwise fun s t => s.ver ≠ t.ver := h.imp fun h => by omega
    rcases pw_eq (fun _ _ h => h.symm) hn t ht s hs with e | e
    · rw [e]
    · exact absurd he e
theorem findC_none {l : List Sch} {v : Int} (h : ∀ s ∈ l, s.ver ≠ v) : findC l v = none :=
  List.find?_eq_none.2 fun s hs => by simpa using h s hs
theorem findC_some {l : List Sch} {v : Int} {s : Sch} (h : findC l v = some s) : s ∈ l ∧ s.ver = v :=
  ⟨List.mem_of_find?_eq_some h, by simpa using List.find?_some h⟩
theorem GoodC.vers {l : List Sch} (h : GoodC l) : l.Pairwise fun s t => s.ver < t.ver := h.pw.imp fun h => h.1
theorem retireC_good {l : List Sch} {s : Sch} (hl : GoodC l) (hs : s ∈ l) (hne : s.ver ≠ (lastC l).ver) :
    retireC l s.ver = (l.filter fun t => t.ver != s.ver, 0) ∧ GoodC (l.filter fun t => t.ver != s.ver) ∧ (l.filter fun t => t.ver != s.ver).length + 1 = l.length := by
  have hf := findC_mem hl.vers hs
  have hlast : lastC l ∈ l.filter fun t => t.ver != s.ver := List.mem_filter.2 ⟨lastC_mem hl.l1, by simpa using hne.symm⟩
  refine ⟨?_, ⟨fun t ht => hl.rs t (List.mem_filter.1 ht).1, hl.pw.filter _, List.length_pos_of_mem hlast, Nat.le_trans (List.length_filter_le _ _) hl.l2⟩, ?_⟩
  · rw [retireC, if_neg (by simp [hl.right]), if_neg (by simp [hf]), if_neg hne.symm]
  · have : ∀ {l : List Sch}, (l.Pairwise fun s t => s.ver < t.ver) → s ∈ l → (l.filter fun t => t.ver != s.ver).length + 1 = l.length := by
      intro l
      induction l with
      | nil => intro _ h; cases h
      | cons x l ih =>
        intro hp hm
        rw [List.pairwise_cons] at hp
        rcases List.mem_cons.1 hm with rfl | hm
        · have hall : (l.filter fun t => t.ver != s.ver) = l := List.filter_eq_self.2 fun t ht => by have := hp.1 t ht; simp; omega
          simp [hall]
        · have := hp.1 s hm
          rw [List.filter_cons_of_pos (by simp; omega)]
          simp only [List.length_cons]
          have := ih hp.2 hm
          omega
    exact this hl.vers hs
theorem retireC_last {l : List Sch} (hl : GoodC l) : retireC l (lastC l).ver = ([], 14) := by
  have hf := findC_mem hl.vers (lastC_mem hl.l1)
  rw [retireC, if_neg (by simp [hl.right]), if_neg (by simp [hf]), if_pos rfl]

/-! Chains that are made. -/
def exC (l : List Sch) (a : Alt) : List Sch := if (extendC l a).2 = 0 then (extendC l a).1 else l
def pickN (c : Int) (n : Nat) : Nat := ((if c < 0 then -(c + 1) else c) % (n : Int)).toNat
def reC (l : List Sch) (o : Int) : List Sch :=
  if o.tmod 3 = 0 then (if (retireC l (l.getD (pickN o l.length) sch0).ver).2 = 0 then (retireC l (l.getD (pickN o l.length) sch0).ver).1 else l) else l
def madeL : List Sch → List Alt → List Int → List Sch
  | l, [], _ => l
  | l, a :: asx, [] => madeL (exC l a) asx []
  | l, a :: asx, o :: os => madeL (reC (exC l a) o) asx os
def madeC (fs : List Fld) (asx : List Alt) (os : List Int) : Option (List Sch) := if (newA fs).2 ≠ 0 then none else some (madeL [(newA fs).1] asx os)
theorem exC_good {l : List Sch} (a : Alt) (hl : GoodC l) : GoodC (exC l a) := by
  unfold exC
  split
  · exact extend_good hl (by assumption)
  · exact hl
theorem pickN_lt {c : Int} {n : Nat} (h : 1 ≤ n) : pickN c n < n := by
  unfold pickN
  have h1 := Int.emod_nonneg (if c < 0 then -(c + 1) else c) (show (n : Int) ≠ 0 by omega)
  have h2 := Int.emod_lt_of_pos (if c < 0 then -(c + 1) else c) (show (0 : Int) < n by omega)
  omega
theorem getD_mem {l : List Sch} {i : Nat} (h : i < l.length) : l.getD i sch0 ∈ l := by
  rw [List.getD_eq_getElem?_getD, List.getElem?_eq_getElem h]
  exact List.getElem_mem h
theorem reC_good {l : List Sch} (o : Int) (hl : GoodC l) : GoodC (reC l o) := by
  unfold reC
  split
  · split
    · rename_i h
      have hm := getD_mem (pickN_lt (c := o) hl.l1)
      by_cases hv : (l.getD (pickN o l.length) sch0).ver = (lastC l).ver
      · rw [hv, retireC_last hl] at h; cases h
      · have := retireC_good hl hm hv
        rw [this.1]; exact this.2.1
    · exact hl
  · exact hl
theorem madeL_good : ∀ {l : List Sch} (asx : List Alt) (os : List Int), GoodC l → GoodC (madeL l asx os)
  | _, [], _, h => by simpa only [madeL] using h
  | l, a :: asx, [], h => by simpa only [madeL] using madeL_good asx [] (exC_good a h)
  | l, a :: asx, o :: os, h => by simpa only [madeL] using madeL_good asx os (reC_good o (exC_good a h))
theorem newA_zero {fs : List Fld} (h : (newA fs).2 = 0) : RightS (newA fs).1 ∧ (newA fs).1.ver = 1 := by
  unfold newA at h ⊢
  split at h
  · cases h
  · rename_i h1
    split at h
    · cases h
    · rename_i h2
      rw [if_neg h1, if_neg h2]
      exact ⟨rightS_iff.1 (by simpa using h2), rfl⟩
theorem GoodC.one {s : Sch} (h : RightS s) : GoodC [s] := ⟨by simpa using h, by simp, by simp, by simp⟩
theorem madeC_good {fs : List Fld} {asx : List Alt} {os : List Int} {l : List Sch} (h : madeC fs asx os = some l) : GoodC l := by
  unfold madeC at h
  split at h
  · cases h
  · rename_i h1
    cases h
    exact madeL_good asx os (.one (newA_zero (by simpa using h1)).1)

/-! Rows. -/
def val1 (fs : List Fld) (vs : List Val) (g : Fld) : Val := match valOf fs vs g.id with | none => g.d | some v => ⟨g.kind, v.n, v.s⟩
theorem valOf_some : ∀ {fs : List Fld} {vs : List Val} {id : Int} {v : Val}, fitsL fs vs = 0 → valOf fs vs id = some v → ∃ f ∈ fs, f.id = id ∧ v.k = f.kind ∧ rightV v = true
  | [], _, _, _, _, h => by cases h
  | _ :: _, [], _, _, _, h => by cases h
  | f :: fs, v :: vs, id, u, hf, h => by
    simp only [fitsL] at hf
    split at hf
    · cases hf
    · rename_i h1
      split at hf
      · cases hf
      · rename_i h2
        simp only [valOf] at h
        split at h
        · cases h; exact ⟨f, by simp, by assumption, by simpa using h2, by simpa using h1⟩
        · obtain ⟨g, hg, rest⟩ := valOf_some hf h
          exact ⟨g, by simp [hg], rest⟩
theorem valOf_none : ∀ {fs : List Fld} {vs : List Val} {id : Int}, vs.length = fs.length → valOf fs vs id = none → ∀ f ∈ fs, f.id ≠ id
  | [], _, _, _, _, f, hf => by cases hf
  | _ :: _, [], _, h, _, _, _ => by simp at h
  | f :: fs, v :: vs, id, hl, h, g, hg => by
    simp only [valOf] at h
    split at h
    · cases h
    · rcases List.mem_cons.1 hg with rfl | hg
      · assumption
      · exact valOf_none (by simpa using hl) h g hg
theorem valOf_none' : ∀ {fs : List Fld} {vs : List Val} {id : Int}, (∀ f ∈ fs, f.id ≠ id) → valOf fs vs id = none
  | [], _, _, _ => by cases ‹List Val› <;> rfl
  | _ :: _, [], _, _ => rfl
  | f :: fs, v :: vs, id, h => by
    simp only [valOf]
    rw [if_neg (h f (by simp))]
    exact valOf_none' fun g hg => h g (by simp [hg])
theorem valOf_map {φ : Fld → Val} : ∀ {fs : List Fld}, (fs.Pairwise fun f g => f.id ≠ g.id) → ∀ h ∈ fs, valOf fs (fs.map φ) h.id = some (φ h)
  | [], _, h, hh => by cases hh
  | f :: fs, hp, h, hh => by
    rw [List.pairwise_cons] at hp
    simp only [List.map_cons, valOf]
    rcases List.mem_cons.1 hh with rfl | hh
    · rw [if_pos rfl]
    · rw [if_neg (hp.1 h hh)]
      exact valOf_map hp.2 h hh
theorem fits_zero {fs : List Fld} {vs : List Val} (h : fits fs vs = 0) : vs.length = fs.length ∧ fitsL fs vs = 0 := by
  unfold fits at h
  split at h
  · cases h
  · exact ⟨by omega, h⟩
theorem RightS.id_lt {s : Sch} (h : RightS s) {f : Fld} (hf : f ∈ s.fs) : f.id < s.next := (rightF_iff.1 (h.fs f hf)).2.1
section
variable {a b c : Sch} {vs : List Val}
theorem val_of (ha : RightS a) (hc : Comp a b) (hf : fits a.fs vs = 0) {g : Fld} (hg : g ∈ b.fs) :
    (∃ f ∈ a.fs, f.id = g.id ∧ below f.kind g.kind = true ∧ g.d.n = f.d.n ∧ g.d.s = f.d.s ∧ ∃ v, valOf a.fs vs g.id = some v ∧ v.k = f.kind ∧ rightV v = true) ∨ (a.next ≤ g.id ∧ valOf a.fs vs g.id = none) := by
  obtain ⟨h1, h2⟩ := fits_zero hf
  rcases hc.fs g hg with ⟨f, hfm, e1, e2, e3, e4⟩ | h
  · cases hv : valOf a.fs vs g.id with
    | none => exact absurd e1 (valOf_none h1 hv f hfm)
    | some v =>
      obtain ⟨f', hf', e1', e2', e3'⟩ := valOf_some h2 hv
      have := ha.id_eq hf' hfm (e1'.trans e1.symm)
      subst this
      exact .inl ⟨f', hfm, e1, e2, e3, e4, v, rfl, e2', e3'⟩
  · exact .inr ⟨h, valOf_none' fun f hf => by have := ha.id_lt hf; omega⟩
theorem rowL_eq (ha : RightS a) (hc : Comp a b) (hf : fits a.fs vs = 0) : ∀ gs : List Fld, (∀ g ∈ gs, g ∈ b.fs) → rowL a.fs vs gs = some (gs.map (val1 a.fs vs))
  | [], _ => rfl
  | g :: gs, h => by
    have ih := rowL_eq ha hc hf gs fun x hx => h x (by simp [hx])
    rcases val_of ha hc hf (h g (by simp)) with ⟨f, _, _, e2, _, _, v, hv, e3, e4⟩ | ⟨_, hv⟩
    · have hw : widen v g.kind = (⟨g.kind, v.n, v.s⟩, 0) := by
        have hb := e2
        rw [below_iff] at hb
        have hk : kindOk g.kind = true := by simp only [kindOk, Bool.and_eq_true, decide_eq_true_eq]; omega
        rw [widen, if_neg (by simp [e4, hk]), if_neg (by rw [e3, e2]; simp)]
      simp only [rowL, hv, hw, ih, List.map_cons, val1, ne_eq, not_true_eq_false, if_false, Option.map_some]
    · simp only [rowL, hv, ih, List.map_cons, val1, Option.map_some]
theorem fitsL_map (gs : List Fld) (φ : Fld → Val) (h : ∀ g ∈ gs, rightV (φ g) = true ∧ (φ g).k = g.kind) : fitsL gs (gs.map φ) = 0 := by
  induction gs with
  | nil => rfl
  | cons g gs ih =>
    obtain ⟨h1, h2⟩ := h g (by simp)
    simp only [List.map_cons, fitsL]
    rw [if_neg (by simp [h1]), if_neg (by simp [h2])]
    exact ih fun x hx => h x (by simp [hx])
theorem fits_row (ha : RightS a) (hb : RightS b) (hc : Comp a b) (hf : fits a.fs vs = 0) : fits b.fs (b.fs.map (val1 a.fs vs)) = 0 := by
  rw [fits, if_neg (by simp)]
  refine fitsL_map _ _ fun g hg => ?_
  rcases val_of ha hc hf hg with ⟨f, _, _, e2, _, _, v, hv, e3, e4⟩ | ⟨_, hv⟩
  · simp only [val1, hv]
    exact ⟨rightV_widen e4 (by rw [e3]; exact e2), trivial⟩
  · simp only [val1, hv]
    have := rightF_iff.1 (hb.fs g hg)
    exact ⟨this.2.2.2.1, this.2.2.2.2⟩
theorem rowA_eq (ha : RightS a) (hb : RightS b) (hc : Comp a b) (hf : fits a.fs vs = 0) : rowA a b vs = (b.fs.map (val1 a.fs vs), 0) := by
  rw [rowA, if_neg (by simp [rightS_iff.2 ha, rightS_iff.2 hb]), if_neg (by simp [hf]), rowL_eq ha hc hf b.fs fun _ h => h]
theorem row_comp (ha : RightS a) (hb : RightS b) (hc : RightS c) (h1 : Comp a b) (h2 : Comp b c) (hf : fits a.fs vs = 0) :
    c.fs.map (val1 b.fs (b.fs.map (val1 a.fs vs))) = c.fs.map (val1 a.fs vs) := by
  refine List.map_congr_left fun g hg => ?_
  have hfb := fits_row ha hb h1 hf
  rcases h2.fs g hg with ⟨h, hh, e1, e2, e3, e4⟩ | h0
  · have hv : valOf b.fs (b.fs.map (val1 a.fs vs)) g.id = some (val1 a.fs vs h) := by rw [← e1]; exact valOf_map hb.ids h hh
    have hl : val1 b.fs (b.fs.map (val1 a.fs vs)) g = ⟨g.kind, (val1 a.fs vs h).n, (val1 a.fs vs h).s⟩ := by simp only [val1]; simp only [val1] at hv; rw [hv]
    rw [hl]
    simp only [val1, e1]
    cases valOf a.fs vs g.id with
    | none =>
      have := (rightF_iff.1 (hc.fs g hg)).2.2.2.2
      obtain ⟨_, _, _, k, n, s⟩ := g
      simp_all
    | some v => rfl
  · have hv : valOf b.fs (b.fs.map (val1 a.fs vs)) g.id = none := valOf_none' fun f hf => by have := hb.id_lt hf; omega
    have hv' : valOf a.fs vs g.id = none := valOf_none' fun f hf => by have := ha.id_lt hf; have := h1.next; omega
    simp only [val1] at hv ⊢
    rw [hv, hv']
end
theorem GoodC.comp {l : List Sch} (h : GoodC l) {i j : Nat} (hij : i ≤ j) (hj : j < l.length) : Comp (l.getD i sch0) (l.getD j sch0) ∧ (l.getD i sch0).ver ≤ (l.getD j sch0).ver := by
  have hi : i < l.length := by omega
  rcases Nat.lt_or_eq_of_le hij with hlt | rfl
  · have := List.pairwise_iff_getElem.1 h.pw i j hi hj hlt
    simp only [List.getD_eq_getElem?_getD, List.getElem?_eq_getElem hi, List.getElem?_eq_getElem hj, Option.getD_some]
    exact ⟨this.2, by have := this.1; omega⟩
  · exact ⟨.refl (h.rs _ (getD_mem hi)), Int.le_refl _⟩
theorem resolveC_eq {l : List Sch} (h : GoodC l) {i j : Nat} (hij : i ≤ j) (hj : j < l.length) {vs : List Val} (hf : fits (l.getD i sch0).fs vs = 0) :
    resolveC l ⟨(l.getD i sch0).ver, vs⟩ (l.getD j sch0).ver = (⟨(l.getD j sch0).ver, (l.getD j sch0).fs.map (val1 (l.getD i sch0).fs vs)⟩, 0) := by
  have hi : i < l.length := by omega
  have h1 := findC_mem h.vers (getD_mem hi)
  have h2 := findC_mem h.vers (getD_mem hj)
  obtain ⟨hc, hv⟩ := h.comp hij hj
  have hr := rowA_eq (h.rs _ (getD_mem hi)) (h.rs _ (getD_mem hj)) hc hf
  rw [resolveC, if_neg (by simp [h.right])]
  simp only [h1, h2, hr]
  rw [if_neg (by omega), if_neg (by simp)]
theorem compose {l : List Sch} (h : GoodC l) {x y z : Nat} (hxy : x ≤ y) (hyz : y ≤ z) (hz : z < l.length) {vs : List Val} (hf : fits (l.getD x sch0).fs vs = 0) :
    ∃ f n, resolveC l ⟨(l.getD x sch0).ver, vs⟩ (l.getD z sch0).ver = (f, 0) ∧ resolveC l ⟨(l.getD x sch0).ver, vs⟩ (l.getD y sch0).ver = (n, 0) ∧ resolveC l n (l.getD z sch0).ver = (f, 0) ∧
      fits (l.getD z sch0).fs f.vs = 0 ∧ fits (l.getD y sch0).fs n.vs = 0 := by
  have hx : x < l.length := by omega
  have hy : y < l.length := by omega
  have r1 := h.rs _ (getD_mem hx)
  have r2 := h.rs _ (getD_mem hy)
  have r3 := h.rs _ (getD_mem hz)
  have c1 := (h.comp hxy hy).1
  have c2 := (h.comp hyz hz).1
  have c3 := (h.comp (Nat.le_trans hxy hyz) hz).1
  have f2 := fits_row r1 r2 c1 hf
  have e3 := resolveC_eq h hyz hz f2
  rw [row_comp r1 r2 r3 c1 c2 hf] at e3
  exact ⟨_, _, resolveC_eq h (Nat.le_trans hxy hyz) hz hf, resolveC_eq h hxy hy hf, e3, fits_row r1 r3 c3 hf, f2⟩
theorem fits_defaults {s : Sch} (h : RightS s) : fits s.fs (s.fs.map (·.d)) = 0 := by
  rw [fits, if_neg (by simp)]
  refine fitsL_map _ _ fun g hg => ?_
  have := rightF_iff.1 (h.fs g hg)
  exact ⟨this.2.2.2.1, this.2.2.2.2⟩

/-! Chains made without taking out. -/
def StepC (s t : Sch) : Prop := ∃ a, checkA s a = 0 ∧ t = altS s a
inductive Stp : List Sch → Prop
  | one (s : Sch) : Stp [s]
  | snoc {l : List Sch} {s t : Sch} : Stp (l ++ [s]) → StepC s t → Stp (l ++ [s] ++ [t])
theorem madeL_steps : ∀ {l : List Sch} (asx : List Alt), GoodC l → Stp l → Stp (madeL l asx [])
  | l, [], _, h => by simpa only [madeL] using h
  | l, a :: asx, hg, h => by
    simp only [madeL]
    refine madeL_steps asx (exC_good a hg) ?_
    unfold exC
    split
    · rename_i h0
      obtain ⟨_, h2, _, h4⟩ := extendC_zero h0
      rw [h4]
      obtain ⟨pre, hp⟩ := lastC_eq hg.l1
      have h' := h
      rw [hp] at h'
      have := Stp.snoc h' ⟨a, h2, rfl⟩
      rwa [← hp] at this
    · exact h
theorem Stp.at {l : List Sch} (h : Stp l) : ∀ i, i + 1 < l.length → StepC (l.getD i sch0) (l.getD (i + 1) sch0) := by
  induction h with
  | one s => intro i hi; simp at hi
  | @snoc l s t _ hs ih =>
    intro i hi
    simp only [List.getD_eq_getElem?_getD] at ih ⊢
    by_cases h1 : i + 1 < (l ++ [s]).length
    · rw [List.getElem?_append_left (l₁ := l ++ [s]) (by omega), List.getElem?_append_left (l₁ := l ++ [s]) h1]
      exact ih i h1
    · have e : i + 1 = (l ++ [s]).length := by simp at hi h1 ⊢; omega
      have e' : i = l.length := by simp at e; omega
      subst e'
      simpa using hs
end Go.Proofs.YtkbidoikndgheaaDoor.HL

/-! How the plain data lie in the program's memory. -/
namespace Go.Proofs.YtkbidoikndgheaaDoor.HL
def mv (a b : Nat) (n : Nat) : Nat := if n = a then b else n
def bs (l : Bs) : ByteArray := ⟨l.toArray⟩
theorem bs_toList (l : Bs) : (bs l).toList = l := by simp [bs, ByteArray.toList_eq]
theorem bs_size (l : Bs) : (bs l).size = l.length := by simp [bs, ByteArray.size]
theorem bs_data (l : Bs) : (bs l).data.toList = l := by simp [bs]
theorem bs_inj {a b : Bs} (h : bs a = bs b) : a = b := by simpa [bs] using h
theorem bs_nil : (⟨#[]⟩ : ByteArray) = bs [] := rfl
theorem bs_append (a b : Bs) : bs a ++ bs b = bs (a ++ b) := by
  apply ByteArray.ext
  simp [bs]
theorem bs_of (s : ByteArray) : s = bs s.data.toList := by simp [bs]
theorem bs_beq (a b : Bs) : ((bs a).toList == (bs b).toList) = (a == b) := by rw [bs_toList, bs_toList]
abbrev Sb (l : Bs) : AV := Str (bs l)
def encV (v : Val) : List AV := [I v.k, I v.n, Str (bs v.s)]
def encF (f : Fld) : List AV := [I f.id, I f.kind, Str (bs f.name), I f.d.k, I f.d.n, Str (bs f.d.s)]
def encA (a : Alt) : List AV := [I a.op, Str (bs a.name), Str (bs a.to), I a.kind, I a.d.k, I a.d.n, Str (bs a.d.s)]
def slF (fs : List Fld) : AV := .sl 6 false (fs.map encF)
def slV (vs : List Val) : AV := .sl 3 false (vs.map encV)
def encS (s : Sch) : List AV := [I s.ver, I s.next, .sl 6 false (s.fs.map encF)]
def encR (r : Rw) : List AV := [I r.ver, .sl 3 false (r.vs.map encV)]
def slS (l : List Sch) : AV := .sl 3 false (l.map encS)
theorem row_map {α : Type} (f : α → List AV) (xs : List α) (d : α) (i : Int) (h : 0 ≤ i ∧ i < (xs.length : Int)) : row (xs.map f) i = f (xs.getD i.toNat d) := by
  have hi : i.toNat < xs.length := by omega
  rw [row, List.getD_eq_getElem?_getD, List.getD_eq_getElem?_getD, List.getElem?_map, List.getElem?_eq_getElem hi]; rfl
theorem row_nat {α : Type} (f : α → List AV) (xs : List α) (i : Nat) (h : i < xs.length) : row (xs.map f) (i : Int) = f xs[i] := by
  rw [row, List.getD_eq_getElem?_getD, List.getElem?_map, Int.toNat_natCast, List.getElem?_eq_getElem h]; rfl
end Go.Proofs.YtkbidoikndgheaaDoor.HL

/-! Calls of functions that have no body. -/
namespace Go.Proofs.YtkbidoikndgheaaDoor.HL
open Go.RowKit
theorem run_call_ext (P : Program) {ρ : Operand → Value} {o : Oper} {f : Operand} {asx : Array Operand} {ats : Array TypeId} {g : FuncId} {fn : Func} {e : Array Value → Sem Value} {w : World} (ho : o.op = .call ⟨.value f, asx, ats⟩) (hf : ρ f = .func (.func g) #[] #[])
    (h1 : P.funcs[g]? = some fn) (h2 : (fn.name == "runtime.NumGoroutine") = false) (h3 : fn.body.isNone = true) (h4 : Extern.findNext fn = none) (h5 : Extern.find fn = some e) :
    (execOp ρ o).run P w = ((e (asx.map ρ)).run P w).andThen fun v w' => .ok (.value v) w' := by
  have h := run_callFunc_extern (P := P) h1 h2 h3 h4 h5 (asx.map ρ) w
  unfold execOp
  rw [ho]
  simp [resolve, hf, Deferred.ofValue, invoke, h]
section
variable {X : Cx} {s s' : St} {ops : Array Oper} {rest : List Oper} {k : List Item}
theorem RunOps.ext {o : Oper} {asx : Array Operand} {ats : Array TypeId} {g : FuncId} {fn : Func} {e : Array Value → Sem Value} {r : AV} {d : Nat} (ho : o.op = .call ⟨.value (.func g), asx, ats⟩) (hg : o.guard = none) (hd : o.dst = some d) (hdn : d < X.nt)
    (h1 : X.P.funcs[g]? = some fn) (h2 : (fn.name == "runtime.NumGoroutine") = false) (h3 : fn.body.isNone = true) (h4 : Extern.findNext fn = none) (h5 : Extern.find fn = some e)
    (hr : ∀ γ F w vs, VL γ F w (asx.toList.map (eo s.e)) vs → ∃ v, (e vs.toArray).run X.P w = .ok v w ∧ VRel γ F w r v)
    (hk : RunOps X ops rest k ⟨upd s.e d r, s.L, s.U⟩) : RunOps X ops (o :: rest) k s := by
  intro l hl γ F a w hi he
  obtain ⟨i, l', rfl, hio, hl'⟩ := idx_cons hl
  obtain ⟨v, hv, hrv⟩ := hr γ F w (asx.toList.map a.eval) (VL.map_eo _ (fun x => eo_ok he.r x))
  have e1 : (asx.toList.map a.eval).toArray = asx.map a.eval := by apply Array.ext'; simp
  rw [e1] at hv
  refine .op (v := v) hio (wanted_none hg γ F a w he) (fun c h => by rw [ho] at h; cases h) (by rw [run_call_ext X.P ho rfl h1 h2 h3 h4 h5, hv]; rfl) (.inl rfl) ?_
  refine hk l' hl' γ F _ w (hi.congr rfl rfl) ?_
  have := ERel.ap (f := ⟨r, [], [], []⟩) (d := o.dst) he.d he.n he.r (fun t ht => by rw [hd] at ht; injection ht with ht; subst ht; exact hdn) hrv
  rw [hd] at this
  rw [hd]
  exact this
end
end Go.Proofs.YtkbidoikndgheaaDoor.HL

/-! Ranges over functions that ask for at most one round. -/
namespace Go.Proofs.YtkbidoikndgheaaDoor.HL
open Go.RowKit
/-- A call of yield: a round that says no. -/
def RoundF (P : Program) (l : Nat) (ys : Array Value) (w1 : World) (G : World → Prop) : Prop := ∃ r : Loop, w1.heap[l]? = some (.loop r) ∧ ys.size = r.params.size ∧
  ∀ fr cs, ∃ w2, G w2 ∧ Steps P (lone (Frame.round l r.fn ((r.params.zip ys).foldl (fun tmps (t, a) => tmps.setIfInBounds t a) r.tmps) r.assign r.body .normal) (fr :: cs) w1) (lone (fr.finish (.bool false)) cs w2)
/-- What a function does that is ranged over: it asks for no round, or for one, and it ends behind one that says no. -/
structure IterOne (P : Program) (g : FuncId) (caps : List AV) (o : Option (List AV)) : Prop where
  call : Callable P g
  run : ∀ (F : Nat → Prop) (w : World) (vs : List Value) (l : Nat) (G : World → Prop), (∀ b, F b → b < w.heap.size) → VL noName F w caps vs →
    (∀ its, o = some its → ∀ w1 (F1 : Nat → Prop) ys, Below w.heap.size w w1 → (∀ b, F b → F1 b) → (∀ b, F1 b → F b ∨ w.heap.size ≤ b) → (∀ b, F1 b → b < w1.heap.size) → VL noName F1 w1 its ys → RoundF P l ys.toArray w1 G) →
    CallsR P g (#[.func (.yield l) #[] #[]] ++ vs.toArray) w fun _ w' => (o = none ∧ Below w.heap.size w w') ∨ (o ≠ none ∧ ∃ w2, G w2 ∧ Below w2.heap.size w2 w')
structure IB (P0 : Program) (T0 : Nat → TI) (g0 nt0 : Nat) (res0 : List ResultVar) (X : Cx) : Prop extends XW P0 T0 g0 nt0 res0 X where
  ret : ∀ (s : St) (j : Option Code), (j = none ∨ j = some .ret) → (resA T0 s res0).isSome = true → FinAt X j s
def plainE (e : Nat → AV) (t : Nat) : AV := match e t with | .v x => .v x | _ => .junk
structure IX (P0 : Program) (T0 : Nat → TI) (g0 nt0 : Nat) (res0 : List ResultVar) (l : Nat) (o : Option (List AV)) (X : Cx) : Prop extends XW P0 T0 g0 nt0 res0 X where
  ret : o = none → ∀ (s : St) (j : Option Code), (j = none ∨ j = some .ret) → (resA T0 s res0).isSome = true → FinAt X j s
  NL : X.NL = []
  yld : ∀ its, o = some its → ∀ (ops : Array Oper) (op : Oper) (rest : List Oper) (k : List Item) (s : St) (fo : Operand) (asx : Array Operand) (ats : Array TypeId) (d : Nat), op.op = .call ⟨.value fo, asx, ats⟩ → gd ops op s.e = some true → eo s.e fo = .v (.func (.yield l) #[] #[]) →
    frzL s.L (asx.toList.map (eo s.e)) = some its → op.dst = some d → d < nt0 → (∀ X2, IB P0 T0 g0 nt0 res0 X2 → RunOps X2 ops rest k ⟨upd (plainE s.e) d (B false), fun _ => none, fun _ => true⟩) → RunOps X ops (op :: rest) k s
section
variable {P : Program} {T : Nat → TI} {g : FuncId} {fn : Func} {c : Code} {nt : Nat} {res : List ResultVar} {caps : List AV} {o : Option (List AV)}
theorem run_yield_call {ρ : Operand → Value} {op : Oper} {f : Operand} {asx : Array Operand} {ats : Array TypeId} {l : Nat} {r : Loop} {w : World} (ho : op.op = .call ⟨.value f, asx, ats⟩) (hf : ρ f = .func (.yield l) #[] #[]) (h : w.heap[l]? = some (.loop r)) (hs : (asx.map ρ).size = r.params.size) :
    (execOp ρ op).run P w = .ok (.round l r.fn ((r.params.zip (asx.map ρ)).foldl (fun tmps (t, a) => tmps.setIfInBounds t a) r.tmps) r.assign r.body) w := by
  have hy := run_yield (P := P) h hs
  unfold execOp
  rw [ho]
  simp [resolve, hf, Deferred.ofValue, invoke, hy]
theorem IterOne.of_run (hT : TOk P T) (hf : P.funcs[g]? = some fn) (hb : fn.body = some c)
    (hname : (fn.name == "runtime.NumGoroutine") = false) (hnt : fn.ntmps = nt) (hres : fn.results = res.toArray) (hal : caps.length + 1 ≤ nt)
    (h : ∀ l X, IX P T g nt res l o X → Real caps → Run X [.code c] (enter (.v (.func (.yield l) #[] #[]) :: caps))) : IterOne P g caps o := by
  refine ⟨⟨fn, hf, by rw [hb]; rfl, hname⟩, fun F w vs l G hF hv hyp => ?_⟩
  let K : Value → World → Prop := fun _ w' => (o = none ∧ Below w.heap.size w w') ∨ (o ≠ none ∧ ∃ w2, G w2 ∧ Below w2.heap.size w2 w')
  let X : Cx := ⟨P, T, g, nt, res, none, w, fun _ => False, F, [], noName, K, fun _ _ => True⟩
  have hX : IX P T g nt res l o X := by
    refine ⟨⟨rfl, rfl, rfl, rfl, rfl, hT, ⟨fn, hf, hres⟩⟩, ?_, rfl, ?_⟩
    · intro ho s j hj hr
      obtain ⟨a, ha⟩ := Option.isSome_iff_exists.1 hr
      exact ⟨hj, rfl, a, ha, fun γ F' v w' hi _ => .inl ⟨ho, hi.os, hi.tape, hi.output, hi.size, fun k hk => hi.keep k hk id⟩⟩
    · intro its ho ops op rest k s fo asx ats d hop hg hfo hfr hd hdn hk l' hl γ F' a w' hi he
      obtain ⟨i, l'', rfl, hio, hl''⟩ := idx_cons hl
      have hw := gd_wanted hg γ F' a w' he
      have hys := frzL_ok hi _ _ _ (VL.map_eo _ (fun x => eo_ok he.r x)) hfr
      obtain ⟨r, hr, hsz, hst⟩ := hyp its ho w' _ _ ⟨hi.os, hi.tape, hi.output, hi.size, fun k hk => hi.keep k hk id⟩ (fun b hb => .inl (hi.fold b hb)) (by
          rintro b (hb | ⟨n, hn, _, hk⟩)
          · exact (hi.fnew b hb).imp id (fun h => h.elim id (fun h => h.elim))
          · exact .inr ((hi.own n b hn hk).2.2.elim id (fun h => h.elim))) (by
          rintro b (hb | ⟨n, hn, _, hk⟩)
          · exact hi.fr b hb
          · exact (hi.own n b hn hk).2.1) hys
      have e1 : (asx.toList.map a.eval).toArray = asx.map a.eval := by apply Array.ext'; simp
      rw [e1] at hsz hst
      have hfo' : a.eval fo = .func (.yield l) #[] #[] := by
        have := eo_ok he.r fo
        rw [hfo, VRel] at this
        exact this
      have hdef : a.defers = [] := he.d.1 trivial
      intro cs hcs
      obtain ⟨w2, hG, hsteps⟩ := hst ((base X).atR a (.inRegion ops (i :: l'') :: k)) cs
      let X2 : Cx := ⟨P, T, g, nt, res, none, w2, fun _ => False, fun _ => False, [], noName, K, fun _ _ => True⟩
      have hX2 : IB P T g nt res X2 := by
        refine ⟨⟨rfl, rfl, rfl, rfl, rfl, hT, ⟨fn, hf, hres⟩⟩, ?_⟩
        intro s j hj hr
        obtain ⟨a, ha⟩ := Option.isSome_iff_exists.1 hr
        exact ⟨hj, rfl, a, ha, fun γ F' v w' hi _ => .inr ⟨by rw [ho]; simp, w2, hG, hi.os, hi.tape, hi.output, hi.size, fun k hk => hi.keep k hk id⟩⟩
      have hi2 : Inv X2 noName (fun _ => False) ⟨upd (plainE s.e) d (B false), fun _ => none, fun _ => true⟩ w2 :=
        { blk := fun n b h => by cases h
          dom := fun n v h => by cases h
          sep := fun n m k h => by cases h
          own := fun n k h => by cases h
          fr := fun _ h => h.elim
          fold := fun _ h => h
          fnew := fun _ h => .inl h
          os := rfl, tape := rfl, output := rfl, size := Nat.le_refl _, keep := fun _ _ _ => rfl, nm := (fun _ _ h => by cases h), nu := (fun _ _ h => by cases h), nl := (fun _ _ h => by cases h) }
      have he2 : ERel X2 noName (fun _ => False) ⟨upd (plainE s.e) d (B false), fun _ => none, fun _ => true⟩ (a.put op.dst (.bool false)) w2 := by
        have hd2 : Marks X2.tag X2.w0 (fun _ => False) w2 a.defers := ⟨fun _ => hdef, [], .nil, hdef, fun r h => by cases h⟩
        have hp : ∀ t, VRel noName (fun _ => False) w2 (plainE s.e t) (a.tmps.getD t undef) := by
          intro t
          have := he.r t
          unfold plainE
          split
          · rename_i x hx; rw [hx, VRel] at this; rw [VRel]; exact this
          · trivial
        have := ERel.ap (X := X2) (s := ⟨plainE s.e, fun _ => none, fun _ => true⟩) (f := ⟨B false, [], [], []⟩) (d := op.dst) hd2 he.n hp (fun t ht => by rw [hd] at ht; injection ht with ht; subst ht; exact hdn) (v := .bool false) rfl
        rw [hd] at this ⊢
        exact this
      obtain ⟨m, h1, h2⟩ := hk X2 hX2 l'' hl'' noName (fun _ => False) _ w2 hi2 he2 cs hcs
      refine ⟨m, h1, .head ?_ (Steps.trans hsteps ?_)⟩
      · have hgr := stepGR_op (P := P) (b := base X) (k := k) (cs := cs) (w := w') (rest := l'') hio hw
        rw [Oper.semAt_eq _ _ _ (fun c h => by rw [hop] at h; cases h)] at hgr
        exact step_lone_go (by rw [hgr]; simp [stepG.apply, run_yield_call hop hfo' hr hsz, Frame.atR])
      · rw [fin_atR hio]; exact h2
  have hi : Inv X noName F (enter (.v (.func (.yield l) #[] #[]) :: caps)) w :=
    { blk := fun n b h => by cases h
      dom := fun n v h => by cases h
      sep := fun n m k h => by cases h
      own := fun n k h => by cases h
      fr := hF
      fold := fun _ h => h
      fnew := fun _ h => .inl h
      os := rfl, tape := rfl, output := rfl, size := Nat.le_refl _, keep := fun _ _ _ => rfl, nm := (fun _ _ h => by cases h), nu := (fun _ _ h => by cases h), nl := (fun _ _ h => by cases h) }
  have hv' : VL noName F w (.v (.func (.yield l) #[] #[]) :: caps) (#[Value.func (.yield l) #[] #[]] ++ vs.toArray).toList := ⟨.func (.yield l) #[] #[], vs, by simp, rfl, hv⟩
  refine .of_calls (calls_of_goes (X := X) hf hb rfl (h l X hX ⟨F, w, _, hv⟩ noName F _ w hi (start_ok (X := X) hnt (by simpa using hal) hv' rfl))) (fun e w' h => h)
end
end Go.Proofs.YtkbidoikndgheaaDoor.HL

namespace Go.Proofs.YtkbidoikndgheaaDoor.HL
open Go.RowKit
/-- What is known behind a round: what the outer activation holds, as far as the round has left it. -/
def aft (s0 : St) (NL : List Nat) (s' : St) : St :=
  ⟨fun t => if inU (NL.filter fun n => (s'.L n).isSome) (s0.e t) = true then s0.e t else .junk, fun n => if NL.contains n = true then s'.L n else none, fun n => s'.U n || s0.U n⟩
structure RB (X : Cx) (k : List Item) (s0 : St) (NL : List Nat) (X1 : Cx) : Prop extends XW X.P X.T X.f X.nt X.res X1 where
  ret : ∀ s', Run X (.code .ret :: k) (aft s0 NL s') → FinAt X1 (some .ret) s'
structure RA (X : Cx) (k : List Item) (s0 : St) (NL : List Nat) (X1 : Cx) : Prop extends XW X.P X.T X.f X.nt X.res X1 where
  begin : ∀ k' s', (∀ X2, RB X k s0 NL X2 → Run X2 k' s') → Run X1 (.beginRound :: k') s'
def parE (e : Nat → AV) : List Nat → List AV → Nat → AV
  | p :: ps, a :: asx => parE (upd e p a) ps asx
  | _, _ => e
theorem parE_ok {γ : Nat → Option Value} {F : Nat → Prop} {w : World} {nt : Nat} : ∀ {ps : List Nat} {e : Nat → AV} {its : List AV} {ys : List Value} {tmps : Array Value}, tmps.size = nt → (∀ p ∈ ps, p < nt) → (∀ t, VRel γ F w (e t) (tmps.getD t undef)) → VL γ F w its ys → ps.length = its.length →
    ((ps.zip ys).foldl (fun tmps (p : Nat × Value) => tmps.setIfInBounds p.1 p.2) tmps).size = nt ∧ ∀ t, VRel γ F w (parE e ps its t) (((ps.zip ys).foldl (fun tmps (p : Nat × Value) => tmps.setIfInBounds p.1 p.2) tmps).getD t undef)
  | [], e, its, ys, tmps, hs, _, he, _, _ => by
    simp only [List.zip_nil_left, List.foldl_nil, parE]
    exact ⟨hs, he⟩
  | p :: ps, e, [], ys, tmps, hs, _, he, _, h => by simp at h
  | p :: ps, e, a :: asx, _, tmps, hs, hp, he, ⟨y, ys, rfl, h1, h2⟩, h => by
    simp only [List.zip_cons_cons, List.foldl_cons, parE]
    refine parE_ok (by simpa using hs) (fun q hq => hp q (List.mem_cons_of_mem _ hq)) (fun t => ?_) h2 (by simpa using h)
    have hpn := hp p (List.mem_cons_self ..)
    by_cases e' : t = p
    · subst e'
      rw [upd_same]
      have : (tmps.setIfInBounds t y).getD t undef = y := by simp [Array.getD_eq_getD_getElem?, hs, hpn]
      rw [this]; exact h1
    · rw [upd_ne _ _ _ _ e']
      have : (tmps.setIfInBounds p y).getD t undef = tmps.getD t undef := by simp [Array.getD_eq_getD_getElem?, Array.getElem?_setIfInBounds_ne (Ne.symm e')]
      rw [this]; exact he t
section
variable {X : Cx} {s : St} {k : List Item}
theorem BRel.same {γ : Nat → Option Value} {F : Nat → Prop} {w w' : World} {n : Nat} {b : Blk} (h : BRel γ F w n b) (hF : ∀ b, F b → w'.heap[b]? = w.heap[b]?) (hn : ∀ k, nmb γ n = some k → w'.heap[k]? = w.heap[k]?) : BRel γ F w' n b :=
  h.mono (fun _ _ h => h) (fun _ h => h) hF hn
/-- Another block has changed. -/
theorem Inv.other {γ : Nat → Option Value} {F : Nat → Prop} {w w' : World} {l : Nat} (hi : Inv X γ F s w) (hl : ¬ F l) (hn : ∀ n, (s.L n).isSome → nmb γ n ≠ some l) (h0 : X.w0.heap.size ≤ l)
    (os : w'.os = w.os) (tape : w'.tape = w.tape) (output : w'.output = w.output) (size : w.heap.size ≤ w'.heap.size) (hk : ∀ k, k < w.heap.size → k ≠ l → w'.heap[k]? = w.heap[k]?) : Inv X γ F s w' where
  blk := fun n b hb => (hi.blk n b hb).same (fun k hF => hk k (hi.fr k hF) (fun e => hl (e ▸ hF))) (fun k hkk => hk k (hi.own n k (by simp [hb]) hkk).2.1 (fun e => hn n (by simp [hb]) (e ▸ hkk)))
  dom := hi.dom
  sep := hi.sep
  own := fun n k h1 h2 => ⟨(hi.own n k h1 h2).1, Nat.lt_of_lt_of_le (hi.own n k h1 h2).2.1 size, (hi.own n k h1 h2).2.2⟩
  fr := fun k h => Nat.lt_of_lt_of_le (hi.fr k h) size
  fold := hi.fold
  fnew := hi.fnew
  os := os.trans hi.os
  tape := tape.trans hi.tape
  output := output.trans hi.output
  size := Nat.le_trans hi.size size
  keep := fun k h1 h2 => (hk k (Nat.lt_of_lt_of_le h1 hi.size) (fun e => Nat.lt_irrefl _ (Nat.lt_of_lt_of_le h1 (e ▸ h0)))).trans (hi.keep k h1 h2)
  nm := hi.nm
  nu := hi.nu
  nl := hi.nl
end
end Go.Proofs.YtkbidoikndgheaaDoor.HL

namespace Go.Proofs.YtkbidoikndgheaaDoor.HL
open Go.RowKit
section
variable {X : Cx} {s : St} {k : List Item}
theorem Run.range1 {g : Operand} {ps : Array Tmp} {assign body : Code} {gid : FuncId} {caps : List AV} {o : Option (List AV)} (NL : List Nat) (hT : TOk X.P X.T) (hF : Fn X) (hro : X.ro = none) (hJ : ¬ X.tag) (hg : eo s.e g = .fn gid caps) (hn : nfL caps = true) (hI : IterOne X.P gid caps o)
    (hNL0 : (NL.all fun n => (s.L n).isSome) = true) (hps : ∀ p ∈ ps.toList, p < X.nt)
    (h1 : o = none → Run X k s)
    (h2 : ∀ its, o = some its → ps.toList.length = its.length ∧ ∀ X1, RA X k s NL X1 → Run X1 [.code assign, .beginRound, .code body] ⟨parE s.e ps.toList its, s.L, s.U⟩) : Run X (.code (.rangeFunc g ps assign body) :: k) s := by
  have hNL := List.all_eq_true.1 hNL0
  intro γ F a w hi he
  have hgv := eo_ok he.r g
  rw [hg] at hgv
  obtain ⟨vs, hgv, hcv⟩ := hgv
  have hcn : VL noName F w caps vs.toList := hcv.nf (γ' := noName) _ _ hn
  let D := w.heap.size
  let l := w.heap.size + 1
  let r0 : Loop := { state := .ready, pending := none, fn := X.f, tmps := a.tmps, params := ps, assign, body, defers := w.heap.size }
  let w1 := (w.alloc (.deferred (some []))).alloc (.loop r0)
  let mark : List Deferred := [{ target := .collected D, args := #[] }]
  let a' : Act := { a with defers := mark ++ a.defers }
  let F' : Nat → Prop := fun b => F b ∨ b = D
  have hle : l = w.heap.size + 1 := rfl
  have hDe : D = w.heap.size := rfl
  have hsz1 : w1.heap.size = w.heap.size + 2 := by
    show ((w.heap.push _).push _).size = _
    rw [Array.size_push, Array.size_push]
  have hw1 : Below w.heap.size w w1 := ⟨rfl, rfl, rfl, by omega, fun j hj => by
    show ((w.heap.push _).push _)[j]? = _
    rw [Array.getElem?_push_lt (by simp; omega), Array.getElem_push_lt hj]
    exact (Array.getElem?_eq_getElem hj).symm⟩
  have hl1 : w1.heap[l]? = some (.loop r0) := by
    have := World.alloc_heap_new (w.alloc (.deferred (some []))) (.loop r0)
    have e : (w.alloc (.deferred (some []))).heap.size = l := by
      show (w.heap.push _).size = _
      rw [Array.size_push]
    rwa [e] at this
  have hD1 : w1.heap[D]? = some (.deferred (some [])) := by
    show ((w.heap.push _).push _)[w.heap.size]? = _
    rw [Array.getElem?_push_lt (by simp)]
    simp
  have hF1 : ∀ b, F' b → b < w1.heap.size := by
    rintro b (hb | rfl)
    · have := hi.fr b hb; omega
    · omega
  have hcv1 : VL noName F' w1 caps vs.toList := hcn.mono (fun _ h => .inl h) (fun b hb => hw1.block b (hi.fr b hb)) _ _ (fun _ _ _ h => h)
  have hX0 : X.w0.heap.size ≤ w.heap.size := hi.size
  -- what a round leaves
  let G : World → Prop := fun w2 => ∃ s'' γ' Fz rr, Run X (.code .ret :: k) s'' ∧ Inv X γ' Fz s'' w2 ∧ (∀ t, VRel γ' Fz w2 (s''.e t) (a.tmps.getD t undef)) ∧ (∀ b, F' b → Fz b) ∧ (∀ b, F' b → w2.heap[b]? = w1.heap[b]?) ∧
    w2.heap[l]? = some (.loop rr) ∧ rr.state ≠ .busy ∧ rr.pending = some .ret ∧ ¬ Fz l ∧ (∀ n, (s''.L n).isSome → nmb γ' n ≠ some l)
  have hyp : ∀ its, o = some its → ∀ w1' (F1 : Nat → Prop) ys, Below w1.heap.size w1 w1' → (∀ b, F' b → F1 b) → (∀ b, F1 b → F' b ∨ w1.heap.size ≤ b) → (∀ b, F1 b → b < w1'.heap.size) → VL noName F1 w1' its ys → RoundF X.P l ys.toArray w1' G := by
    intro its ho w1' F1 ys hB hFF hF1' hF1s hys
    obtain ⟨hlen, hrun⟩ := h2 its ho
    have hlw : w1'.heap[l]? = some (.loop r0) := (hB.block l (by omega)).trans hl1
    have hysl : ys.length = its.length := hys.length
    refine ⟨r0, hlw, by show ys.toArray.size = ps.size; rw [List.size_toArray, hysl, ← hlen, Array.length_toList], fun fr cs => ?_⟩
    have hs1' : w1.heap.size ≤ w1'.heap.size := hB.size
    let O1 : Nat → Prop := fun b => ∃ n, (s.L n).isSome ∧ nmb γ n = some b
    have hO1 : ∀ b, O1 b → ¬ F b ∧ b < w.heap.size ∧ (X.w0.heap.size ≤ b ∨ X.O b) := fun b ⟨n, h1, h2⟩ => hi.own n b h1 h2
    let N1 : Nat → Option Value := fun n => if NL.contains n = true then γ n else none
    have hN1 : ∀ n v, N1 n = some v → NL.contains n = true ∧ γ n = some v := fun n v h => by
      simp only [N1] at h
      split at h
      · exact ⟨by assumption, h⟩
      · cases h
    let J1 : Option Code → World → Prop := fun j w' => j = some .ret ∧ G w'
    let X1 : Cx := ⟨X.P, X.T, X.f, X.nt, X.res, some l, w1', O1, F1, NL, N1, fun _ _ => True, J1⟩
    have hFn1 : ∀ X', X'.P = X.P → X'.f = X.f → X'.res = X.res → Fn X' := fun X' e1 e2 e3 => by
      obtain ⟨fn, hf1, hf2⟩ := hF.fn
      exact ⟨fn, by rw [e1, e2]; exact hf1, by rw [e3]; exact hf2⟩
    have hnF1 : ∀ b, b < w.heap.size → F1 b → F b := fun b hb h => (hF1' b h).elim (fun h => h.elim id (fun e => by omega)) (fun h => by omega)
    have hlF1 : ¬ F1 l := fun h => (hF1' l h).elim (fun h => h.elim (fun h => by have := hi.fr l h; omega) (fun e => by omega)) (fun h => by omega)
    have hi1 : Inv X1 γ F1 ⟨parE s.e ps.toList its, s.L, s.U⟩ w1' :=
      { blk := fun n b hb => (hi.blk n b hb).mono (fun _ _ h => h) (fun b h => hFF b (.inl h)) (fun b h => (hB.block b (by have := hi.fr b h; omega)).trans (hw1.block b (hi.fr b h))) (fun k hk => by
          have hb' : s.L n = some b := hb
          have := (hi.own n k (by rw [hb']; rfl) hk).2.1
          exact (hB.block k (by omega)).trans (hw1.block k this))
        dom := hi.dom
        sep := hi.sep
        own := fun n k h1 h2 => ⟨fun h => (hi.own n k h1 h2).1 (hnF1 k (hi.own n k h1 h2).2.1 h), by have := (hi.own n k h1 h2).2.1; show k < w1'.heap.size; omega, .inr ⟨n, h1, h2⟩⟩
        fr := hF1s
        fold := fun _ h => h
        fnew := fun _ h => .inl h
        os := rfl, tape := rfl, output := rfl, size := Nat.le_refl _, keep := fun _ _ _ => rfl
        nm := fun n v h _ => (hN1 n v h).2
        nu := fun n v h => hi.dom n v (hN1 n v h).2
        nl := fun n v h => by simpa using (hN1 n v h).1 }
    have hR1 : RA X k s NL X1 := by
      refine ⟨⟨rfl, rfl, rfl, rfl, rfl, hT, hFn1 X1 rfl rfl rfl⟩, ?_⟩
      intro k' s' hk γ' F2 a1 w3 hi3 he3
      have hl3 : w3.heap[l]? = some (.loop r0) := (hi3.keep l (by show l < w1'.heap.size; omega) (fun h => by have := (hO1 l h).2.1; omega)).trans hlw
      let r1 : Loop := { r0 with state := .busy }
      let w3' := w3.putObj l (.loop r1)
      have hl3' : w3'.heap[l]? = some (.loop r1) := World.putObj_heap_same (by
        have := Array.getElem?_eq_some_iff.1 hl3
        exact this.1)
      have hs3 : w1'.heap.size ≤ w3.heap.size := hi3.size
      have hlF2 : ¬ F2 l := fun h => (hi3.fnew l h).elim hlF1 (fun h => h.elim (fun h => by have h : w1'.heap.size ≤ l := h; omega) (fun h => by have := (hO1 l h).2.1; omega))
      have hln : ∀ n, (s'.L n).isSome → nmb γ' n ≠ some l := fun n h1 h2 => (hi3.own n l h1 h2).2.2.elim (fun h => by have h : w1'.heap.size ≤ l := h; omega) (fun h => by have := (hO1 l h).2.1; omega)
      have ho3 : ∀ b, b ≠ l → w3'.heap[b]? = w3.heap[b]? := fun b hb => World.putObj_heap_other hb
      let O2 : Nat → Prop := fun b => ∃ n, (s'.L n).isSome ∧ nmb γ' n = some b
      have hO2 : ∀ b, O2 b → ¬ F2 b ∧ b < w3.heap.size ∧ (w1'.heap.size ≤ b ∨ O1 b) := fun b ⟨n, h1, h2⟩ => hi3.own n b h1 h2
      let X2 : Cx := ⟨X.P, X.T, X.f, X.nt, X.res, some l, w3', O2, F2, NL, N1, fun _ _ => True, J1⟩
      have hi3' : Inv X2 γ' F2 s' w3' :=
        { blk := fun n b hb => (hi3.blk n b hb).same (fun b hb => ho3 b (fun e => hlF2 (e ▸ hb))) (fun k hk => ho3 k (fun e => hln n (by simp [hb]) (e ▸ hk)))
          dom := hi3.dom
          sep := hi3.sep
          own := fun n k h1 h2 => ⟨(hi3.own n k h1 h2).1, by show k < w3'.heap.size; rw [World.putObj_size]; exact (hi3.own n k h1 h2).2.1, .inr ⟨n, h1, h2⟩⟩
          fr := fun b h => by rw [World.putObj_size]; exact hi3.fr b h
          fold := fun _ h => h
          fnew := fun _ h => .inl h
          os := rfl, tape := rfl, output := rfl, size := Nat.le_refl _, keep := fun _ _ _ => rfl
          nm := hi3.nm, nu := hi3.nu, nl := hi3.nl }
      have hd0 : a1.defers = [] := he3.d.1 trivial
      have he3' : ERel X2 γ' F2 s' a1 w3' := ⟨⟨fun _ => hd0, [], .nil, hd0, fun r h => by cases h⟩, he3.n, fun t => (he3.r t).mono (fun _ h => h) (fun b hb => ho3 b (fun e => hlF2 (e ▸ hb))) _ _ (fun _ _ _ h => h)⟩
      have hR2 : RB X k s NL X2 := by
        refine ⟨⟨rfl, rfl, rfl, rfl, rfl, hT, hFn1 X2 rfl rfl rfl⟩, ?_⟩
        intro s2 hrun2
        refine ⟨l, rfl, fun γ2 F3 w5 hi5 => ?_⟩
        have hs5 : w3.heap.size ≤ w5.heap.size := by have : w3'.heap.size ≤ w5.heap.size := hi5.size; rwa [World.putObj_size] at this
        have hlO2 : ¬ O2 l := fun h => (hO2 l h).2.2.elim (fun h => by omega) (fun h => by have := (hO1 l h).2.1; omega)
        have hl5 : w5.heap[l]? = some (.loop r1) := (hi5.keep l (by show l < w3'.heap.size; rw [World.putObj_size]; omega) hlO2).trans hl3'
        refine ⟨r1, _, hl5, rfl, rfl, ?_⟩
        let w6 := w5.putObj l (.loop { r1 with state := if (some Code.ret).isNone then .ready else .done, pending := some .ret })
        have ho6 : ∀ b, b ≠ l → w6.heap[b]? = w5.heap[b]? := fun b hb => World.putObj_heap_other hb
        have hs3' : w3'.heap.size = w3.heap.size := World.putObj_size
        have hs6 : w6.heap.size = w5.heap.size := World.putObj_size
        have hlF3 : ¬ F3 l := fun h => (hi5.fnew l h).elim hlF2 (fun h => h.elim (fun h => by have h : w3'.heap.size ≤ l := h; omega) hlO2)
        have hln5 : ∀ n, (s2.L n).isSome → nmb γ2 n ≠ some l := fun n h1 h2 => (hi5.own n l h1 h2).2.2.elim (fun h => by have h : w3'.heap.size ≤ l := h; omega) hlO2
        have c1 : ∀ b, O1 b → X.w0.heap.size ≤ b ∨ X.O b := fun b h => (hO1 b h).2.2
        have c2 : ∀ b, O2 b → X.w0.heap.size ≤ b ∨ X.O b := fun b h => (hO2 b h).2.2.elim (fun h => .inl (by omega)) (c1 b)
        -- what is frozen stays
        have fz : ∀ b, F' b → w6.heap[b]? = w1.heap[b]? := by
          intro b hb
          have hbs := hF1 b hb
          have hbl : b ≠ l := fun e => hlF1 (hFF l (e ▸ hb))
          have hb1 : ¬ O1 b := fun h => hb.elim (fun hb => (hO1 b h).1 hb) (fun e => by have := (hO1 b h).2.1; omega)
          have hb2 : ¬ O2 b := fun h => (hO2 b h).1 (hi3.fold b (hFF b hb))
          exact (ho6 b hbl).trans ((hi5.keep b (by show b < w3'.heap.size; omega) hb2).trans ((ho3 b hbl).trans ((hi3.keep b (by show b < w1'.heap.size; omega) hb1).trans (hB.block b hbs))))
        have fF : ∀ b, F' b → F3 b := fun b hb => hi5.fold b (hi3.fold b (hFF b hb))
        have hL : ∀ n, ((aft s NL s2).L n).isSome → NL.contains n = true ∧ (s2.L n).isSome := fun n h => by
          simp only [aft] at h
          split at h
          · exact ⟨by assumption, h⟩
          · cases h
        refine ⟨aft s NL s2, γ2, F3, _, hrun2, ?_, ?_, fF, fz, World.putObj_heap_same ((Array.getElem?_eq_some_iff.1 hl5).1), (by simp), rfl, hlF3, fun n h => ?_⟩
        · exact
          { blk := fun n b hb => by
              have h3 : (aft s NL s2).L n = some b := hb
              have h4 := hL n (by simp [h3])
              have h5 : s2.L n = some b := by
                have h3' := h3
                simp only [aft, h4.1, if_true] at h3'
                exact h3'
              exact (hi5.blk n b h5).same (fun b hb => ho6 b (fun e => hlF3 (e ▸ hb))) (fun k hk => ho6 k (fun e => hln5 n h4.2 (e ▸ hk)))
            dom := fun n v h => by
              have := hi5.dom n v h
              simp only [aft, this, Bool.true_or]
            sep := fun n m k h1 h2 => hi5.sep n m k (hL n h1).2 (hL m h2).2
            own := fun n k h1 h2 => by
              obtain ⟨p1, p2, p3⟩ := hi5.own n k (hL n h1).2 h2
              refine ⟨p1, by show k < w6.heap.size; omega, p3.elim (fun h => .inl ?_) (c2 k)⟩
              have h : w3'.heap.size ≤ k := h
              omega
            fr := fun b h => by have := hi5.fr b h; show b < w6.heap.size; omega
            fold := fun b h => fF b (.inl (hi.fold b h))
            fnew := fun b h => by
              rcases hi5.fnew b h with h | h | h
              · rcases hi3.fnew b h with h | h | h
                · rcases hF1' b h with h | h
                  · rcases h with h | h
                    · exact hi.fnew b h
                    · exact .inr (.inl (by omega))
                  · exact .inr (.inl (by omega))
                · have h : w1'.heap.size ≤ b := h
                  exact .inr (.inl (by omega))
                · exact .inr (c1 b h)
              · have h : w3'.heap.size ≤ b := h
                exact .inr (.inl (by omega))
              · exact .inr (c2 b h)
            os := hi5.os.trans (hi3.os.trans (hB.os.trans (hw1.os.trans hi.os)))
            tape := hi5.tape.trans (hi3.tape.trans (hB.tape.trans (hw1.tape.trans hi.tape)))
            output := hi5.output.trans (hi3.output.trans (hB.output.trans (hw1.output.trans hi.output)))
            size := by show X.w0.heap.size ≤ w6.heap.size; omega
            keep := fun b h1 h2 => by
              have hbl : b ≠ l := by omega
              have hb1 : ¬ O1 b := fun h => (c1 b h).elim (fun h => by omega) h2
              have hb2 : ¬ O2 b := fun h => (c2 b h).elim (fun h => by omega) h2
              exact (ho6 b hbl).trans ((hi5.keep b (by show b < w3'.heap.size; omega) hb2).trans ((ho3 b hbl).trans ((hi3.keep b (by show b < w1'.heap.size; omega) hb1).trans ((hB.block b (by omega)).trans ((hw1.block b (by omega)).trans (hi.keep b h1 h2))))))
            nm := fun n v h1 h2 => by
              obtain ⟨h3, h4⟩ := hL n h2
              refine hi5.nm n v ?_ h4
              show N1 n = some v
              simp only [N1, h3, if_true]
              exact hi.nm n v h1 (hNL n (by simpa using h3))
            nu := fun n v h => by
              have := hi.nu n v h
              simp only [aft, this, Bool.or_true]
            nl := hi.nl }
        · intro t
          show VRel γ2 F3 w6 ((aft s NL s2).e t) _
          by_cases hu : inU (NL.filter fun n => (s2.L n).isSome) (s.e t) = true
          · have e : (aft s NL s2).e t = s.e t := by simp only [aft, if_pos hu]
            rw [e]
            refine (he.r t).mono (fun b h => fF b (.inl h)) (fun b hb => (fz b (.inl hb)).trans (hw1.block b (hi.fr b hb))) _ _ (fun n hun v hv => ?_)
            have hc := uses_inU _ hu hun
            simp only [List.contains_iff_mem, List.mem_filter] at hc
            refine hi5.nm n v ?_ hc.2
            show N1 n = some v
            simp only [N1, List.contains_iff_mem.2 hc.1, if_true]
            exact hv
          · have e : (aft s NL s2).e t = .junk := by simp only [aft, if_neg hu]
            rw [e]
            trivial
        · exact hln5 n (hL n h).2
      have hgo : Goes X2 k' a1 w3' := hk X2 hR2 γ' F2 a1 w3' hi3' he3'
      refine .of_step (fun cs => stepR_beginRound rfl (run_beginRound hl3 rfl)) ?_
      exact hgo
    have hpar := parE_ok (γ := γ) (F := F1) (w := w1') (ps := ps.toList) (e := s.e) (its := its) (ys := ys) (tmps := a.tmps) he.n hps (fun t => (he.r t).mono (fun b h => hFF b (.inl h)) (fun b hb => (hB.block b (by have := hi.fr b hb; omega)).trans (hw1.block b (hi.fr b hb))) _ _ (fun _ _ _ h => h)) hys.any hlen
    have hgo := hrun X1 hR1 γ F1 { tmps := (ps.toList.zip ys).foldl (fun tmps (p : Nat × Value) => tmps.setIfInBounds p.1 p.2) a.tmps, defers := [] } w1' hi1 ⟨⟨fun _ => rfl, [], .nil, rfl, fun r h => by cases h⟩, hpar.1, hpar.2⟩
    obtain ⟨m, hfin, hst⟩ := hgo (fr :: cs) (fun _ => by simp)
    obtain ⟨c, cs', j, w', e1, rfl, hj, hG⟩ := hfin
    obtain ⟨rfl, rfl⟩ := List.cons.inj e1
    refine ⟨w', hG, ?_⟩
    subst hj
    have e2 : (r0.params.zip ys.toArray).foldl (fun tmps (t, a) => tmps.setIfInBounds t a) r0.tmps = (ps.toList.zip ys).foldl (fun tmps (p : Nat × Value) => tmps.setIfInBounds p.1 p.2) a.tmps := by
      rw [← Array.foldl_toList, Array.toList_zip]
    rw [e2]
    have e3 : Frame.round l r0.fn ((ps.toList.zip ys).foldl (fun tmps (p : Nat × Value) => tmps.setIfInBounds p.1 p.2) a.tmps) r0.assign r0.body .normal = (base X1).atR { tmps := (ps.toList.zip ys).foldl (fun tmps (p : Nat × Value) => tmps.setIfInBounds p.1 p.2) a.tmps, defers := [] } [.code assign, .beginRound, .code body] := by
      simp [Frame.round, Frame.atR, base, X1, r0]
    rw [e3]
    exact hst
  intro cs hcs
  obtain ⟨v, w', hR, hsteps⟩ := hI.run F' w1 vs.toList l G hF1 hcv1 hyp ((base X).atR a' (.inRangeFunc l :: k)) cs
  have hent : (Instr.enterLoop (base X).fn a.tmps ps assign body (base X).roundOf).run X.P w = .ok (l, mark) w1 := by
    have : (base X).roundOf = none := hro
    rw [this]
    exact run_enterLoop_outer X.f a.tmps ps assign body
  have hcall : step X.P (lone ((base X).atR a (.code (.rangeFunc g ps assign body) :: k)) cs w) = .next (lone (Frame.enter X.P gid (#[.func (.yield l) #[] #[]] ++ vs) .normal) ((base X).atR a' (.inRangeFunc l :: k) :: cs) w1) := by
    obtain ⟨fn, f1, f2, f3⟩ := hI.call.is
    have f4 : ¬ fn.body = none := by cases hb : fn.body <;> simp_all
    have f5 : ¬ fn.name = "runtime.NumGoroutine" := by simpa using f3
    refine stepR_rangeFunc hent (d := ⟨.fn (.func gid) vs, #[.func (.yield l) #[] #[]]⟩) (w₁' := w1) ?_ ?_
    · simp [resolve, rangeCall, hgv, Deferred.ofValue]
      rfl
    · simp [invoke, callFunc, f1, f4, f5]
  have hback : ∀ (jump : Option Code) (w4 : World), (Instr.endLoop l).run X.P w' = .ok jump w4 → Goes X ((jump.map Item.code).toList ++ k) a' w4 → ∃ m, Fin X cs m ∧ Steps X.P (lone ((base X).atR a (.code (.rangeFunc g ps assign body) :: k)) cs w) m := by
    intro jump w4 hend hgo
    obtain ⟨m, hm, hst⟩ := hgo cs hcs
    refine ⟨m, hm, .head hcall (Steps.trans hsteps ?_)⟩
    rw [finish_atR_inRangeFunc]
    exact .head (stepR_endRangeFunc hend) hst
  have hmarks : ∀ (Fz : Nat → Prop) (w4 : World), (∀ b, F' b → Fz b) → (∀ b, F' b → w4.heap[b]? = w1.heap[b]?) → Marks X.tag X.w0 Fz w4 a'.defers := by
    intro Fz w4 hf hh
    obtain ⟨_, M, hM1, hM2, hM3⟩ := he.d
    refine ⟨fun h => absurd h hJ, D :: M, ?_, ?_, ?_⟩
    · refine List.nodup_cons.2 ⟨fun h => ?_, hM1⟩
      have := hi.fr D (hM3 D h).2.1
      omega
    · show mark ++ a.defers = _
      rw [hM2]; rfl
    · intro r hr
      rcases List.mem_cons.1 hr with rfl | hr
      · exact ⟨hX0, hf _ (.inr rfl), (hh _ (.inr rfl)).trans hD1⟩
      · obtain ⟨q1, q2, q3⟩ := hM3 r hr
        exact ⟨q1, hf _ (.inl q2), (hh _ (.inl q2)).trans ((hw1.block r (hi.fr r q2)).trans q3)⟩
  rcases hR with ⟨ho, hB⟩ | ⟨ho, w2, hG, hB⟩
  · have hlw : w'.heap[l]? = some (.loop r0) := (hB.block l (by omega)).trans hl1
    have hend := run_endLoop (P := X.P) hlw (by simp [r0])
    refine hback _ _ hend ?_
    let w4 := w'.putObj l (.loop { r0 with state := .exhausted })
    have ho4 : ∀ b, b ≠ l → w4.heap[b]? = w'.heap[b]? := fun b hb => World.putObj_heap_other hb
    have hs4 : w4.heap.size = w'.heap.size := World.putObj_size
    have hsB : w1.heap.size ≤ w'.heap.size := hB.size
    have hb4 : Below w.heap.size w w4 := ⟨hB.os.trans hw1.os, hB.tape.trans hw1.tape, hB.output.trans hw1.output, by omega, fun b hb => (ho4 b (by omega)).trans ((hB.block b (by omega)).trans (hw1.block b hb))⟩
    have hF' : ∀ b, F' b → F b ∨ w.heap.size ≤ b := fun b hb => hb.imp id (fun e => by omega)
    have hi4 : Inv X γ F' s w4 := hi.grow hb4 (fun _ h => .inl h) hF' (fun b h => by have := hF1 b h; omega)
    have he4 : ERel X γ F' s a' w4 := ⟨hmarks F' w4 (fun _ h => h) (fun b hb => (ho4 b (fun e => hb.elim (fun h => by have := hi.fr b h; omega) (fun h => by omega))).trans (hB.block b (hF1 b hb))), he.n, fun t => VRel.grow hi hb4 (fun _ h => .inl h) (he.r t)⟩
    exact h1 ho γ F' a' w4 hi4 he4
  · obtain ⟨s'', γ', Fz, rr, hrun, hi2, ht2, hf2, hh2, hl2, hb2, hp2, hlF, hln⟩ := hG
    have hl2s : l < w2.heap.size := (Array.getElem?_eq_some_iff.1 hl2).1
    have hlw : w'.heap[l]? = some (.loop rr) := (hB.block l hl2s).trans hl2
    have hend := run_endLoop (P := X.P) hlw hb2
    refine hback _ _ hend ?_
    let w4 := w'.putObj l (.loop { rr with state := .exhausted })
    have ho4 : ∀ b, b ≠ l → w4.heap[b]? = w'.heap[b]? := fun b hb => World.putObj_heap_other hb
    have hs4 : w4.heap.size = w'.heap.size := World.putObj_size
    have hi4 : Inv X γ' Fz s'' w4 := hi2.other hlF hln (by omega) hB.os hB.tape hB.output (by rw [hs4]; exact hB.size) (fun b hb hbl => (ho4 b hbl).trans (hB.block b hb))
    have hfz : ∀ b, Fz b → w4.heap[b]? = w2.heap[b]? := fun b hb => (ho4 b (fun e => hlF (e ▸ hb))).trans (hB.block b (hi2.fr b hb))
    have he4 : ERel X γ' Fz s'' a' w4 := ⟨hmarks Fz w4 hf2 (fun b hb => (hfz b (hf2 b hb)).trans (hh2 b hb)), he.n, fun t => (ht2 t).mono (fun _ h => h) hfz _ _ (fun _ _ _ h => h)⟩
    have hj : ∀ j, j = some Code.ret → Goes X ((j.map Item.code).toList ++ k) a' w4 := by
      rintro _ rfl
      exact hrun γ' Fz a' w4 hi4 he4
    exact hj _ hp2
end
end Go.Proofs.YtkbidoikndgheaaDoor.HL

namespace Go.Proofs.YtkbidoikndgheaaDoor.HL
open Go.RowKit
/-- Names that are read only from then on. -/
def bZ (Z : List Nat) (n : Nat) : Option Nat := if Z.contains n = true then none else some n
def frzSt (Z : List Nat) (s : St) : St := ⟨fun t => (cv s.L (bZ Z) (s.e t)).getD .junk, fun n => if Z.contains n = true then none else s.L n, s.U⟩
section
variable {X : Cx} {s : St} {k : List Item}
theorem Run.frzs (Z : List Nat) (h : Run X k (frzSt Z s)) : Run X k s := by
  intro γ F a w hi he
  have hL : ∀ n, ((frzSt Z s).L n).isSome → Z.contains n = false ∧ (s.L n).isSome := fun n h => by
    simp only [frzSt] at h
    split at h
    · cases h
    · rename_i e; exact ⟨by simpa using e, h⟩
  have hF' : ∀ b, FF γ F s.L (bZ Z) b → b < w.heap.size ∧ (F b ∨ X.w0.heap.size ≤ b ∨ X.O b) := by
    rintro b (hb | ⟨n, hn, _, hk⟩)
    · exact ⟨hi.fr b hb, .inl hb⟩
    · exact ⟨(hi.own n b hn hk).2.1, .inr (hi.own n b hn hk).2.2⟩
  have hbz : ∀ n, Z.contains n = false → bZ Z n = some n := fun n h => by simp only [bZ, h, Bool.false_eq_true, if_false]
  have hd : Marks X.tag X.w0 (FF γ F s.L (bZ Z)) w a.defers := he.d.fwd (γ := γ) (γ' := γ) ⟨fun _ _ h => h, fun _ h => .inl h, fun _ _ => rfl⟩
  refine h γ (FF γ F s.L (bZ Z)) a w ?_ ⟨hd, he.n, fun t => ?_⟩
  · exact
    { blk := fun n b hb => by
        obtain ⟨h1, h2⟩ := hL n (by rw [hb]; rfl)
        have h3 : s.L n = some b := by
          have hb' := hb
          simp only [frzSt, h1] at hb'
          exact hb'
        exact (hi.blk n b h3).mono (fun _ _ h => h) (fun _ h => .inl h) (fun _ _ => rfl) (fun _ _ => rfl)
      dom := hi.dom
      sep := fun n m k h1 h2 => hi.sep n m k (hL n h1).2 (hL m h2).2
      own := fun n k h1 h2 => by
        obtain ⟨h3, h4⟩ := hL n h1
        obtain ⟨p1, p2, p3⟩ := hi.own n k h4 h2
        refine ⟨?_, p2, p3⟩
        rintro (hb | ⟨m, hm, hz, hk⟩)
        · exact p1 hb
        · have := hi.sep n m k h4 hm h2 hk
          subst this
          rw [hbz n h3] at hz
          cases hz
      fr := fun b h => (hF' b h).1
      fold := fun b h => .inl (hi.fold b h)
      fnew := fun b h => (hF' b h).2.elim (hi.fnew b) .inr
      os := hi.os, tape := hi.tape, output := hi.output, size := hi.size, keep := hi.keep
      nm := fun n v h1 h2 => hi.nm n v h1 (hL n h2).2
      nu := hi.nu, nl := hi.nl }
  · show VRel γ _ w ((cv s.L (bZ Z) (s.e t)).getD .junk) _
    cases hc : cv s.L (bZ Z) (s.e t) with
    | none => trivial
    | some r => exact cv_ok (fun n b hb => hi.blk n b hb) (fun n m hm => by
        simp only [bZ] at hm
        split at hm
        · cases hm
        · injection hm with hm; rw [hm]) _ _ _ (he.r t) hc
end
end Go.Proofs.YtkbidoikndgheaaDoor.HL

/-! The evaluator's equations, bundled for simp. -/
namespace Go.Proofs.YtkbidoikndgheaaDoor.HL
open Go.RowKit
set_option maxRecDepth 100000
theorem zS : type_of% (And.intro (And.intro (And.intro (And.intro (And.intro (And.intro (And.intro (And.intro (And.intro @vc.eq_1 @vc.eq_2) (And.intro @vc.eq_3 @vc.eq_4)) (And.intro (And.intro @vc.eq_5 @vc.eq_6) (And.intro @vc.eq_7 @vc.eq_8))) (And.intro (And.intro (And.intro @vc.eq_9 @vc.eq_10) (And.intro @vc.eq_11 @vc.eq_12)) (And.intro (And.intro @vc.eq_13 @vc.eq_14) (And.intro @vc.eq_15 @vc.eq_16)))) (And.intro (And.intro (And.intro (And.intro @vo.eq_1 @vo.eq_2) (And.intro @vo.eq_3 @vo.eq_4)) (And.intro (And.intro @vo.eq_5 @v1.eq_1) (And.intro @v1.eq_2 @v2.eq_1))) (And.intro (And.intro (And.intro @v2.eq_2 @vx.eq_1) (And.intro @vx.eq_2 @vx.eq_3)) (And.intro (And.intro @vb.eq_1 @vb.eq_2) (And.intro @vg.eq_1 (And.intro @vg.eq_2 @vg.eq_3)))))) (And.intro (And.intro (And.intro (And.intro (And.intro @vg_undef @vh.eq_1) (And.intro @vh.eq_2 @Go.exitTo.eq_1)) (And.intro (And.intro @Go.exitTo.eq_2 @Go.exitTo.eq_3) (And.intro @Go.gotoIn.eq_1 @Go.gotoIn.eq_2))) (And.intro (And.intro (And.intro @Go.gotoIn.eq_3 @Go.findLabel.eq_1) (And.intro @Go.findLabel.eq_2 @Go.findLabel.eq_3)) (And.intro (And.intro @bc_true @bc_false) (And.intro @bg_tt @bg_ff)))) (And.intro (And.intro (And.intro (And.intro @bg_tf @bg_ft) (And.intro @ev.eq_1 @isA.eq_1)) (And.intro (And.intro @isA.eq_2 @isA.eq_3) (And.intro @isA.eq_4 @isA.eq_5))) (And.intro (And.intro (And.intro @isA.eq_6 @isA.eq_7) (And.intro @isA.eq_8 @isA.eq_9)) (And.intro (And.intro @isA.eq_10 @isA.eq_11) (And.intro @eff0.eq_1 (And.intro @eff0.eq_2 @evV.eq_1))))))) (And.intro (And.intro (And.intro (And.intro (And.intro (And.intro @evV.eq_2 @evV.eq_3) (And.intro @evV.eq_4 @evV.eq_5)) (And.intro (And.intro @evV.eq_6 @evV.eq_7) (And.intro @evV.eq_8 @evV.eq_9))) (And.intro (And.intro (And.intro @evV.eq_10 @evV.eq_11) (And.intro @evV.eq_12 @evV.eq_13)) (And.intro (And.intro @evV.eq_14 @evV.eq_15) (And.intro @evV.eq_16 @evV.eq_17)))) (And.intro (And.intro (And.intro (And.intro @evV.eq_18 @evV.eq_19) (And.intro @evV.eq_20 @evA.eq_1)) (And.intro (And.intro @evA.eq_2 @evA.eq_3) (And.intro @evA.eq_4 @evA.eq_5))) (And.intro (And.intro (And.intro @evA.eq_6 @evA.eq_7) (And.intro @evA.eq_8 @evA.eq_9)) (And.intro (And.intro @evA.eq_10 @evA.eq_11) (And.intro @rdV.eq_1 (And.intro @rdV.eq_2 @rdV.eq_3)))))) (And.intro (And.intro (And.intro (And.intro (And.intro @rdV.eq_4 @rdV.eq_5) (And.intro @rdV.eq_6 @nmO.eq_1)) (And.intro (And.intro @nmO.eq_2 @nmO.eq_3) (And.intro @nmO.eq_4 @nmO.eq_5))) (And.intro (And.intro (And.intro @eo.eq_1 @eo.eq_2) (And.intro @eo.eq_3 @eo.eq_4)) (And.intro (And.intro @ofV.eq_1 @ofV.eq_2) (And.intro @ofV.eq_3 @ofV.eq_4)))) (And.intro (And.intro (And.intro (And.intro @ofV.eq_5 @ofV.eq_6) (And.intro @ofV.eq_7 @ofV.eq_8)) (And.intro (And.intro @ofV.eq_9 @ofV.eq_10) (And.intro @ofV.eq_11 @ofV.eq_12))) (And.intro (And.intro (And.intro @ofV.eq_13 @ofV.eq_14) (And.intro @ofV.eq_15 @put.eq_1)) (And.intro (And.intro @put.eq_2 @apL.eq_1) (And.intro @apL.eq_2 (And.intro @apU.eq_1 @apU.eq_2)))))))) (And.intro (And.intro (And.intro
  (And.intro (And.intro (And.intro (And.intro @upd.eq_1 @mk.eq_1) (And.intro @mk.eq_2 @bxp.eq_1)) (And.intro (And.intro @effU.eq_1 @yl.eq_1) (And.intro @eBin.eq_1 @eBin.eq_2))) (And.intro (And.intro (And.intro @eBin.eq_3 @eBin.eq_4) (And.intro @eBin.eq_5 @eBin.eq_6)) (And.intro (And.intro @eBin.eq_7 @eNilB.eq_1) (And.intro @eNilB.eq_2 @eNilB.eq_3)))) (And.intro (And.intro (And.intro (And.intro @isSlice.eq_1 @isSlice.eq_2) (And.intro @isBool.eq_1 @isBool.eq_2)) (And.intro (And.intro @eEq.eq_1 @eEq.eq_2) (And.intro @eEq.eq_3 @eqL.eq_1))) (And.intro (And.intro (And.intro @eqL.eq_2 @eqL.eq_3) (And.intro @eqL.eq_4 @eInt.eq_1)) (And.intro (And.intro @eInt.eq_2 @eInt.eq_3) (And.intro @eInt.eq_4 (And.intro @eInt.eq_5 @eInt.eq_6)))))) (And.intro (And.intro (And.intro (And.intro (And.intro @eInt.eq_7 @eInt.eq_8) (And.intro @eInt.eq_9 @eInt.eq_10)) (And.intro (And.intro @eInt.eq_11 @eInt.eq_12) (And.intro @eStr.eq_1 @eStr.eq_2))) (And.intro (And.intro (And.intro @eStr.eq_3 @eStr.eq_4) (And.intro @eStr.eq_5 @eStr.eq_6)) (And.intro (And.intro @eStr.eq_7 @eStr.eq_8) (And.intro @eUn.eq_1 @eUn.eq_2)))) (And.intro (And.intro (And.intro (And.intro @eUn.eq_3 @ePick.eq_1) (And.intro @ePick.eq_2 @eLoad.eq_1)) (And.intro (And.intro @eLoad.eq_2 @eLoad.eq_3) (And.intro @eLoad.eq_4 @boxOf.eq_1))) (And.intro (And.intro (And.intro @boxOf.eq_2 @ownOf.eq_1) (And.intro @ownOf.eq_2 @rowsOf.eq_1)) (And.intro (And.intro @rowsOf.eq_2 @mapOf.eq_1) (And.intro @mapOf.eq_2 (And.intro @cut.eq_1 @cutR.eq_def))))))) (And.intro (And.intro (And.intro (And.intro (And.intro (And.intro @cutR.eq_1 @cutR.eq_2) (And.intro @one.eq_def @one.eq_1)) (And.intro (And.intro @one.eq_2 @eField.eq_1) (And.intro @eField.eq_2 @eField.eq_3))) (And.intro (And.intro (And.intro @eField.eq_4 @eFieldV.eq_1) (And.intro @eFieldV.eq_2 @eIdxA.eq_def)) (And.intro (And.intro @eIdxA.eq_1 @eIdxA.eq_2) (And.intro @eIdxA.eq_3 @eIdxA.eq_4)))) (And.intro (And.intro (And.intro (And.intro @eIdxA.eq_5 @idxO.eq_def) (And.intro @idxO.eq_1 @idxO.eq_2)) (And.intro (And.intro @eIdx.eq_1 @eIdx.eq_2) (And.intro @eExt.eq_1 @eExt.eq_2))) (And.intro (And.intro (And.intro @eLen.eq_1 @eLen.eq_2) (And.intro @eLen.eq_3 @eLen.eq_4)) (And.intro (And.intro @eLen.eq_5 @eLen.eq_6) (And.intro @eLenR.eq_1 (And.intro @eLenR.eq_2 @eSlice.eq_def)))))) (And.intro (And.intro (And.intro (And.intro (And.intro @eSlice.eq_1 @eSlice.eq_2) (And.intro @eSlice.eq_3 @eSlice.eq_4)) (And.intro (And.intro @eSlice.eq_5 @eSlice3.eq_def) (And.intro @eSlice3.eq_1 @eSlice3.eq_2))) (And.intro (And.intro (And.intro @eCutO.eq_def @eCutO.eq_1) (And.intro @eCutO.eq_2 @eCutO.eq_3)) (And.intro (And.intro @bnd.eq_1 @bnd.eq_2) (And.intro @bnd.eq_3 (And.intro @eCutS.eq_def @eCutS.eq_1))))) (And.intro (And.intro (And.intro (And.intro @eCutS.eq_2 @eCutR.eq_def) (And.intro @eCutR.eq_1 @eCutR.eq_2)) (And.intro (And.intro @eConv.eq_1 @eConv.eq_2) (And.intro @eConv.eq_3 @eNil.eq_1))) (And.intro (And.intro (And.intro @eNil.eq_2 @eNil.eq_3) (And.intro @eNil.eq_4 @eNil.eq_5)) (And.intro (And.intro
  @eBuild.eq_1 @eBuild.eq_2) (And.intro @fillA.eq_1 (And.intro @fillA.eq_2 @eStore.eq_1))))))))) (And.intro (And.intro (And.intro (And.intro (And.intro (And.intro (And.intro (And.intro @eStore.eq_2 @eStore.eq_3) (And.intro @sto.eq_def @sto.eq_1)) (And.intro (And.intro @sto.eq_2 @stoR.eq_def) (And.intro @stoR.eq_1 @stoR.eq_2))) (And.intro (And.intro (And.intro @effS.eq_def @effS.eq_1) (And.intro @effS.eq_2 @isCell.eq_1)) (And.intro (And.intro @isCell.eq_2 @isCell.eq_3) (And.intro @isCell.eq_4 @isCell.eq_5)))) (And.intro (And.intro (And.intro (And.intro @isCell.eq_6 @isCell.eq_7) (And.intro @isCell.eq_8 @isCell.eq_9)) (And.intro (And.intro @isCell.eq_10 @isCell.eq_11) (And.intro @isCell.eq_12 @isCell.eq_13))) (And.intro (And.intro (And.intro @isCell.eq_14 @isCell.eq_15) (And.intro @isCell.eq_16 @cellsOf.eq_1)) (And.intro (And.intro @cellsOf.eq_2 @cellsOf.eq_3) (And.intro @cellsOf.eq_4 (And.intro @cellsOf.eq_5 @cellsOf.eq_6)))))) (And.intro (And.intro (And.intro (And.intro (And.intro @cellsOf.eq_7 @cellsOf.eq_8) (And.intro @cellsOf.eq_9 @cellsOf.eq_10)) (And.intro (And.intro @eBS.eq_1 @eBS.eq_2) (And.intro @bsRows.eq_1 @bsRows.eq_2))) (And.intro (And.intro (And.intro @eApp.eq_1 @eApp.eq_2) (And.intro @appX.eq_1 @appX.eq_2)) (And.intro (And.intro @appI.eq_def @appI.eq_1) (And.intro @appI.eq_2 @clrI.eq_def)))) (And.intro (And.intro (And.intro (And.intro @clrI.eq_1 @clrI.eq_2) (And.intro @app2.eq_def @app2.eq_1)) (And.intro (And.intro @app2.eq_2 @appD.eq_def) (And.intro @appD.eq_1 @appD.eq_2))) (And.intro (And.intro (And.intro @appD.eq_3 @appD.eq_4) (And.intro @appS.eq_1 @appS.eq_2)) (And.intro (And.intro @appS.eq_3 @appS.eq_4) (And.intro @appS.eq_5 (And.intro @isU8.eq_1 @isU8.eq_2))))))) (And.intro (And.intro (And.intro (And.intro (And.intro (And.intro @isSS.eq_1 @isSS.eq_2) (And.intro @isSS.eq_3 @kill.eq_1)) (And.intro (And.intro @kill.eq_2 @eClr.eq_1) (And.intro @eClr.eq_2 @mkSl.eq_def))) (And.intro (And.intro (And.intro @mkSl.eq_1 @mkSl.eq_2) (And.intro @cpy.eq_def @cpy.eq_1)) (And.intro (And.intro @cpy.eq_2 @eCpy.eq_1) (And.intro @eCpy.eq_2 @eLook.eq_1)))) (And.intro (And.intro (And.intro (And.intro @eLook.eq_2 @lkp.eq_def) (And.intro @lkp.eq_1 @lkp.eq_2)) (And.intro (And.intro @isI64.eq_1 @isI64.eq_2) (And.intro @eMapU.eq_1 @eMapU.eq_2))) (And.intro (And.intro (And.intro @nf.eq_1 @nf.eq_2) (And.intro @nf.eq_3 @nf.eq_4)) (And.intro (And.intro @nf.eq_5 @nf.eq_6) (And.intro @nf.eq_7 (And.intro @nf.eq_8 @nf.eq_9)))))) (And.intro (And.intro (And.intro (And.intro (And.intro @nf.eq_10 @nf.eq_11) (And.intro @nfL.eq_1 @nfL.eq_2)) (And.intro (And.intro @TK.isAgg.eq_1 @TK.isAgg.eq_2) (And.intro @TK.isAgg.eq_3 @TK.isAgg.eq_4))) (And.intro (And.intro (And.intro @TK.isAgg.eq_5 @TK.isAgg.eq_6) (And.intro @TK.isAgg.eq_7 @TK.isAgg.eq_8)) (And.intro (And.intro @TK.isAgg.eq_9 @ty.eq_1) (And.intro @ty.eq_2 (And.intro @ty.eq_3 @ty.eq_4))))) (And.intro (And.intro (And.intro (And.intro @ty.eq_5 @ty.eq_6) (And.intro @ty.eq_7 @ty.eq_8)) (And.intro (And.intro @ty.eq_9 @ty.eq_10)
  (And.intro @ty.eq_11 @ty.eq_12))) (And.intro (And.intro (And.intro @ty.eq_13 @ty.eq_14) (And.intro @ty.eq_15 @ty.eq_16)) (And.intro (And.intro @ty.eq_17 @ty.eq_18) (And.intro @ty.eq_19 (And.intro @ty.eq_20 @ty.eq_21)))))))) (And.intro (And.intro (And.intro (And.intro (And.intro (And.intro (And.intro @ty.eq_22 @ty.eq_23) (And.intro @ty.eq_24 @ty.eq_25)) (And.intro (And.intro @ty.eq_26 @ty.eq_27) (And.intro @ty.eq_28 @ty.eq_29))) (And.intro (And.intro (And.intro @ty.eq_30 @ty.eq_31) (And.intro @ty.eq_32 @ty.eq_33)) (And.intro (And.intro @ty.eq_34 @ty.eq_35) (And.intro @ty.eq_36 @ty.eq_37)))) (And.intro (And.intro (And.intro (And.intro @ty.eq_38 @ty.eq_39) (And.intro @ty.eq_40 @ty.eq_41)) (And.intro (And.intro @ty.eq_42 @ty.eq_43) (And.intro @ty.eq_44 @ty.eq_45))) (And.intro (And.intro (And.intro @ty.eq_46 @ty.eq_47) (And.intro @ty.eq_48 @ty.eq_49)) (And.intro (And.intro @ty.eq_50 @ty.eq_51) (And.intro @ty.eq_52 (And.intro @ty.eq_53 @ty.eq_54)))))) (And.intro (And.intro (And.intro (And.intro (And.intro @ty.eq_55 @ty.eq_56) (And.intro @ty.eq_57 @ty.eq_58)) (And.intro (And.intro @ty.eq_59 @ty.eq_60) (And.intro @ty.eq_61 @ty.eq_62))) (And.intro (And.intro (And.intro @ty.eq_63 @ty.eq_64) (And.intro @ty.eq_65 @ty.eq_66)) (And.intro (And.intro @ty.eq_67 @ty.eq_68) (And.intro @ty.eq_69 @ty.eq_70)))) (And.intro (And.intro (And.intro (And.intro @enter.eq_1 @enterL.eq_1) (And.intro @argsE.eq_1 @argsE.eq_2)) (And.intro (And.intro @argsE.eq_3 @tb1.eq_1) (And.intro @mkS.eq_1 @tb.eq_1))) (And.intro (And.intro (And.intro @tb.eq_2 @List.getElem?_cons_zero.{0}) (And.intro @List.getElem?_cons_succ.{0} @List.getElem?_toArray.{0})) (And.intro (And.intro @List.length_cons.{0} @List.length_nil.{0}) (And.intro @List.length_map.{0, 0} (And.intro @List.drop_succ_cons.{0} @List.drop_zero.{0}))))))) (And.intro (And.intro (And.intro (And.intro (And.intro (And.intro @List.drop_nil.{0} @List.take_succ_cons.{0}) (And.intro @List.take_zero.{0} @List.take_nil.{0})) (And.intro (And.intro @List.cons_append.{0} @List.nil_append.{0}) (And.intro @List.append_nil.{0} @List.map_cons.{0, 0}))) (And.intro (And.intro (And.intro @List.map_nil.{0, 0} @List.all_cons.{0}) (And.intro @List.all_nil.{0} @Bool.and_true)) (And.intro (And.intro @Bool.and_self @Bool.true_and) (And.intro @Option.bind_some.{0, 0} @Option.bind_none.{0, 0})))) (And.intro (And.intro (And.intro (And.intro @Option.map_some.{0, 0} @Option.map_none.{0, 0}) (And.intro @cond_true.{1} @cond_false.{1})) (And.intro (And.intro @beq_self_eq_true.{0} @Bool.not_true) (And.intro @Bool.not_false @ne_eq.{1}))) (And.intro (And.intro (And.intro @not_true_eq_false @not_false_eq_true) (And.intro @and_self @and_true)) (And.intro (And.intro @true_and @Bool.false_eq_true) (And.intro @List.contains_cons.{0} (And.intro @List.contains_nil.{0} @Bool.or_false)))))) (And.intro (And.intro (And.intro (And.intro (And.intro @slF.eq_1 @slV.eq_1) (And.intro @slS.eq_1 @encV.eq_1)) (And.intro (And.intro @encF.eq_1 @encA.eq_1) (And.intro @encS.eq_1 @encR.eq_1)))
  (And.intro (And.intro (And.intro @mv.eq_1 @decide_true) (And.intro @decide_false @Nat.one_ne_zero)) (And.intro (And.intro @Nat.add_eq_zero_iff @Array.toList_map.{0, 0}) (And.intro @Int.cast_ofNat_Int (And.intro @vp.eq_1 @vp.eq_2))))) (And.intro (And.intro (And.intro (And.intro @vp.eq_3 @vp.eq_4) (And.intro @vp.eq_5 @p1.eq_1)) (And.intro (And.intro @p1.eq_2 @p2.eq_1) (And.intro @p2.eq_2 @pg.eq_1))) (And.intro (And.intro (And.intro @pg.eq_2 @pg.eq_3) (And.intro @pg_undef @ph.eq_1)) (And.intro (And.intro @ph.eq_2 @pb_tt) (And.intro @pb_ff (And.intro @pb_tf @pb_ft)))))))))) := (And.intro (And.intro (And.intro (And.intro (And.intro (And.intro (And.intro (And.intro (And.intro @vc.eq_1 @vc.eq_2) (And.intro @vc.eq_3 @vc.eq_4)) (And.intro (And.intro @vc.eq_5 @vc.eq_6) (And.intro @vc.eq_7 @vc.eq_8))) (And.intro (And.intro (And.intro @vc.eq_9 @vc.eq_10) (And.intro @vc.eq_11 @vc.eq_12)) (And.intro (And.intro @vc.eq_13 @vc.eq_14) (And.intro @vc.eq_15 @vc.eq_16)))) (And.intro (And.intro (And.intro (And.intro @vo.eq_1 @vo.eq_2) (And.intro @vo.eq_3 @vo.eq_4)) (And.intro (And.intro @vo.eq_5 @v1.eq_1) (And.intro @v1.eq_2 @v2.eq_1))) (And.intro (And.intro (And.intro @v2.eq_2 @vx.eq_1) (And.intro @vx.eq_2 @vx.eq_3)) (And.intro (And.intro @vb.eq_1 @vb.eq_2) (And.intro @vg.eq_1 (And.intro @vg.eq_2 @vg.eq_3)))))) (And.intro (And.intro (And.intro (And.intro (And.intro @vg_undef @vh.eq_1) (And.intro @vh.eq_2 @Go.exitTo.eq_1)) (And.intro (And.intro @Go.exitTo.eq_2 @Go.exitTo.eq_3) (And.intro @Go.gotoIn.eq_1 @Go.gotoIn.eq_2))) (And.intro (And.intro (And.intro @Go.gotoIn.eq_3 @Go.findLabel.eq_1) (And.intro @Go.findLabel.eq_2 @Go.findLabel.eq_3)) (And.intro (And.intro @bc_true @bc_false) (And.intro @bg_tt @bg_ff)))) (And.intro (And.intro (And.intro (And.intro @bg_tf @bg_ft) (And.intro @ev.eq_1 @isA.eq_1)) (And.intro (And.intro @isA.eq_2 @isA.eq_3) (And.intro @isA.eq_4 @isA.eq_5))) (And.intro (And.intro (And.intro @isA.eq_6 @isA.eq_7) (And.intro @isA.eq_8 @isA.eq_9)) (And.intro (And.intro @isA.eq_10 @isA.eq_11) (And.intro @eff0.eq_1 (And.intro @eff0.eq_2 @evV.eq_1))))))) (And.intro (And.intro (And.intro (And.intro (And.intro (And.intro @evV.eq_2 @evV.eq_3) (And.intro @evV.eq_4 @evV.eq_5)) (And.intro (And.intro @evV.eq_6 @evV.eq_7) (And.intro @evV.eq_8 @evV.eq_9))) (And.intro (And.intro (And.intro @evV.eq_10 @evV.eq_11) (And.intro @evV.eq_12 @evV.eq_13)) (And.intro (And.intro @evV.eq_14 @evV.eq_15) (And.intro @evV.eq_16 @evV.eq_17)))) (And.intro (And.intro (And.intro (And.intro @evV.eq_18 @evV.eq_19) (And.intro @evV.eq_20 @evA.eq_1)) (And.intro (And.intro @evA.eq_2 @evA.eq_3) (And.intro @evA.eq_4 @evA.eq_5))) (And.intro (And.intro (And.intro @evA.eq_6 @evA.eq_7) (And.intro @evA.eq_8 @evA.eq_9)) (And.intro (And.intro @evA.eq_10 @evA.eq_11) (And.intro @rdV.eq_1 (And.intro @rdV.eq_2 @rdV.eq_3)))))) (And.intro (And.intro (And.intro (And.intro (And.intro @rdV.eq_4 @rdV.eq_5) (And.intro @rdV.eq_6 @nmO.eq_1)) (And.intro (And.intro @nmO.eq_2 @nmO.eq_3) (And.intro @nmO.eq_4 @nmO.eq_5)))
  (And.intro (And.intro (And.intro @eo.eq_1 @eo.eq_2) (And.intro @eo.eq_3 @eo.eq_4)) (And.intro (And.intro @ofV.eq_1 @ofV.eq_2) (And.intro @ofV.eq_3 @ofV.eq_4)))) (And.intro (And.intro (And.intro (And.intro @ofV.eq_5 @ofV.eq_6) (And.intro @ofV.eq_7 @ofV.eq_8)) (And.intro (And.intro @ofV.eq_9 @ofV.eq_10) (And.intro @ofV.eq_11 @ofV.eq_12))) (And.intro (And.intro (And.intro @ofV.eq_13 @ofV.eq_14) (And.intro @ofV.eq_15 @put.eq_1)) (And.intro (And.intro @put.eq_2 @apL.eq_1) (And.intro @apL.eq_2 (And.intro @apU.eq_1 @apU.eq_2)))))))) (And.intro (And.intro (And.intro (And.intro (And.intro (And.intro (And.intro @upd.eq_1 @mk.eq_1) (And.intro @mk.eq_2 @bxp.eq_1)) (And.intro (And.intro @effU.eq_1 @yl.eq_1) (And.intro @eBin.eq_1 @eBin.eq_2))) (And.intro (And.intro (And.intro @eBin.eq_3 @eBin.eq_4) (And.intro @eBin.eq_5 @eBin.eq_6)) (And.intro (And.intro @eBin.eq_7 @eNilB.eq_1) (And.intro @eNilB.eq_2 @eNilB.eq_3)))) (And.intro (And.intro (And.intro (And.intro @isSlice.eq_1 @isSlice.eq_2) (And.intro @isBool.eq_1 @isBool.eq_2)) (And.intro (And.intro @eEq.eq_1 @eEq.eq_2) (And.intro @eEq.eq_3 @eqL.eq_1))) (And.intro (And.intro (And.intro @eqL.eq_2 @eqL.eq_3) (And.intro @eqL.eq_4 @eInt.eq_1)) (And.intro (And.intro @eInt.eq_2 @eInt.eq_3) (And.intro @eInt.eq_4 (And.intro @eInt.eq_5 @eInt.eq_6)))))) (And.intro (And.intro (And.intro (And.intro (And.intro @eInt.eq_7 @eInt.eq_8) (And.intro @eInt.eq_9 @eInt.eq_10)) (And.intro (And.intro @eInt.eq_11 @eInt.eq_12) (And.intro @eStr.eq_1 @eStr.eq_2))) (And.intro (And.intro (And.intro @eStr.eq_3 @eStr.eq_4) (And.intro @eStr.eq_5 @eStr.eq_6)) (And.intro (And.intro @eStr.eq_7 @eStr.eq_8) (And.intro @eUn.eq_1 @eUn.eq_2)))) (And.intro (And.intro (And.intro (And.intro @eUn.eq_3 @ePick.eq_1) (And.intro @ePick.eq_2 @eLoad.eq_1)) (And.intro (And.intro @eLoad.eq_2 @eLoad.eq_3) (And.intro @eLoad.eq_4 @boxOf.eq_1))) (And.intro (And.intro (And.intro @boxOf.eq_2 @ownOf.eq_1) (And.intro @ownOf.eq_2 @rowsOf.eq_1)) (And.intro (And.intro @rowsOf.eq_2 @mapOf.eq_1) (And.intro @mapOf.eq_2 (And.intro @cut.eq_1 @cutR.eq_def))))))) (And.intro (And.intro (And.intro (And.intro (And.intro (And.intro @cutR.eq_1 @cutR.eq_2) (And.intro @one.eq_def @one.eq_1)) (And.intro (And.intro @one.eq_2 @eField.eq_1) (And.intro @eField.eq_2 @eField.eq_3))) (And.intro (And.intro (And.intro @eField.eq_4 @eFieldV.eq_1) (And.intro @eFieldV.eq_2 @eIdxA.eq_def)) (And.intro (And.intro @eIdxA.eq_1 @eIdxA.eq_2) (And.intro @eIdxA.eq_3 @eIdxA.eq_4)))) (And.intro (And.intro (And.intro (And.intro @eIdxA.eq_5 @idxO.eq_def) (And.intro @idxO.eq_1 @idxO.eq_2)) (And.intro (And.intro @eIdx.eq_1 @eIdx.eq_2) (And.intro @eExt.eq_1 @eExt.eq_2))) (And.intro (And.intro (And.intro @eLen.eq_1 @eLen.eq_2) (And.intro @eLen.eq_3 @eLen.eq_4)) (And.intro (And.intro @eLen.eq_5 @eLen.eq_6) (And.intro @eLenR.eq_1 (And.intro @eLenR.eq_2 @eSlice.eq_def)))))) (And.intro (And.intro (And.intro (And.intro (And.intro @eSlice.eq_1 @eSlice.eq_2) (And.intro @eSlice.eq_3 @eSlice.eq_4)) (And.intro (And.intro @eSlice.eq_5
  @eSlice3.eq_def) (And.intro @eSlice3.eq_1 @eSlice3.eq_2))) (And.intro (And.intro (And.intro @eCutO.eq_def @eCutO.eq_1) (And.intro @eCutO.eq_2 @eCutO.eq_3)) (And.intro (And.intro @bnd.eq_1 @bnd.eq_2) (And.intro @bnd.eq_3 (And.intro @eCutS.eq_def @eCutS.eq_1))))) (And.intro (And.intro (And.intro (And.intro @eCutS.eq_2 @eCutR.eq_def) (And.intro @eCutR.eq_1 @eCutR.eq_2)) (And.intro (And.intro @eConv.eq_1 @eConv.eq_2) (And.intro @eConv.eq_3 @eNil.eq_1))) (And.intro (And.intro (And.intro @eNil.eq_2 @eNil.eq_3) (And.intro @eNil.eq_4 @eNil.eq_5)) (And.intro (And.intro @eBuild.eq_1 @eBuild.eq_2) (And.intro @fillA.eq_1 (And.intro @fillA.eq_2 @eStore.eq_1))))))))) (And.intro (And.intro (And.intro (And.intro (And.intro (And.intro (And.intro (And.intro @eStore.eq_2 @eStore.eq_3) (And.intro @sto.eq_def @sto.eq_1)) (And.intro (And.intro @sto.eq_2 @stoR.eq_def) (And.intro @stoR.eq_1 @stoR.eq_2))) (And.intro (And.intro (And.intro @effS.eq_def @effS.eq_1) (And.intro @effS.eq_2 @isCell.eq_1)) (And.intro (And.intro @isCell.eq_2 @isCell.eq_3) (And.intro @isCell.eq_4 @isCell.eq_5)))) (And.intro (And.intro (And.intro (And.intro @isCell.eq_6 @isCell.eq_7) (And.intro @isCell.eq_8 @isCell.eq_9)) (And.intro (And.intro @isCell.eq_10 @isCell.eq_11) (And.intro @isCell.eq_12 @isCell.eq_13))) (And.intro (And.intro (And.intro @isCell.eq_14 @isCell.eq_15) (And.intro @isCell.eq_16 @cellsOf.eq_1)) (And.intro (And.intro @cellsOf.eq_2 @cellsOf.eq_3) (And.intro @cellsOf.eq_4 (And.intro @cellsOf.eq_5 @cellsOf.eq_6)))))) (And.intro (And.intro (And.intro (And.intro (And.intro @cellsOf.eq_7 @cellsOf.eq_8) (And.intro @cellsOf.eq_9 @cellsOf.eq_10)) (And.intro (And.intro @eBS.eq_1 @eBS.eq_2) (And.intro @bsRows.eq_1 @bsRows.eq_2))) (And.intro (And.intro (And.intro @eApp.eq_1 @eApp.eq_2) (And.intro @appX.eq_1 @appX.eq_2)) (And.intro (And.intro @appI.eq_def @appI.eq_1) (And.intro @appI.eq_2 @clrI.eq_def)))) (And.intro (And.intro (And.intro (And.intro @clrI.eq_1 @clrI.eq_2) (And.intro @app2.eq_def @app2.eq_1)) (And.intro (And.intro @app2.eq_2 @appD.eq_def) (And.intro @appD.eq_1 @appD.eq_2))) (And.intro (And.intro (And.intro @appD.eq_3 @appD.eq_4) (And.intro @appS.eq_1 @appS.eq_2)) (And.intro (And.intro @appS.eq_3 @appS.eq_4) (And.intro @appS.eq_5 (And.intro @isU8.eq_1 @isU8.eq_2))))))) (And.intro (And.intro (And.intro (And.intro (And.intro (And.intro @isSS.eq_1 @isSS.eq_2) (And.intro @isSS.eq_3 @kill.eq_1)) (And.intro (And.intro @kill.eq_2 @eClr.eq_1) (And.intro @eClr.eq_2 @mkSl.eq_def))) (And.intro (And.intro (And.intro @mkSl.eq_1 @mkSl.eq_2) (And.intro @cpy.eq_def @cpy.eq_1)) (And.intro (And.intro @cpy.eq_2 @eCpy.eq_1) (And.intro @eCpy.eq_2 @eLook.eq_1)))) (And.intro (And.intro (And.intro (And.intro @eLook.eq_2 @lkp.eq_def) (And.intro @lkp.eq_1 @lkp.eq_2)) (And.intro (And.intro @isI64.eq_1 @isI64.eq_2) (And.intro @eMapU.eq_1 @eMapU.eq_2))) (And.intro (And.intro (And.intro @nf.eq_1 @nf.eq_2) (And.intro @nf.eq_3 @nf.eq_4)) (And.intro (And.intro @nf.eq_5 @nf.eq_6) (And.intro @nf.eq_7 (And.intro @nf.eq_8
  @nf.eq_9)))))) (And.intro (And.intro (And.intro (And.intro (And.intro @nf.eq_10 @nf.eq_11) (And.intro @nfL.eq_1 @nfL.eq_2)) (And.intro (And.intro @TK.isAgg.eq_1 @TK.isAgg.eq_2) (And.intro @TK.isAgg.eq_3 @TK.isAgg.eq_4))) (And.intro (And.intro (And.intro @TK.isAgg.eq_5 @TK.isAgg.eq_6) (And.intro @TK.isAgg.eq_7 @TK.isAgg.eq_8)) (And.intro (And.intro @TK.isAgg.eq_9 @ty.eq_1) (And.intro @ty.eq_2 (And.intro @ty.eq_3 @ty.eq_4))))) (And.intro (And.intro (And.intro (And.intro @ty.eq_5 @ty.eq_6) (And.intro @ty.eq_7 @ty.eq_8)) (And.intro (And.intro @ty.eq_9 @ty.eq_10) (And.intro @ty.eq_11 @ty.eq_12))) (And.intro (And.intro (And.intro @ty.eq_13 @ty.eq_14) (And.intro @ty.eq_15 @ty.eq_16)) (And.intro (And.intro @ty.eq_17 @ty.eq_18) (And.intro @ty.eq_19 (And.intro @ty.eq_20 @ty.eq_21)))))))) (And.intro (And.intro (And.intro (And.intro (And.intro (And.intro (And.intro @ty.eq_22 @ty.eq_23) (And.intro @ty.eq_24 @ty.eq_25)) (And.intro (And.intro @ty.eq_26 @ty.eq_27) (And.intro @ty.eq_28 @ty.eq_29))) (And.intro (And.intro (And.intro @ty.eq_30 @ty.eq_31) (And.intro @ty.eq_32 @ty.eq_33)) (And.intro (And.intro @ty.eq_34 @ty.eq_35) (And.intro @ty.eq_36 @ty.eq_37)))) (And.intro (And.intro (And.intro (And.intro @ty.eq_38 @ty.eq_39) (And.intro @ty.eq_40 @ty.eq_41)) (And.intro (And.intro @ty.eq_42 @ty.eq_43) (And.intro @ty.eq_44 @ty.eq_45))) (And.intro (And.intro (And.intro @ty.eq_46 @ty.eq_47) (And.intro @ty.eq_48 @ty.eq_49)) (And.intro (And.intro @ty.eq_50 @ty.eq_51) (And.intro @ty.eq_52 (And.intro @ty.eq_53 @ty.eq_54)))))) (And.intro (And.intro (And.intro (And.intro (And.intro @ty.eq_55 @ty.eq_56) (And.intro @ty.eq_57 @ty.eq_58)) (And.intro (And.intro @ty.eq_59 @ty.eq_60) (And.intro @ty.eq_61 @ty.eq_62))) (And.intro (And.intro (And.intro @ty.eq_63 @ty.eq_64) (And.intro @ty.eq_65 @ty.eq_66)) (And.intro (And.intro @ty.eq_67 @ty.eq_68) (And.intro @ty.eq_69 @ty.eq_70)))) (And.intro (And.intro (And.intro (And.intro @enter.eq_1 @enterL.eq_1) (And.intro @argsE.eq_1 @argsE.eq_2)) (And.intro (And.intro @argsE.eq_3 @tb1.eq_1) (And.intro @mkS.eq_1 @tb.eq_1))) (And.intro (And.intro (And.intro @tb.eq_2 @List.getElem?_cons_zero.{0}) (And.intro @List.getElem?_cons_succ.{0} @List.getElem?_toArray.{0})) (And.intro (And.intro @List.length_cons.{0} @List.length_nil.{0}) (And.intro @List.length_map.{0, 0} (And.intro @List.drop_succ_cons.{0} @List.drop_zero.{0}))))))) (And.intro (And.intro (And.intro (And.intro (And.intro (And.intro @List.drop_nil.{0} @List.take_succ_cons.{0}) (And.intro @List.take_zero.{0} @List.take_nil.{0})) (And.intro (And.intro @List.cons_append.{0} @List.nil_append.{0}) (And.intro @List.append_nil.{0} @List.map_cons.{0, 0}))) (And.intro (And.intro (And.intro @List.map_nil.{0, 0} @List.all_cons.{0}) (And.intro @List.all_nil.{0} @Bool.and_true)) (And.intro (And.intro @Bool.and_self @Bool.true_and) (And.intro @Option.bind_some.{0, 0} @Option.bind_none.{0, 0})))) (And.intro (And.intro (And.intro (And.intro @Option.map_some.{0, 0} @Option.map_none.{0, 0}) (And.intro @cond_true.{1}
  @cond_false.{1})) (And.intro (And.intro @beq_self_eq_true.{0} @Bool.not_true) (And.intro @Bool.not_false @ne_eq.{1}))) (And.intro (And.intro (And.intro @not_true_eq_false @not_false_eq_true) (And.intro @and_self @and_true)) (And.intro (And.intro @true_and @Bool.false_eq_true) (And.intro @List.contains_cons.{0} (And.intro @List.contains_nil.{0} @Bool.or_false)))))) (And.intro (And.intro (And.intro (And.intro (And.intro @slF.eq_1 @slV.eq_1) (And.intro @slS.eq_1 @encV.eq_1)) (And.intro (And.intro @encF.eq_1 @encA.eq_1) (And.intro @encS.eq_1 @encR.eq_1))) (And.intro (And.intro (And.intro @mv.eq_1 @decide_true) (And.intro @decide_false @Nat.one_ne_zero)) (And.intro (And.intro @Nat.add_eq_zero_iff @Array.toList_map.{0, 0}) (And.intro @Int.cast_ofNat_Int (And.intro @vp.eq_1 @vp.eq_2))))) (And.intro (And.intro (And.intro (And.intro @vp.eq_3 @vp.eq_4) (And.intro @vp.eq_5 @p1.eq_1)) (And.intro (And.intro @p1.eq_2 @p2.eq_1) (And.intro @p2.eq_2 @pg.eq_1))) (And.intro (And.intro (And.intro @pg.eq_2 @pg.eq_3) (And.intro @pg_undef @ph.eq_1)) (And.intro (And.intro @ph.eq_2 @pb_tt) (And.intro @pb_ff (And.intro @pb_tf @pb_ft))))))))))
theorem zR : type_of% (And.intro (And.intro (And.intro (And.intro (And.intro @resA.eq_1 @resA.eq_2) (And.intro @res1.eq_1 (And.intro @res1.eq_2 @resL.eq_1))) (And.intro (And.intro @resL.eq_2 @frz.eq_1) (And.intro @frzL.eq_1 (And.intro @cv.eq_1 @cv.eq_2)))) (And.intro (And.intro (And.intro @cv.eq_3 @cv.eq_4) (And.intro @cv.eq_5 (And.intro @cv.eq_6 @cv.eq_7))) (And.intro (And.intro @cv.eq_8 (And.intro @cv.eq_9 @cv.eq_10)) (And.intro @cv.eq_11 (And.intro @cvL.eq_1 @cvL.eq_2))))) (And.intro (And.intro (And.intro (And.intro @cvB.eq_1 @cvB.eq_2) (And.intro @cvB.eq_3 (And.intro @frzB.eq_1 @frzB.eq_2))) (And.intro (And.intro @noB.eq_1 (And.intro @bkOf.eq_1 @Option.some.injEq.{0})) (And.intro @AV.v.injEq (And.intro @AV.tup.injEq @AV.agg.injEq)))) (And.intro (And.intro (And.intro @List.cons.injEq.{0} @Go.Value.bool.injEq) (And.intro @Go.Value.int.injEq (And.intro @Go.Value.string.injEq @bs_nil))) (And.intro (And.intro @bs_beq (And.intro @Bool.false_and @Bool.and_false)) (And.intro @Bool.true_or (And.intro @Bool.or_true @Bool.false_or)))))) := (And.intro (And.intro (And.intro (And.intro (And.intro @resA.eq_1 @resA.eq_2) (And.intro @res1.eq_1 (And.intro @res1.eq_2 @resL.eq_1))) (And.intro (And.intro @resL.eq_2 @frz.eq_1) (And.intro @frzL.eq_1 (And.intro @cv.eq_1 @cv.eq_2)))) (And.intro (And.intro (And.intro @cv.eq_3 @cv.eq_4) (And.intro @cv.eq_5 (And.intro @cv.eq_6 @cv.eq_7))) (And.intro (And.intro @cv.eq_8 (And.intro @cv.eq_9 @cv.eq_10)) (And.intro @cv.eq_11 (And.intro @cvL.eq_1 @cvL.eq_2))))) (And.intro (And.intro (And.intro (And.intro @cvB.eq_1 @cvB.eq_2) (And.intro @cvB.eq_3 (And.intro @frzB.eq_1 @frzB.eq_2))) (And.intro (And.intro @noB.eq_1 (And.intro @bkOf.eq_1 @Option.some.injEq.{0})) (And.intro @AV.v.injEq (And.intro @AV.tup.injEq @AV.agg.injEq)))) (And.intro (And.intro (And.intro @List.cons.injEq.{0} @Go.Value.bool.injEq) (And.intro @Go.Value.int.injEq (And.intro @Go.Value.string.injEq @bs_nil))) (And.intro (And.intro @bs_beq (And.intro @Bool.false_and @Bool.and_false)) (And.intro @Bool.true_or (And.intro @Bool.or_true @Bool.false_or))))))
end Go.Proofs.YtkbidoikndgheaaDoor.HL

