/- The abstract values, the evaluator of operations and its soundness. -/
import Derived.WalkKit
import Derived.Laws.OwnMore
import Derived.Below
import Derived.RangeFuncRecord
import Derived.MapKept
import Derived.Laws.CopyRow
import Derived.Lib.AppendStr
import Derived.Laws.MakeOwn
set_option linter.unusedVariables false
set_option linter.unusedSimpArgs false
namespace Go.Proofs.YtkbidoikndgheaaDoor.HL
open Go.RowKit

/-- Abstract values: a plain value; structs and tuples; a slice that is only read (rows of 'es' cells; 'x': its capacity is its length); a pointer that is only read through; a pointer into a named box; a named slice (or map) of the call's own; a pointer into row i, cell k of a named slice; the rows i to j of a named slice; a closure; junk. -/
inductive AV where
  | v (x : Value)
  | agg (cs : List AV)
  | tup (cs : List AV)
  | sl (es : Nat) (x : Bool) (rows : List (List AV))
  | rp (cs : List AV)
  | pt (n o : Nat)
  | ow (n : Nat)
  | po (n es : Nat) (i : Int) (k : Nat)
  | os (n es i j : Nat)
  | fn (f : Nat) (cs : List AV)
  | junk
  deriving Inhabited

/-- What no name is read by. -/
def noName : Nat → Option Value := fun _ => none

mutual
def VRel (γ : Nat → Option Value) (F : Nat → Prop) (w : World) : AV → Value → Prop
  | .v x, y => y = x
  | .agg cs, y => ∃ vs, y = .agg vs ∧ VL γ F w cs vs.toList
  | .tup cs, y => ∃ vs, y = .tuple vs ∧ VL γ F w cs vs.toList
  | .sl es x rows, y => ∃ A cap, y = .slice A rows.length cap ∧ rows.length ≤ cap ∧ cap ≤ maxLen ∧ (x = true → cap = rows.length) ∧ (A = none → cap = 0) ∧
      (rows = [] ∨ ∃ b o, A = some ⟨b, o, none⟩ ∧ F b ∧ VR F w es b o rows)
  | .rp cs, y => ∃ b o, y = .pointer (some ⟨b, o, none⟩) ∧ F b ∧ VC F w b o cs
  | .pt n o, y => ∃ b, γ n = some (.pointer (some ⟨b, 0, none⟩)) ∧ y = .pointer (some ⟨b, o, none⟩)
  | .ow n, y => γ n = some y ∧ ((∃ A l c, y = .slice A l c) ∨ ∃ r, y = .map (some r))
  | .po n es i k, y => ∃ b l c, γ n = some (.slice (some ⟨b, 0, none⟩) l c) ∧ y = .pointer (some ⟨b, i.toNat * es + k, none⟩)
  | .os n es i j, y => ∃ b l c o, γ n = some (.slice (some ⟨b, 0, none⟩) l c) ∧ i ≤ j ∧ j ≤ c ∧ (i < c → o = i * es) ∧ y = .slice (some ⟨b, o, none⟩) (j - i) (c - i)
  | .fn f cs, y => ∃ vs, y = .func (.func f) #[] vs ∧ VL γ F w cs vs.toList
  | .junk, _ => True
def VL (γ : Nat → Option Value) (F : Nat → Prop) (w : World) : List AV → List Value → Prop
  | [], vs => vs = []
  | c :: cs, vs => ∃ v vs', vs = v :: vs' ∧ VRel γ F w c v ∧ VL γ F w cs vs'
def VC (F : Nat → Prop) (w : World) (b : Nat) : Nat → List AV → Prop
  | _, [] => True
  | o, c :: cs => (∃ v, w.cell? ⟨b, o, none⟩ = some v ∧ v.oneCell' = true ∧ VRel noName F w c v) ∧ VC F w b (o + 1) cs
def VR (F : Nat → Prop) (w : World) (es b : Nat) : Nat → List (List AV) → Prop
  | _, [] => True
  | o, r :: rs => r.length = es ∧ VC F w b o r ∧ VR F w es b (o + es) rs
end

mutual
/-- Is a name among those of a value (outside of what is only read)? -/
def uses (n : Nat) : AV → Bool
  | .agg cs => usesL n cs
  | .tup cs => usesL n cs
  | .pt m _ => m == n
  | .ow m => m == n
  | .po m _ _ _ => m == n
  | .os m _ _ _ => m == n
  | .fn _ cs => usesL n cs
  | _ => false
def usesL (n : Nat) : List AV → Bool
  | [] => false
  | c :: cs => uses n c || usesL n cs
end

mutual
theorem VRel.mono {γ γ' : Nat → Option Value} {F F' : Nat → Prop} {w w' : World} (hF : ∀ b, F b → F' b) (hw : ∀ b, F b → w'.heap[b]? = w.heap[b]?) :
    ∀ (av : AV) (y : Value), (∀ n, uses n av = true → ∀ v, γ n = some v → γ' n = some v) → VRel γ F w av y → VRel γ' F' w' av y
  | .v x, y, _, h => h
  | .agg cs, y, hu, ⟨vs, e, h⟩ => ⟨vs, e, VL.mono hF hw cs _ (fun n hn => hu n (by simpa [uses] using hn)) h⟩
  | .tup cs, y, hu, ⟨vs, e, h⟩ => ⟨vs, e, VL.mono hF hw cs _ (fun n hn => hu n (by simpa [uses] using hn)) h⟩
  | .sl es x rows, y, _, ⟨A, cap, e, h1, h4, h2, h5, h3⟩ => ⟨A, cap, e, h1, h4, h2, h5, h3.imp id (fun ⟨b, o, e1, hb, h⟩ => ⟨b, o, e1, hF b hb, VR.mono hF hw es b hb rows o h⟩)⟩
  | .rp cs, y, _, ⟨b, o, e, hb, h⟩ => ⟨b, o, e, hF b hb, VC.mono hF hw b hb cs o h⟩
  | .pt n o, y, hu, ⟨b, e1, e2⟩ => ⟨b, hu n (by simp [uses]) _ e1, e2⟩
  | .ow n, y, hu, ⟨e1, e2⟩ => ⟨hu n (by simp [uses]) _ e1, e2⟩
  | .po n es i k, y, hu, ⟨b, l, c, e1, e2⟩ => ⟨b, l, c, hu n (by simp [uses]) _ e1, e2⟩
  | .os n es i j, y, hu, ⟨b, l, c, o, e1, e2⟩ => ⟨b, l, c, o, hu n (by simp [uses]) _ e1, e2⟩
  | .fn f cs, y, hu, ⟨vs, e, h⟩ => ⟨vs, e, VL.mono hF hw cs _ (fun n hn => hu n (by simpa [uses] using hn)) h⟩
  | .junk, _, _, _ => trivial
theorem VL.mono {γ γ' : Nat → Option Value} {F F' : Nat → Prop} {w w' : World} (hF : ∀ b, F b → F' b) (hw : ∀ b, F b → w'.heap[b]? = w.heap[b]?) :
    ∀ (cs : List AV) (vs : List Value), (∀ n, usesL n cs = true → ∀ v, γ n = some v → γ' n = some v) → VL γ F w cs vs → VL γ' F' w' cs vs
  | [], _, _, h => h
  | c :: cs, vs, hu, ⟨v, vs', e, h1, h2⟩ => ⟨v, vs', e, VRel.mono hF hw c v (fun n hn => hu n (by simp [usesL, hn])) h1, VL.mono hF hw cs vs' (fun n hn => hu n (by simp [usesL, hn])) h2⟩
theorem VC.mono {F F' : Nat → Prop} {w w' : World} (hF : ∀ b, F b → F' b) (hw : ∀ b, F b → w'.heap[b]? = w.heap[b]?) (b : Nat) (hb : F b) :
    ∀ (cs : List AV) (o : Nat), VC F w b o cs → VC F' w' b o cs
  | [], _, _ => trivial
  | c :: cs, o, ⟨⟨v, e, h0, h1⟩, h2⟩ => ⟨⟨v, (World.cell?_of_block (hw b hb)).trans e, h0, VRel.mono hF hw c v (fun _ _ _ h => h) h1⟩, VC.mono hF hw b hb cs (o + 1) h2⟩
theorem VR.mono {F F' : Nat → Prop} {w w' : World} (hF : ∀ b, F b → F' b) (hw : ∀ b, F b → w'.heap[b]? = w.heap[b]?) (es b : Nat) (hb : F b) :
    ∀ (rs : List (List AV)) (o : Nat), VR F w es b o rs → VR F' w' es b o rs
  | [], _, _ => trivial
  | r :: rs, o, ⟨e, h1, h2⟩ => ⟨e, VC.mono hF hw b hb r o h1, VR.mono hF hw es b hb rs (o + es) h2⟩
end
/-- One naming goes on from another. -/
def Ext (γ γ' : Nat → Option Value) : Prop := ∀ n v, γ n = some v → γ' n = some v

mutual
/-- What holds without names holds with any. -/
theorem VRel.any {γ : Nat → Option Value} {F : Nat → Prop} {w : World} : ∀ (av : AV) (y : Value), VRel noName F w av y → VRel γ F w av y
  | .v x, y, h => h
  | .agg cs, y, ⟨vs, e, h⟩ => ⟨vs, e, VL.any cs _ h⟩
  | .tup cs, y, ⟨vs, e, h⟩ => ⟨vs, e, VL.any cs _ h⟩
  | .sl es x rows, y, h => h
  | .rp cs, y, h => h
  | .pt n o, y, ⟨b, e1, _⟩ => by simp [noName] at e1
  | .ow n, y, ⟨e, _⟩ => by simp [noName] at e
  | .po n es i k, y, ⟨_, _, _, e, _⟩ => by simp [noName] at e
  | .os n es i j, y, ⟨_, _, _, _, e, _⟩ => by simp [noName] at e
  | .fn f cs, y, ⟨vs, e, h⟩ => ⟨vs, e, VL.any cs _ h⟩
  | .junk, _, _ => trivial
theorem VL.any {γ : Nat → Option Value} {F : Nat → Prop} {w : World} : ∀ (cs : List AV) (vs : List Value), VL noName F w cs vs → VL γ F w cs vs
  | [], _, h => h
  | c :: cs, vs, ⟨v, vs', e, h1, h2⟩ => ⟨v, vs', e, VRel.any c v h1, VL.any cs vs' h2⟩
end
mutual
/-- Free of names. -/
def nf : AV → Bool
  | .agg cs => nfL cs
  | .tup cs => nfL cs
  | .pt _ _ => false
  | .ow _ => false
  | .po _ _ _ _ => false
  | .os _ _ _ _ => false
  | .fn _ cs => nfL cs
  | .v _ => true
  | .sl _ _ _ => true
  | .rp _ => true
  | .junk => true
def nfL : List AV → Bool
  | [] => true
  | c :: cs => nf c && nfL cs
end
mutual
theorem VRel.nf {γ γ' : Nat → Option Value} {F : Nat → Prop} {w : World} : ∀ (av : AV) (y : Value), nf av = true → VRel γ F w av y → VRel γ' F w av y
  | .v x, y, _, h => h
  | .agg cs, y, hn, ⟨vs, e, h⟩ => ⟨vs, e, VL.nf cs _ (by simpa [HL.nf] using hn) h⟩
  | .tup cs, y, hn, ⟨vs, e, h⟩ => ⟨vs, e, VL.nf cs _ (by simpa [HL.nf] using hn) h⟩
  | .sl es x rows, y, _, h => h
  | .rp cs, y, _, h => h
  | .pt n o, y, hn, _ => by simp [HL.nf] at hn
  | .ow n, y, hn, _ => by simp [HL.nf] at hn
  | .po n es i k, y, hn, _ => by simp [HL.nf] at hn
  | .os n es i j, y, hn, _ => by simp [HL.nf] at hn
  | .fn f cs, y, hn, ⟨vs, e, h⟩ => ⟨vs, e, VL.nf cs _ (by simpa [HL.nf] using hn) h⟩
  | .junk, _, _, _ => trivial
theorem VL.nf {γ γ' : Nat → Option Value} {F : Nat → Prop} {w : World} : ∀ (cs : List AV) (vs : List Value), nfL cs = true → VL γ F w cs vs → VL γ' F w cs vs
  | [], _, _, h => h
  | c :: cs, vs, hn, ⟨v, vs', e, h1, h2⟩ => by
    simp only [nfL, Bool.and_eq_true] at hn
    exact ⟨v, vs', e, VRel.nf c v hn.1 h1, VL.nf cs vs' hn.2 h2⟩
end

/-- Blocks that are named: a box of so many cells; a slice of the call's own that may grow. -/
inductive Blk where
  | box (t : TypeId) (cs : List AV)
  | own (t es : Nat) (rows : List (List AV))
  | mp (es : List (Int × AV))
  deriving Inhabited

/-- The state: what the temporaries hold, the named blocks, the names that may be in use. -/
structure St where
  e : Nat → AV
  L : Nat → Option Blk
  U : Nat → Bool
def upd {α : Type} (f : Nat → α) (d : Nat) (x : α) : Nat → α := fun t => if t = d then x else f t
theorem upd_same {α : Type} (f : Nat → α) (d : Nat) (x : α) : upd f d x d = x := by simp [upd]
theorem upd_ne {α : Type} (f : Nat → α) (d t : Nat) (x : α) (h : t ≠ d) : upd f d x t = f t := by simp [upd, h]
theorem upd_comm {α : Type} (f : Nat → α) (d d' : Nat) (x y : α) (h : d ≠ d') : upd (upd f d x) d' y = upd (upd f d' y) d x := by
  funext t; simp only [upd]; split <;> split <;> simp_all
/-- A finite table, 'd' elsewhere. -/
def tb {α : Type} (d : α) : List (Nat × α) → Nat → α
  | [], _ => d
  | (m, x) :: l, n => if n = m then x else tb d l n

/-- The entries of a map of numbers. -/
def ML (F : Nat → Prop) (w : World) : List (Int × AV) → List MapEntry → Prop
  | [], es => es = []
  | p :: ps, es => ∃ e es', es = e :: es' ∧ e.key = .int .i64 p.1 ∧ VRel noName F w p.2 e.val ∧ ML F w ps es'
theorem ML.mono {F F' : Nat → Prop} {w w' : World} (hF : ∀ b, F b → F' b) (hw : ∀ b, F b → w'.heap[b]? = w.heap[b]?) : ∀ (ps : List (Int × AV)) (es : List MapEntry), ML F w ps es → ML F' w' ps es
  | [], _, h => h
  | p :: ps, es, ⟨e, es', h0, h1, h2, h3⟩ => ⟨e, es', h0, h1, VRel.mono hF hw p.2 e.val (fun _ _ _ h => h) h2, ML.mono hF hw ps es' h3⟩
end Go.Proofs.YtkbidoikndgheaaDoor.HL

namespace Go.Proofs.YtkbidoikndgheaaDoor.HL
open Go.RowKit

/-- What is asked of a type. -/
inductive TK where
  | int (k : IntKind) | bool | str | ptr (e : TypeId) | slice (e : TypeId) | array (n : Nat) (e : TypeId) | struct (fs : List (Nat × TypeId)) | map (k e : TypeId) | other
  deriving Inhabited
structure TI where
  k : TK
  size : Nat
  bytes : Nat
  zero : List AV
  eq : Bool
instance : Inhabited TI := ⟨⟨.other, 0, 0, [], false⟩⟩
def TK.isAgg : TK → Bool
  | .struct _ => true
  | .array _ _ => true
  | .int _ => false | .bool => false | .str => false | .ptr _ => false | .slice _ => false | .map _ _ => false | .other => false

abbrev I (n : Int) : AV := .v (.int .i64 n)
abbrev B (b : Bool) : AV := .v (.bool b)
abbrev Str (s : ByteArray) : AV := .v (.string s)

def ofV : Value → AV
  | .agg a => .agg (a.toList.map .v)
  | .bool b => .v (.bool b) | .int k n => .v (.int k n) | .float k b => .v (.float k b) | .complex k a b => .v (.complex k a b) | .string s => .v (.string s)
  | .pointer a => .v (.pointer a) | .slice a n c => .v (.slice a n c) | .map r => .v (.map r) | .chan r => .v (.chan r) | .func f x y => .v (.func f x y)
  | .nilFunc => .v .nilFunc | .iface t x => .v (.iface t x) | .nilIface => .v .nilIface | .tuple x => .v (.tuple x)
def eo (e : Nat → AV) : Operand → AV
  | .tmp t => e t
  | .const v => ofV v
  | .global _ => .junk
  | .func f => .fn f []
/-- What lies in one cell. -/
def isCell : AV → Bool
  | .v (.int _ _) => true | .v (.bool _) => true | .v (.string _) => true | .v (.slice _ _ _) => true | .v (.pointer _) => true | .v .nilIface => true | .v .nilFunc => true | .v (.map _) => true
  | .sl _ _ _ => true
  | .rp _ => true
  | .pt _ _ => true
  | .ow _ => true
  | .po _ _ _ _ => true
  | .os _ _ _ _ => true
  | .fn _ _ => true
  | _ => false
def cellsOf : AV → Option (List AV)
  | .agg cs => if cs.all isCell = true then some cs else none
  | .v x => if isCell (.v x) = true then some [.v x] else none
  | .sl es x rows => some [.sl es x rows]
  | .rp cs => some [.rp cs]
  | .pt n o => some [.pt n o]
  | .ow n => some [.ow n]
  | .po n es i k => some [.po n es i k]
  | .os n es i j => some [.os n es i j]
  | .fn f cs => some [.fn f cs]
  | _ => none
def one (agg : Bool) (cs : List AV) : Option AV := bif agg then some (.agg cs) else match cs with | [c] => some c | _ => none
def cut (agg : Bool) (o n : Nat) (cs : List AV) : Option AV := if o + n ≤ cs.length then one agg ((cs.drop o).take n) else none
/-- What an operation does: its value, the blocks that are other ones behind it, the names that are new, the names that it looks at. -/
structure Eff where
  r : AV
  l : List (Nat × Option Blk)
  u : List Nat
  rd : List Nat
def apL (L : Nat → Option Blk) : List (Nat × Option Blk) → Nat → Option Blk
  | [] => L
  | (n, b) :: l => apL (upd L n b) l
def apU (U : Nat → Bool) : List Nat → Nat → Bool
  | [] => U
  | n :: l => apU (upd U n true) l
def put (nt : Nat) : Option Tmp → Eff → St → Option St
  | some d, ⟨r, l, u, _⟩, ⟨e, L, U⟩ => if d < nt then some ⟨upd e d r, apL L l, apU U u⟩ else none
  | none, ⟨_, l, u, _⟩, ⟨e, L, U⟩ => some ⟨e, apL L l, apU U u⟩

def eInt (k : IntKind) (a b : Int) : BinOp → Option AV
  | .add => some (.v (.int k (k.wrap (a + b))))
  | .sub => some (.v (.int k (k.wrap (a - b))))
  | .mul => some (.v (.int k (k.wrap (a * b))))
  | .quo => if b = 0 then none else some (.v (.int k (k.wrap (a.tdiv b))))
  | .rem => if b = 0 then none else some (.v (.int k (a.tmod b)))
  | .eql => some (B (a == b))
  | .neq => some (B (a != b))
  | .lss => some (B (a < b))
  | .leq => some (B (a ≤ b))
  | .gtr => some (B (a > b))
  | .geq => some (B (a ≥ b))
  | _ => none
def eStr (a b : ByteArray) : BinOp → Option AV
  | .add => if a.size + b.size ≤ 9223372036854775807 then some (Str (a ++ b)) else none
  | .eql => some (B (a.toList == b.toList))
  | .neq => some (B (!(a.toList == b.toList)))
  | .lss => some (B (Op.bytesLess a.toList b.toList))
  | .leq => some (B (Op.bytesLess a.toList b.toList || a.toList == b.toList))
  | .gtr => some (B (!(Op.bytesLess a.toList b.toList || a.toList == b.toList)))
  | .geq => some (B (!Op.bytesLess a.toList b.toList))
  | _ => none
/-- Are these cells the same? -/
def eqL : List AV → List AV → List AV → Option Bool
  | [], [], [] => some true
  | .v (.int k _) :: zs, .v (.int k1 a) :: cs, .v (.int k2 b) :: ds => if k1 = k then (if k2 = k then (eqL zs cs ds).map fun r => (a == b) && r else none) else none
  | .v (.string _) :: zs, .v (.string a) :: cs, .v (.string b) :: ds => (eqL zs cs ds).map fun r => (a.toList == b.toList) && r
  | _, _, _ => none
def eEq (eq : Bool) (zs cs ds : List AV) : BinOp → Option AV
  | .eql => if eq = true then (eqL zs cs ds).map B else none
  | .neq => if eq = true then (eqL zs cs ds).map fun b => B (!b) else none
  | _ => none
def eNilB (b : Bool) : BinOp → Option AV
  | .eql => some (B b)
  | .neq => some (B (!b))
  | _ => none
def isBool : TK → Bool
  | .bool => true
  | _ => false
def isSlice : TK → Bool
  | .slice _ => true
  | _ => false
def eBin (T : Nat → TI) (t : Nat) (op : BinOp) : AV → AV → Option AV
  | .agg cs, .agg ds => eEq (T t).eq (T t).zero cs ds op
  | .sl _ _ (_ :: _), .v (.slice none 0 0) => if isSlice (T t).k = true then eNilB false op else none
  | .v (.slice a _ _), .v (.slice none 0 0) => if isSlice (T t).k = true then eNilB a.isNone op else none
  | .v (.bool a), .v (.bool b) => if isBool (T t).k = true then eNilB (a == b) op else none
  | .v (.int k a), .v (.int k' b) => if k = k' then eInt k a b op else none
  | .v (.string a), .v (.string b) => eStr a b op
  | _, _ => none
def eUn : UnOp → AV → Option AV
  | .not, .v (.bool b) => some (B (!b))
  | .neg, .v (.int k n) => some (.v (.int k (k.wrap (0 - n))))
  | _, _ => none
def rowsOf : Option Blk → Option (List (List AV))
  | some (.own _ _ rows) => some rows
  | _ => none
def eLen (L : Nat → Option Blk) : TK → AV → Option AV
  | .str, .v (.string s) => some (I s.size)
  | .slice _, .sl _ _ rows => some (I rows.length)
  | .slice _, .v (.slice none 0 0) => some (I 0)
  | .slice _, .ow n => (rowsOf (L n)).map fun rows => I rows.length
  | .slice _, .os n _ i j => (rowsOf (L n)).map fun _ => I ((j : Int) - i)
  | _, _ => none
def row (rows : List (List AV)) (i : Int) : List AV := rows.getD i.toNat []
def byteAt (s : ByteArray) (i : Int) : Int := ((s[i.toNat]?).getD 0).toNat
def ePick : AV → AV → AV → Option AV
  | .v (.bool t), a, b => some (bif t then a else b)
  | _, _, _ => none
def ownOf : Option Blk → Option (Nat × Nat × List (List AV))
  | some (.own t es rows) => some (t, es, rows)
  | _ => none
def mapOf : Option Blk → Option (List (Int × AV))
  | some (.mp es) => some es
  | _ => none
/-- A cut of a row of a named slice. -/
def cutR (agg : Bool) (es : Nat) (i : Int) (k n : Nat) : Option (Nat × Nat × List (List AV)) → Option AV
  | some (_, es', rows) => if es' = es ∧ 0 ≤ i ∧ i < rows.length then cut agg k n (row rows i) else none
  | none => none
def boxOf : Option Blk → Option (List AV)
  | some (.box _ cs) => some cs
  | _ => none
def eLoad (L : Nat → Option Blk) (agg : Bool) (n : Nat) : AV → Option AV
  | .pt m k => (boxOf (L m)).bind fun cs => cut agg k n cs
  | .rp cs => cut agg 0 n cs
  | .po m es i k => cutR agg es i k n (ownOf (L m))
  | _ => none
def sto (k n : Nat) (cs : List AV) : Option Blk → Option Blk
  | some (.box u old) => if cs.length = n ∧ k + cs.length ≤ old.length then some (.box u (old.take k ++ cs ++ old.drop (k + cs.length))) else none
  | _ => none
def stoR (es : Nat) (i : Int) (k n : Nat) (cs : List AV) : Option (Nat × Nat × List (List AV)) → Option Blk
  | some (t, es', rows) => if es' = es ∧ 0 ≤ i ∧ i < rows.length ∧ cs.length = n ∧ k + cs.length ≤ es ∧ nfL cs = true then
      some (.own t es (rows.set i.toNat ((row rows i).take k ++ cs ++ (row rows i).drop (k + cs.length)))) else none
  | none => none
def effS (m : Nat) : Option Blk → Option Eff
  | some b => some ⟨.v undef, [(m, some b)], [], [m]⟩
  | none => none
def eStore (L : Nat → Option Blk) (n : Nat) : AV → Option (List AV) → Option Eff
  | .pt m k, some cs => effS m (sto k n cs (L m))
  | .po m es i k, some cs => effS m (stoR es i k n cs (ownOf (L m)))
  | _, _ => none
def eField : TK → Nat → AV → Option AV
  | .struct fs, f, .pt n k => (fs[f]?).map fun p => .pt n (k + p.1)
  | .struct fs, f, .rp cs => (fs[f]?).map fun p => .rp (cs.drop p.1)
  | .struct fs, f, .po n es i k => (fs[f]?).map fun p => .po n es i (k + p.1)
  | _, _, _ => none
def idxO (n sz : Nat) (i : Int) : Option (Nat × Nat × List (List AV)) → Option AV
  | some (_, es, rows) => if es = 0 then none else if sz = es then (if 0 ≤ i ∧ i < rows.length then some (.po n es i 0) else none) else none
  | none => none
def eIdxA (T : Nat → TI) (L : Nat → Option Blk) : TK → AV → AV → Option AV
  | .slice e, .sl es _ rows, .v (.int _ n) => if es = 0 then none else if (T e).size = es then (if 0 ≤ n ∧ n < rows.length then some (.rp (row rows n)) else none) else none
  | .slice e, .ow m, .v (.int _ n) => idxO m (T e).size n (ownOf (L m))
  | .array l e, .pt m k, .v (.int _ n) => (boxOf (L m)).bind fun _ => if (T e).size ≠ 0 ∧ 0 ≤ n ∧ n < l then some (.pt m (k + n.toNat * (T e).size)) else none
  | .array l e, .rp cs, .v (.int _ n) => if (T e).size ≠ 0 ∧ 0 ≤ n ∧ n < l then some (.rp (cs.drop (n.toNat * (T e).size))) else none
  | _, _, _ => none
def eIdx : TK → AV → AV → Option AV
  | .str, .v (.string b), .v (.int _ n) => if 0 ≤ n ∧ n < b.size then some (.v (.int .u8 (byteAt b n))) else none
  | _, _, _ => none
def eExt : AV → Nat → Option AV
  | .tup cs, i => cs[i]?
  | _, _ => none
def eLenR (T : Nat → TI) (L : Nat → Option Blk) (ρ : Operand → AV) : List TypeId → List Operand → Option AV
  | [t], [a] => eLen L (T t).k (ρ a)
  | _, _ => none
def eFieldV : TK → (Nat → TI) → Nat → AV → Option AV
  | .struct fs, T, f, .agg cs => (fs[f]?).bind fun p => cut (T p.2).k.isAgg p.1 (T p.2).size cs
  | _, _, _, _ => none
/-- The bounds of a cut of a text. -/
def bnd (d : Int) : Option AV → Option Int
  | none => some d
  | some (.v (.int _ n)) => some n
  | _ => none
def eCutS (s : ByteArray) : Option Int → Option Int → Option AV
  | some l, some h => if 0 ≤ l ∧ l ≤ h ∧ h ≤ s.size then some (Str (s.extract l.toNat h.toNat)) else none
  | _, _ => none
def eCutR (es : Nat) (rows : List (List AV)) : Option Int → Option Int → Option AV
  | some l, some h => if 0 ≤ l ∧ l ≤ h ∧ h ≤ rows.length then some (.sl es false ((rows.drop l.toNat).take (h.toNat - l.toNat))) else none
  | _, _ => none
/-- A cut of a named slice, from row 'a' on. -/
def eCutO (n a : Nat) (sz : Nat) (hi : Option AV) (d : Int) (lo : Option Int) : Option (Nat × Nat × List (List AV)) → Option AV
  | some (_, es, rows) => match lo, bnd d hi with
    | some l, some h => if es ≠ 0 ∧ sz = es ∧ 0 ≤ l ∧ l ≤ h ∧ (a : Int) + h ≤ rows.length ∧ 0 < rows.length then some (.os n es (a + l.toNat) (a + h.toNat)) else none
    | _, _ => none
  | none => none
def eSlice (T : Nat → TI) (L : Nat → Option Blk) : TK → AV → Option AV → Option AV → Option AV
  | .str, .v (.string s), lo, hi => eCutS s (bnd 0 lo) (bnd s.size hi)
  | .slice e, .sl es _ rows, lo, hi => if es = 0 then none else if (T e).size = es then eCutR es rows (bnd 0 lo) (bnd rows.length hi) else none
  | .slice e, .ow n, lo, hi => match ownOf (L n) with | some (t, es, rows) => eCutO n 0 (T e).size hi rows.length (bnd 0 lo) (some (t, es, rows)) | none => none
  | .slice e, .os n es i j, lo, hi => if es = (T e).size then eCutO n i (T e).size hi ((j : Int) - i) (bnd 0 lo) (ownOf (L n)) else none
  | _, _, _, _ => none
/-- A look at the bounds of a cut. -/
def eSlice3 (T : Nat → TI) (L : Nat → Option Blk) : TK → AV → Option AV → Option AV → Option AV → Option AV
  | .slice e, .ow n, lo, hi, mx => match ownOf (L n), bnd 0 lo, hi.bind (fun x => bnd 0 (some x)), mx.bind (fun x => bnd 0 (some x)) with
    | some (_, es, rows), some l, some h, some m => if es ≠ 0 ∧ (T e).size = es ∧ 0 ≤ l ∧ l ≤ h ∧ h ≤ m ∧ m ≤ rows.length then some .junk else none
    | _, _, _, _ => none
  | _, _, _, _, _ => none
def eConv : TK → AV → Option AV
  | .int k, .v (.int _ n) => some (.v (.int k (k.wrap n)))
  | .str, .v (.string s) => some (Str s)
  | _, _ => none
def eNil : AV → Option AV
  | .pt n o => some (.pt n o)
  | .rp cs => some (.rp cs)
  | .fn f cs => some (.fn f cs)
  | .po n es i k => some (.po n es i k)
  | _ => none
/-- The parts of a struct, laid over cells. -/
def fillA (T : Nat → TI) (fs : List (Nat × TypeId)) (ρ : Operand → AV) : List (Nat × Operand) → List AV → Option (List AV)
  | [], cs => some cs
  | (i, x) :: ps, cs => (fs[i]?).bind fun p => (cellsOf (ρ x)).bind fun new => if (T p.2).size ≠ 0 ∧ new.length = (T p.2).size ∧ p.1 + new.length ≤ cs.length then fillA T fs ρ ps (cs.take p.1 ++ new ++ cs.drop (p.1 + new.length)) else none
def eBuild (T : Nat → TI) (zero : List AV) (ρ : Operand → AV) (ps : List (Nat × Operand)) : TK → Option AV
  | .struct fs => (fillA T fs ρ ps zero).map .agg
  | _ => none

/-- What a map of numbers has of a number. -/
def mg (es : List (Int × AV)) (n : Int) (z : AV) : AV := match es.find? fun p => p.1 == n with | some p => p.2 | none => z
def mh (es : List (Int × AV)) (n : Int) : Bool := (es.find? fun p => p.1 == n).isSome
def mset : List (Int × AV) → Int → AV → List (Int × AV)
  | [], n, v => [(n, v)]
  | p :: ps, n, v => if p.1 = n then (n, v) :: ps else p :: mset ps n v
def isI64 : TK → Bool
  | .int .i64 => true
  | _ => false
def lkp (ok : Bool) (n : Int) : Option AV → Option (List (Int × AV)) → Option AV
  | some z, some es => some (bif ok then .tup [mg es n z, B (mh es n)] else mg es n z)
  | _, _ => none
def eLook (T : Nat → TI) (L : Nat → Option Blk) (ok : Bool) : TK → AV → AV → Option AV
  | .map kt et, .ow m, .v (.int .i64 n) => if isI64 (T kt).k = true then (if (T et).size = 0 then none else lkp ok n (one (T et).k.isAgg (T et).zero) (mapOf (L m))) else none
  | _, _, _ => none

/-- Operations that only look. -/
def evV (T : Nat → TI) (L : Nat → Option Blk) (e : Nat → AV) : Op → Option AV
  | .move x => some (eo e x)
  | .assign x => some (eo e x)
  | .pick c a b => ePick (eo e c) (eo e a) (eo e b)
  | .load t a => eLoad L (T t).k.isAgg (T t).size (eo e a)
  | .binOp op t x y _ => eBin T t op (eo e x) (eo e y)
  | .unOp op _ x => eUn op (eo e x)
  | .fieldAddr t x f => eField (T t).k f (eo e x)
  | .field t x f => eFieldV (T t).k T f (eo e x)
  | .indexAddr t x i => eIdxA T L (T t).k (eo e x) (eo e i)
  | .index t x i => eIdx (T t).k (eo e x) (eo e i)
  | .extract x i => eExt (eo e x) i
  | .slice t x lo hi none => eSlice T L (T t).k (eo e x) (lo.map (eo e)) (hi.map (eo e))
  | .slice t x lo hi (some mx) => eSlice3 T L (T t).k (eo e x) (lo.map (eo e)) (hi.map (eo e)) (some (eo e mx))
  | .convert u t x => if (T u).size = 0 then none else eConv (T t).k (eo e x)
  | .nilCheck x => eNil (eo e x)
  | .makeFunc (.func f) ⟨[]⟩ ⟨cs⟩ => some (.fn f (cs.map (eo e)))
  | .build t ⟨ps⟩ => if (T t).size = 0 then none else eBuild T (T t).zero (eo e) ps (T t).k
  | .lookup t x i ok => eLook T L ok (T t).k (eo e x) (eo e i)
  | .call ⟨.builtin .len, ⟨asx⟩, ⟨ts⟩⟩ => eLenR T L (eo e) ts asx
  | _ => none

/-- A new block of the name of the place that it is put in. -/
def mk (U : Nat → Bool) (r : Nat → AV) : Option Tmp → Option Blk → Option Eff
  | some d, some b => if U d = true then none else if d < 4096 then some ⟨r d, [(d, some b)], [d], []⟩ else none
  | _, _ => none
def bxp (n : Nat) : AV := .pt n 0
/-- The rows of a slice of these parts. -/
def bsRows (sz : Nat) (ρ : Operand → AV) : Nat → List (Nat × Operand) → Option (List (List AV))
  | _, [] => some []
  | i, (j, x) :: ps => if j = i then (cellsOf (ρ x)).bind fun cs => if cs.length = sz ∧ nfL cs = true then (bsRows sz ρ (i + 1) ps).map (cs :: ·) else none else none
def eBS (T : Nat → TI) (ρ : Operand → AV) (n : Nat) (ps : List (Nat × Operand)) : TK → Option AV
  | .slice e => if (T e).size = 0 then none else if ps.length = n ∧ n ≤ 10000 ∧ (T e).size ≤ 1000 then (bsRows (T e).size ρ 0 ps).map (.sl (T e).size true) else none
  | _ => none
/-- What is appended to. -/
def appD (L : Nat → Option Blk) (e sz : Nat) : AV → Option (Option Nat × List (List AV))
  | .ow m => match ownOf (L m) with | some (t, es, rows) => if t = e ∧ es = sz then some (some m, rows) else none | none => none
  | .v (.slice _ 0 0) => some (none, [])
  | .sl es true [] => if es = sz then some (none, []) else none
  | _ => none
def u8s (s : ByteArray) : List (List AV) := s.toList.map fun b => [.v (.int .u8 b.toNat)]
def isU8 : TK → Bool
  | .int .u8 => true
  | _ => false
/-- What is appended. -/
def appS (L : Nat → Option Blk) (sz : Nat) (b8 : Bool) : AV → Option (List (List AV))
  | .ow m => match ownOf (L m) with | some (_, es, rows) => if es = sz then some rows else none | none => none
  | .v (.slice _ 0 _) => some []
  | .sl es _ rows => if es = sz then some rows else none
  | .v (.string s) => if b8 = true ∧ sz = 1 then some (u8s s) else none
  | _ => none
def nmO : AV → List Nat
  | .ow m => [m]
  | .pt m _ => [m]
  | .po m _ _ _ => [m]
  | .os m _ _ _ => [m]
  | _ => []
def kill : Option Nat → List (Nat × Option Blk)
  | some m => [(m, none)]
  | none => []
/-- Is there room? -/
def appOk (n bys : Nat) : Bool := decide (n * bys ≤ 140737488355328) && decide (n ≤ 9223372036854775807)
theorem appOk_small {n bys : Nat} (h : n ≤ 1000000) (h' : bys ≤ 100000) : appOk n bys = true := by
  have := Nat.mul_le_mul h h'
  simp only [appOk, Bool.and_eq_true, decide_eq_true_eq]
  omega
def app2 (U : Nat → Bool) (e sz bys : Nat) (rd : List Nat) : Option Tmp → Option (Option Nat × List (List AV)) → Option (List (List AV)) → Option Eff
  | some d, some (om, rows), some news => if U d = true then none else if appOk (rows ++ news).length bys = true ∧ sz ≠ 0 ∧ d < 4096 then
      some ⟨.ow d, kill om ++ [(d, some (.own e sz (rows ++ news)))], [d], rd⟩ else none
  | _, _, _ => none
/-- Rows moved up in place. -/
def appM (rows : List (List AV)) (i j k : Nat) : List (List AV) := rows.take i ++ (rows.drop j).take (k - j) ++ rows.drop (i + (k - j))
def appI (n es i j k : Nat) (e sz : Nat) : Option (Nat × Nat × List (List AV)) → Option Eff
  | some (t, es', rows) => if t = e ∧ es' = es ∧ sz = es ∧ es ≠ 0 ∧ i ≤ j ∧ j ≤ k ∧ k ≤ rows.length ∧ i < rows.length then some ⟨.os n es 0 (i + (k - j)), [(n, some (.own t es (appM rows i j k)))], [], [n]⟩ else none
  | none => none
/-- Rows cleared. -/
def clrI (n es i j : Nat) (e sz : Nat) (z : List AV) : Option (Nat × Nat × List (List AV)) → Option Eff
  | some (t, es', rows) => if t = e ∧ es' = es ∧ sz = es ∧ es ≠ 0 ∧ i ≤ j ∧ j ≤ rows.length ∧ i < rows.length ∧ nfL z = true then some ⟨.v undef, [(n, some (.own t es (rows.take i ++ List.replicate (j - i) z ++ rows.drop j)))], [], [n]⟩ else none
  | none => none
def eClr (T : Nat → TI) (L : Nat → Option Blk) (ρ : Operand → AV) : List TypeId → List Operand → Option Eff
  | [t], [x] => match (T t).k, ρ x with
    | .slice e, .os n es i j => clrI n es i j e (T e).size (T e).zero (ownOf (L n))
    | _, _ => none
  | _, _ => none
/-- A slice made of zeros. -/
def mkSl (T : Nat → TI) (d : Option Tmp) (U : Nat → Bool) (e : Nat) : AV → AV → Option Eff
  | .v (.int _ l), .v (.int _ c) => if 0 ≤ l ∧ l ≤ c ∧ c ≤ 1000000 ∧ (T e).bytes ≤ 100000 ∧ (T e).size ≠ 0 ∧ nfL (T e).zero = true then mk U .ow d (some (.own e (T e).size (List.replicate l.toNat (T e).zero))) else none
  | _, _ => none
/-- A copy into a named slice, as long as what is copied. -/
def cpy (L : Nat → Option Blk) (e sz : Nat) : AV → AV → Option Eff
  | .ow m, .sl es _ rows => match ownOf (L m) with
    | some (t, es', old) => if t = e ∧ es' = sz ∧ es = sz ∧ sz ≠ 0 ∧ old.length = rows.length then some ⟨I rows.length, [(m, some (.own t es' rows))], [], [m]⟩ else none
    | none => none
  | _, _ => none
def eCpy (T : Nat → TI) (L : Nat → Option Blk) (ρ : Operand → AV) : List TypeId → List Operand → Option Eff
  | [t, _], [x, y] => match (T t).k with
    | .slice e => cpy L e (T e).size (ρ x) (ρ y)
    | _ => none
  | _, _ => none
def isSS : TK → Bool
  | .str => true
  | .slice _ => true
  | _ => false
def appX (T : Nat → TI) (d : Option Tmp) (L : Nat → Option Blk) (U : Nat → Bool) (e : Nat) (iss : Bool) : AV → AV → Option Eff
  | .os n es 0 i, .os n' es' j k => if n = n' ∧ es = es' ∧ iss = true then appI n es i j k e (T e).size (ownOf (L n)) else none
  | ax, ay => app2 U e (T e).size (T e).bytes (nmO ax ++ nmO ay) d (appD L e (T e).size ax) (appS L (T e).size (isU8 (T e).k) ay)
def eApp (T : Nat → TI) (d : Option Tmp) (L : Nat → Option Blk) (U : Nat → Bool) (ρ : Operand → AV) : List TypeId → List Operand → Option Eff
  | [t, u], [x, y] => match (T t).k with
    | .slice e => if isSS (T u).k = true then appX T d L U e (isSlice (T u).k) (ρ x) (ρ y) else none
    | _ => none
  | _, _ => none
def eMapU (L : Nat → Option Blk) : AV → AV → AV → Option Eff
  | .ow m, .v (.int .i64 n), v => match mapOf (L m) with | some es => if nf v = true then some ⟨.v undef, [(m, some (.mp (mset es n v)))], [], [m]⟩ else none | none => none
  | _, _, _ => none
/-- Operations that make or change blocks. -/
def evA (T : Nat → TI) (d : Option Tmp) (L : Nat → Option Blk) (U : Nat → Bool) (e : Nat → AV) : Op → Option Eff
  | .alloc t => if (T t).size = 0 then none else mk U bxp d (some (.box t (T t).zero))
  | .box t x => mk U bxp d ((cellsOf (eo e x)).map (.box t))
  | .store t a x => if (T t).size = 0 then none else eStore L (T t).size (eo e a) (cellsOf (eo e x))
  | .buildSlice t n ⟨ps⟩ => (eBS T (eo e) n ps (T t).k).map fun r => ⟨r, [], [], []⟩
  | .makeMap t none => match (T t).k with | .map _ _ => mk U .ow d (some (.mp [])) | _ => none
  | .mapUpdate t m k x => match (T t).k with | .map kt et => if isI64 (T kt).k = true ∧ (T et).size ≠ 0 then eMapU L (eo e m) (eo e k) (eo e x) else none | _ => none
  | .call ⟨.builtin .append, ⟨asx⟩, ⟨ts⟩⟩ => eApp T d L U (eo e) ts asx
  | .call ⟨.builtin .clear, ⟨asx⟩, ⟨ts⟩⟩ => eClr T L (eo e) ts asx
  | .call ⟨.builtin .copy, ⟨asx⟩, ⟨ts⟩⟩ => eCpy T L (eo e) ts asx
  | .makeSlice t l c => match (T t).k with | .slice el => mkSl T d U el (eo e l) (eo e c) | _ => none
  | _ => none
def isA : Op → Bool
  | .alloc _ => true
  | .box _ _ => true
  | .store _ _ _ => true
  | .buildSlice _ _ _ => true
  | .makeMap _ _ => true
  | .mapUpdate _ _ _ _ => true
  | .call ⟨.builtin .append, _, _⟩ => true
  | .call ⟨.builtin .clear, _, _⟩ => true
  | .call ⟨.builtin .copy, _, _⟩ => true
  | .makeSlice _ _ _ => true
  | _ => false
/-- The names that an operation that only looks looks at. -/
def rdV (e : Nat → AV) : Op → List Nat
  | .load _ a => nmO (eo e a)
  | .indexAddr _ x _ => nmO (eo e x)
  | .lookup _ x _ _ => nmO (eo e x)
  | .slice _ x _ _ _ => nmO (eo e x)
  | .call ⟨.builtin .len, ⟨[a]⟩, _⟩ => nmO (eo e a)
  | _ => []
def eff0 (rd : List Nat) : Option AV → Option Eff
  | some r => some ⟨r, [], [], rd⟩
  | none => none
def ev (T : Nat → TI) (d : Option Tmp) (s : St) (op : Op) : Option Eff :=
  bif isA op then evA T d s.L s.U s.e op else eff0 (rdV s.e op) (evV T s.L s.e op)

end Go.Proofs.YtkbidoikndgheaaDoor.HL

namespace Go.Proofs.YtkbidoikndgheaaDoor.HL
open Go.RowKit

/-! The machine: from what lies before it a frame goes on to its end: a function's to a return, a round's to yield's answer. -/
structure Cx where
  P : Program
  T : Nat → TI
  f : FuncId
  nt : Nat
  res : List ResultVar
  ro : Option Nat
  w0 : World
  O : Nat → Prop
  F0 : Nat → Prop
  NL : List Nat
  N : Nat → Option Value
  K : Value → World → Prop
  J : Option Code → World → Prop
/-- Are there no marks? -/
def Cx.tag (X : Cx) : Prop := match X.ro with | none => X.J none X.w0 | some _ => X.K undef X.w0
def base (X : Cx) : Frame := { (default : Frame) with fn := X.f, kind := .normal, roundOf := X.ro }
def Fin (X : Cx) (cs : List Frame) (m : Machine) : Prop := match X.ro with
  | none => ∃ v w' fr, m = lone fr cs w' ∧ X.K v w' ∧ fr.fn = X.f ∧ fr.leaving X.P w' (.returned v)
  | some _ => ∃ c cs' j w', cs = c :: cs' ∧ m = lone (c.finish (.bool (Option.isNone j))) cs' w' ∧ X.J j w'
def Goes (X : Cx) (todo : List Item) (a : Act) (w : World) : Prop :=
  ∀ cs, (X.ro ≠ none → cs ≠ []) → ∃ m, Fin X cs m ∧ Steps X.P (lone ((base X).atR a todo) cs w) m
/-- A call, as the caller sees it: the function returns. -/
def CallsR (P : Program) (f : FuncId) (args : Array Value) (w : World) (R : Value → World → Prop) : Prop :=
  ∀ c cs, ∃ v w', R v w' ∧ Steps P (lone (Frame.enter P f args .normal) (c :: cs) w) (lone (c.finish v) cs w')
theorem CallsR.mono {P : Program} {f : FuncId} {args : Array Value} {w : World} {R R' : Value → World → Prop} (h : CallsR P f args w R) (hR : ∀ v w', R v w' → R' v w') : CallsR P f args w R' := fun c cs => by
  obtain ⟨v, w', h1, h2⟩ := h c cs
  exact ⟨v, w', hR v w' h1, h2⟩
theorem CallsR.of_calls {P : Program} {f : FuncId} {args : Array Value} {w : World} {R : Ending → World → Prop} {R' : Value → World → Prop} (h : Calls P f args w R) (hR : ∀ e w', R e w' → ∃ v, e = .returned v ∧ R' v w') : CallsR P f args w R' := fun c cs => by
  obtain ⟨e, w', fr, h1, h2, h3, h4⟩ := h (c :: cs)
  obtain ⟨v, rfl, hv⟩ := hR e w' h1
  exact ⟨v, w', hv, Steps.trans h2 (.one (step_leave_returned h4))⟩
section
variable {X : Cx} {a : Act} {w : World} {k : List Item}
theorem Goes.of_step {todo todo' : List Item} {a' : Act} {w' : World} (hs : ∀ cs, step X.P (lone ((base X).atR a todo) cs w) = .next (lone ((base X).atR a' todo') cs w')) (h : Goes X todo' a' w') : Goes X todo a w := fun cs hc => by
  obtain ⟨m, h1, h2⟩ := h cs hc
  exact ⟨m, h1, .head (hs cs) h2⟩
theorem steps_marks {P : Program} : ∀ (M : List Nat) (fr : Frame) (cs : List Frame) (w : World), M.Nodup → fr.mode = .returning → fr.defers = M.map (fun r => { target := .collected r, args := #[] }) → (∀ r ∈ M, w.heap[r]? = some (.deferred (some []))) →
    Steps P (lone fr cs w) (lone { fr with defers := [] } cs (M.foldl (fun w r => w.putObj r (.deferred none)) w))
  | [], fr, cs, w, _, _, hd, _ => by
    have : fr = { fr with defers := [] } := by cases fr; simp at hd; subst hd; rfl
    rw [List.foldl_nil, ← this]
    exact .refl _ _
  | r :: M, fr, cs, w, hn, hm, hd, hw => by
    rw [List.nodup_cons] at hn
    have h1 := step_collected (P := P) (cs := cs) (w := w) (fr := fr) (by rw [hm]; exact fun h => by cases h) hd rfl (run_takeDeferred (hw r (by simp)))
    refine .head h1 ?_
    refine steps_marks M _ cs _ hn.2 hm rfl (fun r' hr' => ?_)
    rw [World.putObj_heap_other (fun e => by subst e; exact hn.1 hr')]
    exact hw r' (by simp [hr'])
/-- What stands among the deferred calls: the marks of loops over functions. -/
def Marks (t : Prop) (w0 : World) (F : Nat → Prop) (w : World) (ds : List Deferred) : Prop :=
  (t → ds = []) ∧ ∃ M : List Nat, M.Nodup ∧ ds = M.map (fun r => { target := .collected r, args := #[] }) ∧ ∀ r ∈ M, w0.heap.size ≤ r ∧ F r ∧ w.heap[r]? = some (.deferred (some []))
theorem Goes.leave {t : Prop} {F : Nat → Prop} {todo : List Item} {fn : Func} (hro : X.ro = none) (hs : ∀ cs, step X.P (lone ((base X).atR a todo) cs w) = .next (lone { (base X).atR a todo with mode := .returning } cs w)) (hd : Marks t X.w0 F w a.defers) (hf : X.P.funcs[X.f]? = some fn)
    (h : ∀ w', (∃ M : List Nat, (∀ r ∈ M, X.w0.heap.size ≤ r ∧ F r ∧ w.heap[r]? = some (.deferred (some []))) ∧ M.Nodup ∧ w' = M.foldl (fun w r => w.putObj r (.deferred none)) w) → ∃ v, (results fn a.tmps).run X.P w' = .ok v w' ∧ X.K v w') : Goes X todo a w := fun cs _ => by
  obtain ⟨_, M, hM1, hM2, hM3⟩ := hd
  obtain ⟨v, h1, h2⟩ := h _ ⟨M, hM3, hM1, rfl⟩
  refine ⟨_, ?_, .head (hs cs) (steps_marks M { (base X).atR a todo with mode := .returning } cs w hM1 rfl hM2 fun r hr => (hM3 r hr).2.2)⟩
  rw [Fin, hro]
  exact ⟨v, _, _, rfl, h2, rfl, rfl, rfl, rfl, fn, hf, h1⟩
theorem fin_atR {ops : Array Oper} {i : Nat} {rest : List Nat} {o : Oper} (ho : ops[i]? = some o) (v : Value) :
    ((base X).atR a (.inRegion ops (i :: rest) :: k)).finish v = (base X).atR (a.put o.dst v) (.inRegion ops rest :: k) := by rw [Frame.finish_atR, ho]; rfl
theorem Goes.op {ops : Array Oper} {i : Nat} {rest : List Nat} {o : Oper} {nx : Next} {v : Value} {w' : World} (ho : ops[i]? = some o) (hw : Region.wanted o (yielded ops a.tmps) = true) (hd : ∀ c, o.op ≠ .defer c)
    (hr : (execOp a.eval o).run X.P w = .ok nx w') (hn : nx = .value v ∨ nx = .skip ∧ v = undef) (h : Goes X (.inRegion ops rest :: k) (a.put o.dst v) w') :
    Goes X (.inRegion ops (i :: rest) :: k) a w := by
  refine .of_step (fun cs => ?_) h
  have hg := stepGR_op (P := X.P) (b := base X) (k := k) (cs := cs) (w := w) (rest := rest) ho hw
  rw [Oper.semAt_eq _ _ _ hd] at hg
  rcases hn with rfl | ⟨rfl, rfl⟩
  · exact step_lone_go (by rw [hg, ← fin_atR ho]; simp [stepG.apply, hr])
  · exact step_lone_go (by rw [hg, ← fin_atR ho]; simp [stepG.apply, hr])
theorem Goes.skip {ops : Array Oper} {i : Nat} {rest : List Nat} {o : Oper} (ho : ops[i]? = some o) (hw : Region.wanted o (yielded ops a.tmps) = false)
    (h : Goes X (.inRegion ops rest :: k) (a.put o.dst undef) w) : Goes X (.inRegion ops (i :: rest) :: k) a w := by
  refine .of_step (fun cs => ?_) h
  have hs := stepR_op_skip (P := X.P) (b := base X) (a := a) (k := k) (cs := cs) (w := w) (ops := ops) (i := i) (rest := rest) (by simp [ho, hw])
  simpa [ho] using hs
theorem Goes.call {ops : Array Oper} {i : Nat} {rest : List Nat} {o : Oper} {f : FuncId} {args : Array Value} {w1 : World} (ho : ops[i]? = some o) (hw : Region.wanted o (yielded ops a.tmps) = true) (hd : ∀ c, o.op ≠ .defer c)
    (hr : (execOp a.eval o).run X.P w = .ok (.enter f args) w1)
    (hC : CallsR X.P f args w1 fun v w2 => Goes X (.inRegion ops rest :: k) (a.put o.dst v) w2) : Goes X (.inRegion ops (i :: rest) :: k) a w := by
  intro cs hcs
  obtain ⟨v, w2, hG, hsteps⟩ := hC ((base X).atR a (.inRegion ops (i :: rest) :: k)) cs
  obtain ⟨m, h1, h2⟩ := hG cs hcs
  have hg := stepGR_op (P := X.P) (b := base X) (k := k) (cs := cs) (w := w) (rest := rest) ho hw
  rw [Oper.semAt_eq _ _ _ hd] at hg
  have henter : step X.P (lone ((base X).atR a (.inRegion ops (i :: rest) :: k)) cs w) = .next (lone (Frame.enter X.P f args .normal) ((base X).atR a (.inRegion ops (i :: rest) :: k) :: cs) w1) :=
    step_lone_go (by rw [hg]; simp [stepG.apply, hr, Frame.atR])
  refine ⟨m, h1, .head henter (Steps.trans hsteps ?_)⟩
  rw [fin_atR ho]
  exact h2
theorem calls_of_goes {fn : Func} {c : Code} {args : Array Value} (hf : X.P.funcs[X.f]? = some fn) (hb : fn.body = some c) (hro : X.ro = none)
    (h : Goes X [.code c] { tmps := args ++ Array.replicate (fn.ntmps - args.size) undef, defers := [] } w) : Calls X.P X.f args w (fun e w' => ∃ v, e = .returned v ∧ X.K v w') := by
  intro cs
  have henter : Frame.enter X.P X.f args .normal = (base X).atR { tmps := args ++ Array.replicate (fn.ntmps - args.size) undef, defers := [] } [.code c] := by
    simp [Frame.enter, Frame.atR, hf, hb, base, hro]
  rw [henter]
  obtain ⟨m, h1, h2⟩ := h cs (fun h => absurd hro h)
  rw [Fin, hro] at h1
  obtain ⟨v, w', fr, rfl, hK, hfn, hl⟩ := h1
  exact ⟨.returned v, w', fr, ⟨v, rfl, hK⟩, h2, hfn, hl⟩
end

/-! The relation of an abstract state to the machine's. -/
def blockOf : Value → Option Nat
  | .pointer (some a) => some a.block
  | .slice (some _) _ 0 => none
  | .slice (some a) _ (_ + 1) => some a.block
  | .map (some r) => some r
  | _ => none
/-- A slice of the call's own, or one without room. -/
def Own (w : World) (e : TypeId) (size : Nat) (v : Value) (n : Nat) (xs : List Value) : Prop := w.ownsRow 0 e size v n xs ∨ n = 0 ∧ xs = [] ∧ ∃ A, v = .slice A 0 0
def BRel (γ : Nat → Option Value) (F : Nat → Prop) (w : World) (n : Nat) : Blk → Prop
  | .box t cs => ∃ b arr, γ n = some (.pointer (some ⟨b, 0, none⟩)) ∧ w.heap[b]? = some (.cells arr t (0, 0)) ∧ VL γ F w cs arr.toList ∧ ∀ v ∈ arr.toList, v.oneCell' = true
  | .own t es rows => ∃ sv xs, γ n = some sv ∧ Own w t es sv rows.length xs ∧ VL noName F w rows.flatten xs ∧ (∀ r ∈ rows, r.length = es) ∧ ∀ v ∈ xs, v.oneCell' = true
  | .mp es => ∃ r ents clock, γ n = some (.map (some r)) ∧ w.heap[r]? = some (.map ents clock) ∧ ML F w es ents.toList
/-- The block that a name stands for. -/
def nmb (γ : Nat → Option Value) (n : Nat) : Option Nat := (γ n).bind blockOf

structure Inv (X : Cx) (γ : Nat → Option Value) (F : Nat → Prop) (s : St) (w : World) : Prop where
  blk : ∀ n b, s.L n = some b → BRel γ F w n b
  dom : ∀ n v, γ n = some v → s.U n = true
  sep : ∀ n m k, (s.L n).isSome → (s.L m).isSome → nmb γ n = some k → nmb γ m = some k → n = m
  own : ∀ n k, (s.L n).isSome → nmb γ n = some k → ¬ F k ∧ k < w.heap.size ∧ (X.w0.heap.size ≤ k ∨ X.O k)
  fr : ∀ k, F k → k < w.heap.size
  fold : ∀ k, X.F0 k → F k
  fnew : ∀ k, F k → X.F0 k ∨ X.w0.heap.size ≤ k ∨ X.O k
  os : w.os = X.w0.os
  tape : w.tape = X.w0.tape
  output : w.output = X.w0.output
  size : X.w0.heap.size ≤ w.heap.size
  keep : ∀ k, k < X.w0.heap.size → ¬ X.O k → w.heap[k]? = X.w0.heap[k]?
  nm : ∀ n v, X.N n = some v → (s.L n).isSome → γ n = some v
  nu : ∀ n v, X.N n = some v → s.U n = true
  nl : ∀ n v, X.N n = some v → n ∈ X.NL

structure ERel (X : Cx) (γ : Nat → Option Value) (F : Nat → Prop) (s : St) (a : Act) (w : World) : Prop where
  d : Marks X.tag X.w0 F w a.defers
  n : a.tmps.size = X.nt
  r : ∀ t, VRel γ F w (s.e t) (a.tmps.getD t undef)
/-- What is known stays known. -/
structure Fwd (γ : Nat → Option Value) (F : Nat → Prop) (w : World) (γ' : Nat → Option Value) (F' : Nat → Prop) (w' : World) : Prop where
  ext : Ext γ γ'
  f : ∀ b, F b → F' b
  h : ∀ b, F b → w'.heap[b]? = w.heap[b]?
theorem Fwd.rel {γ γ' : Nat → Option Value} {F F' : Nat → Prop} {w w' : World} (h : Fwd γ F w γ' F' w') {a : AV} {y : Value} (hy : VRel γ F w a y) : VRel γ' F' w' a y := hy.mono h.f h.h _ _ (fun n _ v => h.ext n v)
theorem Fwd.refl (γ : Nat → Option Value) (F : Nat → Prop) (w : World) : Fwd γ F w γ F w := ⟨fun _ _ h => h, fun _ h => h, fun _ _ => rfl⟩
theorem Fwd.trans {γ γ' γ'' : Nat → Option Value} {F F' F'' : Nat → Prop} {w w' w'' : World} (h : Fwd γ F w γ' F' w') (k : Fwd γ' F' w' γ'' F'' w'') : Fwd γ F w γ'' F'' w'' :=
  ⟨fun n v hn => k.ext n v (h.ext n v hn), fun b hb => k.f b (h.f b hb), fun b hb => (k.h b (h.f b hb)).trans (h.h b hb)⟩
theorem Marks.fwd {t : Prop} {w0 : World} {γ γ' : Nat → Option Value} {F F' : Nat → Prop} {w w' : World} {ds : List Deferred} (h : Marks t w0 F w ds) (k : Fwd γ F w γ' F' w') : Marks t w0 F' w' ds := by
  obtain ⟨h0, M, h1, h2, h3⟩ := h
  exact ⟨h0, M, h1, h2, fun r hr => ⟨(h3 r hr).1, k.f r (h3 r hr).2.1, (k.h r (h3 r hr).2.1).trans (h3 r hr).2.2⟩⟩

structure Fn (X : Cx) : Prop where
  fn : ∃ fn, X.P.funcs[X.f]? = some fn ∧ fn.results = X.res.toArray

def Run (X : Cx) (todo : List Item) (s : St) : Prop := ∀ γ F a w, Inv X γ F s w → ERel X γ F s a w → Goes X todo a w
def RunOps (X : Cx) (ops : Array Oper) (rest : List Oper) (k : List Item) (s : St) : Prop := ∀ l : List Nat, l.map (fun i => ops[i]?) = rest.map some → Run X (.inRegion ops l :: k) s

theorem Run.of_step {X : Cx} {todo todo' : List Item} {s : St} (hs : ∀ a w cs, step X.P (lone ((base X).atR a todo) cs w) = .next (lone ((base X).atR a todo') cs w)) (h : Run X todo' s) : Run X todo s :=
  fun γ F a w hi he => .of_step (fun cs => hs a w cs) (h γ F a w hi he)
end Go.Proofs.YtkbidoikndgheaaDoor.HL

namespace Go.Proofs.YtkbidoikndgheaaDoor.HL
open Go.RowKit

def TKok (P : Program) (d : TypeDesc) : TK → Prop
  | .int k => d = .int k
  | .bool => d = .bool
  | .str => d = .string
  | .ptr e => d = .pointer e
  | .slice e => d = .slice e
  | .array n e => d = .array n e
  | .struct fs => ∃ flds, d = .struct flds ∧ flds.toList.map (fun f => (f.offset, f.type)) = fs ∧ ∀ f ∈ flds.toList, ∃ i, P.info? f.type = some i ∧ i.size ≠ 0
  | .map k e => d = .map k e
  | .other => (match d with | .struct _ => False | .array _ _ => False | _ => True)
/-- A zero is of the form that its type has. -/
def zok : Bool → Value → Bool
  | true, .agg _ => true
  | false, v => v.oneCell'
  | _, _ => false
/-- What the table says of types is so. -/
structure TOk (P : Program) (T : Nat → TI) : Prop where
  info : ∀ t, (T t).size ≠ 0 → ∃ i z, P.info? t = some i ∧ i.size = (T t).size ∧ i.bytes = (T t).bytes ∧ i.zero = some z ∧ z.cells.toList.map .v = (T t).zero ∧ (∀ v ∈ z.cells.toList, v.oneCell' = true) ∧ z.cells.size = (T t).size ∧ zok (T t).k.isAgg z = true
  kind : ∀ t, (T t).size ≠ 0 → ∃ d, P.underlying t = some d ∧ TKok P d (T t).k
  dflt : ∀ t, (T t).size = 0 → (T t).k = .other
  eq : ∀ t, (T t).eq = true → P.eqGuardType P.depth t = false ∧ ∀ (w : World) (cs ds : List Value) (b : Bool), eqL (T t).zero (cs.map .v) (ds.map .v) = some b → (Op.equalIn 10000 t (.agg cs.toArray) (.agg ds.toArray)).run P w = .ok b w

section
variable {P : Program} {T : Nat → TI} {γ : Nat → Option Value} {F : Nat → Prop} {w : World}

theorem TOk.und (hT : TOk P T) {t : Nat} {k : TK} (h : (T t).k = k) (hk : k ≠ .other) : ∃ d, P.underlying t = some d ∧ TKok P d k := by
  obtain ⟨d, h1, h2⟩ := hT.kind t (fun h0 => hk (h ▸ hT.dflt t h0))
  exact ⟨d, h1, h ▸ h2⟩
theorem TOk.sz (hT : TOk P T) {t : Nat} (h : (T t).k ≠ .other ∨ (T t).size ≠ 0) : ∃ i, P.info? t = some i ∧ i.size = (T t).size := by
  obtain ⟨i, _, h1, h2, _⟩ := hT.info t (fun h0 => h.elim (fun h => h (hT.dflt t h0)) (fun h => h h0))
  exact ⟨i, h1, h2⟩
theorem run_sizeOf' {t : Nat} {i : TypeInfo} (h : P.info? t = some i) (w : World) : (sizeOf t).run P w = .ok i.size w := by simp [sizeOf, typeInfo, h]
theorem run_isAgg' {t : Nat} {d : TypeDesc} {k : TK} (h : P.underlying t = some d) (hk : TKok P d k) (w : World) : (isAgg t).run P w = .ok k.isAgg w := by
  unfold isAgg
  rw [Sem.run_bind, run_underlying h w]
  cases k <;> simp only [TKok] at hk
  case struct fs => obtain ⟨flds, rfl, _⟩ := hk; rfl
  case other => cases d <;> simp_all [TK.isAgg]
  all_goals (subst hk; rfl)

theorem VL.length : ∀ {cs : List AV} {vs : List Value}, VL γ F w cs vs → vs.length = cs.length
  | [], _, h => by rw [VL] at h; subst h; rfl
  | _ :: cs, _, ⟨_, _, e, _, h⟩ => by subst e; simp [VL.length h]
theorem VL.drop : ∀ {cs : List AV} {vs : List Value} (n : Nat), VL γ F w cs vs → VL γ F w (cs.drop n) (vs.drop n)
  | cs, vs, 0, h => by simpa using h
  | [], _, n + 1, h => by rw [VL] at h; subst h; simp [VL]
  | _ :: cs, _, n + 1, ⟨_, _, e, _, h⟩ => by subst e; simpa using VL.drop n h
theorem VL.take : ∀ {cs : List AV} {vs : List Value} (n : Nat), VL γ F w cs vs → VL γ F w (cs.take n) (vs.take n)
  | cs, vs, 0, h => by simp [VL]
  | [], _, n + 1, h => by rw [VL] at h; subst h; simp [VL]
  | _ :: cs, _, n + 1, ⟨v, vs', e, h1, h⟩ => by subst e; exact ⟨v, vs'.take n, by simp, h1, VL.take n h⟩
theorem VL.append : ∀ {cs ds : List AV} {vs us : List Value}, VL γ F w cs vs → VL γ F w ds us → VL γ F w (cs ++ ds) (vs ++ us)
  | [], _, _, _, h, k => by rw [VL] at h; subst h; simpa using k
  | _ :: cs, _, _, us, ⟨v, vs', e, h1, h⟩, k => by subst e; exact ⟨v, vs' ++ us, by simp, h1, VL.append h k⟩
theorem VL.get : ∀ {cs : List AV} {vs : List Value} (i : Nat) {c : AV}, VL γ F w cs vs → cs[i]? = some c → ∃ v, vs[i]? = some v ∧ VRel γ F w c v
  | [], _, i, c, _, h => by simp at h
  | c :: cs, _, 0, _, ⟨v, vs', e, h1, _⟩, h => by simp at h; subst h; subst e; exact ⟨v, by simp, h1⟩
  | _ :: cs, _, i + 1, _, ⟨_, vs', e, _, h2⟩, h => by subst e; simpa using VL.get i h2 (by simpa using h)
theorem VL.plain : ∀ (vs : List Value), VL γ F w (vs.map .v) vs
  | [] => rfl
  | v :: vs => ⟨v, vs, rfl, rfl, VL.plain vs⟩

/-- What cells read. -/
def Rd (w : World) (b o : Nat) (vs : List Value) : Prop := ∀ j v, vs[j]? = some v → w.cell? ⟨b, o + j, none⟩ = some v
theorem Rd.drop {b o : Nat} {vs : List Value} (h : Rd w b o vs) (n : Nat) : Rd w b (o + n) (vs.drop n) := fun j v hj => by
  rw [List.getElem?_drop] at hj
  rw [Nat.add_assoc]; exact h _ _ hj
theorem Rd.take {b o : Nat} {vs : List Value} (h : Rd w b o vs) (n : Nat) : Rd w b o (vs.take n) := fun j v hj => by
  rw [List.getElem?_take] at hj
  split at hj
  · exact h _ _ hj
  · cases hj
theorem Rd.of_cells {b : Nat} {arr : Array Value} {t : TypeId} {fz : Nat × Nat} (h : w.heap[b]? = some (.cells arr t fz)) : Rd w b 0 arr.toList := fun j v hj => by
  rw [Nat.zero_add, cell_of_row w b j arr t fz h]; simpa using hj
theorem VC.read : ∀ {cs : List AV} {b o : Nat}, VC F w b o cs → ∃ vs, Rd w b o vs ∧ VL noName F w cs vs ∧ ∀ v ∈ vs, v.oneCell' = true
  | [], _, _, _ => ⟨[], fun j v h => by simp at h, rfl, by simp⟩
  | c :: cs, b, o, ⟨⟨v, hv, h0, h1⟩, h2⟩ => by
    obtain ⟨vs, hr, hl, ho⟩ := VC.read h2
    refine ⟨v :: vs, fun j u hj => ?_, ⟨v, vs, rfl, h1, hl⟩, fun u hu => ?_⟩
    · cases j with
      | zero => simp at hj; subst hj; simpa using hv
      | succ j => rw [show o + (j + 1) = o + 1 + j by omega]; exact hr j u (by simpa using hj)
    · rcases List.mem_cons.1 hu with rfl | hu
      · exact h0
      · exact ho u hu
theorem VR.read : ∀ {rows : List (List AV)} {es b o : Nat}, VR F w es b o rows → ∃ vs, Rd w b o vs ∧ VL noName F w rows.flatten vs ∧ (∀ v ∈ vs, v.oneCell' = true) ∧ vs.length = rows.length * es
  | [], _, _, _, _ => ⟨[], fun j v h => by simp at h, rfl, by simp, by simp⟩
  | r :: rs, es, b, o, ⟨hl, h1, h2⟩ => by
    obtain ⟨vs, a1, a2, a3⟩ := h1.read
    obtain ⟨us, b1, b2, b3, b4⟩ := VR.read h2
    have hvl : vs.length = es := by rw [a2.length, hl]
    refine ⟨vs ++ us, fun j v hj => ?_, ?_, fun v hv => ?_, ?_⟩
    · by_cases hjl : j < vs.length
      · rw [List.getElem?_append_left hjl] at hj; exact a1 j v hj
      · rw [List.getElem?_append_right (by omega)] at hj
        have := b1 _ v hj
        rwa [show o + es + (j - vs.length) = o + j by omega] at this
    · rw [List.flatten_cons]; exact a2.append b2
    · rcases List.mem_append.1 hv with hv | hv
      · exact a3 v hv
      · exact b3 v hv
    · rw [List.length_append, hvl, b4, List.length_cons, Nat.succ_mul]; omega
theorem VR.lens : ∀ {rows : List (List AV)} {es b o : Nat}, VR F w es b o rows → ∀ r ∈ rows, r.length = es
  | [], _, _, _, _, r, h => by cases h
  | r :: rs, _, _, _, ⟨hl, _, h2⟩, r', h => by
    rcases List.mem_cons.1 h with rfl | h
    · exact hl
    · exact VR.lens h2 r' h
theorem VC.of_rd : ∀ {cs : List AV} {vs : List Value} {b o : Nat}, Rd w b o vs → VL noName F w cs vs → (∀ v ∈ vs, v.oneCell' = true) → VC F w b o cs
  | [], _, _, _, _, _, _ => trivial
  | c :: cs, _, b, o, hr, ⟨v, vs', e, h1, h2⟩, ho => by
    subst e
    refine ⟨⟨v, by simpa using hr 0 v (by simp), ho v (by simp), h1⟩, VC.of_rd (fun j u hj => ?_) h2 (fun u hu => ho u (List.mem_cons_of_mem _ hu))⟩
    rw [show o + 1 + j = o + (j + 1) by omega]
    exact hr (j + 1) u (by simpa using hj)
theorem VR.of_rd {es : Nat} : ∀ {rows : List (List AV)} {vs : List Value} {b o : Nat}, Rd w b o vs → VL noName F w rows.flatten vs → (∀ v ∈ vs, v.oneCell' = true) → (∀ r ∈ rows, r.length = es) → VR F w es b o rows
  | [], _, _, _, _, _, _, _ => trivial
  | r :: rs, vs, b, o, hr, hv, ho, hl => by
    have hle := hl r (by simp)
    rw [List.flatten_cons] at hv
    refine ⟨hle, VC.of_rd (hr.take r.length) ?_ (fun v h => ho v (List.mem_of_mem_take h)), VR.of_rd (es := es) (vs := vs.drop r.length) ?_ ?_ (fun v h => ho v (List.mem_of_mem_drop h)) (fun r' h => hl r' (List.mem_cons_of_mem _ h))⟩
    · simpa using hv.take r.length
    · rw [← hle]; exact hr.drop r.length
    · simpa using hv.drop r.length
theorem VC.drop : ∀ {cs : List AV} {b o : Nat} (n : Nat), VC F w b o cs → VC F w b (o + n) (cs.drop n)
  | cs, b, o, 0, h => by simpa using h
  | [], _, _, n + 1, _ => by simp [VC]
  | _ :: cs, b, o, n + 1, ⟨_, h⟩ => by rw [show o + (n + 1) = o + 1 + n by omega]; simpa using VC.drop n h

theorem add_addr (b o n : Nat) : (⟨b, o, none⟩ : Addr).add n = ⟨b, o + n, none⟩ := by unfold Addr.add; split <;> simp_all
theorem run_loadVar' {t : Nat} {d : TypeDesc} {k : TK} {i : TypeInfo} {b o : Nat} {vs : List Value} {cs : List AV} {r : AV} (hu : P.underlying t = some d) (hk : TKok P d k) (hi : P.info? t = some i) (hl : vs.length = i.size)
    (hr : Rd w b o vs) (hv : VL γ F w cs vs) (ho : one k.isAgg cs = some r) : ∃ v, (loadVar t ⟨b, o, none⟩).run P w = .ok v w ∧ VRel γ F w r v := by
  have ha := run_isAgg' (P := P) hu hk w
  unfold one at ho
  cases hg : k.isAgg with
  | true =>
    rw [hg] at ho ha
    simp only [cond_true, Option.some.injEq] at ho
    subst ho
    refine ⟨.agg vs.toArray, ?_, vs.toArray, rfl, by simpa using hv⟩
    have hlc := run_loadCells_list (P := P) w ⟨b, o, none⟩ vs (fun j v h => by rw [add_addr]; exact hr j v h)
    rw [hl] at hlc
    simp [loadVar, ha, run_sizeOf' hi, hlc]
  | false =>
    rw [hg] at ho ha
    simp only [cond_false] at ho
    match cs, ho, hv with
    | [c], ho, ⟨v, vs', e, h1, h2⟩ =>
      simp only [Option.some.injEq] at ho
      rw [VL] at h2
      subst h2; subst e; subst ho
      have h0 := hr 0 v (by simp)
      rw [Nat.add_zero] at h0
      exact ⟨v, by simp [loadVar, ha, h0], h1⟩
end
end Go.Proofs.YtkbidoikndgheaaDoor.HL

namespace Go.Proofs.YtkbidoikndgheaaDoor.HL
open Go.RowKit
section
variable {P : Program} {T : Nat → TI} {γ : Nat → Option Value} {F : Nat → Prop} {w : World} {L : Nat → Option Blk} {e : Nat → AV} {ρ : Operand → Value}

theorem ofV_ok (x : Value) : VRel γ F w (ofV x) x := by
  cases x <;> first | rfl | skip
  case agg a => exact ⟨a, rfl, VL.plain _⟩
theorem eqL_plain : ∀ {zs cs ds : List AV} {xs ys : List Value} {b : Bool}, eqL zs cs ds = some b → VL γ F w cs xs → VL γ F w ds ys → cs = xs.map .v ∧ ds = ys.map .v := by
  intro zs cs ds
  induction zs generalizing cs ds with
  | nil =>
    intro xs ys b h h1 h2
    cases cs with
    | nil =>
      cases ds with
      | nil => rw [VL] at h1 h2; subst h1; subst h2; exact ⟨rfl, rfl⟩
      | cons _ _ => simp [eqL] at h
    | cons _ _ => simp [eqL] at h
  | cons z zs ih =>
    intro xs ys b h h1 h2
    unfold eqL at h
    split at h
    · contradiction
    · rename_i k _ zs' k1 a cs' k2 b' ds' e0
      simp only [List.cons.injEq] at e0
      obtain ⟨_, rfl⟩ := e0
      split at h
      · split at h
        · simp only [Option.map_eq_some_iff] at h
          obtain ⟨b2, hb, _⟩ := h
          obtain ⟨v1, vs1, rfl, hv1, hr1⟩ := h1
          obtain ⟨v2, vs2, rfl, hv2, hr2⟩ := h2
          rw [VRel] at hv1 hv2
          obtain ⟨e1, e2⟩ := ih hb hr1 hr2
          subst hv1; subst hv2
          simp [e1, e2]
        · cases h
      · cases h
    · rename_i zs' a cs' b' ds' e0
      simp only [List.cons.injEq] at e0
      obtain ⟨_, rfl⟩ := e0
      simp only [Option.map_eq_some_iff] at h
      obtain ⟨b2, hb, _⟩ := h
      obtain ⟨v1, vs1, rfl, hv1, hr1⟩ := h1
      obtain ⟨v2, vs2, rfl, hv2, hr2⟩ := h2
      rw [VRel] at hv1 hv2
      obtain ⟨e1, e2⟩ := ih hb hr1 hr2
      subst hv1; subst hv2
      simp [e1, e2]
    · cases h
theorem run_eqNil {t el : TypeId} (hu : P.underlying t = some (.slice el)) (op : BinOp) (x y : Operand) (A : Option Addr) (n c : Nat) {r : AV} (h : eNilB A.isNone op = some r) :
    ∃ v, (do eqGuard op t x y (.slice A n c) (.slice none 0 0); binOp op t (.slice A n c) (.slice none 0 0)).run P w = .ok v w ∧ VRel γ F w r v := by
  have hg : (eqGuard op t x y (.slice A n c) (.slice none 0 0)).run P w = .ok () w := by unfold eqGuard; split <;> rfl
  have he : (Op.equal t (.slice A n c) (.slice none 0 0)).run P w = .ok A.isNone w := by
    show (Op.equalIn (9999 + 1) t (.slice A n c) (.slice none 0 0)).run P w = _
    unfold Op.equalIn
    rw [Sem.run_bind, run_underlying hu]
    cases A <;> rfl
  rw [Sem.run_bind, hg, Result.andThen_ok]
  cases op <;> simp only [eNilB, Option.some.injEq, reduceCtorEq] at h
  · subst h; exact ⟨.bool A.isNone, by simp [binOp, he], rfl⟩
  · subst h; exact ⟨.bool (!A.isNone), by simp [binOp, he], rfl⟩
theorem bin_ok (hT : TOk P T) (op : BinOp) (t : TypeId) (x y : Operand) {r : AV} (hx : VRel γ F w (eo e x) (ρ x)) (hy : VRel γ F w (eo e y) (ρ y)) (h : eBin T t op (eo e x) (eo e y) = some r) :
    ∃ v, (do eqGuard op t x y (ρ x) (ρ y); binOp op t (ρ x) (ρ y)).run P w = .ok v w ∧ VRel γ F w r v := by
  generalize eo e x = a at *
  generalize eo e y = b at *
  unfold eBin at h
  split at h
  · rename_i cs ds
    obtain ⟨xs, ex, hxs⟩ := hx
    obtain ⟨ys, ey, hys⟩ := hy
    rw [ex, ey]
    have main : ∀ b, (T t).eq = true → eqL (T t).zero cs ds = some b → P.eqGuardType P.depth t = false ∧ (Op.equalIn 10000 t (.agg xs) (.agg ys)).run P w = .ok b w := by
      intro b he hb
      obtain ⟨e1, e2⟩ := eqL_plain hb hxs hys
      rw [e1, e2] at hb
      obtain ⟨h1, h2⟩ := hT.eq t he
      exact ⟨h1, by simpa using h2 w _ _ b hb⟩
    cases op <;> simp only [eEq, reduceCtorEq] at h
    all_goals
      split at h
      · rename_i he
        simp only [Option.map_eq_some_iff] at h
        obtain ⟨b, hb, rfl⟩ := h
        obtain ⟨h1, h2⟩ := main b he hb
        first
          | exact ⟨_, by rw [Sem.run_bind, run_eqGuard_agg _ _ _ _ _ _ _ h1, Result.andThen_ok, run_eql_struct, h2]; rfl, rfl⟩
          | exact ⟨_, by rw [Sem.run_bind, run_eqGuard_agg _ _ _ _ _ _ _ h1, Result.andThen_ok, run_neq_struct, h2]; rfl, rfl⟩
      · cases h
  · rename_i es xx r0 rows
    rw [VRel] at hy
    rw [hy]
    split at h
    · rename_i hk
      obtain ⟨d, hu, el, rfl⟩ : ∃ d, P.underlying t = some d ∧ ∃ el, d = .slice el := by
        unfold isSlice at hk
        split at hk
        · rename_i hk2; obtain ⟨d, h1, h2⟩ := hT.und hk2 (by simp); exact ⟨d, h1, _, h2⟩
        · cases hk
      obtain ⟨A, cap, hA, _, _, _, _, hr⟩ := hx
      rcases hr with hr | ⟨b, o, rfl, _⟩
      · cases hr
      · rw [hA]; exact run_eqNil hu op x y _ _ _ h
    · cases h
  · rename_i a n c
    rw [VRel] at hx hy
    rw [hx, hy]
    split at h
    · rename_i hk
      obtain ⟨d, hu, el, rfl⟩ : ∃ d, P.underlying t = some d ∧ ∃ el, d = .slice el := by
        unfold isSlice at hk
        split at hk
        · rename_i hk2; obtain ⟨d, h1, h2⟩ := hT.und hk2 (by simp); exact ⟨d, h1, _, h2⟩
        · cases hk
      exact run_eqNil hu op x y _ _ _ h
    · cases h
  · rename_i a b
    rw [VRel] at hx hy
    rw [hx, hy]
    split at h
    · rename_i hk
      have hu : P.underlying t = some .bool := by
        unfold isBool at hk
        split at hk
        · rename_i hk2; obtain ⟨d, h1, h2⟩ := hT.und hk2 (by simp); rw [h1]; exact congrArg some h2
        · cases hk
      have hg : (eqGuard op t x y (.bool a) (.bool b)).run P w = .ok () w := by unfold eqGuard; split <;> rfl
      have he : (Op.equal t (.bool a) (.bool b)).run P w = .ok (a == b) w := by
        show (Op.equalIn (9999 + 1) t (.bool a) (.bool b)).run P w = _
        unfold Op.equalIn
        rw [Sem.run_bind, run_underlying hu]
        rfl
      rw [Sem.run_bind, hg, Result.andThen_ok]
      cases op <;> simp only [eNilB, Option.some.injEq, reduceCtorEq] at h
      · subst h; exact ⟨.bool (a == b), by simp [binOp, he], rfl⟩
      · subst h; exact ⟨.bool (!(a == b)), by simp [binOp, he], rfl⟩
    · cases h
  · rename_i k i k' j
    rw [VRel] at hx hy
    rw [hx, hy]
    split at h
    · rename_i hk
      subst hk
      have hg : (eqGuard op t x y (.int k i) (.int k j)).run P w = .ok () w := by unfold eqGuard; split <;> rfl
      rw [Sem.run_bind, hg]
      cases op <;> simp only [eInt, Option.some.injEq, reduceCtorEq] at h
      case quo =>
        split at h
        · cases h
        · rename_i hj; injection h with h; subst h; exact ⟨_, by simp [binOp, Op.intDiv, hj], rfl⟩
      case rem =>
        split at h
        · cases h
        · rename_i hj; injection h with h; subst h; exact ⟨_, by simp [binOp, Op.intDiv, hj], rfl⟩
      all_goals (subst h; exact ⟨_, by simp [binOp, Op.intArith, Op.intCmp], rfl⟩)
    · cases h
  · rename_i s u
    rw [VRel] at hx hy
    rw [hx, hy]
    have hg : (eqGuard op t x y (.string s) (.string u)).run P w = .ok () w := by unfold eqGuard; split <;> rfl
    rw [Sem.run_bind, hg]
    cases op <;> simp only [eStr, Option.some.injEq, reduceCtorEq] at h
    case add =>
      split at h
      · rename_i hj
        injection h with h
        subst h
        have hm : IntKind.i64.max = 9223372036854775807 := rfl
        have : ¬ (((s.size + u.size : Nat) : Int) > IntKind.i64.max) := by rw [hm]; omega
        refine ⟨_, ?_, rfl⟩
        simp only [binOp, Op.stringOp, Result.andThen_ok, if_neg this]
        rfl
      · cases h
    all_goals (subst h; exact ⟨_, by simp [binOp, Op.stringOp], rfl⟩)
  · cases h

theorem VL.map_eo : ∀ (xs : List Operand), (∀ x, VRel γ F w (eo e x) (ρ x)) → VL γ F w (xs.map (eo e)) (xs.map ρ)
  | [], _ => rfl
  | x :: xs, h => ⟨_, _, rfl, h x, VL.map_eo xs h⟩
theorem pick_ok {c a b : AV} {vc va vb : Value} {r : AV} (hc : VRel γ F w c vc) (ha : VRel γ F w a va) (hb : VRel γ F w b vb) (h : ePick c a b = some r) :
    ∃ v, (do pure (if ← asBool vc then va else vb) : Sem Value).run P w = .ok v w ∧ VRel γ F w r v := by
  unfold ePick at h
  split at h
  · rename_i t
    injection h with h
    subst h
    rw [VRel] at hc
    subst hc
    cases t
    · exact ⟨vb, by simp [asBool], hb⟩
    · exact ⟨va, by simp [asBool], ha⟩
  · cases h
theorem VL.split : ∀ {rows : List (List AV)} {vs : List Value} {es : Nat} (i : Nat), VL γ F w rows.flatten vs → (∀ r ∈ rows, r.length = es) → i < rows.length → VL γ F w (rows.getD i []) ((vs.drop (i * es)).take es)
  | [], _, _, i, _, _, hi => by simp at hi
  | r :: rs, vs, es, 0, hv, hl, _ => by
    have := hl r (by simp)
    rw [List.flatten_cons] at hv
    have h2 := hv.take es
    rw [← this, List.take_left] at h2
    simpa [this] using h2
  | r :: rs, vs, es, i + 1, hv, hl, hi => by
    have hr := hl r (by simp)
    rw [List.flatten_cons] at hv
    have h2 := hv.drop es
    rw [← hr, List.drop_left] at h2
    have := VL.split (es := es) i h2 (fun r' h => hl r' (List.mem_cons_of_mem _ h)) (by simpa using hi)
    rw [List.drop_drop, hr] at this
    rw [show (i + 1) * es = es + i * es by rw [Nat.succ_mul]; omega]
    simpa using this
theorem own_row {m t' es : Nat} {rows : List (List AV)} {b l c j : Nat} (hb : BRel γ F w m (.own t' es rows)) (hg : γ m = some (.slice (some ⟨b, 0, none⟩) l c)) (hj : j < rows.length) :
    ∃ vs, Rd w b (j * es) vs ∧ VL noName F w (rows.getD j []) vs := by
  obtain ⟨sv, xs, hg', ho, hv, hl, _⟩ := hb
  rw [hg] at hg'
  injection hg' with hg'
  subst hg'
  rcases ho with ho | ⟨hn, _⟩
  · rcases ho.2 with ⟨h, _⟩ | ⟨g, cap, cur, h, _, hgg, _, _, _, htk⟩
    · cases h
    · simp only [Value.slice.injEq, Option.some.injEq, Addr.mk.injEq] at h
      obtain ⟨⟨rfl, _⟩, _⟩ := h
      have hr := (((Rd.of_cells hgg).take (rows.length * es)).drop (j * es)).take es
      rw [Nat.zero_add, htk] at hr
      exact ⟨_, hr, VL.split j hv hl hj⟩
  · rw [hn] at hj; cases hj
theorem load_ok (hT : TOk P T) (hL : ∀ n b, L n = some b → BRel γ F w n b) {t : Nat} {a : AV} {va : Value} {r : AV} (ha : VRel γ F w a va) (h : eLoad L (T t).k.isAgg (T t).size a = some r) :
    ∃ v, (Instr.loadAt t va).run P w = .ok v w ∧ VRel γ F w r v := by
  have hs0 : (T t).size ≠ 0 := by
    intro h0
    have hk := hT.dflt t h0
    rw [h0, hk] at h
    cases a with
    | pt m k => cases hb : boxOf (L m) <;> simp [eLoad, hb, cut, one, TK.isAgg] at h
    | rp cs => simp [eLoad, cut, one, TK.isAgg] at h
    | po m es i k =>
      cases hb : ownOf (L m) with
      | none => simp [eLoad, hb, cutR] at h
      | some q =>
        simp only [eLoad, hb, cutR] at h
        split at h
        · simp [cut, one, TK.isAgg] at h
        · cases h
    | _ => cases h
  obtain ⟨d, hu, hk⟩ := hT.kind t hs0
  obtain ⟨i, hi, his⟩ := hT.sz (t := t) (.inr hs0)
  unfold eLoad at h
  split at h
  · rename_i n k
    obtain ⟨b, hg, rfl⟩ := ha
    cases hn : L n with
    | none => simp [hn, boxOf] at h
    | some bl =>
      cases bl with
      | own t es rows => simp [hn, boxOf] at h
      | mp es => simp [hn, boxOf] at h
      | box u cs =>
        simp only [hn, boxOf, Option.bind_some, cut] at h
        split at h
        · rename_i hle
          obtain ⟨b', arr, hg', hh, hv, _⟩ := hL n _ hn
          rw [hg] at hg'
          obtain rfl : b = b' := by simpa using hg'
          have hr := ((Rd.of_cells hh).drop k).take (T t).size
          rw [Nat.zero_add] at hr
          have hl : ((arr.toList.drop k).take (T t).size).length = i.size := by
            rw [List.length_take, List.length_drop, hv.length, his]; omega
          obtain ⟨v, h1, h2⟩ := run_loadVar' hu hk hi hl hr ((hv.drop k).take _) h
          exact ⟨v, by simp [Instr.loadAt, Instr.sureAddr, h1], h2⟩
        · cases h
  · rename_i cs
    obtain ⟨b, o, rfl, hb, hc⟩ := ha
    simp only [cut] at h
    split at h
    · rename_i hle
      obtain ⟨vs, hr, hv, _⟩ := hc.read
      have hl : (vs.take (T t).size).length = i.size := by rw [List.length_take, hv.length, his]; omega
      obtain ⟨v, h1, h2⟩ := run_loadVar' hu hk hi hl (hr.take _) (by simpa using hv.take (T t).size) (by simpa using h)
      exact ⟨v, by simp [Instr.loadAt, Instr.sureAddr, h1], h2.any⟩
    · cases h
  · rename_i m es j k
    obtain ⟨b, l, c, hg, rfl⟩ := ha
    cases hn : L m with
    | none => simp [hn, ownOf, cutR] at h
    | some bl =>
      cases bl with
      | box u cs => simp [hn, ownOf, cutR] at h
      | mp es => simp [hn, ownOf, cutR] at h
      | own t' es' rows =>
        simp only [hn, ownOf, cutR] at h
        split at h
        · rename_i hb
          obtain ⟨rfl, h0, hlt⟩ := hb
          simp only [cut] at h
          split at h
          · rename_i hle
            have hlt' : j.toNat < rows.length := by omega
            obtain ⟨vs, hr, hv⟩ := own_row (hL m _ hn) hg hlt'
            have hrl : vs.length = (row rows j).length := hv.length
            have hl : ((vs.drop k).take (T t).size).length = i.size := by
              rw [List.length_take, List.length_drop, hrl, his]; omega
            obtain ⟨v, h1, h2⟩ := run_loadVar' hu hk hi hl ((hr.drop k).take _) ((hv.drop k).take _) h
            exact ⟨v, by simp [Instr.loadAt, Instr.sureAddr, h1], h2.any⟩
          · cases h
        · cases h
  · cases h
theorem un_ok {op : UnOp} {a : AV} {va : Value} {r : AV} (ha : VRel γ F w a va) (h : eUn op a = some r) : ∃ v, (Op.unary op va).run P w = .ok v w ∧ VRel γ F w r v := by
  unfold eUn at h
  split at h
  · injection h with h; subst h; rw [VRel] at ha; subst ha; exact ⟨_, by simp [Op.unary], rfl⟩
  · injection h with h; subst h; rw [VRel] at ha; subst ha; exact ⟨_, by simp [Op.unary, Op.intArith], rfl⟩
  · cases h
theorem fieldAddr_ok (hT : TOk P T) {t f : Nat} {a : AV} {va : Value} {r : AV} (ha : VRel γ F w a va) (h : eField (T t).k f a = some r) : ∃ v, (Instr.fieldAt t va f).run P w = .ok v w ∧ VRel γ F w r v := by
  unfold eField at h
  have key : ∀ fs : List (Nat × TypeId), (T t).k = .struct fs → ∀ p, fs[f]? = some p → ∀ b o, va = .pointer (some ⟨b, o, none⟩) → (Instr.fieldAt t va f).run P w = .ok (.pointer (some ⟨b, o + p.1, none⟩)) w := by
    intro fs hk p hp b o hva
    obtain ⟨d, hu, flds, rfl, hm, hz⟩ := hT.und hk (by simp)
    have hf : f < flds.size := by
      have h1 : f < fs.length := (List.getElem?_eq_some_iff.1 hp).1
      rw [← hm] at h1; simpa using h1
    have hp' : (flds[f].offset, flds[f].type) = p := by
      rw [← hm] at hp
      simpa [hf] using hp
    obtain ⟨i, hi, hi0⟩ := hz flds[f] (by simp)
    subst hp'
    have hs : (sizeOf flds[f].type).run P w = .ok i.size w := run_sizeOf' hi w
    simp [Instr.fieldAt, run_underlying hu, hf, hva, Instr.sureAddr, fieldPlace, hs, hi0, add_addr]
  cases hk : (T t).k with
  | struct fs =>
    rw [hk] at h
    cases a with
    | pt n k =>
      cases hp : fs[f]? with
      | none => simp [hp] at h
      | some p =>
        simp only [hp, Option.map_some, Option.some.injEq] at h
        subst h
        obtain ⟨b, hg, hva⟩ := ha
        exact ⟨_, key fs hk p hp b k hva, b, hg, rfl⟩
    | rp cs =>
      cases hp : fs[f]? with
      | none => simp [hp] at h
      | some p =>
        simp only [hp, Option.map_some, Option.some.injEq] at h
        subst h
        obtain ⟨b, o, hva, hb, hc⟩ := ha
        exact ⟨_, key fs hk p hp b o hva, b, o + p.1, rfl, hb, hc.drop _⟩
    | po n es j k =>
      cases hp : fs[f]? with
      | none => simp [hp] at h
      | some p =>
        simp only [hp, Option.map_some, Option.some.injEq] at h
        subst h
        obtain ⟨b, l, c, hg, hva⟩ := ha
        exact ⟨_, key fs hk p hp b _ hva, b, l, c, hg, by rw [Nat.add_assoc]⟩
    | _ => cases h
  | _ => rw [hk] at h; cases h
theorem one_part (hT : TOk P T) {t : Nat} {cs : List AV} {vs : Array Value} {o : Nat} {r : AV} (hv : VL γ F w cs vs.toList) (h : cut (T t).k.isAgg o (T t).size cs = some r) :
    ∃ v, (part t vs o).run P w = .ok v w ∧ VRel γ F w r v := by
  unfold cut at h
  split at h
  · rename_i hle
    have hs0 : (T t).size ≠ 0 := by
      intro h0
      rw [h0, hT.dflt t h0] at h
      simp [one, TK.isAgg] at h
    obtain ⟨d, hu, hk⟩ := hT.kind t hs0
    obtain ⟨i, hi, his⟩ := hT.sz (t := t) (.inr hs0)
    have ha := run_isAgg' (P := P) hu hk w
    have hvs := (hv.drop o).take (T t).size
    unfold one at h
    cases hg : (T t).k.isAgg with
    | true =>
      rw [hg] at h ha
      simp only [cond_true, Option.some.injEq] at h
      subst h
      refine ⟨.agg (vs.extract o (o + (T t).size)), ?_, _, rfl, ?_⟩
      · simp [part, ha, run_sizeOf' hi, his]
      · rw [Array.toList_extract, List.extract_eq_take_drop]
        rw [Nat.add_sub_cancel_left]
        exact hvs
    | false =>
      rw [hg] at h ha
      simp only [cond_false] at h
      generalize hds : (cs.drop o).take (T t).size = ds at h hvs
      match ds, h, hvs with
      | [c], h, ⟨v, vs', e1, h1, h2⟩ =>
        simp only [Option.some.injEq] at h
        rw [VL] at h2
        subst h2; subst h
        have : vs[o]? = some v := by
          have h3 : ((vs.toList.drop o).take (T t).size)[0]? = some v := by rw [e1]; rfl
          rw [List.getElem?_take] at h3
          split at h3
          · simpa using h3
          · cases h3
        exact ⟨v, by simp [part, ha, this], h1⟩
  · cases h
theorem field_ok (hT : TOk P T) {t f : Nat} {a : AV} {va : Value} {r : AV} (ha : VRel γ F w a va) (h : eFieldV (T t).k T f a = some r) : ∃ v, (Instr.field t va f).run P w = .ok v w ∧ VRel γ F w r v := by
  unfold eFieldV at h
  cases hk : (T t).k with
  | struct fs =>
    rw [hk] at h
    cases a with
    | agg cs =>
      cases hp : fs[f]? with
      | none => simp [hp] at h
      | some p =>
        simp only [hp, Option.bind_some] at h
        obtain ⟨vs, rfl, hv⟩ := ha
        obtain ⟨d, hu, flds, rfl, hm, hz⟩ := hT.und hk (by simp)
        have hf : f < flds.size := by
          have h1 : f < fs.length := (List.getElem?_eq_some_iff.1 hp).1
          rw [← hm] at h1; simpa using h1
        have hp' : (flds[f].offset, flds[f].type) = p := by
          rw [← hm] at hp
          simpa [hf] using hp
        subst hp'
        obtain ⟨v, h1, h2⟩ := one_part hT hv h
        exact ⟨v, by simp [Instr.field, run_underlying hu, hf, asAgg, h1], h2⟩
    | _ => cases h
  | _ => rw [hk] at h; cases h
theorem VR.row : ∀ {rows : List (List AV)} {es b o : Nat} (i : Nat), VR F w es b o rows → i < rows.length → VC F w b (o + i * es) (rows.getD i [])
  | r :: rs, es, b, o, 0, ⟨_, h, _⟩, _ => by simpa using h
  | r :: rs, es, b, o, i + 1, ⟨_, _, h⟩, hi => by
    have := VR.row i h (by simpa using hi)
    rw [show o + (i + 1) * es = o + es + i * es by rw [Nat.succ_mul]; omega]
    simpa using this

theorem indexAddr_ok (hT : TOk P T) (hL : ∀ n b, L n = some b → BRel γ F w n b) {t : Nat} {a i : AV} {va vi : Value} {r : AV} (ha : VRel γ F w a va) (hi : VRel γ F w i vi) (h : eIdxA T L (T t).k a i = some r) :
    ∃ v, (Instr.indexAt t va vi).run P w = .ok v w ∧ VRel γ F w r v := by
  have keyA : ∀ l e, (T t).k = .array l e → ∀ k n, (T e).size ≠ 0 ∧ 0 ≤ n ∧ n < (l : Int) → vi = .int k n → ∀ b o, va = .pointer (some ⟨b, o, none⟩) → (Instr.indexAt t va vi).run P w = .ok (.pointer (some ⟨b, o + n.toNat * (T e).size, none⟩)) w := by
    intro l e hk k n hb hvi b o hva
    obtain ⟨d, hu, rfl⟩ := hT.und hk (by simp)
    obtain ⟨ti, hti, hsz⟩ := hT.sz (t := e) (.inr hb.1)
    have hse : (sizeOf e).run P w = .ok (T e).size w := by rw [run_sizeOf' hti w, hsz]
    subst hvi hva
    simp [Instr.indexAt, run_underlying hu, asIntOf, Instr.sureAddr, hb.2, hse, add_addr]
  cases hk : (T t).k with
  | array l e =>
    rw [hk] at h
    cases a with
    | pt m k =>
      cases i with
      | v iv =>
        cases iv with
        | int ik n =>
          simp only [eIdxA] at h
          cases hb : boxOf (L m) with
          | none => simp [hb] at h
          | some cs =>
            simp only [hb, Option.bind_some] at h
            split at h
            · rename_i hc
              injection h with h
              subst h
              obtain ⟨b, hg, hva⟩ := ha
              rw [VRel] at hi
              exact ⟨_, keyA l e hk ik n hc hi b k hva, b, hg, rfl⟩
            · cases h
        | _ => cases h
      | _ => cases h
    | rp cs =>
      cases i with
      | v iv =>
        cases iv with
        | int ik n =>
          simp only [eIdxA] at h
          split at h
          · rename_i hc
            injection h with h
            subst h
            obtain ⟨b, o, hva, hb, hv⟩ := ha
            rw [VRel] at hi
            exact ⟨_, keyA l e hk ik n hc hi b o hva, b, o + n.toNat * (T e).size, rfl, hb, hv.drop _⟩
          · cases h
        | _ => cases h
      | _ => cases h
    | _ => cases i <;> cases h
  | slice e =>
    rw [hk] at h
    cases a with
    | sl es x rows =>
      cases i with
      | v iv =>
        cases iv with
        | int k n =>
          simp only [eIdxA] at h
          split at h
          · cases h
          split at h
          · rename_i h0 hes
            split at h
            · rename_i hb
              injection h with h
              subst h
              obtain ⟨d, hu, rfl⟩ := hT.und hk (by simp)
              obtain ⟨ti, hti, hsz⟩ := hT.sz (t := e) (.inr (by omega))
              obtain ⟨A, cap, rfl, _, _, _, _, hr⟩ := ha
              rw [VRel] at hi
              subst hi
              rcases hr with rfl | ⟨b, o, rfl, hF, hr⟩
              · simp at hb; omega
              · have hlt : n.toNat < rows.length := by omega
                refine ⟨.pointer (some ⟨b, o + n.toNat * es, none⟩), ?_, b, _, rfl, hF, hr.row _ hlt⟩
                have hse : (sizeOf e).run P w = .ok es w := by rw [run_sizeOf' hti w, hsz, hes]
                simp [Instr.indexAt, run_underlying hu, asIntOf, hb, hse, add_addr]
            · cases h
          · cases h
        | _ => cases h
      | _ => cases h
    | ow m =>
      cases i with
      | v iv =>
        cases iv with
        | int k n =>
          simp only [eIdxA] at h
          cases hn : L m with
          | none => simp [hn, ownOf, idxO] at h
          | some bl =>
            cases bl with
            | box u cs => simp [hn, ownOf, idxO] at h
            | mp es => simp [hn, ownOf, idxO] at h
            | own t' es rows =>
              simp only [hn, ownOf, idxO] at h
              split at h
              · cases h
              split at h
              · rename_i h0 hes
                split at h
                · rename_i hb
                  injection h with h
                  subst h
                  obtain ⟨d, hu, rfl⟩ := hT.und hk (by simp)
                  obtain ⟨ti, hti, hsz⟩ := hT.sz (t := e) (.inr (by omega))
                  obtain ⟨hg, _⟩ := ha
                  obtain ⟨sv, xs, hg', ho, _⟩ := hL m _ hn
                  rw [hg] at hg'
                  injection hg' with hg'
                  subst hg'
                  rw [VRel] at hi
                  subst hi
                  rcases ho with ho | ⟨h0, _⟩
                  · rcases ho.2 with ⟨_, h0⟩ | ⟨g, cap, cur, rfl, _⟩
                    · rw [h0] at hb; simp at hb; omega
                    · refine ⟨.pointer (some ⟨g, 0 + n.toNat * es, none⟩), ?_, g, _, _, hg, by simp⟩
                      have hse : (sizeOf e).run P w = .ok es w := by rw [run_sizeOf' hti w, hsz, hes]
                      simp [Instr.indexAt, run_underlying hu, asIntOf, hb, hse, add_addr]
                  · rw [h0] at hb; simp at hb; omega
                · cases h
              · cases h
        | _ => cases h
      | _ => cases h
    | _ => cases h
  | _ => rw [hk] at h; cases h
theorem index_ok (hT : TOk P T) {t : Nat} {a i : AV} {va vi : Value} {r : AV} (ha : VRel γ F w a va) (hi : VRel γ F w i vi) (h : eIdx (T t).k a i = some r) :
    ∃ v, (Instr.index t va vi).run P w = .ok v w ∧ VRel γ F w r v := by
  cases hk : (T t).k with
  | str =>
    rw [hk] at h
    cases a with
    | v av =>
      cases av with
      | string s =>
        cases i with
        | v iv =>
          cases iv with
          | int k n =>
            simp only [eIdx] at h
            split at h
            · rename_i hb
              injection h with h
              subst h
              obtain ⟨d, hu, rfl⟩ := hT.und hk (by simp)
              rw [VRel] at ha hi
              subst ha
              subst hi
              have hlt : n.toNat < s.size := by omega
              refine ⟨_, ?_, rfl⟩
              simp [Instr.index, run_underlying hu, asIntOf, hb.1, hlt, byteAt]
            · cases h
          | _ => cases h
        | _ => cases h
      | _ => cases h
    | _ => cases h
  | _ => rw [hk] at h; cases h
theorem extract_ok {a : AV} {va : Value} {i : Nat} {r : AV} (ha : VRel γ F w a va) (h : eExt a i = some r) : ∃ v, (Instr.extract va i).run P w = .ok v w ∧ VRel γ F w r v := by
  cases a with
  | tup cs =>
    obtain ⟨vs, rfl, hv⟩ := ha
    obtain ⟨v, h1, h2⟩ := hv.get i h
    refine ⟨v, ?_, h2⟩
    have : vs[i]? = some v := by simpa using h1
    simp [Instr.extract, this]
  | _ => cases h
theorem nil_ok {a : AV} {va : Value} {r : AV} (ha : VRel γ F w a va) (h : eNil a = some r) (o : Oper) (x : Operand) (ρ : Operand → Value) (ho : o.op = .nilCheck x) (hx : ρ x = va) :
    ∃ v, (execOp ρ o).run P w = .ok (.value v) w ∧ VRel γ F w r v := by
  unfold execOp
  rw [ho]
  simp only [hx]
  cases a with
  | pt n o =>
    simp only [eNil, Option.some.injEq] at h
    subst h
    obtain ⟨b, hg, rfl⟩ := ha
    exact ⟨_, rfl, b, hg, rfl⟩
  | rp cs =>
    simp only [eNil, Option.some.injEq] at h
    subst h
    obtain ⟨b, o, rfl, hr⟩ := ha
    exact ⟨_, rfl, b, o, rfl, hr⟩
  | fn f cs =>
    simp only [eNil, Option.some.injEq] at h
    subst h
    obtain ⟨vs, rfl, hr⟩ := ha
    exact ⟨_, rfl, vs, rfl, hr⟩
  | po n es i k =>
    simp only [eNil, Option.some.injEq] at h
    subst h
    obtain ⟨b, l, c, hg, rfl⟩ := ha
    exact ⟨_, rfl, b, l, c, hg, rfl⟩
  | _ => cases h
theorem ownsRow_slice {t es n : Nat} {v : Value} {xs : List Value} (h : w.ownsRow 0 t es v n xs) : ∃ A cap, v = .slice A n cap := by
  rcases h.2 with ⟨rfl, rfl⟩ | ⟨g, cap, cur, rfl, _⟩
  · exact ⟨_, _, rfl⟩
  · exact ⟨_, _, rfl⟩
theorem len_ok (hT : TOk P T) (hL : ∀ n b, L n = some b → BRel γ F w n b) {t : Nat} {ty : TypeId} {a : AV} {va : Value} {r : AV} (ha : VRel γ F w a va) (h : eLen L (T t).k a = some r) :
    ∃ v, (Builtin.len_ #[t] ty #[va]).run P w = .ok v w ∧ VRel γ F w r v := by
  cases hk : (T t).k with
  | str =>
    obtain ⟨d, hu, rfl⟩ := hT.und hk (by simp)
    rw [hk] at h
    cases a with
    | v av =>
      cases av with
      | string s =>
        simp only [eLen, Option.some.injEq] at h
        subst h
        rw [VRel] at ha
        subst ha
        exact ⟨_, by simp [Builtin.len_, run_underlying hu, goInt], rfl⟩
      | _ => cases h
    | _ => cases h
  | slice e =>
    obtain ⟨d, hu, rfl⟩ := hT.und hk (by simp)
    rw [hk] at h
    have key : ∀ A n cap, va = .slice A n cap → (Builtin.len_ #[t] ty #[va]).run P w = .ok (.int .i64 (n : Int)) w := by
      intro A n cap e
      subst e
      simp [Builtin.len_, run_underlying hu, goInt]
    cases a with
    | v av =>
      cases av with
      | slice A n c =>
        cases A with
        | some _ => cases h
        | none =>
          cases n with
          | succ _ => cases h
          | zero =>
            cases c with
            | succ _ => cases h
            | zero =>
              simp only [eLen, Option.some.injEq] at h
              subst h
              rw [VRel] at ha
              subst ha
              exact ⟨_, key _ _ _ rfl, rfl⟩
      | _ => cases h
    | sl es x rows =>
      simp only [eLen, Option.some.injEq] at h
      subst h
      obtain ⟨A, cap, rfl, _⟩ := ha
      exact ⟨_, key _ _ _ rfl, rfl⟩
    | ow n =>
      cases hn : L n with
      | none => simp [eLen, hn, rowsOf] at h
      | some bl =>
        cases bl with
        | box t cs => simp [eLen, hn, rowsOf] at h
        | mp es => simp [eLen, hn, rowsOf] at h
        | own t es rows =>
          simp only [eLen, hn, rowsOf, Option.map_some, Option.some.injEq] at h
          subst h
          obtain ⟨sv, xs, hg, ho, _⟩ := hL n _ hn
          obtain ⟨hg', _⟩ := ha
          rw [hg] at hg'
          injection hg' with hg'
          subst hg'
          rcases ho with ho | ⟨h0, _, A, ho⟩
          · obtain ⟨A, cap, e⟩ := ownsRow_slice ho
            exact ⟨_, key _ _ _ e, rfl⟩
          · exact ⟨_, key _ _ _ ho, by rw [h0]; rfl⟩
    | os n es i j =>
      simp only [eLen, Option.map_eq_some_iff] at h
      obtain ⟨_, _, rfl⟩ := h
      obtain ⟨b, l, c, o, _, hij, _, _, rfl⟩ := ha
      refine ⟨_, key _ _ _ rfl, ?_⟩
      rw [VRel, Int.ofNat_sub hij]
    | _ => cases h
  | _ => rw [hk] at h; cases h
theorem VR.drop : ∀ {rows : List (List AV)} {es b o : Nat} (n : Nat), VR F w es b o rows → VR F w es b (o + n * es) (rows.drop n)
  | rows, es, b, o, 0, h => by simpa using h
  | [], _, _, _, n + 1, _ => by simp [VR]
  | _ :: rs, es, b, o, n + 1, ⟨_, _, h⟩ => by
    have := VR.drop n h
    rw [show o + (n + 1) * es = o + es + n * es by rw [Nat.succ_mul]; omega]
    simpa using this
theorem VR.take : ∀ {rows : List (List AV)} {es b o : Nat} (n : Nat), VR F w es b o rows → VR F w es b o (rows.take n)
  | rows, es, b, o, 0, h => by simp [VR]
  | [], _, _, _, n + 1, _ => by simp [VR]
  | _ :: rs, es, b, o, n + 1, ⟨h1, h2, h⟩ => ⟨h1, h2, VR.take n h⟩
theorem bnd_ok {d : Int} {x : Option Operand} {l : Int} (hx : ∀ y, VRel γ F w (eo e y) (ρ y)) (h : bnd d (x.map (eo e)) = some l) : (x = none ∧ l = d) ∨ ∃ y k, x = some y ∧ ρ y = .int k l := by
  cases x with
  | none => simp only [Option.map_none, bnd, Option.some.injEq] at h; exact .inl ⟨rfl, h.symm⟩
  | some y =>
    have hy := hx y
    simp only [Option.map_some] at h
    generalize eo e y = a at h hy
    cases a with
    | v av =>
      cases av with
      | int k n =>
        simp only [bnd, Option.some.injEq] at h
        subst h
        exact .inr ⟨y, k, rfl, hy⟩
      | _ => cases h
    | _ => cases h
theorem bounds_ok {isS : Bool} {len cap : Nat} {lo hi : Option Operand} {l h : Int} (hx : ∀ y, VRel γ F w (eo e y) (ρ y)) (hl : bnd 0 (lo.map (eo e)) = some l) (hh : bnd len (hi.map (eo e)) = some h)
    (h0 : 0 ≤ l) (h1 : l ≤ h) (h2 : h ≤ len) (h3 : len ≤ cap) : (Instr.sliceBounds isS len cap (lo.map ρ) (hi.map ρ) none).run P w = .ok (l.toNat, h.toNat, cap) w := by
  have e1 : ∀ (k : IntKind) (n : Int) (y : Nat) (code : BoundsCode), 0 ≤ n → n ≤ y → (Instr.sliceBound (.int k n) y code).run P w = .ok n.toNat w := by
    intro k n y code hn hy
    simp [Instr.sliceBound, asIntOf, hn, hy]
  rcases bnd_ok hx hl with ⟨rfl, rfl⟩ | ⟨y, k, rfl, hy⟩ <;> rcases bnd_ok hx hh with ⟨rfl, rfl⟩ | ⟨y', k', rfl, hy'⟩
  · simp [Instr.sliceBounds]
  · simp [Instr.sliceBounds, hy', e1 k' h cap _ (by omega) (by omega)]
  · simp [Instr.sliceBounds, hy, e1 k l len _ (by omega) (by omega)]
  · simp [Instr.sliceBounds, hy, hy', e1 k' h cap _ (by omega) (by omega), e1 k l h.toNat _ (by omega) (by omega)]
theorem bounds_ok' {isS : Bool} {len cap : Nat} {d : Int} {lo hi : Option Operand} {l h : Int} (hd : d = len) (hx : ∀ y, VRel γ F w (eo e y) (ρ y)) (hl : bnd 0 (lo.map (eo e)) = some l) (hh : bnd d (hi.map (eo e)) = some h)
    (h0 : 0 ≤ l) (h1 : l ≤ h) (h2 : h ≤ cap) : (Instr.sliceBounds isS len cap (lo.map ρ) (hi.map ρ) none).run P w = .ok (l.toNat, h.toNat, cap) w := by
  subst hd
  have e1 : ∀ (k : IntKind) (n : Int) (y : Nat) (code : BoundsCode), 0 ≤ n → n ≤ y → (Instr.sliceBound (.int k n) y code).run P w = .ok n.toNat w := by
    intro k n y code hn hy
    simp [Instr.sliceBound, asIntOf, hn, hy]
  rcases bnd_ok hx hl with ⟨rfl, rfl⟩ | ⟨y, k, rfl, hy⟩ <;> rcases bnd_ok hx hh with ⟨rfl, rfl⟩ | ⟨y', k', rfl, hy'⟩
  · simp [Instr.sliceBounds]
  · simp [Instr.sliceBounds, hy', e1 k' h cap _ (by omega) (by omega)]
  · simp [Instr.sliceBounds, hy, e1 k l len _ (by omega) (by omega)]
  · simp [Instr.sliceBounds, hy, hy', e1 k' h cap _ (by omega) (by omega), e1 k l h.toNat _ (by omega) (by omega)]
theorem own_some {n t es : Nat} {rows : List (List AV)} (hb : BRel γ F w n (.own t es rows)) (h0 : 0 < rows.length) :
    ∃ b cap, γ n = some (.slice (some ⟨b, 0, none⟩) rows.length cap) ∧ rows.length ≤ cap := by
  obtain ⟨sv, xs, hg, ho, _⟩ := hb
  rcases ho with ho | ⟨hn, _⟩
  · rcases ho.2 with ⟨_, h⟩ | ⟨g, cap, cur, rfl, _, _, hle, _⟩
    · omega
    · exact ⟨g, cap, hg, hle⟩
  · omega
theorem cutO_ok {n a b l c o len es sz el : Nat} {d : Int} {lo hi : Option Operand} {r : AV} {t' : Nat} {rows : List (List AV)} {t : Nat} (hu : P.underlying t = some (.slice el)) (hse : sz ≠ 0 → (sizeOf el).run P w = .ok sz w) (hx : ∀ y, VRel γ F w (eo e y) (ρ y))
    (hg : γ n = some (.slice (some ⟨b, 0, none⟩) l c)) (hlc : rows.length ≤ c) (ha : a ≤ c) (hd : d = len) (ho : a < c → o = a * sz) (h : eCutO n a sz (hi.map (eo e)) d (bnd 0 (lo.map (eo e))) (some (t', es, rows)) = some r) :
    ∃ v, (Instr.sliceAt t (.slice (some ⟨b, o, none⟩) len (c - a)) (lo.map ρ) (hi.map ρ) none).run P w = .ok v w ∧ VRel γ F w r v := by
  simp only [eCutO] at h
  cases hl : bnd 0 (lo.map (eo e)) with
  | none => rw [hl] at h; cases h
  | some ll =>
    cases hh : bnd d (hi.map (eo e)) with
    | none => rw [hl, hh] at h; cases h
    | some u =>
      simp only [hl, hh] at h
      split at h
      · rename_i hb
        obtain ⟨h0, rfl, h1, h2, h3, h4⟩ := hb
        injection h with h
        subst h
        have hs := bounds_ok' (P := P) (isS := true) (w := w) (len := len) (cap := c - a) hd hx hl hh h1 h2 (by omega)
        refine ⟨_, by simp only [Instr.sliceAt, Instr.slice, run_underlying hu, Sem.run_bind, Result.andThen_ok, hs, hse h0]; rfl, b, l, c, if c - a = ll.toNat then o else o + ll.toNat * sz, hg, by omega, by omega, ?_, ?_⟩
        · intro hlt
          rw [if_neg (by omega), ho (by omega), Nat.add_mul]
        · simp only [Value.slice.injEq]
          refine ⟨?_, by omega, by omega⟩
          split
          · rfl
          · simp [add_addr]
      · cases h
theorem slice3_ok (hT : TOk P T) {t : Nat} {a : AV} {va : Value} {lo hi : Option Operand} {mx : Operand} {r : AV} (ha : VRel γ F w a va) (hx : ∀ y, VRel γ F w (eo e y) (ρ y)) (hL : ∀ n b, L n = some b → BRel γ F w n b)
    (h : eSlice3 T L (T t).k a (lo.map (eo e)) (hi.map (eo e)) (some (eo e mx)) = some r) : ∃ v, (Instr.sliceAt t va (lo.map ρ) (hi.map ρ) (some (ρ mx))).run P w = .ok v w ∧ VRel γ F w r v := by
  cases hk : (T t).k with
  | slice el =>
    rw [hk] at h
    cases a with
    | ow n =>
      simp only [eSlice3, Option.bind_some] at h
      split at h
      · rename_i t' es rows l u m hn hl hu hm
        split at h
        · rename_i hb
          obtain ⟨h0, hs, h1, h2, h3, h4⟩ := hb
          injection h with h
          subst h
          obtain ⟨d, hud, rfl⟩ := hT.und hk (by simp)
          obtain ⟨ti, hti, hsz⟩ := hT.sz (t := el) (.inr (by omega))
          have hse : (sizeOf el).run P w = .ok es w := by rw [run_sizeOf' hti w, hsz, hs]
          obtain ⟨hg', _⟩ := ha
          have hnn : L n = some (.own t' es rows) := by
            unfold ownOf at hn
            split at hn
            · rename_i hL'; simp only [Option.some.injEq, Prod.mk.injEq] at hn; obtain ⟨rfl, rfl, rfl⟩ := hn; exact hL'
            · cases hn
          obtain ⟨sv, xs, hg, ho, _⟩ := hL n _ hnn
          rw [hg] at hg'
          injection hg' with hg'
          subst hg'
          have hcap : ∃ A cap, sv = .slice A rows.length cap ∧ rows.length ≤ cap := by
            rcases ho with ho | ⟨hn0, _, A, rfl⟩
            · rcases ho.2 with ⟨rfl, h0⟩ | ⟨g, cap, cur, rfl, _, _, hle, _⟩
              · exact ⟨none, 0, by rw [h0], by omega⟩
              · exact ⟨_, cap, rfl, hle⟩
            · exact ⟨A, 0, by rw [hn0], by omega⟩
          obtain ⟨A, cap, rfl, hle⟩ := hcap
          have e1 : ∀ (k : IntKind) (n : Int) (y : Nat) (code : BoundsCode), 0 ≤ n → n ≤ y → (Instr.sliceBound (.int k n) y code).run P w = .ok n.toNat w := by
            intro k n y code hn hy
            simp [Instr.sliceBound, asIntOf, hn, hy]
          have hmr : ∃ k, ρ mx = .int k m := by
            rcases bnd_ok (x := some mx) (d := 0) hx (by simpa using hm) with ⟨h, _⟩ | ⟨y, k, h, hy⟩
            · cases h
            · cases h; exact ⟨k, hy⟩
          obtain ⟨km, hmr⟩ := hmr
          have hhr : ∃ y k, hi = some y ∧ ρ y = .int k u := by
            cases hi with
            | none => simp at hu
            | some y =>
              simp only [Option.map_some, Option.bind_some] at hu
              rcases bnd_ok (x := some y) (d := 0) hx (by simpa using hu) with ⟨h, _⟩ | ⟨y', k, h, hy⟩
              · cases h
              · cases h; exact ⟨_, k, rfl, hy⟩
          obtain ⟨yh, kh, rfl, hhr⟩ := hhr
          have hb : (Instr.sliceBounds true rows.length cap (lo.map ρ) (some (ρ yh)) (some (ρ mx))).run P w = .ok (l.toNat, u.toNat, m.toNat) w := by
            rcases bnd_ok hx hl with ⟨rfl, rfl⟩ | ⟨y, k, rfl, hy⟩
            · simp [Instr.sliceBounds, hmr, hhr, e1 km m cap _ (by omega) (by omega), e1 kh u m.toNat _ (by omega) (by omega)]
            · simp [Instr.sliceBounds, hmr, hhr, hy, e1 km m cap _ (by omega) (by omega), e1 kh u m.toNat _ (by omega) (by omega), e1 k l u.toNat _ (by omega) (by omega)]
          exact ⟨_, by simp only [Instr.sliceAt, Instr.slice, run_underlying hud, Sem.run_bind, Result.andThen_ok, Option.map_some, hb, hse]; rfl, trivial⟩
        · cases h
      · cases h
    | _ => cases h
  | _ => rw [hk] at h; cases h
theorem slice_ok (hT : TOk P T) {t : Nat} {a : AV} {va : Value} {lo hi : Option Operand} {r : AV} (ha : VRel γ F w a va) (hx : ∀ y, VRel γ F w (eo e y) (ρ y)) (hL : ∀ n b, L n = some b → BRel γ F w n b) (h : eSlice T L (T t).k a (lo.map (eo e)) (hi.map (eo e)) = some r) :
    ∃ v, (Instr.sliceAt t va (lo.map ρ) (hi.map ρ) none).run P w = .ok v w ∧ VRel γ F w r v := by
  cases hk : (T t).k with
  | str =>
    obtain ⟨d, hu, rfl⟩ := hT.und hk (by simp)
    rw [hk] at h
    cases a with
    | v av =>
      cases av with
      | string s =>
        simp only [eSlice] at h
        rw [VRel] at ha
        subst ha
        cases hl : bnd 0 (lo.map (eo e)) with
        | none => simp [hl, eCutS] at h
        | some l =>
          cases hh : bnd s.size (hi.map (eo e)) with
          | none => simp [hl, hh, eCutS] at h
          | some u =>
            simp only [hl, hh, eCutS] at h
            split at h
            · rename_i hb
              injection h with h
              subst h
              have hs := bounds_ok (P := P) (isS := false) (w := w) hx hl hh hb.1 hb.2.1 hb.2.2 (Nat.le_refl s.size)
              exact ⟨_, by simp [Instr.sliceAt, Instr.slice, run_underlying hu, hs], rfl⟩
            · cases h
      | _ => cases h
    | _ => cases h
  | slice el =>
    obtain ⟨d, hu, rfl⟩ := hT.und hk (by simp)
    rw [hk] at h
    cases a with
    | sl es x rows =>
      simp only [eSlice] at h
      split at h
      · cases h
      split at h
      · rename_i h0 hes
        obtain ⟨ti, hti, hsz⟩ := hT.sz (t := el) (.inr (by omega))
        have hse : (sizeOf el).run P w = .ok es w := by rw [run_sizeOf' hti w, hsz, hes]
        obtain ⟨A, cap, rfl, hcl, hcm, _, hnn, hr⟩ := ha
        cases hl : bnd 0 (lo.map (eo e)) with
        | none => simp [hl, eCutR] at h
        | some l =>
          cases hh : bnd rows.length (hi.map (eo e)) with
          | none => simp [hl, hh, eCutR] at h
          | some u =>
            simp only [hl, hh, eCutR] at h
            split at h
            · rename_i hb
              injection h with h
              subst h
              have hs := bounds_ok (P := P) (isS := true) (w := w) hx hl hh hb.1 hb.2.1 hb.2.2 hcl
              have hlen : ((rows.drop l.toNat).take (u.toNat - l.toNat)).length = u.toNat - l.toNat := by
                rw [List.length_take, List.length_drop]; omega
              refine ⟨_, by simp only [Instr.sliceAt, Instr.slice, run_underlying hu, Sem.run_bind, Result.andThen_ok, hs, hse]; rfl, ?_⟩
              refine ⟨_, cap - l.toNat, by rw [hlen], by rw [hlen]; omega, by omega, by simp, ?_, ?_⟩
              · intro hA
                by_cases hc : cap = l.toNat
                · omega
                · rw [if_neg hc] at hA
                  have := hnn (by simpa using hA)
                  omega
              by_cases hz : u.toNat - l.toNat = 0
              · exact .inl (List.eq_nil_of_length_eq_zero (by rw [hlen]; exact hz))
              · rcases hr with rfl | ⟨b, o, rfl, hF, hr⟩
                · simp at hb; omega
                · refine .inr ⟨b, o + l.toNat * es, ?_, hF, (hr.drop _).take _⟩
                  rw [if_neg (by omega)]
                  simp [add_addr]
            · cases h
      · cases h
    | ow n =>
      simp only [eSlice] at h
      cases hn : ownOf (L n) with
      | none => rw [hn] at h; cases h
      | some q =>
        obtain ⟨t', es, rows⟩ := q
        rw [hn] at h
        simp only at h
        have hnn : L n = some (.own t' es rows) := by
          unfold ownOf at hn
          split at hn
          · rename_i hL'; simp only [Option.some.injEq, Prod.mk.injEq] at hn; obtain ⟨rfl, rfl, rfl⟩ := hn; exact hL'
          · cases hn
        have h4 : 0 < rows.length := by
          simp only [eCutO] at h
          split at h
          · split at h
            · rename_i hb; exact hb.2.2.2.2.2
            · cases h
          · cases h
        obtain ⟨b, cap, hg, hle⟩ := own_some (hL n _ hnn) h4
        obtain ⟨hg', _⟩ := ha
        rw [hg] at hg'
        injection hg' with hg'
        subst hg'
        exact cutO_ok (o := 0) hu (fun h0 => by
          obtain ⟨ti, hti, hsz⟩ := hT.sz (t := el) (.inr h0)
          rw [run_sizeOf' hti w, hsz]) hx hg hle (Nat.zero_le _) rfl (fun _ => by simp) h
    | os n es0 i j =>
      simp only [eSlice] at h
      split at h
      case isFalse => cases h
      rename_i hes0
      cases hn : ownOf (L n) with
      | none => rw [hn] at h; cases h
      | some q =>
        obtain ⟨t', es, rows⟩ := q
        rw [hn] at h
        have hnn : L n = some (.own t' es rows) := by
          unfold ownOf at hn
          split at hn
          · rename_i hL'; simp only [Option.some.injEq, Prod.mk.injEq] at hn; obtain ⟨rfl, rfl, rfl⟩ := hn; exact hL'
          · cases hn
        have h4 : 0 < rows.length := by
          simp only [eCutO] at h
          split at h
          · split at h
            · rename_i hb; exact hb.2.2.2.2.2
            · cases h
          · cases h
        obtain ⟨b, cap, hg, hle⟩ := own_some (hL n _ hnn) h4
        obtain ⟨b', l', c', o, hg', hij, hjc, hoo, rfl⟩ := ha
        rw [hg] at hg'
        simp only [Option.some.injEq, Value.slice.injEq, Addr.mk.injEq] at hg'
        obtain ⟨⟨rfl, _⟩, rfl, rfl⟩ := hg'
        exact cutO_ok hu (fun h0 => by
          obtain ⟨ti, hti, hsz⟩ := hT.sz (t := el) (.inr h0)
          rw [run_sizeOf' hti w, hsz]) hx hg hle (by omega) (by omega) (hes0 ▸ hoo) h
    | _ => cases h
  | _ => rw [hk] at h; cases h
theorem conv_ok (hT : TOk P T) {u t : Nat} {a : AV} {va : Value} {r : AV} (ha : VRel γ F w a va) (hu0 : (T u).size ≠ 0) (h : eConv (T t).k a = some r) : ∃ v, (convert u t va).run P w = .ok v w ∧ VRel γ F w r v := by
  obtain ⟨d', hu', _⟩ := hT.kind u hu0
  cases hk : (T t).k with
  | int k =>
    obtain ⟨d, hu, rfl⟩ := hT.und hk (by simp)
    rw [hk] at h
    cases a with
    | v av =>
      cases av with
      | int k' n =>
        simp only [eConv, Option.some.injEq] at h
        subst h
        rw [VRel] at ha
        subst ha
        exact ⟨_, by simp [convert, run_underlying hu, run_underlying hu', Conv.intToInt], rfl⟩
      | _ => cases h
    | _ => cases h
  | str =>
    obtain ⟨d, hu, rfl⟩ := hT.und hk (by simp)
    rw [hk] at h
    cases a with
    | v av =>
      cases av with
      | string s =>
        simp only [eConv, Option.some.injEq] at h
        subst h
        rw [VRel] at ha
        subst ha
        exact ⟨_, by simp [convert, run_underlying hu, run_underlying hu'], rfl⟩
      | _ => cases h
    | _ => cases h
  | _ => rw [hk] at h; cases h
theorem isCell_one {a : AV} {v : Value} (h : isCell a = true) (ha : VRel γ F w a v) : v.oneCell' = true := by
  cases a with
  | v x =>
    rw [VRel] at ha
    subst ha
    cases v <;> first | rfl | cases h
  | sl es x rows => obtain ⟨A, cap, rfl, _⟩ := ha; rfl
  | os n es i j => obtain ⟨b, l, c, o, _, _, _, _, rfl⟩ := ha; rfl
  | rp cs => obtain ⟨b, o, rfl, _⟩ := ha; rfl
  | pt n o => obtain ⟨b, _, rfl⟩ := ha; rfl
  | ow n => obtain ⟨_, ⟨A, l, c, rfl⟩ | ⟨r, rfl⟩⟩ := ha <;> rfl
  | po n es i k => obtain ⟨b, l, c, _, rfl⟩ := ha; rfl
  | fn f cs => obtain ⟨vs, rfl, _⟩ := ha; rfl
  | _ => cases h
theorem VL.one : ∀ {cs : List AV} {vs : List Value}, cs.all isCell = true → VL γ F w cs vs → ∀ v ∈ vs, v.oneCell' = true
  | [], vs, _, h => by rw [VL] at h; subst h; simp
  | c :: cs, _, ha, ⟨v, vs', e, h1, h2⟩ => by
    simp only [List.all_cons, Bool.and_eq_true] at ha
    subst e
    intro x hx
    rcases List.mem_cons.1 hx with rfl | hx
    · exact isCell_one ha.1 h1
    · exact VL.one ha.2 h2 x hx
theorem cells_single {v : Value} (h : v.oneCell' = true) : v.cells = #[v] := by cases v <;> first | rfl | cases h
theorem cells_ok {a : AV} {v : Value} {cs : List AV} (ha : VRel γ F w a v) (h : cellsOf a = some cs) : VL γ F w cs v.cells.toList ∧ ∀ u ∈ v.cells.toList, u.oneCell' = true := by
  have key : isCell a = true → cs = [a] → VL γ F w cs v.cells.toList ∧ ∀ u ∈ v.cells.toList, u.oneCell' = true := by
    intro hc e
    have h1 := isCell_one hc ha
    rw [cells_single h1, e]
    exact ⟨⟨v, [], rfl, ha, rfl⟩, by simpa using h1⟩
  cases a with
  | agg cs' =>
    simp only [cellsOf] at h
    split at h
    · rename_i hc
      injection h with h
      subst h
      obtain ⟨vs, rfl, hv⟩ := ha
      exact ⟨hv, VL.one hc hv⟩
    · cases h
  | v x =>
    simp only [cellsOf] at h
    split at h
    · rename_i hc; injection h with h; exact key hc h.symm
    · cases h
  | sl es x rows => simp only [cellsOf, Option.some.injEq] at h; exact key rfl h.symm
  | os n es i j => simp only [cellsOf, Option.some.injEq] at h; exact key rfl h.symm
  | rp _ => simp only [cellsOf, Option.some.injEq] at h; exact key rfl h.symm
  | pt _ _ => simp only [cellsOf, Option.some.injEq] at h; exact key rfl h.symm
  | ow _ => simp only [cellsOf, Option.some.injEq] at h; exact key rfl h.symm
  | po _ _ _ _ => simp only [cellsOf, Option.some.injEq] at h; exact key rfl h.symm
  | fn _ _ => simp only [cellsOf, Option.some.injEq] at h; exact key rfl h.symm
  | _ => cases h
theorem cells_isCell {a : AV} {cs : List AV} (h : cellsOf a = some cs) : cs.all isCell = true := by
  cases a with
  | agg cs' =>
    simp only [cellsOf] at h
    split at h
    · rename_i hc; injection h with h; subst h; exact hc
    · cases h
  | v x =>
    simp only [cellsOf] at h
    split at h
    · rename_i hc; injection h with h; subst h; simp [hc]
    · cases h
  | tup _ => cases h
  | junk => cases h
  | _ => simp only [cellsOf, Option.some.injEq] at h; subst h; rfl
theorem fold_cells (off : Nat) : ∀ (l : List Value) (j : Nat) (cells : Array Value), off + j + l.length ≤ cells.size →
    ((l.zipIdx j).foldl (fun (cs : Array Value) (x : Value × Nat) => cs.setIfInBounds (off + x.2) x.1) cells).toList = cells.toList.take (off + j) ++ l ++ cells.toList.drop (off + j + l.length)
  | [], j, cells, _ => by simp
  | v :: l, j, cells, h => by
    simp only [List.length_cons] at h
    rw [List.zipIdx_cons, List.foldl_cons, fold_cells off l (j + 1) _ (by simp; omega)]
    simp only [Array.toList_setIfInBounds]
    apply List.ext_getElem?
    intro n
    simp only [List.getElem?_append, List.length_take, List.length_set, Array.length_toList, List.length_append, List.length_cons, List.getElem?_take, List.getElem?_drop, List.getElem?_set]
    have e1 : min (off + (j + 1)) cells.size = off + j + 1 := by omega
    have e2 : min (off + j) cells.size = off + j := by omega
    simp only [e1, e2]
    by_cases h1 : n < off + j
    · simp [h1, show n < off + (j + 1) by omega, show n < off + j + 1 by omega, show ¬ off + j = n by omega, show n < off + j + 1 + l.length by omega, show n < off + j + (l.length + 1) by omega]
    · by_cases h2 : n = off + j
      · subst h2
        simp [show off + j < off + (j + 1) by omega, show off + j < cells.size by omega]
        omega
      · by_cases h3 : n < off + j + 1 + l.length
        · simp [h1, show ¬ n < off + j + 1 by omega, h3, show n < off + j + (l.length + 1) by omega, show n - (off + j) = (n - (off + j + 1)) + 1 by omega]
        · simp [h3, show ¬ n < off + j + (l.length + 1) by omega, show off + (j + 1) + l.length + (n - (off + j + 1 + l.length)) = n by omega, show off + j + (l.length + 1) + (n - (off + j + (l.length + 1))) = n by omega, show ¬ off + j = n by omega]
theorem fill_ok {fs : List (Nat × TypeId)} {places : List (Nat × Nat)} (hp : ∀ (i : Nat) (p : Nat × TypeId), fs[i]? = some p → (T p.2).size ≠ 0 → places[i]? = some (p.1, (T p.2).size)) (hx : ∀ y, VRel γ F w (eo e y) (ρ y)) :
    ∀ (ps : List (Nat × Operand)) (cs : List AV) (vs : Array Value) (out : List AV), VL γ F w cs vs.toList → fillA T fs (eo e) ps cs = some out →
      ∃ us, Instr.fill (places.toArray[·]?) vs (ps.map fun p => (p.1, ρ p.2)) = some us ∧ VL γ F w out us.toList
  | [], cs, vs, out, hv, h => by
    simp only [fillA, Option.some.injEq] at h
    subst h
    exact ⟨vs, rfl, hv⟩
  | (i, x) :: ps, cs, vs, out, hv, h => by
    simp only [fillA] at h
    cases hfs : fs[i]? with
    | none => simp [hfs] at h
    | some p =>
      cases hc : cellsOf (eo e x) with
      | none => simp [hfs, hc] at h
      | some new =>
        simp only [hfs, hc, Option.bind_some] at h
        split at h
        · rename_i hb
          obtain ⟨hnew, _⟩ := cells_ok (hx x) hc
          have hpl := hp i p hfs hb.1
          have hsz : (ρ x).cells.size = (T p.2).size := by have := hnew.length; simp at this; omega
          have hvl := hv.length
          simp only [Array.length_toList] at hvl
          have hf := fold_cells p.1 (ρ x).cells.toList 0 vs (by simp; omega)
          have hv' : VL γ F w (cs.take p.1 ++ new ++ cs.drop (p.1 + new.length)) ((((ρ x).cells.toList.zipIdx 0).foldl (fun (cs : Array Value) (x : Value × Nat) => cs.setIfInBounds (p.1 + x.2) x.1) vs)).toList := by
            rw [hf]
            simp only [Nat.add_zero]
            refine ((hv.take _).append hnew).append ?_
            rw [hnew.length]
            exact hv.drop _
          obtain ⟨us, h1, h2⟩ := fill_ok hp hx ps _ _ _ hv' h
          refine ⟨us, ?_, h2⟩
          have hpl' : places.toArray[i]? = some (p.1, (T p.2).size) := by simpa using hpl
          simp only [List.map_cons, Instr.fill, hpl']
          rw [if_neg (by simp; omega)]
          rw [← h1]
          congr 1
          rw [← Array.foldl_toList, Array.toList_zipIdx]
        · cases h
theorem build_ok (hT : TOk P T) {t : Nat} {ps : List (Nat × Operand)} {r : AV} (h0 : (T t).size ≠ 0) (hx : ∀ y, VRel γ F w (eo e y) (ρ y)) (h : eBuild T (T t).zero (eo e) ps (T t).k = some r) :
    ∃ v, (Instr.build t (ps.map fun p => (p.1, ρ p.2)).toArray).run P w = .ok v w ∧ VRel γ F w r v := by
  cases hk : (T t).k with
  | struct fs =>
    obtain ⟨i, z, hi, his, _, hz, hzz, _, _⟩ := hT.info t h0
    obtain ⟨d, hu, flds, rfl, hm, hzf⟩ := hT.und hk (by simp)
    rw [hk] at h
    simp only [eBuild] at h
    cases hf : fillA T fs (eo e) ps (T t).zero with
    | none => simp [hf] at h
    | some out =>
      simp only [hf, Option.map_some, Option.some.injEq] at h
      subst h
      have hpl : ∀ (l : List Go.Field), (∀ f ∈ l, ∃ i, P.info? f.type = some i ∧ i.size ≠ 0) → ∃ places, l.mapM (fun f => (P.info? f.type).map fun i => (f.offset, i.size)) = some places ∧
          ∀ (i : Nat) (p : Nat × TypeId), (l.map (fun f => (f.offset, f.type)))[i]? = some p → (T p.2).size ≠ 0 → places[i]? = some (p.1, (T p.2).size) := by
        intro l
        induction l with
        | nil => intro _; exact ⟨[], rfl, by simp⟩
        | cons f l ih =>
          intro hl
          obtain ⟨places, h1, h2⟩ := ih (fun f hf => hl f (List.mem_cons_of_mem _ hf))
          obtain ⟨fi, hfi, _⟩ := hl f (List.mem_cons_self ..)
          refine ⟨(f.offset, fi.size) :: places, by simp [List.mapM_cons, hfi, h1], ?_⟩
          intro i p hp hs
          cases i with
          | zero =>
            simp only [List.map_cons, List.getElem?_cons_zero, Option.some.injEq] at hp
            subst hp
            obtain ⟨gi, hgi, hgs⟩ := hT.sz (t := f.type) (.inr hs)
            rw [hfi] at hgi
            injection hgi with hgi
            subst hgi
            simp [hgs]
          | succ i => simpa using h2 i p (by simpa using hp) hs
      obtain ⟨places, hp1, hp2⟩ := hpl flds.toList hzf
      rw [hm] at hp2
      obtain ⟨us, h1, h2⟩ := fill_ok hp2 hx ps _ z.cells _ (by rw [← hzz]; exact VL.plain _) hf
      refine ⟨.agg us, run_build w t _ us ?_, us, rfl, h2⟩
      simp only [Program.built, hi, hu, hz, hp1]
      exact h1
  | _ => rw [hk] at h; cases h

/-- An operation that only looks does as its answer says. -/
theorem find_ok {n : Int} : ∀ {ps : List (Int × AV)} {es : List MapEntry} (i : Nat), ML F w ps es →
    (ps.find? (fun p => p.1 == n) = none ∧ Instr.findNow (.int .i64) (.int .i64 n) es i = some none) ∨ (∃ p j v, ps.find? (fun p => p.1 == n) = some p ∧ Instr.findNow (.int .i64) (.int .i64 n) es i = some (some (j, v)) ∧ VRel noName F w p.2 v)
  | [], es, i, h => by rw [ML] at h; subst h; exact .inl ⟨rfl, rfl⟩
  | p :: ps, _, i, ⟨e, es', rfl, hk, hv, hr⟩ => by
    by_cases hn : p.1 = n
    · refine .inr ⟨p, i, e.val, by simp [hn], ?_, hv⟩
      simp [Instr.findNow, hk, Instr.sameNow, hn]
    · have h1 : List.find? (fun p => p.1 == n) (p :: ps) = List.find? (fun p => p.1 == n) ps := by rw [List.find?_cons_of_neg]; simpa using hn
      have h2 : Instr.findNow (.int .i64) (.int .i64 n) (e :: es') i = Instr.findNow (.int .i64) (.int .i64 n) es' (i + 1) := by
        have : (n == p.1) = false := by simpa using fun e => hn e.symm
        simp [Instr.findNow, hk, Instr.sameNow, this]
      rw [h1, h2]
      exact find_ok (i + 1) hr
theorem look_ok (hT : TOk P T) (hL : ∀ n b, L n = some b → BRel γ F w n b) {t : Nat} {a i : AV} {va vi : Value} {r : AV} {ok : Bool} (ha : VRel γ F w a va) (hi : VRel γ F w i vi) (h : eLook T L ok (T t).k a i = some r) :
    ∃ v, (Instr.lookup t va vi ok).run P w = .ok v w ∧ VRel γ F w r v := by
  unfold eLook at h
  split at h
  · rename_i kt et m n hk
    split at h
    · rename_i hkt
      split at h
      · cases h
      · rename_i h0
        cases hn : L m with
        | none => rw [hn] at h; unfold lkp at h; simp [mapOf] at h
        | some bl =>
          cases bl with
          | box u cs => rw [hn] at h; unfold lkp at h; simp [mapOf] at h
          | own _ _ _ => rw [hn] at h; unfold lkp at h; simp [mapOf] at h
          | mp ps =>
            rw [hn] at h
            cases hz : one (T et).k.isAgg (T et).zero with
            | none => rw [hz] at h; simp [lkp] at h
            | some z =>
              rw [hz] at h
              simp only [lkp, mapOf, Option.some.injEq] at h
              obtain ⟨d, hu, rfl⟩ := hT.und hk (by simp)
              have hkk : (T kt).k = .int .i64 := by
                unfold isI64 at hkt
                split at hkt
                · assumption
                · cases hkt
              obtain ⟨d, hu2, rfl⟩ := hT.und hkk (by simp)
              obtain ⟨ti, zv, hti, hts, _, hzv, hzz, hz1, hzs, hzo⟩ := hT.info et h0
              obtain ⟨r', ents, clock, hg, hh, hm⟩ := hL m _ hn
              obtain ⟨hg', _⟩ := ha
              rw [hg] at hg'
              injection hg' with hg'
              subst hg'
              rw [VRel] at hi
              subst hi
              have hgo : (getObj r').run P w = .ok (.map ents clock) w := MapKept.run_getObj_map hh
              have hck : ∀ b, (Instr.checkKey b 10000 kt (.int .i64 n)).run P w = .ok () w := fun b => MapKept.run_checkKey (d := .int .i64) hu2 (by simp [MapKept.IsKey]) b 9999
              have hzr : (zeroValue et).run P w = .ok zv w := by simp [zeroValue, typeInfo, hti, hzv]
              have hzrel : VRel noName F w z zv := by
                cases hg : (T et).k.isAgg with
                | true =>
                  rw [hg] at hz hzo
                  simp only [one, cond_true, Option.some.injEq] at hz
                  subst hz
                  cases zv with
                  | agg arr => exact ⟨arr, rfl, by rw [← hzz]; exact VL.plain _⟩
                  | _ => simp [zok] at hzo
                | false =>
                  rw [hg] at hz hzo
                  have h1 : zv.oneCell' = true := by cases zv <;> first | exact hzo | rfl
                  rw [← hzz, cells_single h1] at hz
                  simp only [one, cond_false, List.map_cons, List.map_nil, Option.some.injEq] at hz
                  subst hz
                  rfl
              have fin0 : Instr.findNow (.int .i64) (.int .i64 n) ents.toList 0 = some none → (Instr.lookup t (.map (some r')) (.int .i64 n) ok).run P w = .ok (if ok then .tuple #[zv, .bool false] else zv) w := by
                intro h1
                have hf := MapKept.run_findKey (P := P) (w := w) hu2 h1
                unfold Instr.lookup
                simp only [Sem.run_bind, run_underlying hu, Result.andThen_ok, hgo, hck, hf, Sem.run_pure, hzr]
              have fin1 : ∀ {j : Nat} {v : Value}, Instr.findNow (.int .i64) (.int .i64 n) ents.toList 0 = some (some (j, v)) → (Instr.lookup t (.map (some r')) (.int .i64 n) ok).run P w = .ok (if ok then .tuple #[v, .bool true] else v) w := by
                intro j v h1
                have hf := MapKept.run_findKey (P := P) (w := w) hu2 h1
                unfold Instr.lookup
                simp only [Sem.run_bind, run_underlying hu, Result.andThen_ok, hgo, hck, hf, Sem.run_pure]
              have res : ∀ {x : AV} {v : Value} {b : Bool}, VRel noName F w x v → VRel γ F w (bif ok then .tup [x, B b] else x) (if ok then .tuple #[v, .bool b] else v) := by
                intro x v b hv
                cases ok
                · exact hv.any
                · exact ⟨_, rfl, v, _, rfl, hv.any, _, _, rfl, rfl, rfl⟩
              rcases find_ok (n := n) 0 hm with ⟨h1, h2⟩ | ⟨p, j, v, h1, h2, h3⟩
              · refine ⟨_, fin0 h2, ?_⟩
                rw [← h]
                simpa only [mg, mh, h1, Option.isSome_none] using res (b := false) hzrel
              · refine ⟨_, fin1 h2, ?_⟩
                rw [← h]
                simpa only [mg, mh, h1, Option.isSome_some] using res (b := true) h3
    · cases h
  · cases h
theorem evV_ok (hT : TOk P T) (hL : ∀ n b, L n = some b → BRel γ F w n b) (hx : ∀ y, VRel γ F w (eo e y) (ρ y)) (o : Oper) {r : AV} (h : evV T L e o.op = some r) :
    ∃ v, (execOp ρ o).run P w = .ok (.value v) w ∧ VRel γ F w r v := by
  have lift : ∀ {s : Sem Value}, (∃ v, s.run P w = .ok v w ∧ VRel γ F w r v) → ∃ v, (do pure (Next.value (← s)) : Sem Next).run P w = .ok (.value v) w ∧ VRel γ F w r v := by
    rintro s ⟨v, h1, h2⟩
    exact ⟨v, by simp [h1], h2⟩
  obtain ⟨dst, op, ty, pos, after, guard⟩ := o
  cases op with
  | move x => simp only [evV, Option.some.injEq] at h; subst h; exact ⟨_, rfl, hx x⟩
  | assign x => simp only [evV, Option.some.injEq] at h; subst h; exact ⟨_, rfl, hx x⟩
  | pick c a b =>
    obtain ⟨v, h1, h2⟩ := pick_ok (P := P) (hx c) (hx a) (hx b) h
    refine ⟨v, ?_, h2⟩
    simp only [execOp, Sem.run_bind] at h1 ⊢
    cases hb : (asBool (ρ c)).run P w with
    | ok t w' => rw [hb] at h1; simp at h1 ⊢; exact h1
    | halt q w' => rw [hb] at h1; simp at h1
  | load t a => exact lift (load_ok hT hL (hx a) h)
  | binOp op t x y u => exact lift (bin_ok hT op t x y (hx x) (hx y) h)
  | unOp op t x => exact lift (un_ok (hx x) h)
  | fieldAddr t x f => exact lift (fieldAddr_ok hT (hx x) h)
  | field t x f => exact lift (field_ok hT (hx x) h)
  | indexAddr t x i => exact lift (indexAddr_ok hT hL (hx x) (hx i) h)
  | index t x i => exact lift (index_ok hT (hx x) (hx i) h)
  | lookup t x i ok => exact lift (look_ok hT hL (hx x) (hx i) h)
  | extract x i => exact lift (extract_ok (hx x) h)
  | slice t x lo hi mx =>
    cases mx with
    | none => exact lift (slice_ok hT (hx x) hx hL h)
    | some mx => exact lift (slice3_ok hT (hx x) hx hL h)
  | convert u t x =>
    simp only [evV] at h
    split at h
    · cases h
    · rename_i hu0; exact lift (conv_ok hT (hx x) hu0 h)
  | nilCheck x => exact nil_ok (hx x) h _ x ρ rfl rfl
  | makeFunc f a b =>
    obtain ⟨a⟩ := a
    obtain ⟨b⟩ := b
    cases f with
    | func f =>
      cases a with
      | nil =>
        simp only [evV, Option.some.injEq] at h
        subst h
        exact ⟨.func (.func f) #[] (b.map ρ).toArray, by simp [execOp, Instr.makeFunc], _, rfl, by simpa using VL.map_eo b hx⟩
      | cons _ _ => cases h
    | _ => cases h
  | build t ps =>
    obtain ⟨ps⟩ := ps
    simp only [evV] at h
    split at h
    · cases h
    · rename_i h0
      have := build_ok hT h0 hx h
      exact lift (by simpa using this)
  | call c =>
    obtain ⟨callee, ⟨asx⟩, ⟨ts⟩⟩ := c
    cases callee with
    | builtin b =>
      cases b with
      | len =>
        simp only [evV] at h
        unfold eLenR at h
        split at h
        · rename_i t a
          obtain ⟨v, h1, h2⟩ := len_ok (P := P) (ty := ty) hT hL (hx a) h
          exact ⟨v, by simp [execOp, resolve, invoke, builtin, h1], h2⟩
        · cases h
      | _ => cases h
    | _ => cases h
  | _ => cases h
end
end Go.Proofs.YtkbidoikndgheaaDoor.HL

namespace Go.Proofs.YtkbidoikndgheaaDoor.HL
open Go.RowKit
section
variable {X : Cx} {γ : Nat → Option Value} {F : Nat → Prop} {s : St} {w : World}

theorem ownsRow_mono {w' : World} {t es n : Nat} {sv : Value} {xs : List Value} (hb : ∀ k, blockOf sv = some k → w'.heap[k]? = w.heap[k]?) (h : Own w t es sv n xs) : Own w' t es sv n xs := by
  rcases h with ho | ho
  · rcases ho.2 with hn | ⟨g, cap, cur, rfl, hb', hgg, hle, rest⟩
    · exact .inl ⟨ho.1, .inl hn⟩
    · cases cap with
      | zero =>
        have h0 : n = 0 := by omega
        subst h0
        refine .inr ⟨rfl, List.eq_nil_of_length_eq_zero (by simpa using ho.1), _, rfl⟩
      | succ c => exact .inl ⟨ho.1, .inr ⟨g, c + 1, cur, rfl, hb', (hb g rfl).trans hgg, hle, rest⟩⟩
  · exact .inr ho
theorem BRel.mono {γ' : Nat → Option Value} {F' : Nat → Prop} {w' : World} {n : Nat} {b : Blk} (hγ : Ext γ γ') (hF : ∀ b, F b → F' b) (hw : ∀ b, F b → w'.heap[b]? = w.heap[b]?)
    (hb : ∀ k, nmb γ n = some k → w'.heap[k]? = w.heap[k]?) (h : BRel γ F w n b) : BRel γ' F' w' n b := by
  cases b with
  | box t cs =>
    obtain ⟨b, arr, hg, hh, hv, h1⟩ := h
    exact ⟨b, arr, hγ _ _ hg, (hb b (by simp [nmb, hg, blockOf])).trans hh, hv.mono hF hw _ _ (fun n _ v => hγ n v), h1⟩
  | own t es rows =>
    obtain ⟨sv, xs, hg, ho, hv, h1⟩ := h
    exact ⟨sv, xs, hγ _ _ hg, ownsRow_mono (fun k hk => hb k (by simp [nmb, hg, hk])) ho, hv.mono hF hw _ _ (fun _ _ _ h => h), h1⟩
  | mp es =>
    obtain ⟨r, ents, clock, hg, hh, hm⟩ := h
    exact ⟨r, ents, clock, hγ _ _ hg, (hb r (by simp [nmb, hg, blockOf])).trans hh, hm.mono hF hw⟩
theorem BRel.named {n : Nat} {b : Blk} (h : BRel γ F w n b) : ∃ v, γ n = some v := by
  cases b with
  | box t cs => obtain ⟨_, _, h, _⟩ := h; exact ⟨_, h⟩
  | own t es rows => obtain ⟨_, _, h, _⟩ := h; exact ⟨_, h⟩
  | mp es => obtain ⟨_, _, _, h, _⟩ := h; exact ⟨_, h⟩
/-- One block is another one, or new. -/
structure Step (X : Cx) (γ : Nat → Option Value) (F : Nat → Prop) (s : St) (w : World) (γ' : Nat → Option Value) (F' : Nat → Prop) (L' : Nat → Option Blk) (U' : Nat → Bool) (w' : World) (om : Option Nat) (d : Nat) : Prop where
  b : ∀ n b, L' n = some b → (n = d ∧ BRel γ' F' w' d b) ∨ (n ≠ d ∧ some n ≠ om ∧ s.L n = some b)
  g : ∀ n, n ≠ d → γ' n = γ n
  gd : ∀ v, γ d = some v → γ' d = some v
  dom : ∀ n v, γ' n = some v → U' n = true
  dd : ∀ k, nmb γ' d = some k → ¬ F' k ∧ k < w'.heap.size ∧ (w.heap.size ≤ k ∨ ∃ m, om = some m ∧ (s.L m).isSome ∧ nmb γ m = some k)
  hw : ∀ k, k < w.heap.size → (∀ m, om = some m → (s.L m).isSome → nmb γ m ≠ some k) → w'.heap[k]? = w.heap[k]?
  f1 : ∀ k, F k → F' k
  f2 : ∀ k, F' k → F k ∨ w.heap.size ≤ k
  f3 : ∀ k, F' k → k < w'.heap.size
  os : w'.os = w.os
  tape : w'.tape = w.tape
  output : w'.output = w.output
  size : w.heap.size ≤ w'.heap.size
  dn : ∀ v, X.N d = some v → γ' d = some v
  um : ∀ n, s.U n = true → U' n = true
theorem Step.ext {γ' : Nat → Option Value} {F' : Nat → Prop} {L' : Nat → Option Blk} {U' : Nat → Bool} {w' : World} {om : Option Nat} {d : Nat} (h : Step X γ F s w γ' F' L' U' w' om d) : Ext γ γ' := fun n v hn => by
  by_cases e : n = d
  · subst e; exact h.gd v hn
  · rw [h.g n e]; exact hn
theorem Step.frozen {γ' : Nat → Option Value} {F' : Nat → Prop} {L' : Nat → Option Blk} {U' : Nat → Bool} {w' : World} {om : Option Nat} {d : Nat} (hi : Inv X γ F s w) (h : Step X γ F s w γ' F' L' U' w' om d) : ∀ b, F b → w'.heap[b]? = w.heap[b]? :=
  fun b hb => h.hw b (hi.fr b hb) (fun m _ h2 h3 => (hi.own m b h2 h3).1 hb)
theorem Step.rel {γ' : Nat → Option Value} {F' : Nat → Prop} {L' : Nat → Option Blk} {U' : Nat → Bool} {w' : World} {om : Option Nat} {d : Nat} (hi : Inv X γ F s w) (h : Step X γ F s w γ' F' L' U' w' om d) {a : AV} {y : Value} (hy : VRel γ F w a y) : VRel γ' F' w' a y :=
  hy.mono h.f1 (h.frozen hi) _ _ (fun n _ v => h.ext n v)
theorem Inv.step {γ' : Nat → Option Value} {F' : Nat → Prop} {L' : Nat → Option Blk} {U' : Nat → Bool} {w' : World} {om : Option Nat} {d : Nat} (hi : Inv X γ F s w) (h : Step X γ F s w γ' F' L' U' w' om d) : Inv X γ' F' ⟨s.e, L', U'⟩ w' := by
  have hnb : ∀ n, n ≠ d → nmb γ' n = nmb γ n := fun n hn => by unfold nmb; rw [h.g n hn]
  have old : ∀ n, n ≠ d → (L' n).isSome → (s.L n).isSome ∧ some n ≠ om := fun n hn hs => by
    obtain ⟨b, hb⟩ := Option.isSome_iff_exists.1 hs
    rcases h.b n b hb with ⟨e, _⟩ | ⟨_, h1, h2⟩
    · exact absurd e hn
    · exact ⟨by rw [h2]; rfl, h1⟩
  have clash : ∀ n k, n ≠ d → (L' n).isSome → nmb γ' n = some k → nmb γ' d = some k → False := by
    intro n k hn hs h1 h2
    obtain ⟨h3, h4⟩ := old n hn hs
    rw [hnb n hn] at h1
    rcases (h.dd k h2).2.2 with h5 | ⟨m, h5, h6, h7⟩
    · have := (hi.own n k h3 h1).2.1; omega
    · exact h4 (by rw [h5, hi.sep n m k h3 h6 h1 h7])
  exact
    { blk := fun n b hn => by
        rcases h.b n b hn with ⟨e, hb⟩ | ⟨e, h1, h2⟩
        · rw [e]; exact hb
        · refine (hi.blk n b h2).mono h.ext h.f1 (h.frozen hi) (fun k hk => h.hw k (hi.own n k (by rw [h2]; rfl) hk).2.1 (fun m hm hs hmk => h1 ?_))
          rw [hm, hi.sep n m k (by rw [h2]; rfl) hs hk hmk]
      dom := h.dom
      sep := fun n m k hn hm hkn hkm => by
        by_cases e : n = d <;> by_cases e' : m = d
        · rw [e, e']
        · rw [e] at hkn; exact (clash m k e' hm hkm hkn).elim
        · rw [e'] at hkm; exact (clash n k e hn hkn hkm).elim
        · obtain ⟨a, _⟩ := old n e hn
          obtain ⟨a', _⟩ := old m e' hm
          exact hi.sep n m k a a' (hnb n e ▸ hkn) (hnb m e' ▸ hkm)
      own := fun n k hn hk => by
        by_cases e : n = d
        · subst e
          obtain ⟨h1, h2, h3⟩ := h.dd k hk
          refine ⟨h1, h2, ?_⟩
          rcases h3 with h3 | ⟨m, _, h5, h6⟩
          · exact .inl (Nat.le_trans hi.size h3)
          · exact (hi.own m k h5 h6).2.2
        · obtain ⟨a, _⟩ := old n e hn
          obtain ⟨x, y, z⟩ := hi.own n k a (hnb n e ▸ hk)
          exact ⟨fun hF => (h.f2 k hF).elim x (fun h => by omega), Nat.lt_of_lt_of_le y h.size, z⟩
      fr := h.f3
      fold := fun k hk => h.f1 k (hi.fold k hk)
      fnew := fun k hk => (h.f2 k hk).elim (hi.fnew k) (fun h => .inr (.inl (Nat.le_trans hi.size h)))
      os := h.os.trans hi.os
      tape := h.tape.trans hi.tape
      output := h.output.trans hi.output
      size := Nat.le_trans hi.size h.size
      keep := fun k hk ho => (h.hw k (Nat.lt_of_lt_of_le hk hi.size) (fun m _ h2 h3 => by
        rcases (hi.own m k h2 h3).2.2 with h4 | h4
        · omega
        · exact ho h4)).trans (hi.keep k hk ho)
      nm := fun n v hn hs => by
        by_cases e : n = d
        · subst e; exact h.dn v hn
        · rw [h.g n e]; exact hi.nm n v hn (old n e hs).1
      nu := fun n v hn => h.um n (hi.nu n v hn)
      nl := hi.nl }
/-- The world has grown; what is read stays. -/
theorem Inv.grow (hi : Inv X γ F s w) {F' : Nat → Prop} {w' : World} (hb : Below w.heap.size w w') (h1 : ∀ b, F b → F' b) (h2 : ∀ b, F' b → F b ∨ w.heap.size ≤ b) (h3 : ∀ b, F' b → b < w'.heap.size) : Inv X γ F' s w' where
  blk := fun n b hn => (hi.blk n b hn).mono (fun _ _ h => h) h1 (fun b hF => hb.block b (hi.fr b hF)) (fun k hk => hb.block k (hi.own n k (by simp [hn]) hk).2.1)
  dom := hi.dom
  sep := hi.sep
  own := fun n k hn hk => by
    obtain ⟨a, b, c⟩ := hi.own n k hn hk
    exact ⟨fun hF => (h2 k hF).elim a (fun h => by omega), Nat.lt_of_lt_of_le b hb.size, c⟩
  fr := h3
  fold := fun k hk => h1 k (hi.fold k hk)
  fnew := fun k hk => (h2 k hk).elim (hi.fnew k) (fun h => .inr (.inl (Nat.le_trans hi.size h)))
  os := hb.os.trans hi.os
  tape := hb.tape.trans hi.tape
  output := hb.output.trans hi.output
  size := Nat.le_trans hi.size hb.size
  keep := fun k hk ho => (hb.block k (Nat.lt_of_lt_of_le hk hi.size)).trans (hi.keep k hk ho)
  nm := hi.nm
  nu := hi.nu
  nl := hi.nl
theorem VRel.grow {F' : Nat → Prop} {w' : World} (hi : Inv X γ F s w) (hb : Below w.heap.size w w') (h1 : ∀ b, F b → F' b) {av : AV} {y : Value} (h : VRel γ F w av y) : VRel γ F' w' av y :=
  h.mono h1 (fun b hF => hb.block b (hi.fr b hF)) _ _ (fun _ _ _ h => h)
theorem ext_upd {d : Nat} {v : Value} (h : γ d = none) : Ext γ (upd γ d (some v)) := fun n u hn => by
  rw [upd_ne _ _ _ _ (fun e => by subst e; rw [h] at hn; cases hn)]; exact hn
theorem Inv.unnamed (hi : Inv X γ F s w) {d : Nat} (hU : s.U d = false) : γ d = none := by
  cases h : γ d with
  | none => rfl
  | some v => rw [hi.dom d v h] at hU; cases hU
/-- A block of a new name. -/
theorem Step.new (hi : Inv X γ F s w) {d : Nat} (hU : s.U d = false) {F' : Nat → Prop} {w' : World} {v : Value} {b : Blk} {om : Option Nat} (hom : ∀ m, om = some m → m ≠ d)
    (hb : BRel (upd γ d (some v)) F' w' d b) (hk : ∀ k, blockOf v = some k → ¬ F' k ∧ k < w'.heap.size ∧ (w.heap.size ≤ k ∨ ∃ m, om = some m ∧ (s.L m).isSome ∧ nmb γ m = some k))
    (hw : ∀ k, k < w.heap.size → (∀ m, om = some m → (s.L m).isSome → nmb γ m ≠ some k) → w'.heap[k]? = w.heap[k]?)
    (f1 : ∀ k, F k → F' k) (f2 : ∀ k, F' k → F k ∨ w.heap.size ≤ k) (f3 : ∀ k, F' k → k < w'.heap.size) (os : w'.os = w.os) (tape : w'.tape = w.tape) (output : w'.output = w.output) (size : w.heap.size ≤ w'.heap.size) :
    Step X γ F s w (upd γ d (some v)) F' (apL s.L (kill om ++ [(d, some b)])) (apU s.U [d]) w' om d where
  b := fun n b' hn => by
    have hL : apL s.L (kill om ++ [(d, some b)]) n = if n = d then some b else if some n = om then none else s.L n := by
      cases om with
      | none => simp [kill, apL, upd]
      | some m =>
        simp only [kill, List.cons_append, List.nil_append, apL, upd, Option.some.injEq]
    rw [hL] at hn
    split at hn
    · rename_i e
      injection hn with hn
      subst hn
      exact .inl ⟨e, hb⟩
    · rename_i e
      split at hn
      · cases hn
      · rename_i e'; exact .inr ⟨e, e', hn⟩
  g := fun n hn => upd_ne _ _ _ _ hn
  gd := fun v h => by rw [hi.unnamed hU] at h; cases h
  dom := fun n v hn => by
    show upd s.U d true n = true
    by_cases e : n = d
    · subst e; exact upd_same _ _ _
    · rw [upd_ne _ _ _ _ e] at hn ⊢; exact hi.dom n v hn
  dd := fun k hk' => by
    unfold nmb at hk'
    rw [upd_same] at hk'
    exact hk k hk'
  hw := hw
  f1 := f1
  f2 := f2
  f3 := f3
  os := os
  tape := tape
  output := output
  size := size
  dn := fun v hn => by rw [hi.nu d v hn] at hU; cases hU
  um := fun n hn => by
    by_cases e : n = d
    · subst e; exact upd_same _ _ _
    · show upd s.U d true n = true; rw [upd_ne _ _ _ _ e]; exact hn
/-- The block of a name is another one. -/
theorem Step.write (hi : Inv X γ F s w) {m : Nat} {b : Blk} {w' : World} (hm : (s.L m).isSome) (hb : BRel γ F w' m b) (hw : ∀ k, nmb γ m ≠ some k → w'.heap[k]? = w.heap[k]?) (hsz : w'.heap.size = w.heap.size)
    (os : w'.os = w.os) (tape : w'.tape = w.tape) (output : w'.output = w.output) : Step X γ F s w γ F (apL s.L [(m, some b)]) s.U w' (some m) m where
  b := fun n b' hn => by
    simp only [apL, upd] at hn
    split at hn
    · rename_i e
      injection hn with hn
      subst hn
      exact .inl ⟨e, hb⟩
    · rename_i e; exact .inr ⟨e, fun h => e (Option.some.inj h), hn⟩
  g := fun n _ => rfl
  gd := fun v h => h
  dom := hi.dom
  dd := fun k hk => by
    obtain ⟨h1, h2, _⟩ := hi.own m k hm hk
    exact ⟨h1, by omega, .inr ⟨m, rfl, hm, hk⟩⟩
  hw := fun k _ h => hw k (h m rfl hm)
  f1 := fun _ h => h
  f2 := fun _ h => .inl h
  f3 := fun k h => by have := hi.fr k h; omega
  os := os
  tape := tape
  output := output
  size := by omega
  dn := fun v hn => hi.nm m v hn hm
  um := fun _ h => h
theorem Step.fwd {γ' : Nat → Option Value} {F' : Nat → Prop} {L' : Nat → Option Blk} {U' : Nat → Bool} {w' : World} {om : Option Nat} {d : Nat} (hi : Inv X γ F s w) (h : Step X γ F s w γ' F' L' U' w' om d) : Fwd γ F w γ' F' w' := ⟨h.ext, h.f1, h.frozen hi⟩
theorem Fwd.grow {F' : Nat → Prop} {w' : World} (hi : Inv X γ F s w) (hb : Below w.heap.size w w') (h1 : ∀ b, F b → F' b) : Fwd γ F w γ F' w' := ⟨fun _ _ h => h, h1, fun b hF => hb.block b (hi.fr b hF)⟩
end
end Go.Proofs.YtkbidoikndgheaaDoor.HL

namespace Go.Proofs.YtkbidoikndgheaaDoor.HL
open Go.RowKit
section
variable {P : Program} {w : World}
theorem run_firstCells_zero (size : Nat) (A : Option Addr) (l c : Nat) (w : World) : (Builtin.firstCells size 0 (.slice A l c)).run P w = .ok #[] w := by
  cases A with
  | none => rfl
  | some a => simp [Builtin.firstCells, loadCells, loadCellsFrom]
set_option maxHeartbeats 1000000 in
theorem run_append_any {t u ty e : TypeId} {d : TypeDesc} {i : TypeInfo} {z : Value} {size : Nat} (ht : P.underlying t = some (.slice e)) (hu : P.underlying u = some d) (hd : d = .string ∨ ∃ e2, d = .slice e2) (hi : P.info? e = some i) (hz : i.zero = some z)
    (hsize : i.size = size) (hzs : z.cells.size = size) {v x : Value} {n m : Nat} {xs news : List Value} (hown : Own w e size v n xs)
    (hlen : ∀ w', (Builtin.lenOf x).run P w' = .ok m w') (hsrc : ∀ w', w'.heap = w.heap → (Builtin.firstCells size m x).run P w' = .ok news.toArray w') (hl : news.length = m * size) (h1 : ∀ u ∈ news, u.oneCell' = true)
    (h63 : n + m ≤ maxLen) (hbytes : (n + m) * i.bytes ≤ 140737488355328) :
    ∃ v' w', (Builtin.append_ #[t, u] ty #[v, x]).run P w = .ok v' w' ∧ Own w' e size v' (n + m) (xs ++ news) ∧ w.grownBy w' (blockOf v) ∧ (∀ k, blockOf v' = some k → k < w'.heap.size ∧ (blockOf v = some k ∨ w.heap.size ≤ k)) := by
  subst hsize
  have h63' : n + m ≤ 9223372036854775807 := by unfold maxLen at h63; omega
  -- growth
  have grow : ∀ (A : Option Addr) (cap : Nat), v = .slice A n cap → cap < n + m → (∀ w', w'.heap = w.heap → (Builtin.firstCells i.size n v).run P w' = .ok xs.toArray w') → xs.length = n * i.size →
      ∃ v' w', (Builtin.append_ #[t, u] ty #[v, x]).run P w = .ok v' w' ∧ Own w' e i.size v' (n + m) (xs ++ news) ∧ w.grownBy w' (blockOf v) ∧ (∀ k, blockOf v' = some k → k < w'.heap.size ∧ (blockOf v = some k ∨ w.heap.size ≤ k)) := by
    intro A cap hv hc hfo hxl
    have hfit := growslice_fits (bytes := i.bytes) hc hbytes
    have hn : ¬ (n + m ≤ cap) := by omega
    have h48' : ¬ (281474976710656 < Builtin.nextslicecap (n + m) cap * i.bytes) := by omega
    have h64 : ¬ (9223372036854775807 < ((n : Int) + (m : Int))) := by omega
    have e1 := hfo w.drew rfl
    have e2 := hsrc w.drew rfl
    have e3 := hlen w
    subst hv
    have hge := grownCap_ge w (n + m) cap e
    have hcm : grownCap w (n + m) cap e ≤ maxLen := grownCap_le_maxLen w (n + m) cap e h63
    refine ⟨.slice (some ⟨w.heap.size, 0, none⟩) (n + m) (grownCap w (n + m) cap e), w.drew.alloc (.cells (xs.toArray ++ news.toArray ++ Builtin.zeroCells z.cells (grownCap w (n + m) cap e - (n + m))) e), ?_, .inl ⟨?_, .inr ⟨w.heap.size, _, _, rfl, Nat.zero_le _, heap_alloc_new w.drew _, hge, hcm, ?_, ?_⟩⟩, ⟨rfl, rfl, rfl, by simp, fun k hk _ => heap_alloc_old w.drew _ hk⟩, ?_⟩
    · rcases hd with rfl | ⟨e2', rfl⟩ <;> simp [Builtin.append_, run_underlying ht, run_underlying hu, sizeOf, typeInfo, zeroValue, hi, hz, e3, hn, h64, h48', Question.forced, e1, e2, newRow, grownCap]
      all_goals (congr 2; apply Array.ext'; simp [List.append_assoc])
    · rw [List.length_append, hxl, hl, Nat.add_mul]
    · simp only [Array.size_append, List.size_toArray, size_zeroCells, hzs, hxl, hl, ← Nat.add_mul]
      congr 1
      omega
    · simp only [Array.toList_append, List.append_assoc]
      rw [← List.append_assoc]
      have : (n + m) * i.size = (xs ++ news).length := by rw [List.length_append, hxl, hl, Nat.add_mul]
      rw [this]
      exact List.take_left
    · intro k hk
      have : k = w.heap.size := by
        generalize grownCap w (n + m) cap e = c at hk
        cases c with
        | zero => simp [blockOf] at hk
        | succ c => simp [blockOf] at hk; omega
      subst this
      exact ⟨by simp, .inr (Nat.le_refl _)⟩
  -- nothing is appended to what has no room
  have none0 : ∀ (A : Option Addr), v = .slice A 0 0 → n = 0 → xs = [] → m = 0 → ∃ v' w', (Builtin.append_ #[t, u] ty #[v, x]).run P w = .ok v' w' ∧ Own w' e i.size v' (n + m) (xs ++ news) ∧ w.grownBy w' (blockOf v) ∧ (∀ k, blockOf v' = some k → k < w'.heap.size ∧ (blockOf v = some k ∨ w.heap.size ≤ k)) := by
    intro A hv hn hx hm
    subst hv; subst hn; subst hx; subst hm
    have hnn : news = [] := List.eq_nil_of_length_eq_zero (by simpa using hl)
    subst hnn
    have e2 := hsrc w rfl
    have e3 := hlen w
    refine ⟨.slice A 0 0, w, ?_, .inr ⟨rfl, rfl, A, rfl⟩, ⟨rfl, rfl, rfl, Nat.le_refl _, fun _ _ _ => rfl⟩, fun k hk => by cases A <;> simp [blockOf] at hk⟩
    cases A with
    | none => rcases hd with rfl | ⟨e2', rfl⟩ <;> simp [Builtin.append_, run_underlying ht, run_underlying hu, sizeOf, typeInfo, hi, e3, e2]
    | some a => rcases hd with rfl | ⟨e2', rfl⟩ <;> simp [Builtin.append_, run_underlying ht, run_underlying hu, sizeOf, typeInfo, hi, e3, e2, storeCells]
  rcases hown with hown | ⟨hn, hx, A, hv⟩
  · rcases hown.2 with ⟨rfl, rfl⟩ | ⟨g, cap, cur, rfl, hbg, hg, hnc, hcm, hcs, htake⟩
    · have hx : xs = [] := List.eq_nil_of_length_eq_zero (by simpa using hown.1)
      subst hx
      by_cases hm : m = 0
      · exact none0 none rfl rfl rfl hm
      · exact grow none 0 rfl (by omega) (fun w' _ => run_firstCells_zero _ _ _ _ _) (by simp)
    · by_cases hroom : n + m ≤ cap
      · by_cases hc0 : cap = 0
        · subst hc0
          have hn0 : n = 0 := by omega
          subst hn0
          exact none0 _ rfl rfl (List.eq_nil_of_length_eq_zero (by simpa using hown.1)) (by omega)
        obtain ⟨c, rfl⟩ : ∃ c, cap = c + 1 := ⟨cap - 1, by omega⟩
        have hfit : n * i.size + news.length ≤ cur.size := by rw [hl, hcs, ← Nat.add_mul]; exact Nat.mul_le_mul_right _ hroom
        have hst := run_storeCells_at P g (n * i.size) e news 0 cur w hg (by simpa using hfit) h1
        simp only [Nat.add_zero] at hst
        have e2 := hsrc w rfl
        have e3 := hlen w
        have hlen' : (xs ++ news).length = (n + m) * i.size := by rw [List.length_append, hown.1, hl, Nat.add_mul]
        refine ⟨.slice (some ⟨g, 0, none⟩) (n + m) (c + 1), w.setRow g (cur.toList.take (n * i.size) ++ news ++ cur.toList.drop (n * i.size + news.length)).toArray, ?_, .inl ⟨hlen', .inr ⟨g, c + 1, (cur.toList.take (n * i.size) ++ news ++ cur.toList.drop (n * i.size + news.length)).toArray, rfl, hbg, setRow_heap w g cur _ e _ hg, hroom, hcm, ?_, ?_⟩⟩, ⟨rfl, rfl, rfl, by simp, fun k _ hk => setRow_other w g k _ (fun e => hk (by simp [blockOf, e]))⟩, fun k hk => ⟨?_, .inl hk⟩⟩
        · rcases hd with rfl | ⟨e2', rfl⟩ <;> simp [Builtin.append_, run_underlying ht, run_underlying hu, sizeOf, typeInfo, hi, e3, hroom, e2, add_addr, hst]
        · simp only [List.size_toArray, List.length_append, List.length_take, List.length_drop, Array.length_toList]
          omega
        · rw [htake, ← hlen']
          exact List.take_left
        · simp only [blockOf, Option.some.injEq] at hk
          subst hk
          simpa using (Array.getElem?_eq_some_iff.1 hg).1
      · have holds : ∀ j u, xs[j]? = some u → w.cell? ((⟨g, 0, none⟩ : Addr).add j) = some u := hown.cells (g := g) rfl
        refine grow _ cap rfl (by omega) (fun w' hw => ?_) hown.1
        refine run_firstCells_some (P := P) w' i.size n ⟨g, 0, none⟩ n cap xs hown.1 (fun j v hj => ?_)
        have := holds j v hj
        simpa [World.cell?, hw] using this
  · subst hn; subst hx; subst hv
    by_cases hm : m = 0
    · exact none0 A rfl rfl rfl hm
    · exact grow A 0 rfl (by omega) (fun w' _ => run_firstCells_zero _ _ _ _ _) (by simp)
end
end Go.Proofs.YtkbidoikndgheaaDoor.HL

namespace Go.Proofs.YtkbidoikndgheaaDoor.HL
open Go.RowKit
section
variable {X : Cx} {γ : Nat → Option Value} {F : Nat → Prop} {s : St} {w : World} {ρ : Operand → Value} {f : Eff} {o : Oper}

/-- What is shown of an operation with an effect. -/
def Does (X : Cx) (γ : Nat → Option Value) (F : Nat → Prop) (s : St) (w : World) (f : Eff) (ρ : Operand → Value) (o : Oper) : Prop :=
  ∃ nx v w' γ' F', (execOp ρ o).run X.P w = .ok nx w' ∧ (nx = .value v ∨ nx = .skip ∧ v = undef) ∧ Inv X γ' F' ⟨s.e, apL s.L f.l, apU s.U f.u⟩ w' ∧ Fwd γ F w γ' F' w' ∧ VRel γ' F' w' f.r v
theorem Does.stepped {γ' : Nat → Option Value} {F' : Nat → Prop} {w' : World} {om : Option Nat} {d : Nat} {nx : Next} {v : Value} (hi : Inv X γ F s w) (hs : Step X γ F s w γ' F' (apL s.L f.l) (apU s.U f.u) w' om d)
    (hr : (execOp ρ o).run X.P w = .ok nx w') (hn : nx = .value v ∨ nx = .skip ∧ v = undef) (hv : VRel γ' F' w' f.r v) : Does X γ F s w f ρ o :=
  ⟨nx, v, w', γ', F', hr, hn, hi.step hs, hs.fwd hi, hv⟩
theorem mk_eq {U : Nat → Bool} {r : Nat → AV} {d : Option Tmp} {b : Option Blk} (h : mk U r d b = some f) : ∃ d' b', d = some d' ∧ b = some b' ∧ U d' = false ∧ d' < 4096 ∧ f = ⟨r d', [(d', some b')], [d'], []⟩ := by
  cases d with
  | none => cases h
  | some d =>
    cases b with
    | none => cases h
    | some b =>
      simp only [mk] at h
      split at h
      · cases h
      · rename_i hU
        split at h
        · rename_i hlt
          simp only [Option.some.injEq] at h
          exact ⟨d, b, rfl, rfl, by simpa using hU, hlt, h.symm⟩
        · cases h
/-- A new box. -/
theorem Does.box (hi : Inv X γ F s w) {d : Nat} (hU : s.U d = false) {t : TypeId} {cs : List AV} {arr : Array Value} (hv : VL γ F w cs arr.toList) (h1 : ∀ v ∈ arr.toList, v.oneCell' = true)
    (hr : (execOp ρ o).run X.P w = .ok (.value (.pointer (some ⟨w.heap.size, 0, none⟩))) (w.alloc (.cells arr t))) : Does X γ F s w ⟨.pt d 0, [(d, some (.box t cs))], [d], []⟩ ρ o := by
  have hold : ∀ k, k < w.heap.size → (w.alloc (.cells arr t)).heap[k]? = w.heap[k]? := fun k hk => Below.heap_alloc w _ k hk
  have hs := Step.new (F' := F) (w' := w.alloc (.cells arr t)) (v := .pointer (some ⟨w.heap.size, 0, none⟩)) (b := .box t cs) (om := none) hi hU (fun m h => by cases h)
    ⟨w.heap.size, arr, upd_same _ _ _, (MapKept.heap_alloc w _).1, hv.mono (fun _ h => h) (fun b hb => hold b (hi.fr b hb)) _ _ (fun n _ v => ext_upd (hi.unnamed hU) n v), h1⟩
    (fun k hk => by
      simp only [blockOf, Option.some.injEq] at hk
      subst hk
      exact ⟨fun hF => by have := hi.fr _ hF; omega, by simp, .inl (Nat.le_refl _)⟩)
    (fun k hk _ => hold k hk) (fun _ h => h) (fun _ h => .inl h) (fun k h => by have := hi.fr k h; simp; omega) rfl rfl rfl (by simp)
  exact .stepped hi hs hr (.inl rfl) ⟨w.heap.size, upd_same _ _ _, rfl⟩

/-! Stores. -/
theorem VL.setRow : ∀ {rows : List (List AV)} {vs ns : List Value} {r' : List AV} {es : Nat} (j : Nat), VL γ F w rows.flatten vs → (∀ r ∈ rows, r.length = es) → j < rows.length → VL γ F w r' ns →
    VL γ F w (rows.set j r').flatten (vs.take (j * es) ++ ns ++ vs.drop (j * es + es))
  | [], _, _, _, _, j, _, _, hj, _ => by simp at hj
  | r :: rs, vs, ns, r', es, 0, hv, hl, _, hn => by
    have hr := hl r (by simp)
    rw [List.flatten_cons] at hv
    have h2 := hv.drop es
    rw [← hr, List.drop_left] at h2
    simpa [hr] using hn.append h2
  | r :: rs, vs, ns, r', es, j + 1, hv, hl, hj, hn => by
    have hr := hl r (by simp)
    rw [List.flatten_cons] at hv
    have h1 := hv.take es
    have h2 := hv.drop es
    rw [← hr, List.take_left] at h1
    rw [← hr, List.drop_left] at h2
    have := VL.setRow (es := es) j h2 (fun r' h => hl r' (List.mem_cons_of_mem _ h)) (by simpa using hj) hn
    have h3 := h1.append this
    rw [List.set_cons_succ, List.flatten_cons]
    have e : List.take r.length vs ++ (List.take (j * es) (List.drop r.length vs) ++ ns ++ List.drop (j * es + es) (List.drop r.length vs)) = vs.take ((j + 1) * es) ++ ns ++ vs.drop ((j + 1) * es + es) := by
      rw [hr, show (j + 1) * es = es + j * es by rw [Nat.succ_mul]; omega, List.take_add, List.drop_drop, List.append_assoc, List.append_assoc, List.append_assoc, show es + j * es + es = es + (j * es + es) by omega]
    rw [← e]
    exact h3
theorem row_split {α : Type} (vs ns : List α) (a k es : Nat) (h : k + ns.length ≤ es) : vs.take (a + k) ++ ns ++ vs.drop (a + k + ns.length) = vs.take a ++ (((vs.drop a).take es).take k ++ ns ++ ((vs.drop a).take es).drop (k + ns.length)) ++ vs.drop (a + es) := by
  have e1 : ((vs.drop a).take es).take k = (vs.drop a).take k := by rw [List.take_take, Nat.min_eq_left (by omega)]
  have e2 : vs.drop (a + k + ns.length) = ((vs.drop a).take es).drop (k + ns.length) ++ vs.drop (a + es) := by
    rw [List.drop_take]
    have := List.take_append_drop (es - (k + ns.length)) (vs.drop (a + k + ns.length))
    rw [List.drop_drop] at this
    rw [← this, List.drop_drop, show a + (k + ns.length) = a + k + ns.length by omega, show a + k + ns.length + (es - (k + ns.length)) = a + es by omega]
  rw [e1, e2, List.take_add]
  simp only [List.append_assoc]
theorem store_ok (hT : TOk X.P X.T) (hi : Inv X γ F s w) (hρ : ∀ x, VRel γ F w (eo s.e x) (ρ x)) {t : Nat} {a x : Operand} (ho : o.op = .store t a x)
    (h0 : (X.T t).size ≠ 0) (h : eStore s.L (X.T t).size (eo s.e a) (cellsOf (eo s.e x)) = some f) : Does X γ F s w f ρ o := by
  have ha := hρ a
  have hx := hρ x
  generalize eo s.e a = A at h ha
  cases hc : cellsOf (eo s.e x) with
  | none => rw [hc] at h; cases A <;> cases h
  | some cs =>
    rw [hc] at h
    obtain ⟨hnew, hn1⟩ := cells_ok hx hc
    obtain ⟨ti, hti, hsz⟩ := hT.sz (t := t) (.inr h0)
    have hnl : (ρ x).cells.toList.length = cs.length := hnew.length
    have run : ∀ (b k : Nat) (u : TypeId) (arr : Array Value), ρ a = .pointer (some ⟨b, k, none⟩) → w.heap[b]? = some (.cells arr u (0, 0)) → cs.length = (X.T t).size → k + cs.length ≤ arr.size →
        (execOp ρ o).run X.P w = .ok .skip (w.setRow b (arr.toList.take k ++ (ρ x).cells.toList ++ arr.toList.drop (k + (ρ x).cells.toList.length)).toArray) := by
      intro b k u arr hva hh hl hle
      have hst := run_storeCells_at X.P b k u (ρ x).cells.toList 0 arr w hh (by rw [hnl]; omega) hn1
      simp only [Nat.add_zero] at hst
      unfold execOp
      rw [ho]
      have hcs : ¬ (ρ x).cells.size ≠ ti.size := by simp at hnl; simp; omega
      simp [hva, Instr.storeAt, Instr.sureAddr, storeVar, run_sizeOf' hti, hcs, hst]
    have other : ∀ (b k : Nat) (m : Nat) (arr : Array Value), nmb γ m = some b → nmb γ m ≠ some k → (w.setRow b arr).heap[k]? = w.heap[k]? := by
      intro b k m arr h1 h2
      exact setRow_other w b k _ (fun e => h2 (by rw [h1, e]))
    have hone : ∀ (arr : List Value) (k j : Nat), (∀ v ∈ arr, v.oneCell' = true) → ∀ v ∈ (arr.take k ++ (ρ x).cells.toList ++ arr.drop j), v.oneCell' = true := by
      intro arr k j h1 v hv'
      rcases List.mem_append.1 hv' with hv' | hv'
      · rcases List.mem_append.1 hv' with hv' | hv'
        · exact h1 v (List.mem_of_mem_take hv')
        · exact hn1 v hv'
      · exact h1 v (List.mem_of_mem_drop hv')
    cases A with
    | pt m k =>
      simp only [eStore] at h
      cases hm : s.L m with
      | none => simp [hm, sto, effS] at h
      | some bl =>
        cases bl with
        | own _ _ _ => simp [hm, sto, effS] at h
        | mp _ => simp [hm, sto, effS] at h
        | box u old =>
          simp only [hm, sto] at h
          split at h
          · rename_i hb
            simp only [effS, Option.some.injEq] at h
            subst h
            obtain ⟨b, hg, hva⟩ := ha
            obtain ⟨b', arr, hg', hh, hv, h1⟩ := hi.blk m _ hm
            rw [hg] at hg'
            obtain rfl : b = b' := by simpa using hg'
            have hnm : nmb γ m = some b := by simp [nmb, hg, blockOf]
            have hFw : ∀ (arr' : Array Value) (c : Nat), F c → (w.setRow b arr').heap[c]? = w.heap[c]? := fun arr' c hc => other b c m arr' hnm (fun e => (hi.own m c (by simp [hm]) e).1 hc)
            have harr := hv.length
            have hrun := run b k u arr hva hh hb.1 (by simp at harr; omega)
            have hv2 : VL γ F w (old.take k ++ cs ++ old.drop (k + cs.length)) (arr.toList.take k ++ (ρ x).cells.toList ++ arr.toList.drop (k + (ρ x).cells.toList.length)) := by
              rw [hnl]
              exact ((hv.take _).append hnew).append (hv.drop _)
            refine .stepped hi (Step.write hi (m := m) (b := .box u (old.take k ++ cs ++ old.drop (k + cs.length))) (by simp [hm]) ?_ (fun c hc => other b c m _ hnm hc) (by simp) rfl rfl rfl) hrun (.inr ⟨rfl, rfl⟩) rfl
            exact ⟨b, _, hg, setRow_heap w b arr _ u (0, 0) hh, by simpa using hv2.mono (fun _ h => h) (hFw _) _ _ (fun _ _ _ h => h), by simpa using hone arr.toList k _ h1⟩
          · simp only [effS] at h; cases h
    | po m es j k =>
      simp only [eStore] at h
      cases hm : s.L m with
      | none => simp [hm, ownOf, stoR, effS] at h
      | some bl =>
        cases bl with
        | box _ _ => simp [hm, ownOf, stoR, effS] at h
        | mp _ => simp [hm, ownOf, stoR, effS] at h
        | own u es' rows =>
          simp only [hm, ownOf, stoR] at h
          split at h
          · rename_i hb
            obtain ⟨rfl, hj0, hj, hcl, hke, hnf⟩ := hb
            simp only [effS, Option.some.injEq] at h
            subst h
            obtain ⟨b, l, c, hg, hva⟩ := ha
            obtain ⟨sv, xs, hg', hown, hv, hrl, h1⟩ := hi.blk m _ hm
            rw [hg] at hg'
            injection hg' with hg'
            subst hg'
            have hjn : j.toNat < rows.length := by omega
            rcases hown with hown | ⟨hn0, _⟩
            · rcases hown.2 with ⟨h, _⟩ | ⟨g, cap, cur, h, hbg, hh, hle, hcm, hcs, htk⟩
              · cases h
              · simp only [Value.slice.injEq, Option.some.injEq, Addr.mk.injEq] at h
                obtain ⟨⟨rfl, _⟩, hl, hcap⟩ := h
                subst hcap
                obtain ⟨c', rfl⟩ : ∃ c', c = c' + 1 := ⟨c - 1, by omega⟩
                have hnm : nmb γ m = some b := by simp [nmb, hg, blockOf]
                have hFw : ∀ (arr' : Array Value) (c : Nat), F c → (w.setRow b arr').heap[c]? = w.heap[c]? := fun arr' c hc => other b c m arr' hnm (fun e => (hi.own m c (by simp [hm]) e).1 hc)
                have hje : j.toNat * es' + es' ≤ rows.length * es' := by rw [← Nat.succ_mul]; exact Nat.mul_le_mul_right _ hjn
                have hce : rows.length * es' ≤ (c' + 1) * es' := Nat.mul_le_mul_right _ hle
                have hrun := run b (j.toNat * es' + k) u cur hva hh hcl (by omega)
                have hnew' : VL noName F w cs (ρ x).cells.toList := hnew.nf _ _ hnf
                -- the new cells
                have hro := VL.split j.toNat hv hrl hjn
                have hrow : VL noName F w ((row rows j).take k ++ cs ++ (row rows j).drop (k + cs.length)) (((xs.drop (j.toNat * es')).take es').take k ++ (ρ x).cells.toList ++ ((xs.drop (j.toNat * es')).take es').drop (k + (ρ x).cells.toList.length)) := by
                  rw [hnl]
                  exact ((hro.take _).append hnew').append (hro.drop _)
                have hv2 := VL.setRow j.toNat hv hrl hjn hrow
                rw [← row_split xs (ρ x).cells.toList (j.toNat * es') k es' (by rw [hnl]; omega)] at hv2
                have htk2 : (cur.toList.take (j.toNat * es' + k) ++ (ρ x).cells.toList ++ cur.toList.drop (j.toNat * es' + k + (ρ x).cells.toList.length)).take (rows.length * es') =
                    xs.take (j.toNat * es' + k) ++ (ρ x).cells.toList ++ xs.drop (j.toNat * es' + k + (ρ x).cells.toList.length) := by
                  rw [← htk]
                  have l1 : (cur.toList.take (j.toNat * es' + k) ++ (ρ x).cells.toList).length = j.toNat * es' + k + (ρ x).cells.toList.length := by
                    rw [List.length_append, List.length_take, Array.length_toList]; omega
                  rw [List.take_append, l1, List.take_of_length_le (by rw [l1, hnl]; omega), List.take_take, Nat.min_eq_left (by omega), List.drop_take]
                have hlen2 : ((row rows j).take k ++ cs ++ (row rows j).drop (k + cs.length)).length = es' := by
                  have : (row rows j).length = es' := hrl _ (by rw [row, List.getD_eq_getElem?_getD, List.getElem?_eq_getElem hjn]; exact List.getElem_mem hjn)
                  simp only [List.length_append, List.length_take, List.length_drop, this]
                  omega
                refine .stepped hi (Step.write hi (m := m) (b := .own u es' (rows.set j.toNat ((row rows j).take k ++ cs ++ (row rows j).drop (k + cs.length)))) (by simp [hm]) ?_ (fun c hc => other b c m _ hnm hc) (by simp) rfl rfl rfl) hrun (.inr ⟨rfl, rfl⟩) rfl
                refine ⟨_, xs.take (j.toNat * es' + k) ++ (ρ x).cells.toList ++ xs.drop (j.toNat * es' + k + (ρ x).cells.toList.length), hg, .inl ⟨?_, .inr ⟨b, c' + 1, _, ?_, hbg, setRow_heap w b cur _ u (0, 0) hh, ?_, hcm, ?_, ?_⟩⟩, ?_, ?_, ?_⟩
                · have hx := hown.1
                  simp only [List.length_append, List.length_take, List.length_drop, List.length_set]
                  omega
                · rw [List.length_set, ← hl]
                · rw [List.length_set]; exact hle
                · have hnl' : (ρ x).cells.size = cs.length := by simpa using hnl
                  simp only [List.size_toArray, List.length_append, List.length_take, List.length_drop, Array.length_toList]
                  omega
                · rw [List.length_set]; simpa using htk2
                · exact hv2.mono (fun _ h => h) (hFw _) _ _ (fun _ _ _ h => h)
                · intro r hr
                  rcases List.mem_or_eq_of_mem_set hr with hr | rfl
                  · exact hrl r hr
                  · exact hlen2
                · exact hone xs _ _ h1
            · rw [hn0] at hjn; cases hjn
          · simp only [effS] at h; cases h
    | _ => cases h

/-! A slice of parts. -/
theorem bs_fill {sz : Nat} (hnf0 : True) : ∀ {ps : List (Nat × Operand)} {i : Nat} {rows : List (List AV)} {cells : Array Value}, (∀ x, VRel γ F w (eo s.e x) (ρ x)) → bsRows sz (eo s.e) i ps = some rows → (i + ps.length) * sz ≤ cells.size →
    ∃ cells' vs, Instr.fill (fun i => some (i * sz, sz)) cells (ps.map fun p => (p.1, ρ p.2)) = some cells' ∧ cells'.toList = cells.toList.take (i * sz) ++ vs ++ cells.toList.drop ((i + ps.length) * sz) ∧ vs.length = ps.length * sz ∧
      VL noName F w rows.flatten vs ∧ (∀ r ∈ rows, r.length = sz) ∧ rows.length = ps.length
  | [], i, rows, cells, _, h, _ => by
    simp only [bsRows, Option.some.injEq] at h
    subst h
    exact ⟨cells, [], rfl, by simp, by simp, rfl, by simp, rfl⟩
  | (j, x) :: ps, i, rows, cells, hρ, h, hle => by
    simp only [bsRows] at h
    split at h
    · rename_i hji
      subst hji
      cases hc : cellsOf (eo s.e x) with
      | none => rw [hc] at h; cases h
      | some cs =>
        rw [hc] at h
        simp only [Option.bind_some] at h
        split at h
        · rename_i hb
          obtain ⟨hl, hnf⟩ := hb
          simp only [Option.map_eq_some_iff] at h
          obtain ⟨rows', hr', rfl⟩ := h
          obtain ⟨hnew, hn1⟩ := cells_ok (hρ x) hc
          have hnl : (ρ x).cells.toList.length = sz := by rw [hnew.length, hl]
          have hnl' : (ρ x).cells.size = sz := by simpa using hnl
          have hle2 : j * sz + sz + ps.length * sz ≤ cells.size := by
            have : (j + ((j, x) :: ps).length) * sz = j * sz + sz + ps.length * sz := by rw [List.length_cons, Nat.add_mul, Nat.succ_mul]; omega
            omega
          have hf := fold_cells (j * sz) (ρ x).cells.toList 0 cells (by rw [hnl]; omega)
          rw [Nat.add_zero, hnl] at hf
          have hsz1 : ((((ρ x).cells.toList.zipIdx 0).foldl (fun (cs : Array Value) (x : Value × Nat) => cs.setIfInBounds (j * sz + x.2) x.1) cells)).size = cells.size := by
            rw [← Array.length_toList, hf]
            simp only [List.length_append, List.length_take, List.length_drop, Array.length_toList, hnl]
            omega
          obtain ⟨cells', vs, h1, h2, h3, h4, h5, h6⟩ := bs_fill hnf0 (i := j + 1) (cells := ((ρ x).cells.toList.zipIdx 0).foldl (fun (cs : Array Value) (x : Value × Nat) => cs.setIfInBounds (j * sz + x.2) x.1) cells) hρ hr' (by
            rw [hsz1]
            have : (j + 1 + ps.length) * sz = j * sz + sz + ps.length * sz := by rw [Nat.add_mul, Nat.succ_mul]
            omega)
          refine ⟨cells', (ρ x).cells.toList ++ vs, ?_, ?_, ?_, ?_, ?_, ?_⟩
          · rw [← h1]
            have hc2 : ¬ ((ρ x).cells.size ≠ sz || j * sz + (ρ x).cells.size > cells.size) = true := by
              simp [hnl']; omega
            simp only [List.map_cons, Instr.fill, if_neg hc2]
            congr 1
            rw [← Array.foldl_toList]
            simp [Array.toList_zipIdx]
          · rw [h2, hf]
            have e1 : (j + 1) * sz = j * sz + sz := by rw [Nat.succ_mul]
            have e2 : (j + 1 + ps.length) * sz = j * sz + sz + ps.length * sz := by rw [Nat.add_mul, Nat.succ_mul]
            have e3 : (j + ((j, x) :: ps).length) * sz = j * sz + sz + ps.length * sz := by rw [List.length_cons, Nat.add_mul, Nat.succ_mul]; omega
            have l1 : (cells.toList.take (j * sz) ++ (ρ x).cells.toList).length = j * sz + sz := by
              rw [List.length_append, List.length_take, Array.length_toList, hnl]; omega
            rw [e1, e2, e3, List.take_append, l1, List.take_of_length_le (by rw [l1]; omega), Nat.sub_self, List.take_zero, List.append_nil, List.drop_append, l1, List.drop_of_length_le (by rw [l1]; omega), List.nil_append, List.drop_drop]
            rw [show j * sz + sz + (j * sz + sz + ps.length * sz - (j * sz + sz)) = j * sz + sz + ps.length * sz by omega]
            simp only [List.append_assoc]
          · rw [List.length_append, hnl, h3, List.length_cons, Nat.succ_mul]; omega
          · rw [List.flatten_cons]; exact (hnew.nf (γ' := noName) _ _ hnf).append h4
          · intro r hr
            rcases List.mem_cons.1 hr with rfl | hr
            · exact hl
            · exact h5 r hr
          · rw [List.length_cons, List.length_cons, h6]
        · cases h
    · cases h
end
end Go.Proofs.YtkbidoikndgheaaDoor.HL

namespace Go.Proofs.YtkbidoikndgheaaDoor.HL
open Go.RowKit
section
variable {X : Cx} {γ : Nat → Option Value} {F : Nat → Prop} {s : St} {w : World} {ρ : Operand → Value} {f : Eff} {o : Oper}
theorem bs_ok (hT : TOk X.P X.T) (hi : Inv X γ F s w) (hρ : ∀ x, VRel γ F w (eo s.e x) (ρ x)) {t n : Nat} {ps : List (Nat × Operand)} (ho : o.op = .buildSlice t n ⟨ps⟩) {r : AV}
    (h : eBS X.T (eo s.e) n ps (X.T t).k = some r) : Does X γ F s w ⟨r, [], [], []⟩ ρ o := by
  cases hk : (X.T t).k with
  | slice e =>
    rw [hk] at h
    simp only [eBS] at h
    split at h
    · cases h
    · rename_i h0
      split at h
      · rename_i hb
        obtain ⟨hn, hn1, hs1⟩ := hb
        simp only [Option.map_eq_some_iff] at h
        obtain ⟨rows, hrows, rfl⟩ := h
        obtain ⟨d, hu, rfl⟩ := hT.und hk (by simp)
        obtain ⟨i, z, hii, his, _, hz, hzz, h1, hzs, _⟩ := hT.info e h0
        let base : Array Value := (Array.range (n * (X.T e).size)).map ((if n * (X.T e).size = 0 then #[] else z.cells)[· % (if n * (X.T e).size = 0 then #[] else z.cells).size]!)
        have hbs : base.size = n * (X.T e).size := by simp [base]
        obtain ⟨cells, vs, hf, hc, hvl, hv, hrl, hrn⟩ := bs_fill (w := w) (F := F) (γ := γ) trivial (cells := base) hρ hrows (by rw [hbs, Nat.zero_add, hn]; exact Nat.le_refl _)
        have hcv : cells.toList = vs := by
          rw [hc, Nat.zero_mul, List.take_zero, List.nil_append, Nat.zero_add, hn, List.drop_of_length_le (by rw [Array.length_toList, hbs]; exact Nat.le_refl _), List.append_nil]
        have hle : n * (X.T e).size ≤ 10000 * 1000 := Nat.mul_le_mul hn1 hs1
        have hbig : ¬ (n * (X.T e).size > 2 ^ 24) := by omega
        have hold : ∀ k, k < w.heap.size → (w.alloc (.cells cells e)).heap[k]? = w.heap[k]? := fun k hk => Below.heap_alloc w _ k hk
        have hbel : Below w.heap.size w (w.alloc (.cells cells e)) := ⟨rfl, rfl, rfl, by simp, hold⟩
        have hi2 : Inv X γ (fun b => F b ∨ b = w.heap.size) s (w.alloc (.cells cells e)) :=
          hi.grow hbel (fun b h => .inl h) (fun b h => h.imp id (fun e => by omega)) (fun b h => by
            rcases h with h | h
            · have := hi.fr b h; simp; omega
            · subst h; simp)
        have hone : ∀ v ∈ vs, v.oneCell' = true := by
          have : ∀ {ps : List (Nat × Operand)} {i : Nat} {rows : List (List AV)}, bsRows (X.T e).size (eo s.e) i ps = some rows → ∀ r ∈ rows, r.all isCell = true := by
            intro ps
            induction ps with
            | nil => intro i rows h; simp only [bsRows, Option.some.injEq] at h; subst h; simp
            | cons p ps ih =>
              intro i rows h
              obtain ⟨j, x⟩ := p
              simp only [bsRows] at h
              split at h
              · cases hcc : cellsOf (eo s.e x) with
                | none => rw [hcc] at h; cases h
                | some cs =>
                  rw [hcc] at h
                  simp only [Option.bind_some] at h
                  split at h
                  · simp only [Option.map_eq_some_iff] at h
                    obtain ⟨rows', hr', rfl⟩ := h
                    intro r hr
                    rcases List.mem_cons.1 hr with rfl | hr
                    · exact cells_isCell hcc
                    · exact ih hr' r hr
                  · cases h
              · cases h
          have hall := this hrows
          refine VL.one (γ := noName) (F := F) (w := w) ?_ hv
          rw [List.all_eq_true]
          intro c hc
          obtain ⟨r, hr, hcr⟩ := List.mem_flatten.1 hc
          exact List.all_eq_true.1 (hall r hr) c hcr
        refine ⟨_, .slice (some ⟨w.heap.size, 0, none⟩) n n, w.alloc (.cells cells e), γ, _, ?_, .inl rfl, hi2, Fwd.grow hi hbel (fun b h => .inl h), ?_⟩
        · have hse : (sizeOf e).run X.P w = .ok (X.T e).size w := by rw [run_sizeOf' hii w, his]
          have hzr : (zeroValue e).run X.P w = .ok z w := by simp [zeroValue, typeInfo, hii, hz]
          unfold execOp
          rw [ho]
          have hm : (((⟨ps⟩ : Array (Nat × Operand)).map fun (i, x) => (i, ρ x)).toList) = ps.map fun p => (p.1, ρ p.2) := by simp
          simp only [Instr.buildSlice, Sem.run_bind, run_underlying hu, Result.andThen_ok, hse, if_neg hbig, hm]
          by_cases hz0 : n * (X.T e).size = 0
          · have hf' := hf
            simp only [base, if_pos hz0] at hf'
            simp only [if_pos hz0, Sem.run_bind, Sem.run_pure, Result.andThen_ok]
            rw [hf']
            simp [newRow]
          · have hf' := hf
            simp only [base, if_neg hz0] at hf'
            simp only [if_neg hz0, Sem.run_bind, Sem.run_pure, hzr, Result.andThen_ok]
            rw [hf']
            simp [newRow]
        · have hlen : rows.length = n := by rw [hrn, hn]
          refine ⟨some ⟨w.heap.size, 0, none⟩, n, by rw [hlen], by omega, by unfold maxLen; omega, fun _ => hlen.symm, (fun h => by cases h), .inr ⟨w.heap.size, 0, rfl, .inr rfl, ?_⟩⟩
          have hr := Rd.of_cells (MapKept.heap_alloc w (.cells cells e)).1
          rw [hcv] at hr
          exact VR.of_rd hr (hv.mono (fun _ h => .inl h) (fun b hb => hold b (hi.fr b hb)) _ _ (fun _ _ _ h => h)) hone hrl
      · cases h
  | _ => rw [hk] at h; cases h
theorem makeMap_ok (hi : Inv X γ F s w) {t : Nat} (ho : o.op = .makeMap t none) {d : Nat} (hU : s.U d = false) : Does X γ F s w ⟨.ow d, [(d, some (.mp []))], [d], []⟩ ρ o := by
  have hold : ∀ k, k < w.heap.size → (w.alloc (.map #[] 0)).heap[k]? = w.heap[k]? := fun k hk => Below.heap_alloc w _ k hk
  have hs := Step.new (F' := F) (w' := w.alloc (.map #[] 0)) (v := .map (some w.heap.size)) (b := .mp []) (om := none) hi hU (fun m h => by cases h)
    ⟨w.heap.size, #[], 0, upd_same _ _ _, (MapKept.heap_alloc w _).1, rfl⟩
    (fun k hk => by
      simp only [blockOf, Option.some.injEq] at hk
      subst hk
      exact ⟨fun hF => by have := hi.fr _ hF; omega, by simp, .inl (Nat.le_refl _)⟩)
    (fun k hk _ => hold k hk) (fun _ h => h) (fun _ h => .inl h) (fun k h => by have := hi.fr k h; simp; omega) rfl rfl rfl (by simp)
  refine .stepped hi hs (nx := .value (.map (some w.heap.size))) ?_ (.inl rfl) ⟨upd_same _ _ _, .inr ⟨_, rfl⟩⟩
  unfold execOp
  rw [ho]
  simp [Instr.makeMap]
theorem mset_ok {n : Int} {v : AV} : ∀ {ps : List (Int × AV)} {es : List MapEntry} (i : Nat), ML F w ps es →
    (Instr.findNow (.int .i64) (.int .i64 n) es i = some none ∧ ∀ e', e'.key = .int .i64 n → VRel noName F w v e'.val → ML F w (mset ps n v) (es ++ [e'])) ∨
    (∃ j old e, Instr.findNow (.int .i64) (.int .i64 n) es i = some (some (i + j, old)) ∧ es[j]? = some e ∧ e.key = .int .i64 n ∧ ∀ e', e'.key = .int .i64 n → VRel noName F w v e'.val → ML F w (mset ps n v) (es.set j e'))
  | [], es, i, h => by
    rw [ML] at h
    subst h
    exact .inl ⟨rfl, fun e' h1 h2 => ⟨e', [], rfl, h1, h2, rfl⟩⟩
  | p :: ps, _, i, ⟨e, es', rfl, hk, hv, hr⟩ => by
    by_cases hn : p.1 = n
    · refine .inr ⟨0, e.val, e, ?_, rfl, by rw [hk, hn], fun e' h1 h2 => ?_⟩
      · simp [Instr.findNow, hk, Instr.sameNow, hn]
      · simp only [mset, if_pos hn, List.set_cons_zero]
        exact ⟨e', es', rfl, h1, h2, hr⟩
    · have h2 : Instr.findNow (.int .i64) (.int .i64 n) (e :: es') i = Instr.findNow (.int .i64) (.int .i64 n) es' (i + 1) := by
        have : (n == p.1) = false := by simpa using fun e => hn e.symm
        simp [Instr.findNow, hk, Instr.sameNow, this]
      simp only [mset, if_neg hn]
      rcases mset_ok (n := n) (v := v) (i + 1) hr with ⟨h3, h4⟩ | ⟨j, old, e0, h3, h4, h5, h6⟩
      · exact .inl ⟨h2.trans h3, fun e' a b => ⟨e, es' ++ [e'], rfl, hk, hv, h4 e' a b⟩⟩
      · refine .inr ⟨j + 1, old, e0, ?_, by simpa using h4, h5, fun e' a b => ?_⟩
        · rw [h2, h3, show i + 1 + j = i + (j + 1) by omega]
        · exact ⟨e, es'.set j e', rfl, hk, hv, h6 e' a b⟩
theorem mapUpd_ok (hT : TOk X.P X.T) (hi : Inv X γ F s w) (hρ : ∀ x, VRel γ F w (eo s.e x) (ρ x)) {t : Nat} {m k x : Operand} {kt et : TypeId} (ho : o.op = .mapUpdate t m k x) (hk : (X.T t).k = .map kt et) (hkt : isI64 (X.T kt).k = true)
    (h : eMapU s.L (eo s.e m) (eo s.e k) (eo s.e x) = some f) : Does X γ F s w f ρ o := by
  have hm := hρ m
  have hkr := hρ k
  have hxr := hρ x
  unfold eMapU at h
  split at h
  · rename_i m' n em ek
    rw [em] at hm
    rw [ek] at hkr
    cases hL : s.L m' with
    | none => simp [hL, mapOf] at h
    | some bl =>
      cases bl with
      | box _ _ => simp [hL, mapOf] at h
      | own _ _ _ => simp [hL, mapOf] at h
      | mp ps =>
        simp only [hL, mapOf] at h
        split at h
        · rename_i hnf
          simp only [Option.some.injEq] at h
          subst h
          obtain ⟨d, hu, rfl⟩ := hT.und hk (by simp)
          have hkk : (X.T kt).k = .int .i64 := by
            unfold isI64 at hkt
            split at hkt
            · assumption
            · cases hkt
          obtain ⟨d, hu2, rfl⟩ := hT.und hkk (by simp)
          obtain ⟨r', ents, clock, hg, hh, hml⟩ := hi.blk m' _ hL
          obtain ⟨hg', _⟩ := hm
          rw [hg] at hg'
          injection hg' with hg'
          rw [VRel] at hkr
          have hgo : (getObj r').run X.P w = .ok (.map ents clock) w := MapKept.run_getObj_map hh
          have hik : MapKept.IsKey (.int .i64) (.int .i64 n) := by simp [MapKept.IsKey]
          have hck : (Instr.checkKey false 10000 kt (.int .i64 n)).run X.P w = .ok () w := MapKept.run_checkKey (d := .int .i64) hu2 hik false 9999
          have hvx : VRel noName F w (eo s.e x) (ρ x) := hxr.nf _ _ hnf
          have hnm : nmb γ m' = some r' := by simp [nmb, hg, blockOf]
          have fin : ∀ (ents' : Array MapEntry) (clock' : Nat), ML F w (mset ps n (eo s.e x)) ents'.toList → (Instr.mapUpdate t (.map (some r')) (.int .i64 n) (ρ x)).run X.P w = .ok () { w with heap := w.heap.setIfInBounds r' (.map ents' clock') } →
              Does X γ F s w ⟨.v undef, [(m', some (.mp (mset ps n (eo s.e x))))], [], [m']⟩ ρ o := by
            intro ents' clock' h1 h2
            have hother : ∀ c, c ≠ r' → (w.heap.setIfInBounds r' (.map ents' clock'))[c]? = w.heap[c]? := (MapKept.heap_set hh).2
            have hFw : ∀ c, F c → (w.heap.setIfInBounds r' (.map ents' clock'))[c]? = w.heap[c]? := fun c hc => hother c (fun e => (hi.own m' c (by simp [hL]) (by rw [hnm, e])).1 hc)
            refine .stepped hi (Step.write hi (m := m') (b := .mp (mset ps n (eo s.e x))) (w' := { w with heap := w.heap.setIfInBounds r' (.map ents' clock') }) (by simp [hL]) ?_ (fun c hc => hother c (fun e => hc (by rw [hnm, e]))) (by simp) rfl rfl rfl) (nx := .skip) ?_ (.inr ⟨rfl, rfl⟩) rfl
            · exact ⟨r', ents', clock', hg, (MapKept.heap_set hh).1, h1.mono (fun _ h => h) hFw⟩
            · unfold execOp
              rw [ho]
              simp only [← hg', hkr, Sem.run_bind, h2, Result.andThen_ok, Sem.run_pure]
          rcases mset_ok (n := n) (v := eo s.e x) 0 hml with ⟨h1, h2⟩ | ⟨j, old, e0, h1, h2, h3, h4⟩
          · refine fin (ents.push { key := .int .i64 n, val := ρ x, born := clock }) (clock + 1) (by simpa using h2 { key := .int .i64 n, val := ρ x, born := clock } rfl hvx) ?_
            have hf := MapKept.run_findKey (P := X.P) (w := w) hu2 h1
            unfold Instr.mapUpdate
            simp only [Sem.run_bind, run_underlying hu, Result.andThen_ok, hgo, hck, hf, MapKept.run_setObj_map _ hh]
          · have hf := MapKept.run_findKey (P := X.P) (w := w) hu2 h1
            have hje : ents[j]? = some e0 := by simpa using h2
            refine fin (ents.modify j fun e => { e with key := .int .i64 n, val := ρ x }) clock ?_ ?_
            · have := h4 { e0 with key := .int .i64 n, val := ρ x } rfl hvx
              have e1 : (ents.modify j fun e => { e with key := .int .i64 n, val := ρ x }).toList = ents.toList.set j { e0 with key := .int .i64 n, val := ρ x } := by
                apply List.ext_getElem?
                intro c
                rw [Array.getElem?_toList, Array.getElem?_modify, List.getElem?_set]
                by_cases hc : j = c
                · subst hc
                  have hlt := (Array.getElem?_eq_some_iff.1 hje).1
                  rw [if_pos rfl, if_pos rfl, hje]
                  simp [hlt]
                · simp [hc]
              rw [e1]; exact this
            · unfold Instr.mapUpdate
              rw [Nat.zero_add] at hf
              have hkey : ((ents[j]?).map (·.key)).getD (.int .i64 n) = .int .i64 n := by rw [hje]; simpa using h3
              simp only [Sem.run_bind, run_underlying hu, Result.andThen_ok, hgo, hck, hf, hkey, MapKept.run_keyThatStays hik, MapKept.run_setObj_map _ hh]
        · cases h
  · cases h
end
end Go.Proofs.YtkbidoikndgheaaDoor.HL

namespace Go.Proofs.YtkbidoikndgheaaDoor.HL
open Go.RowKit Go.Lib
section
variable {X : Cx} {γ : Nat → Option Value} {F : Nat → Prop} {s : St} {w : World} {ρ : Operand → Value} {f : Eff} {o : Oper}
theorem ownOf_some {b : Option Blk} {t es : Nat} {rows : List (List AV)} (h : ownOf b = some (t, es, rows)) : b = some (.own t es rows) := by
  unfold ownOf at h
  split at h
  · simp only [Option.some.injEq, Prod.mk.injEq] at h
    obtain ⟨rfl, rfl, rfl⟩ := h
    rfl
  · cases h
/-- What a named slice with a row is; what a store into it does. -/
theorem own_write (hi : Inv X γ F s w) {n t es : Nat} {rows : List (List AV)} (hL : s.L n = some (.own t es rows)) (h0 : 0 < rows.length) :
    ∃ b c cur, γ n = some (.slice (some ⟨b, 0, none⟩) rows.length c) ∧ w.heap[b]? = some (.cells cur t (0, 0)) ∧ rows.length ≤ c ∧ c ≤ maxLen ∧ cur.size = c * es ∧ VL noName F w rows.flatten (cur.toList.take (rows.length * es)) ∧ (∀ r ∈ rows, r.length = es) ∧
      (∀ u ∈ cur.toList.take (rows.length * es), u.oneCell' = true) ∧ nmb γ n = some b ∧
      ∀ (p : Nat) (vs : List Value) (rows' : List (List AV)), p + vs.length ≤ rows.length * es → (∀ v ∈ vs, v.oneCell' = true) → rows'.length = rows.length → (∀ r ∈ rows', r.length = es) →
        VL noName F w rows'.flatten ((cur.toList.take (rows.length * es)).take p ++ vs ++ (cur.toList.take (rows.length * es)).drop (p + vs.length)) →
        Step X γ F s w γ F (apL s.L [(n, some (.own t es rows'))]) s.U (w.setRow b (cur.toList.take p ++ vs ++ cur.toList.drop (p + vs.length)).toArray) (some n) n := by
  obtain ⟨sv, xs, hg, ho, hv, hl, h1⟩ := hi.blk n _ hL
  rcases ho with ho | ⟨hn, _⟩
  · rcases ho.2 with ⟨_, h⟩ | ⟨b, c, cur, rfl, hb0, hh, hle, hcm, hcs, htk⟩
    · omega
    · obtain ⟨c, rfl⟩ : ∃ c', c = c' + 1 := ⟨c - 1, by omega⟩
      subst htk
      have hnm : nmb γ n = some b := by simp [nmb, hg, blockOf]
      refine ⟨b, c + 1, cur, hg, hh, hle, hcm, hcs, hv, hl, h1, hnm, fun p vs rows' hp hvs hlen hl' hv' => ?_⟩
      have hce : rows.length * es ≤ (c + 1) * es := Nat.mul_le_mul_right _ hle
      have hFw : ∀ (arr : Array Value) (k : Nat), F k → (w.setRow b arr).heap[k]? = w.heap[k]? := fun arr k hk => setRow_other w b k _ (fun e => (hi.own n k (by simp [hL]) (by rw [hnm, e])).1 hk)
      have htk2 : (cur.toList.take p ++ vs ++ cur.toList.drop (p + vs.length)).take (rows.length * es) = (cur.toList.take (rows.length * es)).take p ++ vs ++ (cur.toList.take (rows.length * es)).drop (p + vs.length) := by
        have l1 : (cur.toList.take p ++ vs).length = p + vs.length := by
          rw [List.length_append, List.length_take, Array.length_toList]; omega
        rw [List.take_append, l1, List.take_of_length_le (by rw [l1]; omega), List.take_take, Nat.min_eq_left (by omega), List.drop_take]
      refine Step.write hi (m := n) (b := .own t es rows') (by simp [hL]) ?_ (fun k hk => setRow_other w b k _ (fun e => hk (by rw [hnm, e]))) (by simp) rfl rfl rfl
      refine ⟨_, _, hg, .inl ⟨?_, .inr ⟨b, c + 1, _, by rw [hlen], hb0, setRow_heap w b cur _ t (0, 0) hh, by rw [hlen]; exact hle, hcm, ?_, rfl⟩⟩, ?_, hl', ?_⟩
      · rw [hlen]
        simp only [List.length_take, List.length_append, List.length_drop, Array.length_toList]
        omega
      · simp only [List.size_toArray, List.length_append, List.length_take, List.length_drop, Array.length_toList]
        omega
      · rw [hlen]
        simp only
        rw [htk2]
        exact hv'.mono (fun _ h => h) (hFw _) _ _ (fun _ _ _ h => h)
      · rw [hlen]
        simp only
        rw [htk2]
        intro u hu
        rcases List.mem_append.1 hu with hu | hu
        · rcases List.mem_append.1 hu with hu | hu
          · exact h1 u (List.mem_of_mem_take hu)
          · exact hvs u hu
        · exact h1 u (List.mem_of_mem_drop hu)
  · omega
theorem VL.takeRows {es : Nat} : ∀ {rows : List (List AV)} {vs : List Value} (i : Nat), VL γ F w rows.flatten vs → (∀ r ∈ rows, r.length = es) → VL γ F w (rows.take i).flatten (vs.take (i * es))
  | _, _, 0, _, _ => by simp [VL]
  | [], _, i + 1, h, _ => by
    rw [List.flatten_nil, VL] at h
    subst h
    simp [VL]
  | r :: rs, vs, i + 1, h, hl => by
    have hr := hl r (by simp)
    rw [List.flatten_cons] at h
    have h1 := h.take es
    have h2 := h.drop es
    rw [← hr, List.take_left] at h1
    rw [← hr, List.drop_left] at h2
    have h3 := h1.append (VL.takeRows i h2 fun r' h => hl r' (List.mem_cons_of_mem _ h))
    rw [List.take_succ_cons, List.flatten_cons]
    have e : vs.take r.length ++ (vs.drop r.length).take (i * es) = vs.take ((i + 1) * es) := by
      rw [show (i + 1) * es = r.length + i * es by rw [Nat.succ_mul, hr]; omega, List.take_add]
    rwa [e] at h3
theorem VL.dropRows {es : Nat} : ∀ {rows : List (List AV)} {vs : List Value} (i : Nat), VL γ F w rows.flatten vs → (∀ r ∈ rows, r.length = es) → VL γ F w (rows.drop i).flatten (vs.drop (i * es))
  | _, _, 0, h, _ => by simpa using h
  | [], _, i + 1, h, _ => by
    rw [List.flatten_nil, VL] at h
    subst h
    simp [VL]
  | r :: rs, vs, i + 1, h, hl => by
    have hr := hl r (by simp)
    rw [List.flatten_cons] at h
    have h2 := h.drop es
    rw [← hr, List.drop_left] at h2
    have h3 := VL.dropRows i h2 fun r' h => hl r' (List.mem_cons_of_mem _ h)
    rw [List.drop_drop, show r.length + i * es = (i + 1) * es by rw [Nat.succ_mul, hr]; omega] at h3
    simpa using h3
theorem appI_ok (hT : TOk X.P X.T) (hi : Inv X γ F s w) {t u e : Nat} {x y : Operand} {n es i j k : Nat} (ho : o.op = .call ⟨.builtin .append, ⟨[x, y]⟩, ⟨[t, u]⟩⟩) (hk : (X.T t).k = .slice e) (hu : isSlice (X.T u).k = true)
    (hx : VRel γ F w (.os n es 0 i) (ρ x)) (hy : VRel γ F w (.os n es j k) (ρ y)) (h : appI n es i j k e (X.T e).size (ownOf (s.L n)) = some f) : Does X γ F s w f ρ o := by
  cases hm : ownOf (s.L n) with
  | none => rw [hm] at h; cases h
  | some q =>
    obtain ⟨t', es', rows⟩ := q
    rw [hm] at h
    simp only [appI] at h
    split at h
    · rename_i hb
      obtain ⟨rfl, rfl, hsz, hes, hij, hjk, hkr, hir⟩ := hb
      simp only [Option.some.injEq] at h
      subst h
      have hL := ownOf_some hm
      obtain ⟨b, c, cur, hg, hh, hle, hcm, hcs, hv, hl, h1, hnm, hw⟩ := own_write hi hL (by omega)
      obtain ⟨b1, l1, c1, o1, hg1, _, hic, ho1, ex⟩ := hx
      obtain ⟨b2, l2, c2, o2, hg2, _, hkc, ho2, ey⟩ := hy
      rw [hg] at hg1 hg2
      simp only [Option.some.injEq, Value.slice.injEq, Addr.mk.injEq] at hg1 hg2
      obtain ⟨⟨rfl, _⟩, rfl, rfl⟩ := hg1
      obtain ⟨⟨rfl, _⟩, rfl, rfl⟩ := hg2
      have ho1' : o1 = 0 := by rw [ho1 (by omega)]; simp
      subst ho1'
      obtain ⟨d, hut, rfl⟩ := hT.und hk (by simp)
      obtain ⟨el2, hk2⟩ : ∃ el2, (X.T u).k = .slice el2 := by
        unfold isSlice at hu
        split at hu
        · exact ⟨_, by assumption⟩
        · cases hu
      obtain ⟨d, huu, rfl⟩ := hT.und hk2 (by simp)
      obtain ⟨ti, hti, hts⟩ := hT.sz (t := t') (.inr (by omega))
      have hse : ∀ w', (sizeOf t').run X.P w' = .ok es' w' := fun w' => by rw [run_sizeOf' hti w', hts, hsz]
      let news := ((cur.toList.take (rows.length * es')).drop (j * es')).take ((k - j) * es')
      have hle' : rows.length * es' ≤ c * es' := Nat.mul_le_mul_right _ hle
      have hkr' : j * es' + (k - j) * es' ≤ rows.length * es' := by rw [← Nat.add_mul]; exact Nat.mul_le_mul_right _ (by omega)
      have hnl : news.length = (k - j) * es' := by
        simp only [news, List.length_take, List.length_drop, Array.length_toList]
        omega
      have hn1 : ∀ v ∈ news, v.oneCell' = true := fun v hv => h1 v (List.mem_of_mem_drop (List.mem_of_mem_take hv))
      have hfc : (Builtin.firstCells es' (k - j) (.slice (some ⟨b, o2, none⟩) (k - j) (c - j))).run X.P w = .ok news.toArray w := by
        refine run_firstCells_some (P := X.P) w es' (k - j) ⟨b, o2, none⟩ _ _ news hnl (fun q v hq => ?_)
        have hqlt : q < news.length := by
          rw [List.getElem?_eq_some_iff] at hq; exact hq.1
        have hjc : j < c := by
          rcases Nat.lt_or_ge j k with h | h
          · omega
          · exfalso; rw [hnl, show k - j = 0 by omega, Nat.zero_mul] at hqlt; omega
        rw [ho2 hjc]
        have hr := (((Rd.of_cells hh).take (rows.length * es')).drop (j * es')).take ((k - j) * es') q v hq
        rw [add_addr]
        simpa using hr
      have hst := run_storeCells_at X.P b (i * es') t' news 0 cur w hh (by
        rw [hnl, Nat.add_zero, ← Nat.add_mul, hcs]; exact Nat.mul_le_mul_right _ (by omega)) hn1
      simp only [Nat.add_zero] at hst
      have hroom : i + (k - j) ≤ c := by omega
      have hbs : i * es' + news.length ≤ rows.length * es' := by rw [hnl, ← Nat.add_mul]; exact Nat.mul_le_mul_right _ (by omega)
      have hstep := hw (i * es') news (appM rows i j k) hbs hn1 (by
          simp only [appM, List.length_append, List.length_take, List.length_drop]; omega) (by
          intro r hr
          simp only [appM, List.mem_append] at hr
          rcases hr with (hr | hr) | hr
          · exact hl r (List.mem_of_mem_take hr)
          · exact hl r (List.mem_of_mem_drop (List.mem_of_mem_take hr))
          · exact hl r (List.mem_of_mem_drop hr)) (by
          simp only [appM, List.flatten_append]
          refine ((VL.takeRows i hv hl).append (VL.takeRows (k - j) (VL.dropRows j hv hl) fun r hr => hl r (List.mem_of_mem_drop hr))).append ?_
          rw [hnl, ← Nat.add_mul]
          exact VL.dropRows _ hv hl)
      refine .stepped hi hstep (nx := .value (.slice (some ⟨b, 0, none⟩) (i + (k - j)) c)) ?_ (.inl rfl) ?_
      · unfold execOp
        rw [ho]
        simp [resolve, invoke, builtin, ex, ey, Builtin.append_, run_underlying hut, run_underlying huu, hse, Builtin.lenOf, hroom, hfc, add_addr, hst]
      · exact ⟨b, _, c, 0, hg, Nat.zero_le _, hroom, fun _ => by simp, by simp⟩
    · cases h
theorem replicate_flat {α : Type} (l : List α) : ∀ (n i : Nat), i < n * l.length → ((List.replicate n l).flatten)[i]? = l[i % l.length]?
  | 0, i, h => by simp at h
  | n + 1, i, h => by
    rw [List.replicate_succ, List.flatten_cons]
    by_cases hi : i < l.length
    · rw [List.getElem?_append_left hi, Nat.mod_eq_of_lt hi]
    · rw [List.getElem?_append_right (by omega), replicate_flat l n (i - l.length) (by rw [Nat.succ_mul] at h; omega), ← Nat.mod_eq_sub_mod (by omega)]
theorem cyc_eq (z : Array Value) (n : Nat) : ((Array.range (n * z.size)).map (z[· % z.size]!)).toList = (List.replicate n z.toList).flatten := by
  apply List.ext_getElem?
  intro i
  by_cases hi : i < n * z.size
  · have hz : 0 < z.size := by
      rcases Nat.eq_zero_or_pos z.size with h | h
      · rw [h, Nat.mul_zero] at hi; omega
      · exact h
    have hm : i % z.size < z.size := Nat.mod_lt _ hz
    rw [replicate_flat z.toList n i (by simpa using hi)]
    simp [hi, hm]
  · rw [List.getElem?_eq_none (by simp; omega), List.getElem?_eq_none (by simp [List.length_flatten]; omega)]
theorem clr_ok (hT : TOk X.P X.T) (hi : Inv X γ F s w) (hρ : ∀ x, VRel γ F w (eo s.e x) (ρ x)) {asx : List Operand} {ts : List TypeId} (ho : o.op = .call ⟨.builtin .clear, ⟨asx⟩, ⟨ts⟩⟩)
    (h : eClr X.T s.L (eo s.e) ts asx = some f) : Does X γ F s w f ρ o := by
  unfold eClr at h
  split at h
  · rename_i t x
    split at h
    · rename_i e n es i j hk ex
      have hx := hρ x
      rw [ex] at hx
      cases hm : ownOf (s.L n) with
      | none => rw [hm] at h; cases h
      | some q =>
        obtain ⟨t', es', rows⟩ := q
        rw [hm] at h
        simp only [clrI] at h
        split at h
        · rename_i hb
          obtain ⟨rfl, rfl, hsz, hes, hij, hjr, hir, hnf⟩ := hb
          simp only [Option.some.injEq] at h
          subst h
          have hL := ownOf_some hm
          obtain ⟨b, c, cur, hg, hh, hle, hcm, hcs, hv, hl, h1, hnm, hw⟩ := own_write hi hL (by omega)
          obtain ⟨b1, l1, c1, o1, hg1, _, hjc, ho1, ev⟩ := hx
          rw [hg] at hg1
          simp only [Option.some.injEq, Value.slice.injEq, Addr.mk.injEq] at hg1
          obtain ⟨⟨rfl, _⟩, rfl, rfl⟩ := hg1
          have ho1' := ho1 (by omega)
          subst ho1'
          obtain ⟨d, hut, rfl⟩ := hT.und hk (by simp)
          obtain ⟨ii, z, hii, his, _, hz, hzz, hz1, hzs, _⟩ := hT.info t' (by omega)
          let news := (List.replicate (j - i) z.cells.toList).flatten
          have hzc : z.cells.size = es' := by rw [hzs, hsz]
          have hnl : news.length = (j - i) * es' := by simp [news, List.length_flatten, hzc]
          have hn1 : ∀ v ∈ news, v.oneCell' = true := by
            intro v hv
            obtain ⟨l, hl', hvl⟩ := List.mem_flatten.1 hv
            rw [List.eq_of_mem_replicate hl'] at hvl
            exact hz1 v hvl
          have hst := run_storeCells_at X.P b (i * es') t' news 0 cur w hh (by
            rw [hnl, Nat.add_zero, ← Nat.add_mul, hcs]; exact Nat.mul_le_mul_right _ (by omega)) hn1
          simp only [Nat.add_zero] at hst
          have hbs : i * es' + news.length ≤ rows.length * es' := by rw [hnl, ← Nat.add_mul]; exact Nat.mul_le_mul_right _ (by omega)
          have hzl : (X.T t').zero.length = es' := by rw [← hzz]; simp [hzc]
          have hstep := hw (i * es') news (rows.take i ++ List.replicate (j - i) (X.T t').zero ++ rows.drop j) hbs hn1 (by
              simp only [List.length_append, List.length_take, List.length_drop, List.length_replicate]; omega) (by
              intro r hr
              simp only [List.mem_append] at hr
              rcases hr with (hr | hr) | hr
              · exact hl r (List.mem_of_mem_take hr)
              · rw [List.eq_of_mem_replicate hr]; exact hzl
              · exact hl r (List.mem_of_mem_drop hr)) (by
              simp only [List.flatten_append]
              refine ((VL.takeRows i hv hl).append ?_).append ?_
              · have : (List.replicate (j - i) (X.T t').zero).flatten = news.map .v := by
                  simp only [news, ← hzz]
                  generalize j - i = m
                  induction m with
                  | zero => rfl
                  | succ m ih => simp only [List.replicate_succ, List.flatten_cons, List.map_append, ih]
                rw [this]; exact VL.plain _
              · rw [hnl, ← Nat.add_mul, show i + (j - i) = j by omega]
                exact VL.dropRows _ hv hl)
          have hzr : ∀ w', (zeroValue t').run X.P w' = .ok z w' := fun w' => by simp [zeroValue, typeInfo, hii, hz]
          have hcyc : (Builtin.zeroCells z.cells (j - i)).toList = news := by
            unfold Builtin.zeroCells
            exact cyc_eq z.cells (j - i)
          refine .stepped hi hstep (nx := .value (.tuple #[])) ?_ (.inl rfl) rfl
          unfold execOp
          rw [ho]
          by_cases hz0 : j - i = 0
          · have hnn : news = [] := List.eq_nil_of_length_eq_zero (by rw [hnl, hz0, Nat.zero_mul])
            have : w.setRow b (cur.toList.take (i * es') ++ news ++ cur.toList.drop (i * es' + news.length)).toArray = w := by
              rw [hnn]
              simp only [List.append_nil, List.length_nil, Nat.add_zero, List.take_append_drop, Array.toArray_toList]
              exact setRow_self w b cur t' (0, 0) hh
            rw [this]
            simp [resolve, invoke, builtin, ev, Builtin.clear_, run_underlying hut, hz0]
          · obtain ⟨m, hm'⟩ : ∃ m, j - i = m + 1 := ⟨j - i - 1, by omega⟩
            rw [hm'] at hcyc ev
            simp [resolve, invoke, builtin, ev, Builtin.clear_, run_underlying hut, hzr, hcyc, hst]
        · cases h
    · cases h
  · cases h
theorem made_ok (hT : TOk X.P X.T) (hi : Inv X γ F s w) (hρ : ∀ x, VRel γ F w (eo s.e x) (ρ x)) {t el : TypeId} {l c : Operand} (ho : o.op = .makeSlice t l c) (hk : (X.T t).k = .slice el)
    (h : mkSl X.T o.dst s.U el (eo s.e l) (eo s.e c) = some f) : Does X γ F s w f ρ o := by
  have hl := hρ l
  have hc := hρ c
  unfold mkSl at h
  split at h
  · rename_i kl lv kc cv el' ec
    rw [el', VRel] at hl
    rw [ec, VRel] at hc
    split at h
    · rename_i hb
      obtain ⟨h0, hlc, hc6, hby, hsz, hnf⟩ := hb
      obtain ⟨d, b, hd, hbb, hU, _, rfl⟩ := mk_eq h
      injection hbb with hbb
      subst hbb
      obtain ⟨dd, hut, rfl⟩ := hT.und hk (by simp)
      obtain ⟨i, z, hii, his, hib, hz, hzz, hz1, hzs, _⟩ := hT.info el hsz
      have hbytes : (i.bytes : Int) * cv ≤ 281474976710656 := by
        have : i.bytes * cv.toNat ≤ 100000 * 1000000 := Nat.mul_le_mul (by omega) (by omega)
        have e : ((i.bytes * cv.toNat : Nat) : Int) = (i.bytes : Int) * cv := by rw [Int.natCast_mul, Int.toNat_of_nonneg (by omega)]
        omega
      have hrun := run_make (P := X.P) w t el i z hut hii hz kl kc lv cv h0 hlc hbytes (by omega)
      have hsize : i.size = z.cells.size := by rw [his, hzs]
      have hmc : (madeCells z.cells (cv.toNat * i.size)).toList = (List.replicate cv.toNat z.cells.toList).flatten := by rw [hsize]; exact cyc_eq z.cells cv.toNat
      have hold : ∀ k, k < w.heap.size → (w.alloc (.cells (madeCells z.cells (cv.toNat * i.size)) el)).heap[k]? = w.heap[k]? := fun k hk => Below.heap_alloc w _ k hk
      have hzl : (X.T el).zero.length = (X.T el).size := by rw [← hzz]; simp [hzs]
      have hfl : ∀ m, (List.replicate m (X.T el).zero).flatten = ((List.replicate m z.cells.toList).flatten).map .v := by
        intro m
        induction m with
        | zero => rfl
        | succ m ih => simp only [List.replicate_succ, List.flatten_cons, List.map_append, ih, hzz]
      have htk : (List.replicate cv.toNat z.cells.toList).flatten.take (lv.toNat * (X.T el).size) = (List.replicate lv.toNat z.cells.toList).flatten := by
        obtain ⟨m, hm⟩ : ∃ m, cv.toNat = lv.toNat + m := ⟨cv.toNat - lv.toNat, by omega⟩
        rw [hm, ← List.replicate_append_replicate, List.flatten_append, List.take_append_of_le_length (by simp [List.length_flatten, hzs]), List.take_of_length_le (by simp [List.length_flatten, hzs])]
      have hs := Step.new (F' := F) (w' := w.alloc (.cells (madeCells z.cells (cv.toNat * i.size)) el)) (v := .slice (some ⟨w.heap.size, 0, none⟩) lv.toNat cv.toNat) (b := .own el (X.T el).size (List.replicate lv.toNat (X.T el).zero)) (om := none) hi hU (fun m h => by cases h)
        ⟨_, (List.replicate lv.toNat z.cells.toList).flatten, upd_same _ _ _, .inl ⟨by simp [List.length_flatten, hzs], .inr ⟨w.heap.size, cv.toNat, madeCells z.cells (cv.toNat * i.size), by simp, Nat.zero_le _, (MapKept.heap_alloc w _).1, by simp; omega, by unfold maxLen; omega, by simp [size_madeCells, his], by rw [hmc]; simpa using htk⟩⟩,
          by rw [hfl]; exact VL.plain _, by intro r hr; rw [List.eq_of_mem_replicate hr]; exact hzl, by
            intro u hu
            obtain ⟨l, hl', hvl⟩ := List.mem_flatten.1 hu
            rw [List.eq_of_mem_replicate hl'] at hvl
            exact hz1 u hvl⟩
        (fun k hk => by
          have : k = w.heap.size := by
            cases hcv : cv.toNat with
            | zero => simp [hcv, blockOf] at hk
            | succ m => simp [hcv, blockOf] at hk; omega
          subst this
          exact ⟨fun hF => by have := hi.fr _ hF; omega, by simp, .inl (Nat.le_refl _)⟩)
        (fun k hk _ => hold k hk) (fun _ h => h) (fun _ h => .inl h) (fun k h => by have := hi.fr k h; simp; omega) rfl rfl rfl (by simp)
      refine .stepped hi hs (nx := .value (.slice (some ⟨w.heap.size, 0, none⟩) lv.toNat cv.toNat)) ?_ (.inl rfl) ⟨upd_same _ _ _, .inl ⟨_, _, _, rfl⟩⟩
      unfold execOp
      rw [ho]
      simp [hl, hc, hrun]
    · cases h
  · cases h
theorem cpy_ok (hT : TOk X.P X.T) (hi : Inv X γ F s w) (hρ : ∀ x, VRel γ F w (eo s.e x) (ρ x)) {asx : List Operand} {ts : List TypeId} (ho : o.op = .call ⟨.builtin .copy, ⟨asx⟩, ⟨ts⟩⟩)
    (h : eCpy X.T s.L (eo s.e) ts asx = some f) : Does X γ F s w f ρ o := by
  unfold eCpy at h
  split at h
  · rename_i t u x y
    split at h
    · rename_i e hk
      have hx := hρ x
      have hy := hρ y
      unfold cpy at h
      split at h
      · rename_i m es x' rows ex ey
        rw [ex] at hx
        rw [ey] at hy
        split at h
        · rename_i t' es' old hm
          split at h
          · rename_i hb
            obtain ⟨rfl, hes', hes, hsz, hlen⟩ := hb
            simp only [Option.some.injEq] at h
            subst h
            have hL := ownOf_some hm
            obtain ⟨d, hut, rfl⟩ := hT.und hk (by simp)
            obtain ⟨ti, hti, hts⟩ := hT.sz (t := t') (.inr (by omega))
            have hse : ∀ w', (sizeOf t').run X.P w' = .ok es' w' := fun w' => by rw [run_sizeOf' hti w', hts, hes']
            obtain ⟨A, cap, hyv, hcl, hcm, _, _, hr⟩ := hy
            obtain ⟨hgx, _⟩ := hx
            rcases hr with rfl | ⟨b2, o2, rfl, hF, hr⟩
            · -- nothing is copied
              have ho0 : old = [] := List.eq_nil_of_length_eq_zero hlen
              subst ho0
              obtain ⟨sv, xs, hg, hown, hrest⟩ := hi.blk m _ hL
              rw [hg] at hgx
              injection hgx with hgx
              have hs := Step.write hi (m := m) (b := .own t' es' []) (w' := w) (by simp [hL]) ⟨sv, xs, hg, hown, hrest⟩ (fun _ _ => rfl) rfl rfl rfl rfl
              obtain ⟨B, cp, hsv⟩ : ∃ B cp, sv = .slice B 0 cp := by
                rcases hown with hown | ⟨_, _, B, rfl⟩
                · rcases hown.2 with ⟨rfl, _⟩ | ⟨g, cp, cur, rfl, _⟩
                  · exact ⟨none, 0, rfl⟩
                  · exact ⟨_, cp, rfl⟩
                · exact ⟨B, 0, rfl⟩
              refine .stepped hi hs (nx := .value (.int .i64 0)) ?_ (.inl rfl) rfl
              unfold execOp
              rw [ho]
              have hlc : ∀ (a : Addr), (loadCells a 0).run X.P w = .ok #[] w := fun a => by simp [loadCells, loadCellsFrom]
              subst hsv
              cases A <;> cases B <;> simp [resolve, invoke, builtin, ← hgx, hyv, Builtin.copy_, run_underlying hut, hse, Builtin.lenOf, Builtin.firstCells, hlc, storeCells, goInt]
            · by_cases h0 : rows.length = 0
              · have hr0 : rows = [] := List.eq_nil_of_length_eq_zero h0
                subst hr0
                have ho0 : old = [] := List.eq_nil_of_length_eq_zero hlen
                subst ho0
                obtain ⟨sv, xs, hg, hown, hrest⟩ := hi.blk m _ hL
                rw [hg] at hgx
                injection hgx with hgx
                have hs := Step.write hi (m := m) (b := .own t' es' []) (w' := w) (by simp [hL]) ⟨sv, xs, hg, hown, hrest⟩ (fun _ _ => rfl) rfl rfl rfl rfl
                obtain ⟨B, cp, hsv⟩ : ∃ B cp, sv = .slice B 0 cp := by
                  rcases hown with hown | ⟨_, _, B, rfl⟩
                  · rcases hown.2 with ⟨rfl, _⟩ | ⟨g, cp, cur, rfl, _⟩
                    · exact ⟨none, 0, rfl⟩
                    · exact ⟨_, cp, rfl⟩
                  · exact ⟨B, 0, rfl⟩
                refine .stepped hi hs (nx := .value (.int .i64 0)) ?_ (.inl rfl) rfl
                unfold execOp
                rw [ho]
                have hlc : ∀ (a : Addr), (loadCells a 0).run X.P w = .ok #[] w := fun a => by simp [loadCells, loadCellsFrom]
                subst hsv
                cases B <;> simp [resolve, invoke, builtin, ← hgx, hyv, Builtin.copy_, run_underlying hut, hse, Builtin.lenOf, Builtin.firstCells, hlc, storeCells, goInt]
              · obtain ⟨b, c, cur, hg, hh, hle, hcm', hcs, hv, hl, h1, hnm, hw⟩ := own_write hi hL (by omega)
                rw [hg] at hgx
                injection hgx with hgx
                obtain ⟨vs, hrd, hvv, hv1, hvl⟩ := hr.read
                rw [hes, ← hes'] at hvl
                have hstep := hw 0 vs rows (by rw [hvl, hlen]; omega) hv1 hlen.symm (fun r hr' => by rw [hr.lens r hr', hes, hes']) (by
                  have e1 : (cur.toList.take (old.length * es')).drop (0 + vs.length) = [] := by
                    apply List.drop_eq_nil_of_le
                    rw [hvl, hlen]
                    simp only [List.length_take]
                    omega
                  rw [e1]
                  simpa using hvv)
                have hfc : (Builtin.firstCells es' rows.length (.slice (some ⟨b2, o2, none⟩) rows.length cap)).run X.P w = .ok vs.toArray w := by
                  refine run_firstCells_some (P := X.P) w es' rows.length ⟨b2, o2, none⟩ _ _ vs hvl (fun q v hq => ?_)
                  rw [add_addr]
                  exact hrd q v hq
                have hle' : old.length * es' ≤ c * es' := Nat.mul_le_mul_right _ hle
                have hst := run_storeCells_at X.P b 0 t' vs 0 cur w hh (by rw [hvl, hcs]; rw [hlen] at hle'; omega) hv1
                simp only [Nat.add_zero, Nat.zero_add] at hst
                have hmin : Nat.min rows.length old.length = rows.length := by rw [hlen]; exact Nat.min_self _
                refine .stepped hi hstep (nx := .value (.int .i64 rows.length)) ?_ (.inl rfl) rfl
                unfold execOp
                rw [ho]
                simp [resolve, invoke, builtin, ← hgx, hyv, Builtin.copy_, run_underlying hut, hse, Builtin.lenOf, hmin, hfc, hst, goInt]
          · cases h
        · cases h
      · cases h
    · cases h
  · cases h
end
end Go.Proofs.YtkbidoikndgheaaDoor.HL

namespace Go.Proofs.YtkbidoikndgheaaDoor.HL
open Go.RowKit Go.Lib
section
variable {X : Cx} {γ : Nat → Option Value} {F : Nat → Prop} {s : St} {w : World} {ρ : Operand → Value} {f : Eff} {o : Oper}
theorem own_isSlice {t es n : Nat} {v : Value} {xs : List Value} (h : Own w t es v n xs) : ∃ A c, v = .slice A n c := by
  rcases h with h | ⟨rfl, _, A, rfl⟩
  · exact ownsRow_slice h
  · exact ⟨A, 0, rfl⟩
/-- What is appended to. -/
theorem appD_ok (hi : Inv X γ F s w) {A : AV} {v : Value} (ha : VRel γ F w A v) {e sz : Nat} {om : Option Nat} {rows : List (List AV)} (h : appD s.L e sz A = some (om, rows)) :
    ∃ xs, Own w e sz v rows.length xs ∧ VL noName F w rows.flatten xs ∧ (∀ r ∈ rows, r.length = sz) ∧ (∀ u ∈ xs, u.oneCell' = true) ∧ (∀ k, blockOf v = some k → ∃ m, om = some m ∧ (s.L m).isSome ∧ nmb γ m = some k) ∧
      (∀ m, om = some m → (s.L m).isSome) := by
  unfold appD at h
  split at h
  · rename_i m
    cases hm : ownOf (s.L m) with
    | none => rw [hm] at h; cases h
    | some q =>
      obtain ⟨t, es, rows'⟩ := q
      rw [hm] at h
      simp only at h
      split at h
      · rename_i hb
        simp only [Option.some.injEq, Prod.mk.injEq] at h
        obtain ⟨rfl, rfl⟩ := h
        obtain ⟨rfl, rfl⟩ := hb
        have hL := ownOf_some hm
        obtain ⟨sv, xs, hg, ho, hv, hl, h1⟩ := hi.blk m _ hL
        obtain ⟨hg', _⟩ := ha
        rw [hg] at hg'
        injection hg' with hg'
        subst hg'
        exact ⟨xs, ho, hv, hl, h1, fun k hk => ⟨m, rfl, by simp [hL], by simp [nmb, hg, hk]⟩, fun m' e => by cases e; simp [hL]⟩
      · cases h
  · rename_i A'
    simp only [Option.some.injEq, Prod.mk.injEq] at h
    obtain ⟨rfl, rfl⟩ := h
    rw [VRel] at ha
    subst ha
    exact ⟨[], .inr ⟨rfl, rfl, A', rfl⟩, rfl, by simp, by simp, fun k hk => by cases A' <;> simp [blockOf] at hk, fun m e => by cases e⟩
  · split at h
    · simp only [Option.some.injEq, Prod.mk.injEq] at h
      obtain ⟨rfl, rfl⟩ := h
      obtain ⟨A', cap, rfl, _, _, hc, _, _⟩ := ha
      have : cap = 0 := hc rfl
      subst this
      exact ⟨[], .inr ⟨rfl, rfl, A', rfl⟩, rfl, by simp, by simp, fun k hk => by cases A' <;> simp [blockOf] at hk, fun m e => by cases e⟩
    · cases h
  · cases h
theorem Rd.cells {b o : Nat} {vs : List Value} (h : Rd w b o vs) : ∀ j v, vs[j]? = some v → w.cell? ((⟨b, o, none⟩ : Addr).add j) = some v := fun j v hj => by rw [add_addr]; exact h j v hj
theorem cell_heap {w' : World} (hw : w'.heap = w.heap) (a : Addr) : w'.cell? a = w.cell? a := by simp [World.cell?, hw]
/-- What is appended. -/
theorem appS_ok (hi : Inv X γ F s w) {A : AV} {v : Value} (ha : VRel γ F w A v) {sz : Nat} {b8 : Bool} {news : List (List AV)} (h : appS s.L sz b8 A = some news) :
    ∃ vs, (∀ w', (Builtin.lenOf v).run X.P w' = .ok news.length w') ∧ (∀ w', w'.heap = w.heap → (Builtin.firstCells sz news.length v).run X.P w' = .ok vs.toArray w') ∧ VL noName F w news.flatten vs ∧ (∀ r ∈ news, r.length = sz) ∧
      (∀ u ∈ vs, u.oneCell' = true) ∧ vs.length = news.length * sz := by
  unfold appS at h
  split at h
  · rename_i m
    cases hm : ownOf (s.L m) with
    | none => rw [hm] at h; cases h
    | some q =>
      obtain ⟨t, es, rows'⟩ := q
      rw [hm] at h
      simp only at h
      split at h
      · rename_i hb
        simp only [Option.some.injEq] at h
        subst h
        subst hb
        have hL := ownOf_some hm
        obtain ⟨sv, xs, hg, ho, hv, hl, h1⟩ := hi.blk m _ hL
        obtain ⟨hg', _⟩ := ha
        rw [hg] at hg'
        injection hg' with hg'
        subst hg'
        rcases ho with ho | ⟨h0, rfl, A, rfl⟩
        · rcases ho.2 with ⟨rfl, h0⟩ | ⟨g, cap, cur, rfl, _, hgg, hle, hcm, hcs, htk⟩
          · have hx : xs = [] := List.eq_nil_of_length_eq_zero (by rw [ho.1, h0, Nat.zero_mul])
            subst hx
            exact ⟨[], fun _ => by rw [h0]; rfl, fun w' _ => by rw [h0]; exact run_firstCells_zero _ _ _ _ _, hv, hl, h1, ho.1⟩
          · refine ⟨xs, fun _ => rfl, fun w' hw => ?_, hv, hl, h1, ho.1⟩
            refine run_firstCells_some (P := X.P) w' es rows'.length ⟨g, 0, none⟩ _ cap xs ho.1 (fun j v hj => ?_)
            rw [cell_heap hw]
            have hr := (Rd.of_cells hgg).take (rows'.length * es)
            rw [htk] at hr
            exact hr.cells j v hj
        · exact ⟨[], fun _ => by rw [h0]; rfl, fun w' _ => by rw [h0]; exact run_firstCells_zero _ _ _ _ _, hv, hl, by simp, by rw [h0]; simp⟩
      · cases h
  · rename_i A'
    simp only [Option.some.injEq] at h
    subst h
    rw [VRel] at ha
    subst ha
    exact ⟨[], fun _ => rfl, fun w' _ => run_firstCells_zero _ _ _ _ _, rfl, by simp, by simp, by simp⟩
  · rename_i es x rows
    split at h
    · rename_i hes
      simp only [Option.some.injEq] at h
      subst h
      subst hes
      obtain ⟨A', cap, rfl, _, _, _, _, hr⟩ := ha
      rcases hr with rfl | ⟨b, o', rfl, hF, hr⟩
      · exact ⟨[], fun _ => rfl, fun w' _ => run_firstCells_zero _ _ _ _ _, rfl, by simp, by simp, by simp⟩
      · obtain ⟨vs, h1, h2, h3, h4⟩ := hr.read
        refine ⟨vs, fun _ => rfl, fun w' hw => ?_, h2, ?_, h3, h4⟩
        · refine run_firstCells_some (P := X.P) w' es rows.length ⟨b, o', none⟩ _ cap vs h4 (fun j v hj => ?_)
          rw [cell_heap hw]
          exact h1.cells j v hj
        · exact VR.lens hr
    · cases h
  · rename_i str
    split at h
    · rename_i hb
      simp only [Option.some.injEq] at h
      subst h
      rw [VRel] at ha
      subst ha
      have hln : (u8s str).length = str.size := by simp [u8s, ByteArray.toList_eq]
      refine ⟨strCells str, fun _ => by rw [hln]; rfl, fun w' _ => by rw [hln]; exact run_firstCells_string (P := X.P) w' sz str, ?_, ?_, strCells_oneCell str, ?_⟩
      · have : (u8s str).flatten = (strCells str).map .v := by
          simp only [u8s, strCells, ByteArray.toList_eq]
          generalize str.data.toList = l
          induction l with
          | nil => rfl
          | cons b l ih => simp only [List.map_cons, List.flatten_cons, ih]; rfl
        rw [this]
        exact VL.plain _
      · intro r hr
        simp only [u8s, List.mem_map] at hr
        obtain ⟨b, _, rfl⟩ := hr
        rw [hb.2]; rfl
      · rw [strCells_length, hln, hb.2, Nat.mul_one]
    · cases h
  · cases h
theorem app_ok (hT : TOk X.P X.T) (hi : Inv X γ F s w) (hρ : ∀ x, VRel γ F w (eo s.e x) (ρ x)) {asx : List Operand} {ts : List TypeId} (ho : o.op = .call ⟨.builtin .append, ⟨asx⟩, ⟨ts⟩⟩)
    (h : eApp X.T o.dst s.L s.U (eo s.e) ts asx = some f) : Does X γ F s w f ρ o := by
  unfold eApp at h
  split at h
  · rename_i t u x y
    split at h
    · rename_i e hk
      split at h
      · rename_i hu0
        unfold appX at h
        split at h
        · rename_i n es i n' es' j k ex ey
          split at h
          · rename_i hb
            obtain ⟨rfl, rfl, hss⟩ := hb
            exact appI_ok hT hi ho hk hss (ex ▸ hρ x) (ey ▸ hρ y) h
          · cases h
        unfold app2 at h
        split at h
        · rename_i d om rows news hd hD hS
          split at h
          · cases h
          · rename_i hU
            have hU' : s.U d = false := by simpa using hU
            split at h
            · rename_i hb
              obtain ⟨hroom, hsz0, hd4⟩ := hb
              simp only [Option.some.injEq] at h
              subst h
              obtain ⟨xs, hown, hvx, hlx, h1x, hbx, homs⟩ := appD_ok hi (hρ x) hD
              obtain ⟨vs, hlen', hsrc, hvy, hly, h1y, hyl⟩ := appS_ok hi (hρ y) hS
              obtain ⟨dd, hut, rfl⟩ := hT.und hk (by simp)
              obtain ⟨i, z, hii, his, hib, hz, hzz, hz1, hzs, _⟩ := hT.info e hsz0
              have hud : ∃ d, X.P.underlying u = some d ∧ (d = .string ∨ ∃ e2, d = .slice e2) := by
                unfold isSS at hu0
                split at hu0
                · rename_i hk2; obtain ⟨d, h1, h2⟩ := hT.und hk2 (by simp); exact ⟨d, h1, .inl h2⟩
                · rename_i e2 hk2; obtain ⟨d, h1, h2⟩ := hT.und hk2 (by simp); exact ⟨d, h1, .inr ⟨e2, h2⟩⟩
                · cases hu0
              obtain ⟨du, huu, hdu⟩ := hud
              simp only [appOk, Bool.and_eq_true, decide_eq_true_eq, List.length_append] at hroom
              obtain ⟨hbytes, hlen⟩ := hroom
              rw [← hib] at hbytes
              obtain ⟨v', w', hrun, hown', hgr, hbl⟩ := run_append_any (ty := o.type) hut huu hdu hii hz his (by rw [hzs]) hown hlen' hsrc hyl h1y (by unfold maxLen; omega) hbytes
              have hnF : ∀ k, blockOf (ρ x) = some k → ¬ F k := fun k hk hF => by
                obtain ⟨m, _, h2, h3⟩ := hbx k hk
                exact (hi.own m k h2 h3).1 hF
              have hFw : ∀ b, F b → w'.heap[b]? = w.heap[b]? := fun b hb => hgr.block b (hi.fr b hb) (fun e => hnF b e.symm hb)
              have hs := Step.new (F' := F) (w' := w') (v := v') (b := .own e (X.T e).size (rows ++ news)) (om := om) hi hU'
                (fun m hm hmd => by
                  obtain ⟨b, hb⟩ := Option.isSome_iff_exists.1 (homs m hm)
                  obtain ⟨v, hv⟩ := (hi.blk m b hb).named
                  have := hi.dom m v hv
                  rw [hmd, hU'] at this
                  cases this)
                ⟨v', xs ++ vs, upd_same _ _ _, by rw [List.length_append]; exact hown', by
                    rw [List.flatten_append]
                    exact (hvx.append hvy).mono (fun _ h => h) hFw _ _ (fun _ _ _ h => h), by
                    intro r hr
                    rcases List.mem_append.1 hr with hr | hr
                    · exact hlx r hr
                    · exact hly r hr, by
                    intro r hr
                    rcases List.mem_append.1 hr with hr | hr
                    · exact h1x r hr
                    · exact h1y r hr⟩
                (fun k hk => by
                  obtain ⟨h2, h3⟩ := hbl k hk
                  rcases h3 with h3 | h3
                  · exact ⟨hnF k h3, h2, .inr (hbx k h3)⟩
                  · exact ⟨fun hF => by have := hi.fr k hF; omega, h2, .inl h3⟩)
                (fun k hk h => hgr.block k hk (fun e => by
                  obtain ⟨m, h2, h3, h4⟩ := hbx k e.symm
                  exact h m h2 h3 h4))
                (fun _ h => h) (fun _ h => .inl h) (fun k h => Nat.lt_of_lt_of_le (hi.fr k h) hgr.size) hgr.os hgr.tape hgr.output hgr.size
              refine .stepped hi hs (nx := .value v') ?_ (.inl rfl) ⟨upd_same _ _ _, .inl ?_⟩
              · unfold execOp
                rw [ho]
                simp [resolve, invoke, builtin, hrun]
              · obtain ⟨A, c, e⟩ := own_isSlice hown'
                exact ⟨A, _, c, e⟩
            · cases h
        · cases h
      · cases h
    · cases h
  · cases h
/-- An operation that is no call of a function. -/
theorem ev_ok (hT : TOk X.P X.T) (hi : Inv X γ F s w) (hρ : ∀ x, VRel γ F w (eo s.e x) (ρ x)) (o : Oper) (h : ev X.T o.dst s o.op = some f) : Does X γ F s w f ρ o := by
  unfold ev at h
  cases hA : isA o.op with
  | false =>
    rw [hA] at h
    simp only [cond_false] at h
    cases hv : evV X.T s.L s.e o.op with
    | none => rw [hv] at h; cases h
    | some r =>
      rw [hv] at h
      simp only [eff0, Option.some.injEq] at h
      subst h
      obtain ⟨v, hr, hrel⟩ := evV_ok hT (fun n b hb => hi.blk n b hb) hρ o hv
      exact ⟨_, v, w, γ, F, hr, .inl rfl, hi, .refl γ F w, hrel⟩
  | true =>
    rw [hA] at h
    simp only [cond_true] at h
    have hop : ∀ op, o.op = op → evA X.T o.dst s.L s.U s.e op = some f → Does X γ F s w f ρ o := by
      intro op e h
      cases op with
      | alloc t =>
        simp only [evA] at h
        split at h
        · cases h
        · rename_i h0
          obtain ⟨d, b, hd, hb, hU, _, rfl⟩ := mk_eq h
          injection hb with hb
          subst hb
          obtain ⟨i, z, hii, his, _, hz, hzz, h1, _⟩ := hT.info t h0
          refine Does.box hi hU (arr := z.cells) (by rw [← hzz]; exact VL.plain _) h1 ?_
          unfold execOp
          rw [e]
          simp [Instr.alloc, zeroValue, typeInfo, hii, hz, newVar, newRow]
      | box t x =>
        simp only [evA] at h
        obtain ⟨d, b, hd, hb, hU, _, rfl⟩ := mk_eq h
        simp only [Option.map_eq_some_iff] at hb
        obtain ⟨cs, hc, rfl⟩ := hb
        obtain ⟨hv, h1⟩ := cells_ok (hρ x) hc
        refine Does.box hi hU hv h1 ?_
        unfold execOp
        rw [e]
        simp [Instr.box, newVar, newRow]
      | store t a x =>
        simp only [evA] at h
        split at h
        · cases h
        · rename_i h0; exact store_ok hT hi hρ e h0 h
      | buildSlice t n ps =>
        obtain ⟨ps⟩ := ps
        simp only [evA, Option.map_eq_some_iff] at h
        obtain ⟨r, hr, rfl⟩ := h
        exact bs_ok hT hi hρ e hr
      | makeMap t r =>
        cases r with
        | some _ => cases h
        | none =>
          simp only [evA] at h
          split at h
          · obtain ⟨d, b, hd, hb, hU, _, rfl⟩ := mk_eq h
            injection hb with hb
            subst hb
            exact makeMap_ok hi e hU
          · cases h
      | mapUpdate t m k x =>
        simp only [evA] at h
        split at h
        · rename_i kt et hk
          split at h
          · rename_i hb; exact mapUpd_ok hT hi hρ e hk hb.1 h
          · cases h
        · cases h
      | makeSlice t l c =>
        simp only [evA] at h
        split at h
        · rename_i el hk; exact made_ok hT hi hρ e hk h
        · cases h
      | call c =>
        obtain ⟨callee, ⟨asx⟩, ⟨ts⟩⟩ := c
        cases callee with
        | builtin b =>
          cases b with
          | append => exact app_ok hT hi hρ e h
          | clear => exact clr_ok hT hi hρ e h
          | copy => exact cpy_ok hT hi hρ e h
          | _ => cases h
        | _ => cases h
      | _ => cases h
    exact hop o.op rfl h
end
end Go.Proofs.YtkbidoikndgheaaDoor.HL

