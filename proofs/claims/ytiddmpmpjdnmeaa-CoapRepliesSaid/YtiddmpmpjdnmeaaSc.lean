/-
  Operations over a symbolic state: plain ones, and reads.
-/
import Derived.Test.YtiddmpmpjdnmeaaSb
namespace Go.Proofs.Ytiddmpmpjdnmeaa.A
open Go.RowKit L
set_option linter.unusedVariables false
set_option linter.unusedSimpArgs false

class TyD (P : Program) (T : Nat) (d : outParam TypeDesc) : Prop where
  ax : P.underlying T = some d
class TyN (P : Program) (T : Nat) (k bs : outParam Nat) (z : outParam Value) : Prop where
  ax : ∃ i, P.info? T = some i ∧ i.size = k ∧ i.bytes = bs ∧ i.zero = some z
/-- A type of one cell, or of several. -/
class TyG (P : Program) (T : Nat) (g : outParam Bool) (k : outParam Nat) : Prop where
  ax : ∃ d i, P.underlying T = some d ∧ P.info? T = some i ∧ i.size = k ∧ (match d with | .struct _ | .array _ _ => true | _ => false) = g
class TyS (P : Program) (T : Nat) (U k bs : outParam Nat) (z : outParam Value) : Prop where
  ty : P.underlying T = some (.slice U)
  el : ∃ i, P.info? U = some i ∧ i.size = k ∧ i.bytes = bs ∧ i.zero = some z
class TyL (P : Program) (T : Nat) (n k : outParam Nat) : Prop where
  ax : ∃ U i, P.underlying T = some (.array n U) ∧ P.info? U = some i ∧ i.size = k
class TyF (P : Program) (T f : Nat) (off : outParam Nat) : Prop where
  ax : ∃ fs fld i, P.underlying T = some (.struct fs) ∧ fs[f]? = some fld ∧ fld.offset = off ∧ P.info? fld.type = some i ∧ i.size ≠ 0

section
variable {P : Program} {E : Env} {H : List HE} {N : Nat} {o : Oper}

theorem O.move {x : Operand} {v : AV} (ho : o.op = .move x) (hx : ev E x = some v) : OpW P N o E H (Is v) := .of_run fun R a W h1 h2 ha =>
  ⟨a.eval x, by simp only [execOp, ho]; rfl, ha.ev hx⟩
theorem O.assign {x : Operand} {v : AV} (ho : o.op = .assign x) (hx : ev E x = some v) : OpW P N o E H (Is v) := .of_run fun R a W h1 h2 ha =>
  ⟨a.eval x, by simp only [execOp, ho]; rfl, ha.ev hx⟩
theorem O.pickT {c x y : Operand} {v : AV} (ho : o.op = .pick c x y) (hc : ev E c = some (.val (.bool true))) (hx : ev E x = some v) : OpW P N o E H (Is v) := .of_run fun R a W h1 h2 ha =>
  ⟨a.eval x, by simp only [execOp, ho, (ha.ev hc).val_inv]; rfl, ha.ev hx⟩
theorem O.pickF {c x y : Operand} {v : AV} (ho : o.op = .pick c x y) (hc : ev E c = some (.val (.bool false))) (hy : ev E y = some v) : OpW P N o E H (Is v) := .of_run fun R a W h1 h2 ha =>
  ⟨a.eval y, by simp only [execOp, ho, (ha.ev hc).val_inv]; rfl, ha.ev hy⟩

/-- 'c && x', 'c || x': x was run only if it was asked. -/
theorem O.pickAnd {c x y : Operand} {p q z : Bool} (ho : o.op = .pick c x y) (hc : ev E c = some (.val (.bool p))) (hx : ev E x = some (.opt q (.val (.bool z)))) (hy : ev E y = some (.val (.bool false))) (hq : p = true → q = true) : OpW P N o E H (Is (.val (.bool (p && z)))) := .of_run fun R a W h1 h2 ha =>
  ⟨.bool (p && z), by
    cases p
    · simp only [execOp, ho, (ha.ev hc).val_inv, (ha.ev hy).val_inv]; rfl
    · simp only [execOp, ho, (ha.ev hc).val_inv, ((ha.ev hx).opt_inv.1 (hq rfl)).val_inv]; rfl, .val _⟩
theorem O.pickOr {c x y : Operand} {p q z : Bool} (ho : o.op = .pick c x y) (hc : ev E c = some (.val (.bool p))) (hx : ev E x = some (.val (.bool true))) (hy : ev E y = some (.opt q (.val (.bool z)))) (hq : p = false → q = true) : OpW P N o E H (Is (.val (.bool (p || z)))) := .of_run fun R a W h1 h2 ha =>
  ⟨.bool (p || z), by
    cases p
    · simp only [execOp, ho, (ha.ev hc).val_inv, ((ha.ev hy).opt_inv.1 (hq rfl)).val_inv]; rfl
    · simp only [execOp, ho, (ha.ev hc).val_inv, (ha.ev hx).val_inv]; rfl, .val _⟩

theorem O.bin {op : BinOp} {T T' : Nat} {x y : Operand} {u w : Value} {v : Value} (ho : o.op = .binOp op T x y T') (hx : ev E x = some (.val u)) (hy : ev E y = some (.val w))
    (hr : ∀ W, (do eqGuard op T x y u w; binOp op T u w : Sem Value).run P W = .ok v W) : OpW P N o E H (Is (.val v)) := .of_run fun R a W h1 h2 ha =>
  ⟨v, by
    simp only [execOp, ho, (ha.ev hx).val_inv, (ha.ev hy).val_inv]
    rw [Sem.run_bind, hr W]; rfl, .val _⟩
theorem O.binI {op : BinOp} {T T' : Nat} {x y : Operand} {k : IntKind} {p q : Int} {v : Value} (ho : o.op = .binOp op T x y T') (hx : ev E x = some (.val (.int k p))) (hy : ev E y = some (.val (.int k q)))
    (hr : ∀ W, (binOp op T (.int k p) (.int k q)).run P W = .ok v W) : OpW P N o E H (Is (.val v)) := O.bin ho hx hy fun W => by
  have : (eqGuard op T x y (.int k p) (.int k q)).run P W = .ok () W := by
    unfold eqGuard; split <;> rfl
  rw [Sem.run_bind, this]; exact hr W
theorem O.add {T T' : Nat} {x y : Operand} {k : IntKind} {p q c : Int} (ho : o.op = .binOp .add T x y T') (hx : ev E x = some (.val (.int k p))) (hy : ev E y = some (.val (.int k q))) (hc : k.wrap (p + q) = c) :
    OpW P N o E H (Is (.val (.int k c))) := O.binI ho hx hy fun W => by simp [binOp, Op.intArith, hc]
theorem O.sub {T T' : Nat} {x y : Operand} {k : IntKind} {p q c : Int} (ho : o.op = .binOp .sub T x y T') (hx : ev E x = some (.val (.int k p))) (hy : ev E y = some (.val (.int k q))) (hc : k.wrap (p - q) = c) :
    OpW P N o E H (Is (.val (.int k c))) := O.binI ho hx hy fun W => by simp [binOp, Op.intArith, hc]
theorem O.mul {T T' : Nat} {x y : Operand} {k : IntKind} {p q c : Int} (ho : o.op = .binOp .mul T x y T') (hx : ev E x = some (.val (.int k p))) (hy : ev E y = some (.val (.int k q))) (hc : k.wrap (p * q) = c) :
    OpW P N o E H (Is (.val (.int k c))) := O.binI ho hx hy fun W => by simp [binOp, Op.intArith, hc]
theorem O.quo {T T' : Nat} {x y : Operand} {k : IntKind} {p q c : Int} (ho : o.op = .binOp .quo T x y T') (hx : ev E x = some (.val (.int k p))) (hy : ev E y = some (.val (.int k q))) (h0 : q ≠ 0) (hc : k.wrap (p.tdiv q) = c) :
    OpW P N o E H (Is (.val (.int k c))) := O.binI ho hx hy fun W => by simp [binOp, Op.intDiv, hc, h0]
theorem O.rem {T T' : Nat} {x y : Operand} {k : IntKind} {p q c : Int} (ho : o.op = .binOp .rem T x y T') (hx : ev E x = some (.val (.int k p))) (hy : ev E y = some (.val (.int k q))) (h0 : q ≠ 0) (hc : p.tmod q = c) :
    OpW P N o E H (Is (.val (.int k c))) := O.binI ho hx hy fun W => by simp [binOp, Op.intDiv, hc, h0]
theorem O.lss {T T' : Nat} {x y : Operand} {k : IntKind} {p q : Int} {c : Bool} (ho : o.op = .binOp .lss T x y T') (hx : ev E x = some (.val (.int k p))) (hy : ev E y = some (.val (.int k q))) (hc : decide (p < q) = c) :
    OpW P N o E H (Is (.val (.bool c))) := O.binI ho hx hy fun W => by simp [binOp, Op.intCmp, ← hc]
theorem O.leq {T T' : Nat} {x y : Operand} {k : IntKind} {p q : Int} {c : Bool} (ho : o.op = .binOp .leq T x y T') (hx : ev E x = some (.val (.int k p))) (hy : ev E y = some (.val (.int k q))) (hc : decide (p ≤ q) = c) :
    OpW P N o E H (Is (.val (.bool c))) := O.binI ho hx hy fun W => by simp [binOp, Op.intCmp, ← hc]
theorem O.gtr {T T' : Nat} {x y : Operand} {k : IntKind} {p q : Int} {c : Bool} (ho : o.op = .binOp .gtr T x y T') (hx : ev E x = some (.val (.int k p))) (hy : ev E y = some (.val (.int k q))) (hc : decide (q < p) = c) :
    OpW P N o E H (Is (.val (.bool c))) := O.binI ho hx hy fun W => by simp [binOp, Op.intCmp, ← hc]
theorem O.geq {T T' : Nat} {x y : Operand} {k : IntKind} {p q : Int} {c : Bool} (ho : o.op = .binOp .geq T x y T') (hx : ev E x = some (.val (.int k p))) (hy : ev E y = some (.val (.int k q))) (hc : decide (q ≤ p) = c) :
    OpW P N o E H (Is (.val (.bool c))) := O.binI ho hx hy fun W => by simp [binOp, Op.intCmp, ← hc]
theorem O.eql {T T' : Nat} {x y : Operand} {k : IntKind} {p q : Int} {c : Bool} (ho : o.op = .binOp .eql T x y T') (hx : ev E x = some (.val (.int k p))) (hy : ev E y = some (.val (.int k q))) (hc : (p == q) = c) :
    OpW P N o E H (Is (.val (.bool c))) := O.binI ho hx hy fun W => by simp [binOp, Op.intCmp, ← hc]
theorem O.neq {T T' : Nat} {x y : Operand} {k : IntKind} {p q : Int} {c : Bool} (ho : o.op = .binOp .neq T x y T') (hx : ev E x = some (.val (.int k p))) (hy : ev E y = some (.val (.int k q))) (hc : (p != q) = c) :
    OpW P N o E H (Is (.val (.bool c))) := O.binI ho hx hy fun W => by simp [binOp, Op.intCmp, ← hc]
theorem O.shl {T T' : Nat} {x y : Operand} {k k' : IntKind} {p q c : Int} (ho : o.op = .binOp .shl T x y T') (hx : ev E x = some (.val (.int k p))) (hy : ev E y = some (.val (.int k' q))) (h0 : 0 ≤ q) (hc : k.wrap (p * 2 ^ (min q.toNat k.bits)) = c) :
    OpW P N o E H (Is (.val (.int k c))) := O.bin ho hx hy fun W => by
  have : ¬ q < 0 := by omega
  simp [eqGuard, binOp, Op.shift, this, hc]
theorem O.shr {T T' : Nat} {x y : Operand} {k k' : IntKind} {p q c : Int} (ho : o.op = .binOp .shr T x y T') (hx : ev E x = some (.val (.int k p))) (hy : ev E y = some (.val (.int k' q))) (h0 : 0 ≤ q) (hc : p.fdiv (2 ^ (min q.toNat k.bits)) = c) :
    OpW P N o E H (Is (.val (.int k c))) := O.bin ho hx hy fun W => by
  have : ¬ q < 0 := by omega
  simp [eqGuard, binOp, Op.shift, this, hc]
theorem O.bits {op : BinOp} {T T' : Nat} {x y : Operand} {k : IntKind} {p q c : Int} (ho : o.op = .binOp op T x y T') (hop : (match op with | .and | .or | .xor | .andNot => true | _ => false) = true) (hx : ev E x = some (.val (.int k p))) (hy : ev E y = some (.val (.int k q)))
    (hc : ∀ W, (Op.intBits op k p q).run P W = .ok (.int k c) W) : OpW P N o E H (Is (.val (.int k c))) := O.binI ho hx hy fun W => by
  cases op <;> first | (cases hop; done) | (simp [binOp]; exact hc W)
theorem equalIn_bool {T : Nat} [TyD P T .bool] (d : Nat) (p q : Bool) (W : World) : (Op.equalIn (d + 1) T (.bool p) (.bool q)).run P W = .ok (p == q) W := by
  simp [Op.equalIn, run_underlying (TyD.ax (P := P) (T := T))]
theorem equal_bool {T : Nat} [TyD P T .bool] (p q : Bool) (W : World) : (Op.equal T (.bool p) (.bool q)).run P W = .ok (p == q) W := equalIn_bool (P := P) 9999 p q W
theorem O.eqlB {T T' : Nat} [TyD P T .bool] {x y : Operand} {p q : Bool} {c : Bool} (ho : o.op = .binOp .eql T x y T') (hx : ev E x = some (.val (.bool p))) (hy : ev E y = some (.val (.bool q))) (hc : (p == q) = c) :
    OpW P N o E H (Is (.val (.bool c))) := O.bin ho hx hy fun W => by
  have h1 : (eqGuard .eql T x y (.bool p) (.bool q)).run P W = .ok () W := by unfold eqGuard; split <;> rfl
  rw [Sem.run_bind, h1]
  show (binOp .eql T (.bool p) (.bool q)).run P W = _
  rw [show binOp .eql T (.bool p) (.bool q) = (do pure (.bool (← Op.equal T (.bool p) (.bool q)))) from rfl, Sem.run_bind, equal_bool, ← hc]
  rfl
theorem O.neqB {T T' : Nat} [TyD P T .bool] {x y : Operand} {p q : Bool} {c : Bool} (ho : o.op = .binOp .neq T x y T') (hx : ev E x = some (.val (.bool p))) (hy : ev E y = some (.val (.bool q))) (hc : (p != q) = c) :
    OpW P N o E H (Is (.val (.bool c))) := O.bin ho hx hy fun W => by
  have h1 : (eqGuard .neq T x y (.bool p) (.bool q)).run P W = .ok () W := by unfold eqGuard; split <;> rfl
  rw [Sem.run_bind, h1]
  show (binOp .neq T (.bool p) (.bool q)).run P W = _
  rw [show binOp .neq T (.bool p) (.bool q) = (do pure (.bool (!(← Op.equal T (.bool p) (.bool q))))) from rfl, Sem.run_bind, equal_bool, ← hc]
  rfl
theorem O.eqlS {T T' : Nat} {x y : Operand} {p q : ByteArray} {c : Bool} (ho : o.op = .binOp .eql T x y T') (hx : ev E x = some (.val (.string p))) (hy : ev E y = some (.val (.string q))) (hc : (p.toList == q.toList) = c) :
    OpW P N o E H (Is (.val (.bool c))) := O.bin ho hx hy fun W => by simp [eqGuard, binOp, Op.stringOp, hc]
theorem O.neqS {T T' : Nat} {x y : Operand} {p q : ByteArray} {c : Bool} (ho : o.op = .binOp .neq T x y T') (hx : ev E x = some (.val (.string p))) (hy : ev E y = some (.val (.string q))) (hc : (p.toList != q.toList) = c) :
    OpW P N o E H (Is (.val (.bool c))) := O.bin ho hx hy fun W => by simp [eqGuard, binOp, Op.stringOp, ← hc, bne]

theorem O.not {T : Nat} {x : Operand} {p c : Bool} (ho : o.op = .unOp .not T x) (hx : ev E x = some (.val (.bool p))) (hc : (!p) = c) : OpW P N o E H (Is (.val (.bool c))) := .of_run fun R a W h1 h2 ha =>
  ⟨.bool c, by simp [execOp, ho, (ha.ev hx).val_inv, Op.unary, hc], .val _⟩
theorem O.neg {T : Nat} {x : Operand} {k : IntKind} {p c : Int} (ho : o.op = .unOp .neg T x) (hx : ev E x = some (.val (.int k p))) (hc : k.wrap (0 - p) = c) : OpW P N o E H (Is (.val (.int k c))) := .of_run fun R a W h1 h2 ha =>
  ⟨.int k c, by simp only [Int.zero_sub] at hc; simp [execOp, ho, (ha.ev hx).val_inv, Op.unary, Op.intArith, hc], .val _⟩
theorem O.conv {S T : Nat} {ds : TypeDesc} {x : Operand} {k k' : IntKind} {p c : Int} [TyD P S ds] [TyD P T (.int k')] (ho : o.op = .convert S T x) (hx : ev E x = some (.val (.int k p))) (hc : k'.wrap p = c) :
    OpW P N o E H (Is (.val (.int k' c))) := .of_run fun R a W h1 h2 ha =>
  ⟨.int k' c, by simp [execOp, ho, (ha.ev hx).val_inv, convert, run_underlying (TyD.ax (P := P) (T := S)), run_underlying (TyD.ax (P := P) (T := T)), Conv.intToInt, hc], .val _⟩

theorem O.extract {x : Operand} {i : Nat} {vs : List AV} {v : AV} (ho : o.op = .extract x i) (hx : ev E x = some (.tup vs)) (hv : vs[i]? = some v) : OpW P N o E H (Is v) := .of_run fun R a W h1 h2 ha => by
  obtain ⟨us, hu, hl⟩ := (ha.ev hx).tup_inv
  obtain ⟨u, h3, h4⟩ := hl.get hv
  exact ⟨u, by simp [execOp, ho, hu, Instr.extract, h3], h4⟩
theorem O.extractV {x : Operand} {i : Nat} {vs : Array Value} {v : Value} (ho : o.op = .extract x i) (hx : ev E x = some (.val (.tuple vs))) (hv : vs[i]? = some v) : OpW P N o E H (Is (.val v)) := .of_run fun R a W h1 h2 ha =>
  ⟨v, by simp [execOp, ho, (ha.ev hx).val_inv, Instr.extract, hv], .val _⟩

theorem O.nilCheck {x : Operand} {b : Addr} (ho : o.op = .nilCheck x) (hx : ev E x = some (.val (.pointer (some b)))) : OpW P N o E H (Is (.val (.pointer (some b)))) := .of_run fun R a W h1 h2 ha =>
  ⟨.pointer (some b), by simp [execOp, ho, (ha.ev hx).val_inv], .val _⟩
theorem O.nilCheckR {x : Operand} {xs : List AV} {i : Nat} (ho : o.op = .nilCheck x) (hx : ev E x = some (.rp xs i)) : OpW P N o E H (Is (.rp xs i)) := .of_run fun R a W h1 h2 ha => by
  have := ha.ev hx
  generalize hu : a.eval x = u at *
  cases this with
  | rp _ _ b off us hb hc hr => exact ⟨_, by simp only [execOp, ho, hu]; rfl, .rp xs i b off us hb hc hr⟩

theorem O.lenR {x : Operand} {T : Nat} {full : Bool} {n : Nat} {xs : List AV} {d : TypeId} [TyD P T (.slice d)] (ho : o.op = .call { callee := .builtin .len, args := #[x], argTypes := #[T] }) (hx : ev E x = some (.ro full n xs)) :
    OpW P N o E H (Is (.val (.int .i64 n))) := .of_run fun R a W h1 h2 ha => by
  have := ha.ev hx
  generalize hu : a.eval x = u at *
  have ht := run_underlying (TyD.ax (P := P) (T := T))
  cases this with
  | emp _ ad cap h3 h4 => exact ⟨_, by simp [execOp, ho, hu, resolve, invoke, builtin, Builtin.len_, ht, goInt], .val _⟩
  | ro _ _ _ b off cap us hb hc hr h3 h4 h5 => exact ⟨_, by simp [execOp, ho, hu, resolve, invoke, builtin, Builtin.len_, ht, goInt], .val _⟩
theorem O.lenV {x : Operand} {T : Nat} {ad : Option Addr} {n c : Nat} {d : TypeId} [TyD P T (.slice d)] (ho : o.op = .call { callee := .builtin .len, args := #[x], argTypes := #[T] }) (hx : ev E x = some (.val (.slice ad n c))) :
    OpW P N o E H (Is (.val (.int .i64 n))) := .of_run fun R a W h1 h2 ha => by
  have ht := run_underlying (TyD.ax (P := P) (T := T))
  exact ⟨_, by simp [execOp, ho, (ha.ev hx).val_inv, resolve, invoke, builtin, Builtin.len_, ht, goInt], .val _⟩
theorem O.lenS {x : Operand} {T : Nat} {s : ByteArray} [TyD P T .string] (ho : o.op = .call { callee := .builtin .len, args := #[x], argTypes := #[T] }) (hx : ev E x = some (.val (.string s))) :
    OpW P N o E H (Is (.val (.int .i64 s.size))) := .of_run fun R a W h1 h2 ha => by
  have ht := run_underlying (TyD.ax (P := P) (T := T))
  exact ⟨_, by simp [execOp, ho, (ha.ev hx).val_inv, resolve, invoke, builtin, Builtin.len_, ht, goInt], .val _⟩
theorem O.lenRow {x : Operand} {T : Nat} {v : Value} {T' sz n : Nat} {xs : List AV} {d : TypeId} [TyD P T (.slice d)] (ho : o.op = .call { callee := .builtin .len, args := #[x], argTypes := #[T] }) (hx : ev E x = some (.val v)) (hm : .row v T' sz n xs ∈ H) :
    OpW P N o E H (Is (.val (.int .i64 n))) := .of_run fun R a W h1 h2 ha => by
  have ht := run_underlying (TyD.ax (P := P) (T := T))
  obtain ⟨us, hw, -⟩ := h2 _ hm
  rcases hw.2 with ⟨hv, h0⟩ | ⟨g, cap, cur, hv, -⟩
  · exact ⟨_, by simp [execOp, ho, (ha.ev hx).val_inv, hv, h0, resolve, invoke, builtin, Builtin.len_, ht, goInt], .val _⟩
  · exact ⟨_, by simp [execOp, ho, (ha.ev hx).val_inv, hv, resolve, invoke, builtin, Builtin.len_, ht, goInt], .val _⟩

theorem addr_add (b off n : Nat) : (⟨b, off, none⟩ : Addr).add n = ⟨b, off + n, none⟩ := by
  unfold Addr.add; split <;> simp_all

theorem O.fieldAddr {T f : Nat} {x : Operand} {b off k : Nat} [hf : TyF P T f k] (ho : o.op = .fieldAddr T x f) (hx : ev E x = some (.val (.pointer (some ⟨b, off, none⟩)))) : OpW P N o E H (Is (.val (.pointer (some ⟨b, off + k, none⟩)))) := .of_run fun R a W h1 h2 ha => by
  obtain ⟨fs, fld, i, hu, hfl, hoff, hi, h0⟩ := hf.ax
  exact ⟨_, by simp [execOp, ho, (ha.ev hx).val_inv, Instr.fieldAt, run_underlying hu, hfl, Instr.sureAddr, fieldPlace, sizeOf, typeInfo, hi, h0, hoff, addr_add], .val _⟩
theorem O.fieldAddrR {T f : Nat} {x : Operand} {xs : List AV} {j k : Nat} [hf : TyF P T f k] (ho : o.op = .fieldAddr T x f) (hx : ev E x = some (.rp xs j)) : OpW P N o E H (Is (.rp xs (j + k))) := .of_run fun R a W h1 h2 ha => by
  obtain ⟨fs, fld, i, hu, hfl, hoff, hi, h0⟩ := hf.ax
  have := ha.ev hx
  generalize hv : a.eval x = v at *
  cases this with
  | rp _ _ b off us hb hc hr =>
    refine ⟨_, ?_, .rp xs (j + k) b off us hb hc hr⟩
    simp [execOp, ho, hv, Instr.fieldAt, run_underlying hu, hfl, Instr.sureAddr, fieldPlace, sizeOf, typeInfo, hi, h0, hoff, addr_add, Nat.add_assoc]

theorem O.idxR {T : Nat} {x y : Operand} {full : Bool} {n : Nat} {xs : List AV} {k : IntKind} {z : Int} {U sz bs : Nat} {zz : Value} [hs : TyS P T U sz bs zz] (ho : o.op = .indexAddr T x y) (hx : ev E x = some (.ro full n xs)) (hy : ev E y = some (.val (.int k z))) (hz : 0 ≤ z ∧ z < n) :
    OpW P N o E H (Is (.rp xs (z.toNat * sz))) := .of_run fun R a W h1 h2 ha => by
  obtain ⟨i, hi, hi2, -⟩ := hs.el
  have := ha.ev hx
  generalize hv : a.eval x = v at *
  cases this with
  | emp _ ad cap h3 h4 => simp at hz; omega
  | ro _ _ _ b off cap us hb hc hr h3 h4 h5 =>
    refine ⟨_, ?_, .rp xs (z.toNat * sz) b off us hb hc hr⟩
    have h9 : ¬ ((n : Int) ≤ 1 ∧ False) := by simp
    simp [execOp, ho, hv, (ha.ev hy).val_inv, Instr.indexAt, asIntOf, run_underlying hs.ty, sizeOf, typeInfo, hi, hi2, hz, addr_add]
theorem O.idxV {T : Nat} {x y : Operand} {n c : Nat} {b off : Nat} {k : IntKind} {z : Int} {U sz bs : Nat} {zz : Value} [hs : TyS P T U sz bs zz] (ho : o.op = .indexAddr T x y) (hx : ev E x = some (.val (.slice (some ⟨b, off, none⟩) n c))) (hy : ev E y = some (.val (.int k z))) (hz : 0 ≤ z ∧ z < n) :
    OpW P N o E H (Is (.val (.pointer (some ⟨b, off + z.toNat * sz, none⟩)))) := .of_run fun R a W h1 h2 ha => by
  obtain ⟨i, hi, hi2, -⟩ := hs.el
  refine ⟨_, ?_, .val _⟩
  simp [execOp, ho, (ha.ev hx).val_inv, (ha.ev hy).val_inv, Instr.indexAt, asIntOf, run_underlying hs.ty, sizeOf, typeInfo, hi, hi2, hz, addr_add]
theorem O.idxL {T : Nat} {x y : Operand} {b off : Nat} {k : IntKind} {z : Int} {n sz : Nat} [hs : TyL P T n sz] (ho : o.op = .indexAddr T x y) (hx : ev E x = some (.val (.pointer (some ⟨b, off, none⟩)))) (hy : ev E y = some (.val (.int k z))) (hz : 0 ≤ z ∧ z < n) :
    OpW P N o E H (Is (.val (.pointer (some ⟨b, off + z.toNat * sz, none⟩)))) := .of_run fun R a W h1 h2 ha => by
  obtain ⟨U, i, hu, hi, hi2⟩ := hs.ax
  refine ⟨_, ?_, .val _⟩
  simp [execOp, ho, (ha.ev hx).val_inv, (ha.ev hy).val_inv, Instr.indexAt, asIntOf, run_underlying hu, sizeOf, typeInfo, hi, hi2, hz, addr_add, Instr.sureAddr]
theorem O.idxLR {T : Nat} {x y : Operand} {xs : List AV} {j : Nat} {k : IntKind} {z : Int} {n sz : Nat} [hs : TyL P T n sz] (ho : o.op = .indexAddr T x y) (hx : ev E x = some (.rp xs j)) (hy : ev E y = some (.val (.int k z))) (hz : 0 ≤ z ∧ z < n) :
    OpW P N o E H (Is (.rp xs (j + z.toNat * sz))) := .of_run fun R a W h1 h2 ha => by
  obtain ⟨U, i, hu, hi, hi2⟩ := hs.ax
  have := ha.ev hx
  generalize hv : a.eval x = v at *
  cases this with
  | rp _ _ b off us hb hc hr =>
    refine ⟨_, ?_, .rp xs _ b off us hb hc hr⟩
    simp [execOp, ho, hv, (ha.ev hy).val_inv, Instr.indexAt, asIntOf, run_underlying hu, sizeOf, typeInfo, hi, hi2, hz, addr_add, Instr.sureAddr, Nat.add_assoc]

theorem run_loadVar1 {T k : Nat} (h : TyG P T false k) (W : World) (ad : Addr) (u : Value) (hu : W.cell? ad = some u) : (loadVar T ad).run P W = .ok u W := by
  obtain ⟨d, i, hd, hi, hk, hg⟩ := h.ax
  have : (isAgg T).run P W = .ok false W := by
    unfold isAgg
    rw [Sem.run_bind, run_underlying hd W]
    cases d <;> simp_all
  simp [loadVar, this, hu]
theorem run_loadVarK {T k : Nat} (h : TyG P T true k) (W : World) (b off : Nat) (us : List Value) (hl : us.length = k) (hu : ∀ j u, us[j]? = some u → W.cell? ⟨b, off + j, none⟩ = some u) : (loadVar T ⟨b, off, none⟩).run P W = .ok (.agg us.toArray) W := by
  obtain ⟨d, i, hd, hi, hk, hg⟩ := h.ax
  have : (isAgg T).run P W = .ok true W := by
    unfold isAgg
    rw [Sem.run_bind, run_underlying hd W]
    cases d <;> simp_all
  have hc := run_loadCells_list (P := P) W ⟨b, off, none⟩ us (fun j v hv => by rw [addr_add]; exact hu j v hv)
  rw [hl] at hc
  simp [loadVar, this, sizeOf, typeInfo, hi, hk, hc]

theorem O.loadR {T : Nat} {x : Operand} {xs : List AV} {j k : Nat} {v : AV} [hg : TyG P T false k] (ho : o.op = .load T x) (hx : ev E x = some (.rp xs j)) (hv : xs[j]? = some v) : OpW P N o E H (Is v) := .of_run fun R a W h1 h2 ha => by
  obtain ⟨hj, rfl⟩ := List.getElem?_eq_some_iff.1 hv
  have := ha.ev hx
  generalize hu : a.eval x = u at *
  cases this with
  | rp _ _ b off us hb hc hr =>
    refine ⟨us j, ?_, hr j hj⟩
    simp [execOp, ho, hu, Instr.loadAt, Instr.sureAddr, run_loadVar1 hg W _ _ (hc j hj)]
theorem O.loadRK {T : Nat} {x : Operand} {xs : List AV} {j k : Nat} {ys : List AV} [hg : TyG P T true k] (ho : o.op = .load T x) (hx : ev E x = some (.rp xs j)) (hv : (xs.drop j).take k = ys) (hk : ys.length = k) : OpW P N o E H (Is (.agg ys)) := .of_run fun R a W h1 h2 ha => by
  have := ha.ev hx
  generalize hu : a.eval x = u at *
  cases this with
  | rp _ _ b off us hb hc hr =>
    have hlen : j + k ≤ xs.length ∨ k = 0 := by
      rw [← hv, List.length_take, List.length_drop] at hk; omega
    have hrl : RelL R W ys ((List.range k).map fun i => us (j + i)) := ⟨by simp [hk], fun i hi => by
      have hi2 : i < k := by omega
      have e1 : ys[i] = xs[j + i]'(by omega) := by
        subst hv; simp [List.getElem_take, List.getElem_drop]
      have e2 : ((List.range k).map fun i => us (j + i)).getD i undef = us (j + i) := by simp [List.getD, hi2]
      rw [e1, e2]; exact hr (j + i) (by omega)⟩
    refine ⟨_, ?_, hrl.toAgg⟩
    have hl := run_loadVarK hg W b (off + j) ((List.range k).map fun i => us (j + i)) (by simp) (fun i u hi => by
      obtain ⟨h1, rfl⟩ := List.getElem?_eq_some_iff.1 hi
      simp at h1
      simp only [List.getElem_map, List.getElem_range]
      rw [Nat.add_assoc]
      exact hc (j + i) (by omega))
    simp only [execOp, ho, hu, Instr.loadAt, Instr.sureAddr, Sem.run_bind, Sem.run_pure, Result.andThen_ok, hl]

theorem blk_cell {R : Nat → Prop} {W : World} {b T room : Nat} {xs : List AV} (h : HE.ok R W (.blk b T room xs)) {j : Nat} {v : AV} (hv : xs[j]? = some v) : ∃ u, W.cell? ⟨b, j, none⟩ = some u ∧ RelV R W v u := by
  obtain ⟨us, cs, hb, hs, ht, hr⟩ := h
  obtain ⟨u, h1, h2⟩ := hr.get hv
  refine ⟨u, ?_, h2⟩
  rw [cell_of_row W b j cs T (0, 0) hb]
  rw [← ht, List.getElem?_take] at h1
  split at h1
  · simpa using h1
  · cases h1

theorem O.load {T : Nat} {x : Operand} {b j k : Nat} {v : AV} {T' room : Nat} {xs : List AV} [hg : TyG P T false k] (ho : o.op = .load T x) (hx : ev E x = some (.val (.pointer (some ⟨b, j, none⟩)))) (hm : HE.blk b T' room xs ∈ H) (hv : xs[j]? = some v) : OpW P N o E H (Is v) := .of_run fun R a W h1 h2 ha => by
  obtain ⟨u, h3, h4⟩ := blk_cell (h2 _ hm) hv
  exact ⟨u, by simp [execOp, ho, (ha.ev hx).val_inv, Instr.loadAt, Instr.sureAddr, run_loadVar1 hg W _ _ h3], h4⟩
theorem O.loadK {T : Nat} {x : Operand} {b j k : Nat} {ys : List AV} {T' room : Nat} {xs : List AV} [hg : TyG P T true k] (ho : o.op = .load T x) (hx : ev E x = some (.val (.pointer (some ⟨b, j, none⟩)))) (hm : HE.blk b T' room xs ∈ H) (hv : (xs.drop j).take k = ys) (hk : ys.length = k) : OpW P N o E H (Is (.agg ys)) := .of_run fun R a W h1 h2 ha => by
  obtain ⟨us, cs, hb, hs, ht, hr⟩ := h2 _ hm
  have hrl := (hr.drop j).take k
  rw [hv] at hrl
  refine ⟨_, ?_, hrl.toAgg⟩
  have hl := run_loadVarK hg W b j ((us.drop j).take k) (by rw [hrl.1, hk]) (fun i u hi => by
    rw [cell_of_row W b (j + i) cs T' (0, 0) hb]
    rw [List.getElem?_take] at hi
    split at hi
    · rw [List.getElem?_drop, ← ht, List.getElem?_take] at hi
      split at hi
      · simpa using hi
      · cases hi
    · cases hi)
  simp only [execOp, ho, (ha.ev hx).val_inv, Instr.loadAt, Instr.sureAddr, Sem.run_bind, Sem.run_pure, Result.andThen_ok, hl]

theorem O.fn {f : Fn} {cap : List Operand} {vs : List AV} (ho : o.op = .makeFunc f #[] cap.toArray) (hx : evs E cap = some vs) : OpW P N o E H (Is (.fn f vs)) := .of_run fun R a W h1 h2 ha =>
  ⟨_, by simp [execOp, ho, Instr.makeFunc], (ha.evs hx).toFn⟩

end
end Go.Proofs.Ytiddmpmpjdnmeaa.A
