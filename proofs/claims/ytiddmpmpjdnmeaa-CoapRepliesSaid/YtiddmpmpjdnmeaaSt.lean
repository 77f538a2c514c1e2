/-
  Bits and shifts in plain numbers.
-/
import Derived.Test.YtiddmpmpjdnmeaaSr
import Derived.Lib.EndianBits
namespace Go.Proofs.Ytiddmpmpjdnmeaa.A
open Go.RowKit L
set_option linter.unusedVariables false
set_option linter.unusedSimpArgs false
theorem wraps_i64 (n : Int) (h0 : 0 ≤ n) (h1 : n < 2 ^ 63) : IntKind.i64.wrap n = n := by rw [IntKind.wrap_i64]; omega
section
variable {x y q m : Int}
theorem andU8 (i : Nat) (hi : i ≤ 8) (hq : q = 2 ^ i - 1) (hm : m = 2 ^ i) (h : 0 ≤ x ∧ x ≤ 255) : Go.bits .and .u8 x q = x % m := by
  subst hq; subst hm; exact bits_mask .u8 8 (by decide) wraps_u8 i hi x h.1 (by omega)
theorem andI64 (i : Nat) (hi : i ≤ 63) (hq : q = 2 ^ i - 1) (hm : m = 2 ^ i) (h : 0 ≤ x ∧ x ≤ 9223372036854775807) : Go.bits .and .i64 x q = x % m := by
  subst hq; subst hm; exact bits_mask .i64 63 (by decide) wraps_i64 i hi x h.1 (by omega)
theorem andU64 (i : Nat) (hi : i ≤ 64) (hq : q = 2 ^ i - 1) (hm : m = 2 ^ i) (h : 0 ≤ x ∧ x ≤ 18446744073709551615) : Go.bits .and .u64 x q = x % m := by
  subst hq; subst hm; exact bits_mask .u64 64 (by decide) wraps_u64 i hi x h.1 (by omega)
theorem orU8 (i : Nat) (hm : m = 2 ^ i) (hx : 0 ≤ x ∧ x ≤ 255 ∧ x % m = 0) (hy : 0 ≤ y ∧ y < m ∧ y ≤ 255) : Go.bits .or .u8 x y = x + y := by
  subst hm; exact bits_join .u8 8 (by decide) wraps_u8 i x y hx.1 hx.2.2 (by omega) hy.1 hy.2.1 (by omega)
theorem orI64 (i : Nat) (hm : m = 2 ^ i) (hx : 0 ≤ x ∧ x ≤ 9223372036854775807 ∧ x % m = 0) (hy : 0 ≤ y ∧ y < m ∧ y ≤ 9223372036854775807) : Go.bits .or .i64 x y = x + y := by
  subst hm; exact bits_join .i64 63 (by decide) wraps_i64 i x y hx.1 hx.2.2 (by omega) hy.1 hy.2.1 (by omega)
theorem orU64 (i : Nat) (hm : m = 2 ^ i) (hx : 0 ≤ x ∧ x ≤ 18446744073709551615 ∧ x % m = 0) (hy : 0 ≤ y ∧ y < m ∧ y ≤ 18446744073709551615) : Go.bits .or .u64 x y = x + y := by
  subst hm; exact bits_join .u64 64 (by decide) wraps_u64 i x y hx.1 hx.2.2 (by omega) hy.1 hy.2.1 (by omega)
theorem orLU8 (i : Nat) (hm : m = 2 ^ i) (hx : 0 ≤ x ∧ x < m ∧ x ≤ 255) (hy : 0 ≤ y ∧ y ≤ 255 ∧ y % m = 0) : Go.bits .or .u8 x y = x + y := by
  subst hm; exact bits_join_low .u8 8 (by decide) wraps_u8 i x y hx.1 hx.2.1 (by omega) hy.1 hy.2.2 (by omega)
theorem orLI64 (i : Nat) (hm : m = 2 ^ i) (hx : 0 ≤ x ∧ x < m ∧ x ≤ 9223372036854775807) (hy : 0 ≤ y ∧ y ≤ 9223372036854775807 ∧ y % m = 0) : Go.bits .or .i64 x y = x + y := by
  subst hm; exact bits_join_low .i64 63 (by decide) wraps_i64 i x y hx.1 hx.2.1 (by omega) hy.1 hy.2.2 (by omega)
theorem orLU64 (i : Nat) (hm : m = 2 ^ i) (hx : 0 ≤ x ∧ x < m ∧ x ≤ 18446744073709551615) (hy : 0 ≤ y ∧ y ≤ 18446744073709551615 ∧ y % m = 0) : Go.bits .or .u64 x y = x + y := by
  subst hm; exact bits_join_low .u64 64 (by decide) wraps_u64 i x y hx.1 hx.2.1 (by omega) hy.1 hy.2.2 (by omega)
/-- One flag of a byte. -/
theorem andFU8 {a c : Nat} (ha : a < 256) (hc : c < 256) : Go.bits .and .u8 (a : Int) (c : Int) = ((a &&& c : Nat) : Int) := (bits_nat .u8 8 (by decide) wraps_u8 a c ha hc).1
theorem andFI64 {a c : Nat} (ha : a < 9223372036854775808) (hc : c < 9223372036854775808) : Go.bits .and .i64 (a : Int) (c : Int) = ((a &&& c : Nat) : Int) := (bits_nat .i64 63 (by decide) wraps_i64 a c ha hc).1
theorem xorU8 {a b : UInt8} : Go.bits .xor .u8 (a.toNat : Int) (b.toNat : Int) = ((a ^^^ b).toNat : Int) := by
  have h : (a.toNat ^^^ b.toNat) < 2 ^ 8 := Nat.xor_lt_two_pow a.toNat_lt b.toNat_lt
  have e : (BitVec.ofInt 8 (a.toNat : Int) ^^^ BitVec.ofInt 8 (b.toNat : Int)).toNat = (a ^^^ b).toNat := by
    rw [BitVec.toNat_xor, BitVec.ofInt_natCast, BitVec.ofInt_natCast, BitVec.toNat_ofNat, BitVec.toNat_ofNat, Nat.mod_eq_of_lt a.toNat_lt, Nat.mod_eq_of_lt b.toNat_lt, UInt8.toNat_xor]
  show IntKind.u8.wrap ((BitVec.ofInt 8 (a.toNat : Int) ^^^ BitVec.ofInt 8 (b.toNat : Int)).toNat : Int) = _
  rw [e]
  have := (a ^^^ b).toNat_lt
  exact wraps_u8 _ (by omega) (by omega)
end
section
variable {Γ : Cx} {P : Program} {E : Env} {H : List HE} {N : Nat} {o : Oper}
theorem O.shrK (j : Nat) (m : Int) {T T' : Nat} {x y : Operand} {k k' : IntKind} {p q : Int} (ho : o.op = .binOp .shr T x y T') (hx : ev E x = some (.val (.int k p))) (hy : ev E y = some (.val (.int k' q))) (hq : q = (j : Int)) (hm : (2 : Int) ^ (min j k.bits) = m) :
    OpW P N o E H (Is (.val (.int k (p / m)))) := O.shr ho hx hy (by omega) (by
      subst hq; subst hm
      rw [Int.toNat_natCast, Int.fdiv_eq_ediv_of_nonneg]
      exact Int.le_of_lt (Int.pow_pos (by decide)))
theorem O.shlK (j : Nat) (m : Int) {T T' : Nat} {x y : Operand} {k k' : IntKind} {p q c : Int} (ho : o.op = .binOp .shl T x y T') (hx : ev E x = some (.val (.int k p))) (hy : ev E y = some (.val (.int k' q))) (hq : q = (j : Int)) (hm : (2 : Int) ^ (min j k.bits) = m) (hc : k.wrap (p * m) = c) :
    OpW P N o E H (Is (.val (.int k c))) := O.shl ho hx hy (by omega) (by
      subst hq; subst hm
      rw [Int.toNat_natCast]; exact hc)
end
end Go.Proofs.Ytiddmpmpjdnmeaa.A
