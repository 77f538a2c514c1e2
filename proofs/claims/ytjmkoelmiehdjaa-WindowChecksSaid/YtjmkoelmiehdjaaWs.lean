/-
  Layer 28: the functions' contracts over symbolic states.
-/
import Derived.Test.YtjmkoelmiehdjaaWinN
import Derived.Test.YtjmkoelmiehdjaaWinP
import Derived.Test.YtjmkoelmiehdjaaWinL
import Derived.Test.YtjmkoelmiehdjaaDk
import Derived.Test.YtjmkoelmiehdjaaSp
namespace Go.Proofs.Ytjmkoelmiehdjaa.Wi
open Go.RowKit L A Dk W
set_option linter.unusedVariables false
set_option linter.unusedSimpArgs false
attribute [local irreducible] AW AQ AO

structure Win where
  s : Int
  t : Int
  b : Nat
  l : Bool
  deriving DecidableEq
def Win.ok (w : Win) : Prop := i64In w.s ∧ i64In w.t ∧ w.b < 2 ^ 64
def winL (w : Win) : List AV := [.val (.int .i64 w.s), .val (.int .i64 w.t), .val (.int .u64 (w.b : Int)), .val (.bool w.l)]
def winA (w : Win) : AV := .agg (winL w)
def zeroW : Win := ⟨0, 0, 0, false⟩
def check (w : Win) (n : Int) : Int := checkE w.s w.t w.b w.l n
def acc (w : Win) (n : Int) : Win := if check w n = 0 then ⟨w.s, accT w.t n, accB w.s w.t w.b n, false⟩ else zeroW
def rece (w : Win) (n : Int) : Int := recE w.s w.t w.b w.l n
def rec_ (w : Win) (n : Int) : Win := if rece w n = 0 then ⟨w.s, n, maskN (if w.s < n + 1 then w.s else n + 1), false⟩ else zeroW
def lose (w : Win) : Win := ⟨w.s, -1, 0, true⟩
def newW (n : Int) : Win := if 1 ≤ n ∧ n ≤ 64 then ⟨n, -1, 0, false⟩ else zeroW
def newE (n : Int) : Int := if 1 ≤ n ∧ n ≤ 64 then 0 else 1
def valid (w : Win) : Bool := validB w.s w.t w.b w.l
def seen (w : Win) : List Int := seenL w.s w.t w.b w.l

theorem acc_post {w : Win} {n : Int} {e : Ending} {W W' : World} (h : e = .returned (accV w.s w.t w.b w.l n) ∧ Ext W W') :
    e = .returned (.tuple #[.agg #[.int .i64 (acc w n).s, .int .i64 (acc w n).t, .int .u64 ((acc w n).b : Int), .bool (acc w n).l], .int .i64 (check w n)]) ∧ Ext W W' := by
  refine ⟨h.1.trans ?_, h.2⟩
  unfold accV acc check
  split
  · rename_i h0; rw [h0]
  · rfl
theorem rec_post {w : Win} {n : Int} {e : Ending} {W W' : World} (h : e = .returned (recV w.s w.t w.b w.l n) ∧ Ext W W') :
    e = .returned (.tuple #[.agg #[.int .i64 (rec_ w n).s, .int .i64 (rec_ w n).t, .int .u64 ((rec_ w n).b : Int), .bool (rec_ w n).l], .int .i64 (rece w n)]) ∧ Ext W W' := by
  refine ⟨h.1.trans ?_, h.2⟩
  unfold recV rec_ rece
  split
  · rename_i h0; rw [h0]
  · rfl
theorem new_post {n : Int} {e : Ending} {W W' : World} (h : e = .returned (.tuple #[if 1 ≤ n ∧ n ≤ 64 then winV n (-1) 0 false else winV 0 0 0 false, .int .i64 (if 1 ≤ n ∧ n ≤ 64 then 0 else 1)]) ∧ Ext W W') :
    e = .returned (.tuple #[.agg #[.int .i64 (newW n).s, .int .i64 (newW n).t, .int .u64 ((newW n).b : Int), .bool (newW n).l], .int .i64 (newE n)]) ∧ Ext W W' := by
  refine ⟨h.1.trans ?_, h.2⟩
  unfold newW newE
  split <;> rfl

theorem accept_fn (w : Win) (h : w.ok) (n : Int) (hn : i64In n) : Sp Try.prog 17 [winA w, .val (.int .i64 n)] [] (Is (.tup [winA (acc w n), .val (.int .i64 (check w n))])) :=
  Sp.of_calls2 rfl rfl fun W => (accept_any w.s w.t w.b w.l n W h.1 h.2.1 h.2.2 hn).mono fun e W' h => acc_post h
theorem raccept_fn (w : Win) (h : w.ok) (n : Int) (hn : i64In n) : Sp Try.prog 19 [winA w, .val (.int .i64 n)] [] (Is (.tup [winA (acc w n), .val (.int .i64 (check w n))])) :=
  Sp.of_calls2 rfl rfl fun W => (raccept_any w.s w.t w.b w.l n W h.1 h.2.1 h.2.2 hn).mono fun e W' h => acc_post h
theorem recover_fn (w : Win) (h : w.ok) (n : Int) (hn : i64In n) : Sp Try.prog 10 [winA w, .val (.int .i64 n)] [] (Is (.tup [winA (rec_ w n), .val (.int .i64 (rece w n))])) :=
  Sp.of_calls2 rfl rfl fun W => (recover_any w.s w.t w.b w.l n W h.1 h.2.1 h.2.2 hn).mono fun e W' h => rec_post h
theorem rrecover_fn (w : Win) (h : w.ok) (n : Int) (hn : i64In n) : Sp Try.prog 11 [winA w, .val (.int .i64 n)] [] (Is (.tup [winA (rec_ w n), .val (.int .i64 (rece w n))])) :=
  Sp.of_calls2 rfl rfl fun W => (rrecover_any w.s w.t w.b w.l n W h.1 h.2.1 h.2.2 hn).mono fun e W' h => rec_post h
theorem lose_fn (w : Win) : Sp Try.prog 12 [winA w] [] (Is (winA (lose w))) := Sp.of_calls rfl rfl fun W => lose_any w.s w.t w.b w.l W
theorem rlose_fn (w : Win) : Sp Try.prog 8 [winA w] [] (Is (winA (lose w))) := Sp.of_calls rfl rfl fun W => rlose_any w.s w.t w.b w.l W
theorem new_fn (n : Int) : Sp Try.prog 15 [.val (.int .i64 n)] [] (Is (.tup [winA (newW n), .val (.int .i64 (newE n))])) := Sp.of_calls2 rfl rfl fun W => (new_any n W).mono fun e W' h => new_post h
theorem rnew_fn (n : Int) : Sp Try.prog 25 [.val (.int .i64 n)] [] (Is (.tup [winA (newW n), .val (.int .i64 (newE n))])) := Sp.of_calls2 rfl rfl fun W => (rnew_any n W).mono fun e W' h => new_post h
theorem check_fn (w : Win) (h : w.ok) (n : Int) (hn : i64In n) : Sp Try.prog 16 [winA w, .val (.int .i64 n)] [] (Is (.val (.int .i64 (check w n)))) := Sp.of_calls rfl rfl fun W => check_any w.s w.t w.b w.l n W h.1 h.2.1 h.2.2 hn
theorem rcheck_fn (w : Win) (h : w.ok) (n : Int) (hn : i64In n) : Sp Try.prog 20 [winA w, .val (.int .i64 n)] [] (Is (.val (.int .i64 (check w n)))) := Sp.of_calls rfl rfl fun W => rcheck_any w.s w.t w.b w.l n W h.1 h.2.1 h.2.2 hn
theorem valid_fn (w : Win) (h : w.ok) : Sp Try.prog 18 [winA w] [] (Is (.val (.bool (valid w)))) := Sp.of_calls rfl rfl fun W => valid_any w.s w.t w.b w.l W h.1 h.2.1 h.2.2
theorem rvalid_fn (w : Win) (h : w.ok) : Sp Try.prog 21 [winA w] [] (Is (.val (.bool (valid w)))) := Sp.of_calls rfl rfl fun W => rvalid_any w.s w.t w.b w.l W h.1 h.2.1 h.2.2
theorem seen_fn (w : Win) (h : w.ok) : Sp Try.prog 23 [winA w] [] (NewRow 3 1 (seen w).length (intsA .i64 (seen w))) := Sp.of_ints rfl fun W => seen_any w.s w.t w.b w.l W h.1 h.2.1 h.2.2
theorem rseen_fn (w : Win) (h : w.ok) : Sp Try.prog 24 [winA w] [] (NewRow 3 1 (seen w).length (intsA .i64 (seen w))) := Sp.of_ints rfl fun W => rseen_any w.s w.t w.b w.l W h.1 h.2.1 h.2.2

theorem win_neq (w : Win) (W : World) : (binOp .neq 24 (.agg #[.int .i64 w.s, .int .i64 w.t, .int .u64 (w.b : Int), .bool w.l]) (.agg #[.int .i64 w.s, .int .i64 w.t, .int .u64 (w.b : Int), .bool w.l])).run Try.prog W = .ok (.bool false) W := by
  simp [go_sem]
theorem win_eql (w : Win) (W : World) : (binOp .eql 24 (.agg #[.int .i64 w.s, .int .i64 w.t, .int .u64 (w.b : Int), .bool w.l]) (.agg #[.int .i64 w.s, .int .i64 w.t, .int .u64 (w.b : Int), .bool w.l])).run Try.prog W = .ok (.bool true) W := by
  simp [go_sem]
end Go.Proofs.Ytjmkoelmiehdjaa.Wi
