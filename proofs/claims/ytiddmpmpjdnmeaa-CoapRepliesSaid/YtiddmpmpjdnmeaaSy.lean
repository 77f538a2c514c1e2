/-
  make([]byte, n) that is only read.
-/
import Derived.Test.YtiddmpmpjdnmeaaSx
namespace Go.Proofs.Ytiddmpmpjdnmeaa.A
open Go.RowKit L
set_option linter.unusedVariables false
set_option linter.unusedSimpArgs false
section
variable {P : Program} {E : Env} {H : List HE} {N : Nat} {o : Oper}
theorem zerosU8 (n : Nat) : zerosA n (.int .u8 0) = bytesA (List.replicate n 0) := by
  rw [zerosA, show (Value.int IntKind.u8 0).cells.toList.map AV.val = [AV.val (.int .u8 0)] from rfl, List.flatten_replicate_singleton]
  simp [bytesA]
theorem O.makeB {T U k bs : Nat} {x y : Operand} {n : Nat} {kl kc : IntKind} {p q : Int} [hs : TyS P T U k bs (.int .u8 0)] (ho : o.op = .makeSlice T x y) (hx : ev E x = some (.val (.int kl p))) (hy : ev E y = some (.val (.int kc q))) (hp : p = (n : Int)) (hq : q = (n : Int)) (hn : n * bs ≤ 140737488355328) (hn2 : n ≤ maxLen) (hzk : Nat.beq (Value.int IntKind.u8 0).cells.size k = true) :
    OpW P N o E H (Is (roB (List.replicate n 0))) := by
  have := OpW.frz (O.makeSlice (P := P) (z := .int .u8 0) (N := N) (H := H) ho hx hy hp hq hn hn2 hzk) hn2
  rw [zerosU8] at this
  rwa [show roB (List.replicate n (0 : UInt8)) = .ro false n (bytesA (List.replicate n 0)) by unfold roB; rw [List.length_replicate]]
end
end Go.Proofs.Ytiddmpmpjdnmeaa.A
