/-
  Lists of things of several cells; messages and options.
-/
import Derived.Test.YtiddmpmpjdnmeaaDk
import Derived.Test.YtiddmpmpjdnmeaaSu
namespace Go.Proofs.Ytiddmpmpjdnmeaa.By
open Go.RowKit L A
set_option linter.unusedVariables false
set_option linter.unusedSimpArgs false
attribute [local irreducible] AW AQ AO

section
variable {α : Type} {f : α → List AV} {k : Nat}
theorem flat_len (hf : ∀ a, (f a).length = k) : ∀ l : List α, (l.flatMap f).length = l.length * k
  | [] => by simp
  | a :: l => by rw [List.flatMap_cons, List.length_append, hf, flat_len hf l, List.length_cons, Nat.add_mul]; omega
theorem flat_take (hf : ∀ a, (f a).length = k) : ∀ (l : List α) (n : Nat), (l.flatMap f).take (n * k) = (l.take n).flatMap f
  | [], n => by simp
  | a :: l, 0 => by simp
  | a :: l, n + 1 => by
    rw [List.flatMap_cons, List.take_succ_cons, List.flatMap_cons, ← flat_take hf l n, show (n + 1) * k = (f a).length + n * k by rw [hf, Nat.add_mul]; omega, List.take_length_add_append]
theorem flat_drop (hf : ∀ a, (f a).length = k) : ∀ (l : List α) (n : Nat), (l.flatMap f).drop (n * k) = (l.drop n).flatMap f
  | [], n => by simp
  | a :: l, 0 => by simp
  | a :: l, n + 1 => by
    rw [List.flatMap_cons, List.drop_succ_cons, ← flat_drop hf l n, show (n + 1) * k = (f a).length + n * k by rw [hf, Nat.add_mul]; omega, List.drop_length_add_append]
theorem flat_at (hf : ∀ a, (f a).length = k) (d : α) {l : List α} {i : Nat} (h : i < l.length) {j : Nat} (hj : j = i) : ((l.flatMap f).drop (j * k)).take k = f (l.getD i d) := by
  subst hj
  rw [flat_drop hf, List.drop_eq_getElem_cons h, List.flatMap_cons, List.take_left' (hf _)]
  simp [h]
theorem flat_cell (hf : ∀ a, (f a).length = k) (d : α) {l : List α} {i c : Nat} (h : i < l.length) (hc : c < k) {j : Nat} (hj : j = i * k + c) : (l.flatMap f)[j]? = (f (l.getD i d))[c]? := by
  have := flat_at hf d h rfl
  rw [← this, List.getElem?_take, if_pos hc, List.getElem?_drop, hj]
theorem flat_app (l m : List α) : (l ++ m).flatMap f = l.flatMap f ++ m.flatMap f := List.flatMap_append
theorem flat_snoc (l : List α) (a : α) : (l ++ [a]).flatMap f = l.flatMap f ++ f a := by simp [List.flatMap_append]
theorem flat_set (hf : ∀ a, (f a).length = k) (a : α) : ∀ {l : List α} {i : Nat}, i < l.length → ((l.set i a).flatMap f) = (l.flatMap f).take (i * k) ++ f a ++ (l.flatMap f).drop (i * k + k)
  | [], i, h => by simp at h
  | x :: l, 0, h => by simp [List.flatMap_cons, ← hf x]
  | x :: l, i + 1, h => by
    rw [List.set_cons_succ, List.flatMap_cons, List.flatMap_cons, flat_set hf a (by simpa using h), show (i + 1) * k = (f x).length + i * k by rw [hf, Nat.add_mul]; omega, List.take_length_add_append,
      show (f x).length + i * k + k = (f x).length + (i * k + k) by omega, List.drop_length_add_append, List.append_assoc, List.append_assoc, List.append_assoc]
theorem take_snoc (d : α) {l : List α} {i : Nat} (h : i < l.length) : l.take (i + 1) = l.take i ++ [l.getD i d] := by
  rw [List.take_succ_eq_append_getElem h]; simp [h]
theorem drop_cons (d : α) {l : List α} {i : Nat} (h : i < l.length) : l.drop i = l.getD i d :: l.drop (i + 1) := by
  rw [List.drop_eq_getElem_cons h]; simp [h]
theorem getD_mem (d : α) {l : List α} {i : Nat} (h : i < l.length) : l.getD i d ∈ l := by simp [h]
end

theorem dec_eq {p : Prop} [Decidable p] {b : Bool} (h : p ↔ b = true) : decide p = b := by
  cases b
  · exact decide_eq_false fun hp => by have := h.1 hp; cases this
  · exact decide_eq_true (h.2 rfl)
theorem retB {a b : Bool} {H' : List HE} (e : a = b) : Is (.val (.bool b)) (.val (.bool a)) [] := ⟨by rw [e], rfl⟩

/-! ### Bytes -/
abbrev bt (l : List UInt8) (k : Nat) : UInt8 := l.getD k 0
theorem bt_at {l : List UInt8} {k : Nat} (h : k < l.length) {j : Nat} (hj : j = k) : (bytesA l)[j]? = some (.val (.int .u8 ((bt l k).toNat : Int))) := by
  subst hj; simp [bytesA, h, bt]
theorem u8_lt (x : UInt8) : 0 ≤ (x.toNat : Int) ∧ (x.toNat : Int) < 256 := by have := x.toNat_lt; omega
theorem u8_eq {x y : UInt8} : (x.toNat : Int) = (y.toNat : Int) ↔ x = y := by
  rw [Int.ofNat_inj]; exact UInt8.toNat_inj
theorem u8_all {p : UInt8 → Prop} (h : ∀ n : Nat, n < 256 → p (UInt8.ofNat n)) (x : UInt8) : p x := by
  have := h x.toNat x.toNat_lt
  simpa using this
theorem u8_self (x : UInt8) : u8 (x.toNat : Int) = x := by
  have h := u8_lt x
  unfold u8
  rw [Int.emod_eq_of_lt h.1 h.2]
  simp
theorem u8_mod (x y : Int) (h : x % 256 = y % 256) : u8 x = u8 y := by unfold u8; rw [h]
theorem u8_small {x : Int} (h : 0 ≤ x ∧ x < 256) : ((u8 x).toNat : Int) = x := by rw [u8_toNat]; omega
theorem roB_of {n : Nat} {xs : List AV} {l : List UInt8} (h1 : n = l.length) (h2 : xs = bytesA l) : AV.ro false n xs = roB l := by subst h1; subst h2; rfl
theorem drop_bt {l : List UInt8} {k : Nat} (h : k < l.length) : l.drop k = bt l k :: l.drop (k + 1) := drop_cons 0 h
theorem take_bt {l : List UInt8} {k : Nat} (h : k < l.length) : l.take (k + 1) = l.take k ++ [bt l k] := take_snoc 0 h
theorem bytesA_take (l : List UInt8) (n : Nat) : (bytesA l).take (n * 1) = bytesA (l.take n) := by simp [bytesA, List.map_take]
theorem bytesA_drop (l : List UInt8) (n : Nat) : (bytesA l).drop (n * 1) = bytesA (l.drop n) := by simp [bytesA, List.map_drop]
theorem bytesA_take' {l : List UInt8} {n j : Nat} (h : j = n) : (bytesA l).take (j * 1) = bytesA (l.take n) := by subst h; exact bytesA_take l j
theorem bytesA_drop' {l : List UInt8} {n j : Nat} (h : j = n) : (bytesA l).drop (j * 1) = bytesA (l.drop n) := by subst h; exact bytesA_drop l j
theorem bytesA_part {l : List UInt8} {a c n m : Nat} (h : a = n) (h2 : c = m) : ((bytesA l).drop (a * 1)).take (c * 1) = bytesA ((l.drop n).take m) := by subst h; subst h2; simp [bytesA, List.map_drop, List.map_take]
@[simp] theorem take_bytesA (l : List UInt8) (n : Nat) : (bytesA l).take n = bytesA (l.take n) := by simp [bytesA, List.map_take]
@[simp] theorem drop_bytesA (l : List UInt8) (n : Nat) : (bytesA l).drop n = bytesA (l.drop n) := by simp [bytesA, List.map_drop]
theorem set_bytes {b : List UInt8} {k : Nat} {x : UInt8} {j : Nat} (hj : j = k) : splice (bytesA b) j [.val (.int .u8 (x.toNat : Int))] = bytesA (b.set k x) := by
  subst hj; simp [splice, bytesA, List.map_set]

section
variable {P : Program} {E : Env} {H : List HE} {N : Nat} {o : Oper}
theorem _root_.Go.Proofs.Ytiddmpmpjdnmeaa.A.O.sliceToB {T : Nat} {x y : Operand} {k : Nat} {kk : IntKind} {z : Int} {l : List UInt8} {U bs : Nat} {zz : Value} [hs : TyS P T U 1 bs zz] (ho : o.op = .slice T x none (some y) none) (hx : ev E x = some (roB l)) (hy : ev E y = some (.val (.int kk z))) (hz : z = (k : Int)) (hk : k ≤ l.length) : OpW P N o E H (Is (roB (l.take k))) := by
  have := O.sliceTo (P := P) (k := k) (H := H) (N := N) ho hx hy hz hk (bytesA_take l k)
  rwa [roB_of (by simp; omega) rfl] at this
theorem _root_.Go.Proofs.Ytiddmpmpjdnmeaa.A.O.sliceFromB {T : Nat} {x y : Operand} {k : Nat} {kk : IntKind} {z : Int} {l : List UInt8} {U bs : Nat} {zz : Value} [hs : TyS P T U 1 bs zz] (ho : o.op = .slice T x (some y) none none) (hx : ev E x = some (roB l)) (hy : ev E y = some (.val (.int kk z))) (hz : z = (k : Int)) (hk : k ≤ l.length) : OpW P N o E H (Is (roB (l.drop k))) := by
  have := O.sliceFrom (P := P) (k := k) (H := H) (N := N) ho hx hy hz hk (by simp) (bytesA_drop l k)
  rwa [roB_of (by simp) rfl] at this
theorem _root_.Go.Proofs.Ytiddmpmpjdnmeaa.A.O.sliceLHB {T : Nat} {x y y' : Operand} {lo hi : Nat} {kk kk' : IntKind} {z z' : Int} {l : List UInt8} {U bs : Nat} {zz : Value} [hs : TyS P T U 1 bs zz] (ho : o.op = .slice T x (some y) (some y') none) (hx : ev E x = some (roB l)) (hy : ev E y = some (.val (.int kk z))) (hy' : ev E y' = some (.val (.int kk' z'))) (hz : z = (lo : Int)) (hz' : z' = (hi : Int)) (hlh : lo ≤ hi) (hhn : hi ≤ l.length) : OpW P N o E H (Is (roB ((l.drop lo).take (hi - lo)))) := by
  have := O.sliceLH (P := P) (l := lo) (h := hi) (H := H) (N := N) ho hx hy hy' hz hz' hlh hhn (bytesA_part rfl rfl)
  rwa [roB_of (by simp; omega) rfl] at this
end

/-! ### Messages -/
structure Opt where
  num : Int
  val : List UInt8
  deriving DecidableEq
structure Msg where
  ty : Int
  code : Int
  id : Int
  tok : List UInt8
  opts : List Opt
  pay : List UInt8
  deriving DecidableEq
def Opt.none : Opt := ⟨0, []⟩
def Msg.none : Msg := ⟨0, 0, 0, [], [], []⟩
def cellsO (o : Opt) : List AV := [.val (.int .i64 o.num), roB o.val]
theorem cellsO_len (o : Opt) : (cellsO o).length = 2 := rfl
def optsA (os : List Opt) : List AV := os.flatMap cellsO
def roO (os : List Opt) : AV := .ro false os.length (optsA os)
def cellsM (m : Msg) : List AV := [.val (.int .i64 m.ty), .val (.int .i64 m.code), .val (.int .i64 m.id), roB m.tok, roO m.opts, roB m.pay]
theorem cellsM_len (m : Msg) : (cellsM m).length = 6 := rfl
abbrev aggM (m : Msg) : AV := .agg [.val (.int .i64 m.ty), .val (.int .i64 m.code), .val (.int .i64 m.id), roB m.tok, roO m.opts, roB m.pay]
abbrev aggO (o : Opt) : AV := .agg [.val (.int .i64 o.num), roB o.val]
theorem roB_cells (l : List UInt8) : (roB l).cells = [roB l] := rfl
theorem roI_cells (l : List Int) : (roI l).cells = [roI l] := rfl
theorem roO_cells (l : List Opt) : (roO l).cells = [roO l] := rfl
abbrev oat (os : List Opt) (k : Nat) : Opt := os.getD k Opt.none
@[simp] theorem optsA_len (os : List Opt) : (optsA os).length = os.length * 2 := flat_len cellsO_len os
theorem optsA_app (a b : List Opt) : optsA (a ++ b) = optsA a ++ optsA b := flat_app a b
theorem optsA_snoc (a : List Opt) (o : Opt) : optsA (a ++ [o]) = optsA a ++ [.val (.int .i64 o.num), roB o.val] := flat_snoc a o
theorem optsA_one (os : List Opt) : (optsA os).all AV.one = true := by
  induction os with
  | nil => rfl
  | cons o os ih => rw [optsA, List.flatMap_cons, List.all_append]; rw [optsA] at ih; rw [ih]; rfl
theorem getO {os : List Opt} {k : Nat} (h : k < os.length) {j : Nat} (hj : j = k) : ((optsA os).drop (j * 2)).take 2 = [.val (.int .i64 (oat os k).num), roB (oat os k).val] := flat_at cellsO_len Opt.none h hj
theorem getO0 {os : List Opt} {k : Nat} (h : k < os.length) {j : Nat} (hj : j = k) : ((optsA os).drop (0 + j * 2)).take 2 = [.val (.int .i64 (oat os k).num), roB (oat os k).val] := by rw [Nat.zero_add]; exact getO h hj
theorem getOn {os : List Opt} {k : Nat} (h : k < os.length) {j : Nat} (hj : j = k * 2) : (optsA os)[j]? = some (.val (.int .i64 (oat os k).num)) := flat_cell cellsO_len Opt.none h (c := 0) (by omega) hj
theorem getOv {os : List Opt} {k : Nat} (h : k < os.length) {j : Nat} (hj : j = k * 2 + 1) : (optsA os)[j]? = some (roB (oat os k).val) := flat_cell cellsO_len Opt.none h (c := 1) (by omega) hj
theorem roO_of {n : Nat} {xs : List AV} {os : List Opt} (h1 : n = os.length) (h2 : xs = optsA os) : AV.ro false n xs = roO os := by subst h1; subst h2; rfl
end Go.Proofs.Ytiddmpmpjdnmeaa.By
