/-
  WindowOnce, the statement: for every input the law returns true, and its arguments read as before. No condition.
-/
import Derived.Laws.BytesArg
import Derived.Lib.SliceRun
import Derived.Laws.StructEq
import Derived.Laws.MakeOwn
import Derived.Laws.IdiomStrings
import Derived.Lib.EndianBits
import Derived.Maps.OwnSet
import Derived.DeepKeys4
import Derived.ChangeSame
import Derived.JoinedOf
import Derived.JoinedAt
import Derived.RowKit3
import Derived.ReadAgain
import Derived.Deep.Slices
import Derived.ChangeSlices
import Derived.Test.YtjmkoelmiehdjaaZ1
namespace Go.Proofs.Ytjmkoelmiehdjaa.A
open Go.RowKit L
set_option linter.unusedVariables false
set_option linter.unusedSimpArgs false

abbrev Pr2 := (Nat → Nat) → (Nat → Nat) → Value → World → Prop

/-- What an operation waits for, itself included. -/
inductive Anc (ops : Array Oper) : Nat → Nat → Prop
  | self (i : Nat) : Anc ops i i
  | step (i j k : Nat) (o : Oper) (e : Edge) : ops[i]? = some o → e ∈ o.after → Region.binds .any e = true → e.on = j → Anc ops j k → Anc ops i k

def addAll (a : List Nat) : List Nat → List Nat
  | [] => a
  | x :: r => addAll (bif a.contains x then a else x :: a) r
theorem mem_addAll {x : Nat} : ∀ {b a : List Nat}, x ∈ addAll a b → x ∈ a ∨ x ∈ b
  | [], a, h => .inl h
  | y :: r, a, h => by
    unfold addAll at h
    rcases mem_addAll h with h | h
    · cases hc : a.contains y with
      | true => rw [hc] at h; exact .inl h
      | false =>
        rw [hc] at h
        rcases List.mem_cons.1 h with rfl | h
        · exact .inr (List.mem_cons_self ..)
        · exact .inl h
    · exact .inr (List.mem_cons_of_mem _ h)
def ancOf (acc : List (List Nat)) (o : Oper) : List Nat := o.after.toList.foldl (fun m e => bif Region.binds .any e then addAll (addAll m [e.on]) (acc.getD e.on []) else m) []
def ancs : List Oper → List (List Nat) → List (List Nat)
  | [], acc => acc
  | o :: r, acc => ancs r (acc ++ [ancOf acc o])

theorem mem_ancOf {acc : List (List Nat)} {o : Oper} {x : Nat} (h : x ∈ ancOf acc o) : ∃ e ∈ o.after, Region.binds .any e = true ∧ (x = e.on ∨ x ∈ acc.getD e.on []) := by
  unfold ancOf at h
  have key : ∀ (l : List Edge) (m : List Nat), x ∈ l.foldl (fun m e => bif Region.binds .any e then addAll (addAll m [e.on]) (acc.getD e.on []) else m) m → x ∈ m ∨ ∃ e ∈ l, Region.binds .any e = true ∧ (x = e.on ∨ x ∈ acc.getD e.on []) := by
    intro l
    induction l with
    | nil => intro m h; exact .inl h
    | cons e l ih =>
      intro m h
      rw [List.foldl_cons] at h
      rcases ih _ h with h | ⟨e', he, hh⟩
      · cases hb : Region.binds .any e with
        | false => rw [hb] at h; exact .inl h
        | true =>
          rw [hb] at h
          rcases mem_addAll h with h | h
          · rcases mem_addAll h with h | h
            · exact .inl h
            · exact .inr ⟨e, List.mem_cons_self .., hb, .inl (by simpa using h)⟩
          · exact .inr ⟨e, List.mem_cons_self .., hb, .inr h⟩
      · exact .inr ⟨e', List.mem_cons_of_mem _ he, hh⟩
  rcases key _ _ h with h | ⟨e, he, hh⟩
  · cases h
  · exact ⟨e, by simpa using he, hh⟩

theorem ancs_get : ∀ (l : List Oper) (acc : List (List Nat)) (i : Nat), (i < acc.length → (ancs l acc).getD i [] = acc.getD i []) ∧
    (∀ o, acc.length ≤ i → l[i - acc.length]? = some o → ∃ acc', acc'.length = i ∧ (∀ k, k < i → acc'.getD k [] = (ancs l acc).getD k []) ∧ (ancs l acc).getD i [] = ancOf acc' o)
  | [], acc, i => ⟨fun _ => rfl, fun o _ h => by simp at h⟩
  | o :: r, acc, i => by
    obtain ⟨h1, h2⟩ := ancs_get r (acc ++ [ancOf acc o]) i
    have hlen : (acc ++ [ancOf acc o]).length = acc.length + 1 := by simp
    refine ⟨fun hi => ?_, fun o' hi ho => ?_⟩
    · rw [ancs, h1 (by rw [hlen]; omega)]
      simp [List.getD, List.getElem?_append, hi]
    · by_cases he : i = acc.length
      · subst he
        simp at ho
        subst ho
        refine ⟨acc, rfl, fun k hk => ?_, ?_⟩
        · have := (ancs_get r (acc ++ [ancOf acc o]) k).1 (by rw [hlen]; omega)
          rw [ancs, this]; simp [List.getD, List.getElem?_append, hk]
        · rw [ancs, h1 (by rw [hlen]; omega)]
          simp [List.getD]
      · rw [ancs]
        exact h2 o' (by rw [hlen]; omega) (by rw [hlen]; rw [show i - acc.length = (i - (acc.length + 1)) + 1 by omega] at ho; simpa using ho)

def flowOkAt2 (ops : Array Oper) (an : List (List Nat)) (n i : Nat) (o : Oper) : Bool :=
  let waits := fun j => o.after.any fun e => Region.binds .any e && e.on == j
  (match o.op with | .select .. => false | _ => true) && (o.after.all fun e => !Region.binds .any e || decide (e.on < i)) &&
  if i < n then
    o.dst.isSome &&
    (List.range n).all (fun j => j == i || ((ops[j]?).all fun oj => (match oj.dst with | some d => o.dst != some d && (!(o.looksAt ops).contains d || (decide (j < i) && waits j)) | none => true)))
  else (List.range i).all fun j => (an.getD i []).contains j
def flowOk2 (ops : Array Oper) (n : Nat) : Bool := decide (n ≤ ops.size) && (List.range ops.size).all fun i => (ops[i]?).all fun o => flowOkAt2 ops (ancs ops.toList []) n i o

section
variable {P : Program} {ops : Array Oper} {Q : Exit → Act → World → Prop} {a : Act} {w0 : World}

/-- Whoever has run has waited. -/
def Closed (ops : Array Oper) (listed : Array Bool) : Prop := ∀ i o, listed.getD i false = true → ops[i]? = some o → ∀ e ∈ o.after, Region.binds .any e = true → listed.getD e.on false = true

theorem anc_listed {listed : Array Bool} (hc : Closed ops listed) (hback : ∀ i o, ops[i]? = some o → ∀ e ∈ o.after, Region.binds .any e = true → e.on < i) : ∀ (i : Nat) (o : Oper), ops[i]? = some o → (∀ e ∈ o.after, Region.binds .any e = true → listed.getD e.on false = true) →
    ∀ j, j ∈ (ancs ops.toList []).getD i [] → listed.getD j false = true := by
  intro i
  induction i using Nat.strongRecOn with
  | _ i ih =>
    intro o ho hdeps j hj
    obtain ⟨acc', h1, h2, h3⟩ := (ancs_get ops.toList [] i).2 o (Nat.zero_le _) (by simpa using ho)
    rw [h3] at hj
    obtain ⟨e, he, hb, hx⟩ := mem_ancOf hj
    rcases hx with rfl | hx
    · exact hdeps e he hb
    · have hlt := hback i o ho e he hb
      rw [h2 _ hlt] at hx
      have hes : e.on < ops.size := by have := (Array.getElem?_eq_some_iff.1 ho).1; omega
      have hoe : ops[e.on]? = some ops[e.on] := by simp [hes]
      exact ih e.on hlt _ hoe (fun e' he' hb' => hc e.on _ (hdeps e he hb) hoe e' he' hb') j hx

theorem closed_set {listed : Array Bool} (hc : Closed ops listed) {i : Nat} {o : Oper} (ho : ops[i]? = some o) (hi : i < listed.size) (hdeps : ∀ e ∈ o.after, Region.binds .any e = true → listed.getD e.on false = true) : Closed ops (listed.setIfInBounds i true) := by
  have up : ∀ k, listed.getD k false = true → (listed.setIfInBounds i true).getD k false = true := fun k hk => by
    by_cases e : k = i
    · subst e; simp [Array.getD, hi]
    · rw [getD_set_ne false (Ne.symm e)]; exact hk
  intro k ok hk hok e he hb
  by_cases ek : k = i
  · subst ek
    rw [ho] at hok
    cases hok
    exact up _ (hdeps e he hb)
  · rw [getD_set_ne false (Ne.symm ek)] at hk
    exact up _ (hc k ok hk hok e he hb)

def Good (w0 : World) (Φ : Nat → Pr2) (W : World) (lo hi : Nat → Nat) (i : Nat) (v : Value) : Prop := w0.heap.size ≤ lo i ∧ lo i ≤ hi i ∧ hi i ≤ W.heap.size ∧ Φ i lo hi v W

structure FInv2 (ops : Array Oper) (w0 : World) (a : Act) (n : Nat) (Φ : Nat → Pr2) (D : Nat → Tmp) (listed : Array Bool) (A : Act) (W : World) : Prop where
  size : listed.size = ops.size
  late : ∀ i, n ≤ i → listed.getD i false = false
  closed : Closed ops listed
  ext : Ext w0 W
  tmps : A.tmps.size = a.tmps.size
  defers : A.defers = a.defers
  has : ∃ lo hi : Nat → Nat, (∀ i, i < n → listed.getD i false = true → Good w0 Φ W lo hi i (A.eval (.tmp (D i)))) ∧ ∀ i j, i < n → j < n → i ≠ j → listed.getD i false = true → listed.getD j false = true → hi i ≤ lo j ∨ hi j ≤ lo i
  out : ∀ t, (∀ i, i < n → listed.getD i false = true → D i ≠ t) → A.eval (.tmp t) = a.eval (.tmp t)

def FlowAll2 (P : Program) (ops : Array Oper) (w0 : World) (a : Act) (n : Nat) (Φ : Nat → Pr2) (D : Nat → Tmp) : Prop :=
  ∀ i, i < n → ∀ o, ops[i]? = some o → o.dst = some (D i) ∧ (∀ lo hi v W W', (∀ k, Anc ops i k → hi k ≤ W.heap.size) → Φ i lo hi v W → Ext W W' → Φ i lo hi v W') ∧
    (∀ lo hi lo' hi' v W, (∀ k, Anc ops i k → lo' k = lo k ∧ hi' k = hi k) → Φ i lo hi v W → Φ i lo' hi' v W) ∧
    ∀ A W (lo hi : Nat → Nat), Ext w0 W → A.tmps.size = a.tmps.size → A.defers = a.defers → (∀ j, j < i → D j ∈ o.looksAt ops → Anc ops i j ∧ Good w0 Φ W lo hi j (A.eval (.tmp (D j))) ∧ ∀ k, Anc ops j k → w0.heap.size ≤ lo k ∧ hi k ≤ W.heap.size) → (∀ t ∈ o.looksAt ops, (∀ j, j < i → D j ≠ t) → A.eval (.tmp t) = a.eval (.tmp t)) →
      FStep P ops o A W (fun v W' => Ext W W' ∧ ∀ lo' hi' : Nat → Nat, lo' i = W.heap.size → hi' i = W'.heap.size → (∀ k, k ≠ i → lo' k = lo k ∧ hi' k = hi k) → Φ i lo' hi' v W')

end
end Go.Proofs.Ytjmkoelmiehdjaa.A

namespace Go.Proofs.Ytjmkoelmiehdjaa.A
open Go.RowKit L
set_option linter.unusedVariables false
set_option linter.unusedSimpArgs false

abbrev Ch := List (Nat × (AV → List HE → Prop))

def rst (E : Env) : List Nat → Env
  | [] => []
  | t :: r => match look E t with
    | some v => (t, v) :: rst E r
    | none => rst E r
theorem look_rst {E : Env} {t : Nat} {v : AV} : ∀ {ts : List Nat}, look (rst E ts) t = some v → t ∈ ts ∧ look E t = some v
  | [], h => by cases h
  | s :: r, h => by
    unfold rst at h
    split at h
    · rename_i w hw
      unfold look at h
      cases hb : Nat.beq s t with
      | true =>
        rw [hb] at h
        cases h
        have := Nat.eq_of_beq_eq_true hb
        subst this
        exact ⟨List.mem_cons_self .., hw⟩
      | false =>
        rw [hb] at h
        obtain ⟨h1, h2⟩ := look_rst h
        exact ⟨List.mem_cons_of_mem _ h1, h2⟩
    · obtain ⟨h1, h2⟩ := look_rst h
      exact ⟨List.mem_cons_of_mem _ h1, h2⟩
def FA (P : Program) (N : Nat) (ops : Array Oper) (E0 : Env) (H0 : List HE) (K : Env → Ch → Prop) : Env → Ch → List Oper → Prop
  | ex, nx, [] => K ex nx
  | ex, nx, o :: rest => ∃ d, o.dst = some d ∧ d < N ∧ (nx.all fun p => !(o.looksAt ops).contains p.1) = true ∧
      ((∃ v, OpF P N ops o (rst (ex ++ E0) (o.looksAt ops)) H0 (Is v) ∧ FA P N ops E0 H0 K ((d, v) :: ex) nx rest) ∨
       (∃ Φ, OpF P N ops o (rst (ex ++ E0) (o.looksAt ops)) H0 Φ ∧ FA P N ops E0 H0 K ex ((d, Φ) :: nx) rest))

def chosen : Ch → (Env → List HE → Prop) → Prop
  | [], F => F [] []
  | (d, Φ) :: r, F => ∀ v Hn, Φ v Hn → chosen r fun E H => F ((d, v) :: E) (Hn ++ H)
def idx (p : Nat → Bool) (n : Nat) : List Nat := ((List.range n).filter p).reverse
section
variable {P : Program} {N : Nat} {ops : Array Oper} {E0 : Env} {H0 : List HE}

structure Facts (P : Program) (N : Nat) (ops : Array Oper) (E0 : Env) (H0 : List HE) (D : Nat → Nat) (X : Nat → Bool) (V : Nat → AV) (Ψ : Nat → AV → List HE → Prop) (i : Nat) (o : Oper) : Prop where
  dst : o.dst = some (D i)
  lt : D i < N
  exact : X i = true → Ψ i = Is (V i)
  far : ∀ j, j < i → X j = false → D j ∉ o.looksAt ops
  run : OpF P N ops o (rst ((idx X i).map (fun i => (D i, V i)) ++ E0) (o.looksAt ops)) H0 (Ψ i)

theorem Anc.trans {i j k : Nat} (h : Anc ops i j) (h' : Anc ops j k) : Anc ops i k := by
  induction h with
  | self i => exact h'
  | step i j _ o e ho he hb hj _ ih => exact .step i j k o e ho he hb hj (ih h')

/-- What is known of operation i's yield. -/
def Phi (ops : Array Oper) (w0 : World) (R : Nat → Prop) (X : Nat → Bool) (Ψ : Nat → AV → List HE → Prop) (i : Nat) : Pr2 := fun lo hi u W =>
  w0.heap.size ≤ W.heap.size ∧ ∃ v Hn R1, Ψ i v Hn ∧ (∀ b, R b → R1 b) ∧ (∀ b, R1 b → R b ∨ ∃ k, Anc ops i k ∧ (X k = true ∨ k = i) ∧ lo k ≤ b ∧ b < hi k) ∧ RelV R1 W v u ∧
    (∀ e ∈ Hn, e.ok R1 W ∧ ∀ b, e.foot b → lo i ≤ b ∧ b < hi i ∧ ¬ R1 b) ∧ Hn.Pairwise Disj

/-! One operation of the head. -/
section
variable {K : Env → Ch → Prop} {ex : Env} {nx : Ch} {rest : List Oper} {o : Oper}
theorem FA.op {d : Nat} {v : AV} (h : OpW P N o (rst (ex ++ E0) (o.looksAt ops)) H0 (Is v)) (hw : wantedIs ops (rst (ex ++ E0) (o.looksAt ops)) o = some true) (hd : o.dst = some d) (hN : Nat.ble (d + 1) N = true) (hnx : (nx.all fun p => !(o.looksAt ops).contains p.1) = true) (k : FA P N ops E0 H0 K ((d, v) :: ex) nx rest) :
    FA P N ops E0 H0 K ex nx (o :: rest) := ⟨d, hd, Nat.le_of_ble_eq_true hN, hnx, .inl ⟨v, .run hw h, k⟩⟩
theorem FA.opN {d : Nat} {Φ : AV → List HE → Prop} (h : OpW P N o (rst (ex ++ E0) (o.looksAt ops)) H0 Φ) (hw : wantedIs ops (rst (ex ++ E0) (o.looksAt ops)) o = some true) (hd : o.dst = some d) (hN : Nat.ble (d + 1) N = true) (hnx : (nx.all fun p => !(o.looksAt ops).contains p.1) = true) (k : FA P N ops E0 H0 K ex ((d, Φ) :: nx) rest) :
    FA P N ops E0 H0 K ex nx (o :: rest) := ⟨d, hd, Nat.le_of_ble_eq_true hN, hnx, .inr ⟨Φ, .run hw h, k⟩⟩
theorem FA.opG {d : Nat} {c : Bool} {v : AV} (hw : guardIs ops (rst (ex ++ E0) (o.looksAt ops)) o = some c) (hd : o.dst = some d) (hN : Nat.ble (d + 1) N = true) (hnx : (nx.all fun p => !(o.looksAt ops).contains p.1) = true) (h : c = true → OpW P N o (rst (ex ++ E0) (o.looksAt ops)) H0 (Is v)) (k : FA P N ops E0 H0 K ((d, .opt c v) :: ex) nx rest) :
    FA P N ops E0 H0 K ex nx (o :: rest) := ⟨d, hd, Nat.le_of_ble_eq_true hN, hnx, .inl ⟨_, .opt hw h, k⟩⟩
theorem FA.no {d : Nat} (hw : wantedIs ops (rst (ex ++ E0) (o.looksAt ops)) o = some false) (hd : o.dst = some d) (hN : Nat.ble (d + 1) N = true) (hnx : (nx.all fun p => !(o.looksAt ops).contains p.1) = true) (k : FA P N ops E0 H0 K ((d, .val undef) :: ex) nx rest) :
    FA P N ops E0 H0 K ex nx (o :: rest) := ⟨d, hd, Nat.le_of_ble_eq_true hN, hnx, .inl ⟨_, .no hw, k⟩⟩
theorem FA.nil (k : K ex nx) : FA P N ops E0 H0 K ex nx [] := k
end
end
end Go.Proofs.Ytjmkoelmiehdjaa.A

namespace Go.Proofs.Ytjmkoelmiehdjaa.A
open Go.RowKit L
set_option linter.unusedVariables false
set_option linter.unusedSimpArgs false

def bytesA (l : List UInt8) : List AV := l.map fun b => .val (.int .u8 (b.toNat : Int))
def roB (l : List UInt8) : AV := .ro false l.length (bytesA l)
def intsA (k : IntKind) (l : List Int) : List AV := l.map fun z => .val (.int k z)
def roI (l : List Int) : AV := .ro false l.length (intsA .i64 l)
@[simp] theorem bytesA_length (l : List UInt8) : (bytesA l).length = l.length := by simp [bytesA]
@[simp] theorem intsA_length (k : IntKind) (l : List Int) : (intsA k l).length = l.length := by simp [intsA]
@[simp] theorem bytesA_one (l : List UInt8) : (bytesA l).all AV.one = true := by simp [bytesA, AV.one, Value.oneCell']
@[simp] theorem intsA_one (k : IntKind) (l : List Int) : (intsA k l).all AV.one = true := by simp [intsA, AV.one, Value.oneCell']
@[simp] theorem bytesA_app (l m : List UInt8) : bytesA (l ++ m) = bytesA l ++ bytesA m := by simp [bytesA]
@[simp] theorem intsA_app (k : IntKind) (l m : List Int) : intsA k (l ++ m) = intsA k l ++ intsA k m := by simp [intsA]

def strOf (l : List UInt8) : ByteArray := ⟨l.toArray⟩
theorem strOf_toList (l : List UInt8) : (strOf l).toList = l := by rw [ByteArray.toList_eq]; simp [strOf]

section
variable {Γ : Cx} {P : Program} {Q : Exit → Act → World → Prop} {E : Env} {H : List HE} {N : Nat} {o : Oper} {ops : Array Oper} {rest : List Oper}

/-- A slice against nil. -/
def IsNil (n : Nat) (pos : Bool) : AV → List HE → Prop := fun v Hn => ∃ c : Bool, v = .val (.bool c) ∧ Hn = [] ∧ ((c == pos) = true → n = 0)
theorem O.maxI {T : Array Nat} {x y : Operand} {k : IntKind} {p q c : Int} (ho : o.op = .call { callee := .builtin .max, args := #[x, y], argTypes := T }) (hx : ev E x = some (.val (.int k p))) (hy : ev E y = some (.val (.int k q))) (hc : (if p < q then q else p) = c) :
    OpW P N o E H (Is (.val (.int k c))) := .of_run fun R a W h1 h2 ha =>
  ⟨.int k c, by simp [execOp, ho, (ha.ev hx).val_inv, (ha.ev hy).val_inv, resolve, invoke, builtin, Builtin.max_, Builtin.max2, hc], .val _⟩

end
end Go.Proofs.Ytjmkoelmiehdjaa.A

namespace Go.Proofs.Ytjmkoelmiehdjaa.A
open Go.RowKit L
set_option linter.unusedVariables false
set_option linter.unusedSimpArgs false

def bndV (E : Env) : Option Operand → Nat → Option Int
  | none, d => some d
  | some x, _ => match ev E x with
    | some (.val (.int _ z)) => some z
    | _ => none

section
variable {Γ : Cx} {P : Program} {Q : Exit → Act → World → Prop} {E : Env} {H : List HE} {N : Nat} {o : Oper} {ops : Array Oper} {rest : List Oper}

/-- A slice from a block's head that is written no more. -/
theorem G.freezeSl {X : Act → World → Prop} (i t : Nat) {b T room n cap : Nat} {xs : List AV} (hi : H[i]? = some (.blk b T room xs)) (ht : look E t = some (.val (.slice (some ⟨b, 0, none⟩) n cap))) (hc : n ≤ cap ∧ cap ≤ maxLen) (k : G Γ ((t, .ro (Nat.beq n cap) n xs) :: E) (H.eraseIdx i) X) : G Γ E H X :=
  G.freezeBlk i hi [(t, .ro (Nat.beq n cap) n xs)] (fun p hp => by
    obtain rfl : p = (t, .ro (Nat.beq n cap) n xs) := by simpa using hp
    exact .inr ⟨n, cap, ht, rfl, hc.1, hc.2⟩) k
end
end Go.Proofs.Ytjmkoelmiehdjaa.A

namespace Go.Proofs.Ytjmkoelmiehdjaa.A
open Go.RowKit L
set_option linter.unusedVariables false
set_option linter.unusedSimpArgs false

def Coe (a b : AV) : Prop := ∀ R W u, RelV R W a u → RelV R W b u
def CoeL (a b : List AV) : Prop := ∀ R W us, RelL R W a us → RelL R W b us
theorem Coe.rfl {a : AV} : Coe a a := fun _ _ _ h => h
theorem Coe.nil : Coe (.val (.slice none 0 0)) (.ro false 0 []) := fun _ _ _ h => h.nilRo
theorem Coe.unfull {full : Bool} {n : Nat} {xs : List AV} : Coe (.ro full n xs) (.ro false n xs) := fun _ _ _ h => h.unfull
theorem CoeL.nil : CoeL [] [] := fun _ _ _ h => h
theorem CoeL.cons {a b : AV} {x y : List AV} (h : Coe a b) (hs : CoeL x y) : CoeL (a :: x) (b :: y) := fun R W us hu => by
  obtain ⟨u, r, rfl, h1, h2⟩ := hu.uncons
  exact RelL.cons (h R W u h1) (hs R W r h2)
theorem CoeL.refl {a : List AV} : CoeL a a := fun _ _ _ h => h
theorem Coe.agg {x y : List AV} (h : CoeL x y) : Coe (.agg x) (.agg y) := fun R W u hu => by
  obtain ⟨us, rfl, h1⟩ := hu.agg_inv
  exact (h R W us h1).toAgg
section
variable {Γ : Cx} {P : Program} {Q : Exit → Act → World → Prop} {E : Env} {H : List HE} {N : Nat} {o : Oper} {ops : Array Oper} {rest : List Oper}
/-- The same, in other words. -/
theorem G.re {X : Act → World → Prop} (t : Nat) (b : AV) (ht : look E t = some b) (k : G Γ ((t, b) :: E) H X) : G Γ E H X := fun R a' W hs ha => k R a' W hs (ha.shadow (ha.slots t _ ht))
end

theorem tmod_fix2 (v n : Int) (h : 0 < n) : (if v.tmod n < 0 then v.tmod n + n else v.tmod n) = v % n := by
  have h1 := Int.tmod_add_mul_tdiv v n
  have h2 : v.tmod n < n := Int.tmod_lt_of_pos v h
  have h3 : -n < v.tmod n := by
    rcases Int.le_total 0 v with hv | hv
    · have := Int.tmod_nonneg n hv; omega
    · have := Int.lt_tmod_of_pos v h; omega
  split
  · rename_i hlt
    have e : v = v.tmod n + n + n * (v.tdiv n - 1) := by rw [Int.mul_sub]; omega
    rw [e, Int.add_mul_emod_self_left, ← e, Int.emod_eq_of_lt (by omega) (by omega)]
  · have e : v = v.tmod n + n * (v.tdiv n) := by omega
    rw [e, Int.add_mul_emod_self_left, ← e, Int.emod_eq_of_lt (by omega) (by omega)]
end Go.Proofs.Ytjmkoelmiehdjaa.A

namespace Go.Proofs.Ytjmkoelmiehdjaa.A
open Go.RowKit L
set_option linter.unusedVariables false
set_option linter.unusedSimpArgs false
/-- A number's byte. -/
def u8 (x : Int) : UInt8 := UInt8.ofNat (x % 256).toNat
section
variable {Γ : Cx} {P : Program} {Q : Exit → Act → World → Prop} {E : Env} {H : List HE} {N : Nat} {o : Oper} {ops : Array Oper} {rest : List Oper}

def IsM (v : AV) (e : HE) : AV → List HE → Prop := fun r H' => r = v ∧ H' = [e]

theorem AO.perm {H' : List HE} {l : List Oper} (hp : H.Perm H') (h : AO Γ P ops Q l E H') : AO Γ P ops Q l E H := fun R a W hs ha => h R a W (hs.perm hp.symm) ha

/-- The row reads as this while it is lent. -/
theorem row_ro {R : Nat → Prop} {W : World} {v : Value} {T sz n : Nat} {xs : List AV} (h : HE.ok R W (.row v T sz n xs)) : RelV (fun b => R b ∨ (HE.row v T sz n xs).foot b) W (.ro false n xs) v := by
  obtain ⟨us, hown, hr⟩ := h
  have hr' := hr.mono (R' := fun b => R b ∨ (HE.row v T sz n xs).foot b) (fun _ h => .inl h) (W' := W) (fun _ _ => rfl)
  rcases hown.2 with ⟨rfl, rfl⟩ | ⟨g, cap, cur, rfl, hbg, hg, h1, h2, h3, h4⟩
  · have : xs = [] := List.eq_nil_of_length_eq_zero (by rw [← hr.1, hown.1]; simp)
    subst this
    exact .emp _ _ _ (fun h => by cases h) (Nat.zero_le _)
  · refine .ro false n xs g 0 cap (fun j => us.getD j undef) (.inr rfl) (fun j hj => ?_) (fun j hj => hr'.2 j hj) h1 h2 (fun h => by cases h)
    have hj' : j < us.length := by rw [hr.1]; exact hj
    have := hown.cells (g := g) rfl j us[j] (by simp [hj'])
    rw [addr_add] at this
    rw [this]
    simp [List.getD, hj']

inductive LendL (v : Value) (y : AV) : List AV → List AV → Prop
  | nil : LendL v y [] []
  | same {a : AV} {r r' : List AV} : LendL v y r r' → LendL v y (a :: r) (a :: r')
  | lend {r r' : List AV} : LendL v y r r' → LendL v y (.val v :: r) (y :: r')
theorem LendL.rel {R R1 : Nat → Prop} {W : World} {v : Value} {y : AV} (hR : ∀ b, R b → R1 b) (hy : RelV R1 W y v) {a a' : List AV} (h : LendL v y a a') : ∀ {us : List Value}, RelL R W a us → RelL R1 W a' us := by
  induction h with
  | nil => intro us h; exact h.mono hR (fun _ _ => rfl)
  | same _ ih =>
    intro us h
    obtain ⟨u, r, rfl, h1, h2⟩ := h.uncons
    exact RelL.cons (h1.mono hR (fun _ _ => rfl)) (ih h2)
  | lend _ ih =>
    intro us h
    obtain ⟨u, r, rfl, h1, h2⟩ := h.uncons
    have := h1.val_inv
    subst this
    exact RelL.cons hy (ih h2)
end
end Go.Proofs.Ytjmkoelmiehdjaa.A

namespace Go.Proofs.Ytjmkoelmiehdjaa.A
open Go.RowKit L
set_option linter.unusedVariables false
set_option linter.unusedSimpArgs false
section
variable {Γ : Cx} {P : Program} {Q : Exit → Act → World → Prop} {E : Env} {H : List HE} {N : Nat} {o : Oper} {ops : Array Oper} {rest : List Oper}

end
end Go.Proofs.Ytjmkoelmiehdjaa.A

namespace Go.Proofs.Ytjmkoelmiehdjaa.A
open Go.RowKit L
set_option linter.unusedVariables false
set_option linter.unusedSimpArgs false
section
variable {Γ : Cx} {P : Program} {Q : Exit → Act → World → Prop} {E : Env} {H : List HE} {N : Nat} {o : Oper} {ops : Array Oper} {rest : List Oper}

def valsOf : List AV → Option (List Value)
  | [] => some []
  | .val v :: r => (valsOf r).map (v :: ·)
  | _ :: _ => none
theorem valsOf_rel {R : Nat → Prop} {W : World} : ∀ {xs : List AV} {us vs : List Value}, valsOf xs = some us → RelL R W xs vs → vs = us
  | [], us, vs, h, hr => by
    cases h
    exact List.eq_nil_of_length_eq_zero (by simpa using hr.1)
  | x :: xs, us, vs, h, hr => by
    obtain ⟨v, r, rfl, h1, h2⟩ := hr.uncons
    cases x with
    | val w =>
      simp only [valsOf] at h
      cases hq : valsOf xs with
      | none => rw [hq] at h; cases h
      | some us' =>
        rw [hq] at h
        cases h
        rw [h1.val_inv, valsOf_rel hq h2]
    | _ => simp [valsOf] at h
end
end Go.Proofs.Ytjmkoelmiehdjaa.A

namespace Go.Proofs.Ytjmkoelmiehdjaa.A
open Go.RowKit L
set_option linter.unusedVariables false
set_option linter.unusedSimpArgs false
section
variable {Γ : Cx} {P : Program} {Q : Exit → Act → World → Prop} {E : Env} {H : List HE} {N : Nat} {o : Oper} {ops : Array Oper} {rest : List Oper}

theorem subPnil {H : List HE} : ∃ H1, H1.Sublist H ∧ ([] : List HE).Perm H1 := ⟨[], List.nil_sublist _, .nil⟩
theorem subPcons (i : Nat) {e : HE} {r H : List HE} (h : H[i]? = some e) (hr : ∃ H1, H1.Sublist (H.eraseIdx i) ∧ r.Perm H1) : ∃ H1, H1.Sublist H ∧ (e :: r).Perm H1 := by
  obtain ⟨H1, h1, h2⟩ := hr
  obtain ⟨hlt, rfl⟩ := List.getElem?_eq_some_iff.1 h
  rw [List.eraseIdx_eq_take_drop_succ, List.sublist_append_iff] at h1
  obtain ⟨A, B, rfl, hA, hB⟩ := h1
  refine ⟨A ++ H[i] :: B, ?_, ?_⟩
  · have e : H = H.take i ++ H[i] :: H.drop (i + 1) := by rw [← List.drop_eq_getElem_cons hlt, List.take_append_drop]
    have h9 : (A ++ H[i] :: B).Sublist (H.take i ++ H[i] :: H.drop (i + 1)) := hA.append (hB.cons_cons _)
    rwa [← e] at h9
  · exact (h2.cons _).trans (List.perm_middle.symm)
/-- What a loop only reads stays as it is. -/
def LoopK (K : Env) (I : Nat → Env → List HE → Prop) : Nat → Env → List HE → Prop := fun n E H => ∃ E1, I n E1 H ∧ E = E1 ++ K
theorem env_app {K E1 : Env} (h1 : ∀ p ∈ E1, look E p.1 = some p.2) (h2 : ∀ p ∈ K, look E p.1 = some p.2) : ∀ p ∈ E1 ++ K, look E p.1 = some p.2 := fun p hp => by
  rcases List.mem_append.1 hp with hp | hp
  · exact h1 p hp
  · exact h2 p hp
theorem AW.loopK {c : Code} (K : Env) (I : Nat → Env → List HE → Prop) (n : Nat) {E0 : Env} {H0 : List HE} (hI : I n E0 H0) (hK : ∀ p ∈ K, look E p.1 = some p.2) (hE : ∀ p ∈ E0, look E p.1 = some p.2) (hH : ∃ H1, H1.Sublist H ∧ H0.Perm H1)
    (round : ∀ n E1 H, I n E1 H → AW Γ P (LoopQ (LoopK K I) n Γ Q) c (E1 ++ K) H) : AW Γ P Q (.loop c) E H :=
  AW.loop (LoopK K I) n (E0 := E0 ++ K) (H0 := H0) ⟨E0, hI, rfl⟩ (env_app hE hK) hH (by
    rintro n _ H ⟨E1, h, rfl⟩
    exact round n E1 H h)
theorem AQ.loopKN {K : Env} {I : Nat → Env → List HE → Prop} {n : Nat} (m : Nat) (E1 : Env) (H0 : List HE) (hm : m < n) (hI : I m E1 H0) (hK : ∀ p ∈ K, look E p.1 = some p.2) (hE : ∀ p ∈ E1, look E p.1 = some p.2) (hH : ∃ H1, H1.Sublist H ∧ H0.Perm H1) :
    AQ Γ (LoopQ (LoopK K I) n Γ Q) .normal E H := AQ.loopN m (E1 ++ K) H0 hm ⟨E1, hI, rfl⟩ (env_app hE hK) hH

end
end Go.Proofs.Ytjmkoelmiehdjaa.A

namespace Go.Proofs.Ytjmkoelmiehdjaa.A
open Go.RowKit L
set_option linter.unusedVariables false
set_option linter.unusedSimpArgs false

section
variable {P : Program} {ops : Array Oper} {N : Nat}

/-- What an operation leaves, its temporary told apart. -/
theorem Oper.wp_put {o : Oper} {a : Act} {w : World} {K : Act → World → Prop} {Q : Exit → Act → World → Prop} (h : o.wp P a w K Q) : o.wp P a w (fun A' W' => K A' W' ∧ ((∃ u, A' = a.put o.dst u) ∨ A'.defers ≠ [])) Q := by
  unfold Oper.wp at h ⊢
  cases hr : (execOp a.eval o).run P w with
  | ok n w' =>
    rw [hr] at h
    cases n with
    | value v => exact ⟨h, .inl ⟨v, rfl⟩⟩
    | skip => exact ⟨h, .inl ⟨_, rfl⟩⟩
    | defer d => exact ⟨h, .inr (by simp [Act.put]; split <;> simp)⟩
    | enter f args =>
      refine Calls.mono h ?_
      intro e w'' he
      cases e with
      | returned v => exact ⟨he, .inl ⟨v, rfl⟩⟩
      | _ => exact he
    | row r args =>
      refine Rows.mono h ?_
      intro v w'' he
      exact ⟨he, .inl ⟨v, rfl⟩⟩
    | _ => exact h
  | halt x w' =>
    rw [hr] at h
    cases x <;> exact h

theorem rst_skip {E : Env} {d : Nat} {v : AV} : ∀ {ts : List Nat}, d ∉ ts → rst ((d, v) :: E) ts = rst E ts
  | [], _ => rfl
  | t :: r, h => by
    simp only [List.mem_cons, not_or] at h
    have hb : Nat.beq d t = false := by
      cases hb : Nat.beq d t with
      | false => rfl
      | true => exact absurd (Nat.eq_of_beq_eq_true hb) h.1
    have hl : look ((d, v) :: E) t = look E t := by simp only [look, hb]; rfl
    rw [rst, rst, hl, rst_skip h.2]
theorem look_skip {E : Env} {d t : Nat} {v : AV} (h : d ≠ t) : look ((d, v) :: E) t = look E t := by
  have hb : Nat.beq d t = false := by
    cases hb : Nat.beq d t with
    | false => rfl
    | true => exact absurd (Nat.eq_of_beq_eq_true hb) h
  simp only [look, hb]; rfl
theorem look_here {E : Env} {d : Nat} {v : AV} : look ((d, v) :: E) d = some v := by simp [look]

/-- What a writing operation leaves. -/
def QS (Γ : Cx) (d : Option Nat) (S : AV → List HE → Prop) : Exit → Act → World → Prop := fun x a W =>
  match x with
  | .normal => a.defers = [] ∧ ∃ v H' R', S v H' ∧ RelS Γ R' H' W ∧ ∀ t, d = some t → RelV R' W v (a.eval (.tmp t))
  | _ => False
def putE : Option Nat → AV → Env → Env
  | some d, v, E => (d, v) :: E
  | none, _, E => E

/-- Operations in this order: true those that write, false those that read. -/
def AM (P : Program) (N : Nat) (ops : Array Oper) (Hs : List HE) (K : Env → List HE → Prop) : List (Nat × Bool) → Env → List HE → Prop
  | [], E, H => K E H
  | (i, true) :: r, E, H => ∃ o, ops[i]? = some o ∧ ∀ w0 R0, AO ⟨w0, footOf H, R0, N⟩ P ops (QS ⟨w0, footOf H, R0, N⟩ o.dst (fun v H' => AM P N ops Hs K r (putE o.dst v E) H')) [o] (rst E (o.looksAt ops)) H
  | (i, false) :: r, E, H => ∃ o d v, ops[i]? = some o ∧ o.dst = some d ∧ d < N ∧ OpF P N ops o (rst E (o.looksAt ops)) Hs (Is v) ∧ AM P N ops Hs K r ((d, v) :: E) H

/-- One operation ahead of another. -/
def ordPair (ops : Array Oper) (an : List (List Nat)) (i : Nat) (b : Bool) (j : Nat) (c : Bool) : Bool :=
  match ops[i]?, ops[j]? with
  | some oi, some oj =>
    let waits := oj.after.any fun e => Region.binds .any e && e.on == i
    let anc := (an.getD j []).contains i
    (i != j) && (!b || anc) &&
    (match oj.dst with
      | some d => if c then (!((oi.looksAt ops).contains d || oi.dst == some d)) || anc else !(oi.looksAt ops).contains d && oi.dst != some d
      | none => c) &&
    (match oi.dst with
      | some d => !(oj.looksAt ops).contains d || waits
      | none => true)
  | _, _ => false
def ordPairs (ops : Array Oper) (an : List (List Nat)) : List (Nat × Bool) → Bool
  | [] => true
  | (i, b) :: r => (b || (match ops[i]? with | some o => (match o.dst with | some d => !(o.looksAt ops).contains d | none => false) | none => false)) && r.all (fun q => ordPair ops an i b q.1 q.2) && ordPairs ops an r
def ordOk (ops : Array Oper) (ord : List (Nat × Bool)) : Bool :=
  ((List.range ops.size).all fun i => (ord.map Prod.fst).contains i) && (ord.all fun q => decide (q.1 < ops.size)) &&
  ((List.range ops.size).all fun i => (ops[i]?).all fun o => o.after.all fun e => !Region.binds .any e || decide (e.on < i)) && ordPairs ops (ancs ops.toList []) ord

theorem ordPairs_app {an : List (List Nat)} : ∀ {pre r : List (Nat × Bool)}, ordPairs ops an (pre ++ r) = true → ordPairs ops an r = true ∧ ∀ q ∈ pre, ∀ s ∈ r, ordPair ops an q.1 q.2 s.1 s.2 = true
  | [], r, h => ⟨h, fun q hq => by cases hq⟩
  | (i, b) :: pre, r, h => by
    rw [List.cons_append, ordPairs] at h
    simp only [Bool.and_eq_true, List.all_eq_true] at h
    obtain ⟨h1, h2⟩ := ordPairs_app h.2
    refine ⟨h1, fun q hq s hs => ?_⟩
    rcases List.mem_cons.1 hq with rfl | hq
    · exact h.1.2 s (List.mem_append_right _ hs)
    · exact h2 q hq s hs

structure PairOk (ops : Array Oper) (an : List (List Nat)) (i : Nat) (b : Bool) (oi : Oper) (j : Nat) (c : Bool) (oj : Oper) : Prop where
  ne : i ≠ j
  main : b = true → i ∈ an.getD j []
  flt : c = false → ∃ d, oj.dst = some d ∧ d ∉ oi.looksAt ops ∧ oi.dst ≠ some d
  mn : c = true → ∀ d, oj.dst = some d → (d ∈ oi.looksAt ops ∨ oi.dst = some d) → i ∈ an.getD j []
  reads : ∀ d, oi.dst = some d → d ∈ oj.looksAt ops → ∃ e ∈ oj.after, Region.binds .any e = true ∧ e.on = i
theorem pairOk {an : List (List Nat)} {i j : Nat} {b c : Bool} {oi oj : Oper} (h : ordPair ops an i b j c = true) (hi : ops[i]? = some oi) (hj : ops[j]? = some oj) : PairOk ops an i b oi j c oj := by
  unfold ordPair at h
  rw [hi, hj] at h
  simp only [Bool.and_eq_true, bne_iff_ne, ne_eq] at h
  obtain ⟨⟨⟨h1, h2⟩, h3⟩, h4⟩ := h
  refine ⟨h1, fun hb => ?_, fun hc => ?_, fun hc d hd hm => ?_, fun d hd hm => ?_⟩
  · subst hb; simpa using h2
  · subst hc
    cases hd : oj.dst with
    | none => rw [hd] at h3; cases h3
    | some d =>
      rw [hd] at h3
      simp at h3
      exact ⟨d, rfl, h3.1, h3.2⟩
  · subst hc
    rw [hd] at h3
    simp at h3
    rcases h3 with h3 | h3
    · rcases hm with hm | hm
      · exact absurd hm h3.1
      · exact absurd hm h3.2
    · exact h3
  · rw [hd] at h4
    simp only [Bool.or_eq_true, Bool.not_eq_true', List.contains_eq_mem, decide_eq_false_iff_not] at h4
    rcases h4 with h4 | h4
    · exact absurd hm h4
    · obtain ⟨x, hx, hx2⟩ := any_mem h4
      simp only [Bool.and_eq_true, beq_iff_eq] at hx2
      exact ⟨x, hx, hx2.1, hx2.2⟩

/-- Two steps, the first over all, the second over what it may write. -/
theorem RelS.part {Γ : Cx} {R R' : Nat → Prop} {Hm Hs H' : List HE} {W W' : World} (hs0 : RelS Γ R (Hm ++ Hs) W) (hs' : RelS ⟨W, footOf Hm, R, N⟩ R' H' W') : RelS Γ R' (H' ++ Hs) W' ∧ ∀ b, R b → W'.heap[b]? = W.heap[b]? := by
  have hS0 : ∀ b, footOf Hm b → Γ.w0.heap.size ≤ b ∨ Γ.S b := fun b ⟨e, he, hb⟩ => (hs0.own e (List.mem_append_left _ he) b hb).1
  have hnR : ∀ b, footOf Hm b → ¬ R b := fun b ⟨e, he, hb⟩ => (hs0.own e (List.mem_append_left _ he) b hb).2
  have h1lt : ∀ e ∈ Hs, ∀ b, e.foot b → b < W.heap.size := fun e he b hb => HE.ok_lt (hs0.ok e (List.mem_append_right _ he)) hb
  have h10 : ∀ e ∈ Hs, ∀ b, e.foot b → ¬ footOf Hm b := fun e he b hb ⟨f, hf, hb'⟩ => (List.pairwise_append.1 hs0.disj).2.2 f hf e he b hb' hb
  have hR : ∀ b, R b → W'.heap[b]? = W.heap[b]? := fun b hb => hs'.mods.block b (hs0.rlt b hb) fun hh => hnR b hh hb
  refine ⟨⟨Mods.then hs0.mods hs'.mods fun b hb hh => ?_, hs'.rlt, fun b hb => hs'.rsub b (hs0.rsub b hb), fun b hb => ?_, ?_, ?_, ?_⟩, hR⟩
  · rcases hS0 b hh with h | h
    · omega
    · exact h
  · rcases hs'.rnew b hb with h | h | h
    · exact hs0.rnew b h
    · exact .inr (.inl (Nat.le_trans hs0.mods.size h))
    · exact .inr (hS0 b h)
  · intro e he
    rcases List.mem_append.1 he with he | he
    · exact hs'.ok e he
    · exact HE.ok_mono hs'.rsub hR hs'.mods.size (fun b hb => hs'.mods.block b (h1lt e he b hb) (h10 e he b hb)) (hs0.ok e (List.mem_append_right _ he))
  · intro e he b hb
    rcases List.mem_append.1 he with he | he
    · obtain ⟨h2, h3⟩ := hs'.own e he b hb
      refine ⟨?_, h3⟩
      rcases h2 with h2 | h2
      · exact .inl (Nat.le_trans hs0.mods.size h2)
      · exact hS0 b h2
    · refine ⟨(hs0.own e (List.mem_append_right _ he) b hb).1, fun hr => ?_⟩
      rcases hs'.rnew b hr with h | h | h
      · exact (hs0.own e (List.mem_append_right _ he) b hb).2 h
      · have h5 := h1lt e he b hb
        exact absurd h (by simpa using h5)
      · exact h10 e he b hb h
  · rw [List.pairwise_append]
    refine ⟨hs'.disj, (List.pairwise_append.1 hs0.disj).2.1, fun e he f hf b hb hb' => ?_⟩
    rcases (hs'.own e he b hb).1 with h | h
    · have h5 := h1lt f hf b hb'
      exact absurd h (by simpa using h5)
    · exact h10 f hf b hb' h

/-- The state on the way. -/
structure MI (P : Program) (Γ : Cx) (ops : Array Oper) (Hs : List HE) (K : Env → List HE → Prop) (ord : List (Nat × Bool)) (listed : Array Bool) (A : Act) (W : World) (pre ms : List (Nat × Bool)) (Pd : List Nat) (E : Env) (H : List HE) (R : Nat → Prop) : Prop where
  size : listed.size = ops.size
  closed : Closed ops listed
  part : ∀ i, i < ops.size → (listed.getD i false = false ↔ i ∈ Pd ∨ i ∈ ms.map Prod.fst)
  ord : ord = pre ++ ms
  pdp : ∀ i ∈ Pd, (i, false) ∈ pre
  am : AM P Γ.N ops Hs K ms E H
  pend : ∀ i ∈ Pd, ∃ o d v, ops[i]? = some o ∧ o.dst = some d ∧ d < Γ.N ∧ look E d = some v ∧ OpF P Γ.N ops o (rst E (o.looksAt ops)) Hs (Is v)
  rels : RelS Γ R (H ++ Hs) W
  defers : A.defers = []
  tmps : A.tmps.size = Γ.N
  act : ∀ t v, look E t = some v → (∀ i ∈ Pd, ∀ o, ops[i]? = some o → o.dst ≠ some t) → RelV R W v (A.eval (.tmp t))

variable {Γ : Cx} {Hs : List HE} {K : Env → List HE → Prop} {ord : List (Nat × Bool)}

/-- What reads is pending as soon as it may run. -/
theorem MI.absorb {listed : Array Bool} {A : Act} {W : World} {R : Nat → Prop} (hok : ordPairs ops (ancs ops.toList []) ord = true) : ∀ (ms pre : List (Nat × Bool)) (Pd : List Nat) (E : Env) (H : List HE), MI P Γ ops Hs K ord listed A W pre ms Pd E H R →
    ∃ pre' ms' Pd' E', MI P Γ ops Hs K ord listed A W pre' ms' Pd' E' H R ∧ (ms' = [] ∨ ∃ m r, ms' = (m, true) :: r)
  | [], pre, Pd, E, H, h => ⟨pre, [], Pd, E, h, .inl rfl⟩
  | (m, true) :: r, pre, Pd, E, H, h => ⟨pre, _, Pd, E, h, .inr ⟨m, r, rfl⟩⟩
  | (j, false) :: r, pre, Pd, E, H, h => by
    obtain ⟨o, d, v, ho, hd, hN, hop, ham⟩ := h.am
    have hord := h.ord
    have hq := ordPairs_app (pre := pre) (r := (j, false) :: r) (by rw [← hord]; exact hok)
    have hself : d ∉ o.looksAt ops := by
      have := hq.1
      rw [ordPairs] at this
      simp only [Bool.and_eq_true, ho, hd, Bool.false_or] at this
      simpa using this.1.1
    have hp : ∀ i ∈ Pd, ∀ oi, ops[i]? = some oi → d ∉ oi.looksAt ops ∧ oi.dst ≠ some d := fun i hi oi hoi => by
      have := pairOk (hq.2 _ (h.pdp i hi) (j, false) (List.mem_cons_self ..)) hoi ho
      obtain ⟨d', h1, h2, h3⟩ := this.flt rfl
      rw [hd] at h1
      cases h1
      exact ⟨h2, h3⟩
    refine MI.absorb hok r (pre ++ [(j, false)]) (j :: Pd) ((d, v) :: E) H ⟨h.size, h.closed, fun i hi => ?_, by rw [hord]; simp, fun i hi => ?_, ham, fun i hi => ?_, h.rels, h.defers, h.tmps, fun t x ht hpd => ?_⟩
    · rw [h.part i hi]
      simp only [List.map_cons, List.mem_cons]
      constructor
      · rintro (h | h | h)
        · exact .inl (.inr h)
        · exact .inl (.inl h)
        · exact .inr h
      · rintro ((h | h) | h)
        · exact .inr (.inl h)
        · exact .inl h
        · exact .inr (.inr h)
    · rcases List.mem_cons.1 hi with rfl | hi
      · simp
      · exact List.mem_append_left _ (h.pdp i hi)
    · rcases List.mem_cons.1 hi with rfl | hi
      · exact ⟨o, d, v, ho, hd, hN, look_here, by rw [rst_skip hself]; exact hop⟩
      · obtain ⟨oi, di, vi, h1, h2, h3, h4, h5⟩ := h.pend i hi
        obtain ⟨h6, h7⟩ := hp i hi oi h1
        refine ⟨oi, di, vi, h1, h2, h3, ?_, by rw [rst_skip h6]; exact h5⟩
        rw [look_skip (fun e => h7 (by rw [h2, e]))]; exact h4
    · have hne : d ≠ t := fun e => hpd j (List.mem_cons_self ..) o ho (by rw [hd, e])
      rw [look_skip hne] at ht
      exact h.act t x ht fun i hi => hpd i (List.mem_cons_of_mem _ hi)

theorem MI.reads {listed : Array Bool} {A : Act} {W : World} {R : Nat → Prop} {pre ms : List (Nat × Bool)} {Pd : List Nat} {E : Env} {H : List HE} (hok : ordPairs ops (ancs ops.toList []) ord = true) (h : MI P Γ ops Hs K ord listed A W pre ms Pd E H R)
    {i : Nat} {b : Bool} {o : Oper} (ho : ops[i]? = some o) (hdeps : ∀ e ∈ o.after, Region.binds .any e = true → listed.getD e.on false = true) (hi : (i, b) ∈ pre ∧ i ∈ Pd ∧ b = false ∨ ∃ r, ms = (i, b) :: r) : RelA Γ.N R W (rst E (o.looksAt ops)) A := by
  refine ⟨h.defers, h.tmps, fun t v ht => ?_⟩
  obtain ⟨htl, ht⟩ := look_rst ht
  refine h.act t v ht fun k hk ok hok' hdk => ?_
  have hkp := h.pdp k hk
  have hkf : listed.getD k false = false := (h.part k (Array.getElem?_eq_some_iff.1 hok').1).2 (.inl hk)
  have direct : ordPair ops (ancs ops.toList []) k false i b = true → False := fun hp => by
    obtain ⟨e, he, hb, hon⟩ := (pairOk hp hok' ho).reads t hdk htl
    have := hdeps e he hb
    rw [hon, hkf] at this; cases this
  rcases hi with ⟨hip, hiP, rfl⟩ | ⟨r, hms⟩
  · -- both ahead
    obtain ⟨p1, p2, hp12⟩ := List.append_of_mem hkp
    have hord := h.ord
    rw [hp12, List.append_assoc] at hord
    rw [hp12] at hip
    rcases List.mem_append.1 hip with hip | hip
    · -- i ahead of k
      have hq := ordPairs_app (pre := p1) (by rw [← hord]; exact hok)
      have := pairOk (hq.2 _ hip (k, false) (List.mem_cons_self ..)) ho hok'
      obtain ⟨d', h1, h2, -⟩ := this.flt rfl
      rw [hdk] at h1; cases h1
      exact h2 htl
    · rcases List.mem_cons.1 hip with he | hip
      · cases he
        -- itself
        have hq := (ordPairs_app (pre := p1) (by rw [← hord]; exact hok)).1
        rw [List.cons_append, ordPairs] at hq
        simp only [Bool.and_eq_true] at hq
        obtain rfl : o = ok := by rw [ho] at hok'; exact Option.some.inj hok'
        have := hq.1.1
        rw [ho] at this
        simp only [hdk, Bool.false_or] at this
        simp at this
        exact this htl
      · rw [show p1 ++ ((k, false) :: p2 ++ ms) = (p1 ++ [(k, false)]) ++ (p2 ++ ms) by simp] at hord
        have hq := ordPairs_app (pre := p1 ++ [(k, false)]) (by rw [← hord]; exact hok)
        exact direct (hq.2 (k, false) (by simp) (i, false) (List.mem_append_left _ hip))
  · have hq := ordPairs_app (pre := pre) (r := ms) (by rw [← h.ord]; exact hok)
    exact direct (hq.2 _ hkp (i, b) (by rw [hms]; exact List.mem_cons_self ..))

/-- What the region may write, and what not. -/
def SplitH (E : Env) (H Hm Hs : List HE) : Prop := H.Perm (Hm ++ Hs)
/-! One operation. -/
theorem AM.op {i d : Nat} {r : List (Nat × Bool)} {E : Env} {H : List HE} {o : Oper} {v : AV} (ho : ops[i]? = some o) (h : OpW P N o (rst E (o.looksAt ops)) Hs (Is v)) (hw : wantedIs ops (rst E (o.looksAt ops)) o = some true) (hd : o.dst = some d) (hN : Nat.ble (d + 1) N = true) (k : AM P N ops Hs K r ((d, v) :: E) H) :
    AM P N ops Hs K ((i, false) :: r) E H := ⟨o, d, v, ho, hd, Nat.le_of_ble_eq_true hN, .run hw h, k⟩
theorem AM.opG {i d : Nat} {r : List (Nat × Bool)} {E : Env} {H : List HE} {o : Oper} {c : Bool} {v : AV} (ho : ops[i]? = some o) (hw : guardIs ops (rst E (o.looksAt ops)) o = some c) (hd : o.dst = some d) (hN : Nat.ble (d + 1) N = true) (h : c = true → OpW P N o (rst E (o.looksAt ops)) Hs (Is v)) (k : AM P N ops Hs K r ((d, .opt c v) :: E) H) :
    AM P N ops Hs K ((i, false) :: r) E H := ⟨o, d, _, ho, hd, Nat.le_of_ble_eq_true hN, .opt hw h, k⟩
theorem AM.no {i d : Nat} {r : List (Nat × Bool)} {E : Env} {H : List HE} {o : Oper} (ho : ops[i]? = some o) (hw : wantedIs ops (rst E (o.looksAt ops)) o = some false) (hd : o.dst = some d) (hN : Nat.ble (d + 1) N = true) (k : AM P N ops Hs K r ((d, .val undef) :: E) H) :
    AM P N ops Hs K ((i, false) :: r) E H := ⟨o, d, _, ho, hd, Nat.le_of_ble_eq_true hN, .no hw, k⟩
theorem AM.main {i : Nat} {r : List (Nat × Bool)} {E : Env} {H : List HE} (o : Oper) (ho : ops[i]? = some o) (h : ∀ w0 R0, AO ⟨w0, footOf H, R0, N⟩ P ops (QS ⟨w0, footOf H, R0, N⟩ o.dst (fun v H' => AM P N ops Hs K r (putE o.dst v E) H')) [o] (rst E (o.looksAt ops)) H) :
    AM P N ops Hs K ((i, true) :: r) E H := ⟨o, ho, h⟩
theorem AM.ok {w0 : World} {S0 R0 : Nat → Prop} {d : Nat} {v : AV} {S : AV → List HE → Prop} {E1 : Env} {H' : List HE} (h : S v H') : AO ⟨w0, S0, R0, N⟩ P ops (QS ⟨w0, S0, R0, N⟩ (some d) S) [] ((d, v) :: E1) H' := fun R a W hs ha =>
  ⟨ha.defers, v, H', R, h, hs, fun t ht => by cases ht; exact ha.slots d v look_here⟩
theorem AM.nil {E : Env} {H : List HE} (h : K E H) : AM P N ops Hs K [] E H := h
end
end Go.Proofs.Ytjmkoelmiehdjaa.A

namespace Go.Proofs.Ytjmkoelmiehdjaa.A
open Go.RowKit L
set_option linter.unusedVariables false
set_option linter.unusedSimpArgs false
section
variable {x y q m : Int}
end
section
variable {Γ : Cx} {P : Program} {E : Env} {H : List HE} {N : Nat} {o : Oper}
end
end Go.Proofs.Ytjmkoelmiehdjaa.A

namespace Go.Proofs.Ytjmkoelmiehdjaa.A
open Go.RowKit L
set_option linter.unusedVariables false
set_option linter.unusedSimpArgs false
section
variable {Γ : Cx} {P : Program} {Q : Exit → Act → World → Prop} {E : Env} {H : List HE}
/-- Where the two ways meet. -/
def Mid (Γ : Cx) (Q : Exit → Act → World → Prop) (φ : Prop) (E1 : Env) (H1 : List HE) : Exit → Act → World → Prop := Exit.then (fun a W => φ ∧ ∃ R, RelS Γ R H1 W ∧ RelA Γ.N R W E1 a) Q
/-- Where the two ways meet, told by a relation. -/
def MidI (Γ : Cx) (Q : Exit → Act → World → Prop) (K : Env) (I : Env → List HE → Prop) : Exit → Act → World → Prop := Exit.then (fun a W => ∃ E1 H1 R, I E1 H1 ∧ RelS Γ R H1 W ∧ RelA Γ.N R W (E1 ++ K) a) Q
theorem Coe.tup {x y : List AV} (h : CoeL x y) : Coe (.tup x) (.tup y) := fun R W u hu => by
  obtain ⟨us, rfl, h1⟩ := hu.tup_inv
  exact (h R W us h1).toTup
end
end Go.Proofs.Ytjmkoelmiehdjaa.A

namespace Go.Proofs.Ytjmkoelmiehdjaa.Dk
open Go.RowKit L A
set_option linter.unusedVariables false
set_option linter.unusedSimpArgs false
attribute [local irreducible] AW AQ AO

theorem mod_fn (v n : Int) (h1 : 0 < n) (h2 : n ≤ 4611686018427387904) : Sp Try.prog 9 [.val (.int .i64 v), .val (.int .i64 n)] [] (Is (.val (.int .i64 (v % n)))) := by
  have hf := tmod_fix2 v n h1
  have hlt : v.tmod n < n := Int.tmod_lt_of_pos v h1
  have hge : -n < v.tmod n := by
    rcases Int.le_total 0 v with hv | hv
    · have := Int.tmod_nonneg n hv; omega
    · have := Int.lt_tmod_of_pos v h1; omega
  refine Sp.enter Try.func9 rfl _ Try.ntmps9 rfl (fun w0 R0 => ?_)
  refine AW.seq ?_
  refine AW.region ?_
  refine AO.op (O.assign rfl rfl) rfl rfl rfl ?_
  refine AO.nil ?_
  refine AQ.thenN ?_
  refine AW.seq ?_
  refine AW.region ?_
  refine AO.op (O.move rfl rfl) rfl rfl rfl ?_
  refine AO.op (O.move rfl rfl) rfl rfl rfl ?_
  refine AO.op (O.rem rfl rfl rfl (by omega) rfl) rfl rfl rfl ?_
  refine AO.op (O.assign rfl rfl) rfl rfl rfl ?_
  refine AO.nil ?_
  refine AQ.thenN ?_
  refine AW.seq ?_
  refine AW.seq ?_
  refine AW.region ?_
  refine AO.op (O.move rfl rfl) rfl rfl rfl ?_
  refine AO.op (O.lss rfl rfl rfl (by first | exact bTrue (by omega) | exact bFalse (by omega) | assumption | rfl)) rfl rfl rfl ?_
  refine AO.nil ?_
  refine AQ.thenN ?_
  refine AW.split rfl (fun h => ?_) (fun h => ?_)
  · skip
    have h : v.tmod n < 0 := of_decide_eq_true h
    rw [if_pos h] at hf
    refine AW.region ?_
    refine AO.op (O.move rfl rfl) rfl rfl rfl ?_
    refine AO.op (O.move rfl rfl) rfl rfl rfl ?_
    refine AO.op (O.add rfl rfl rfl (by first | exact wI64 (by omega) | rfl)) rfl rfl rfl ?_
    refine AO.op (O.assign rfl rfl) rfl rfl rfl ?_
    refine AO.nil ?_
    refine AQ.thenN ?_
    refine AW.seq ?_
    refine AW.region ?_
    refine AO.op (O.move rfl rfl) rfl rfl rfl ?_
    refine AO.op (O.assign rfl rfl) rfl rfl rfl ?_
    refine AO.nil ?_
    refine AQ.thenN ?_
    refine AW.ret ?_
    refine AQ.ret1 rfl rfl ⟨_, List.nil_sublist _, .nil⟩ (⟨by rw [hf], rfl⟩)
  · skip
    have h : ¬ v.tmod n < 0 := of_decide_eq_false h
    rw [if_neg h] at hf
    refine AW.skip ?_
    refine AQ.thenN ?_
    refine AW.seq ?_
    refine AW.region ?_
    refine AO.op (O.move rfl rfl) rfl rfl rfl ?_
    refine AO.op (O.assign rfl rfl) rfl rfl rfl ?_
    refine AO.nil ?_
    refine AQ.thenN ?_
    refine AW.ret ?_
    refine AQ.ret1 rfl rfl ⟨_, List.nil_sublist _, .nil⟩ (⟨by rw [hf], rfl⟩)

/-- A deck: its numbers, and how many are taken. -/
abbrev deck (b : Nat) (l : List Int) (k : Nat) : HE := .blk b 48 2 [roI l, .val (.int .i64 (k : Int))]
abbrev ptr (b : Nat) : AV := .val (.pointer (some ⟨b, 0, none⟩))
def nxt (l : List Int) (k : Nat) (n : Int) : Int := if k < l.length then l.getD k 0 % n else 0
def adv (l : List Int) (k : Nat) : Nat := if k < l.length then k + 1 else k
theorem new_fn (l : List Int) : Sp Try.prog 7 [roI l] [] (NewBlk (fun b => .val (.pointer (some ⟨b, 0, none⟩))) 48 2 [roI l, .val (.int .i64 0)]) := by
  refine Sp.enter Try.func7 rfl _ Try.ntmps7 rfl (fun w0 R0 => ?_)
  refine AW.seq ?_
  refine AW.region ?_
  refine AO.op (O.assign rfl rfl) rfl rfl rfl ?_
  refine AO.nil ?_
  refine AQ.thenN ?_
  refine AW.seq ?_
  refine AW.region ?_
  refine AO.op (O.move rfl rfl) rfl rfl rfl ?_
  refine AO.op (O.build rfl rfl rfl (by rfl)) rfl rfl rfl ?_
  refine AO.opB (O.box rfl rfl rfl rfl rfl) rfl rfl rfl ?_
  intro B
  refine AO.op (O.assign rfl rfl) rfl rfl rfl ?_
  refine AO.nil ?_
  refine AQ.thenN ?_
  refine AW.ret ?_
  refine AQ.ret1 rfl rfl ⟨_, by repeat (first | exact List.Sublist.slnil | refine List.Sublist.cons_cons _ ?_ | refine List.Sublist.cons _ ?_), List.Perm.refl _⟩ (⟨B, rfl, rfl⟩)

theorem roI_at {l : List Int} {k : Nat} (h : k < l.length) {j : Nat} (hj : j = k) : (intsA .i64 l)[j]? = some (.val (.int .i64 (l.getD k 0))) := by
  subst hj; simp [intsA, h]
end Go.Proofs.Ytjmkoelmiehdjaa.Dk

namespace Go.Proofs.Ytjmkoelmiehdjaa.A
open Go.RowKit L
set_option linter.unusedVariables false
set_option linter.unusedSimpArgs false
section
variable {P : Program}

def pval : AV → Option Value
  | .val v => some v
  | .agg xs => (valsOf xs).map fun vs => .agg vs.toArray
  | _ => none
def pvals : List AV → Option (List Value)
  | [] => some []
  | x :: r => match pval x, pvals r with | some v, some vs => some (v :: vs) | _, _ => none
theorem pval_rel {R : Nat → Prop} {W : World} {x : AV} {v u : Value} (h : pval x = some v) (hr : RelV R W x u) : u = v := by
  cases x with
  | val w => cases h; exact hr.val_inv
  | agg xs =>
    simp only [pval] at h
    cases hq : valsOf xs with
    | none => rw [hq] at h; cases h
    | some vs =>
      rw [hq] at h
      cases h
      obtain ⟨us, rfl, h1⟩ := hr.agg_inv
      rw [valsOf_rel hq h1]
  | _ => cases h
theorem pvals_rel {R : Nat → Prop} {W : World} : ∀ {xs : List AV} {vs us : List Value}, pvals xs = some vs → RelL R W xs us → us = vs
  | [], vs, us, h, hr => by cases h; exact List.eq_nil_of_length_eq_zero (by simpa using hr.1)
  | x :: xs, vs, us, h, hr => by
    obtain ⟨u, r, rfl, h1, h2⟩ := hr.uncons
    simp only [pvals] at h
    split at h
    · rename_i v vs' e1 e2
      cases h
      rw [pval_rel e1 h1, pvals_rel e2 h2]
    · cases h
theorem vals_mk {R : Nat → Prop} {W : World} : ∀ {xs : List AV} {vs : List Value}, valsOf xs = some vs → RelL R W xs vs
  | [], vs, h => by cases h; exact RelL.nil
  | x :: xs, vs, h => by
    cases x with
    | val w =>
      simp only [valsOf] at h
      cases hq : valsOf xs with
      | none => rw [hq] at h; cases h
      | some us' =>
        rw [hq] at h
        cases h
        exact RelL.cons (.val _) (vals_mk hq)
    | _ => simp [valsOf] at h
theorem pval_mk {R : Nat → Prop} {W : World} {x : AV} {v : Value} (h : pval x = some v) : RelV R W x v := by
  cases x with
  | val w => cases h; exact .val _
  | agg xs =>
    simp only [pval] at h
    cases hq : valsOf xs with
    | none => rw [hq] at h; cases h
    | some vs => rw [hq] at h; cases h; exact (vals_mk hq).toAgg
  | _ => cases h
theorem pvals_mk {R : Nat → Prop} {W : World} : ∀ {xs : List AV} {vs : List Value}, pvals xs = some vs → RelL R W xs vs
  | [], vs, h => by cases h; exact RelL.nil
  | x :: xs, vs, h => by
    simp only [pvals] at h
    split at h
    · rename_i v vs' e1 e2
      cases h
      exact RelL.cons (pval_mk e1) (pvals_mk e2)
    · cases h

theorem relS_new {W W' : World} {R : Nat → Prop} (hR : ∀ b, R b → b < W.heap.size) (hE : Ext W W') : RelS ⟨W, footOf [], R, 0⟩ R [] W' :=
  ⟨hE.mono fun b _ h => h.elim, fun b hb => Nat.lt_of_lt_of_le (hR b hb) hE.size, fun _ h => h, fun _ h => .inl h, fun _ h => (by cases h), fun _ h => (by cases h), .nil⟩
theorem Sp.of_calls {f : FuncId} {args : List AV} {us : List Value} {r : AV} {v : Value} (ha : pvals args = some us) (hr : pval r = some v) (h : ∀ W, Calls P f us.toArray W fun e W' => e = .returned v ∧ Ext W W') : Sp P f args [] (Is r) := fun W R us' hR _ _ hrel => by
  obtain rfl := pvals_rel ha hrel
  refine (h W).mono ?_
  rintro e W' ⟨rfl, hE⟩
  exact ⟨v, r, [], R, rfl, ⟨rfl, rfl⟩, relS_new hR hE, pval_mk hr⟩
theorem Sp.of_calls2 {f : FuncId} {args : List AV} {us : List Value} {rs : List AV} {vs : List Value} (ha : pvals args = some us) (hr : pvals rs = some vs) (h : ∀ W, Calls P f us.toArray W fun e W' => e = .returned (.tuple vs.toArray) ∧ Ext W W') : Sp P f args [] (Is (.tup rs)) := fun W R us' hR _ _ hrel => by
  obtain rfl := pvals_rel ha hrel
  refine (h W).mono ?_
  rintro e W' ⟨rfl, hE⟩
  exact ⟨_, .tup rs, [], R, rfl, ⟨rfl, rfl⟩, relS_new hR hE, (pvals_mk hr).toTup⟩
/-- A new row that the caller only reads. -/
theorem Sp.frozen {f : FuncId} {args : List AV} {T : TypeId} {sz n : Nat} {ys : List AV} (h : Sp P f args [] (NewRow T sz n ys)) : Sp P f args [] (Is (.ro false n ys)) := fun W R us h1 h2 h3 h4 => by
  refine (h W R us h1 h2 h3 h4).mono ?_
  rintro e W' ⟨u, r, H', R', rfl, ⟨v, rfl, hv1, rfl⟩, hs, hv⟩
  have hok := hs.ok _ (List.mem_cons_self ..)
  have hown := hs.own _ (List.mem_cons_self ..)
  have hu := hv.val_inv
  subst hu
  refine ⟨u, .ro false n ys, [], fun b => R' b ∨ (HE.row u T sz n ys).foot b, rfl, ⟨rfl, rfl⟩, ⟨hs.mods, ?_, fun b hb => .inl (hs.rsub b hb), ?_, fun _ h => (by cases h), fun _ h => (by cases h), .nil⟩, row_ro hok⟩
  · rintro b (hb | hb)
    · exact hs.rlt b hb
    · exact HE.ok_lt hok hb
  · rintro b (hb | hb)
    · exact hs.rnew b hb
    · exact .inr (hown b hb).1
end
end Go.Proofs.Ytjmkoelmiehdjaa.A

namespace Go.Proofs.Ytjmkoelmiehdjaa.Wi
open Go.RowKit L A Dk W
set_option linter.unusedVariables false
set_option linter.unusedSimpArgs false
attribute [local irreducible] AW AQ AO

structure Win where
  s : Int
  t : Int
  b : Nat
  l : Bool
  deriving DecidableEq
def Win.ok (w : Win) : Prop := i64In w.s ∧ i64In w.t ∧ w.b < 2 ^ 64
def winL (w : Win) : List AV := [.val (.int .i64 w.s), .val (.int .i64 w.t), .val (.int .u64 (w.b : Int)), .val (.bool w.l)]
def winA (w : Win) : AV := .agg (winL w)
def zeroW : Win := ⟨0, 0, 0, false⟩
def check (w : Win) (n : Int) : Int := checkE w.s w.t w.b w.l n
def acc (w : Win) (n : Int) : Win := if check w n = 0 then ⟨w.s, accT w.t n, accB w.s w.t w.b n, false⟩ else zeroW
def rece (w : Win) (n : Int) : Int := recE w.s w.t w.b w.l n
def rec_ (w : Win) (n : Int) : Win := if rece w n = 0 then ⟨w.s, n, maskN (if w.s < n + 1 then w.s else n + 1), false⟩ else zeroW
def lose (w : Win) : Win := ⟨w.s, -1, 0, true⟩
def newW (n : Int) : Win := if 1 ≤ n ∧ n ≤ 64 then ⟨n, -1, 0, false⟩ else zeroW
def newE (n : Int) : Int := if 1 ≤ n ∧ n ≤ 64 then 0 else 1
def valid (w : Win) : Bool := validB w.s w.t w.b w.l
def seen (w : Win) : List Int := seenL w.s w.t w.b w.l

theorem acc_post {w : Win} {n : Int} {e : Ending} {W W' : World} (h : e = .returned (accV w.s w.t w.b w.l n) ∧ Ext W W') :
    e = .returned (.tuple #[.agg #[.int .i64 (acc w n).s, .int .i64 (acc w n).t, .int .u64 ((acc w n).b : Int), .bool (acc w n).l], .int .i64 (check w n)]) ∧ Ext W W' := by
  refine ⟨h.1.trans ?_, h.2⟩
  unfold accV acc check
  split
  · rename_i h0; rw [h0]
  · rfl
theorem rec_post {w : Win} {n : Int} {e : Ending} {W W' : World} (h : e = .returned (recV w.s w.t w.b w.l n) ∧ Ext W W') :
    e = .returned (.tuple #[.agg #[.int .i64 (rec_ w n).s, .int .i64 (rec_ w n).t, .int .u64 ((rec_ w n).b : Int), .bool (rec_ w n).l], .int .i64 (rece w n)]) ∧ Ext W W' := by
  refine ⟨h.1.trans ?_, h.2⟩
  unfold recV rec_ rece
  split
  · rename_i h0; rw [h0]
  · rfl
theorem new_post {n : Int} {e : Ending} {W W' : World} (h : e = .returned (.tuple #[if 1 ≤ n ∧ n ≤ 64 then winV n (-1) 0 false else winV 0 0 0 false, .int .i64 (if 1 ≤ n ∧ n ≤ 64 then 0 else 1)]) ∧ Ext W W') :
    e = .returned (.tuple #[.agg #[.int .i64 (newW n).s, .int .i64 (newW n).t, .int .u64 ((newW n).b : Int), .bool (newW n).l], .int .i64 (newE n)]) ∧ Ext W W' := by
  refine ⟨h.1.trans ?_, h.2⟩
  unfold newW newE
  split <;> rfl

theorem accept_fn (w : Win) (h : w.ok) (n : Int) (hn : i64In n) : Sp Try.prog 17 [winA w, .val (.int .i64 n)] [] (Is (.tup [winA (acc w n), .val (.int .i64 (check w n))])) :=
  Sp.of_calls2 rfl rfl fun W => (accept_any w.s w.t w.b w.l n W h.1 h.2.1 h.2.2 hn).mono fun e W' h => acc_post h
theorem recover_fn (w : Win) (h : w.ok) (n : Int) (hn : i64In n) : Sp Try.prog 10 [winA w, .val (.int .i64 n)] [] (Is (.tup [winA (rec_ w n), .val (.int .i64 (rece w n))])) :=
  Sp.of_calls2 rfl rfl fun W => (recover_any w.s w.t w.b w.l n W h.1 h.2.1 h.2.2 hn).mono fun e W' h => rec_post h
theorem lose_fn (w : Win) : Sp Try.prog 12 [winA w] [] (Is (winA (lose w))) := Sp.of_calls rfl rfl fun W => lose_any w.s w.t w.b w.l W
theorem new_fn (n : Int) : Sp Try.prog 15 [.val (.int .i64 n)] [] (Is (.tup [winA (newW n), .val (.int .i64 (newE n))])) := Sp.of_calls2 rfl rfl fun W => (new_any n W).mono fun e W' h => new_post h
theorem check_fn (w : Win) (h : w.ok) (n : Int) (hn : i64In n) : Sp Try.prog 16 [winA w, .val (.int .i64 n)] [] (Is (.val (.int .i64 (check w n)))) := Sp.of_calls rfl rfl fun W => check_any w.s w.t w.b w.l n W h.1 h.2.1 h.2.2 hn
theorem valid_fn (w : Win) (h : w.ok) : Sp Try.prog 18 [winA w] [] (Is (.val (.bool (valid w)))) := Sp.of_calls rfl rfl fun W => valid_any w.s w.t w.b w.l W h.1 h.2.1 h.2.2
end Go.Proofs.Ytjmkoelmiehdjaa.Wi

namespace Go.Proofs.Ytjmkoelmiehdjaa.Wi
open Go.RowKit L A Dk W
set_option linter.unusedVariables false
set_option linter.unusedSimpArgs false
attribute [local irreducible] AW AQ AO

theorem winL_take (w : Win) : (winL w).take 4 = winL w := rfl
def wst : Nat → Win
  | 0 => ⟨4, -1, 0, false⟩
  | 1 => ⟨4, 5, 1, false⟩
  | 2 => ⟨4, 5, 5, false⟩
  | _ => ⟨4, 6, 11, false⟩
theorem wst_ok : ∀ k, (wst k).ok
  | 0 => by refine ⟨⟨?_, ?_⟩, ⟨?_, ?_⟩, ?_⟩ <;> decide
  | 1 => by refine ⟨⟨?_, ?_⟩, ⟨?_, ?_⟩, ?_⟩ <;> decide
  | 2 => by refine ⟨⟨?_, ?_⟩, ⟨?_, ?_⟩, ?_⟩ <;> decide
  | _ + 3 => by
    show (Win.mk 4 6 11 false).ok
    refine ⟨⟨?_, ?_⟩, ⟨?_, ?_⟩, ?_⟩ <;> decide
theorem wst0 : acc (wst 0) 5 = wst 1 := by decide +kernel
theorem wst1 : acc (wst 1) 3 = wst 2 := by decide +kernel
theorem wst2 : acc (wst 2) 6 = wst 3 := by decide +kernel
theorem chk2 : check (wst 3) 2 = 33 := by decide +kernel
theorem chk4 : check (wst 3) 4 = 0 := by decide +kernel
theorem chk3 : check (wst 3) 3 = 33 := by decide +kernel

set_option maxHeartbeats 1000000 in
theorem awake_fn : Sp Try.prog 13 [] [] (Is (.val (.bool true))) := by
  have hc2 := check_fn (wst 3) (wst_ok 3) 2 ⟨by decide, by decide⟩
  rw [chk2] at hc2
  have hc4 := check_fn (wst 3) (wst_ok 3) 4 ⟨by decide, by decide⟩
  rw [chk4] at hc4
  have hc3 := check_fn (wst 3) (wst_ok 3) 3 ⟨by decide, by decide⟩
  rw [chk3] at hc3
  refine Sp.enter Try.func13 rfl _ Try.ntmps13 rfl (fun w0 R0 => ?_)
  refine AW.seq ?_
  refine AW.region ?_
  refine AO.op (O.assign rfl rfl) rfl rfl rfl ?_
  refine AO.nil ?_
  refine AQ.thenN ?_
  refine AW.seq ?_
  refine AW.region ?_
  refine AO.op (O.call rfl Try.func15 rfl rfl rfl (new_fn _)) rfl rfl rfl ?_
  refine AO.op (O.move rfl rfl) rfl rfl rfl ?_
  refine AO.op (O.extract rfl rfl rfl) rfl rfl rfl ?_
  refine AO.op (O.extract rfl rfl rfl) rfl rfl rfl ?_
  refine AO.opB (O.alloc rfl (by (dsimp only [List.set, List.append, List.cons_append, List.nil_append, splice, ofConst, AV.cells, List.map, List.map_cons, List.map_nil, List.take, List.drop, Nat.zero_add, Nat.add_zero, Nat.reduceAdd, Nat.reduceMul, Nat.zero_mul, Value.cells, List.toList_toArray, zerosA, List.replicate, List.flatten, List.append_nil]; done)) (by rfl)) rfl rfl rfl ?_
  intro B
  (refine AO.store (i := 0) rfl rfl rfl rfl rfl rfl (by rfl) (by rfl) (by rfl) (by (dsimp only [List.set, List.append, List.cons_append, List.nil_append, splice, ofConst, AV.cells, List.map, List.map_cons, List.map_nil, List.take, List.drop, Nat.zero_add, Nat.add_zero, Nat.reduceAdd, Nat.reduceMul, Nat.zero_mul, Value.cells, List.toList_toArray, zerosA, List.replicate, List.flatten, List.append_nil]; done)) (by (dsimp only [List.set, List.append, List.cons_append, List.nil_append, splice, ofConst, AV.cells, List.map, List.map_cons, List.map_nil, List.take, List.drop, Nat.zero_add, Nat.add_zero, Nat.reduceAdd, Nat.reduceMul, Nat.zero_mul, Value.cells, List.toList_toArray, zerosA, List.replicate, List.flatten, List.append_nil]; done)) ?_)
  refine AO.op (O.assign rfl rfl) rfl rfl rfl ?_
  refine AO.nil ?_
  refine AQ.thenN ?_
  refine AW.seq ?_
  refine AW.seq ?_
  refine AW.region ?_
  refine AO.opB (O.buildSlice rfl rfl rfl (by rfl) (by rfl) (by rfl) (by rfl)) rfl rfl rfl ?_
  intro B
  refine AO.g ?_
  (refine G.freezeSl 0 9 rfl rfl ⟨Nat.le_refl _, by unfold maxLen; omega⟩ ?_)
  refine G.unfull 9 rfl ?_
  refine AO.u ?_
  dsimp only [List.eraseIdx]
  refine AO.op (O.lenR rfl rfl) rfl rfl rfl ?_
  refine AO.op (O.move rfl rfl) rfl rfl rfl ?_
  refine AO.nil ?_
  refine AQ.thenN ?_
  refine AW.block ?_
  rename_i B1
  refine AW.g ?_
  refine G.re 9 (.ro false 3 [.val (.int .i64 5), .val (.int .i64 3), .val (.int .i64 6)]) rfl ?_
  refine AW.u ?_
  refine AW.loop (fun n E H => ∃ k : Nat, k ≤ 3 ∧ n = 3 - k ∧ E = [(1, .val (.pointer (some ⟨B1, 0, none⟩))), (2, .val (.int .i64 0)), (9, .ro false 3 [.val (.int .i64 5), .val (.int .i64 3), .val (.int .i64 6)]), (10, .val (.int .i64 3)), (11, .val (.int .i64 (k : Int)))] ∧ H = [.blk B1 24 4 (winL (wst k))]) (3) (⟨0, by omega, rfl, rfl, rfl⟩) (by repeat (first | exact envNil | refine envCons rfl ?_)) ⟨_, by repeat (first | exact List.Sublist.slnil | refine List.Sublist.cons_cons _ ?_), List.Perm.refl _⟩ ?_
  rintro n E H ⟨k, hk, rfl, rfl, rfl⟩
  refine AW.seq ?_
  refine AW.region ?_
  refine AO.op (O.lss rfl rfl rfl (by rfl)) rfl rfl rfl ?_
  refine AO.nil ?_
  refine AQ.thenN ?_
  refine AW.seq ?_
  refine AW.split rfl (fun hlt => ?_) (fun hlt => ?_)
  · skip
    have hlt : k < 3 := by have := of_decide_eq_true hlt; omega
    obtain ⟨m, hm, hin, hnx⟩ : ∃ m : Int, ([.val (.int .i64 5), .val (.int .i64 3), .val (.int .i64 6)] : List AV)[Int.toNat (k : Int) * 1]? = some (.val (.int .i64 m)) ∧ i64In m ∧ acc (wst k) m = wst (k + 1) := by
      rcases (show k = 0 ∨ k = 1 ∨ k = 2 by omega) with rfl | rfl | rfl
      · exact ⟨5, rfl, ⟨by decide, by decide⟩, wst0⟩
      · exact ⟨3, rfl, ⟨by decide, by decide⟩, wst1⟩
      · exact ⟨6, rfl, ⟨by decide, by decide⟩, wst2⟩
    have hok := wst_ok k
    refine AW.skip ?_
    refine AQ.thenN ?_
    refine AW.seq ?_
    refine AW.block ?_
    refine AW.seq ?_
    refine AW.region ?_
    refine AO.op (O.idxR rfl rfl rfl ⟨(by omega), (by omega)⟩) rfl rfl rfl ?_
    refine AO.op (O.loadR rfl rfl (by assumption)) rfl rfl rfl ?_
    refine AO.op (O.assign rfl rfl) rfl rfl rfl ?_
    refine AO.nil ?_
    refine AQ.thenN ?_
    refine AW.region ?_
    refine AO.op (O.loadK rfl rfl (by repeat (exact List.Mem.head _)) (by exact winL_take _) (by rfl)) rfl rfl rfl ?_
    refine AO.op (O.move rfl rfl) rfl rfl rfl ?_
    refine AO.op (O.call rfl Try.func17 rfl rfl rfl (accept_fn _ hok _ hin)) rfl rfl rfl ?_
    refine AO.op (O.move rfl rfl) rfl rfl rfl ?_
    refine AO.op (O.extract rfl rfl rfl) rfl rfl rfl ?_
    refine AO.op (O.extract rfl rfl rfl) rfl rfl rfl ?_
    (refine AO.store (i := 0) rfl rfl rfl rfl rfl rfl (by rfl) (by rfl) (by rfl) (by (dsimp only [List.set, List.append, List.cons_append, List.nil_append, splice, ofConst, AV.cells, List.map, List.map_cons, List.map_nil, List.take, List.drop, Nat.zero_add, Nat.add_zero, Nat.reduceAdd, Nat.reduceMul, Nat.zero_mul, Value.cells, List.toList_toArray, zerosA, List.replicate, List.flatten, List.append_nil]; done)) (by (dsimp only [List.set, List.append, List.cons_append, List.nil_append, splice, ofConst, AV.cells, List.map, List.map_cons, List.map_nil, List.take, List.drop, Nat.zero_add, Nat.add_zero, Nat.reduceAdd, Nat.reduceMul, Nat.zero_mul, Value.cells, List.toList_toArray, zerosA, List.replicate, List.flatten, List.append_nil]; done)) ?_)
    refine AO.nil ?_
    refine AQ.blockN ?_
    refine AQ.thenN ?_
    refine AW.region ?_
    refine AO.op (O.add rfl rfl rfl (by exact wI64 (by omega))) rfl rfl rfl ?_
    refine AO.op (O.move rfl rfl) rfl rfl rfl ?_
    refine AO.nil ?_
    refine AQ.loopN _ _ _ (by omega) (⟨k + 1, by omega, rfl, rfl, by rw [← hnx]⟩) (by repeat (first | exact envNil | refine envCons rfl ?_)) ⟨_, by repeat (first | exact List.Sublist.slnil | refine List.Sublist.cons_cons _ ?_), List.Perm.refl _⟩
  · skip
    have hlt : k = 3 := by have := of_decide_eq_false hlt; omega
    subst hlt
    refine AW.exit ?_
    refine AQ.thenX ?_
    refine AQ.loopX ?_
    refine AQ.blockX rfl ?_
    refine AQ.thenN ?_
    refine AW.seq ?_
    refine AW.region ?_
    refine AO.op (O.move rfl rfl) rfl rfl rfl ?_
    refine AO.op (O.eql rfl rfl rfl (by exact beq_iff_eq.2 (by omega))) rfl rfl rfl ?_
    refine AO.op (O.move rfl rfl) rfl rfl rfl ?_
    refine AO.opG rfl rfl rfl (fun hp => O.fieldAddr rfl rfl) ?_
    refine AO.opG rfl rfl rfl (fun hp => OpW.force 25 rfl (by exact hp) (O.load rfl rfl (by repeat (exact List.Mem.head _)) (by rfl))) ?_
    refine AO.opG rfl rfl rfl (fun hp => OpW.force 26 rfl (by exact hp) (O.eql rfl rfl rfl (by assumption))) ?_
    refine AO.op (O.pickAnd rfl rfl rfl rfl (fun h => by exact h)) rfl rfl rfl ?_
    refine AO.op (O.move rfl rfl) rfl rfl rfl ?_
    refine AO.opG rfl rfl rfl (fun hp => O.fieldAddr rfl rfl) ?_
    refine AO.opG rfl rfl rfl (fun hp => OpW.force 30 rfl (by exact hp) (O.load rfl rfl (by repeat (exact List.Mem.head _)) (by rfl))) ?_
    refine AO.opG rfl rfl rfl (fun hp => OpW.force 31 rfl (by exact hp) (O.eql rfl rfl rfl (by assumption))) ?_
    refine AO.op (O.pickAnd rfl rfl rfl rfl (fun h => by exact h)) rfl rfl rfl ?_
    refine AO.op (O.move rfl rfl) rfl rfl rfl ?_
    refine AO.opG rfl rfl rfl (fun hp => O.loadK rfl rfl (by repeat (exact List.Mem.head _)) (by exact winL_take _) (by rfl)) ?_
    refine AO.opG rfl rfl rfl (fun hp => OpW.force 35 rfl (by exact hp) (O.call rfl Try.func16 rfl rfl rfl (hc2))) ?_
    refine AO.opG rfl rfl rfl (fun hp => OpW.force 36 rfl (by exact hp) (O.eql rfl rfl rfl (by exact beq_iff_eq.2 (by omega)))) ?_
    refine AO.op (O.pickAnd rfl rfl rfl rfl (fun h => by exact h)) rfl rfl rfl ?_
    refine AO.op (O.move rfl rfl) rfl rfl rfl ?_
    refine AO.opG rfl rfl rfl (fun hp => O.loadK rfl rfl (by repeat (exact List.Mem.head _)) (by exact winL_take _) (by rfl)) ?_
    refine AO.opG rfl rfl rfl (fun hp => OpW.force 40 rfl (by exact hp) (O.call rfl Try.func16 rfl rfl rfl (hc4))) ?_
    refine AO.opG rfl rfl rfl (fun hp => OpW.force 41 rfl (by exact hp) (O.eql rfl rfl rfl (by exact beq_iff_eq.2 (by omega)))) ?_
    refine AO.op (O.pickAnd rfl rfl rfl rfl (fun h => by exact h)) rfl rfl rfl ?_
    refine AO.op (O.move rfl rfl) rfl rfl rfl ?_
    refine AO.opG rfl rfl rfl (fun hp => O.loadK rfl rfl (by repeat (exact List.Mem.head _)) (by exact winL_take _) (by rfl)) ?_
    refine AO.opG rfl rfl rfl (fun hp => OpW.force 45 rfl (by exact hp) (O.call rfl Try.func16 rfl rfl rfl (hc3))) ?_
    refine AO.opG rfl rfl rfl (fun hp => OpW.force 46 rfl (by exact hp) (O.eql rfl rfl rfl (by exact beq_iff_eq.2 (by omega)))) ?_
    refine AO.op (O.pickAnd rfl rfl rfl rfl (fun h => by exact h)) rfl rfl rfl ?_
    refine AO.op (O.assign rfl rfl) rfl rfl rfl ?_
    refine AO.nil ?_
    refine AQ.thenN ?_
    refine AW.ret ?_
    refine AQ.ret1 rfl rfl ⟨_, List.nil_sublist _, .nil⟩ (⟨rfl, rfl⟩)

/-- The numbers that are offered to a window, k to go. -/
def oLoop (l : List Int) : Nat → Win → Int → Nat → Win × Nat
  | 0, w, n, a => (w, a)
  | k + 1, w, n, a => oLoop l k (if check w (n + (nxt l a 9 - 3)) = 0 then acc w (n + (nxt l a 9 - 3)) else w) (n + (nxt l a 9 - 3)) (adv l a)
def sizes (z : Int) : Int := if z = 0 then 1 else if z = 1 then 2 else if z = 2 then 4 else if z = 3 then 16 else if z = 4 then 63 else 64
def winOf (l : List Int) (a : Nat) : Win × Nat :=
  let r := oLoop l (nxt l (adv l a) 12).toNat (newW (sizes (nxt l a 6))) 0 (adv l (adv l a))
  (if nxt l r.2 6 = 5 then lose r.1 else r.1, adv l r.2)
end Go.Proofs.Ytjmkoelmiehdjaa.Wi

namespace Go.Proofs.Ytjmkoelmiehdjaa.Wi
open Go.RowKit L A Dk W
set_option linter.unusedVariables false
set_option linter.unusedSimpArgs false

structure WInv (w : Win) (top : Int) (S : List Int) : Prop where
  val : valid w = true
  lt : w.b < 2 ^ 64
  lost : w.l = false
  tp : w.t = top
  seen : ∀ n ∈ S, (0 ≤ n ∧ n ≤ top) ∧ (n ≤ top - w.s ∨ w.b.testBit (top - n).toNat = true)

theorem WInv.bd {w : Win} {top : Int} {S : List Int} (h : WInv w top S) : 1 ≤ w.s ∧ w.s ≤ 64 ∧ -1 ≤ top ∧ top ≤ 1099511627775 := by
  have := validB_bd h.val
  rw [h.tp] at this
  exact this
theorem WInv.ok {w : Win} {top : Int} {S : List Int} (h : WInv w top S) : w.ok := by
  have := h.bd
  refine ⟨?_, ?_, h.lt⟩ <;> unfold i64In
  · omega
  · rw [h.tp]; omega

theorem winv_new {sz : Int} (h1 : 1 ≤ sz) (h2 : sz ≤ 64) : newE sz = 0 ∧ WInv (newW sz) (-1) [] := by
  unfold newE newW
  rw [if_pos ⟨h1, h2⟩, if_pos ⟨h1, h2⟩]
  refine ⟨rfl, ?_, (by decide : (0 : Nat) < 2 ^ 64), rfl, rfl, by simp⟩
  show validB sz (-1) 0 false = true
  unfold validB
  simp [h1, h2, okBits]

theorem right_of {w : Win} {top n : Int} {S : List Int} (h : WInv w top S) (h0 : 0 ≤ n) (h1 : n ≤ 1099511627775) : rightB w.s w.t w.b false n = true := by
  have hv := h.val
  unfold valid at hv
  rw [h.lost] at hv
  unfold rightB
  rw [hv]
  simp [h0, h1]
theorem check_eq {w : Win} {top n : Int} {S : List Int} (h : WInv w top S) (h0 : 0 ≤ n) (h1 : n ≤ 1099511627775) : check w n = if n ≤ top - w.s ∨ (n ≤ top ∧ w.b.testBit (top - n).toNat = true) then 33 else 0 := by
  unfold check checkE
  rw [h.lost, right_of h h0 h1, h.tp]
  simp
theorem check_new {w : Win} {top n : Int} {S : List Int} (h : WInv w top S) (h0 : top < n) (h1 : n ≤ 1099511627775) : check w n = 0 := by
  have := h.bd
  rw [check_eq h (by omega) h1, if_neg]
  omega
theorem check_old {w : Win} {top n : Int} {S : List Int} (h : WInv w top S) (h0 : 0 ≤ n) (h1 : n ≤ 1099511627775) (hn : n ∈ S) : check w n = 33 := by
  rw [check_eq h h0 h1, if_pos]
  have := h.seen n hn
  rcases this.2 with h2 | h2
  · exact .inl h2
  · exact .inr ⟨this.1.2, h2⟩

theorem okBits_valid {s t : Int} {b : Nat} (hv : validB s t b false = true) : (∀ i, i < 64 → b.testBit i = true → (i : Int) < s ∧ (i : Int) ≤ t) ∧ (t = -1 ∨ b.testBit 0 = true) := by
  simp only [validB, Bool.and_eq_true, Bool.false_eq_true, if_false, Bool.or_eq_true, decide_eq_true_eq] at hv
  exact ⟨(okBits_iff s t b).1 hv.2.1, hv.2.2⟩
theorem valid_of {s t : Int} {b : Nat} (h : 1 ≤ s ∧ s ≤ 64 ∧ -1 ≤ t ∧ t ≤ 1099511627775) (h1 : ∀ i, i < 64 → b.testBit i = true → (i : Int) < s ∧ (i : Int) ≤ t) (h2 : b.testBit 0 = true) : validB s t b false = true := by
  simp only [validB, Bool.and_eq_true, Bool.false_eq_true, if_false, Bool.or_eq_true, decide_eq_true_eq]
  exact ⟨h, (okBits_iff s t b).2 h1, .inr h2⟩

theorem testBit_big {b i : Nat} (hb : b < 2 ^ 64) (h : b.testBit i = true) : i < 64 := by
  rcases Nat.lt_or_ge i 64 with h1 | h1
  · exact h1
  · have : b < 2 ^ i := Nat.lt_of_lt_of_le hb (Nat.pow_le_pow_right (by decide) h1)
    rw [Nat.testBit_lt_two_pow this] at h; cases h

theorem winv_acc {w : Win} {top n : Int} {S : List Int} (h : WInv w top S) (h0 : 0 ≤ n) (h1 : n ≤ 1099511627775) (hc : check w n = 0) : WInv (acc w n) (max top n) (n :: S) := by
  have hbd := h.bd
  have hv := h.val
  unfold valid at hv
  rw [h.lost, h.tp] at hv
  obtain ⟨hb, hb0⟩ := okBits_valid hv
  have hlow : top - w.s < n := by
    rw [check_eq h h0 h1] at hc
    split at hc
    · cases hc
    · omega
  unfold acc
  rw [if_pos hc]
  by_cases hgt : top < n
  · have et : accT w.t n = n := by unfold accT; rw [h.tp, if_pos hgt]
    have eb : accB w.s w.t w.b n = accGt w.s w.b (n - top).toNat := by unfold accB; rw [h.tp, if_pos hgt]
    rw [et, eb, Int.max_eq_right (by omega)]
    have hbit := accGt_bit w.s w.b (n - top).toNat
    refine ⟨?_, ?_, rfl, rfl, ?_⟩
    · show validB w.s n _ false = true
      refine valid_of (by omega) (fun i hi hbi => ?_) (by rw [hbit]; simp)
      rw [hbit] at hbi
      simp only [Bool.or_eq_true, Bool.and_eq_true, decide_eq_true_eq] at hbi
      rcases hbi with ⟨⟨⟨h2, h3⟩, h4⟩, h5⟩ | h2
      · have := (hb _ (testBit_big h.lt h3) h3).2
        exact ⟨h5, by omega⟩
      · omega
    · show accGt w.s w.b _ < 2 ^ 64
      unfold accGt
      exact Nat.or_lt_two_pow (Nat.and_lt_two_pow _ (maskN_lt _)) (by decide)
    · intro m hm
      rcases List.mem_cons.1 hm with rfl | hm
      · refine ⟨⟨h0, Int.le_refl _⟩, .inr ?_⟩
        show (accGt w.s w.b _).testBit _ = true
        rw [hbit]; simp
      · have hs := h.seen m hm
        refine ⟨by omega, ?_⟩
        show m ≤ n - w.s ∨ (accGt w.s w.b _).testBit _ = true
        by_cases hms : m ≤ n - w.s
        · exact .inl hms
        · right
          rcases hs.2 with h2 | h2
          · omega
          · rw [hbit]
            have e : (n - m).toNat - (n - top).toNat = (top - m).toNat := by omega
            rw [e, h2]
            simp only [Bool.or_eq_true, Bool.and_eq_true, decide_eq_true_eq]
            refine .inl ⟨⟨⟨by omega, trivial⟩, by omega⟩, by omega⟩
  · have et : accT w.t n = top := by unfold accT; rw [h.tp, if_neg hgt]
    have eb : accB w.s w.t w.b n = accLe w.b (top - n).toNat := by unfold accB; rw [h.tp, if_neg hgt]
    rw [et, eb, Int.max_eq_left (by omega)]
    have hbit : ∀ i, (accLe w.b (top - n).toNat).testBit i = (w.b.testBit i || decide ((top - n).toNat = i)) := fun i => by
      unfold accLe; rw [Nat.testBit_or, Nat.testBit_two_pow]
    refine ⟨?_, ?_, rfl, rfl, ?_⟩
    · show validB w.s top _ false = true
      refine valid_of (by omega) (fun i hi hbi => ?_) ?_
      · rw [hbit] at hbi
        simp only [Bool.or_eq_true, decide_eq_true_eq] at hbi
        rcases hbi with h2 | h2
        · exact hb i hi h2
        · omega
      · rw [hbit]
        rcases hb0 with h2 | h2
        · omega
        · rw [h2]; rfl
    · show accLe w.b _ < 2 ^ 64
      unfold accLe
      exact Nat.or_lt_two_pow h.lt (Nat.pow_lt_pow_right (by decide) (by omega))
    · intro m hm
      rcases List.mem_cons.1 hm with rfl | hm
      · refine ⟨⟨h0, by omega⟩, .inr ?_⟩
        show (accLe w.b _).testBit _ = true
        rw [hbit]; simp
      · have hs := h.seen m hm
        refine ⟨hs.1, ?_⟩
        show m ≤ top - w.s ∨ (accLe w.b _).testBit _ = true
        rcases hs.2 with h2 | h2
        · exact .inl h2
        · right; rw [hbit, h2]; rfl

theorem valid_lose {w : Win} {top : Int} {S : List Int} (h : WInv w top S) : valid (lose w) = true := by
  have := h.bd
  show validB w.s (-1) 0 true = true
  unfold validB
  simp [this.1, this.2.1]
theorem winv_rec {w : Win} {top n : Int} {S : List Int} (h : WInv w top S) (h0 : top < n) (h1 : n ≤ 1099511627775) : rece (lose w) n = 0 ∧ WInv (rec_ (lose w) n) n (n :: S) := by
  have hbd := h.bd
  have hr : rece (lose w) n = 0 := by
    unfold rece recE rightB
    have hv := valid_lose h
    unfold valid at hv
    rw [hv]
    simp [lose, show 0 ≤ n by omega, h1]
  refine ⟨hr, ?_⟩
  unfold rec_
  rw [if_pos hr]
  obtain ⟨c, hc⟩ : ∃ c : Int, c = (if (lose w).s < n + 1 then (lose w).s else n + 1) := ⟨_, rfl⟩
  have hc2 : c = w.s ∨ c = n + 1 ∧ n + 1 ≤ w.s := by
    rcases Int.lt_or_le w.s (n + 1) with h2 | h2
    · exact .inl (hc.trans (if_pos h2))
    · exact .inr ⟨hc.trans (if_neg (by show ¬ w.s < n + 1; omega)), h2⟩
  rw [← hc]
  have hbit := maskN_bit c
  refine ⟨?_, maskN_lt _, rfl, rfl, ?_⟩
  · show validB w.s n (maskN c) false = true
    refine valid_of (by omega) (fun i hi hbi => ?_) ?_
    · rw [hbit] at hbi
      simp only [Bool.and_eq_true, decide_eq_true_eq] at hbi
      omega
    · rw [hbit]
      simp only [Bool.and_eq_true, decide_eq_true_eq]
      omega
  · intro m hm
    have hmn : 0 ≤ m ∧ m ≤ n := by
      rcases List.mem_cons.1 hm with rfl | hm
      · exact ⟨by omega, Int.le_refl _⟩
      · have := (h.seen m hm).1; omega
    refine ⟨hmn, ?_⟩
    show m ≤ n - w.s ∨ (maskN c).testBit _ = true
    by_cases hms : m ≤ n - w.s
    · exact .inl hms
    · right
      rw [hbit]
      simp only [Bool.and_eq_true, decide_eq_true_eq]
      omega
end Go.Proofs.Ytjmkoelmiehdjaa.Wi

namespace Go.Proofs.Ytjmkoelmiehdjaa.A
open Go.RowKit L
set_option linter.unusedVariables false
set_option linter.unusedSimpArgs false
section
variable {Γ : Cx} {P : Program} {Q : Exit → Act → World → Prop} {E : Env} {H : List HE}
end
end Go.Proofs.Ytjmkoelmiehdjaa.A

namespace Go.Proofs.Ytjmkoelmiehdjaa.A
open Go.RowKit L
set_option linter.unusedVariables false
set_option linter.unusedSimpArgs false

section
variable {P : Program} {ops : Array Oper} {N : Nat}

/-- The state on the way. -/
structure MJ (P : Program) (Γ : Cx) (ops : Array Oper) (Hs : List HE) (K : Env → List HE → Prop) (ord : List (Nat × Bool)) (late : List Nat) (listed : Array Bool) (A : Act) (W : World) (pre ms : List (Nat × Bool)) (Pd : List Nat) (E : Env) (H : List HE) (R : Nat → Prop) : Prop where
  size : listed.size = ops.size
  closed : Closed ops listed
  part : ∀ i, i < ops.size → (listed.getD i false = false ↔ i ∈ Pd ∨ i ∈ ms.map Prod.fst ∨ i ∈ late)
  ord : ord = pre ++ ms
  pdp : ∀ i ∈ Pd, (i, false) ∈ pre
  am : AM P Γ.N ops Hs K ms E H
  pend : ∀ i ∈ Pd, ∃ o d v, ops[i]? = some o ∧ o.dst = some d ∧ d < Γ.N ∧ look E d = some v ∧ OpF P Γ.N ops o (rst E (o.looksAt ops)) Hs (Is v)
  rels : RelS Γ R (H ++ Hs) W
  defers : A.defers = []
  tmps : A.tmps.size = Γ.N
  act : ∀ t v, look E t = some v → (∀ i ∈ Pd, ∀ o, ops[i]? = some o → o.dst ≠ some t) → RelV R W v (A.eval (.tmp t))

variable {Γ : Cx} {Hs : List HE} {K : Env → List HE → Prop} {ord : List (Nat × Bool)} {late : List Nat}

/-- What reads is pending as soon as it may run. -/
theorem MJ.absorb {listed : Array Bool} {A : Act} {W : World} {R : Nat → Prop} (hok : ordPairs ops (ancs ops.toList []) ord = true) : ∀ (ms pre : List (Nat × Bool)) (Pd : List Nat) (E : Env) (H : List HE), MJ P Γ ops Hs K ord late listed A W pre ms Pd E H R →
    ∃ pre' ms' Pd' E', MJ P Γ ops Hs K ord late listed A W pre' ms' Pd' E' H R ∧ (ms' = [] ∨ ∃ m r, ms' = (m, true) :: r)
  | [], pre, Pd, E, H, h => ⟨pre, [], Pd, E, h, .inl rfl⟩
  | (m, true) :: r, pre, Pd, E, H, h => ⟨pre, _, Pd, E, h, .inr ⟨m, r, rfl⟩⟩
  | (j, false) :: r, pre, Pd, E, H, h => by
    obtain ⟨o, d, v, ho, hd, hN, hop, ham⟩ := h.am
    have hord := h.ord
    have hq := ordPairs_app (pre := pre) (r := (j, false) :: r) (by rw [← hord]; exact hok)
    have hself : d ∉ o.looksAt ops := by
      have := hq.1
      rw [ordPairs] at this
      simp only [Bool.and_eq_true, ho, hd, Bool.false_or] at this
      simpa using this.1.1
    have hp : ∀ i ∈ Pd, ∀ oi, ops[i]? = some oi → d ∉ oi.looksAt ops ∧ oi.dst ≠ some d := fun i hi oi hoi => by
      have := pairOk (hq.2 _ (h.pdp i hi) (j, false) (List.mem_cons_self ..)) hoi ho
      obtain ⟨d', h1, h2, h3⟩ := this.flt rfl
      rw [hd] at h1
      cases h1
      exact ⟨h2, h3⟩
    refine MJ.absorb hok r (pre ++ [(j, false)]) (j :: Pd) ((d, v) :: E) H ⟨h.size, h.closed, fun i hi => ?_, by rw [hord]; simp, fun i hi => ?_, ham, fun i hi => ?_, h.rels, h.defers, h.tmps, fun t x ht hpd => ?_⟩
    · rw [h.part i hi]
      simp only [List.map_cons, List.mem_cons]
      constructor
      · rintro (h | (h | h) | h)
        · exact .inl (.inr h)
        · exact .inl (.inl h)
        · exact .inr (.inl h)
        · exact .inr (.inr h)
      · rintro ((h | h) | h | h)
        · exact .inr (.inl (.inl h))
        · exact .inl h
        · exact .inr (.inl (.inr h))
        · exact .inr (.inr h)
    · rcases List.mem_cons.1 hi with rfl | hi
      · simp
      · exact List.mem_append_left _ (h.pdp i hi)
    · rcases List.mem_cons.1 hi with rfl | hi
      · exact ⟨o, d, v, ho, hd, hN, look_here, by rw [rst_skip hself]; exact hop⟩
      · obtain ⟨oi, di, vi, h1, h2, h3, h4, h5⟩ := h.pend i hi
        obtain ⟨h6, h7⟩ := hp i hi oi h1
        refine ⟨oi, di, vi, h1, h2, h3, ?_, by rw [rst_skip h6]; exact h5⟩
        rw [look_skip (fun e => h7 (by rw [h2, e]))]; exact h4
    · have hne : d ≠ t := fun e => hpd j (List.mem_cons_self ..) o ho (by rw [hd, e])
      rw [look_skip hne] at ht
      exact h.act t x ht fun i hi => hpd i (List.mem_cons_of_mem _ hi)

theorem MJ.reads {listed : Array Bool} {A : Act} {W : World} {R : Nat → Prop} {pre ms : List (Nat × Bool)} {Pd : List Nat} {E : Env} {H : List HE} (hok : ordPairs ops (ancs ops.toList []) ord = true) (h : MJ P Γ ops Hs K ord late listed A W pre ms Pd E H R)
    {i : Nat} {b : Bool} {o : Oper} (ho : ops[i]? = some o) (hdeps : ∀ e ∈ o.after, Region.binds .any e = true → listed.getD e.on false = true) (hi : (i, b) ∈ pre ∧ i ∈ Pd ∧ b = false ∨ ∃ r, ms = (i, b) :: r) : RelA Γ.N R W (rst E (o.looksAt ops)) A := by
  refine ⟨h.defers, h.tmps, fun t v ht => ?_⟩
  obtain ⟨htl, ht⟩ := look_rst ht
  refine h.act t v ht fun k hk ok hok' hdk => ?_
  have hkp := h.pdp k hk
  have hkf : listed.getD k false = false := (h.part k (Array.getElem?_eq_some_iff.1 hok').1).2 (.inl hk)
  have direct : ordPair ops (ancs ops.toList []) k false i b = true → False := fun hp => by
    obtain ⟨e, he, hb, hon⟩ := (pairOk hp hok' ho).reads t hdk htl
    have := hdeps e he hb
    rw [hon, hkf] at this; cases this
  rcases hi with ⟨hip, hiP, rfl⟩ | ⟨r, hms⟩
  · -- both ahead
    obtain ⟨p1, p2, hp12⟩ := List.append_of_mem hkp
    have hord := h.ord
    rw [hp12, List.append_assoc] at hord
    rw [hp12] at hip
    rcases List.mem_append.1 hip with hip | hip
    · -- i ahead of k
      have hq := ordPairs_app (pre := p1) (by rw [← hord]; exact hok)
      have := pairOk (hq.2 _ hip (k, false) (List.mem_cons_self ..)) ho hok'
      obtain ⟨d', h1, h2, -⟩ := this.flt rfl
      rw [hdk] at h1; cases h1
      exact h2 htl
    · rcases List.mem_cons.1 hip with he | hip
      · cases he
        -- itself
        have hq := (ordPairs_app (pre := p1) (by rw [← hord]; exact hok)).1
        rw [List.cons_append, ordPairs] at hq
        simp only [Bool.and_eq_true] at hq
        obtain rfl : o = ok := by rw [ho] at hok'; exact Option.some.inj hok'
        have := hq.1.1
        rw [ho] at this
        simp only [hdk, Bool.false_or] at this
        simp at this
        exact this htl
      · rw [show p1 ++ ((k, false) :: p2 ++ ms) = (p1 ++ [(k, false)]) ++ (p2 ++ ms) by simp] at hord
        have hq := ordPairs_app (pre := p1 ++ [(k, false)]) (by rw [← hord]; exact hok)
        exact direct (hq.2 (k, false) (by simp) (i, false) (List.mem_append_left _ hip))
  · have hq := ordPairs_app (pre := pre) (r := ms) (by rw [← h.ord]; exact hok)
    exact direct (hq.2 _ hkp (i, b) (by rw [hms]; exact List.mem_cons_self ..))

/-- One stage. -/
theorem MJ.stage {Q : Exit → Act → World → Prop} (hback : ∀ i o, ops[i]? = some o → ∀ e ∈ o.after, Region.binds .any e = true → e.on < i) (hpairs : ordPairs ops (ancs ops.toList []) ord = true) (hlt : ∀ q ∈ ord, q.1 < ops.size)
    (hlate : ∀ j ∈ late, ∀ q ∈ ord, q.1 ∈ (ancs ops.toList []).getD j [])
    (hfin : ∀ (listed : Array Bool) (A : Act) (W : World) (E : Env) (H : List HE) (R : Nat → Prop), listed.size = ops.size → Closed ops listed → (∀ i, i < ops.size → (listed.getD i false = false ↔ i ∈ late)) → RelS Γ R (H ++ Hs) W → RelA Γ.N R W E A → K E H → wpAny P .any ops Q (listed.toList.count false) listed A W) :
    ∀ (fuel : Nat) (listed : Array Bool) (A : Act) (W : World) (pre ms : List (Nat × Bool)) (Pd : List Nat) (E : Env) (H : List HE) (R : Nat → Prop), fuel = listed.toList.count false →
      MJ P Γ ops Hs K ord late listed A W pre ms Pd E H R → (ms = [] ∨ ∃ m r, ms = (m, true) :: r) → wpAny P .any ops Q fuel listed A W := by
  intro fuel
  induction fuel with
  | zero =>
    intro listed A W pre ms Pd E H R hc hI hhd
    have hlist : ∀ i, i < ops.size → listed.getD i false = true := by
      intro i hi
      have hi' : i < listed.size := by rw [hI.size]; exact hi
      cases hb : listed.getD i false with
      | true => rfl
      | false =>
        exfalso
        have hm : false ∈ listed.toList := by
          rw [← hb]; simp [Array.getD, hi']
        have := List.count_pos_iff.2 hm
        omega
    have hms : ms = [] := by
      rcases hhd with h | ⟨m, r, h⟩
      · exact h
      · have h1 := hlt (m, true) (by rw [hI.ord, h]; simp)
        have := (hI.part m h1).2 (.inr (.inl (by rw [h]; simp)))
        rw [hlist m h1] at this; cases this
    have hPd : Pd = [] := by
      rw [List.eq_nil_iff_forall_not_mem]
      intro i hi
      have h1 := hlt (i, false) (by rw [hI.ord]; exact List.mem_append_left _ (hI.pdp i hi))
      have := (hI.part i h1).2 (.inl hi)
      rw [hlist i h1] at this; cases this
    subst hms
    subst hPd
    rw [hc]
    exact hfin listed A W E H R hI.size hI.closed (fun i hi => by rw [hI.part i hi]; simp) hI.rels ⟨hI.defers, hI.tmps, fun t v ht => hI.act t v ht fun i hi => (by cases hi)⟩ hI.am
  | succ fuel ih =>
    intro listed A W pre ms Pd E H R hc hI hhd
    by_cases hemp : ms = [] ∧ Pd = []
    · obtain ⟨rfl, rfl⟩ := hemp
      rw [hc]
      exact hfin listed A W E H R hI.size hI.closed (fun i hi => by rw [hI.part i hi]; simp) hI.rels ⟨hI.defers, hI.tmps, fun t v ht => hI.act t v ht fun i hi => (by cases hi)⟩ hI.am
    have hun : ∃ q ∈ ord, listed.getD q.1 false = false := by
      rcases hhd with h | ⟨m, r, h⟩
      · cases Pd with
        | nil => exact absurd ⟨h, rfl⟩ hemp
        | cons p Pd =>
          have h1 : (p, false) ∈ ord := by rw [hI.ord]; exact List.mem_append_left _ (hI.pdp p (List.mem_cons_self ..))
          exact ⟨_, h1, (hI.part p (hlt _ h1)).2 (.inl (List.mem_cons_self ..))⟩
      · have h1 : (m, true) ∈ ord := by rw [hI.ord, h]; simp
        exact ⟨_, h1, (hI.part m (hlt _ h1)).2 (.inr (.inl (by rw [h]; simp)))⟩
    have hne : ∃ i, i ∈ Region.ready .any ops listed := by
      have hex : ∃ i, i < ops.size ∧ listed.getD i false = false := by
        have hpos : 0 < listed.toList.count false := by omega
        obtain ⟨i, hi, hf⟩ := List.getElem_of_mem (List.count_pos_iff.1 hpos)
        have hi' : i < listed.size := by simpa using hi
        exact ⟨i, by rw [← hI.size]; exact hi', by simpa [Array.getD, hi'] using hf⟩
      obtain ⟨i, ⟨hi, hf⟩, hmin⟩ : ∃ i, (i < ops.size ∧ listed.getD i false = false) ∧ ∀ j, j < i → ¬ (j < ops.size ∧ listed.getD j false = false) := by
        obtain ⟨i, h⟩ := hex
        exact least ⟨i, h⟩
      have hio : ops[i]? = some ops[i] := by simp [hi]
      refine ⟨i, mem_ready.2 ⟨by rw [getD_tf (by rw [hI.size]; exact hi)]; exact hf, _, hio, fun e he hb => ?_⟩⟩
      have := hback i _ hio e he hb
      cases hb2 : listed.getD e.on false with
      | true => rfl
      | false => exact absurd ⟨by omega, hb2⟩ (hmin e.on this)
    refine ⟨fun e => (by obtain ⟨i, hi⟩ := hne; rw [e] at hi; cases hi), fun i hi => ?_⟩
    obtain ⟨h0, o, ho, hdeps⟩ := mem_ready.1 hi
    have hio : i < ops.size := (Array.getElem?_eq_some_iff.1 ho).1
    have hf : listed.getD i false = false := by rw [← getD_tf (by rw [hI.size]; exact hio)]; exact h0
    have hil : i < listed.size := by rw [hI.size]; exact hio
    have hanc : ∀ j, j ∈ (ancs ops.toList []).getD i [] → listed.getD j false = true := fun j hj => anc_listed hI.closed hback i o ho hdeps j hj
    have hcl := closed_set hI.closed ho hil hdeps
    have hcnt : fuel = (listed.setIfInBounds i true).toList.count false := by
      have hcs := count_set_true listed.toList i (by simpa using hil) (by simpa [Array.getD, hil] using hf)
      simp only [Array.toList_setIfInBounds]
      omega
    have hgd : ∀ k, k ≠ i → (listed.setIfInBounds i true).getD k false = listed.getD k false := fun k hk => getD_set_ne false (Ne.symm hk)
    have hgi : (listed.setIfInBounds i true).getD i false = true := by simp [Array.getD, hil]
    have hsz : (listed.setIfInBounds i true).size = ops.size := by simpa using hI.size
    have hnl : i ∉ late := fun h => by
      obtain ⟨q, hq, hqf⟩ := hun
      have := hanc q.1 (hlate i h q hq)
      rw [hqf] at this; cases this
    rcases (hI.part i hio).1 hf with hPd | hms | hlt'
    · -- one that reads
      obtain ⟨o', d, v, ho', hd, hN, hlk, hop⟩ := hI.pend i hPd
      obtain rfl : o = o' := by rw [ho] at ho'; exact Option.some.inj ho'
      have hA := hI.reads hpairs ho hdeps (b := false) (.inl ⟨hI.pdp i hPd, hPd, rfl⟩)
      have hs := hop R A W hI.rels.rlt (fun e he => hI.rels.ok e (List.mem_append_right _ he)) (fun e he b hb => (hI.rels.own e (List.mem_append_right _ he) b hb).2) hA
      have hnext : ∀ u W', (∃ v' Hn R', Is v v' Hn ∧ Post1 R W v' Hn u W' R') → wpAny P .any ops Q fuel (listed.setIfInBounds i true) (A.put o.dst u) W' := by
        rintro u W' ⟨v', Hn, R', ⟨rfl, rfl⟩, hp⟩
        have hnm : i ∉ ms.map Prod.fst := fun hm => by
          obtain ⟨⟨j, c⟩, hq, hji⟩ := List.mem_map.1 hm
          have hq2 := (ordPairs_app (pre := pre) (r := ms) (by rw [← hI.ord]; exact hpairs)).2 _ (hI.pdp i hPd) _ hq
          simp only at hji
          subst hji
          exact (pairOk hq2 ho ho).ne rfl
        refine ih _ _ _ pre ms (Pd.filter (· ≠ i)) E H R' hcnt ⟨hsz, hcl, fun k hk => ?_, hI.ord, fun k hk => hI.pdp k (List.mem_filter.1 hk).1, hI.am, fun k hk => hI.pend k (List.mem_filter.1 hk).1, by simpa using hI.rels.step hp, ?_, ?_, fun t x ht hpd => ?_⟩ hhd
        · by_cases hki : k = i
          · subst hki
            rw [hgi]
            simp [hnm, hnl]
          · rw [hgd k hki, hI.part k hk]
            simp [hki]
        · rw [hd]; exact hI.defers
        · rw [hd]; simp [Act.put, hI.tmps]
        · rw [hd]
          by_cases hdt : d = t
          · subst hdt
            rw [hlk] at ht
            cases ht
            rw [eval_put_same (by rw [hI.tmps]; exact hN)]; exact hp.val
          · rw [eval_put_other hdt]
            refine (hI.act t x ht fun k hk ok hok hdk => ?_).mono hp.sub (extSame hp.ext hI.rels.rlt)
            by_cases hki : k = i
            · subst hki
              rw [ho] at hok
              cases hok
              rw [hd] at hdk
              cases hdk
              exact hdt rfl
            · exact hpd k (List.mem_filter.2 ⟨hk, by simpa using hki⟩) ok hok hdk
      unfold wpOp
      rw [ho]
      unfold FStep at hs
      show if Region.wanted o (yielded ops A.tmps) = true then _ else _
      split
      · rename_i hw
        rw [if_pos hw] at hs
        refine .inl (Oper.wp_mono ?_ (wp_of_noQ hs))
        rintro A' W' ⟨u, rfl, hp⟩
        exact hnext u W' hp
      · rename_i hw
        rw [if_neg hw] at hs
        exact hnext _ _ hs
    · -- the next that writes
      rcases hhd with rfl | ⟨m, r, rfl⟩
      · cases hms
      have hmlt : m < ops.size := by have := hlt (m, true) (by rw [hI.ord]; simp); exact this
      have hmf : listed.getD m false = false := (hI.part m hmlt).2 (.inr (.inl (by simp)))
      have him : i = m := by
        rcases List.mem_cons.1 hms with h | h
        · exact h
        · exfalso
          obtain ⟨⟨j, c⟩, hq, hji⟩ := List.mem_map.1 h
          simp only at hji
          subst hji
          have h9 := (ordPairs_app (pre := pre ++ [(m, true)]) (r := r) (by have := hI.ord; rw [List.append_assoc, List.singleton_append, ← this]; exact hpairs)).2 (m, true) (by simp) _ hq
          have hom : ops[m]? = some ops[m] := by simp [hmlt]
          have := hanc m ((pairOk h9 hom ho).main rfl)
          rw [hmf] at this; cases this
      subst him
      obtain ⟨o', ho', hAO⟩ := hI.am
      obtain rfl : o = o' := by rw [ho] at ho'; exact Option.some.inj ho'
      have hA := hI.reads hpairs ho hdeps (b := true) (.inr ⟨r, rfl⟩)
      have hs := hAO W R R A W ⟨Mods.refl _ _, hI.rels.rlt, fun _ h => h, fun _ h => .inl h, fun e he => hI.rels.ok e (List.mem_append_left _ he), fun e he b hb => ⟨.inr ⟨e, he, hb⟩, (hI.rels.own e (List.mem_append_left _ he) b hb).2⟩, (List.pairwise_append.1 hI.rels.disj).1⟩ hA
      have hnext : ∀ u W', QS ⟨W, footOf H, R, Γ.N⟩ o.dst (fun v H' => AM P Γ.N ops Hs K r (putE o.dst v E) H') .normal (A.put o.dst u) W' → wpAny P .any ops Q fuel (listed.setIfInBounds i true) (A.put o.dst u) W' := by
        rintro u W' ⟨hdf, v, H', R', ham, hsr, hvr⟩
        obtain ⟨hrel, hRW⟩ := RelS.part hI.rels hsr
        have hpd : ∀ k ∈ Pd, ∀ ok, ops[k]? = some ok → ∀ d, o.dst = some d → d ∉ ok.looksAt ops ∧ ok.dst ≠ some d := fun k hk ok hok d hd => by
          have h9 := (ordPairs_app (pre := pre) (r := (i, true) :: r) (by rw [← hI.ord]; exact hpairs)).2 _ (hI.pdp k hk) (i, true) (List.mem_cons_self ..)
          have hkf : listed.getD k false = false := (hI.part k (Array.getElem?_eq_some_iff.1 hok).1).2 (.inl hk)
          have hno : k ∉ (ancs ops.toList []).getD i [] := fun hm => by
            have := hanc k hm
            rw [hkf] at this; cases this
          exact ⟨fun hm => hno ((pairOk h9 hok ho).mn rfl d hd (.inl hm)), fun he => hno ((pairOk h9 hok ho).mn rfl d hd (.inr he))⟩
        have hnr : i ∉ r.map Prod.fst := fun hm => by
          obtain ⟨⟨j, c⟩, hq, hji⟩ := List.mem_map.1 hm
          have h9 := (ordPairs_app (pre := pre ++ [(i, true)]) (r := r) (by have := hI.ord; rw [List.append_assoc, List.singleton_append, ← this]; exact hpairs)).2 (i, true) (by simp) _ hq
          simp only at hji
          subst hji
          exact (pairOk h9 ho ho).ne rfl
        have hnp : i ∉ Pd := fun hk => by
          have h9 := (ordPairs_app (pre := pre) (r := (i, true) :: r) (by rw [← hI.ord]; exact hpairs)).2 _ (hI.pdp i hk) (i, true) (List.mem_cons_self ..)
          exact (pairOk h9 ho ho).ne rfl
        have hI' : MJ P Γ ops Hs K ord late (listed.setIfInBounds i true) (A.put o.dst u) W' (pre ++ [(i, true)]) r Pd (putE o.dst v E) H' R' := by
          refine ⟨hsz, hcl, fun k hk => ?_, by rw [hI.ord]; simp, fun k hk => List.mem_append_left _ (hI.pdp k hk), ham, fun k hk => ?_, hrel, hdf, ?_, fun t x ht hp => ?_⟩
          · by_cases hki : k = i
            · subst hki
              rw [hgi]
              simp [hnr, hnp, hnl]
            · rw [hgd k hki, hI.part k hk]
              simp [hki]
          · obtain ⟨ok, dk, vk, h1, h2, h3, h4, h5⟩ := hI.pend k hk
            refine ⟨ok, dk, vk, h1, h2, h3, ?_, ?_⟩
            · cases hd : o.dst with
              | none => exact h4
              | some d => rw [putE, look_skip (fun e => (hpd k hk ok h1 d hd).2 (by rw [h2, e]))]; exact h4
            · cases hd : o.dst with
              | none => exact h5
              | some d => rw [putE, rst_skip (hpd k hk ok h1 d hd).1]; exact h5
          · cases hd : o.dst <;> simp [Act.put, hI.tmps]
          · cases hd : o.dst with
            | none =>
              rw [hd] at ht
              exact (hI.act t x ht hp).mono hsr.rsub hRW
            | some d =>
              rw [hd, putE] at ht
              by_cases hdt : d = t
              · subst hdt
                rw [look_here] at ht
                cases ht
                have := hvr d hd
                rwa [hd] at this
              · rw [look_skip hdt] at ht
                rw [eval_put_other hdt]
                exact (hI.act t x ht hp).mono hsr.rsub hRW
        obtain ⟨pre', ms', Pd', E', hI2, hh2⟩ := hI'.absorb hpairs
        exact ih _ _ _ pre' ms' Pd' E' H' R' hcnt hI2 hh2
      unfold wpOp
      rw [ho]
      unfold wpList at hs
      show if Region.wanted o (yielded ops A.tmps) = true then _ else _
      split
      · rename_i hw
        rw [if_pos hw] at hs
        refine .inl ?_
        rcases hs with hs | ⟨-, a', w', hl⟩
        · have hs2 : o.wp P A W (wpList P ops (QS ⟨W, footOf H, R, Γ.N⟩ o.dst (fun v H' => AM P Γ.N ops Hs K r (putE o.dst v E) H')) []) NoQ := by
            unfold Oper.wp at hs ⊢
            revert hs
            cases (execOp A.eval o).run P W with
            | ok n w' =>
              cases n with
              | enter f args =>
                intro hs
                refine Calls.mono hs ?_
                intro e w'' he
                cases e with
                | returned v => exact he
                | outgrown => obtain ⟨a', w', hl⟩ := he; exact hl.elim
                | _ => exact he.elim
              | _ => exact fun h => h
            | halt x w' => cases x <;> exact fun h => h
          refine Oper.wp_mono ?_ (wp_of_noQ (Oper.wp_put hs2))
          rintro A' W' ⟨hq, hA'⟩
          have hq' : QS ⟨W, footOf H, R, Γ.N⟩ o.dst (fun v H' => AM P Γ.N ops Hs K r (putE o.dst v E) H') .normal A' W' := hq
          rcases hA' with ⟨u, rfl⟩ | hnd
          · exact hnext u W' hq'
          · exact absurd hq'.1 hnd
        · exact hl.elim
      · rename_i hw
        rw [if_neg hw] at hs
        exact hnext _ _ hs
    · exact absurd hlt' hnl

/-- Operations in stages. -/
def AMS (P : Program) (N : Nat) (ops : Array Oper) (K : Env → List HE → Prop) : List (List (Nat × Bool)) → Env → List HE → Prop
  | [], E, H => K E H
  | ord :: r, E, H => ∃ Hm Hs, SplitH E H Hm Hs ∧ AM P N ops Hs (fun E' H' => AMS P N ops K r E' (H' ++ Hs)) ord E Hm
theorem AMS.go {ord : List (Nat × Bool)} {r : List (List (Nat × Bool))} {E : Env} {H Hm Hs : List HE} (hH : SplitH E H Hm Hs) (h : AM P N ops Hs (fun E' H' => AMS P N ops K r E' (H' ++ Hs)) ord E Hm) : AMS P N ops K (ord :: r) E H := ⟨Hm, Hs, hH, h⟩
theorem AMS.nil {E : Env} {H : List HE} (h : K E H) : AMS P N ops K [] E H := h
def stagesOk (ops : Array Oper) (an : List (List Nat)) : List (List (Nat × Bool)) → Bool
  | [] => true
  | ord :: r => ordPairs ops an ord && (ord.all fun q => decide (q.1 < ops.size)) && (r.all fun s => s.all fun j => ord.all fun q => (an.getD j.1 []).contains q.1) && stagesOk ops an r
def stagesAll (ops : Array Oper) (os : List (List (Nat × Bool))) : Bool :=
  ((List.range ops.size).all fun i => os.any fun ord => ord.any fun q => q.1 == i) &&
  ((List.range ops.size).all fun i => (ops[i]?).all fun o => o.after.all fun e => !Region.binds .any e || decide (e.on < i)) && stagesOk ops (ancs ops.toList []) os
theorem AMS.run {Q : Exit → Act → World → Prop} (hback : ∀ i o, ops[i]? = some o → ∀ e ∈ o.after, Region.binds .any e = true → e.on < i) : ∀ (os : List (List (Nat × Bool))), stagesOk ops (ancs ops.toList []) os = true →
    ∀ (listed : Array Bool) (A : Act) (W : World) (E : Env) (H : List HE) (R : Nat → Prop), listed.size = ops.size → Closed ops listed → (∀ i, i < ops.size → (listed.getD i false = false ↔ i ∈ (os.flatten).map Prod.fst)) → RelS Γ R H W → RelA Γ.N R W E A →
      AMS P Γ.N ops (fun E' H' => AQ Γ Q .normal E' H') os E H → wpAny P .any ops Q (listed.toList.count false) listed A W
  | [], _, listed, A, W, E, H, R, hsz, hcl, hpt, hs, ha, h => by
    have hlist : ∀ i, i < ops.size → listed.getD i false = true := by
      intro i hi
      cases hb : listed.getD i false with
      | true => rfl
      | false => have := (hpt i hi).1 hb; cases this
    have h0 : listed.toList.count false = 0 := by
      rw [List.count_eq_zero]
      intro hm
      obtain ⟨i, hi, hf⟩ := List.getElem_of_mem hm
      have hi' : i < listed.size := by simpa using hi
      have := hlist i (by rw [← hsz]; exact hi')
      rw [show listed.getD i false = listed[i] by simp [Array.getD, hi']] at this
      rw [show listed.toList[i] = listed[i] by simp, this] at hf
      cases hf
    rw [h0]
    refine ⟨?_, h R A W hs ha⟩
    rw [List.eq_nil_iff_forall_not_mem]
    intro i hi
    obtain ⟨h0, o, ho, _⟩ := mem_ready.1 hi
    have hi' : i < ops.size := (Array.getElem?_eq_some_iff.1 ho).1
    have := hlist i hi'
    rw [← getD_tf (by rw [hsz]; exact hi')] at this
    rw [this] at h0; cases h0
  | ord :: os, hok, listed, A, W, E, H, R, hsz, hcl, hpt, hs, ha, h => by
    rw [stagesOk] at hok
    simp only [Bool.and_eq_true, List.all_eq_true, decide_eq_true_eq, List.contains_eq_mem] at hok
    obtain ⟨⟨⟨hp, hlt⟩, hlate⟩, hrest⟩ := hok
    obtain ⟨Hm, Hs, hH, hAM⟩ := h
    have hI : MJ P Γ ops Hs (fun E' H' => AMS P Γ.N ops (fun E' H' => AQ Γ Q .normal E' H') os E' (H' ++ Hs)) ord (os.flatten.map Prod.fst) listed A W [] ord [] E Hm R := by
      refine ⟨hsz, hcl, fun i hi => ?_, rfl, fun i hi => (by cases hi), hAM, fun i hi => (by cases hi), hs.perm hH.symm, ha.defers, ha.size, fun t v ht _ => ha.slots t v ht⟩
      rw [hpt i hi]
      simp
    obtain ⟨pre', ms', Pd', E', hI2, hh2⟩ := hI.absorb hp
    refine MJ.stage hback hp hlt (fun j hj q hq => ?_) (fun listed A W E H R h1 h2 h3 h4 h5 h6 => AMS.run hback os hrest listed A W E _ R h1 h2 h3 h4 h5 h6) _ listed A W pre' ms' Pd' E' Hm R rfl hI2 hh2
    obtain ⟨x, hx, rfl⟩ := List.mem_map.1 hj
    obtain ⟨s, hs1, hs2⟩ := List.mem_flatten.1 hx
    exact hlate s hs1 x hs2 q hq
end
end Go.Proofs.Ytjmkoelmiehdjaa.A

namespace Go.Proofs.Ytjmkoelmiehdjaa.A
open Go.RowKit L
set_option linter.unusedVariables false
set_option linter.unusedSimpArgs false
section
variable {Γ : Cx} {P : Program} {ops : Array Oper} {Q : Exit → Act → World → Prop} {E : Env} {H : List HE} {o : Oper} {rest : List Oper}
end
end Go.Proofs.Ytjmkoelmiehdjaa.A

namespace Go.Proofs.Ytjmkoelmiehdjaa.A
open Go.RowKit L
set_option linter.unusedVariables false
set_option linter.unusedSimpArgs false
section
variable {P : Program} {E : Env} {H : List HE} {N : Nat} {o : Oper}
end
end Go.Proofs.Ytjmkoelmiehdjaa.A

namespace Go.Proofs.Ytjmkoelmiehdjaa.A
open Go.RowKit L
set_option linter.unusedVariables false
set_option linter.unusedSimpArgs false
section
variable {Γ : Cx} {P : Program} {Q : Exit → Act → World → Prop} {E : Env} {H : List HE} {N : Nat} {o : Oper} {ops : Array Oper} {rest : List Oper}
theorem CoeL.app {a b x y : List AV} (h : CoeL a b) (k : CoeL x y) : CoeL (a ++ x) (b ++ y) := fun R W us hu => by
  induction a generalizing b us with
  | nil =>
    have hb : b = [] := by
      have := (h R W [] RelL.nil).1
      exact List.eq_nil_of_length_eq_zero this.symm
    subst hb
    exact k R W us hu
  | cons u a ih =>
    have h1 : us.take (a.length + 1) ++ us.drop (a.length + 1) = us := List.take_append_drop ..
    have h2 := hu.take (a.length + 1)
    have h3 := hu.drop (a.length + 1)
    rw [show ((u :: a) ++ x).take (a.length + 1) = u :: a by simp] at h2
    rw [show ((u :: a) ++ x).drop (a.length + 1) = x by simp] at h3
    rw [← h1]
    exact RelL.app (h R W _ h2) (k R W _ h3)
theorem Coe.ro {full : Bool} {n : Nat} {xs ys : List AV} (h : CoeL xs ys) : Coe (.ro full n xs) (.ro full n ys) := fun R W u hu => by
  cases hu with
  | emp _ a cap h1 h2 =>
    have hy : ys = [] := List.eq_nil_of_length_eq_zero (h R W [] RelL.nil).1.symm
    subst hy
    exact .emp _ a cap h1 h2
  | ro _ _ _ b off cap us hb hc hr h1 h2 h3 =>
    have hl : RelL R W xs ((List.range xs.length).map us) := ⟨by simp, fun j hj => by simpa [hj] using hr j hj⟩
    have hk := h R W _ hl
    have he : ys.length = xs.length := by have := hk.1; simpa using this.symm
    refine .ro _ _ _ b off cap us hb (fun j hj => hc j (by omega)) (fun j hj => ?_) h1 h2 h3
    have := hk.2 j hj
    rw [he] at hj
    simpa [hj] using this
/-- A literal whose elements are all given, in order. -/
def seqA (k : Nat) : Nat → List (Nat × AV) → Option (List AV)
  | _, [] => some []
  | i, (j, v) :: r => bif Nat.beq j i && Nat.beq v.cells.length k then (match seqA k (i + 1) r with | some ys => some (v.cells ++ ys) | none => none) else none
/-! ### Several results, each in a temporary or in a box -/
def resOne (tmps : Array Value) : ResultVar → Sem Value
  | .tmp t => pure (tmps.getD t undef)
  | .cell a t => do loadVar t (← asAddr (tmps.getD a undef))
def ResAt (Γ : Cx) (P : Program) (E : Env) (H : List HE) (x : ResultVar) (q : AV) : Prop :=
  ∀ R a W, RelS Γ R H W → RelA Γ.N R W E a → ∃ u, (resOne a.tmps x).run P W = .ok u W ∧ RelV R W q u
theorem ResAt.tmp {t : Nat} {q : AV} (h : look E t = some q) : ResAt Γ P E H (.tmp t) q := fun R a W hs ha => ⟨a.eval (.tmp t), rfl, ha.slots t q h⟩
theorem ResAt.cell {t T k b T' room : Nat} {xs ys : List AV} [hg : TyG P T true k] (ht : look E t = some (.val (.pointer (some ⟨b, 0, none⟩)))) (hm : HE.blk b T' room xs ∈ H) (hv : xs.take k = ys) (hk : ys.length = k) : ResAt Γ P E H (.cell t T) (.agg ys) := fun R a W hs ha => by
  obtain ⟨us, cs, hb, hsz, hts, hrl⟩ := hs.ok _ hm
  have hrl := hrl.take k
  rw [hv] at hrl
  have hl := run_loadVarK hg W b 0 (us.take k) (by rw [hrl.1, hk]) (fun i u hi => by
    rw [cell_of_row W b (0 + i) cs T' (0, 0) hb]
    rw [List.getElem?_take] at hi
    split at hi
    · rw [← hts, List.getElem?_take] at hi
      split at hi
      · simpa using hi
      · cases hi
    · cases hi)
  have hv' := (ha.slots t _ ht).val_inv
  refine ⟨.agg (us.take k).toArray, ?_, hrl.toAgg⟩
  have : a.tmps.getD t undef = .pointer (some ⟨b, 0, none⟩) := hv'
  simp [resOne, this, asAddr, hl]
end
end Go.Proofs.Ytjmkoelmiehdjaa.A

namespace Go.Proofs.Ytjmkoelmiehdjaa.A
open Go.RowKit L
set_option linter.unusedVariables false
set_option linter.unusedSimpArgs false

section
variable {P : Program} {ops : Array Oper} {N : Nat}
/-- Operations in this order: true those that write, false those that read. -/
structure Al where
  (i d T room : Nat) (xs : List AV)
def Al.ok (P : Program) (N : Nat) (ops : Array Oper) (al : Al) : Prop :=
  ∃ o, ops[al.i]? = some o ∧ o.dst = some al.d ∧ al.d < N ∧ o.guard = none ∧ OpW P N o [] [] (NewBlk (fun b => .val (.pointer (some ⟨b, 0, none⟩))) al.T al.room al.xs)
def Al.he (al : Al) (b : Nat) : HE := .blk b al.T al.room al.xs
def Al.hs (al : Al) : Option Nat → List HE
  | none => []
  | some b => [al.he b]
def AN (P : Program) (N : Nat) (ops : Array Oper) (al : Al) (Hs : List HE) (K : Env → List HE → Prop) : List (Nat × Bool) → Env → List HE → Prop
  | [], E, H => K E H
  | (i, true) :: r, E, H => if i = al.i then (∀ b, AN P N ops al Hs K r ((al.d, .val (.pointer (some ⟨b, 0, none⟩))) :: E) (al.he b :: H)) else ∃ o, ops[i]? = some o ∧ ∀ w0 R0, AO ⟨w0, footOf H, R0, N⟩ P ops (QS ⟨w0, footOf H, R0, N⟩ o.dst (fun v H' => AN P N ops al Hs K r (putE o.dst v E) H')) [o] (rst E (o.looksAt ops)) H
  | (i, false) :: r, E, H => ∃ o d v, ops[i]? = some o ∧ o.dst = some d ∧ d < N ∧ OpF P N ops o (rst E (o.looksAt ops)) Hs (Is v) ∧ AN P N ops al Hs K r ((d, v) :: E) H

/-- One operation ahead of another. -/
def ordPairA (ops : Array Oper) (ia : Nat) (an : List (List Nat)) (i : Nat) (b : Bool) (j : Nat) (c : Bool) : Bool :=
  match ops[i]?, ops[j]? with
  | some oi, some oj =>
    let waits := oj.after.any fun e => Region.binds .any e && e.on == i
    let anc := (an.getD j []).contains i
    (i != j) && (!b || anc || j == ia) &&
    (match oj.dst with
      | some d => bif c && j != ia then (!((oi.looksAt ops).contains d || oi.dst == some d)) || anc else !(oi.looksAt ops).contains d && oi.dst != some d
      | none => c && j != ia) &&
    (match oi.dst with
      | some d => !(oj.looksAt ops).contains d || waits
      | none => true)
  | _, _ => false
def ordPairsA (ops : Array Oper) (ia : Nat) (an : List (List Nat)) : List (Nat × Bool) → Bool
  | [] => true
  | (i, b) :: r => (b || (match ops[i]? with | some o => (match o.dst with | some d => !(o.looksAt ops).contains d | none => false) | none => false)) && r.all (fun q => ordPairA ops ia an i b q.1 q.2) && ordPairsA ops ia an r
def ordOkA (ops : Array Oper) (ia : Nat) (ord : List (Nat × Bool)) : Bool :=
  ((List.range ops.size).all fun i => (ord.map Prod.fst).contains i) && (ord.all fun q => decide (q.1 < ops.size)) &&
  ((List.range ops.size).all fun i => (ops[i]?).all fun o => o.after.all fun e => !Region.binds .any e || decide (e.on < i)) && (ord.all fun q => q.1 != ia || q.2) && ordPairsA ops ia (ancs ops.toList []) ord

theorem ordPairsA_app {ia : Nat} {an : List (List Nat)} : ∀ {pre r : List (Nat × Bool)}, ordPairsA ops ia an (pre ++ r) = true → ordPairsA ops ia an r = true ∧ ∀ q ∈ pre, ∀ s ∈ r, ordPairA ops ia an q.1 q.2 s.1 s.2 = true
  | [], r, h => ⟨h, fun q hq => by cases hq⟩
  | (i, b) :: pre, r, h => by
    rw [List.cons_append, ordPairsA] at h
    simp only [Bool.and_eq_true, List.all_eq_true] at h
    obtain ⟨h1, h2⟩ := ordPairsA_app h.2
    refine ⟨h1, fun q hq s hs => ?_⟩
    rcases List.mem_cons.1 hq with rfl | hq
    · exact h.1.2 s (List.mem_append_right _ hs)
    · exact h2 q hq s hs

structure PairOkA (ops : Array Oper) (ia : Nat) (an : List (List Nat)) (i : Nat) (b : Bool) (oi : Oper) (j : Nat) (c : Bool) (oj : Oper) : Prop where
  ne : i ≠ j
  main : b = true → j ≠ ia → i ∈ an.getD j []
  flt : c = false ∨ j = ia → ∃ d, oj.dst = some d ∧ d ∉ oi.looksAt ops ∧ oi.dst ≠ some d
  mn : c = true → j ≠ ia → ∀ d, oj.dst = some d → (d ∈ oi.looksAt ops ∨ oi.dst = some d) → i ∈ an.getD j []
  reads : ∀ d, oi.dst = some d → d ∈ oj.looksAt ops → ∃ e ∈ oj.after, Region.binds .any e = true ∧ e.on = i
theorem pairOkA {ia : Nat} {an : List (List Nat)} {i j : Nat} {b c : Bool} {oi oj : Oper} (h : ordPairA ops ia an i b j c = true) (hi : ops[i]? = some oi) (hj : ops[j]? = some oj) : PairOkA ops ia an i b oi j c oj := by
  unfold ordPairA at h
  rw [hi, hj] at h
  simp only [Bool.and_eq_true, bne_iff_ne, ne_eq] at h
  obtain ⟨⟨⟨h1, h2⟩, h3⟩, h4⟩ := h
  refine ⟨h1, fun hb hj => ?_, fun hc => ?_, fun hc hj d hd hm => ?_, fun d hd hm => ?_⟩
  · subst hb; simpa [hj] using h2
  · have hcj : (c && j != ia) = false := by rcases hc with hc | hc <;> simp [hc]
    cases hd : oj.dst with
    | none => rw [hd] at h3; simp only [hcj] at h3; cases h3
    | some d =>
      rw [hd] at h3
      simp only [hcj, cond_false] at h3
      simp at h3
      exact ⟨d, rfl, h3.1, h3.2⟩
  · subst hc
    have hcj : (true && j != ia) = true := by simp [hj]
    rw [hd] at h3
    simp only [hcj, cond_true] at h3
    simp at h3
    rcases h3 with h3 | h3
    · rcases hm with hm | hm
      · exact absurd hm h3.1
      · exact absurd hm h3.2
    · exact h3
  · rw [hd] at h4
    simp only [Bool.or_eq_true, Bool.not_eq_true', List.contains_eq_mem, decide_eq_false_iff_not] at h4
    rcases h4 with h4 | h4
    · exact absurd hm h4
    · obtain ⟨x, hx, hx2⟩ := any_mem h4
      simp only [Bool.and_eq_true, beq_iff_eq] at hx2
      exact ⟨x, hx, hx2.1, hx2.2⟩

/-- The state on the way. -/
structure NI (P : Program) (Γ : Cx) (ops : Array Oper) (al : Al) (Hs : List HE) (K : Env → List HE → Prop) (ord : List (Nat × Bool)) (listed : Array Bool) (A : Act) (W : World) (pre ms : List (Nat × Bool)) (Pd : List Nat) (ea : Option Nat) (E : Env) (H : List HE) (R : Nat → Prop) : Prop where
  size : listed.size = ops.size
  closed : Closed ops listed
  part : ∀ i, i < ops.size → (listed.getD i false = false ↔ (i ∈ Pd ∨ i ∈ ms.map Prod.fst) ∧ (ea ≠ none → i ≠ al.i))
  ord : ord = pre ++ ms
  pdp : ∀ i ∈ Pd, (i, false) ∈ pre
  am : AN P Γ.N ops al Hs K ms E H
  pend : ∀ i ∈ Pd, ∃ o d v, ops[i]? = some o ∧ o.dst = some d ∧ d < Γ.N ∧ look E d = some v ∧ OpF P Γ.N ops o (rst E (o.looksAt ops)) Hs (Is v)
  rels : RelS Γ R (H ++ (al.hs ea ++ Hs)) W
  eal : ∀ b, ea = some b → (al.i, true) ∈ ms ∧ A.eval (.tmp al.d) = .pointer (some ⟨b, 0, none⟩)
  defers : A.defers = []
  tmps : A.tmps.size = Γ.N
  act : ∀ t v, look E t = some v → (∀ i ∈ Pd, ∀ o, ops[i]? = some o → o.dst ≠ some t) → (ea ≠ none → t ≠ al.d) → RelV R W v (A.eval (.tmp t))

variable {Γ : Cx} {al : Al} {Hs : List HE} {K : Env → List HE → Prop} {ord : List (Nat × Bool)}

/-- What reads is pending as soon as it may run. -/
theorem NI.absorb {listed : Array Bool} {A : Act} {W : World} {R : Nat → Prop} (hok : ordPairsA ops al.i (ancs ops.toList []) ord = true) (hal : al.ok P Γ.N ops) : ∀ (ms pre : List (Nat × Bool)) (Pd : List Nat) (ea : Option Nat) (E : Env) (H : List HE), NI P Γ ops al Hs K ord listed A W pre ms Pd ea E H R →
    ∃ pre' ms' Pd' ea' E' H', NI P Γ ops al Hs K ord listed A W pre' ms' Pd' ea' E' H' R ∧ (ms' = [] ∨ ∃ m r, ms' = (m, true) :: r ∧ (m = al.i → ea' = none))
  | [], pre, Pd, ea, E, H, h => ⟨pre, [], Pd, ea, E, H, h, .inl rfl⟩
  | (m, true) :: r, pre, Pd, ea, E, H, h => by
    by_cases hm : m = al.i
    · subst hm
      cases hea : ea with
      | none => subst hea; exact ⟨pre, _, Pd, none, E, H, h, .inr ⟨_, r, rfl, fun _ => rfl⟩⟩
      | some b =>
        subst hea
        obtain ⟨oa, ho, hd, hN, hg, hop⟩ := hal
        have ham := h.am
        rw [AN, if_pos rfl] at ham
        have hord := h.ord
        have hq := ordPairsA_app (pre := pre) (r := (al.i, true) :: r) (by rw [← hord]; exact hok)
        have hself : ∀ i ∈ Pd, i ≠ al.i := fun i hi e => by
          have := pairOkA (hq.2 _ (h.pdp i hi) (al.i, true) (List.mem_cons_self ..)) (by rw [e]; exact ho) ho
          exact this.ne e
        have hp : ∀ i ∈ Pd, ∀ oi, ops[i]? = some oi → al.d ∉ oi.looksAt ops ∧ oi.dst ≠ some al.d := fun i hi oi hoi => by
          have := pairOkA (hq.2 _ (h.pdp i hi) (al.i, true) (List.mem_cons_self ..)) hoi ho
          obtain ⟨d', h1, h2, h3⟩ := this.flt (.inr rfl)
          rw [hd] at h1
          cases h1
          exact ⟨h2, h3⟩
        have hnr : al.i ∉ r.map Prod.fst := fun hm => by
          obtain ⟨⟨j, c⟩, hq3, hji⟩ := List.mem_map.1 hm
          have h9 := (ordPairsA_app (pre := pre ++ [(al.i, true)]) (r := r) (by rw [List.append_assoc, List.singleton_append, ← hord]; exact hok)).2 (al.i, true) (by simp) _ hq3
          simp only at hji
          subst hji
          exact (pairOkA h9 ho ho).ne rfl
        refine NI.absorb hok ⟨oa, ho, hd, hN, hg, hop⟩ r (pre ++ [(al.i, true)]) Pd none ((al.d, .val (.pointer (some ⟨b, 0, none⟩))) :: E) (al.he b :: H) ⟨h.size, h.closed, fun i hi => ?_, by rw [hord]; simp, fun i hi => List.mem_append_left _ (h.pdp i hi), ham b, fun i hi => ?_, ?_, fun _ h => (by cases h), h.defers, h.tmps, fun t x ht hpd _ => ?_⟩
        · rw [h.part i hi]
          simp only [List.map_cons, List.mem_cons, ne_eq, not_false_eq_true, forall_const, not_true_eq_false, false_implies, and_true, reduceCtorEq]
          constructor
          · rintro ⟨h1 | h1 | h1, h2⟩
            · exact .inl h1
            · exact absurd h1 h2
            · exact .inr h1
          · rintro (h1 | h1)
            · exact ⟨.inl h1, hself i h1⟩
            · exact ⟨.inr (.inr h1), fun e => hnr (e ▸ h1)⟩
        · obtain ⟨oi, di, vi, h1, h2, h3, h4, h5⟩ := h.pend i hi
          obtain ⟨h6, h7⟩ := hp i hi oi h1
          refine ⟨oi, di, vi, h1, h2, h3, ?_, by rw [rst_skip h6]; exact h5⟩
          rw [look_skip (fun e => h7 (by rw [h2, e]))]; exact h4
        · refine h.rels.perm ?_
          show (al.he b :: (H ++ ([] ++ Hs))).Perm (H ++ ([al.he b] ++ Hs))
          exact (List.perm_middle (a := al.he b) (l₁ := H) (l₂ := Hs)).symm
        · by_cases hdt : al.d = t
          · subst hdt
            rw [look_here] at ht
            cases ht
            rw [(h.eal b rfl).2]; exact .val _
          · rw [look_skip hdt] at ht
            exact h.act t x ht hpd fun _ e => hdt e.symm
    · exact ⟨pre, _, Pd, ea, E, H, h, .inr ⟨m, r, rfl, fun e => absurd e hm⟩⟩
  | (j, false) :: r, pre, Pd, ea, E, H, h => by
    obtain ⟨o, d, v, ho, hd, hN, hop, ham⟩ := h.am
    have hord := h.ord
    have hq := ordPairsA_app (pre := pre) (r := (j, false) :: r) (by rw [← hord]; exact hok)
    have hself : d ∉ o.looksAt ops := by
      have := hq.1
      rw [ordPairsA] at this
      simp only [Bool.and_eq_true, ho, hd, Bool.false_or] at this
      simpa using this.1.1
    have hp : ∀ i ∈ Pd, ∀ oi, ops[i]? = some oi → d ∉ oi.looksAt ops ∧ oi.dst ≠ some d := fun i hi oi hoi => by
      have := pairOkA (hq.2 _ (h.pdp i hi) (j, false) (List.mem_cons_self ..)) hoi ho
      obtain ⟨d', h1, h2, h3⟩ := this.flt (.inl rfl)
      rw [hd] at h1
      cases h1
      exact ⟨h2, h3⟩
    refine NI.absorb hok hal r (pre ++ [(j, false)]) (j :: Pd) ea ((d, v) :: E) H ⟨h.size, h.closed, fun i hi => ?_, by rw [hord]; simp, fun i hi => ?_, ham, fun i hi => ?_, h.rels, fun b hb => ?_, h.defers, h.tmps, fun t x ht hpd hea => ?_⟩
    · rw [h.part i hi]
      simp only [List.map_cons, List.mem_cons]
      refine and_congr_left fun _ => ?_
      constructor
      · rintro (h | h | h)
        · exact .inl (.inr h)
        · exact .inl (.inl h)
        · exact .inr h
      · rintro ((h | h) | h)
        · exact .inr (.inl h)
        · exact .inl h
        · exact .inr (.inr h)
    · rcases List.mem_cons.1 hi with rfl | hi
      · simp
      · exact List.mem_append_left _ (h.pdp i hi)
    · rcases List.mem_cons.1 hi with rfl | hi
      · exact ⟨o, d, v, ho, hd, hN, look_here, by rw [rst_skip hself]; exact hop⟩
      · obtain ⟨oi, di, vi, h1, h2, h3, h4, h5⟩ := h.pend i hi
        obtain ⟨h6, h7⟩ := hp i hi oi h1
        refine ⟨oi, di, vi, h1, h2, h3, ?_, by rw [rst_skip h6]; exact h5⟩
        rw [look_skip (fun e => h7 (by rw [h2, e]))]; exact h4
    · obtain ⟨h1, h2⟩ := h.eal b hb
      rcases List.mem_cons.1 h1 with h1 | h1
      · cases h1
      · exact ⟨h1, h2⟩
    · have hne : d ≠ t := fun e => hpd j (List.mem_cons_self ..) o ho (by rw [hd, e])
      rw [look_skip hne] at ht
      exact h.act t x ht (fun i hi => hpd i (List.mem_cons_of_mem _ hi)) hea

theorem NI.reads {listed : Array Bool} {A : Act} {W : World} {R : Nat → Prop} {pre ms : List (Nat × Bool)} {Pd : List Nat} {ea : Option Nat} {E : Env} {H : List HE} (hok : ordPairsA ops al.i (ancs ops.toList []) ord = true) (hal : al.ok P Γ.N ops) (h : NI P Γ ops al Hs K ord listed A W pre ms Pd ea E H R)
    {i : Nat} {b : Bool} {o : Oper} (ho : ops[i]? = some o) (hdeps : ∀ e ∈ o.after, Region.binds .any e = true → listed.getD e.on false = true) (hi : (i, b) ∈ pre ∧ i ∈ Pd ∧ b = false ∨ ∃ r, ms = (i, b) :: r ∧ i ≠ al.i) : RelA Γ.N R W (rst E (o.looksAt ops)) A := by
  refine ⟨h.defers, h.tmps, fun t v ht => ?_⟩
  obtain ⟨htl, ht⟩ := look_rst ht
  obtain ⟨oa, hoa, hda, -⟩ := hal
  have hnal : ea ≠ none → t ≠ al.d := fun hea e => by
    obtain ⟨b', hb'⟩ := Option.ne_none_iff_exists'.1 hea
    have hmem := (h.eal b' hb').1
    have key : ordPairA ops al.i (ancs ops.toList []) i b al.i true = true → False := fun hp => by
      obtain ⟨d', h1, h2, -⟩ := (pairOkA hp ho hoa).flt (.inr rfl)
      rw [hda] at h1; cases h1
      exact h2 (e ▸ htl)
    rcases hi with ⟨hip, -, -⟩ | ⟨r, hms, hne⟩
    · exact key ((ordPairsA_app (pre := pre) (r := ms) (by rw [← h.ord]; exact hok)).2 _ hip _ hmem)
    · rw [hms] at hmem
      rcases List.mem_cons.1 hmem with h9 | h9
      · cases h9; exact hne rfl
      · exact key ((ordPairsA_app (pre := pre ++ [(i, b)]) (r := r) (by have := h.ord; rw [List.append_assoc, List.singleton_append, ← hms, ← this]; exact hok)).2 (i, b) (by simp) _ h9)
  refine h.act t v ht (fun k hk ok hok' hdk => ?_) hnal
  have hkp := h.pdp k hk
  have hkn : ea ≠ none → k ≠ al.i := fun hea e => by
    obtain ⟨b', hb'⟩ := Option.ne_none_iff_exists'.1 hea
    have hmem := (h.eal b' hb').1
    exact (pairOkA ((ordPairsA_app (pre := pre) (r := ms) (by rw [← h.ord]; exact hok)).2 _ hkp _ hmem) hok' hoa).ne e
  have hkf : listed.getD k false = false := (h.part k (Array.getElem?_eq_some_iff.1 hok').1).2 ⟨.inl hk, hkn⟩
  have direct : ordPairA ops al.i (ancs ops.toList []) k false i b = true → False := fun hp => by
    obtain ⟨e, he, hb, hon⟩ := (pairOkA hp hok' ho).reads t hdk htl
    have := hdeps e he hb
    rw [hon, hkf] at this; cases this
  rcases hi with ⟨hip, hiP, rfl⟩ | ⟨r, hms, -⟩
  · -- both ahead
    obtain ⟨p1, p2, hp12⟩ := List.append_of_mem hkp
    have hord := h.ord
    rw [hp12, List.append_assoc] at hord
    rw [hp12] at hip
    rcases List.mem_append.1 hip with hip | hip
    · -- i ahead of k
      have hq := ordPairsA_app (pre := p1) (by rw [← hord]; exact hok)
      have := pairOkA (hq.2 _ hip (k, false) (List.mem_cons_self ..)) ho hok'
      obtain ⟨d', h1, h2, -⟩ := this.flt (.inl rfl)
      rw [hdk] at h1; cases h1
      exact h2 htl
    · rcases List.mem_cons.1 hip with he | hip
      · cases he
        -- itself
        have hq := (ordPairsA_app (pre := p1) (by rw [← hord]; exact hok)).1
        rw [List.cons_append, ordPairsA] at hq
        simp only [Bool.and_eq_true] at hq
        obtain rfl : o = ok := by rw [ho] at hok'; exact Option.some.inj hok'
        have := hq.1.1
        rw [ho] at this
        simp only [hdk, Bool.false_or] at this
        simp at this
        exact this htl
      · rw [show p1 ++ ((k, false) :: p2 ++ ms) = (p1 ++ [(k, false)]) ++ (p2 ++ ms) by simp] at hord
        have hq := ordPairsA_app (pre := p1 ++ [(k, false)]) (by rw [← hord]; exact hok)
        exact direct (hq.2 (k, false) (by simp) (i, false) (List.mem_append_left _ hip))
  · have hq := ordPairsA_app (pre := pre) (r := ms) (by rw [← h.ord]; exact hok)
    exact direct (hq.2 _ hkp (i, b) (by rw [hms]; exact List.mem_cons_self ..))

/-! One operation. -/
theorem AN.op {i d : Nat} {r : List (Nat × Bool)} {E : Env} {H : List HE} {o : Oper} {v : AV} (ho : ops[i]? = some o) (h : OpW P N o (rst E (o.looksAt ops)) Hs (Is v)) (hw : wantedIs ops (rst E (o.looksAt ops)) o = some true) (hd : o.dst = some d) (hN : Nat.ble (d + 1) N = true) (k : AN P N ops al Hs K r ((d, v) :: E) H) :
    AN P N ops al Hs K ((i, false) :: r) E H := ⟨o, d, v, ho, hd, Nat.le_of_ble_eq_true hN, .run hw h, k⟩
theorem AN.opG {i d : Nat} {r : List (Nat × Bool)} {E : Env} {H : List HE} {o : Oper} {c : Bool} {v : AV} (ho : ops[i]? = some o) (hw : guardIs ops (rst E (o.looksAt ops)) o = some c) (hd : o.dst = some d) (hN : Nat.ble (d + 1) N = true) (h : c = true → OpW P N o (rst E (o.looksAt ops)) Hs (Is v)) (k : AN P N ops al Hs K r ((d, .opt c v) :: E) H) :
    AN P N ops al Hs K ((i, false) :: r) E H := ⟨o, d, _, ho, hd, Nat.le_of_ble_eq_true hN, .opt hw h, k⟩
theorem AN.no {i d : Nat} {r : List (Nat × Bool)} {E : Env} {H : List HE} {o : Oper} (ho : ops[i]? = some o) (hw : wantedIs ops (rst E (o.looksAt ops)) o = some false) (hd : o.dst = some d) (hN : Nat.ble (d + 1) N = true) (k : AN P N ops al Hs K r ((d, .val undef) :: E) H) :
    AN P N ops al Hs K ((i, false) :: r) E H := ⟨o, d, _, ho, hd, Nat.le_of_ble_eq_true hN, .no hw, k⟩
theorem AN.main {i : Nat} {r : List (Nat × Bool)} {E : Env} {H : List HE} (o : Oper) (ho : ops[i]? = some o) (hne : Nat.beq i al.i = false) (h : ∀ w0 R0, AO ⟨w0, footOf H, R0, N⟩ P ops (QS ⟨w0, footOf H, R0, N⟩ o.dst (fun v H' => AN P N ops al Hs K r (putE o.dst v E) H')) [o] (rst E (o.looksAt ops)) H) :
    AN P N ops al Hs K ((i, true) :: r) E H := by rw [AN, if_neg (Nat.ne_of_beq_eq_false hne)]; exact ⟨o, ho, h⟩
theorem AN.box {i : Nat} {r : List (Nat × Bool)} {E : Env} {H : List HE} (he : i = al.i) (k : ∀ b, AN P N ops al Hs K r ((al.d, .val (.pointer (some ⟨b, 0, none⟩))) :: E) (al.he b :: H)) : AN P N ops al Hs K ((i, true) :: r) E H := by rw [AN, if_pos he]; exact k
theorem AN.nil {E : Env} {H : List HE} (h : K E H) : AN P N ops al Hs K [] E H := h
end
end Go.Proofs.Ytjmkoelmiehdjaa.A

namespace Go.Proofs.Ytjmkoelmiehdjaa.A
open Go.RowKit L
set_option linter.unusedVariables false
set_option linter.unusedSimpArgs false
section
variable {Γ : Cx} {P : Program} {Q : Exit → Act → World → Prop} {E : Env} {H : List HE} {N : Nat} {o : Oper} {ops : Array Oper} {rest : List Oper}
end
end Go.Proofs.Ytjmkoelmiehdjaa.A

namespace Go.Proofs.Ytjmkoelmiehdjaa.A
open Go.RowKit L
open Go.Maps (Keyed)
set_option linter.unusedVariables false
set_option linter.unusedSimpArgs false

abbrev Ents := List (Lit × Lit)
def dents (M : Ents) : List (Lit × DataW Unit) := M.map fun p => (p.1, DataW.lit p.2)
def OwnM (P : Program) (k e : TypeId) (b : Nat) (M : Ents) (W : World) : Prop := ∃ n l, W.ownsMap P k (plainElem (H := Unit) P e) b n (.map l) ∧ l.Perm (dents M)
def mapHE (P : Program) (k e : TypeId) (b : Nat) (M : Ents) : HE := .prd (fun c => c = b) (OwnM P k e b M)

def mHas (M : Ents) (k : Lit) : Bool := M.any fun p => p.1.sameKey k
def mGet (M : Ents) (k z : Lit) : Lit := match M.find? (fun p => p.1.sameKey k) with | some p => p.2 | none => z
def mDel (M : Ents) (k : Lit) : Ents := M.filter fun p => !p.1.sameKey k
def mPut (M : Ents) (k v : Lit) : Ents := (k, v) :: mDel M k

theorem OwnM.same {P : Program} {k e : TypeId} {b : Nat} {M : Ents} {W W' : World} (h : OwnM P k e b M W) (hb : W'.heap[b]? = W.heap[b]?) : OwnM P k e b M W' := by
  obtain ⟨n, l, ⟨es, clock, h1, h2⟩, h3⟩ := h
  exact ⟨n, l, ⟨es, clock, hb.trans h1, h2⟩, h3⟩
theorem mapHE_ok {P : Program} {k e : TypeId} {b : Nat} {M : Ents} {R : Nat → Prop} {W : World} (h : OwnM P k e b M W) : (mapHE P k e b M).ok R W := by
  refine ⟨h, fun W' _ hf => h.same (hf b rfl), fun c hc => ?_⟩
  subst hc
  obtain ⟨n, l, h1, _⟩ := h
  exact h1.lt

section
variable {P : Program} {k e : TypeId} {b : Nat} {M : Ents} {W : World}

theorem OwnM.size (h : OwnM P k e b M W) : ∃ l, W.ownsMap P k (plainElem (H := Unit) P e) b M.length (.map l) ∧ l.Perm (dents M) := by
  obtain ⟨n, l, ⟨es, clock, h1, h2, h3, h4⟩, h5⟩ := h
  have e1 : es.size = M.length := by
    have h6 := congrArg Maps.size h4
    simp [Maps.size, length_sorted] at h6
    rw [← h6, h5.length_eq]; simp [dents]
  exact ⟨l, ⟨es, clock, h1, h2, by omega, h4⟩, h5⟩
theorem OwnM.apart (h : OwnM P k e b M W) (K : Keyed P k) : (dents M).Pairwise (fun p q => p.1 ≠ q.1) := by
  obtain ⟨n, l, h1, h2⟩ := h
  obtain ⟨es, he, hp⟩ := h1.tidy K
  cases he
  exact (h2.pairwise_iff (fun {_ _} hne => Ne.symm hne)).1 hp
theorem dents_get {l : List (Lit × DataW Unit)} (hp : l.Perm (dents M)) (hap : (dents M).Pairwise (fun p q => p.1 ≠ q.1)) {kl z : Lit} (hk : WideAt.IsKeyLit kl) : (DataW.map l).atKey kl (.lit z) = .lit (mGet M kl z) := by
  have hal : l.Pairwise (fun p q => p.1 ≠ q.1) := (hp.symm.pairwise_iff (fun {_ _} hne => Ne.symm hne)).1 hap
  unfold mGet
  cases hf : M.find? (fun p => p.1.sameKey kl) with
  | some p =>
    have h1 := List.mem_of_find?_eq_some hf
    have h2 := List.find?_some hf
    have h3 : p.1 = kl := (WideAt.sameKey_iff hk).1 h2
    have h4 : (kl, DataW.lit p.2) ∈ l := hp.mem_iff.2 (List.mem_map.2 ⟨p, h1, by rw [h3]⟩)
    exact WideAt.atKey_mem (.lit z) hk hal h4
  | none =>
    have h0 := List.find?_eq_none.1 hf
    have h1 : l.find? (fun p => p.1.sameKey kl) = none := List.find?_eq_none.2 fun p hpl => by
      obtain ⟨q, hq, rfl⟩ := List.mem_map.1 (hp.mem_iff.1 hpl)
      exact h0 q hq
    simp only [DataW.atKey, h1]
theorem dents_del {l : List (Lit × DataW Unit)} (hp : l.Perm (dents M)) (kl : Lit) : (l.filter fun p => !p.1.sameKey kl).Perm (dents (mDel M kl)) := by
  have := hp.filter (fun p => !p.1.sameKey kl)
  refine this.trans (List.Perm.of_eq ?_)
  simp [dents, mDel, List.filter_map, Function.comp_def]
theorem insert_permD {x : Lit × DataW Unit} : ∀ l : List (Lit × DataW Unit), (DataW.insert x l).Perm (x :: l)
  | [] => .refl _
  | y :: r => by
    unfold DataW.insert
    split
    · exact .refl _
    · exact ((insert_permD r).cons y).trans (.swap ..)

theorem OwnM.made (W : World) (P : Program) (k e : TypeId) : OwnM P k e W.heap.size [] (W.alloc (.map #[] 0)) := ⟨0, [], World.ownsMap_made W P k _, .refl _⟩

theorem plainInv {v : Value} {d : Lit} {ps : List MemPlace} (h : plainElem (H := Unit) P e v = some (.lit d, ps)) : (∃ c, d = .bool c ∧ v = .bool c) ∨ (∃ q c, d = .int q c ∧ v = .int q c ∧ P.underlying e = some (.int q)) ∨ ∃ s, d = .string s := by
  unfold plainElem at h
  split at h
  · cases h; exact .inl ⟨_, rfl, rfl⟩
  · rename_i he
    split at h
    · rename_i hc
      obtain ⟨rfl, _⟩ := hc
      cases h; exact .inr (.inl ⟨_, _, rfl, rfl, he⟩)
    · cases h
  · split at h
    · cases h; exact .inr (.inr ⟨_, rfl⟩)
    · cases h
  · cases h
end

/-- What a key reads as, whatever the world. -/
def KeyA (P : Program) (k : TypeId) (x : AV) (kl : Lit) : Prop := ∀ R W v, RelV R W x v → keyOf P k v = some kl
theorem KeyA.int {P : Program} {k : TypeId} {q : IntKind} (hk : P.underlying k = some (.int q)) {a : Int} (hw : (Lit.int q a).wf = true) : KeyA P k (.val (.int q a)) (.int q a) := fun R W v h => by
  rw [h.val_inv]; exact Maps.keyOf_int_mk hk hw
class KeyT (P : Program) (k : Nat) : Prop where
  ax : Keyed P k
class ZeroT (P : Program) (e : Nat) (z : outParam Value) : Prop where
  ax : ∀ W, (zeroValue e).run P W = .ok z W
def mBool : Lit → Bool
  | .bool c => c
  | _ => false
def mInt : Lit → Int
  | .int _ c => c
  | _ => 0
theorem wfI64 {a : Int} (h : -9223372036854775808 ≤ a ∧ a ≤ 9223372036854775807) : (Lit.int .i64 a).wf = true := by
  simpa [Lit.wf, IntKind.min, IntKind.max, IntKind.signed, IntKind.bits] using h
def key2 (a b : Int) : Lit := .string (keyBytes [.int .i64 a, .int .i64 b])

section
variable {Γ : Cx} {P : Program} {Q : Exit → Act → World → Prop} {E : Env} {H : List HE} {N : Nat} {o : Oper} {ops : Array Oper} {rest : List Oper} {k e : TypeId}

def NewMap (P : Program) (k e : TypeId) : AV → List HE → Prop := fun v Hn => ∃ b, v = .val (.map (some b)) ∧ Hn = [mapHE P k e b []]
theorem O.makeMap {t : TypeId} [hd : TyD P t (.map k e)] (ho : o.op = .makeMap t none) : OpW P N o E H (NewMap P k e) := fun R a W h1 h2 h3 ha => by
  unfold Oper.wp
  have hr : (execOp a.eval o).run P W = .ok (.value (.map (some W.heap.size))) (W.alloc (.map #[] 0)) := by
    simp [execOp, ho, run_makeMap, Result.andThen]
  rw [hr]
  have hs : ∀ b, R b → (W.alloc (.map #[] 0)).heap[b]? = W.heap[b]? := fun b hb => Below.heap_alloc W _ b (h1 b hb)
  refine ⟨_, _, _, R, rfl, ⟨W.heap.size, rfl, rfl⟩, Mods.alloc (Mods.refl _ _) _, fun _ h => h, fun _ h => .inl h, .val _, ?_, by simp⟩
  intro e' he
  obtain rfl : e' = _ := by simpa using he
  refine ⟨mapHE_ok (OwnM.made W P k e), fun b hb => ?_⟩
  cases hb
  exact ⟨Nat.le_refl _, fun hh => by have := h1 _ hh; omega⟩

/-- m[k], elements bool. -/
theorem O.lookB {t : TypeId} {m x : Operand} {b : Nat} {M : Ents} {kv : AV} {kl : Lit} [hd : TyD P t (.map k e)] [he : TyD P e .bool] (ho : o.op = .lookup t m x false) (hm : ev E m = some (.val (.map (some b)))) (hx : ev E x = some kv) [K : KeyT P k] [hz : ZeroT P e (.bool false)] (hM : mapHE P k e b M ∈ H) (hk : KeyA P k kv kl) :
    OpW P N o E H (Is (.val (.bool (mBool (mGet M kl (.bool false)))))) := .of_run fun R a W h1 h2 ha => by
  have hown := (h2 _ hM).1
  obtain ⟨l, hw, hp⟩ := hown.size
  have hkey := hk R W _ (ha.ev hx)
  obtain ⟨v, ps, hrun, hv⟩ := hw.lookup K.ax hd.ax (hz.ax W) (plainElem_bool he.ax false) hkey
  rw [dents_get hp (hown.apart K.ax) (K.ax.key hkey)] at hv
  refine ⟨v, by simp [execOp, ho, (ha.ev hm).val_inv, hrun, Result.andThen], ?_⟩
  rcases plainInv hv with ⟨c, h3, rfl⟩ | ⟨q, c, h3, rfl, h4⟩ | ⟨s, h3⟩
  · rw [h3]; exact .val _
  · rw [he.ax] at h4; cases h4
  · rw [h3] at hv
    unfold plainElem at hv
    rw [he.ax] at hv
    cases v <;> simp at hv

theorem mods_turned {W W' : World} {b : Nat} (h : W.mapTurned W' b) : Mods (fun c => c = b) W W' := by
  exact Mods.grown (Mods.refl _ _) h.grown (fun k hk _ => by cases hk; rfl)
/-- m[k] = v. -/
theorem AO.mapPut {t : TypeId} {m x v : Operand} {b i : Nat} {M : Ents} {kv : AV} {vv : Value} {kl vl : Lit} {H' : List HE} [hd : TyD P t (.map k e)] [K : KeyT P k] (ho : o.op = .mapUpdate t m x v) (hgd : o.guard = none) (hdst : o.dst = none) (hm : ev E m = some (.val (.map (some b)))) (hx : ev E x = some kv) (hv : ev E v = some (.val vv)) (hi : H[i]? = some (mapHE P k e b M)) (hk : KeyA P k kv kl) (hp : plainElem (H := Unit) P e vv = some (.lit vl, [])) (hn : M.length < maxLen)
    (hH : H.set i (mapHE P k e b (mPut M kl vl)) = H') (next : AO Γ P ops Q rest E H') : AO Γ P ops Q (o :: rest) E H := fun R a W hs ha => by
  have hown := (hs.ok _ (List.mem_of_getElem? hi)).1
  obtain ⟨l, hw, hpm⟩ := hown.size
  have hkey := hk R W _ (ha.ev hx)
  obtain ⟨W', hrun, hw', ht⟩ := hw.store K.ax hd.ax hn hkey hp
  unfold wpList
  rw [if_pos (by unfold Region.wanted; rw [hgd])]
  refine .inl ?_
  unfold Oper.wp
  have hex : (execOp a.eval o).run P W = .ok .skip W' := by simp [execOp, ho, (ha.ev hm).val_inv, (ha.ev hv).val_inv, hrun, Result.andThen]
  rw [hex]
  show wpList P ops Q rest (a.put o.dst undef) _
  rw [hdst]
  have hmods := mods_turned ht
  subst hH
  have hR : ∀ c, R c → W'.heap[c]? = W.heap[c]? := fun c hc => hmods.block c (hs.rlt c hc) fun hh => (hs.own _ (List.mem_of_getElem? hi) c hh).2 hc
  refine next R a W' (hs.setEntry hi hmods (fun c hc => .inl hc) (mapHE_ok ⟨_, _, hw', ?_⟩)) (ha.keep hR)
  exact (insert_permD _).trans ((dents_del hpm kl).cons _)
end
end Go.Proofs.Ytjmkoelmiehdjaa.A

namespace Go.Proofs.Ytjmkoelmiehdjaa.Wi
open Go.RowKit L A Dk W
set_option linter.unusedVariables false
set_option linter.unusedSimpArgs false
attribute [local irreducible] AW AQ AO

instance : KeyT Try.prog 3 := ⟨Go.Maps.int_keyed Try.underlying3⟩
instance : ZeroT Try.prog 4 (.bool false) := ⟨fun W => by kernel_rfl⟩
def entS (S : List Int) : Ents := S.map fun n => (Lit.int .i64 n, Lit.bool true)
theorem entS_len (S : List Int) : (entS S).length = S.length := by simp [entS]
theorem entS_put (S : List Int) (n : Int) : mPut (entS S) (.int .i64 n) (.bool true) = entS (n :: S.filter (· != n)) := by
  simp [mPut, mDel, entS, List.filter_map, Function.comp_def, Lit.sameKey, bne]
  congr 1
theorem entS_get (S : List Int) (n : Int) : mBool (mGet (entS S) (.int .i64 n) (.bool false)) = decide (n ∈ S) := by
  induction S with
  | nil => rfl
  | cons x S ih =>
    simp only [mGet, entS, List.map_cons, List.find?_cons] at ih ⊢
    by_cases e : x = n
    · subst e; simp [Lit.sameKey, mBool]
    · have h1 : (Lit.int IntKind.i64 x).sameKey (.int .i64 n) = false := by simp [Lit.sameKey, e]
      rw [h1]
      simp only [List.mem_cons, show ¬ n = x from fun h => e h.symm, false_or]
      exact ih
theorem WInv.sub {w : Win} {top : Int} {S T : List Int} (h : WInv w top S) (hT : ∀ n ∈ T, n ∈ S) : WInv w top T := ⟨h.val, h.lt, h.lost, h.tp, fun n hn => h.seen n (hT n hn)⟩
theorem WInv.put {w : Win} {top n : Int} {S : List Int} (h : WInv w top (n :: S)) : WInv w top (n :: S.filter (· != n)) := h.sub fun m hm => by
  rcases List.mem_cons.1 hm with rfl | hm
  · exact List.mem_cons_self ..
  · exact List.mem_cons_of_mem _ ((List.mem_filter.1 hm).1)
theorem few_fn (l : List Int) : Sp Try.prog 14 [roI l] [] (Is (.val (.bool (decide ((l.length : Int) ≤ 300))))) := by
  refine Sp.enter Try.func14 rfl _ Try.ntmps14 rfl (fun w0 R0 => ?_)
  refine AW.seq ?_
  refine AW.region ?_
  refine AO.op (O.assign rfl rfl) rfl rfl rfl ?_
  refine AO.nil ?_
  refine AQ.thenN ?_
  refine AW.seq ?_
  refine AW.region ?_
  refine AO.op (O.move rfl rfl) rfl rfl rfl ?_
  refine AO.op (O.lenR rfl rfl) rfl rfl rfl ?_
  refine AO.op (O.leq rfl rfl rfl (by rfl)) rfl rfl rfl ?_
  refine AO.op (O.assign rfl rfl) rfl rfl rfl ?_
  refine AO.nil ?_
  refine AQ.thenN ?_
  refine AW.ret ?_
  refine AQ.ret1 rfl rfl ⟨_, List.nil_sublist _, .nil⟩ (⟨rfl, rfl⟩)
set_option maxHeartbeats 4000000 in
theorem lawOnce_fn (l : List Int) (size : Int) (hl : l.length ≤ maxLen) : Sp Try.prog 4 [roI l, .val (.int .i64 size)] [] (Is (.val (.bool true))) := by
  refine Sp.enter Try.func4 rfl _ Try.ntmps4 rfl (fun w0 R0 => ?_)
  refine AW.seq ?_
  refine AW.region ?_
  refine AO.op (O.assign rfl rfl) rfl rfl rfl ?_
  refine AO.nil ?_
  refine AQ.thenN ?_
  refine AW.seq ?_
  refine AW.seq ?_
  refine AW.region ?_
  refine AO.op (O.move rfl rfl) rfl rfl rfl ?_
  refine AO.op (O.call rfl Try.func14 rfl rfl rfl (few_fn _)) rfl rfl rfl ?_
  refine AO.op (O.not rfl rfl (by rfl)) rfl rfl rfl ?_
  refine AO.nil ?_
  refine AQ.thenN ?_
  refine AW.split rfl (fun hfew => ?_) (fun hfew => ?_) <;> (try simp only [decide_eq_true_eq, decide_eq_false_iff_not, beq_iff_eq, beq_eq_false_iff_ne, bne_iff_ne, bne_eq_false_iff_eq, Bool.not_eq_true', Bool.not_eq_false', Bool.not_eq_true, Bool.not_eq_false, ne_eq, Int.not_lt, Int.not_le, Bool.and_eq_true, Bool.or_eq_true, Bool.or_eq_false_iff, Bool.and_eq_false_imp, strOf_toList, Decidable.not_not] at hfew)
  · skip
    refine AW.seq ?_
    refine AW.region ?_
    refine AO.op (O.call rfl Try.func13 rfl rfl rfl (awake_fn)) rfl rfl rfl ?_
    refine AO.op (O.assign rfl rfl) rfl rfl rfl ?_
    refine AO.nil ?_
    refine AQ.thenN ?_
    refine AW.ret ?_
    refine AQ.thenR ?_
    refine AQ.ret1 rfl rfl ⟨_, List.nil_sublist _, .nil⟩ (⟨rfl, rfl⟩)
  · skip
    obtain ⟨he, hw0⟩ := winv_new (sz := 1 + size % 64) (by omega) (by omega)
    refine AW.skip ?_
    refine AQ.thenN ?_
    refine AW.seq ?_
    refine AW.region ?_
    refine AO.op (O.move rfl rfl) rfl rfl rfl ?_
    refine AO.op (O.call rfl Try.func9 rfl rfl rfl (mod_fn _ _ (by omega) (by omega))) rfl rfl rfl ?_
    refine AO.op (O.add rfl rfl rfl (by exact wI64 (by omega))) rfl rfl rfl ?_
    refine AO.op (O.call rfl Try.func15 rfl rfl rfl (Wi.new_fn _)) rfl rfl rfl ?_
    refine AO.op (O.move rfl rfl) rfl rfl rfl ?_
    refine AO.op (O.extract rfl rfl rfl) rfl rfl rfl ?_
    refine AO.op (O.extract rfl rfl rfl) rfl rfl rfl ?_
    refine AO.opB (O.alloc rfl (by (dsimp only [List.set, List.append, List.cons_append, List.nil_append, splice, ofConst, AV.cells, List.map, List.map_cons, List.map_nil, List.take, List.drop, Nat.zero_add, Nat.add_zero, Nat.reduceAdd, Nat.reduceMul, Nat.zero_mul, Value.cells, List.toList_toArray, zerosA, List.replicate, List.flatten, List.append_nil]; done)) (by rfl)) rfl rfl rfl ?_
    intro B1
    (refine AO.store (i := 0) rfl rfl rfl rfl rfl rfl (by rfl) (by rfl) (by rfl) (by (dsimp only [List.set, List.append, List.cons_append, List.nil_append, splice, ofConst, AV.cells, List.map, List.map_cons, List.map_nil, List.take, List.drop, Nat.zero_add, Nat.add_zero, Nat.reduceAdd, Nat.reduceMul, Nat.zero_mul, Value.cells, List.toList_toArray, zerosA, List.replicate, List.flatten, List.append_nil]; done)) (by (dsimp only [List.set, List.append, List.cons_append, List.nil_append, splice, ofConst, AV.cells, List.map, List.map_cons, List.map_nil, List.take, List.drop, Nat.zero_add, Nat.add_zero, Nat.reduceAdd, Nat.reduceMul, Nat.zero_mul, Value.cells, List.toList_toArray, zerosA, List.replicate, List.flatten, List.append_nil]; done)) ?_)
    refine AO.op (O.assign rfl rfl) rfl rfl rfl ?_
    refine AO.nil ?_
    refine AQ.thenN ?_
    refine AW.seq ?_
    refine AW.seq ?_
    refine AW.region ?_
    refine AO.op (O.move rfl rfl) rfl rfl rfl ?_
    refine AO.op (O.neq rfl rfl rfl (by exact bne_eq_false_iff_eq.2 (by omega))) rfl rfl rfl ?_
    refine AO.nil ?_
    refine AQ.thenN ?_
    refine AW.split rfl (fun h26 => ?_) (fun h26 => ?_)
    · skip
      cases h26
    · skip
      refine AW.skip ?_
      refine AQ.thenN ?_
      refine AW.seq ?_
      refine AW.region ?_
      refine AO.opN (O.makeMap rfl) rfl rfl rfl ?_
      rintro _ _ ⟨B2, rfl, rfl⟩
      simp only [List.cons_append, List.nil_append]
      refine AO.op (O.assign rfl rfl) rfl rfl rfl ?_
      refine AO.op (O.assign rfl rfl) rfl rfl rfl ?_
      refine AO.nil ?_
      refine AQ.thenN ?_
      refine AW.seq ?_
      refine AW.seq ?_
      refine AW.region ?_
      refine AO.op (O.move rfl rfl) rfl rfl rfl ?_
      refine AO.op (O.lenR rfl rfl) rfl rfl rfl ?_
      refine AO.op (O.move rfl rfl) rfl rfl rfl ?_
      refine AO.nil ?_
      refine AQ.thenN ?_
      refine AW.block ?_
      obtain ⟨w1, hw1⟩ : ∃ w1, w1 = newW (1 + size % 64) := ⟨_, rfl⟩
      rw [← hw1] at hw0
      rw [← hw1]
      refine AW.loopK [(5, _), (7, _), (28, _), (29, _)] (fun nn E H => ∃ (k : Nat) (w : Win) (top : Int) (S : List Int), (k ≤ l.length) ∧ (WInv w top S) ∧ (top ≤ 10 * k - 1) ∧ (S.length ≤ k) ∧ nn = l.length - k ∧ E = [(8, .val (.int .i64 top)), (30, .val (.int .i64 (k : Int)))] ∧ H = [.blk B1 24 4 (winL w), mapHE Try.prog 3 4 B2 (entS S)]) _ (⟨0, w1, -1, [], by omega, hw0, by omega, by simp, rfl, rfl, rfl⟩) (by repeat (first | exact envNil | refine envCons rfl ?_)) (by repeat (first | exact envNil | refine envCons rfl ?_)) (by repeat (first | exact subPnil | refine subPcons 0 rfl ?_ | refine subPcons 1 rfl ?_)) ?_
      rintro nn E H ⟨k, w, top, S, hk, hw, htop, hS, rfl, rfl, rfl⟩
      dsimp only [List.cons_append, List.nil_append]
      have hbd := hw.bd
      have hok := hw.ok
      have hSl : (entS S).length < maxLen := by rw [entS_len]; unfold maxLen; omega
      refine AW.seq ?_
      refine AW.region ?_
      refine AO.op (O.lss rfl rfl rfl (by rfl)) rfl rfl rfl ?_
      refine AO.nil ?_
      refine AQ.thenN ?_
      refine AW.seq ?_
      refine AW.split rfl (fun hlt => ?_) (fun hlt => ?_) <;> (try simp only [decide_eq_true_eq, decide_eq_false_iff_not, beq_iff_eq, beq_eq_false_iff_ne, bne_iff_ne, bne_eq_false_iff_eq, Bool.not_eq_true', Bool.not_eq_false', Bool.not_eq_true, Bool.not_eq_false, ne_eq, Int.not_lt, Int.not_le, Bool.and_eq_true, Bool.or_eq_true, Bool.or_eq_false_iff, Bool.and_eq_false_imp, strOf_toList, Decidable.not_not] at hlt)
      · skip
        obtain ⟨v, hv⟩ : ∃ v, v = l.getD k 0 := ⟨_, rfl⟩
        have hget : (intsA .i64 l)[Int.toNat (k : Int) * 1]? = some (.val (.int .i64 v)) := by rw [hv]; exact roI_at (by omega) (by omega)
        refine AW.skip ?_
        refine AQ.thenN ?_
        refine AW.seq ?_
        refine AW.block ?_
        refine AW.seq ?_
        refine AW.region ?_
        refine AO.op (O.idxR rfl rfl rfl ⟨(by omega), (by omega)⟩) rfl rfl rfl ?_
        refine AO.op (O.loadR rfl rfl (by exact hget)) rfl rfl rfl ?_
        refine AO.op (O.assign rfl rfl) rfl rfl rfl ?_
        refine AO.nil ?_
        refine AQ.thenN ?_
        refine AW.seq ?_
        refine AW.region ?_
        refine AO.op (O.move rfl rfl) rfl rfl rfl ?_
        refine AO.op (O.add rfl rfl rfl (by exact wI64 (by omega))) rfl rfl rfl ?_
        refine AO.op (O.move rfl rfl) rfl rfl rfl ?_
        refine AO.op (O.call rfl Try.func9 rfl rfl rfl (mod_fn _ _ (by omega) (by omega))) rfl rfl rfl ?_
        refine AO.op (O.add rfl rfl rfl (by exact wI64 (by omega))) rfl rfl rfl ?_
        refine AO.op (O.sub rfl rfl rfl (by exact wI64 (by omega))) rfl rfl rfl ?_
        refine AO.op (O.assign rfl rfl) rfl rfl rfl ?_
        refine AO.nil ?_
        refine AQ.thenN ?_
        refine AW.seq ?_
        refine AW.seq ?_
        refine AW.region ?_
        refine AO.op (O.move rfl rfl) rfl rfl rfl ?_
        refine AO.op (O.lss rfl rfl rfl (by rfl)) rfl rfl rfl ?_
        refine AO.op (O.move rfl rfl) rfl rfl rfl ?_
        refine AO.opG rfl rfl rfl (fun hp => O.move rfl rfl) ?_
        refine AO.opG rfl rfl rfl (fun hp => OpW.force 43 rfl (by exact hp) (O.gtr rfl rfl rfl (by exact bFalse (by omega)))) ?_
        refine AO.op (O.pickOr rfl rfl rfl rfl (fun h => by exact congrArg (fun b => !b) h)) rfl rfl rfl ?_
        refine AO.nil ?_
        refine AQ.thenN ?_
        refine AW.split rfl (fun hn => ?_) (fun hn => ?_) <;> (try simp only [decide_eq_true_eq, decide_eq_false_iff_not, beq_iff_eq, beq_eq_false_iff_ne, bne_iff_ne, bne_eq_false_iff_eq, Bool.not_eq_true', Bool.not_eq_false', Bool.not_eq_true, Bool.not_eq_false, ne_eq, Int.not_lt, Int.not_le, Bool.and_eq_true, Bool.or_eq_true, Bool.or_eq_false_iff, Bool.and_eq_false_imp, strOf_toList, Decidable.not_not] at hn)
        · skip
          refine AW.exit ?_
          refine AQ.thenX ?_
          refine AQ.blockX rfl ?_
          refine AQ.thenN ?_
          refine AW.region ?_
          refine AO.op (O.add rfl rfl rfl (by exact wI64 (by omega))) rfl rfl rfl ?_
          refine AO.op (O.move rfl rfl) rfl rfl rfl ?_
          refine AO.nil ?_
          refine AQ.loopKN _ _ _ (by omega) (⟨k + 1, w, top, S, by omega, hw, by omega, by omega, rfl, rfl, rfl⟩) (by repeat (first | exact envNil | refine envCons rfl ?_)) (by repeat (first | exact envNil | refine envCons rfl ?_)) (by repeat (first | exact subPnil | refine subPcons 0 rfl ?_))
        · skip
          refine AW.skip ?_
          refine AQ.thenN ?_
          refine AW.seq ?_
          refine AW.seq ?_
          refine AW.region ?_
          refine AO.op (O.move rfl rfl) rfl rfl rfl ?_
          refine AO.op (O.quo rfl rfl rfl (by omega) (by rfl)) rfl rfl rfl ?_
          refine AO.op (O.call rfl Try.func9 rfl rfl rfl (mod_fn _ _ (by omega) (by omega))) rfl rfl rfl ?_
          refine AO.op (O.eql rfl rfl rfl (by rfl)) rfl rfl rfl ?_
          refine AO.nil ?_
          refine AQ.thenN ?_
          refine AW.split rfl (fun h49 => ?_) (fun h49 => ?_) <;> (try simp only [decide_eq_true_eq, decide_eq_false_iff_not, beq_iff_eq, beq_eq_false_iff_ne, bne_iff_ne, bne_eq_false_iff_eq, Bool.not_eq_true', Bool.not_eq_false', Bool.not_eq_true, Bool.not_eq_false, ne_eq, Int.not_lt, Int.not_le, Bool.and_eq_true, Bool.or_eq_true, Bool.or_eq_false_iff, Bool.and_eq_false_imp, strOf_toList, Decidable.not_not] at h49)
          · skip
            obtain ⟨n, hne⟩ : ∃ n, n = top + 1 + v % 5 := ⟨_, rfl⟩
            have hn0 : top < n ∧ n ≤ 10 * (k + 1 : Nat) - 1 := by omega
            obtain ⟨hre, hwr⟩ := winv_rec hw hn0.1 (by omega)
            have hlok : (lose w).ok := ⟨hok.1, ⟨(by decide : (-9223372036854775808 : Int) ≤ -1), (by decide : (-1 : Int) ≤ 9223372036854775807)⟩, (by decide : (0 : Nat) < 2 ^ 64)⟩
            have hin : i64In n := by unfold i64In; omega
            have hrok := hwr.ok
            rw [hne] at hin
            rw [hne] at hrok
            refine AW.seq ?_
            refine AW.region ?_
            refine AO.op (O.move rfl rfl) rfl rfl rfl ?_
            refine AO.op (O.add rfl rfl rfl (by exact wI64 (by omega))) rfl rfl rfl ?_
            refine AO.op (O.move rfl rfl) rfl rfl rfl ?_
            refine AO.op (O.call rfl Try.func9 rfl rfl rfl (mod_fn _ _ (by omega) (by omega))) rfl rfl rfl ?_
            refine AO.op (O.add rfl rfl rfl (by exact wI64 (by omega))) rfl rfl rfl ?_
            refine AO.op (O.assign rfl rfl) rfl rfl rfl ?_
            refine AO.nil ?_
            refine AQ.thenN ?_
            refine AW.seq ?_
            refine AW.region ?_
            refine AO.op (O.loadK rfl rfl (by repeat (exact List.Mem.head _)) (by exact winL_take _) (by rfl)) rfl rfl rfl ?_
            refine AO.op (O.call rfl Try.func12 rfl rfl rfl (lose_fn _)) rfl rfl rfl ?_
            refine AO.op (O.move rfl rfl) rfl rfl rfl ?_
            refine AO.op (O.call rfl Try.func10 rfl rfl rfl (recover_fn _ hlok _ hin)) rfl rfl rfl ?_
            refine AO.op (O.move rfl rfl) rfl rfl rfl ?_
            refine AO.op (O.extract rfl rfl rfl) rfl rfl rfl ?_
            refine AO.op (O.extract rfl rfl rfl) rfl rfl rfl ?_
            (refine AO.store (i := 0) rfl rfl rfl rfl rfl rfl (by rfl) (by rfl) (by rfl) (by (dsimp only [List.set, List.append, List.cons_append, List.nil_append, splice, ofConst, AV.cells, List.map, List.map_cons, List.map_nil, List.take, List.drop, Nat.zero_add, Nat.add_zero, Nat.reduceAdd, Nat.reduceMul, Nat.zero_mul, Value.cells, List.toList_toArray, zerosA, List.replicate, List.flatten, List.append_nil]; done)) (by (dsimp only [List.set, List.append, List.cons_append, List.nil_append, splice, ofConst, AV.cells, List.map, List.map_cons, List.map_nil, List.take, List.drop, Nat.zero_add, Nat.add_zero, Nat.reduceAdd, Nat.reduceMul, Nat.zero_mul, Value.cells, List.toList_toArray, zerosA, List.replicate, List.flatten, List.append_nil]; done)) ?_)
            refine AO.op (O.assign rfl rfl) rfl rfl rfl ?_
            refine AO.nil ?_
            refine AQ.thenN ?_
            refine AW.seq ?_
            refine AW.seq ?_
            refine AW.region ?_
            refine AO.op (O.move rfl rfl) rfl rfl rfl ?_
            refine AO.op (O.neq rfl rfl rfl (by rfl)) rfl rfl rfl ?_
            refine AO.op (O.move rfl rfl) rfl rfl rfl ?_
            refine AO.opG rfl rfl rfl (fun hp => O.loadK rfl rfl (by repeat (exact List.Mem.head _)) (by exact winL_take _) (by rfl)) ?_
            refine AO.opG rfl rfl rfl (fun hp => O.move rfl rfl) ?_
            refine AO.opG rfl rfl rfl (fun hp => OpW.force 65 rfl (by exact hp) (OpW.force 66 rfl (by exact hp) (O.call rfl Try.func16 rfl rfl rfl (check_fn _ hrok _ hin)))) ?_
            refine AO.opG rfl rfl rfl (fun hp => OpW.force 67 rfl (by exact hp) (O.neq rfl rfl rfl (by rfl))) ?_
            refine AO.op (O.pickOr rfl rfl rfl rfl (fun h => by exact congrArg (fun b => !b) h)) rfl rfl rfl ?_
            refine AO.nil ?_
            refine AQ.thenN ?_
            rw [← hne]
            have hck : check (rec_ (lose w) n) n = 33 := check_old hwr (by omega) (by omega) (List.mem_cons_self ..)
            refine AW.split rfl (fun h69 => ?_) (fun h69 => ?_)
            · skip
              rw [hre, hck] at h69; simp at h69
            · skip
              refine AW.skip ?_
              refine AQ.thenN ?_
              refine AW.seq ?_
              refine AW.region ?_
              refine AO.op (O.move rfl rfl) rfl rfl rfl ?_
              refine AO.op (O.move rfl rfl) rfl rfl rfl ?_
              refine AO.op (O.move rfl rfl) rfl rfl rfl ?_
              (refine AO.mapPut (i := 1) rfl rfl rfl rfl rfl rfl rfl (by exact KeyA.int TyD.ax (by exact wfI64 ⟨by omega, by omega⟩)) (by exact plainElem_bool TyD.ax _) (by assumption) (by (dsimp only [List.set, List.append, List.cons_append, List.nil_append, splice, ofConst, AV.cells, List.map, List.map_cons, List.map_nil, List.take, List.drop, Nat.zero_add, Nat.add_zero, Nat.reduceAdd, Nat.reduceMul, Nat.zero_mul, Value.cells, List.toList_toArray, zerosA, List.replicate, List.flatten, List.append_nil]; done)) ?_)
              refine AO.op (O.assign rfl rfl) rfl rfl rfl ?_
              refine AO.nil ?_
              refine AQ.thenN ?_
              refine AW.exit ?_
              refine AQ.thenX ?_
              refine AQ.blockX rfl ?_
              refine AQ.thenN ?_
              refine AW.region ?_
              refine AO.op (O.add rfl rfl rfl (by exact wI64 (by omega))) rfl rfl rfl ?_
              refine AO.op (O.move rfl rfl) rfl rfl rfl ?_
              refine AO.nil ?_
              rw [entS_put]
              refine AQ.loopKN _ _ _ (by omega) (⟨k + 1, rec_ (lose w) n, n, n :: S.filter (· != n), by omega, hwr.put, by omega, by have := List.length_filter_le (· != n) S; rw [List.length_cons]; omega, rfl, rfl, rfl⟩) (by repeat (first | exact envNil | refine envCons rfl ?_)) (by repeat (first | exact envNil | refine envCons rfl ?_)) (by repeat (first | exact subPnil | refine subPcons 0 rfl ?_))
          · skip
            obtain ⟨n, hne⟩ : ∃ n, n = top + 1 + v % 40 - 30 := ⟨_, rfl⟩
            have hn0 : 0 ≤ n ∧ n ≤ top + 10 := by omega
            have hin : i64In n := by unfold i64In; omega
            rw [hne] at hin
            refine AW.skip ?_
            refine AQ.thenN ?_
            refine AW.seq ?_
            refine AW.region ?_
            refine AO.op (O.loadK rfl rfl (by repeat (exact List.Mem.head _)) (by exact winL_take _) (by rfl)) rfl rfl rfl ?_
            refine AO.op (O.move rfl rfl) rfl rfl rfl ?_
            refine AO.op (O.call rfl Try.func17 rfl rfl rfl (accept_fn _ hok _ hin)) rfl rfl rfl ?_
            refine AO.op (O.move rfl rfl) rfl rfl rfl ?_
            refine AO.op (O.extract rfl rfl rfl) rfl rfl rfl ?_
            refine AO.op (O.extract rfl rfl rfl) rfl rfl rfl ?_
            refine AO.opB (O.alloc rfl (by (dsimp only [List.set, List.append, List.cons_append, List.nil_append, splice, ofConst, AV.cells, List.map, List.map_cons, List.map_nil, List.take, List.drop, Nat.zero_add, Nat.add_zero, Nat.reduceAdd, Nat.reduceMul, Nat.zero_mul, Value.cells, List.toList_toArray, zerosA, List.replicate, List.flatten, List.append_nil]; done)) (by rfl)) rfl rfl rfl ?_
            intro B3
            (refine AO.store (i := 0) rfl rfl rfl rfl rfl rfl (by rfl) (by rfl) (by rfl) (by (dsimp only [List.set, List.append, List.cons_append, List.nil_append, splice, ofConst, AV.cells, List.map, List.map_cons, List.map_nil, List.take, List.drop, Nat.zero_add, Nat.add_zero, Nat.reduceAdd, Nat.reduceMul, Nat.zero_mul, Value.cells, List.toList_toArray, zerosA, List.replicate, List.flatten, List.append_nil]; done)) (by (dsimp only [List.set, List.append, List.cons_append, List.nil_append, splice, ofConst, AV.cells, List.map, List.map_cons, List.map_nil, List.take, List.drop, Nat.zero_add, Nat.add_zero, Nat.reduceAdd, Nat.reduceMul, Nat.zero_mul, Value.cells, List.toList_toArray, zerosA, List.replicate, List.flatten, List.append_nil]; done)) ?_)
            refine AO.op (O.assign rfl rfl) rfl rfl rfl ?_
            refine AO.nil ?_
            refine AQ.thenN ?_
            refine AW.seq ?_
            refine AW.seq ?_
            refine AW.region ?_
            refine AO.op (O.move rfl rfl) rfl rfl rfl ?_
            refine AO.op (O.move rfl rfl) rfl rfl rfl ?_
            refine AO.op (O.gtr rfl rfl rfl (by rfl)) rfl rfl rfl ?_
            refine AO.op (O.move rfl rfl) rfl rfl rfl ?_
            refine AO.opG rfl rfl rfl (fun hp => O.move rfl rfl) ?_
            refine AO.opG rfl rfl rfl (fun hp => OpW.force 83 rfl (by exact hp) (O.neq rfl rfl rfl (by rfl))) ?_
            refine AO.op (O.pickAnd rfl rfl rfl rfl (fun h => by exact h)) rfl rfl rfl ?_
            refine AO.op (O.move rfl rfl) rfl rfl rfl ?_
            refine AO.opG rfl rfl rfl (fun hp => O.move rfl rfl) ?_
            refine AO.opG rfl rfl rfl (fun hp => O.move rfl rfl) ?_
            refine AO.opG rfl rfl rfl (fun hp => OpW.force 87 rfl (by exact hp) (OpW.force 88 rfl (by exact hp) (O.lookB rfl rfl rfl (by repeat (first | exact List.Mem.head _ | refine List.Mem.tail _ ?_)) (by exact KeyA.int TyD.ax (by exact wfI64 ⟨by omega, by omega⟩))))) ?_
            refine AO.opG rfl rfl rfl (fun hp => OpW.force 89 rfl (by exact hp) (O.move rfl rfl)) ?_
            refine AO.opG rfl rfl rfl (fun hp => O.move rfl rfl) ?_
            refine AO.opG rfl rfl rfl (fun hp => OpW.force 91 rfl (by exact hp) (O.eql rfl rfl rfl (by rfl))) ?_
            refine AO.opG rfl rfl rfl (fun hp => OpW.force 90 rfl (by exact hp) (O.pickAnd rfl rfl rfl rfl (fun h => by simp_all))) ?_
            refine AO.op (O.pickOr rfl rfl rfl rfl (fun h => by exact congrArg (fun b => !b) h)) rfl rfl rfl ?_
            refine AO.nil ?_
            refine AQ.thenN ?_
            rw [← hne]
            rw [entS_get]
            refine AW.split rfl (fun h94 => ?_) (fun h94 => ?_)
            · skip
              exfalso
              simp only [Bool.or_eq_true, Bool.and_eq_true, decide_eq_true_eq, bne_iff_ne, beq_iff_eq] at h94
              rcases h94 with ⟨h1, h2⟩ | ⟨h1, h2⟩
              · exact h2 (check_new hw h1 (by omega))
              · have := check_old hw hn0.1 (by omega) h1
                omega
            · skip
              refine AW.skip ?_
              refine AQ.thenN ?_
              refine AW.seq ?_
              refine AW.seq ?_
              refine AW.region ?_
              refine AO.op (O.move rfl rfl) rfl rfl rfl ?_
              refine AO.op (O.eql rfl rfl rfl (by rfl)) rfl rfl rfl ?_
              refine AO.nil ?_
              refine AQ.thenN ?_
              refine AW.split rfl (fun h96 => ?_) (fun h96 => ?_)
              · skip
                have hc0 : check w n = 0 := by simpa using h96
                have hwa := winv_acc hw hn0.1 (by omega) hc0
                have hvok := hwa.ok
                obtain ⟨mx, hmx⟩ : ∃ mx : Int, mx = if top < n then n else top := ⟨_, rfl⟩
                have hmx2 : mx = max top n := by rw [hmx]; split <;> omega
                rw [← hmx2] at hwa
                refine AW.region ?_
                refine AO.op (O.move rfl rfl) rfl rfl rfl ?_
                refine AO.op (O.move rfl rfl) rfl rfl rfl ?_
                refine AO.op (O.loadK rfl rfl (by repeat (exact List.Mem.head _)) (by exact winL_take _) (by rfl)) rfl rfl rfl ?_
                refine AO.op (O.move rfl rfl) rfl rfl rfl ?_
                refine AO.op (O.move rfl rfl) rfl rfl rfl ?_
                refine AO.op (O.maxI rfl rfl rfl rfl) rfl rfl rfl ?_
                (refine AO.store (i := 1) rfl rfl rfl rfl rfl rfl (by rfl) (by rfl) (by rfl) (by (dsimp only [List.set, List.append, List.cons_append, List.nil_append, splice, ofConst, AV.cells, List.map, List.map_cons, List.map_nil, List.take, List.drop, Nat.zero_add, Nat.add_zero, Nat.reduceAdd, Nat.reduceMul, Nat.zero_mul, Value.cells, List.toList_toArray, zerosA, List.replicate, List.flatten, List.append_nil]; done)) (by (dsimp only [List.set, List.append, List.cons_append, List.nil_append, splice, ofConst, AV.cells, List.map, List.map_cons, List.map_nil, List.take, List.drop, Nat.zero_add, Nat.add_zero, Nat.reduceAdd, Nat.reduceMul, Nat.zero_mul, Value.cells, List.toList_toArray, zerosA, List.replicate, List.flatten, List.append_nil]; done)) ?_)
                (refine AO.mapPut (i := 2) rfl rfl rfl rfl rfl rfl rfl (by exact KeyA.int TyD.ax (by exact wfI64 ⟨by omega, by omega⟩)) (by exact plainElem_bool TyD.ax _) (by assumption) (by (dsimp only [List.set, List.append, List.cons_append, List.nil_append, splice, ofConst, AV.cells, List.map, List.map_cons, List.map_nil, List.take, List.drop, Nat.zero_add, Nat.add_zero, Nat.reduceAdd, Nat.reduceMul, Nat.zero_mul, Value.cells, List.toList_toArray, zerosA, List.replicate, List.flatten, List.append_nil]; done)) ?_)
                refine AO.op (O.assign rfl rfl) rfl rfl rfl ?_
                refine AO.nil ?_
                refine AQ.thenN ?_
                refine AW.seq ?_
                refine AW.region ?_
                refine AO.op (O.loadK rfl rfl (by repeat (first | exact List.Mem.head _ | refine List.Mem.tail _ ?_)) (by exact winL_take _) (by rfl)) rfl rfl rfl ?_
                refine AO.op (O.call rfl Try.func18 rfl rfl rfl (valid_fn _ hvok)) rfl rfl rfl ?_
                refine AO.op (O.not rfl rfl (by rfl)) rfl rfl rfl ?_
                refine AO.op (O.move rfl rfl) rfl rfl rfl ?_
                refine AO.opG rfl rfl rfl (fun hp => O.fieldAddr rfl rfl) ?_
                refine AO.opG rfl rfl rfl (fun hp => OpW.force 107 rfl (by exact hp) (O.load rfl rfl (by repeat (first | exact List.Mem.head _ | refine List.Mem.tail _ ?_)) (by rfl))) ?_
                refine AO.opG rfl rfl rfl (fun hp => O.move rfl rfl) ?_
                refine AO.opG rfl rfl rfl (fun hp => OpW.force 108 rfl (by exact hp) (OpW.force 109 rfl (by exact hp) (O.neq rfl rfl rfl (by rfl)))) ?_
                refine AO.op (O.pickOr rfl rfl rfl rfl (fun h => by exact congrArg (fun b => !b) h)) rfl rfl rfl ?_
                refine AO.nil ?_
                refine AQ.thenN ?_
                rw [← hmx]
                refine AW.split rfl (fun h111 => ?_) (fun h111 => ?_)
                · skip
                  rw [hwa.val, hwa.tp] at h111; simp at h111
                · skip
                  refine AW.skip ?_
                  refine AQ.blockN ?_
                  refine AQ.thenN ?_
                  refine AW.region ?_
                  refine AO.op (O.add rfl rfl rfl (by exact wI64 (by omega))) rfl rfl rfl ?_
                  refine AO.op (O.move rfl rfl) rfl rfl rfl ?_
                  refine AO.nil ?_
                  rw [entS_put]
                  refine AQ.loopKN _ _ _ (by omega) (⟨k + 1, acc w n, mx, n :: S.filter (· != n), by omega, hwa.put, by omega, by have := List.length_filter_le (· != n) S; rw [List.length_cons]; omega, rfl, rfl, rfl⟩) (by repeat (first | exact envNil | refine envCons rfl ?_)) (by repeat (first | exact envNil | refine envCons rfl ?_)) (by repeat (first | exact subPnil | refine subPcons 1 rfl ?_))
              · skip
                have hvok := hok
                refine AW.skip ?_
                refine AQ.thenN ?_
                refine AW.seq ?_
                refine AW.region ?_
                refine AO.op (O.loadK rfl rfl (by repeat (first | exact List.Mem.head _ | refine List.Mem.tail _ ?_)) (by exact winL_take _) (by rfl)) rfl rfl rfl ?_
                refine AO.op (O.call rfl Try.func18 rfl rfl rfl (valid_fn _ hvok)) rfl rfl rfl ?_
                refine AO.op (O.not rfl rfl (by rfl)) rfl rfl rfl ?_
                refine AO.op (O.move rfl rfl) rfl rfl rfl ?_
                refine AO.opG rfl rfl rfl (fun hp => O.fieldAddr rfl rfl) ?_
                refine AO.opG rfl rfl rfl (fun hp => OpW.force 107 rfl (by exact hp) (O.load rfl rfl (by repeat (first | exact List.Mem.head _ | refine List.Mem.tail _ ?_)) (by rfl))) ?_
                refine AO.opG rfl rfl rfl (fun hp => O.move rfl rfl) ?_
                refine AO.opG rfl rfl rfl (fun hp => OpW.force 108 rfl (by exact hp) (OpW.force 109 rfl (by exact hp) (O.neq rfl rfl rfl (by rfl)))) ?_
                refine AO.op (O.pickOr rfl rfl rfl rfl (fun h => by exact congrArg (fun b => !b) h)) rfl rfl rfl ?_
                refine AO.nil ?_
                refine AQ.thenN ?_
                refine AW.split rfl (fun h111 => ?_) (fun h111 => ?_)
                · skip
                  rw [hw.val, hw.tp] at h111; simp at h111
                · skip
                  refine AW.skip ?_
                  refine AQ.blockN ?_
                  refine AQ.thenN ?_
                  refine AW.region ?_
                  refine AO.op (O.add rfl rfl rfl (by exact wI64 (by omega))) rfl rfl rfl ?_
                  refine AO.op (O.move rfl rfl) rfl rfl rfl ?_
                  refine AO.nil ?_
                  refine AQ.loopKN _ _ _ (by omega) (⟨k + 1, w, top, S, by omega, hw, by omega, by omega, rfl, rfl, rfl⟩) (by repeat (first | exact envNil | refine envCons rfl ?_)) (by repeat (first | exact envNil | refine envCons rfl ?_)) (by repeat (first | exact subPnil | refine subPcons 1 rfl ?_))
      · skip
        refine AW.exit ?_
        refine AQ.thenX ?_
        refine AQ.loopX ?_
        refine AQ.blockX rfl ?_
        refine AQ.thenN ?_
        refine AW.seq ?_
        refine AW.region ?_
        refine AO.op (O.call rfl Try.func13 rfl rfl rfl (awake_fn)) rfl rfl rfl ?_
        refine AO.op (O.assign rfl rfl) rfl rfl rfl ?_
        refine AO.nil ?_
        refine AQ.thenN ?_
        refine AW.ret ?_
        refine AQ.ret1 rfl rfl ⟨_, List.nil_sublist _, .nil⟩ (⟨rfl, rfl⟩)
end Go.Proofs.Ytjmkoelmiehdjaa.Wi

namespace Go.Proofs.Ytjmkoelmiehdjaa.A
open Go.ChangeShapes Go.WideShapes Go.ChangeAt Go.RowKit Go.Deep L
set_option linter.unusedVariables false
set_option linter.unusedSimpArgs false

theorem own : ownKnob Try.prog.godebug = none := by kernel_rfl
theorem kids : Kids Try.prog (· < Try.prog.types.size) := kids_rows (by kernel_rfl) (by kernel_rfl)
theorem full : ∀ t e, t < Try.prog.types.size → Try.prog.underlying t = some (.slice e) → 0 < Try.prog.cellsOf e := slices_full_of Try.prog (by kernel_rfl)

theorem sameAt_ext {W W' : World} (h : Ext W W') (p : MemPlace) (hp : p.block < W.heap.size) : W.sameAt W' p := by
  have hb : W'.heap[p.block]? = W.heap[p.block]? := h.block _ hp (fun hh => hh)
  cases p with
  | cell b off => exact World.cell?_of_block (w := W) (a := ⟨b, off, none⟩) hb
  | map b => exact hb

section
variable {H : Type} {enc : TypeId × Value → H}
theorem trodAll_carry {P : Program} {W W' : World} {base : Nat} {spare : Nat → Bool} {held : Bool} : ∀ {ts : List TypeId} {vs : List Value} {ds : List (DataW H)} {ps : List MemPlace},
    DataW.TrodAll enc P W base spare held ts vs ds ps → (∀ p ∈ ps, W.sameAt W' p) → DataW.TrodAll enc P W' base spare held ts vs ds ps
  | [], [], [], _, h, _ => h
  | _ :: _, _ :: _, _ :: _, _, ⟨p, q, ⟨n, h1⟩, h2, e⟩, hs => ⟨p, q, ⟨n, DataW.trod_carry n _ _ _ h1 (fun x hx => hs x (by rw [e]; exact List.mem_append_left _ hx))⟩, trodAll_carry h2 (fun x hx => hs x (by rw [e]; exact List.mem_append_right _ hx)), e⟩

/-- A law: it returned true, and nothing that was there has turned. -/
theorem lawPost {fn : Func} {s : ChangeSpec} {W W' : World} {args : Array Value} {ds gs : List (DataW H)} {before : List MemPlace} {bt : TypeId}
    (hW : DataW.Whole enc Try.prog fn.params.toList s.vars false W args.toList ds gs before) (hv : s.vars = []) (hfn : s.fn H (ds ++ gs) = { results := [.lit (.bool true)], args := ds }) (hres : fn.resultTypes = #[bt]) (hbt : Try.prog.underlying bt = some .bool)
    (hpar : ∀ t ∈ fn.params.toList, t < Try.prog.types.size) (hE : Ext W W') : s.post enc Try.prog fn false true false false W args (.bool true) W' := by
  have hold : ∀ p ∈ before, (fun b => decide (b < W.heap.size)) p.block = true := fun p hp => by simpa using hW.lt p hp
  have hlt := hW.lt
  have hW' := hW
  obtain ⟨pa, pv, hA, hV, rfl, hz, hn⟩ := hW
  rw [hv] at hV
  obtain ⟨rfl, rfl⟩ := trodVars_none hV
  have hA' : DataW.TrodAll enc Try.prog W' 0 (fun _ => true) true fn.params.toList args.toList ds pa := trodAll_carry hA fun p hp => sameAt_ext hE p (hlt p (List.mem_append_left _ hp))
  have hargs : ∀ sp : Nat → Bool, (∀ p ∈ pa ++ [], sp p.block = true) → DataW.TrodAll enc Try.prog W' 0 sp true fn.params.toList args.toList ds pa := fun sp hsp =>
    DataW.TrodAll.respare kids full hpar hA' fun p hp => hsp p (by simpa using hp)
  have hres' : ∀ (b : Nat) (sp : Nat → Bool) (hd : Bool), DataW.TrodAll enc Try.prog W' b sp hd fn.resultTypes.toList ((Value.bool true).resultList fn.resultTypes.size) [.lit (.bool true)] [] := fun b sp hd => by
    rw [hres]; exact trodAll_cons_mk (shut_bool hbt true) trodAll_mk0
  refine ⟨ds, [], pa ++ [], [], pa, [], hW', by rw [hfn]; exact hres' _ _ _, by rw [hfn]; exact hargs _ hold, by rw [hfn, hv]; rfl, World.keptBut_mono (fun p hp => ⟨hp, ?_⟩) ((hE.toBelow).frame (· ∈ pa ++ [])), fun h => by cases h⟩
  exact Or.inr (by simpa using hp)

/-! ### How arguments read -/

def Old (W : World) : Nat → Prop := fun b => b < W.heap.size

variable {P : Program} {W : World}
/-- A reading of cells of a type as these. -/
theorem rd_int {base : Nat} {spare : Nat → Bool} {held : Bool} {t : TypeId} {k : IntKind} (ht : P.underlying t = some (.int k)) {n : Nat} {cs : List Value} {x : DataW H × List MemPlace} (h : DataW.trod enc P W base spare held n t cs = some x) :
    ∃ z : Int, (Lit.int k z).wf = true ∧ RelL (Old W) W [.val (.int k z)] cs := by
  cases n with
  | zero => simp [DataW.trod] at h
  | succ n =>
    obtain ⟨z, rfl, _, hw⟩ := DataW.trod_int ht h
    exact ⟨z, hw, RelL.cons (.val _) RelL.nil⟩

theorem rd_slice {α : Type} {enc' : α → List AV} {good : α → Prop} {base : Nat} {spare : Nat → Bool} {held : Bool} {t e : TypeId} (ht : P.underlying t = some (.slice e)) (hsz : ∀ a, (enc' a).length = P.cellsOf e) (hpos : 0 < P.cellsOf e)
    (he : ∀ (n : Nat) (cs : List Value) (x : DataW H × List MemPlace), cs.length = P.cellsOf e → DataW.trod enc P W base spare held n e cs = some x → ∃ a, good a ∧ RelL (Old W) W (enc' a) cs)
    {n : Nat} {cs : List Value} {x : DataW H × List MemPlace} (h : DataW.trod enc P W base spare held n t cs = some x) :
    ∃ l : List α, (∀ a ∈ l, good a) ∧ l.length ≤ maxLen ∧ RelL (Old W) W [.ro false l.length (l.flatMap enc')] cs := by
  rcases open_slice ht h with ⟨rfl, -⟩ | ⟨ad, len, cap, m, n', D, Pl, rfl, hb, hl, hm, hmm, hx, hi⟩
  · exact ⟨[], fun _ h => (by cases h), Nat.zero_le _, RelL.cons (.emp _ _ _ (fun h => by cases h) (Nat.zero_le _)) RelL.nil⟩
  · have hlm : len ≤ m := by rw [hmm]; split <;> omega
    have hex : ∀ i : Nat, ∃ a : Option α, i < len → ∃ a', a = some a' ∧ good a' ∧ ∃ cs', W.cells? base (ad.add (i * P.cellsOf e)) (P.cellsOf e) = some cs' ∧ RelL (Old W) W (enc' a') cs' := fun i => by
      by_cases hil : i < len
      · obtain ⟨cs', hc, htr⟩ := hi i (by omega)
        obtain ⟨_, hcl, _⟩ := World.cells?_some hc
        obtain ⟨a, hg, hr⟩ := he _ _ _ hcl htr
        exact ⟨some a, fun _ => ⟨a, rfl, hg, cs', hc, hr⟩⟩
      · exact ⟨none, fun h => absurd h hil⟩
    obtain ⟨f, hf⟩ := Classical.axiomOfChoice hex
    by_cases hlen0 : len = 0
    · subst hlen0
      exact ⟨[], fun _ h => (by cases h), Nat.zero_le _, RelL.cons (.emp _ _ _ (fun h => by cases h) hm) RelL.nil⟩
    · obtain ⟨a0, _, _⟩ := hf 0 (by omega)
      let g : Nat → α := fun i => (f i).getD a0
      have hg : ∀ i, i < len → good (g i) ∧ ∃ cs', W.cells? base (ad.add (i * P.cellsOf e)) (P.cellsOf e) = some cs' ∧ RelL (Old W) W (enc' (g i)) cs' := fun i hi' => by
        obtain ⟨a', ha', h1, h2⟩ := hf i hi'
        have : g i = a' := by simp [g, ha']
        rw [this]; exact ⟨h1, h2⟩
      have hflat : ∀ (len : Nat), (((List.range len).map g).flatMap enc').length = len * P.cellsOf e := by
        intro len
        induction len with
        | zero => simp
        | succ k ih => rw [List.range_succ, List.map_append, List.flatMap_append, List.length_append, ih]; simp [hsz, Nat.add_mul]
      have hflatget : ∀ (len i j : Nat), i < len → j < P.cellsOf e → (((List.range len).map g).flatMap enc')[i * P.cellsOf e + j]? = (enc' (g i))[j]? := by
        intro len
        induction len with
        | zero => intro i j h; omega
        | succ k ih =>
          intro i j h hj
          rw [List.range_succ, List.map_append, List.flatMap_append, List.getElem?_append]
          by_cases hik : i < k
          · have h1 : (i + 1) * P.cellsOf e ≤ k * P.cellsOf e := Nat.mul_le_mul_right _ (by omega)
            rw [Nat.add_mul] at h1
            rw [if_pos (by rw [hflat]; omega)]
            exact ih i j hik hj
          · have : i = k := by omega
            subst this
            rw [if_neg (by rw [hflat]; omega), hflat]
            simp
      have hblk : ad.spot = none ∧ ad.block < W.heap.size := by
        obtain ⟨_, cs', hc, _⟩ := hg 0 (by omega)
        obtain ⟨_, hcl, hat⟩ := World.cells?_some hc
        have h0 := hat 0 hpos
        simp only [Nat.zero_mul] at h0
        have h1 : W.cell? ad ≠ none := by
          intro hn
          rw [show (ad.add 0).add 0 = ad by simp [Addr.add]] at h0
          rw [hn] at h0
          have := (List.getElem?_eq_none_iff.1 h0.symm)
          omega
        refine ⟨?_, ?_⟩
        · cases hsp : ad.spot with
          | none => rfl
          | some _ => exfalso; apply h1; unfold World.cell?; split <;> simp [hsp]
        · cases hc : W.cell? ad with
          | none => exact absurd hc h1
          | some u => exact World.block_lt_of_cell? W ad hc
      obtain ⟨b, off, sp⟩ := ad
      obtain ⟨rfl, hblt⟩ := hblk
      have hcell : ∀ i j, i < len → j < P.cellsOf e → ∃ u, W.cell? ⟨b, off + (i * P.cellsOf e + j), none⟩ = some u ∧ ∃ x, (enc' (g i))[j]? = some x ∧ RelV (Old W) W x u := fun i j hi' hj => by
        obtain ⟨_, cs', hc, hr⟩ := hg i hi'
        obtain ⟨_, hcl, hat⟩ := World.cells?_some hc
        have h0 := hat j hj
        rw [addr_add, addr_add] at h0
        have hjl : j < cs'.length := by omega
        have hjx : j < (enc' (g i)).length := by rw [hsz]; exact hj
        refine ⟨cs'[j], by rw [← Nat.add_assoc, h0]; simp [hjl], (enc' (g i))[j], by simp [hjx], ?_⟩
        have := hr.2 j hjx
        simpa [hjl] using this
      refine ⟨(List.range len).map g, fun a ha => ?_, by simp; omega, RelL.cons ?_ RelL.nil⟩
      · obtain ⟨i, hi', rfl⟩ := List.mem_map.1 ha
        exact (hg i (List.mem_range.1 hi')).1
      · rw [List.length_map, List.length_range]
        have hq : ∀ j, j < (((List.range len).map g).flatMap enc').length → ∃ u, W.cell? ⟨b, off + j, none⟩ = some u ∧ ∃ x, (((List.range len).map g).flatMap enc')[j]? = some x ∧ RelV (Old W) W x u := fun j hj => by
          rw [hflat] at hj
          have h1 : j / P.cellsOf e < len := (Nat.div_lt_iff_lt_mul hpos).2 hj
          have h2 := Nat.mod_lt j hpos
          have h3 : j / P.cellsOf e * P.cellsOf e + j % P.cellsOf e = j := by rw [Nat.mul_comm]; exact Nat.div_add_mod j _
          obtain ⟨u, hu, x, hx', hr⟩ := hcell (j / P.cellsOf e) (j % P.cellsOf e) h1 h2
          rw [h3] at hu
          refine ⟨u, hu, x, ?_, hr⟩
          have := hflatget len _ _ h1 h2
          rw [h3] at this
          rw [this, hx']
        refine .ro false len _ b off cap (fun j => (W.cell? ⟨b, off + j, none⟩).getD undef) hblt (fun j hj => ?_) (fun j hj => ?_) hl hm (fun h => by cases h)
        · obtain ⟨u, hu, _⟩ := hq j hj
          rw [hu]; rfl
        · obtain ⟨u, hu, x, hx', hr⟩ := hq j hj
          rw [hu]
          simp only [Option.getD_some]
          have : x = (((List.range len).map g).flatMap enc')[j] := by
            rw [List.getElem?_eq_getElem hj] at hx'; exact (Option.some.inj hx').symm
          rw [← this]; exact hr

theorem flatMap_one {α : Type} (f : α → AV) (l : List α) : l.flatMap (fun a => [f a]) = l.map f := by
  induction l with
  | nil => rfl
  | cons a l ih => simp [List.flatMap_cons, ih]

theorem rd_ints {base : Nat} {spare : Nat → Bool} {held : Bool} {t e : TypeId} {k : IntKind} (ht : P.underlying t = some (.slice e)) (he : P.underlying e = some (.int k)) (h1 : P.cellsOf e = 1) {n : Nat} {cs : List Value} {x : DataW H × List MemPlace} (h : DataW.trod enc P W base spare held n t cs = some x) :
    ∃ l : List Int, (∀ z ∈ l, (Lit.int k z).wf = true) ∧ l.length ≤ maxLen ∧ RelL (Old W) W [.ro false l.length (intsA k l)] cs := by
  obtain ⟨l, h2, h3, h4⟩ := rd_slice (enc' := fun z : Int => [.val (.int k z)]) (good := fun z => (Lit.int k z).wf = true) ht (fun _ => h1.symm) (by omega) (fun n cs x _ h => rd_int he h) h
  rw [flatMap_one] at h4
  exact ⟨l, h2, h3, h4⟩
theorem rd_bytes {base : Nat} {spare : Nat → Bool} {held : Bool} {t e : TypeId} (ht : P.underlying t = some (.slice e)) (he : P.underlying e = some (.int .u8)) (h1 : P.cellsOf e = 1) {n : Nat} {cs : List Value} {x : DataW H × List MemPlace} (h : DataW.trod enc P W base spare held n t cs = some x) :
    ∃ l : List UInt8, l.length ≤ maxLen ∧ RelL (Old W) W [roB l] cs := by
  obtain ⟨l, h2, h3, h4⟩ := rd_ints ht he h1 h
  have hb : ∃ m : List UInt8, l = m.map fun b => ((b.toNat : Nat) : Int) := by
    clear h h3 h4
    induction l with
    | nil => exact ⟨[], rfl⟩
    | cons z l ih =>
      obtain ⟨m, rfl⟩ := ih fun z hz => h2 z (List.mem_cons_of_mem _ hz)
      have hz := h2 z (List.mem_cons_self ..)
      have hz' : 0 ≤ z ∧ z ≤ 255 := by simpa [Lit.wf, IntKind.min, IntKind.max, IntKind.signed, IntKind.bits] using hz
      refine ⟨UInt8.ofNat z.toNat :: m, ?_⟩
      simp only [List.map_cons, List.cons.injEq, and_true]
      rw [UInt8.toNat_ofNat_of_lt' (by simp [UInt8.size]; omega)]
      omega
  obtain ⟨m, rfl⟩ := hb
  refine ⟨m, by simpa using h3, ?_⟩
  simpa [roB, bytesA, intsA, Function.comp_def] using h4

theorem relV_of_one {R : Nat → Prop} {a : AV} {v : Value} (hc : v.cells.toList = [v]) (h : RelL R W [a] v.cells.toList) : RelV R W a v := by
  rw [hc] at h
  obtain ⟨u, r, he, h1, _⟩ := h.uncons
  cases he
  exact h1
end
end Go.Proofs.Ytjmkoelmiehdjaa.A

namespace Go.Proofs.Ytjmkoelmiehdjaa.A
open Go.ChangeShapes Go.WideShapes Go.ChangeAt Go.RowKit L
set_option linter.unusedVariables false
set_option linter.unusedSimpArgs false
section
variable {P : Program}

/-- Arguments of this type read as one of these. -/
def Reads (P : Program) (t : TypeId) (φ : AV → Prop) : Prop :=
  ∀ (H : Type) (enc : TypeId × Value → H) (W : World) (base b0 : Nat) (spare : Nat → Bool) (held : Bool) (v : Value) (d : DataW H) (p : List MemPlace),
    Value.okWide P W .any b0 t v → DataW.Trod enc P W base spare held t v d p → ∃ x, φ x ∧ RelV (Old W) W x v
/-- Cells of this type read as one of these. -/
structure RdC (P : Program) (t : TypeId) {α : Type} (f : α → List AV) (good : α → Prop) : Prop where
  len : ∀ a, (f a).length = P.cellsOf t
  rd : ∀ (H : Type) (enc : TypeId × Value → H) (W : World) (base : Nat) (spare : Nat → Bool) (held : Bool) (n : Nat) (cs : List Value) (x : DataW H × List MemPlace),
    DataW.trod enc P W base spare held n t cs = some x → ∃ a, good a ∧ RelL (Old W) W (f a) cs

theorem okw_int {W : World} {r : Reach} {b : Nat} {t : TypeId} {k : IntKind} (ht : P.underlying t = some (.int k)) {v : Value} (h : Value.okWide P W r b t v) : v.cells.toList = [v] := by
  cases v <;> simp [Value.okWide, ht, Cell.okWide, Cell.ok] at h <;> rfl
theorem okw_slice {W : World} {r : Reach} {b : Nat} {t e : TypeId} (ht : P.underlying t = some (.slice e)) {v : Value} (h : Value.okWide P W r b t v) : v.cells.toList = [v] := by
  cases v <;> simp [Value.okWide, ht, Cell.okWide, Cell.ok] at h <;> rfl
theorem okw_bool {W : World} {r : Reach} {b : Nat} {t : TypeId} (ht : P.underlying t = some .bool) {v : Value} (h : Value.okWide P W r b t v) : v.cells.toList = [v] := by
  cases v <;> simp [Value.okWide, ht, Cell.okWide, Cell.ok] at h <;> rfl
theorem RelL.glue {R : Nat → Prop} {W : World} {xs ys : List AV} {cs : List Value} {o k : Nat} (h1 : RelL R W xs ((cs.drop o).take k)) (h2 : RelL R W ys (cs.drop (o + k))) : RelL R W (xs ++ ys) (cs.drop o) := by
  have := h1.app h2
  rwa [show (cs.drop o).take k ++ cs.drop (o + k) = cs.drop o by rw [← List.drop_drop, List.take_append_drop]] at this
theorem RdC.int {t : TypeId} {k : IntKind} (ht : P.underlying t = some (.int k)) (h1 : P.cellsOf t = 1) : RdC P t (fun z : Int => [.val (.int k z)]) (fun z => (Lit.int k z).wf = true) :=
  ⟨fun _ => h1.symm, fun H enc W base spare held n cs x h => rd_int ht h⟩
theorem RdC.bool {t : TypeId} (ht : P.underlying t = some .bool) (h1 : P.cellsOf t = 1) : RdC P t (fun z : Bool => [.val (.bool z)]) (fun _ => True) :=
  ⟨fun _ => h1.symm, fun H enc W base spare held n cs x h => by
    obtain ⟨b, rfl, _⟩ := DataW.trod_bool ht h
    exact ⟨b, trivial, RelL.cons (.val _) RelL.nil⟩⟩
theorem RdC.string {t : TypeId} (ht : P.underlying t = some .string) (h1 : P.cellsOf t = 1) : RdC P t (fun s : ByteArray => [.val (.string s)]) (fun s => s.size ≤ maxLen) :=
  ⟨fun _ => h1.symm, fun H enc W base spare held n cs x h => by
    obtain ⟨b, rfl, _, hs⟩ := DataW.trod_string ht h
    exact ⟨b, hs, RelL.cons (.val _) RelL.nil⟩⟩
theorem RdC.slice {t e : TypeId} {α : Type} {f : α → List AV} {good : α → Prop} (ht : P.underlying t = some (.slice e)) (h1 : P.cellsOf t = 1) (hpos : 0 < P.cellsOf e) (h : RdC P e f good) :
    RdC P t (fun l : List α => [.ro false l.length (l.flatMap f)]) (fun l => (∀ a ∈ l, good a) ∧ l.length ≤ maxLen) :=
  ⟨fun _ => h1.symm, fun H enc W base spare held n cs x hx => by
    obtain ⟨l, h2, h3, h4⟩ := rd_slice ht h.len hpos (fun n cs x _ hx => h.rd H enc W base spare held n cs x hx) hx
    exact ⟨l, ⟨h2, h3⟩, h4⟩⟩
theorem RdC.bytes {t e : TypeId} (ht : P.underlying t = some (.slice e)) (he : P.underlying e = some (.int .u8)) (h1 : P.cellsOf t = 1) (h2 : P.cellsOf e = 1) : RdC P t (fun l : List UInt8 => [roB l]) (fun l => l.length ≤ maxLen) :=
  ⟨fun _ => h1.symm, fun H enc W base spare held n cs x hx => rd_bytes ht he h2 hx⟩
theorem RdC.ints {t e : TypeId} {k : IntKind} (ht : P.underlying t = some (.slice e)) (he : P.underlying e = some (.int k)) (h1 : P.cellsOf t = 1) (h2 : P.cellsOf e = 1) :
    RdC P t (fun l : List Int => [.ro false l.length (intsA k l)]) (fun l => (∀ z ∈ l, (Lit.int k z).wf = true) ∧ l.length ≤ maxLen) :=
  ⟨fun _ => h1.symm, fun H enc W base spare held n cs x hx => by
    obtain ⟨l, h3, h4, h5⟩ := rd_ints ht he h2 hx
    exact ⟨l, ⟨h3, h4⟩, h5⟩⟩
/-- Fields, one after the other, from cell o on. -/
structure FR (P : Program) (fs : List Field) (o m : Nat) {α : Type} (f : α → List AV) (good : α → Prop) : Prop where
  len : ∀ a, (f a).length = m
  rd : ∀ (H : Type) (enc : TypeId × Value → H) (W : World) (base : Nat) (spare : Nat → Bool) (held : Bool) (cs : List Value), cs.length = o + m →
    (∀ fd ∈ fs, ∃ (n : Nat) (y : DataW H × List MemPlace), DataW.trod enc P W base spare held n fd.type ((cs.drop fd.offset).take (P.cellsOf fd.type)) = some y) → ∃ a, good a ∧ RelL (Old W) W (f a) (cs.drop o)
theorem FR.nil {o : Nat} : FR P [] o 0 (fun _ : Unit => []) (fun _ => True) :=
  ⟨fun _ => rfl, fun H enc W base spare held cs hl _ => ⟨(), trivial, by rw [List.drop_of_length_le (by omega)]; exact RelL.nil⟩⟩
theorem FR.cons {fd : Field} {fs : List Field} {o k m : Nat} {α β : Type} {f : α → List AV} {good : α → Prop} {g : β → List AV} {good' : β → Prop} (h : RdC P fd.type f good) (ho : fd.offset = o) (hk : P.cellsOf fd.type = k) (hs : FR P fs (o + k) m g good') :
    FR P (fd :: fs) o (k + m) (fun p : α × β => f p.1 ++ g p.2) (fun p => good p.1 ∧ good' p.2) :=
  ⟨fun p => by rw [List.length_append, h.len, hs.len, hk], fun H enc W base spare held cs hl hall => by
    obtain ⟨n, y, h1⟩ := hall fd (List.mem_cons_self ..)
    rw [ho, hk] at h1
    obtain ⟨a, h2, h3⟩ := h.rd H enc W base spare held _ _ _ h1
    obtain ⟨b, h4, h5⟩ := hs.rd H enc W base spare held cs (by omega) (fun fd hfd => hall fd (List.mem_cons_of_mem _ hfd))
    exact ⟨(a, b), ⟨h2, h4⟩, RelL.glue h3 h5⟩⟩
theorem RdC.struct {t : TypeId} {fs : List Field} {m : Nat} {α : Type} {f : α → List AV} {good : α → Prop} (ht : P.underlying t = some (.struct fs.toArray)) (hm : P.cellsOf t = m) (h : FR P fs 0 m f good) : RdC P t f good :=
  ⟨fun a => by rw [h.len, hm], fun H enc W base spare held n cs x hx => by
    obtain ⟨xs, n', _, _, hl, hlen, hf⟩ := DataW.trod_struct ht hx
    obtain ⟨a, h1, h2⟩ := h.rd H enc W base spare held cs (by omega) (fun fd hfd => by
      obtain ⟨i, hi, rfl⟩ := List.getElem_of_mem hfd
      have h0 := hf i fs[i] (by simp [hi])
      have hxi : i < xs.length := by rw [hlen]; simpa using hi
      rw [List.getElem?_eq_getElem hxi] at h0
      exact ⟨n', _, h0⟩)
    exact ⟨a, h1, by simpa using h2⟩⟩
theorem RdC.map {t : TypeId} {α β : Type} {f : α → List AV} {good : α → Prop} {g : β → List AV} {good' : β → Prop} (h : RdC P t f good) (φ : α → β) (hφ : ∀ a, good a → good' (φ a) ∧ f a = g (φ a)) (hl : ∀ b, (g b).length = P.cellsOf t) : RdC P t g good' :=
  ⟨hl, fun H enc W base spare held n cs x hx => by
    obtain ⟨a, h1, h2⟩ := h.rd H enc W base spare held n cs x hx
    exact ⟨φ a, (hφ a h1).1, (hφ a h1).2 ▸ h2⟩⟩
theorem RdC.reads {t : TypeId} {α : Type} {f : α → List AV} {good : α → Prop} (h : RdC P t f good) (g : α → AV) (hg : ∀ a, f a = [g a]) (hw : ∀ (W : World) (b : Nat) (v : Value), Value.okWide P W .any b t v → v.cells.toList = [v]) : Reads P t (fun x => ∃ a, good a ∧ x = g a) :=
  fun H enc W base b0 spare held v d p hv ⟨n, hx⟩ => by
    obtain ⟨a, h1, h2⟩ := h.rd H enc W base spare held n _ _ hx
    rw [hg] at h2
    exact ⟨g a, ⟨a, h1, rfl⟩, relV_of_one (hw _ _ _ hv) h2⟩
theorem Reads.int {t : TypeId} {k : IntKind} (ht : P.underlying t = some (.int k)) (h1 : P.cellsOf t = 1) : Reads P t (fun x => ∃ z : Int, (Lit.int k z).wf = true ∧ x = .val (.int k z)) := (RdC.int ht h1).reads (fun z => .val (.int k z)) (fun _ => rfl) (fun _ _ _ h => okw_int ht h)
theorem Reads.bool {t : TypeId} (ht : P.underlying t = some .bool) (h1 : P.cellsOf t = 1) : Reads P t (fun x => ∃ z : Bool, True ∧ x = .val (.bool z)) := (RdC.bool ht h1).reads (fun z => .val (.bool z)) (fun _ => rfl) (fun _ _ _ h => okw_bool ht h)
theorem Reads.bytes {t e : TypeId} (ht : P.underlying t = some (.slice e)) (he : P.underlying e = some (.int .u8)) (h1 : P.cellsOf t = 1) (h2 : P.cellsOf e = 1) : Reads P t (fun x => ∃ l : List UInt8, l.length ≤ maxLen ∧ x = roB l) := (RdC.bytes ht he h1 h2).reads roB (fun _ => rfl) (fun _ _ _ h => okw_slice ht h)
theorem Reads.ints {t e : TypeId} {k : IntKind} (ht : P.underlying t = some (.slice e)) (he : P.underlying e = some (.int k)) (h1 : P.cellsOf t = 1) (h2 : P.cellsOf e = 1) :
    Reads P t (fun x => ∃ l : List Int, ((∀ z ∈ l, (Lit.int k z).wf = true) ∧ l.length ≤ maxLen) ∧ x = .ro false l.length (intsA k l)) := (RdC.ints ht he h1 h2).reads (fun l => .ro false l.length (intsA k l)) (fun _ => rfl) (fun _ _ _ h => okw_slice ht h)
theorem Reads.slice {t e : TypeId} {α : Type} {f : α → List AV} {good : α → Prop} (ht : P.underlying t = some (.slice e)) (h1 : P.cellsOf t = 1) (hpos : 0 < P.cellsOf e) (h : RdC P e f good) :
    Reads P t (fun x => ∃ l : List α, ((∀ a ∈ l, good a) ∧ l.length ≤ maxLen) ∧ x = .ro false l.length (l.flatMap f)) := (RdC.slice ht h1 hpos h).reads (fun l => .ro false l.length (l.flatMap f)) (fun _ => rfl) (fun _ _ _ h => okw_slice ht h)

/-- All arguments. -/
def ReadsL (P : Program) : List TypeId → List (AV → Prop) → Prop
  | [], [] => True
  | t :: ts, φ :: φs => Reads P t φ ∧ ReadsL P ts φs
  | _, _ => False
theorem ReadsL.nil : ReadsL P [] [] := trivial
theorem ReadsL.cons {t : TypeId} {ts : List TypeId} {φ : AV → Prop} {φs : List (AV → Prop)} (h : Reads P t φ) (hs : ReadsL P ts φs) : ReadsL P (t :: ts) (φ :: φs) := ⟨h, hs⟩
def AllOf : List (AV → Prop) → (List AV → Prop) → Prop
  | [], K => K []
  | φ :: φs, K => ∀ x, φ x → AllOf φs (fun xs => K (x :: xs))

theorem readAll {H : Type} {enc : TypeId × Value → H} {W : World} {base b0 : Nat} {spare : Nat → Bool} {held : Bool} : ∀ {ts : List TypeId} {φs : List (AV → Prop)} {K : List AV → Prop} {vs : List Value} {ds : List (DataW H)} {ps : List MemPlace},
    ReadsL P ts φs → AllOf φs K → (∀ (j : Nat) t v, ts[j]? = some t → vs[j]? = some v → Value.okWide P W .any b0 t v) → DataW.TrodAll enc P W base spare held ts vs ds ps → ∃ xs, K xs ∧ RelL (Old W) W xs vs
  | [], [], K, vs, ds, ps, _, hK, _, hT => by
    obtain ⟨rfl, _, _⟩ := trodAll_nil hT
    exact ⟨[], hK, RelL.nil⟩
  | [], _ :: _, _, _, _, _, h, _, _, _ => h.elim
  | _ :: _, [], _, _, _, _, h, _, _, _ => h.elim
  | t :: ts, φ :: φs, K, vs, ds, ps, h, hK, hv, hT => by
    obtain ⟨v0, vs0, d0, ds0, p0, q0, rfl, rfl, rfl, h0, r0⟩ := trodAll_cons hT
    obtain ⟨x, h1, h2⟩ := h.1 H enc W base b0 spare held v0 d0 p0 (hv 0 t v0 rfl rfl) h0
    obtain ⟨xs, h3, h4⟩ := readAll h.2 (hK x h1) (fun j t v a b => hv (j + 1) t v a b) r0
    exact ⟨x :: xs, h3, RelL.cons h2 h4⟩
end

theorem law_contract {f : FuncId} {fn : Func} {s : ChangeSpec} {H : Type} (enc : TypeId × Value → H) {ts : List TypeId} {φs : List (AV → Prop)} (hp : fn.params.toList = ts) (hr : ReadsL Try.prog ts φs)
    (h : AllOf φs fun xs => Sp Try.prog f xs [] (Is (.val (.bool true)))) {W : World} {base : Nat} {args : Array Value} {ds gs : List (DataW H)} {before : List MemPlace}
    (hval : ∀ (j : Nat) t v, fn.params[j]? = some t → args[j]? = some v → Value.okWide Try.prog W .any base t v)
    (hW : DataW.Whole enc Try.prog fn.params.toList s.vars false W args.toList ds gs before)
    (post : ∀ W', Ext W W' → s.post enc Try.prog fn false true false false W args (.bool true) W') :
    Calls Try.prog f args W fun e W' => ∃ v, e = .returned v ∧ s.post enc Try.prog fn false true false false W args v W' := by
  obtain ⟨p, q, hA, hV, rfl, hfz, hnd⟩ := hW
  rw [hp] at hA
  obtain ⟨xs, hS, hR⟩ := readAll (b0 := base) hr h (fun j t v h1 h2 => hval j t v (by rw [← Array.getElem?_toList, hp]; exact h1) (by rw [← Array.getElem?_toList]; exact h2)) hA
  have hc := hS W (Old W) args.toList (fun b hb => hb) (fun e he => by cases he) .nil hR
  rw [Array.toArray_toList] at hc
  refine hc.mono ?_
  rintro e W' ⟨u, r, H', R', rfl, ⟨rfl, rfl⟩, hs, hv⟩
  obtain rfl := hv.val_inv
  exact ⟨_, rfl, post W' (hs.mods.mono fun b _ ⟨e, he, _⟩ => by cases he)⟩
end Go.Proofs.Ytjmkoelmiehdjaa.A

namespace Go.Proofs.Ytjmkoelmiehdjaa.LwO
open Go.ChangeShapes Go.WideShapes Go.ChangeAt Go.RowKit L A Wi
set_option linter.unusedVariables false

theorem contract (H : Type) (enc : TypeId × Value → H) (W : World) (base : Nat) (args : Array Value) (ds gs : List (DataW H)) (before : List MemPlace)
    (hval : ∀ (j : Nat) t v, Try.f4.params[j]? = some t → args[j]? = some v → Value.okWide Try.prog W .any base t v)
    (hW : DataW.Whole enc Try.prog Try.f4.params.toList Rows.windowOnceSpec.vars false W args.toList ds gs before) :
    Calls Try.prog 4 args W fun e W' => ∃ v, e = .returned v ∧ Rows.windowOnceSpec.post enc Try.prog Try.f4 false true false false W args v W' := by
  have hW' := hW
  obtain ⟨p, q, hA0, hV, rfl, hfz, hnd⟩ := hW
  have hA : DataW.TrodAll enc Try.prog W 0 (fun _ => true) true Try.f4.params.toList args.toList ds p := hA0
  rw [Try.params4] at hA
  obtain ⟨v0, vs0, d0, ds0, p0, q0, ha0, rfl, hp0, h0, r0⟩ := trodAll_cons hA
  obtain ⟨v1, vs1, d1, ds1, p1, q1, ha1, rfl, hp1, h1, r1⟩ := trodAll_cons r0
  obtain ⟨-, rfl, -⟩ := trodAll_nil r1
  obtain ⟨rfl, rfl⟩ := trodVars_none hV
  refine law_contract enc (ts := [25, 3]) (by rw [Try.params4]) (ReadsL.cons (Reads.ints Try.underlying25 Try.underlying3 (by kernel_rfl) (by kernel_rfl)) (ReadsL.cons (Reads.int Try.underlying3 (by kernel_rfl)) (ReadsL.nil))) (φs := [_, _]) ?_ hval hW' (fun W' hE => lawPost hW' rfl rfl rfl Try.underlying4 (by rw [Try.params4]; decide) hE)
  rintro _ ⟨x0, h0, rfl⟩ _ ⟨x1, h1, rfl⟩
  exact lawOnce_fn x0 x1 h0.2

set_option maxRecDepth 100000 in
theorem lifted (os : Os) (started : os.Started) (H : Type) (enc : TypeId × Value → H) :
    ReturnsInHanded {} Try.checked os 4 .any (Rows.windowOnceSpec.pre6 enc Try.prog Try.f4 Rows.windowOnceRow.domain false) (Rows.windowOnceSpec.post enc Try.prog Try.f4 false true false false) := by
  refine returnsInHanded_of_change (C := Try.checked) own started (by kernel_rfl) Try.func4
    (ChangeSpec.witness6 (enc := enc) (C := Try.checked) false ⟨#[], #[.slice none 0 0, .int .i64 0], []⟩ 8 (by kernel_rfl) (by kernel_rfl) (by kernel_rfl) (by kernel_rfl)) ?_
  intro W base args ds gs before hval hW _ _
  exact contract H enc W base args ds gs before hval hW

theorem over : Rows.windowOnceRow.holds Try.pinned (OpenSpec.ofChange Rows.windowOnceSpec) :=
  OpenClaim.holds_of_wide 4 Try.f4 rfl rfl rfl rfl rfl rfl rfl ⟨rfl, rfl, rfl, rfl, rfl⟩ rfl rfl rfl rfl rfl (by kernel_rfl) Try.func4 (by kernel_rfl)
    (of_decide_eq_true (by kernel_rfl)) (by unfold Func.isWrapper; first | (rw [if_pos (by decide +kernel)]; kernel_rfl) | (rw [if_neg (by decide +kernel)]; exact ⟨rfl, rfl⟩))
    (fun os started H enc _ => lifted os started H enc)
theorem windowOnce : Rows.WindowOnceSaid := over
end Go.Proofs.Ytjmkoelmiehdjaa.LwO
