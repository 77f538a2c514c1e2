/-
  Texts laid together (part 3): what the statement's walk and plain law need. No condition.
-/
import Derived.WideKeyPair
import Derived.Test.YtdnmilmcdbgppaaZ2
namespace Go.Proofs.Ytdnmilmcdbgppaa.By
open Go.RowKit L A
set_option linter.unusedVariables false
set_option maxRecDepth 20000
set_option linter.unusedSimpArgs false
structure Wt where
  peer : Int
  m : Msg
  due : Int
  sent : Int
  deriving DecidableEq
structure Us where
  peer : Int
  id : Int
  till : Int
  deriving DecidableEq
structure Hd where
  peer : Int
  id : Int
  till : Int
  ans : Bool
  m : Msg
  deriving DecidableEq
structure Ep where
  next : Int
  out : List Wt
  used : List Us
  inn : List Hd
  deriving DecidableEq
def Wt.none : Wt := ⟨0, Msg.none, 0, 0⟩
def Us.none : Us := ⟨0, 0, 0⟩
def Hd.none : Hd := ⟨0, 0, 0, false, Msg.none⟩
def Ep.none : Ep := ⟨0, [], [], []⟩
abbrev cW (w : Wt) : List AV := [.val (.int .i64 w.peer), .val (.int .i64 w.m.ty), .val (.int .i64 w.m.code), .val (.int .i64 w.m.id), roB w.m.tok, roO w.m.opts, roB w.m.pay, .val (.int .i64 w.due), .val (.int .i64 w.sent)]
abbrev cU (u : Us) : List AV := [.val (.int .i64 u.peer), .val (.int .i64 u.id), .val (.int .i64 u.till)]
abbrev cH (h : Hd) : List AV := [.val (.int .i64 h.peer), .val (.int .i64 h.id), .val (.int .i64 h.till), .val (.bool h.ans), .val (.int .i64 h.m.ty), .val (.int .i64 h.m.code), .val (.int .i64 h.m.id), roB h.m.tok, roO h.m.opts, roB h.m.pay]
def cellsW (w : Wt) : List AV := cW w
def cellsU (u : Us) : List AV := cU u
def cellsH (h : Hd) : List AV := cH h
theorem cellsW_len (w : Wt) : (cellsW w).length = 9 := rfl
theorem cellsU_len (w : Us) : (cellsU w).length = 3 := rfl
theorem cellsH_len (w : Hd) : (cellsH w).length = 10 := rfl
def wtsA (l : List Wt) : List AV := l.flatMap cellsW
def ussA (l : List Us) : List AV := l.flatMap cellsU
def hdsA (l : List Hd) : List AV := l.flatMap cellsH
def roW (l : List Wt) : AV := .ro false l.length (wtsA l)
def roU (l : List Us) : AV := .ro false l.length (ussA l)
def roH (l : List Hd) : AV := .ro false l.length (hdsA l)
theorem roW_cells (l : List Wt) : (roW l).cells = [roW l] := rfl
theorem roU_cells (l : List Us) : (roU l).cells = [roU l] := rfl
theorem roH_cells (l : List Hd) : (roH l).cells = [roH l] := rfl
abbrev aggW (w : Wt) : AV := .agg (cW w)
abbrev aggU (u : Us) : AV := .agg (cU u)
abbrev aggH (h : Hd) : AV := .agg (cH h)
abbrev aggE (e : Ep) : AV := .agg [.val (.int .i64 e.next), roW e.out, roU e.used, roH e.inn]
abbrev wt (l : List Wt) (k : Nat) : Wt := l.getD k Wt.none
abbrev us (l : List Us) (k : Nat) : Us := l.getD k Us.none
abbrev hd (l : List Hd) (k : Nat) : Hd := l.getD k Hd.none
@[simp] theorem wtsA_len (l : List Wt) : (wtsA l).length = l.length * 9 := flat_len cellsW_len l
@[simp] theorem ussA_len (l : List Us) : (ussA l).length = l.length * 3 := flat_len cellsU_len l
@[simp] theorem hdsA_len (l : List Hd) : (hdsA l).length = l.length * 10 := flat_len cellsH_len l
theorem wtsA_app (a b : List Wt) : wtsA (a ++ b) = wtsA a ++ wtsA b := flat_app a b
theorem hdsA_app (a b : List Hd) : hdsA (a ++ b) = hdsA a ++ hdsA b := flat_app a b
theorem wtsA_snoc (a : List Wt) (w : Wt) : wtsA (a ++ [w]) = wtsA a ++ cW w := flat_snoc a w
theorem ussA_snoc (a : List Us) (w : Us) : ussA (a ++ [w]) = ussA a ++ cU w := flat_snoc a w
theorem hdsA_snoc (a : List Hd) (w : Hd) : hdsA (a ++ [w]) = hdsA a ++ cH w := flat_snoc a w
theorem flat_one {α : Type} {f : α → List AV} (h : ∀ a, (f a).all AV.one = true) : ∀ l : List α, (l.flatMap f).all AV.one = true
  | [] => rfl
  | a :: l => by rw [List.flatMap_cons, List.all_append, h a, flat_one h l]; rfl
theorem wtsA_one (l : List Wt) : (wtsA l).all AV.one = true := flat_one (fun _ => rfl) l
theorem ussA_one (l : List Us) : (ussA l).all AV.one = true := flat_one (fun _ => rfl) l
theorem hdsA_one (l : List Hd) : (hdsA l).all AV.one = true := flat_one (fun _ => rfl) l
theorem getW {l : List Wt} {k : Nat} (h : k < l.length) {j : Nat} (hj : j = k) : ((wtsA l).drop (j * 9)).take 9 = cW (wt l k) := flat_at cellsW_len Wt.none h hj
theorem getU {l : List Us} {k : Nat} (h : k < l.length) {j : Nat} (hj : j = k) : ((ussA l).drop (j * 3)).take 3 = cU (us l k) := flat_at cellsU_len Us.none h hj
theorem getH {l : List Hd} {k : Nat} (h : k < l.length) {j : Nat} (hj : j = k) : ((hdsA l).drop (j * 10)).take 10 = cH (hd l k) := flat_at cellsH_len Hd.none h hj
theorem cellW {l : List Wt} {k c : Nat} (h : k < l.length) (hc : c < 9) {j : Nat} (hj : j = k * 9 + c) : (wtsA l)[j]? = (cellsW (wt l k))[c]? := flat_cell cellsW_len Wt.none h hc hj
theorem cellH {l : List Hd} {k c : Nat} (h : k < l.length) (hc : c < 10) {j : Nat} (hj : j = k * 10 + c) : (hdsA l)[j]? = (cellsH (hd l k))[c]? := flat_cell cellsH_len Hd.none h hc hj
/-! ### What is valid -/
abbrev PeerOk (p : Int) : Prop := 0 ≤ p ∧ p ≤ 65536
abbrev IdOk (p : Int) : Prop := 0 ≤ p ∧ p ≤ 65535
abbrev TimeOk (p : Int) : Prop := 0 ≤ p ∧ p ≤ 1073741824
abbrev OkW (w : Wt) : Prop := PeerOk w.peer ∧ w.m.ty = 0 ∧ ValM w.m ∧ 0 ≤ w.due ∧ 1 ≤ w.sent ∧ w.sent ≤ 5
abbrev OkU (u : Us) : Prop := PeerOk u.peer ∧ IdOk u.id ∧ 0 ≤ u.till
abbrev OkH (h : Hd) : Prop := PeerOk h.peer ∧ IdOk h.id ∧ 0 ≤ h.till ∧ (h.ans = true → ValM h.m) ∧ (h.ans = false → h.m = Msg.none)
abbrev kWt (w : Wt) : Int × Int := (w.peer, w.m.id)
abbrev kHd (h : Hd) : Int × Int := (h.peer, h.id)
def ValE (e : Ep) : Prop := IdOk e.next ∧ e.out.length ≤ 16 ∧ e.used.length ≤ 32 ∧ e.inn.length ≤ 16 ∧ (∀ w ∈ e.out, OkW w) ∧ (e.out.map kWt).Nodup ∧ (∀ u ∈ e.used, OkU u) ∧ (∀ h ∈ e.inn, OkH h) ∧ (e.inn.map kHd).Nodup
instance (e : Ep) : Decidable (ValE e) := by unfold ValE; infer_instance
/-- The first k are valid. -/
abbrev WOkTo (l : List Wt) (k : Nat) : Prop := (∀ w ∈ l.take k, OkW w) ∧ ((l.take k).map kWt).Nodup
abbrev HOkTo (l : List Hd) (k : Nat) : Prop := (∀ w ∈ l.take k, OkH w) ∧ ((l.take k).map kHd).Nodup
theorem nodup_snoc {α : Type} [DecidableEq α] {l : List α} {a : α} : (l ++ [a]).Nodup ↔ l.Nodup ∧ a ∉ l := by
  rw [List.nodup_append]
  constructor
  · rintro ⟨h1, _, h3⟩; exact ⟨h1, fun h => h3 a h a (by simp) rfl⟩
  · rintro ⟨h1, h2⟩; refine ⟨h1, by simp, fun x hx y hy => ?_⟩
    obtain rfl : y = a := by simpa using hy
    rintro rfl; exact h2 hx
theorem mem_take_snoc {α : Type} (d : α) {l : List α} {k : Nat} (h : k < l.length) (p : α → Prop) : (∀ w ∈ l.take (k + 1), p w) ↔ (∀ w ∈ l.take k, p w) ∧ p (l.getD k d) := by
  rw [take_snoc d h]; constructor
  · intro hh; exact ⟨fun w hw => hh w (List.mem_append_left _ hw), hh _ (by simp)⟩
  · rintro ⟨h1, h2⟩ w hw
    rcases List.mem_append.1 hw with hw | hw
    · exact h1 w hw
    · obtain rfl : w = _ := by simpa using hw
      exact h2
theorem WOkTo.succ {l : List Wt} {k : Nat} (h : k < l.length) : WOkTo l (k + 1) ↔ WOkTo l k ∧ OkW (wt l k) ∧ kWt (wt l k) ∉ (l.take k).map kWt := by
  refine (and_congr (mem_take_snoc Wt.none h OkW) Iff.rfl).trans ?_
  rw [take_snoc Wt.none h, List.map_append, List.map_singleton, nodup_snoc]
  constructor
  · rintro ⟨⟨h1, h2⟩, h3, h4⟩; exact ⟨⟨h1, h3⟩, h2, h4⟩
  · rintro ⟨⟨h1, h3⟩, h2, h4⟩; exact ⟨⟨h1, h2⟩, h3, h4⟩
theorem HOkTo.succ {l : List Hd} {k : Nat} (h : k < l.length) : HOkTo l (k + 1) ↔ HOkTo l k ∧ OkH (hd l k) ∧ kHd (hd l k) ∉ (l.take k).map kHd := by
  refine (and_congr (mem_take_snoc Hd.none h OkH) Iff.rfl).trans ?_
  rw [take_snoc Hd.none h, List.map_append, List.map_singleton, nodup_snoc]
  constructor
  · rintro ⟨⟨h1, h2⟩, h3, h4⟩; exact ⟨⟨h1, h3⟩, h2, h4⟩
  · rintro ⟨⟨h1, h3⟩, h2, h4⟩; exact ⟨⟨h1, h2⟩, h3, h4⟩
theorem WOkTo.mono {l : List Wt} {k : Nat} (h : k ≤ l.length) (hh : WOkTo l l.length) : WOkTo l k := by
  rw [WOkTo, List.take_length] at hh
  refine ⟨fun w hw => hh.1 w (List.mem_of_mem_take hw), ?_⟩
  rw [List.map_take]; exact hh.2.sublist (List.take_sublist _ _)
theorem HOkTo.mono {l : List Hd} {k : Nat} (h : k ≤ l.length) (hh : HOkTo l l.length) : HOkTo l k := by
  rw [HOkTo, List.take_length] at hh
  refine ⟨fun w hw => hh.1 w (List.mem_of_mem_take hw), ?_⟩
  rw [List.map_take]; exact hh.2.sublist (List.take_sublist _ _)
theorem key_at {α : Type} (f : α → Int × Int) (d : α) {l : List α} {k : Nat} (h : k ≤ l.length) {x : Int × Int} : x ∈ (l.take k).map f ↔ ∃ j, j < k ∧ f (l.getD j d) = x := by
  rw [List.mem_map]
  constructor
  · rintro ⟨w, hw, rfl⟩
    obtain ⟨j, hj, rfl⟩ := List.getElem_of_mem hw
    rw [List.length_take] at hj
    exact ⟨j, by omega, by simp [show j < l.length by omega]⟩
  · rintro ⟨j, hj, rfl⟩
    refine ⟨l.getD j d, ?_, rfl⟩
    rw [List.mem_iff_getElem]
    exact ⟨j, by rw [List.length_take]; omega, by simp [show j < l.length by omega]⟩

/-! ### A map of the keys that were met -/
theorem arr2 : Go.WideMaps.ArrKey Try.prog 93 3 2 := ⟨Try.underlying93, by kernel_rfl, by kernel_rfl, by kernel_rfl⟩
instance : KeyT Try.prog 93 := ⟨Go.Maps.Keyed.of_law arr2.law⟩
instance : ZeroT Try.prog 4 (.bool false) := ⟨fun W => by kernel_rfl⟩
theorem keyOf2 {a b : Int} (ha : (Lit.int .i64 a).wf = true) (hb : (Lit.int .i64 b).wf = true) : keyOf Try.prog 93 (.agg #[.int .i64 a, .int .i64 b]) = some (key2 a b) :=
  Go.WideMaps.keyOf_pair arr2 Try.underlying3 ⟨Try.prog.types.size - 1, by kernel_rfl⟩ ha hb
theorem keyA2 {a b : Int} (ha : (Lit.int .i64 a).wf = true) (hb : (Lit.int .i64 b).wf = true) : KeyA Try.prog 93 (.agg [.val (.int .i64 a), .val (.int .i64 b)]) (key2 a b) := fun R W v h => by
  obtain ⟨us, rfl, hr⟩ := h.agg_inv
  obtain ⟨u, r, rfl, h1, h2⟩ := hr.uncons
  obtain ⟨u', r', rfl, h3, h4⟩ := h2.uncons
  have : r' = [] := List.eq_nil_of_length_eq_zero h4.1
  subst this
  rw [h1.val_inv, h3.val_inv]
  exact keyOf2 ha hb
def In (z : Int) : Prop := -9223372036854775808 ≤ z ∧ z ≤ 9223372036854775807
theorem key2_inj {a b a' b' : Int} (ha : In a) (hb : In b) (ha' : In a') (hb' : In b') : key2 a b = key2 a' b' ↔ a = a' ∧ b = b' := by
  constructor
  · intro h
    have h1 := keyOf2 (wfI64 ha) (wfI64 hb)
    have h2 := keyOf2 (wfI64 ha') (wfI64 hb')
    rw [← h] at h2
    have := (Go.Maps.Keyed.of_law arr2.law).inj h1 h2
    simpa using this
  · rintro ⟨rfl, rfl⟩; rfl
theorem isKey2 (a b : Int) : WideAt.IsKeyLit (key2 a b) := by unfold key2; trivial
abbrev mapK (b : Nat) (M : Ents) : HE := mapHE Try.prog 93 4 b M
theorem mGet_same {M : Ents} {k v z : Lit} (hk : WideAt.IsKeyLit k) : mGet (mPut M k v) k z = v := by
  unfold mGet mPut mDel
  rw [List.find?_cons, show ((k, v) : Lit × Lit).1 = k from rfl, WideAt.sameKey_self hk]
theorem mGet_other {M : Ents} {k v z k' : Lit} (hk : WideAt.IsKeyLit k) (hk' : WideAt.IsKeyLit k') (h : k ≠ k') : mGet (mPut M k v) k' z = mGet M k' z := by
  have h1 : k.sameKey k' = false := by
    cases hb : k.sameKey k' with
    | false => rfl
    | true => exact absurd ((WideAt.sameKey_iff hk').1 hb) h
  unfold mGet mPut mDel
  rw [List.find?_cons, show ((k, v) : Lit × Lit).1 = k from rfl, h1, List.find?_filter]
  have e : (fun p : Lit × Lit => decide ((!p.1.sameKey k) = true ∧ p.1.sameKey k' = true)) = fun p => p.1.sameKey k' := by
    funext p
    cases hb : p.1.sameKey k' with
    | false => simp
    | true =>
      have h2 := (WideAt.sameKey_iff hk').1 hb
      have h3 : p.1.sameKey k = false := by
        cases hc : p.1.sameKey k with
        | false => rfl
        | true => exact absurd (((WideAt.sameKey_iff hk).1 hc).symm.trans h2) h
      simp [h3]
  rw [e]
theorem mPut_len (M : Ents) (k v : Lit) : (mPut M k v).length ≤ M.length + 1 := by
  have : (mDel M k).length ≤ M.length := List.length_filter_le _ M
  simp [mPut]; exact this
structure Seen (M : Ents) (ps : List (Int × Int)) : Prop where
  has : ∀ a b, In a → In b → mBool (mGet M (key2 a b) (.bool false)) = decide ((a, b) ∈ ps)
  len : M.length ≤ ps.length
theorem Seen.nil : Seen [] [] := ⟨fun a b _ _ => rfl, Nat.le_refl _⟩
theorem Seen.put {M : Ents} {ps : List (Int × Int)} (h : Seen M ps) {a b : Int} (ha : In a) (hb : In b) : Seen (mPut M (key2 a b) (.bool true)) (ps ++ [(a, b)]) := by
  refine ⟨fun a' b' ha' hb' => ?_, ?_⟩
  · by_cases he : key2 a b = key2 a' b'
    · obtain ⟨rfl, rfl⟩ := (key2_inj ha hb ha' hb').1 he
      rw [mGet_same (isKey2 _ _)]; simp [mBool]
    · rw [mGet_other (isKey2 _ _) (isKey2 _ _) he, h.has a' b' ha' hb']
      refine decide_eq_decide.2 ?_
      rw [List.mem_append]
      constructor
      · exact .inl
      · rintro (h1 | h1)
        · exact h1
        · have h2 : (a', b') = (a, b) := by simpa using h1
          cases h2
          exact absurd rfl he
  · have := mPut_len M (key2 a b) (.bool true)
    have := h.len
    rw [List.length_append, List.length_singleton]; omega
end Go.Proofs.Ytdnmilmcdbgppaa.By

namespace Go.Proofs.Ytdnmilmcdbgppaa.By
open Go.RowKit L A
set_option linter.unusedVariables false
set_option maxRecDepth 20000
set_option linter.unusedSimpArgs false
attribute [local irreducible] AW AQ AO

set_option maxHeartbeats 4000000 in
set_option maxRecDepth 20000 in
theorem rvalid_fn (m : Msg) : Sp Try.prog 41 [aggM m] [] (Is (.val (.bool (decide (ValM m))))) := by
  obtain ⟨ty, code, id, tok, opts, pay⟩ := m
  refine Sp.enter Try.func41 rfl _ Try.ntmps41 rfl (fun w0 R0 => ?_)
  refine AW.seq ?_
  refine AW.region ?_
  refine AO.opB (O.box rfl rfl rfl rfl rfl) rfl rfl rfl ?_
  intro B1
  refine AO.op (O.assign rfl rfl) rfl rfl rfl ?_
  refine AO.nil ?_
  refine AQ.thenN ?_
  refine AW.seq ?_
  refine AW.seq ?_
  refine AW.region ?_
  refine AO.op (O.fieldAddr rfl rfl) rfl rfl rfl ?_
  refine AO.op (O.load rfl rfl (by repeat (exact List.Mem.head _)) (by rfl)) rfl rfl rfl ?_
  refine AO.op (O.lss rfl rfl rfl (by rfl)) rfl rfl rfl ?_
  refine AO.op (O.move rfl rfl) rfl rfl rfl ?_
  refine AO.opG rfl rfl rfl (fun hp => O.fieldAddr rfl rfl) ?_
  refine AO.opG rfl rfl rfl (fun hp => OpW.force 11 rfl (by exact hp) (O.load rfl rfl (by repeat (exact List.Mem.head _)) (by rfl))) ?_
  refine AO.opG rfl rfl rfl (fun hp => OpW.force 12 rfl (by exact hp) (O.gtr rfl rfl rfl (by rfl))) ?_
  refine AO.op (O.pickOr rfl rfl rfl rfl (fun h => by exact congrArg (fun b => !b) h)) rfl rfl rfl ?_
  refine AO.op (O.move rfl rfl) rfl rfl rfl ?_
  refine AO.opG rfl rfl rfl (fun hp => O.fieldAddr rfl rfl) ?_
  refine AO.opG rfl rfl rfl (fun hp => OpW.force 16 rfl (by exact hp) (O.load rfl rfl (by repeat (exact List.Mem.head _)) (by rfl))) ?_
  refine AO.opG rfl rfl rfl (fun hp => OpW.force 17 rfl (by exact hp) (O.lss rfl rfl rfl (by rfl))) ?_
  refine AO.op (O.pickOr rfl rfl rfl rfl (fun h => by exact congrArg (fun b => !b) h)) rfl rfl rfl ?_
  refine AO.op (O.move rfl rfl) rfl rfl rfl ?_
  refine AO.opG rfl rfl rfl (fun hp => O.fieldAddr rfl rfl) ?_
  refine AO.opG rfl rfl rfl (fun hp => OpW.force 21 rfl (by exact hp) (O.load rfl rfl (by repeat (exact List.Mem.head _)) (by rfl))) ?_
  refine AO.opG rfl rfl rfl (fun hp => OpW.force 22 rfl (by exact hp) (O.gtr rfl rfl rfl (by rfl))) ?_
  refine AO.op (O.pickOr rfl rfl rfl rfl (fun h => by exact congrArg (fun b => !b) h)) rfl rfl rfl ?_
  refine AO.op (O.move rfl rfl) rfl rfl rfl ?_
  refine AO.opG rfl rfl rfl (fun hp => O.fieldAddr rfl rfl) ?_
  refine AO.opG rfl rfl rfl (fun hp => OpW.force 26 rfl (by exact hp) (O.load rfl rfl (by repeat (exact List.Mem.head _)) (by rfl))) ?_
  refine AO.opG rfl rfl rfl (fun hp => OpW.force 27 rfl (by exact hp) (O.lss rfl rfl rfl (by rfl))) ?_
  refine AO.op (O.pickOr rfl rfl rfl rfl (fun h => by exact congrArg (fun b => !b) h)) rfl rfl rfl ?_
  refine AO.op (O.move rfl rfl) rfl rfl rfl ?_
  refine AO.opG rfl rfl rfl (fun hp => O.fieldAddr rfl rfl) ?_
  refine AO.opG rfl rfl rfl (fun hp => OpW.force 31 rfl (by exact hp) (O.load rfl rfl (by repeat (exact List.Mem.head _)) (by rfl))) ?_
  refine AO.opG rfl rfl rfl (fun hp => OpW.force 32 rfl (by exact hp) (O.gtr rfl rfl rfl (by rfl))) ?_
  refine AO.op (O.pickOr rfl rfl rfl rfl (fun h => by exact congrArg (fun b => !b) h)) rfl rfl rfl ?_
  refine AO.op (O.move rfl rfl) rfl rfl rfl ?_
  refine AO.opG rfl rfl rfl (fun hp => O.fieldAddr rfl rfl) ?_
  refine AO.opG rfl rfl rfl (fun hp => OpW.force 36 rfl (by exact hp) (O.load rfl rfl (by repeat (exact List.Mem.head _)) (by rfl))) ?_
  refine AO.opG rfl rfl rfl (fun hp => OpW.force 37 rfl (by exact hp) (O.lenR rfl rfl)) ?_
  refine AO.opG rfl rfl rfl (fun hp => OpW.force 38 rfl (by exact hp) (O.gtr rfl rfl rfl (by rfl))) ?_
  refine AO.op (O.pickOr rfl rfl rfl rfl (fun h => by exact congrArg (fun b => !b) h)) rfl rfl rfl ?_
  refine AO.op (O.move rfl rfl) rfl rfl rfl ?_
  refine AO.opG rfl rfl rfl (fun hp => O.fieldAddr rfl rfl) ?_
  refine AO.opG rfl rfl rfl (fun hp => OpW.force 42 rfl (by exact hp) (O.load rfl rfl (by repeat (exact List.Mem.head _)) (by rfl))) ?_
  refine AO.opG rfl rfl rfl (fun hp => OpW.force 43 rfl (by exact hp) (O.lenR rfl rfl)) ?_
  refine AO.opG rfl rfl rfl (fun hp => OpW.force 44 rfl (by exact hp) (O.gtr rfl rfl rfl (by rfl))) ?_
  refine AO.op (O.pickOr rfl rfl rfl rfl (fun h => by exact congrArg (fun b => !b) h)) rfl rfl rfl ?_
  refine AO.op (O.move rfl rfl) rfl rfl rfl ?_
  refine AO.opG rfl rfl rfl (fun hp => O.fieldAddr rfl rfl) ?_
  refine AO.opG rfl rfl rfl (fun hp => OpW.force 48 rfl (by exact hp) (O.load rfl rfl (by repeat (exact List.Mem.head _)) (by rfl))) ?_
  refine AO.opG rfl rfl rfl (fun hp => OpW.force 49 rfl (by exact hp) (O.lenR rfl rfl)) ?_
  refine AO.opG rfl rfl rfl (fun hp => OpW.force 50 rfl (by exact hp) (O.gtr rfl rfl rfl (by rfl))) ?_
  refine AO.op (O.pickOr rfl rfl rfl rfl (fun h => by exact congrArg (fun b => !b) h)) rfl rfl rfl ?_
  refine AO.nil ?_
  refine AQ.thenN ?_
  refine AW.split rfl (fun h => ?_) (fun h => ?_) <;> (try simp only [decide_eq_true_eq, decide_eq_false_iff_not, beq_iff_eq, beq_eq_false_iff_ne, bne_iff_ne, bne_eq_false_iff_eq, Bool.not_eq_true', Bool.not_eq_false', Bool.not_eq_true, Bool.not_eq_false, ne_eq, Int.not_lt, Int.not_le, Bool.and_eq_true, Bool.or_eq_true, Bool.or_eq_false_iff, Bool.and_eq_false_imp, strOf_toList, Decidable.not_not] at h)
  · skip
    have e : decide (ValM ⟨ty, code, id, tok, opts, pay⟩) = false := by
      refine decide_eq_false fun hk => ?_
      obtain ⟨⟨⟨a1, a2, a3, a4, a5⟩, ⟨b1, b2, b3, b4⟩, -, -, -, b5⟩, -⟩ := hk
      simp only at *
      omega
    refine AW.seq ?_
    refine AW.region ?_
    refine AO.op (O.assign rfl rfl) rfl rfl rfl ?_
    refine AO.nil ?_
    refine AQ.thenN ?_
    refine AW.ret ?_
    refine AQ.thenR ?_
    refine AQ.ret1 rfl rfl ⟨_, List.nil_sublist _, .nil⟩ (⟨congrArg (fun z => AV.val (.bool z)) e.symm, rfl⟩)
  · skip
    have hq : IntKind.i64.wrap (code.tdiv 32) = code / 32 := by rw [cls_div (by omega), wI64 (by omega)]
    refine AW.skip ?_
    refine AQ.thenN ?_
    refine AW.seq ?_
    refine AW.region ?_
    refine AO.op (O.fieldAddr rfl rfl) rfl rfl rfl ?_
    refine AO.op (O.load rfl rfl (by repeat (exact List.Mem.head _)) (by rfl)) rfl rfl rfl ?_
    refine AO.op (O.quo rfl rfl rfl (by omega) (by rfl)) rfl rfl rfl ?_
    refine AO.op (O.assign rfl rfl) rfl rfl rfl ?_
    refine AO.nil ?_
    refine AQ.thenN ?_
    refine AW.seq ?_
    refine AW.seq ?_
    refine AW.region ?_
    refine AO.op (O.move rfl rfl) rfl rfl rfl ?_
    refine AO.op (O.neq rfl rfl rfl (by rfl)) rfl rfl rfl ?_
    refine AO.op (O.move rfl rfl) rfl rfl rfl ?_
    refine AO.opG rfl rfl rfl (fun hp => O.move rfl rfl) ?_
    refine AO.opG rfl rfl rfl (fun hp => OpW.force 59 rfl (by exact hp) (O.neq rfl rfl rfl (by rfl))) ?_
    refine AO.op (O.pickAnd rfl rfl rfl rfl (fun h => by exact h)) rfl rfl rfl ?_
    refine AO.op (O.move rfl rfl) rfl rfl rfl ?_
    refine AO.opG rfl rfl rfl (fun hp => O.move rfl rfl) ?_
    refine AO.opG rfl rfl rfl (fun hp => OpW.force 63 rfl (by exact hp) (O.neq rfl rfl rfl (by rfl))) ?_
    refine AO.op (O.pickAnd rfl rfl rfl rfl (fun h => by exact h)) rfl rfl rfl ?_
    refine AO.op (O.move rfl rfl) rfl rfl rfl ?_
    refine AO.opG rfl rfl rfl (fun hp => O.move rfl rfl) ?_
    refine AO.opG rfl rfl rfl (fun hp => OpW.force 67 rfl (by exact hp) (O.neq rfl rfl rfl (by rfl))) ?_
    refine AO.op (O.pickAnd rfl rfl rfl rfl (fun h => by exact h)) rfl rfl rfl ?_
    refine AO.nil ?_
    refine AQ.thenN ?_
    refine AW.split rfl (fun h2 => ?_) (fun h2 => ?_) <;> (try simp only [decide_eq_true_eq, decide_eq_false_iff_not, beq_iff_eq, beq_eq_false_iff_ne, bne_iff_ne, bne_eq_false_iff_eq, Bool.not_eq_true', Bool.not_eq_false', Bool.not_eq_true, Bool.not_eq_false, ne_eq, Int.not_lt, Int.not_le, Bool.and_eq_true, Bool.or_eq_true, Bool.or_eq_false_iff, Bool.and_eq_false_imp, strOf_toList, Decidable.not_not] at h2)
    · skip
      have e : decide (ValM ⟨ty, code, id, tok, opts, pay⟩) = false := by
        refine decide_eq_false fun hk => ?_
        obtain ⟨⟨⟨a1, a2, a3, a4, a5⟩, -⟩, -⟩ := hk
        simp only [ClsOk] at *
        rw [hq] at h2
        omega
      refine AW.seq ?_
      refine AW.region ?_
      refine AO.op (O.assign rfl rfl) rfl rfl rfl ?_
      refine AO.nil ?_
      refine AQ.thenN ?_
      refine AW.ret ?_
      refine AQ.thenR ?_
      refine AQ.ret1 rfl rfl ⟨_, List.nil_sublist _, .nil⟩ (⟨congrArg (fun z => AV.val (.bool z)) e.symm, rfl⟩)
    · skip
      refine AW.skip ?_
      refine AQ.thenN ?_
      refine AW.seq ?_
      refine AW.region ?_
      refine AO.op (O.assign rfl rfl) rfl rfl rfl ?_
      refine AO.nil ?_
      refine AQ.thenN ?_
      refine AW.seq ?_
      refine AW.seq ?_
      refine AW.region ?_
      refine AO.op (O.fieldAddr rfl rfl) rfl rfl rfl ?_
      refine AO.op (O.load rfl rfl (by repeat (exact List.Mem.head _)) (by rfl)) rfl rfl rfl ?_
      refine AO.op (O.lenR rfl rfl) rfl rfl rfl ?_
      refine AO.op (O.move rfl rfl) rfl rfl rfl ?_
      refine AO.nil ?_
      refine AQ.thenN ?_
      refine AW.block ?_
      refine AW.loopK [(1, _), (71, _), (72, _)] (fun nn E H => ∃ (k : Nat), (k ≤ opts.length) ∧ (AscO 0 (opts.take k)) ∧ nn = opts.length - k ∧ E = [(4, .val (.int .i64 (lastO 0 (opts.take k)))), (73, .val (.int .i64 (k : Int)))] ∧ H = [.blk B1 31 6 [.val (.int .i64 ty), .val (.int .i64 code), .val (.int .i64 id), roB tok, roO opts, roB pay]]) _ (⟨0, by omega, trivial, rfl, rfl, rfl⟩) (by repeat (first | exact envNil | refine envCons rfl ?_)) (by repeat (first | exact envNil | refine envCons rfl ?_)) (by repeat (first | exact subPnil | refine subPcons 0 rfl ?_)) ?_
      rintro nn E H ⟨k, h1, ha, rfl, rfl, rfl⟩
      dsimp only [List.cons_append, List.nil_append]
      refine AW.seq ?_
      refine AW.region ?_
      refine AO.op (O.lss rfl rfl rfl (by rfl)) rfl rfl rfl ?_
      refine AO.nil ?_
      refine AQ.thenN ?_
      refine AW.seq ?_
      refine AW.split rfl (fun h3 => ?_) (fun h3 => ?_) <;> (try simp only [decide_eq_true_eq, decide_eq_false_iff_not, beq_iff_eq, beq_eq_false_iff_ne, bne_iff_ne, bne_eq_false_iff_eq, Bool.not_eq_true', Bool.not_eq_false', Bool.not_eq_true, Bool.not_eq_false, ne_eq, Int.not_lt, Int.not_le, Bool.and_eq_true, Bool.or_eq_true, Bool.or_eq_false_iff, Bool.and_eq_false_imp, strOf_toList, Decidable.not_not] at h3)
      · skip
        have hk : k < opts.length := by omega
        refine AW.skip ?_
        refine AQ.thenN ?_
        refine AW.seq ?_
        refine AW.block ?_
        refine AW.seq ?_
        refine AW.region ?_
        refine AO.op (O.idxR rfl rfl rfl ⟨(by omega), (by omega)⟩) rfl rfl rfl ?_
        refine AO.op (O.loadRK rfl rfl (by exact getO (by omega) (by omega)) (by rfl)) rfl rfl rfl ?_
        refine AO.opB (O.alloc rfl (by (dsimp only [zerosA, List.replicate, List.append, List.flatten, AV.cells, Value.cells, List.toList_toArray, List.map]; done)) (by rfl)) rfl rfl rfl ?_
        intro B2
        (refine AO.store (i := 0) rfl rfl rfl rfl rfl rfl (by rfl) (by rfl) (by rfl) (by (dsimp only [List.set, List.cons_append, List.nil_append, List.take, List.drop]; done)) (by (dsimp only [List.set, List.cons_append, List.nil_append, List.take, List.drop]; done)) ?_)
        refine AO.nil ?_
        refine AQ.thenN ?_
        refine AW.seq ?_
        refine AW.seq ?_
        refine AW.region ?_
        refine AO.op (O.fieldAddr rfl rfl) rfl rfl rfl ?_
        refine AO.op (O.load rfl rfl (by repeat (exact List.Mem.head _)) (by rfl)) rfl rfl rfl ?_
        refine AO.op (O.move rfl rfl) rfl rfl rfl ?_
        refine AO.op (O.lss rfl rfl rfl (by rfl)) rfl rfl rfl ?_
        refine AO.op (O.move rfl rfl) rfl rfl rfl ?_
        refine AO.opG rfl rfl rfl (fun hp => O.fieldAddr rfl rfl) ?_
        refine AO.opG rfl rfl rfl (fun hp => OpW.force 82 rfl (by exact hp) (O.load rfl rfl (by repeat (exact List.Mem.head _)) (by rfl))) ?_
        refine AO.opG rfl rfl rfl (fun hp => OpW.force 83 rfl (by exact hp) (O.gtr rfl rfl rfl (by rfl))) ?_
        refine AO.op (O.pickOr rfl rfl rfl rfl (fun h => by exact congrArg (fun b => !b) h)) rfl rfl rfl ?_
        refine AO.op (O.move rfl rfl) rfl rfl rfl ?_
        refine AO.opG rfl rfl rfl (fun hp => O.fieldAddr rfl rfl) ?_
        refine AO.opG rfl rfl rfl (fun hp => OpW.force 87 rfl (by exact hp) (O.load rfl rfl (by repeat (exact List.Mem.head _)) (by rfl))) ?_
        refine AO.opG rfl rfl rfl (fun hp => OpW.force 88 rfl (by exact hp) (O.lenR rfl rfl)) ?_
        refine AO.opG rfl rfl rfl (fun hp => OpW.force 89 rfl (by exact hp) (O.gtr rfl rfl rfl (by rfl))) ?_
        refine AO.op (O.pickOr rfl rfl rfl rfl (fun h => by exact congrArg (fun b => !b) h)) rfl rfl rfl ?_
        refine AO.nil ?_
        refine AQ.thenN ?_
        refine AW.split rfl (fun h4 => ?_) (fun h4 => ?_) <;> (try simp only [decide_eq_true_eq, decide_eq_false_iff_not, beq_iff_eq, beq_eq_false_iff_ne, bne_iff_ne, bne_eq_false_iff_eq, Bool.not_eq_true', Bool.not_eq_false', Bool.not_eq_true, Bool.not_eq_false, ne_eq, Int.not_lt, Int.not_le, Bool.and_eq_true, Bool.or_eq_true, Bool.or_eq_false_iff, Bool.and_eq_false_imp, strOf_toList, Decidable.not_not] at h4)
        · skip
          have e : decide (ValM ⟨ty, code, id, tok, opts, pay⟩) = false := by
            refine decide_eq_false fun hk' => ?_
            obtain ⟨⟨-, -, a1, -⟩, -⟩ := hk'
            have := AscO_at a1 hk
            simp only at this
            omega
          refine AW.seq ?_
          refine AW.region ?_
          refine AO.op (O.assign rfl rfl) rfl rfl rfl ?_
          refine AO.nil ?_
          refine AQ.thenN ?_
          refine AW.ret ?_
          refine AQ.thenR ?_
          refine AQ.blockR ?_
          refine AQ.thenR ?_
          refine AQ.loopR ?_
          refine AQ.blockR ?_
          refine AQ.thenR ?_
          refine AQ.ret1 rfl rfl ⟨_, List.nil_sublist _, .nil⟩ (⟨congrArg (fun z => AV.val (.bool z)) e.symm, rfl⟩)
        · skip
          have ha2 : AscO 0 (opts.take (k + 1)) := by
            rw [take_snoc Opt.none hk, AscO_snoc]
            exact ⟨ha, h4.1.1, h4.1.2, h4.2⟩
          have hl2 : lastO 0 (opts.take (k + 1)) = (oat opts k).num := by rw [take_snoc Opt.none hk, lastO_snoc]
          refine AW.skip ?_
          refine AQ.thenN ?_
          refine AW.region ?_
          refine AO.op (O.fieldAddr rfl rfl) rfl rfl rfl ?_
          refine AO.op (O.load rfl rfl (by repeat (exact List.Mem.head _)) (by rfl)) rfl rfl rfl ?_
          refine AO.op (O.assign rfl rfl) rfl rfl rfl ?_
          refine AO.nil ?_
          refine AQ.blockN ?_
          refine AQ.thenN ?_
          refine AW.region ?_
          refine AO.op (O.add rfl rfl rfl (by exact wI64 (by omega))) rfl rfl rfl ?_
          refine AO.op (O.move rfl rfl) rfl rfl rfl ?_
          refine AO.nil ?_
          refine AQ.loopKN _ _ _ (by omega) (⟨k + 1, by omega, ha2, rfl, by rw [hl2], rfl⟩) (by repeat (first | exact envNil | refine envCons rfl ?_)) (by repeat (first | exact envNil | refine envCons rfl ?_)) (by repeat (first | exact subPnil | refine subPcons 1 rfl ?_))
      · skip
        obtain rfl : k = opts.length := by omega
        rw [List.take_length] at ha
        have hw : IntKind.i64.wrap ((tok.length : Int) + opts.length + pay.length) = (tok.length : Int) + opts.length + pay.length := wI64 (by omega)
        refine AW.exit ?_
        refine AQ.thenX ?_
        refine AQ.loopX ?_
        refine AQ.blockX rfl ?_
        refine AQ.thenN ?_
        refine AW.seq ?_
        refine AW.seq ?_
        refine AW.region ?_
        refine AO.op (O.fieldAddr rfl rfl) rfl rfl rfl ?_
        refine AO.op (O.load rfl rfl (by repeat (exact List.Mem.head _)) (by rfl)) rfl rfl rfl ?_
        refine AO.op (O.eql rfl rfl rfl (by rfl)) rfl rfl rfl ?_
        refine AO.op (O.move rfl rfl) rfl rfl rfl ?_
        refine AO.opG rfl rfl rfl (fun hp => O.fieldAddr rfl rfl) ?_
        refine AO.opG rfl rfl rfl (fun hp => OpW.force 99 rfl (by exact hp) (O.load rfl rfl (by repeat (exact List.Mem.head _)) (by rfl))) ?_
        refine AO.opG rfl rfl rfl (fun hp => OpW.force 100 rfl (by exact hp) (O.lenR rfl rfl)) ?_
        refine AO.opG rfl rfl rfl (fun hp => O.fieldAddr rfl rfl) ?_
        refine AO.opG rfl rfl rfl (fun hp => OpW.force 102 rfl (by exact hp) (O.load rfl rfl (by repeat (exact List.Mem.head _)) (by rfl))) ?_
        refine AO.opG rfl rfl rfl (fun hp => OpW.force 103 rfl (by exact hp) (O.lenR rfl rfl)) ?_
        refine AO.opG rfl rfl rfl (fun hp => OpW.force 101 rfl (by exact hp) (OpW.force 104 rfl (by exact hp) (O.add rfl rfl rfl (by exact wI64 (by omega))))) ?_
        refine AO.opG rfl rfl rfl (fun hp => O.fieldAddr rfl rfl) ?_
        refine AO.opG rfl rfl rfl (fun hp => OpW.force 106 rfl (by exact hp) (O.load rfl rfl (by repeat (exact List.Mem.head _)) (by rfl))) ?_
        refine AO.opG rfl rfl rfl (fun hp => OpW.force 107 rfl (by exact hp) (O.lenR rfl rfl)) ?_
        refine AO.opG rfl rfl rfl (fun hp => OpW.force 105 rfl (by exact hp) (OpW.force 108 rfl (by exact hp) (O.add rfl rfl rfl (by exact wI64 (by omega))))) ?_
        refine AO.opG rfl rfl rfl (fun hp => OpW.force 109 rfl (by exact hp) (O.gtr rfl rfl rfl (by rfl))) ?_
        refine AO.op (O.pickAnd rfl rfl rfl rfl (fun h => by exact h)) rfl rfl rfl ?_
        refine AO.op (O.move rfl rfl) rfl rfl rfl ?_
        refine AO.opG rfl rfl rfl (fun hp => O.fieldAddr rfl rfl) ?_
        refine AO.opG rfl rfl rfl (fun hp => OpW.force 113 rfl (by exact hp) (O.load rfl rfl (by repeat (exact List.Mem.head _)) (by rfl))) ?_
        refine AO.opG rfl rfl rfl (fun hp => OpW.force 114 rfl (by exact hp) (O.eql rfl rfl rfl (by rfl))) ?_
        refine AO.opG rfl rfl rfl (fun hp => OpW.force 115 rfl (by exact hp) (O.move rfl rfl)) ?_
        refine AO.opG rfl rfl rfl (fun hp => O.fieldAddr rfl rfl) ?_
        refine AO.opG rfl rfl rfl (fun hp => OpW.force 117 rfl (by exact hp) (O.load rfl rfl (by repeat (exact List.Mem.head _)) (by rfl))) ?_
        refine AO.opG rfl rfl rfl (fun hp => OpW.force 118 rfl (by exact hp) (O.neq rfl rfl rfl (by rfl))) ?_
        refine AO.opG rfl rfl rfl (fun hp => OpW.force 116 rfl (by exact hp) (O.pickAnd rfl rfl rfl rfl (fun h => by simp_all))) ?_
        refine AO.op (O.pickOr rfl rfl rfl rfl (fun h => by exact congrArg (fun b => !b) h)) rfl rfl rfl ?_
        refine AO.nil ?_
        refine AQ.thenN ?_
        refine AW.split rfl (fun h5 => ?_) (fun h5 => ?_) <;> (try simp only [decide_eq_true_eq, decide_eq_false_iff_not, beq_iff_eq, beq_eq_false_iff_ne, bne_iff_ne, bne_eq_false_iff_eq, Bool.not_eq_true', Bool.not_eq_false', Bool.not_eq_true, Bool.not_eq_false, ne_eq, Int.not_lt, Int.not_le, Bool.and_eq_true, Bool.or_eq_true, Bool.or_eq_false_iff, Bool.and_eq_false_imp, strOf_toList, Decidable.not_not] at h5)
        · skip
          have e : decide (ValM ⟨ty, code, id, tok, opts, pay⟩) = false := by
            refine decide_eq_false fun hk' => ?_
            obtain ⟨⟨-, -, -, a1, a3, a2⟩, -⟩ := hk'
            simp only at a1 a2 a3
            omega
          refine AW.seq ?_
          refine AW.region ?_
          refine AO.op (O.assign rfl rfl) rfl rfl rfl ?_
          refine AO.nil ?_
          refine AQ.thenN ?_
          refine AW.ret ?_
          refine AQ.thenR ?_
          refine AQ.ret1 rfl rfl ⟨_, List.nil_sublist _, .nil⟩ (⟨congrArg (fun z => AV.val (.bool z)) e.symm, rfl⟩)
        · skip
          have hm : OkM ⟨ty, code, id, tok, opts, pay⟩ := by
            refine ⟨⟨by simp only; omega, by simp only; omega, by simp only; omega, by simp only; omega, ?_⟩, ⟨by simp only; omega, by simp only; omega, by simp only; omega, by simp only; omega⟩, ha, ?_, ?_, by simp only; omega⟩
            · rw [hq] at h2
              unfold ClsOk; simp only; omega
            · simp only; omega
            · simp only; omega
          have hl := raw_len hm
          refine AW.skip ?_
          refine AQ.thenN ?_
          refine AW.seq ?_
          refine AW.region ?_
          (refine AO.op (O.loadK rfl rfl (by repeat (exact List.Mem.head _)) (by (dsimp only [List.set, List.cons_append, List.nil_append, List.take, List.drop]; done)) (by rfl)) rfl rfl rfl ?_)
          refine AO.op (O.call rfl Try.func55 rfl rfl rfl (raw_fn ⟨ty, code, id, tok, opts, pay⟩ hm)) rfl rfl rfl ?_
          refine AO.op (O.lenR rfl rfl) rfl rfl rfl ?_
          refine AO.op (O.leq rfl rfl rfl (by rfl)) rfl rfl rfl ?_
          refine AO.op (O.assign rfl rfl) rfl rfl rfl ?_
          refine AO.nil ?_
          refine AQ.thenN ?_
          refine AW.ret ?_
          have e : decide (ValM ⟨ty, code, id, tok, opts, pay⟩) = decide (((raw ⟨ty, code, id, tok, opts, pay⟩).length : Int) ≤ 4096) := dec_eq (by simp [ValM, hm])
          refine AQ.ret1 rfl rfl ⟨_, List.nil_sublist _, .nil⟩ (⟨congrArg (fun z => AV.val (.bool z)) e.symm, rfl⟩)
end Go.Proofs.Ytdnmilmcdbgppaa.By

namespace Go.Proofs.Ytdnmilmcdbgppaa.By
open Go.RowKit L A
set_option linter.unusedVariables false
set_option maxRecDepth 20000
set_option linter.unusedSimpArgs false
attribute [local irreducible] AW AQ AO

theorem clone_fn (l : List UInt8) (hl : l.length ≤ 140737488355328) : Sp Try.prog 58 [roB l] [] (Is (roB l)) := by
  refine Sp.enter Try.func58 rfl _ Try.ntmps58 rfl (fun w0 R0 => ?_)
  refine AW.seq ?_
  refine AW.region ?_
  refine AO.op (O.assign rfl rfl) rfl rfl rfl ?_
  refine AO.nil ?_
  refine AQ.thenN ?_
  refine AW.seq ?_
  refine AW.seq ?_
  refine AW.region ?_
  refine AO.op (O.move rfl rfl) rfl rfl rfl ?_
  refine AO.opN (O.eqlNil rfl rfl rfl) rfl rfl rfl ?_
  rintro _ _ ⟨c, rfl, rfl, hnil⟩
  simp only [List.cons_append, List.nil_append]
  refine AO.nil ?_
  refine AQ.thenN ?_
  refine AW.split rfl (fun h => ?_) (fun h => ?_)
  · skip
    obtain rfl : l = [] := List.eq_nil_of_length_eq_zero (hnil (by simp [h]))
    refine AW.seq ?_
    refine AW.region ?_
    refine AO.op (O.assign rfl rfl) rfl rfl rfl ?_
    refine AO.nil ?_
    refine AQ.thenN ?_
    refine AW.ret ?_
    refine AQ.thenR ?_
    refine AQ.g ?_
    refine G.nilRo 2 rfl ?_
    refine AQ.u ?_
    refine AQ.ret1 rfl rfl ⟨_, List.nil_sublist _, .nil⟩ (⟨rfl, rfl⟩)
  · skip
    refine AW.skip ?_
    refine AQ.thenN ?_
    refine AW.seq ?_
    refine AW.region ?_
    refine AO.opRow (O.buildSlice0 rfl) rfl rfl rfl ?_
    intro V hV
    refine AO.op (O.move rfl rfl) rfl rfl rfl ?_
    (refine AO.append' (i := 0) rfl rfl rfl rfl (by rfl) (by rfl) rfl rfl rfl (by exact SrcA.ro TyD.ax (by (simp; done)) (Nat.le_of_ble_eq_true rfl)) (by (simp [AV.cells, AV.one, *]; done)) (by (unfold maxLen; omega)) (by omega) (by (dsimp only [List.set, List.cons_append, List.nil_append, List.take, List.drop]; done)) (fun _ => by (dsimp only [List.set]; done)) ?_)
    intro V hV
    refine AO.op (O.assign rfl rfl) rfl rfl rfl ?_
    refine AO.nil ?_
    refine AQ.thenN ?_
    refine AW.ret ?_
    refine AQ.g ?_
    refine G.freezeRow 0 rfl [2] (by repeat (first | exact frNil | refine frCons rfl ?_)) ?_
    refine AQ.u ?_
    dsimp only [List.map, List.eraseIdx, List.cons_append, List.nil_append]
    refine AQ.ret1 rfl rfl ⟨_, List.nil_sublist _, .nil⟩ (⟨by simp [roB], rfl⟩)
def reqB (c : Int) : Bool := decide (1 ≤ c ∧ c ≤ 31)
def respB (c : Int) : Bool := decide (64 ≤ c ∧ c ≤ 95 ∨ 128 ≤ c ∧ c ≤ 191)
def SmM (m : Msg) : Prop := m.tok.length ≤ 140737488355328 ∧ m.pay.length ≤ 140737488355328 ∧ m.opts.length ≤ 1000000 ∧ ∀ o ∈ m.opts, o.val.length ≤ 140737488355328
theorem SmM.at {m : Msg} (h : SmM m) {k : Nat} (hk : k < m.opts.length) : (oat m.opts k).val.length ≤ 140737488355328 := h.2.2.2 _ (getD_mem _ hk)
set_option maxHeartbeats 4000000 in
theorem copy_fn (m : Msg) (h : SmM m) : Sp Try.prog 51 [aggM m] [] (Is (aggM m)) := by
  have hat := fun k => SmM.at h (k := k)
  obtain ⟨h1, h2, h3, -⟩ := h
  refine Sp.enter Try.func51 rfl _ Try.ntmps51 rfl (fun w0 R0 => ?_)
  refine AW.seq ?_
  refine AW.region ?_
  refine AO.opB (O.box rfl rfl rfl rfl rfl) rfl rfl rfl ?_
  intro B1
  refine AO.opB (O.alloc rfl (by (dsimp only [zerosA, List.replicate, List.append, List.flatten, AV.cells, Value.cells, List.toList_toArray, List.map]; done)) (by rfl)) rfl rfl rfl ?_
  intro B2
  refine AO.nil ?_
  refine AQ.thenN ?_
  refine AW.seq ?_
  refine AW.regionD 7 (by kernel_rfl) (by kernel_rfl) ?_
  simp only [List.take_succ_cons, List.take_zero, List.drop_succ_cons, List.drop_zero]
  refine FA.op (O.fieldAddr rfl rfl) rfl rfl rfl rfl ?_
  refine FA.op (O.load rfl rfl (by repeat (first | exact List.Mem.head _ | refine List.Mem.tail _ ?_)) (by rfl)) rfl rfl rfl rfl ?_
  refine FA.opN (O.appendNil rfl (by rfl) (by rfl) rfl rfl (by exact SrcA.ro TyD.ax (by (simp; done)) (Nat.le_of_ble_eq_true rfl)) (by (simp [AV.cells, AV.one, *]; done)) (by (unfold maxLen; omega)) (by omega)) rfl rfl rfl rfl ?_
  refine FA.op (O.fieldAddr rfl rfl) rfl rfl rfl rfl ?_
  refine FA.op (O.load rfl rfl (by repeat (first | exact List.Mem.head _ | refine List.Mem.tail _ ?_)) (by rfl)) rfl rfl rfl rfl ?_
  refine FA.opN (O.appendNil rfl (by rfl) (by rfl) rfl rfl (by exact SrcA.ro TyD.ax (by (simp; done)) (Nat.le_of_ble_eq_true rfl)) (by (simp [AV.cells, AV.one, *]; done)) (by (unfold maxLen; omega)) (by omega)) rfl rfl rfl rfl ?_
  refine FA.op (O.fieldAddr rfl rfl) rfl rfl rfl rfl ?_
  refine FA.nil ?_
  simp only [chosen, List.nil_append, List.cons_append, List.append_nil]
  rintro _ _ ⟨V3, rfl, hV3, rfl⟩
  rintro _ _ ⟨V4, rfl, hV4, rfl⟩
  simp only [List.cons_append, List.nil_append]
  refine AO.g ?_
  refine G.freezeRow 1 rfl [8] (by repeat (first | exact frNil | refine frCons rfl ?_)) ?_
  refine AO.u ?_
  dsimp only [List.map, List.eraseIdx, List.cons_append, List.nil_append]
  refine AO.g ?_
  refine G.freezeRow 0 rfl [11] (by repeat (first | exact frNil | refine frCons rfl ?_)) ?_
  refine AO.u ?_
  dsimp only [List.map, List.eraseIdx, List.cons_append, List.nil_append]
  (refine AO.store (i := 1) rfl rfl rfl rfl rfl rfl (by rfl) (by rfl) (by rfl) (by (dsimp only [List.set, List.cons_append, List.nil_append, List.take, List.drop]; done)) (by (dsimp only [List.set, List.cons_append, List.nil_append, List.take, List.drop]; done)) ?_)
  refine AO.op (O.fieldAddr rfl rfl) rfl rfl rfl ?_
  (refine AO.store (i := 1) rfl rfl rfl rfl rfl rfl (by rfl) (by rfl) (by rfl) (by (dsimp only [List.set, List.cons_append, List.nil_append, List.take, List.drop]; done)) (by (dsimp only [List.set, List.cons_append, List.nil_append, List.take, List.drop]; done)) ?_)
  refine AO.nil ?_
  refine AQ.thenN ?_
  refine AW.seq ?_
  refine AW.region ?_
  refine AO.op (O.assign rfl rfl) rfl rfl rfl ?_
  refine AO.nil ?_
  refine AQ.thenN ?_
  refine AW.seq ?_
  refine AW.seq ?_
  refine AW.region ?_
  refine AO.op (O.fieldAddr rfl rfl) rfl rfl rfl ?_
  refine AO.op (O.load rfl rfl (by repeat (first | exact List.Mem.head _ | refine List.Mem.tail _ ?_)) (by rfl)) rfl rfl rfl ?_
  refine AO.op (O.lenR rfl rfl) rfl rfl rfl ?_
  refine AO.op (O.move rfl rfl) rfl rfl rfl ?_
  refine AO.nil ?_
  refine AQ.thenN ?_
  refine AW.block ?_
  refine AW.g ?_
  refine G.nilRow 88 2 ?_
  refine AW.u ?_
  refine AW.loopK [(1, _), (2, _), (15, _), (16, _)] (fun nn E H => ∃ (k : Nat) (V : Value), (k ≤ m.opts.length) ∧ (V.oneCell' = true) ∧ nn = m.opts.length - k ∧ E = [(3, .val V), (17, .val (.int .i64 (k : Int)))] ∧ H = [.row V 88 2 k (optsA (m.opts.take k)), .blk B2 31 6 [.val (.int .i64 0), .val (.int .i64 0), .val (.int .i64 0), .val (.slice none 0 0), .val (.slice none 0 0), .val (.slice none 0 0)], .blk B1 31 6 [.val (.int .i64 m.ty), .val (.int .i64 m.code), .val (.int .i64 m.id), roB m.tok, roO m.opts, roB m.pay]]) _ (⟨0, _, by omega, rfl, rfl, rfl, rfl⟩) (by repeat (first | exact envNil | refine envCons rfl ?_)) (by repeat (first | exact envNil | refine envCons rfl ?_)) (by repeat (first | exact subPnil | refine subPcons 0 rfl ?_)) ?_
  rintro nn E H ⟨k, V, h4, hV, rfl, rfl, rfl⟩
  dsimp only [List.cons_append, List.nil_append]
  refine AW.seq ?_
  refine AW.region ?_
  refine AO.op (O.lss rfl rfl rfl (by rfl)) rfl rfl rfl ?_
  refine AO.nil ?_
  refine AQ.thenN ?_
  refine AW.seq ?_
  refine AW.split rfl (fun h5 => ?_) (fun h5 => ?_) <;> (try simp only [decide_eq_true_eq, decide_eq_false_iff_not, beq_iff_eq, beq_eq_false_iff_ne, bne_iff_ne, bne_eq_false_iff_eq, Bool.not_eq_true', Bool.not_eq_false', Bool.not_eq_true, Bool.not_eq_false, ne_eq, Int.not_lt, Int.not_le, Bool.and_eq_true, Bool.or_eq_true, Bool.or_eq_false_iff, Bool.and_eq_false_imp, strOf_toList, Decidable.not_not] at h5)
  · skip
    have hk : k < m.opts.length := by omega
    have hv := hat k hk
    have hsc : optsA (m.opts.take (k + 1)) = optsA (m.opts.take k) ++ [.val (.int .i64 (oat m.opts k).num), roB (oat m.opts k).val] := by rw [take_snoc Opt.none hk, optsA_snoc]
    refine AW.skip ?_
    refine AQ.thenN ?_
    refine AW.seq ?_
    refine AW.block ?_
    refine AW.seq ?_
    refine AW.region ?_
    refine AO.op (O.idxR rfl rfl rfl ⟨(by omega), (by omega)⟩) rfl rfl rfl ?_
    refine AO.op (O.loadRK rfl rfl (by exact getO (by omega) (by omega)) (by rfl)) rfl rfl rfl ?_
    refine AO.opB (O.alloc rfl (by (dsimp only [zerosA, List.replicate, List.append, List.flatten, AV.cells, Value.cells, List.toList_toArray, List.map]; done)) (by rfl)) rfl rfl rfl ?_
    intro B5
    (refine AO.store (i := 0) rfl rfl rfl rfl rfl rfl (by rfl) (by rfl) (by rfl) (by (dsimp only [List.set, List.cons_append, List.nil_append, List.take, List.drop]; done)) (by (dsimp only [List.set, List.cons_append, List.nil_append, List.take, List.drop]; done)) ?_)
    refine AO.nil ?_
    refine AQ.thenN ?_
    refine AW.regionM [(0, false), (1, false), (2, false), (3, false), (4, false), (5, true), (6, false), (7, false), (8, true), (9, true)] (by kernel_rfl) (by kernel_rfl) (by exact (by exact splitRow 3 1 rfl rfl splitNil)) ?_
    dsimp only [List.eraseIdx]
    refine AM.op rfl (O.move rfl rfl) rfl rfl rfl ?_
    refine AM.op rfl (O.fieldAddr rfl rfl) rfl rfl rfl ?_
    refine AM.op rfl (O.load rfl rfl (by repeat (exact List.Mem.head _)) (by rfl)) rfl rfl rfl ?_
    refine AM.op rfl (O.fieldAddr rfl rfl) rfl rfl rfl ?_
    refine AM.op rfl (O.load rfl rfl (by repeat (exact List.Mem.head _)) (by rfl)) rfl rfl rfl ?_
    refine AM.main _ rfl (fun w0 R0 => ?_)
    refine AO.opRow (O.appendNil rfl (by rfl) (by rfl) rfl rfl (by exact SrcA.ro TyD.ax (by (simp; done)) (Nat.le_of_ble_eq_true rfl)) (by (simp [AV.cells, AV.one, *]; done)) (by (unfold maxLen; omega)) (by omega)) rfl rfl rfl ?_
    intro V6 hV6
    refine AO.g ?_
    refine G.freezeRow 0 rfl [26] (by repeat (first | exact frNil | refine frCons rfl ?_)) ?_
    refine AO.u ?_
    dsimp only [List.map, List.eraseIdx, List.cons_append, List.nil_append]
    refine AM.ok ?_
    dsimp only [putE]
    refine AM.op rfl (O.build rfl rfl rfl (by rfl)) rfl rfl rfl ?_
    refine AM.op rfl (OpW.frz (O.buildSlice rfl rfl rfl (by rfl) (by rfl) (by rfl) (by rfl)) (by (unfold maxLen; omega))) rfl rfl rfl ?_
    refine AM.main _ rfl (fun w0 R0 => ?_)
    (refine AO.append' (i := 0) rfl rfl rfl rfl (by rfl) (by rfl) rfl rfl rfl (by exact SrcA.ro TyD.ax (by rfl) (Nat.le_of_ble_eq_true rfl)) (by rfl) (by (unfold maxLen; omega)) (by omega) (by (dsimp only [List.set, List.cons_append, List.nil_append, List.take, List.drop]; done)) (fun _ => by (dsimp only [List.set]; done)) ?_)
    intro V7 hV7
    refine AM.ok ?_
    dsimp only [putE]
    refine AM.main _ rfl (fun w0 R0 => ?_)
    refine AO.op (O.assign rfl rfl) rfl rfl rfl ?_
    refine AM.ok ?_
    dsimp only [putE]
    refine AM.nil ?_
    dsimp only [List.cons_append, List.nil_append]
    refine AQ.blockN ?_
    refine AQ.thenN ?_
    refine AW.region ?_
    refine AO.op (O.add rfl rfl rfl (by exact wI64 (by omega))) rfl rfl rfl ?_
    refine AO.op (O.move rfl rfl) rfl rfl rfl ?_
    refine AO.nil ?_
    refine AQ.loopKN _ _ _ (by omega) (⟨k + 1, _, by omega, ‹_›, rfl, rfl, by rw [hsc]⟩) (by repeat (first | exact envNil | refine envCons rfl ?_)) (by repeat (first | exact envNil | refine envCons rfl ?_)) (by repeat (first | exact subPnil | refine subPcons 0 rfl ?_ | refine subPcons 1 rfl ?_))
  · skip
    obtain rfl : k = m.opts.length := by omega
    rw [List.take_length]
    refine AW.g ?_
    refine G.freezeRow 0 rfl [3] (by repeat (first | exact frNil | refine frCons rfl ?_)) ?_
    refine AW.u ?_
    try dsimp only [List.map, List.eraseIdx, List.cons_append, List.nil_append]
    refine AW.exit ?_
    refine AQ.thenX ?_
    refine AQ.loopX ?_
    refine AQ.blockX rfl ?_
    refine AQ.thenN ?_
    refine AW.seq ?_
    refine AW.region ?_
    refine AO.op (O.move rfl rfl) rfl rfl rfl ?_
    refine AO.op (O.fieldAddr rfl rfl) rfl rfl rfl ?_
    (refine AO.store (i := 1) rfl rfl rfl rfl rfl rfl (by rfl) (by rfl) (by rfl) (by (dsimp only [List.set, List.cons_append, List.nil_append, List.take, List.drop]; done)) (by (dsimp only [List.set, List.cons_append, List.nil_append, List.take, List.drop]; done)) ?_)
    refine AO.nil ?_
    refine AQ.thenN ?_
    refine AW.seq ?_
    refine AW.region ?_
    (refine AO.op (O.loadK rfl rfl (by repeat (first | exact List.Mem.head _ | refine List.Mem.tail _ ?_)) (by (dsimp only [List.set, List.cons_append, List.nil_append, List.take, List.drop]; done)) (by rfl)) rfl rfl rfl ?_)
    (refine AO.store (i := 0) rfl rfl rfl rfl rfl rfl (by rfl) (by rfl) (by rfl) (by (dsimp only [List.set, List.cons_append, List.nil_append, List.take, List.drop]; done)) (by (dsimp only [List.set, List.cons_append, List.nil_append, List.take, List.drop]; done)) ?_)
    refine AO.nil ?_
    refine AQ.thenN ?_
    refine AW.ret ?_
    refine AQ.retCell rfl rfl (by repeat (exact List.Mem.head _)) (by rfl) rfl ⟨_, List.nil_sublist _, .nil⟩ (⟨rfl, rfl⟩)
end Go.Proofs.Ytdnmilmcdbgppaa.By

namespace Go.Proofs.Ytdnmilmcdbgppaa.By
open Go.RowKit L A
set_option linter.unusedVariables false
set_option maxRecDepth 20000
set_option linter.unusedSimpArgs false
attribute [local irreducible] AW AQ AO
theorem opt_ext : ∀ {x y : Opt}, x.num = y.num → x.val = y.val → x = y
  | ⟨_, _⟩, ⟨_, _⟩, rfl, rfl => rfl
theorem opts_eq {a b : List Opt} (h : a.length = b.length) (h2 : ∀ k, k < a.length → oat a k = oat b k) : a = b := by
  refine List.ext_getElem h fun k h3 h4 => ?_
  have := h2 k h3
  simpa [oat, h3, h4] using this
set_option maxHeartbeats 4000000 in
theorem same_fn (a b : Msg) (h0 : a.opts.length ≤ 140737488355328) : Sp Try.prog 21 [aggM a, aggM b] [] (Is (.val (.bool (decide (a = b))))) := by
  refine Sp.enter Try.func21 rfl _ Try.ntmps21 rfl (fun w0 R0 => ?_)
  refine AW.seq ?_
  refine AW.region ?_
  refine AO.opB (O.box rfl rfl rfl rfl rfl) rfl rfl rfl ?_
  intro B1
  refine AO.opB (O.box rfl rfl rfl rfl rfl) rfl rfl rfl ?_
  intro B2
  refine AO.op (O.assign rfl rfl) rfl rfl rfl ?_
  refine AO.nil ?_
  refine AQ.thenN ?_
  refine AW.seq ?_
  refine AW.seq ?_
  refine AW.region ?_
  refine AO.op (O.fieldAddr rfl rfl) rfl rfl rfl ?_
  refine AO.op (O.load rfl rfl (by repeat (first | exact List.Mem.head _ | refine List.Mem.tail _ ?_)) (by rfl)) rfl rfl rfl ?_
  refine AO.op (O.fieldAddr rfl rfl) rfl rfl rfl ?_
  refine AO.op (O.load rfl rfl (by repeat (exact List.Mem.head _)) (by rfl)) rfl rfl rfl ?_
  refine AO.op (O.neq rfl rfl rfl (by rfl)) rfl rfl rfl ?_
  refine AO.op (O.move rfl rfl) rfl rfl rfl ?_
  refine AO.opG rfl rfl rfl (fun hp => O.fieldAddr rfl rfl) ?_
  refine AO.opG rfl rfl rfl (fun hp => OpW.force 13 rfl (by exact hp) (O.load rfl rfl (by repeat (first | exact List.Mem.head _ | refine List.Mem.tail _ ?_)) (by rfl))) ?_
  refine AO.opG rfl rfl rfl (fun hp => O.fieldAddr rfl rfl) ?_
  refine AO.opG rfl rfl rfl (fun hp => OpW.force 15 rfl (by exact hp) (O.load rfl rfl (by repeat (exact List.Mem.head _)) (by rfl))) ?_
  refine AO.opG rfl rfl rfl (fun hp => OpW.force 14 rfl (by exact hp) (OpW.force 16 rfl (by exact hp) (O.neq rfl rfl rfl (by rfl)))) ?_
  refine AO.op (O.pickOr rfl rfl rfl rfl (fun h => by exact congrArg (fun b => !b) h)) rfl rfl rfl ?_
  refine AO.op (O.move rfl rfl) rfl rfl rfl ?_
  refine AO.opG rfl rfl rfl (fun hp => O.fieldAddr rfl rfl) ?_
  refine AO.opG rfl rfl rfl (fun hp => OpW.force 20 rfl (by exact hp) (O.load rfl rfl (by repeat (first | exact List.Mem.head _ | refine List.Mem.tail _ ?_)) (by rfl))) ?_
  refine AO.opG rfl rfl rfl (fun hp => O.fieldAddr rfl rfl) ?_
  refine AO.opG rfl rfl rfl (fun hp => OpW.force 22 rfl (by exact hp) (O.load rfl rfl (by repeat (exact List.Mem.head _)) (by rfl))) ?_
  refine AO.opG rfl rfl rfl (fun hp => OpW.force 21 rfl (by exact hp) (OpW.force 23 rfl (by exact hp) (O.neq rfl rfl rfl (by rfl)))) ?_
  refine AO.op (O.pickOr rfl rfl rfl rfl (fun h => by exact congrArg (fun b => !b) h)) rfl rfl rfl ?_
  refine AO.op (O.move rfl rfl) rfl rfl rfl ?_
  refine AO.opG rfl rfl rfl (fun hp => O.fieldAddr rfl rfl) ?_
  refine AO.opG rfl rfl rfl (fun hp => OpW.force 27 rfl (by exact hp) (O.load rfl rfl (by repeat (first | exact List.Mem.head _ | refine List.Mem.tail _ ?_)) (by rfl))) ?_
  refine AO.opG rfl rfl rfl (fun hp => OpW.force 28 rfl (by exact hp) (O.convS rfl rfl (by rfl))) ?_
  refine AO.opG rfl rfl rfl (fun hp => O.fieldAddr rfl rfl) ?_
  refine AO.opG rfl rfl rfl (fun hp => OpW.force 30 rfl (by exact hp) (O.load rfl rfl (by repeat (exact List.Mem.head _)) (by rfl))) ?_
  refine AO.opG rfl rfl rfl (fun hp => OpW.force 31 rfl (by exact hp) (O.convS rfl rfl (by rfl))) ?_
  refine AO.opG rfl rfl rfl (fun hp => OpW.force 29 rfl (by exact hp) (OpW.force 32 rfl (by exact hp) (O.neqS rfl rfl rfl (by rfl)))) ?_
  refine AO.op (O.pickOr rfl rfl rfl rfl (fun h => by exact congrArg (fun b => !b) h)) rfl rfl rfl ?_
  refine AO.op (O.move rfl rfl) rfl rfl rfl ?_
  refine AO.opG rfl rfl rfl (fun hp => O.fieldAddr rfl rfl) ?_
  refine AO.opG rfl rfl rfl (fun hp => OpW.force 36 rfl (by exact hp) (O.load rfl rfl (by repeat (first | exact List.Mem.head _ | refine List.Mem.tail _ ?_)) (by rfl))) ?_
  refine AO.opG rfl rfl rfl (fun hp => OpW.force 37 rfl (by exact hp) (O.convS rfl rfl (by rfl))) ?_
  refine AO.opG rfl rfl rfl (fun hp => O.fieldAddr rfl rfl) ?_
  refine AO.opG rfl rfl rfl (fun hp => OpW.force 39 rfl (by exact hp) (O.load rfl rfl (by repeat (exact List.Mem.head _)) (by rfl))) ?_
  refine AO.opG rfl rfl rfl (fun hp => OpW.force 40 rfl (by exact hp) (O.convS rfl rfl (by rfl))) ?_
  refine AO.opG rfl rfl rfl (fun hp => OpW.force 38 rfl (by exact hp) (OpW.force 41 rfl (by exact hp) (O.neqS rfl rfl rfl (by rfl)))) ?_
  refine AO.op (O.pickOr rfl rfl rfl rfl (fun h => by exact congrArg (fun b => !b) h)) rfl rfl rfl ?_
  refine AO.op (O.move rfl rfl) rfl rfl rfl ?_
  refine AO.opG rfl rfl rfl (fun hp => O.fieldAddr rfl rfl) ?_
  refine AO.opG rfl rfl rfl (fun hp => OpW.force 45 rfl (by exact hp) (O.load rfl rfl (by repeat (first | exact List.Mem.head _ | refine List.Mem.tail _ ?_)) (by rfl))) ?_
  refine AO.opG rfl rfl rfl (fun hp => OpW.force 46 rfl (by exact hp) (O.lenR rfl rfl)) ?_
  refine AO.opG rfl rfl rfl (fun hp => O.fieldAddr rfl rfl) ?_
  refine AO.opG rfl rfl rfl (fun hp => OpW.force 48 rfl (by exact hp) (O.load rfl rfl (by repeat (exact List.Mem.head _)) (by rfl))) ?_
  refine AO.opG rfl rfl rfl (fun hp => OpW.force 49 rfl (by exact hp) (O.lenR rfl rfl)) ?_
  refine AO.opG rfl rfl rfl (fun hp => OpW.force 47 rfl (by exact hp) (OpW.force 50 rfl (by exact hp) (O.neq rfl rfl rfl (by rfl)))) ?_
  refine AO.op (O.pickOr rfl rfl rfl rfl (fun h => by exact congrArg (fun b => !b) h)) rfl rfl rfl ?_
  refine AO.nil ?_
  refine AQ.thenN ?_
  refine AW.split rfl (fun h => ?_) (fun h => ?_) <;> (try simp only [decide_eq_true_eq, decide_eq_false_iff_not, beq_iff_eq, beq_eq_false_iff_ne, bne_iff_ne, bne_eq_false_iff_eq, Bool.not_eq_true', Bool.not_eq_false', Bool.not_eq_true, Bool.not_eq_false, ne_eq, Int.not_lt, Int.not_le, Bool.and_eq_true, Bool.or_eq_true, Bool.or_eq_false_iff, Bool.and_eq_false_imp, strOf_toList, Decidable.not_not] at h)
  · skip
    have e : decide (a = b) = false := decide_eq_false fun e => by subst e; simp at h
    refine AW.seq ?_
    refine AW.region ?_
    refine AO.op (O.assign rfl rfl) rfl rfl rfl ?_
    refine AO.nil ?_
    refine AQ.thenN ?_
    refine AW.ret ?_
    refine AQ.thenR ?_
    refine AQ.ret1 rfl rfl ⟨_, List.nil_sublist _, .nil⟩ (⟨congrArg (fun z => AV.val (.bool z)) e.symm, rfl⟩)
  · skip
    have hl : a.opts.length = b.opts.length := by omega
    refine AW.skip ?_
    refine AQ.thenN ?_
    refine AW.seq ?_
    refine AW.seq ?_
    refine AW.region ?_
    refine AO.op (O.fieldAddr rfl rfl) rfl rfl rfl ?_
    refine AO.op (O.load rfl rfl (by repeat (first | exact List.Mem.head _ | refine List.Mem.tail _ ?_)) (by rfl)) rfl rfl rfl ?_
    refine AO.op (O.lenR rfl rfl) rfl rfl rfl ?_
    refine AO.op (O.move rfl rfl) rfl rfl rfl ?_
    refine AO.nil ?_
    refine AQ.thenN ?_
    refine AW.block ?_
    refine AW.loopK [(3, _), (54, _), (55, _)] (fun nn E H => ∃ (k : Nat), (k ≤ a.opts.length) ∧ ((∀ i, i < k → oat a.opts i = oat b.opts i)) ∧ nn = a.opts.length - k ∧ E = [(56, .val (.int .i64 (k : Int)))] ∧ H = [.blk B2 31 6 [.val (.int .i64 b.ty), .val (.int .i64 b.code), .val (.int .i64 b.id), roB b.tok, roO b.opts, roB b.pay], .blk B1 31 6 [.val (.int .i64 a.ty), .val (.int .i64 a.code), .val (.int .i64 a.id), roB a.tok, roO a.opts, roB a.pay]]) _ (⟨0, by omega, fun i hi => absurd hi (by omega), rfl, rfl, rfl⟩) (by repeat (first | exact envNil | refine envCons rfl ?_)) (by repeat (first | exact envNil | refine envCons rfl ?_)) (by repeat (first | exact subPnil | refine subPcons 0 rfl ?_)) ?_
    rintro nn E H ⟨k, h4, ha, rfl, rfl, rfl⟩
    dsimp only [List.cons_append, List.nil_append]
    refine AW.seq ?_
    refine AW.region ?_
    refine AO.op (O.lss rfl rfl rfl (by rfl)) rfl rfl rfl ?_
    refine AO.nil ?_
    refine AQ.thenN ?_
    refine AW.seq ?_
    refine AW.split rfl (fun h5 => ?_) (fun h5 => ?_) <;> (try simp only [decide_eq_true_eq, decide_eq_false_iff_not, beq_iff_eq, beq_eq_false_iff_ne, bne_iff_ne, bne_eq_false_iff_eq, Bool.not_eq_true', Bool.not_eq_false', Bool.not_eq_true, Bool.not_eq_false, ne_eq, Int.not_lt, Int.not_le, Bool.and_eq_true, Bool.or_eq_true, Bool.or_eq_false_iff, Bool.and_eq_false_imp, strOf_toList, Decidable.not_not] at h5)
    · skip
      have hk : k < a.opts.length := by omega
      have hk2 : k < b.opts.length := by omega
      refine AW.skip ?_
      refine AQ.thenN ?_
      refine AW.seq ?_
      refine AW.block ?_
      refine AW.seq ?_
      refine AW.region ?_
      refine AO.op (O.move rfl rfl) rfl rfl rfl ?_
      refine AO.op (O.idxR rfl rfl rfl ⟨(by omega), (by omega)⟩) rfl rfl rfl ?_
      refine AO.op (O.loadRK rfl rfl (by exact getO (by omega) (by omega)) (by rfl)) rfl rfl rfl ?_
      refine AO.opB (O.alloc rfl (by (dsimp only [zerosA, List.replicate, List.append, List.flatten, AV.cells, Value.cells, List.toList_toArray, List.map]; done)) (by rfl)) rfl rfl rfl ?_
      intro B3
      refine AO.op (O.assign rfl rfl) rfl rfl rfl ?_
      (refine AO.store (i := 0) rfl rfl rfl rfl rfl rfl (by rfl) (by rfl) (by rfl) (by (dsimp only [List.set, List.cons_append, List.nil_append, List.take, List.drop]; done)) (by (dsimp only [List.set, List.cons_append, List.nil_append, List.take, List.drop]; done)) ?_)
      refine AO.nil ?_
      refine AQ.thenN ?_
      refine AW.seq ?_
      refine AW.regionD 22 (by kernel_rfl) (by kernel_rfl) ?_
      simp only [List.take_succ_cons, List.take_zero, List.drop_succ_cons, List.drop_zero]
      refine FA.op (O.fieldAddr rfl rfl) rfl rfl rfl rfl ?_
      refine FA.op (O.load rfl rfl (by repeat (exact List.Mem.head _)) (by rfl)) rfl rfl rfl rfl ?_
      refine FA.op (O.fieldAddr rfl rfl) rfl rfl rfl rfl ?_
      refine FA.op (O.load rfl rfl (by repeat (first | exact List.Mem.head _ | refine List.Mem.tail _ ?_)) (by rfl)) rfl rfl rfl rfl ?_
      refine FA.op (O.move rfl rfl) rfl rfl rfl rfl ?_
      refine FA.op (O.idxR rfl rfl rfl ⟨(by omega), (by omega)⟩) rfl rfl rfl rfl ?_
      refine FA.op (O.fieldAddrR rfl rfl) rfl rfl rfl rfl ?_
      refine FA.op (O.loadR rfl rfl (by exact getOn (by omega) (by omega))) rfl rfl rfl rfl ?_
      refine FA.op (O.neq rfl rfl rfl (by rfl)) rfl rfl rfl rfl ?_
      refine FA.op (O.move rfl rfl) rfl rfl rfl rfl ?_
      refine FA.opG rfl rfl rfl rfl (fun hp => O.fieldAddr rfl rfl) ?_
      refine FA.opG rfl rfl rfl rfl (fun hp => OpW.force 71 rfl (by exact hp) (O.load rfl rfl (by repeat (exact List.Mem.head _)) (by rfl))) ?_
      refine FA.opG rfl rfl rfl rfl (fun hp => OpW.force 72 rfl (by exact hp) (O.convS rfl rfl (by rfl))) ?_
      refine FA.opG rfl rfl rfl rfl (fun hp => O.fieldAddr rfl rfl) ?_
      refine FA.opG rfl rfl rfl rfl (fun hp => OpW.force 74 rfl (by exact hp) (O.load rfl rfl (by repeat (first | exact List.Mem.head _ | refine List.Mem.tail _ ?_)) (by rfl))) ?_
      refine FA.opG rfl rfl rfl rfl (fun hp => O.move rfl rfl) ?_
      refine FA.opG rfl rfl rfl rfl (fun hp => OpW.force 75 rfl (by exact hp) (OpW.force 76 rfl (by exact hp) (O.idxR rfl rfl rfl ⟨(by omega), (by omega)⟩))) ?_
      refine FA.opG rfl rfl rfl rfl (fun hp => OpW.force 77 rfl (by exact hp) (O.fieldAddrR rfl rfl)) ?_
      refine FA.opG rfl rfl rfl rfl (fun hp => OpW.force 78 rfl (by exact hp) (O.loadR rfl rfl (by exact getOv (by omega) (by omega)))) ?_
      refine FA.opG rfl rfl rfl rfl (fun hp => OpW.force 79 rfl (by exact hp) (O.convS rfl rfl (by rfl))) ?_
      refine FA.opG rfl rfl rfl rfl (fun hp => OpW.force 73 rfl (by exact hp) (OpW.force 80 rfl (by exact hp) (O.neqS rfl rfl rfl (by rfl)))) ?_
      refine FA.op (O.pickOr rfl rfl rfl rfl (fun h => by exact congrArg (fun b => !b) h)) rfl rfl rfl rfl ?_
      refine FA.nil ?_
      simp only [chosen, List.nil_append, List.cons_append, List.append_nil]
      refine AO.nil ?_
      refine AQ.thenN ?_
      refine AW.split rfl (fun h6 => ?_) (fun h6 => ?_) <;> (try simp only [decide_eq_true_eq, decide_eq_false_iff_not, beq_iff_eq, beq_eq_false_iff_ne, bne_iff_ne, bne_eq_false_iff_eq, Bool.not_eq_true', Bool.not_eq_false', Bool.not_eq_true, Bool.not_eq_false, ne_eq, Int.not_lt, Int.not_le, Bool.and_eq_true, Bool.or_eq_true, Bool.or_eq_false_iff, Bool.and_eq_false_imp, strOf_toList, Decidable.not_not] at h6)
      · skip
        have e : decide (a = b) = false := decide_eq_false fun e => by subst e; simp at h6
        refine AW.seq ?_
        refine AW.region ?_
        refine AO.op (O.assign rfl rfl) rfl rfl rfl ?_
        refine AO.nil ?_
        refine AQ.thenN ?_
        refine AW.ret ?_
        refine AQ.blockR ?_
        refine AQ.thenR ?_
        refine AQ.loopR ?_
        refine AQ.blockR ?_
        refine AQ.thenR ?_
        refine AQ.ret1 rfl rfl ⟨_, List.nil_sublist _, .nil⟩ (⟨congrArg (fun z => AV.val (.bool z)) e.symm, rfl⟩)
      · skip
        have ha2 : ∀ i, i < k + 1 → oat a.opts i = oat b.opts i := by
          intro i hi
          rcases Nat.lt_or_ge i k with h7 | h7
          · exact ha i h7
          · obtain rfl : i = k := by omega
            exact opt_ext h6.1 h6.2
        refine AW.skip ?_
        refine AQ.blockN ?_
        refine AQ.thenN ?_
        refine AW.region ?_
        refine AO.op (O.add rfl rfl rfl (by exact wI64 (by omega))) rfl rfl rfl ?_
        refine AO.op (O.move rfl rfl) rfl rfl rfl ?_
        refine AO.nil ?_
        refine AQ.loopKN _ _ _ (by omega) (⟨k + 1, by omega, ha2, rfl, rfl, rfl⟩) (by repeat (first | exact envNil | refine envCons rfl ?_)) (by repeat (first | exact envNil | refine envCons rfl ?_)) (by repeat (first | exact subPnil | refine subPcons 1 rfl ?_))
    · skip
      have e : decide (a = b) = true := decide_eq_true (by
        have := opts_eq hl fun i hi => ha i (by omega)
        obtain ⟨⟨⟨⟨⟨e1, e2⟩, e3⟩, e4⟩, e5⟩, -⟩ := h
        obtain ⟨_, _, _, _, _, _⟩ := a
        obtain ⟨_, _, _, _, _, _⟩ := b
        simp_all)
      refine AW.exit ?_
      refine AQ.thenX ?_
      refine AQ.loopX ?_
      refine AQ.blockX rfl ?_
      refine AQ.thenN ?_
      refine AW.seq ?_
      refine AW.region ?_
      refine AO.op (O.assign rfl rfl) rfl rfl rfl ?_
      refine AO.nil ?_
      refine AQ.thenN ?_
      refine AW.ret ?_
      refine AQ.ret1 rfl rfl ⟨_, List.nil_sublist _, .nil⟩ (⟨congrArg (fun z => AV.val (.bool z)) e.symm, rfl⟩)

def replyM (m : Msg) (code : Int) (os : List Opt) (pay : List UInt8) : Msg := ⟨if m.ty = 0 then 2 else 1, code, if m.ty = 0 then m.id else 0, m.tok, os, pay⟩
def replyR (m : Msg) (code : Int) (os : List Opt) (pay : List UInt8) : Msg × Int :=
  if ValM m ∧ reqB m.code = true then (if respB code = true ∧ ValM (replyM m code os pay) then (replyM m code os pay, 0) else (Msg.none, 4)) else (Msg.none, 1)
abbrev resM (r : Msg × Int) : AV := .tup [aggM r.1, .val (.int .i64 r.2)]
end Go.Proofs.Ytdnmilmcdbgppaa.By

namespace Go.Proofs.Ytdnmilmcdbgppaa.By
open Go.RowKit L A
set_option linter.unusedVariables false
set_option maxRecDepth 20000
set_option linter.unusedSimpArgs false
attribute [local irreducible] AW AQ AO
theorem and_dec {p q : Prop} [Decidable p] [Decidable q] : (decide p && decide q) = decide (p ∧ q) := by by_cases h : p <;> by_cases g : q <;> simp [h, g]
theorem retD {a b : Bool} (e : a = b) : Is (.val (.bool b)) (.val (.bool a)) [] := ⟨by rw [e], rfl⟩
theorem peerOK_fn (n : Int) : Sp Try.prog 37 [.val (.int .i64 n)] [] (Is (.val (.bool (decide (PeerOk n))))) := by
  refine Sp.enter Try.func37 rfl _ Try.ntmps37 rfl (fun w0 R0 => ?_)
  refine AW.seq ?_
  refine AW.region ?_
  refine AO.op (O.assign rfl rfl) rfl rfl rfl ?_
  refine AO.nil ?_
  refine AQ.thenN ?_
  refine AW.seq ?_
  refine AW.region ?_
  refine AO.op (O.move rfl rfl) rfl rfl rfl ?_
  refine AO.op (O.geq rfl rfl rfl (by first | exact bTrue (by omega) | exact bFalse (by omega) | assumption | rfl)) rfl rfl rfl ?_
  refine AO.op (O.move rfl rfl) rfl rfl rfl ?_
  first | (refine AO.opG rfl rfl rfl (fun hp => O.move rfl rfl) ?_) | (refine AO.op (O.move rfl rfl) rfl rfl rfl ?_) | (refine AO.no rfl rfl rfl ?_)
  first | (refine AO.opG rfl rfl rfl (fun hp => OpW.force 6 rfl (by first | exact hp | simp_all) (O.leq rfl rfl rfl (by first | exact bTrue (by omega) | exact bFalse (by omega) | assumption | rfl))) ?_) | (refine AO.op (O.leq rfl rfl rfl (by first | exact bTrue (by omega) | exact bFalse (by omega) | assumption | rfl)) rfl rfl rfl ?_) | (refine AO.no rfl rfl rfl ?_)
  first | (refine AO.op (O.pickAnd rfl rfl rfl rfl (fun h => by first | exact h | simp_all)) rfl rfl rfl ?_) | (refine AO.op (O.pickF rfl rfl rfl) rfl rfl rfl ?_) | (refine AO.op (O.pickT rfl rfl rfl) rfl rfl rfl ?_)
  refine AO.op (O.assign rfl rfl) rfl rfl rfl ?_
  refine AO.nil ?_
  refine AQ.thenN ?_
  refine AW.ret ?_
  refine AQ.ret1 rfl rfl ⟨_, List.nil_sublist _, .nil⟩ (retD and_dec)
theorem idOK_fn (n : Int) : Sp Try.prog 36 [.val (.int .i64 n)] [] (Is (.val (.bool (decide (IdOk n))))) := by
  refine Sp.enter Try.func36 rfl _ Try.ntmps36 rfl (fun w0 R0 => ?_)
  refine AW.seq ?_
  refine AW.region ?_
  refine AO.op (O.assign rfl rfl) rfl rfl rfl ?_
  refine AO.nil ?_
  refine AQ.thenN ?_
  refine AW.seq ?_
  refine AW.region ?_
  refine AO.op (O.move rfl rfl) rfl rfl rfl ?_
  refine AO.op (O.geq rfl rfl rfl (by first | exact bTrue (by omega) | exact bFalse (by omega) | assumption | rfl)) rfl rfl rfl ?_
  refine AO.op (O.move rfl rfl) rfl rfl rfl ?_
  first | (refine AO.opG rfl rfl rfl (fun hp => O.move rfl rfl) ?_) | (refine AO.op (O.move rfl rfl) rfl rfl rfl ?_) | (refine AO.no rfl rfl rfl ?_)
  first | (refine AO.opG rfl rfl rfl (fun hp => OpW.force 6 rfl (by first | exact hp | simp_all) (O.leq rfl rfl rfl (by first | exact bTrue (by omega) | exact bFalse (by omega) | assumption | rfl))) ?_) | (refine AO.op (O.leq rfl rfl rfl (by first | exact bTrue (by omega) | exact bFalse (by omega) | assumption | rfl)) rfl rfl rfl ?_) | (refine AO.no rfl rfl rfl ?_)
  first | (refine AO.op (O.pickAnd rfl rfl rfl rfl (fun h => by first | exact h | simp_all)) rfl rfl rfl ?_) | (refine AO.op (O.pickF rfl rfl rfl) rfl rfl rfl ?_) | (refine AO.op (O.pickT rfl rfl rfl) rfl rfl rfl ?_)
  refine AO.op (O.assign rfl rfl) rfl rfl rfl ?_
  refine AO.nil ?_
  refine AQ.thenN ?_
  refine AW.ret ?_
  refine AQ.ret1 rfl rfl ⟨_, List.nil_sublist _, .nil⟩ (retD and_dec)
theorem timeOK_fn (n : Int) : Sp Try.prog 43 [.val (.int .i64 n)] [] (Is (.val (.bool (decide (TimeOk n))))) := by
  refine Sp.enter Try.func43 rfl _ Try.ntmps43 rfl (fun w0 R0 => ?_)
  refine AW.seq ?_
  refine AW.region ?_
  refine AO.op (O.assign rfl rfl) rfl rfl rfl ?_
  refine AO.nil ?_
  refine AQ.thenN ?_
  refine AW.seq ?_
  refine AW.region ?_
  refine AO.op (O.move rfl rfl) rfl rfl rfl ?_
  refine AO.op (O.geq rfl rfl rfl (by first | exact bTrue (by omega) | exact bFalse (by omega) | assumption | rfl)) rfl rfl rfl ?_
  refine AO.op (O.move rfl rfl) rfl rfl rfl ?_
  first | (refine AO.opG rfl rfl rfl (fun hp => O.move rfl rfl) ?_) | (refine AO.op (O.move rfl rfl) rfl rfl rfl ?_) | (refine AO.no rfl rfl rfl ?_)
  first | (refine AO.opG rfl rfl rfl (fun hp => OpW.force 6 rfl (by first | exact hp | simp_all) (O.leq rfl rfl rfl (by first | exact bTrue (by omega) | exact bFalse (by omega) | assumption | rfl))) ?_) | (refine AO.op (O.leq rfl rfl rfl (by first | exact bTrue (by omega) | exact bFalse (by omega) | assumption | rfl)) rfl rfl rfl ?_) | (refine AO.no rfl rfl rfl ?_)
  first | (refine AO.op (O.pickAnd rfl rfl rfl rfl (fun h => by first | exact h | simp_all)) rfl rfl rfl ?_) | (refine AO.op (O.pickF rfl rfl rfl) rfl rfl rfl ?_) | (refine AO.op (O.pickT rfl rfl rfl) rfl rfl rfl ?_)
  refine AO.op (O.assign rfl rfl) rfl rfl rfl ?_
  refine AO.nil ?_
  refine AQ.thenN ?_
  refine AW.ret ?_
  refine AQ.ret1 rfl rfl ⟨_, List.nil_sublist _, .nil⟩ (retD and_dec)
theorem in_fn (n h : Int) : Sp Try.prog 40 [.val (.int .i64 n), .val (.int .i64 h)] [] (Is (.val (.bool (decide (0 ≤ n ∧ n ≤ h))))) := by
  refine Sp.enter Try.func40 rfl _ Try.ntmps40 rfl (fun w0 R0 => ?_)
  refine AW.seq ?_
  refine AW.region ?_
  refine AO.op (O.assign rfl rfl) rfl rfl rfl ?_
  refine AO.nil ?_
  refine AQ.thenN ?_
  refine AW.seq ?_
  refine AW.region ?_
  refine AO.op (O.move rfl rfl) rfl rfl rfl ?_
  refine AO.op (O.geq rfl rfl rfl (by first | exact bTrue (by omega) | exact bFalse (by omega) | assumption | rfl)) rfl rfl rfl ?_
  refine AO.op (O.move rfl rfl) rfl rfl rfl ?_
  first | (refine AO.opG rfl rfl rfl (fun hp => O.move rfl rfl) ?_) | (refine AO.op (O.move rfl rfl) rfl rfl rfl ?_) | (refine AO.no rfl rfl rfl ?_)
  first | (refine AO.opG rfl rfl rfl (fun hp => O.move rfl rfl) ?_) | (refine AO.op (O.move rfl rfl) rfl rfl rfl ?_) | (refine AO.no rfl rfl rfl ?_)
  first | (refine AO.opG rfl rfl rfl (fun hp => OpW.force 8 rfl (by first | exact hp | simp_all) (OpW.force 9 rfl (by first | exact hp | simp_all) (O.leq rfl rfl rfl (by first | exact bTrue (by omega) | exact bFalse (by omega) | assumption | rfl)))) ?_) | (refine AO.op (O.leq rfl rfl rfl (by first | exact bTrue (by omega) | exact bFalse (by omega) | assumption | rfl)) rfl rfl rfl ?_) | (refine AO.no rfl rfl rfl ?_)
  first | (refine AO.op (O.pickAnd rfl rfl rfl rfl (fun h => by first | exact h | simp_all)) rfl rfl rfl ?_) | (refine AO.op (O.pickF rfl rfl rfl) rfl rfl rfl ?_) | (refine AO.op (O.pickT rfl rfl rfl) rfl rfl rfl ?_)
  refine AO.op (O.assign rfl rfl) rfl rfl rfl ?_
  refine AO.nil ?_
  refine AQ.thenN ?_
  refine AW.ret ?_
  refine AQ.ret1 rfl rfl ⟨_, List.nil_sublist _, .nil⟩ (retD and_dec)
def BdM (m : Msg) : Prop := m.tok.length ≤ 140737488355328 ∧ m.opts.length ≤ 140737488355328 ∧ m.pay.length ≤ 140737488355328
theorem isNone (m : Msg) : m = Msg.none ↔ m.ty = 0 ∧ m.code = 0 ∧ m.id = 0 ∧ m.tok.length + m.opts.length + m.pay.length = 0 := by
  obtain ⟨a, b, c, d, e, f⟩ := m
  unfold Msg.none
  simp only [Msg.mk.injEq]
  constructor
  · rintro ⟨rfl, rfl, rfl, rfl, rfl, rfl⟩; simp
  · rintro ⟨h1, h2, h3, h4⟩; exact ⟨h1, h2, h3, List.eq_nil_of_length_eq_zero (by omega), List.eq_nil_of_length_eq_zero (by omega), List.eq_nil_of_length_eq_zero (by omega)⟩
theorem zero_fn (m : Msg) (h : BdM m) : Sp Try.prog 54 [aggM m] [] (Is (.val (.bool (decide (m = Msg.none))))) := by
  obtain ⟨h1, h2, h3⟩ := h
  refine Sp.enter Try.func54 rfl _ Try.ntmps54 rfl (fun w0 R0 => ?_)
  refine AW.seq ?_
  refine AW.region ?_
  refine AO.opB (O.box rfl rfl rfl rfl rfl) rfl rfl rfl ?_
  intro B1
  refine AO.op (O.assign rfl rfl) rfl rfl rfl ?_
  refine AO.nil ?_
  refine AQ.thenN ?_
  refine AW.seq ?_
  refine AW.region ?_
  first | (refine AO.op (O.fieldAddrR rfl rfl) rfl rfl rfl ?_) | (refine AO.op (O.fieldAddr rfl rfl) rfl rfl rfl ?_)
  first | (refine AO.op (O.loadR rfl rfl (by first | rfl | assumption)) rfl rfl rfl ?_) | (refine AO.op (O.load rfl rfl (by repeat (first | exact List.Mem.head _ | refine List.Mem.tail _ ?_)) (by first | rfl | assumption)) rfl rfl rfl ?_)
  refine AO.op (O.eql rfl rfl rfl (by first | exact beq_iff_eq.2 (by omega) | exact beq_eq_false_iff_ne.2 (by omega) | assumption | rfl)) rfl rfl rfl ?_
  refine AO.op (O.move rfl rfl) rfl rfl rfl ?_
  first | (refine AO.opG rfl rfl rfl (fun hp => O.fieldAddrR rfl rfl) ?_) | (refine AO.opG rfl rfl rfl (fun hp => O.fieldAddr rfl rfl) ?_) | (refine AO.op (O.fieldAddrR rfl rfl) rfl rfl rfl ?_) | (refine AO.op (O.fieldAddr rfl rfl) rfl rfl rfl ?_) | (refine AO.no rfl rfl rfl ?_)
  first | (refine AO.opG rfl rfl rfl (fun hp => OpW.force 7 rfl (by first | exact hp | simp_all) (O.loadR rfl rfl (by first | rfl | assumption))) ?_) | (refine AO.opG rfl rfl rfl (fun hp => OpW.force 7 rfl (by first | exact hp | simp_all) (O.load rfl rfl (by repeat (first | exact List.Mem.head _ | refine List.Mem.tail _ ?_)) (by first | rfl | assumption))) ?_) | (refine AO.op (O.loadR rfl rfl (by first | rfl | assumption)) rfl rfl rfl ?_) | (refine AO.op (O.load rfl rfl (by repeat (first | exact List.Mem.head _ | refine List.Mem.tail _ ?_)) (by first | rfl | assumption)) rfl rfl rfl ?_) | (refine AO.no rfl rfl rfl ?_)
  first | (refine AO.opG rfl rfl rfl (fun hp => OpW.force 8 rfl (by first | exact hp | simp_all) (O.eql rfl rfl rfl (by first | exact beq_iff_eq.2 (by omega) | exact beq_eq_false_iff_ne.2 (by omega) | assumption | rfl))) ?_) | (refine AO.op (O.eql rfl rfl rfl (by first | exact beq_iff_eq.2 (by omega) | exact beq_eq_false_iff_ne.2 (by omega) | assumption | rfl)) rfl rfl rfl ?_) | (refine AO.no rfl rfl rfl ?_)
  first | (refine AO.op (O.pickAnd rfl rfl rfl rfl (fun h => by first | exact h | simp_all)) rfl rfl rfl ?_) | (refine AO.op (O.pickF rfl rfl rfl) rfl rfl rfl ?_) | (refine AO.op (O.pickT rfl rfl rfl) rfl rfl rfl ?_)
  refine AO.op (O.move rfl rfl) rfl rfl rfl ?_
  first | (refine AO.opG rfl rfl rfl (fun hp => O.fieldAddrR rfl rfl) ?_) | (refine AO.opG rfl rfl rfl (fun hp => O.fieldAddr rfl rfl) ?_) | (refine AO.op (O.fieldAddrR rfl rfl) rfl rfl rfl ?_) | (refine AO.op (O.fieldAddr rfl rfl) rfl rfl rfl ?_) | (refine AO.no rfl rfl rfl ?_)
  first | (refine AO.opG rfl rfl rfl (fun hp => OpW.force 12 rfl (by first | exact hp | simp_all) (O.loadR rfl rfl (by first | rfl | assumption))) ?_) | (refine AO.opG rfl rfl rfl (fun hp => OpW.force 12 rfl (by first | exact hp | simp_all) (O.load rfl rfl (by repeat (first | exact List.Mem.head _ | refine List.Mem.tail _ ?_)) (by first | rfl | assumption))) ?_) | (refine AO.op (O.loadR rfl rfl (by first | rfl | assumption)) rfl rfl rfl ?_) | (refine AO.op (O.load rfl rfl (by repeat (first | exact List.Mem.head _ | refine List.Mem.tail _ ?_)) (by first | rfl | assumption)) rfl rfl rfl ?_) | (refine AO.no rfl rfl rfl ?_)
  first | (refine AO.opG rfl rfl rfl (fun hp => OpW.force 13 rfl (by first | exact hp | simp_all) (O.eql rfl rfl rfl (by first | exact beq_iff_eq.2 (by omega) | exact beq_eq_false_iff_ne.2 (by omega) | assumption | rfl))) ?_) | (refine AO.op (O.eql rfl rfl rfl (by first | exact beq_iff_eq.2 (by omega) | exact beq_eq_false_iff_ne.2 (by omega) | assumption | rfl)) rfl rfl rfl ?_) | (refine AO.no rfl rfl rfl ?_)
  first | (refine AO.op (O.pickAnd rfl rfl rfl rfl (fun h => by first | exact h | simp_all)) rfl rfl rfl ?_) | (refine AO.op (O.pickF rfl rfl rfl) rfl rfl rfl ?_) | (refine AO.op (O.pickT rfl rfl rfl) rfl rfl rfl ?_)
  refine AO.op (O.move rfl rfl) rfl rfl rfl ?_
  first | (refine AO.opG rfl rfl rfl (fun hp => O.fieldAddrR rfl rfl) ?_) | (refine AO.opG rfl rfl rfl (fun hp => O.fieldAddr rfl rfl) ?_) | (refine AO.op (O.fieldAddrR rfl rfl) rfl rfl rfl ?_) | (refine AO.op (O.fieldAddr rfl rfl) rfl rfl rfl ?_) | (refine AO.no rfl rfl rfl ?_)
  first | (refine AO.opG rfl rfl rfl (fun hp => OpW.force 17 rfl (by first | exact hp | simp_all) (O.loadR rfl rfl (by first | rfl | assumption))) ?_) | (refine AO.opG rfl rfl rfl (fun hp => OpW.force 17 rfl (by first | exact hp | simp_all) (O.load rfl rfl (by repeat (first | exact List.Mem.head _ | refine List.Mem.tail _ ?_)) (by first | rfl | assumption))) ?_) | (refine AO.op (O.loadR rfl rfl (by first | rfl | assumption)) rfl rfl rfl ?_) | (refine AO.op (O.load rfl rfl (by repeat (first | exact List.Mem.head _ | refine List.Mem.tail _ ?_)) (by first | rfl | assumption)) rfl rfl rfl ?_) | (refine AO.no rfl rfl rfl ?_)
  first | (refine AO.opG rfl rfl rfl (fun hp => OpW.force 18 rfl (by first | exact hp | simp_all) (O.lenR rfl rfl)) ?_) | (refine AO.opG rfl rfl rfl (fun hp => OpW.force 18 rfl (by first | exact hp | simp_all) (O.lenV rfl rfl)) ?_) | (refine AO.opG rfl rfl rfl (fun hp => OpW.force 18 rfl (by first | exact hp | simp_all) (O.lenRow rfl rfl (by repeat (first | exact List.Mem.head _ | refine List.Mem.tail _ ?_)))) ?_) | (refine AO.opG rfl rfl rfl (fun hp => OpW.force 18 rfl (by first | exact hp | simp_all) (O.lenS rfl rfl)) ?_) | (refine AO.op (O.lenR rfl rfl) rfl rfl rfl ?_) | (refine AO.op (O.lenV rfl rfl) rfl rfl rfl ?_) | (refine AO.op (O.lenRow rfl rfl (by repeat (first | exact List.Mem.head _ | refine List.Mem.tail _ ?_))) rfl rfl rfl ?_) | (refine AO.op (O.lenS rfl rfl) rfl rfl rfl ?_) | (refine AO.no rfl rfl rfl ?_)
  first | (refine AO.opG rfl rfl rfl (fun hp => O.fieldAddrR rfl rfl) ?_) | (refine AO.opG rfl rfl rfl (fun hp => O.fieldAddr rfl rfl) ?_) | (refine AO.op (O.fieldAddrR rfl rfl) rfl rfl rfl ?_) | (refine AO.op (O.fieldAddr rfl rfl) rfl rfl rfl ?_) | (refine AO.no rfl rfl rfl ?_)
  first | (refine AO.opG rfl rfl rfl (fun hp => OpW.force 20 rfl (by first | exact hp | simp_all) (O.loadR rfl rfl (by first | rfl | assumption))) ?_) | (refine AO.opG rfl rfl rfl (fun hp => OpW.force 20 rfl (by first | exact hp | simp_all) (O.load rfl rfl (by repeat (first | exact List.Mem.head _ | refine List.Mem.tail _ ?_)) (by first | rfl | assumption))) ?_) | (refine AO.op (O.loadR rfl rfl (by first | rfl | assumption)) rfl rfl rfl ?_) | (refine AO.op (O.load rfl rfl (by repeat (first | exact List.Mem.head _ | refine List.Mem.tail _ ?_)) (by first | rfl | assumption)) rfl rfl rfl ?_) | (refine AO.no rfl rfl rfl ?_)
  first | (refine AO.opG rfl rfl rfl (fun hp => OpW.force 21 rfl (by first | exact hp | simp_all) (O.lenR rfl rfl)) ?_) | (refine AO.opG rfl rfl rfl (fun hp => OpW.force 21 rfl (by first | exact hp | simp_all) (O.lenV rfl rfl)) ?_) | (refine AO.opG rfl rfl rfl (fun hp => OpW.force 21 rfl (by first | exact hp | simp_all) (O.lenRow rfl rfl (by repeat (first | exact List.Mem.head _ | refine List.Mem.tail _ ?_)))) ?_) | (refine AO.opG rfl rfl rfl (fun hp => OpW.force 21 rfl (by first | exact hp | simp_all) (O.lenS rfl rfl)) ?_) | (refine AO.op (O.lenR rfl rfl) rfl rfl rfl ?_) | (refine AO.op (O.lenV rfl rfl) rfl rfl rfl ?_) | (refine AO.op (O.lenRow rfl rfl (by repeat (first | exact List.Mem.head _ | refine List.Mem.tail _ ?_))) rfl rfl rfl ?_) | (refine AO.op (O.lenS rfl rfl) rfl rfl rfl ?_) | (refine AO.no rfl rfl rfl ?_)
  first | (refine AO.opG rfl rfl rfl (fun hp => OpW.force 19 rfl (by first | exact hp | simp_all) (OpW.force 22 rfl (by first | exact hp | simp_all) (O.add rfl rfl rfl (by first | exact wI64 (by omega) | rfl)))) ?_) | (refine AO.op (O.add rfl rfl rfl (by first | exact wI64 (by omega) | rfl)) rfl rfl rfl ?_) | (refine AO.no rfl rfl rfl ?_)
  first | (refine AO.opG rfl rfl rfl (fun hp => O.fieldAddrR rfl rfl) ?_) | (refine AO.opG rfl rfl rfl (fun hp => O.fieldAddr rfl rfl) ?_) | (refine AO.op (O.fieldAddrR rfl rfl) rfl rfl rfl ?_) | (refine AO.op (O.fieldAddr rfl rfl) rfl rfl rfl ?_) | (refine AO.no rfl rfl rfl ?_)
  first | (refine AO.opG rfl rfl rfl (fun hp => OpW.force 24 rfl (by first | exact hp | simp_all) (O.loadR rfl rfl (by first | rfl | assumption))) ?_) | (refine AO.opG rfl rfl rfl (fun hp => OpW.force 24 rfl (by first | exact hp | simp_all) (O.load rfl rfl (by repeat (first | exact List.Mem.head _ | refine List.Mem.tail _ ?_)) (by first | rfl | assumption))) ?_) | (refine AO.op (O.loadR rfl rfl (by first | rfl | assumption)) rfl rfl rfl ?_) | (refine AO.op (O.load rfl rfl (by repeat (first | exact List.Mem.head _ | refine List.Mem.tail _ ?_)) (by first | rfl | assumption)) rfl rfl rfl ?_) | (refine AO.no rfl rfl rfl ?_)
  first | (refine AO.opG rfl rfl rfl (fun hp => OpW.force 25 rfl (by first | exact hp | simp_all) (O.lenR rfl rfl)) ?_) | (refine AO.opG rfl rfl rfl (fun hp => OpW.force 25 rfl (by first | exact hp | simp_all) (O.lenV rfl rfl)) ?_) | (refine AO.opG rfl rfl rfl (fun hp => OpW.force 25 rfl (by first | exact hp | simp_all) (O.lenRow rfl rfl (by repeat (first | exact List.Mem.head _ | refine List.Mem.tail _ ?_)))) ?_) | (refine AO.opG rfl rfl rfl (fun hp => OpW.force 25 rfl (by first | exact hp | simp_all) (O.lenS rfl rfl)) ?_) | (refine AO.op (O.lenR rfl rfl) rfl rfl rfl ?_) | (refine AO.op (O.lenV rfl rfl) rfl rfl rfl ?_) | (refine AO.op (O.lenRow rfl rfl (by repeat (first | exact List.Mem.head _ | refine List.Mem.tail _ ?_))) rfl rfl rfl ?_) | (refine AO.op (O.lenS rfl rfl) rfl rfl rfl ?_) | (refine AO.no rfl rfl rfl ?_)
  first | (refine AO.opG rfl rfl rfl (fun hp => OpW.force 23 rfl (by first | exact hp | simp_all) (OpW.force 26 rfl (by first | exact hp | simp_all) (O.add rfl rfl rfl (by first | exact wI64 (by omega) | rfl)))) ?_) | (refine AO.op (O.add rfl rfl rfl (by first | exact wI64 (by omega) | rfl)) rfl rfl rfl ?_) | (refine AO.no rfl rfl rfl ?_)
  first | (refine AO.opG rfl rfl rfl (fun hp => OpW.force 27 rfl (by first | exact hp | simp_all) (O.eql rfl rfl rfl (by first | exact beq_iff_eq.2 (by omega) | exact beq_eq_false_iff_ne.2 (by omega) | assumption | rfl))) ?_) | (refine AO.op (O.eql rfl rfl rfl (by first | exact beq_iff_eq.2 (by omega) | exact beq_eq_false_iff_ne.2 (by omega) | assumption | rfl)) rfl rfl rfl ?_) | (refine AO.no rfl rfl rfl ?_)
  first | (refine AO.op (O.pickAnd rfl rfl rfl rfl (fun h => by first | exact h | simp_all)) rfl rfl rfl ?_) | (refine AO.op (O.pickF rfl rfl rfl) rfl rfl rfl ?_) | (refine AO.op (O.pickT rfl rfl rfl) rfl rfl rfl ?_)
  refine AO.op (O.assign rfl rfl) rfl rfl rfl ?_
  refine AO.nil ?_
  refine AQ.thenN ?_
  refine AW.ret ?_
  refine AQ.ret1 rfl rfl ⟨_, List.nil_sublist _, .nil⟩ (retD (by rw [Bool.eq_iff_iff, decide_eq_true_iff, isNone]; simp only [Bool.and_eq_true, beq_iff_eq, and_assoc]; constructor <;> (rintro ⟨a, b, c, d⟩; exact ⟨a, b, c, by omega⟩)))
theorem rzero_fn (m : Msg) (h : BdM m)  : Sp Try.prog 42 [aggM m] [] (Is (.val (.bool (decide (m = Msg.none))))) := by
  refine Sp.enter Try.func42 rfl _ Try.ntmps42 rfl (fun w0 R0 => ?_)
  refine AW.seq ?_
  refine AW.region ?_
  refine AO.opB (O.box rfl rfl rfl rfl rfl) rfl rfl rfl ?_
  intro B1
  refine AO.op (O.assign rfl rfl) rfl rfl rfl ?_
  refine AO.nil ?_
  refine AQ.thenN ?_
  refine AW.seq ?_
  refine AW.region ?_
  first | (refine AO.op (O.loadRK rfl rfl (by first | (dsimp only [List.set, List.append, List.cons_append, List.nil_append, roB_cells, roI_cells, roO_cells, roW_cells, roU_cells, roH_cells, splice, ofConst, AV.cells, List.map, List.map_cons, List.map_nil, List.take, List.drop, Nat.zero_add, Nat.add_zero, Nat.reduceAdd, Nat.reduceMul, Nat.zero_mul, Value.cells, List.toList_toArray, zerosA, List.replicate, List.flatten, List.append_nil]; rfl) | (dsimp only [List.set, List.append, List.cons_append, List.nil_append, roB_cells, roI_cells, roO_cells, roW_cells, roU_cells, roH_cells, splice, ofConst, AV.cells, List.map, List.map_cons, List.map_nil, List.take, List.drop, Nat.zero_add, Nat.add_zero, Nat.reduceAdd, Nat.reduceMul, Nat.zero_mul, Value.cells, List.toList_toArray, zerosA, List.replicate, List.flatten, List.append_nil]; done) | rfl) (by rfl)) rfl rfl rfl ?_) | (refine AO.op (O.loadK rfl rfl (by repeat (first | exact List.Mem.head _ | refine List.Mem.tail _ ?_)) (by first | (dsimp only [List.set, List.append, List.cons_append, List.nil_append, roB_cells, roI_cells, roO_cells, roW_cells, roU_cells, roH_cells, splice, ofConst, AV.cells, List.map, List.map_cons, List.map_nil, List.take, List.drop, Nat.zero_add, Nat.add_zero, Nat.reduceAdd, Nat.reduceMul, Nat.zero_mul, Value.cells, List.toList_toArray, zerosA, List.replicate, List.flatten, List.append_nil]; rfl) | (dsimp only [List.set, List.append, List.cons_append, List.nil_append, roB_cells, roI_cells, roO_cells, roW_cells, roU_cells, roH_cells, splice, ofConst, AV.cells, List.map, List.map_cons, List.map_nil, List.take, List.drop, Nat.zero_add, Nat.add_zero, Nat.reduceAdd, Nat.reduceMul, Nat.zero_mul, Value.cells, List.toList_toArray, zerosA, List.replicate, List.flatten, List.append_nil]; done) | rfl) (by rfl)) rfl rfl rfl ?_) | (refine AO.op (O.loadK rfl rfl (by repeat (first | exact List.Mem.head _ | refine List.Mem.tail _ ?_)) (by first | (dsimp only [List.set, List.append, List.cons_append, List.nil_append, roB_cells, roI_cells, roO_cells, roW_cells, roU_cells, roH_cells, splice, ofConst, AV.cells, List.map, List.map_cons, List.map_nil, List.take, List.drop, Nat.zero_add, Nat.add_zero, Nat.reduceAdd, Nat.reduceMul, Nat.zero_mul, Value.cells, List.toList_toArray, zerosA, List.replicate, List.flatten, List.append_nil]; rfl) | (dsimp only [List.set, List.append, List.cons_append, List.nil_append, roB_cells, roI_cells, roO_cells, roW_cells, roU_cells, roH_cells, splice, ofConst, AV.cells, List.map, List.map_cons, List.map_nil, List.take, List.drop, Nat.zero_add, Nat.add_zero, Nat.reduceAdd, Nat.reduceMul, Nat.zero_mul, Value.cells, List.toList_toArray, zerosA, List.replicate, List.flatten, List.append_nil]; done) | rfl) (by rfl)) rfl rfl rfl ?_)
  refine AO.op (O.build rfl rfl rfl (by rfl)) rfl rfl rfl ?_
  first | (refine AO.op (O.call rfl Try.func21 rfl rfl rfl (same_fn m Msg.none h.2.1)) rfl rfl rfl ?_) | (refine AO.op (O.callC rfl Try.func21 rfl rfl rfl (same_fn m Msg.none h.2.1) (by (repeat (first | exact CoeL.nil | refine CoeL.cons Coe.rfl ?_ | refine CoeL.cons Coe.nil ?_ | refine CoeL.cons Coe.unfull ?_ | refine CoeL.cons (Coe.agg ?_) ?_ | refine CoeL.cons (Coe.tup ?_) ?_ | refine CoeL.cons (Coe.ro ?_) ?_)); first | done | fail)) rfl rfl rfl ?_) | (refine AO.op (O.callL rfl Try.func21 rfl rfl rfl (by repeat (first | exact List.Mem.head _ | refine List.Mem.tail _ ?_)) (same_fn m Msg.none h.2.1) (by (repeat (first | exact LendL.nil | refine LendL.same ?_ | refine LendL.lend ?_)); first | done | fail)) rfl rfl rfl ?_)
  refine AO.op (O.assign rfl rfl) rfl rfl rfl ?_
  refine AO.nil ?_
  refine AQ.thenN ?_
  refine AW.ret ?_
  refine AQ.ret1 rfl rfl ⟨_, List.nil_sublist _, .nil⟩ (⟨rfl, rfl⟩)
end Go.Proofs.Ytdnmilmcdbgppaa.By

namespace Go.Proofs.Ytdnmilmcdbgppaa.By
open Go.RowKit L A
set_option linter.unusedVariables false
set_option maxRecDepth 20000
set_option linter.unusedSimpArgs false
attribute [local irreducible] AW AQ AO
theorem or_step {p q : Prop} [Decidable p] [Decidable q] {b : Bool} (h : p → b = decide q) : (!decide p || b) = !decide (p ∧ ¬q) := by
  by_cases hp : p
  · rw [h hp]; by_cases hq : q <;> simp [hp, hq]
  · simp [hp]
abbrev chW (w : Wt) : Bool := !decide (PeerOk w.peer) || w.m.ty != 0 || !decide (ValM w.m) || decide (w.due < 0) || decide (w.sent < 1) || decide (5 < w.sent)
theorem chW_eq (w : Wt) : chW w = !decide (OkW w) := by
  rw [Bool.eq_iff_iff]
  simp only [chW, Bool.or_eq_true, Bool.not_eq_true', decide_eq_true_eq, decide_eq_false_iff_not, bne_iff_ne, OkW]
  constructor
  · rintro (((((h | h) | h) | h) | h) | h) ⟨h1, h2, h3, h4, h5, h6⟩
    · exact h h1
    · exact h h2
    · exact h h3
    · omega
    · omega
    · omega
  · intro h
    by_cases h1 : PeerOk w.peer
    · by_cases h2 : w.m.ty = 0
      · by_cases h3 : ValM w.m
        · by_cases h4 : w.due < 0
          · exact .inl (.inl (.inr h4))
          · by_cases h5 : w.sent < 1
            · exact .inl (.inr h5)
            · by_cases h6 : 5 < w.sent
              · exact .inr h6
              · exact absurd ⟨h1, h2, h3, by omega, by omega, by omega⟩ h
        · exact .inl (.inl (.inl (.inr h3)))
      · exact .inl (.inl (.inl (.inl (.inr h2))))
    · exact .inl (.inl (.inl (.inl (.inl h1))))
theorem ValM.id {m : Msg} (h : ValM m) : 0 ≤ m.id ∧ m.id ≤ 65535 := by
  obtain ⟨⟨-, ⟨h1, h2, -, -⟩, -⟩, -⟩ := h
  exact ⟨h1, h2⟩
theorem OkW.in {w : Wt} (h : OkW w) : In w.peer ∧ In w.m.id := by
  obtain ⟨h1, -, h3, -⟩ := h
  have := ValM.id h3
  unfold In; omega
theorem inW {w : Wt} (h : (bif false then chW w else !chW w) = true) : In w.peer ∧ In w.m.id := by
  rw [cond_false, chW_eq, Bool.not_not, decide_eq_true_eq] at h
  exact OkW.in h
theorem stepW {l : List Wt} {k : Nat} {M : Ents} (hs : Seen M ((l.take k).map kWt)) : (chW (wt l k) || mBool (mGet M (key2 (wt l k).peer (wt l k).m.id) (.bool false))) = !decide (OkW (wt l k) ∧ kWt (wt l k) ∉ (l.take k).map kWt) := by
  rw [chW_eq]
  exact or_step fun h => hs.has _ _ (OkW.in h).1 (OkW.in h).2
theorem waitingOK_fn (l : List Wt) : Sp Try.prog 38 [roW l] [] (Is (.val (.bool (decide (l.length ≤ 16 ∧ WOkTo l l.length))))) := by
  refine Sp.enter Try.func38 rfl _ Try.ntmps38 rfl (fun w0 R0 => ?_)
  refine AW.seq ?_
  refine AW.region ?_
  refine AO.op (O.assign rfl rfl) rfl rfl rfl ?_
  refine AO.nil ?_
  refine AQ.thenN ?_
  refine AW.seq ?_
  refine AW.seq ?_
  refine AW.region ?_
  refine AO.op (O.move rfl rfl) rfl rfl rfl ?_
  refine AO.op (O.lenR rfl rfl) rfl rfl rfl ?_
  refine AO.op (O.gtr rfl rfl rfl (by rfl)) rfl rfl rfl ?_
  refine AO.nil ?_
  refine AQ.thenN ?_
  refine AW.split rfl (fun h => ?_) (fun h => ?_) <;> (try simp only [decide_eq_true_eq, decide_eq_false_iff_not, beq_iff_eq, beq_eq_false_iff_ne, bne_iff_ne, bne_eq_false_iff_eq, Bool.not_eq_true', Bool.not_eq_false', Bool.not_eq_true, Bool.not_eq_false, ne_eq, Int.not_lt, Int.not_le, Bool.and_eq_true, Bool.or_eq_true, Bool.or_eq_false_iff, Bool.and_eq_false_imp, strOf_toList, Decidable.not_not] at h)
  · skip
    refine AW.seq ?_
    refine AW.region ?_
    refine AO.op (O.assign rfl rfl) rfl rfl rfl ?_
    refine AO.nil ?_
    refine AQ.thenN ?_
    refine AW.ret ?_
    refine AQ.thenR ?_
    refine AQ.ret1 rfl rfl ⟨_, List.nil_sublist _, .nil⟩ (retD (decide_eq_false fun hk => by omega).symm)
  · skip
    refine AW.skip ?_
    refine AQ.thenN ?_
    refine AW.seq ?_
    refine AW.region ?_
    refine AO.opN (O.makeMap rfl) rfl rfl rfl ?_
    rintro _ _ ⟨B1, rfl, rfl⟩
    simp only [List.cons_append, List.nil_append]
    refine AO.op (O.assign rfl rfl) rfl rfl rfl ?_
    refine AO.nil ?_
    refine AQ.thenN ?_
    refine AW.seq ?_
    refine AW.seq ?_
    refine AW.region ?_
    refine AO.op (O.move rfl rfl) rfl rfl rfl ?_
    refine AO.op (O.lenR rfl rfl) rfl rfl rfl ?_
    refine AO.op (O.move rfl rfl) rfl rfl rfl ?_
    refine AO.nil ?_
    refine AQ.thenN ?_
    refine AW.block ?_
    refine AW.loopK [(3, _), (11, _), (12, _)] (fun nn E H => ∃ (k : Nat) (M : Ents), (k ≤ l.length) ∧ (WOkTo l k) ∧ (Seen M ((l.take k).map kWt)) ∧ nn = l.length - k ∧ E = [(13, .val (.int .i64 (k : Int)))] ∧ H = [mapK B1 M]) _ (⟨0, [], by omega, ⟨by simp, by simp⟩, Seen.nil, rfl, rfl, rfl⟩) (by repeat (first | exact envNil | refine envCons rfl ?_)) (by repeat (first | exact envNil | refine envCons rfl ?_)) (by repeat (first | exact subPnil | refine subPcons 0 rfl ?_)) ?_
    rintro nn E H ⟨k, M, h1, ha, hs, rfl, rfl, rfl⟩
    dsimp only [List.cons_append, List.nil_append]
    have hsl := hs.len
    rw [List.length_map, List.length_take] at hsl
    refine AW.seq ?_
    refine AW.region ?_
    refine AO.op (O.lss rfl rfl rfl (by rfl)) rfl rfl rfl ?_
    refine AO.nil ?_
    refine AQ.thenN ?_
    refine AW.seq ?_
    refine AW.split rfl (fun hlt => ?_) (fun hlt => ?_) <;> (try simp only [decide_eq_true_eq, decide_eq_false_iff_not, beq_iff_eq, beq_eq_false_iff_ne, bne_iff_ne, bne_eq_false_iff_eq, Bool.not_eq_true', Bool.not_eq_false', Bool.not_eq_true, Bool.not_eq_false, ne_eq, Int.not_lt, Int.not_le, Bool.and_eq_true, Bool.or_eq_true, Bool.or_eq_false_iff, Bool.and_eq_false_imp, strOf_toList, Decidable.not_not] at hlt)
    · skip
      have hk : k < l.length := by omega
      refine AW.skip ?_
      refine AQ.thenN ?_
      refine AW.seq ?_
      refine AW.block ?_
      refine AW.seq ?_
      refine AW.region ?_
      refine AO.op (O.idxR rfl rfl rfl ⟨(by omega), (by omega)⟩) rfl rfl rfl ?_
      refine AO.op (O.loadRK rfl rfl (by exact getW (by omega) (by omega)) (by rfl)) rfl rfl rfl ?_
      refine AO.opB (O.alloc rfl (by (dsimp only [zerosA, List.replicate, List.append, List.flatten, AV.cells, Value.cells, List.toList_toArray, List.map]; done)) (by rfl)) rfl rfl rfl ?_
      intro B2
      (refine AO.store (i := 0) rfl rfl rfl rfl rfl rfl (by rfl) (by rfl) (by rfl) (by (dsimp only [List.set, List.cons_append, List.nil_append, List.take, List.drop]; done)) (by (dsimp only [List.set, List.cons_append, List.nil_append, List.take, List.drop]; done)) ?_)
      refine AO.nil ?_
      refine AQ.thenN ?_
      refine AW.seq ?_
      refine AW.region ?_
      refine AO.op (O.fieldAddr rfl rfl) rfl rfl rfl ?_
      refine AO.op (O.load rfl rfl (by repeat (exact List.Mem.head _)) (by rfl)) rfl rfl rfl ?_
      refine AO.op (O.fieldAddr rfl rfl) rfl rfl rfl ?_
      refine AO.op (O.fieldAddr rfl rfl) rfl rfl rfl ?_
      refine AO.op (O.load rfl rfl (by repeat (exact List.Mem.head _)) (by rfl)) rfl rfl rfl ?_
      refine AO.op (O.build rfl rfl rfl (by rfl)) rfl rfl rfl ?_
      refine AO.opB (O.alloc rfl (by (dsimp only [zerosA, List.replicate, List.append, List.flatten, AV.cells, Value.cells, List.toList_toArray, List.map]; done)) (by rfl)) rfl rfl rfl ?_
      intro B3
      (refine AO.store (i := 0) rfl rfl rfl rfl rfl rfl (by rfl) (by rfl) (by rfl) (by (dsimp only [List.set, List.cons_append, List.nil_append, List.take, List.drop]; done)) (by (dsimp only [List.set, List.cons_append, List.nil_append, List.take, List.drop]; done)) ?_)
      refine AO.nil ?_
      refine AQ.thenN ?_
      refine AW.seq ?_
      refine AW.seq ?_
      refine AW.region ?_
      refine AO.op (O.fieldAddr rfl rfl) rfl rfl rfl ?_
      refine AO.op (O.load rfl rfl (by repeat (first | exact List.Mem.head _ | refine List.Mem.tail _ ?_)) (by rfl)) rfl rfl rfl ?_
      refine AO.op (O.call rfl Try.func37 rfl rfl rfl (peerOK_fn _)) rfl rfl rfl ?_
      refine AO.op (O.not rfl rfl (by rfl)) rfl rfl rfl ?_
      refine AO.op (O.move rfl rfl) rfl rfl rfl ?_
      refine AO.opG rfl rfl rfl (fun hp => O.fieldAddr rfl rfl) ?_
      refine AO.opG rfl rfl rfl (fun hp => OpW.force 28 rfl (by exact hp) (O.fieldAddr rfl rfl)) ?_
      refine AO.opG rfl rfl rfl (fun hp => OpW.force 29 rfl (by exact hp) (O.load rfl rfl (by repeat (first | exact List.Mem.head _ | refine List.Mem.tail _ ?_)) (by rfl))) ?_
      refine AO.opG rfl rfl rfl (fun hp => OpW.force 30 rfl (by exact hp) (O.neq rfl rfl rfl (by rfl))) ?_
      refine AO.op (O.pickOr rfl rfl rfl rfl (fun h => by exact congrArg (fun b => !b) h)) rfl rfl rfl ?_
      refine AO.op (O.move rfl rfl) rfl rfl rfl ?_
      refine AO.opG rfl rfl rfl (fun hp => O.fieldAddr rfl rfl) ?_
      refine AO.opG rfl rfl rfl (fun hp => OpW.force 34 rfl (by exact hp) (O.loadK rfl rfl (by repeat (first | exact List.Mem.head _ | refine List.Mem.tail _ ?_)) (by rfl) (by rfl))) ?_
      refine AO.opG rfl rfl rfl (fun hp => OpW.force 35 rfl (by exact hp) (O.call rfl Try.func44 rfl rfl rfl (valid_fn (wt l k).m))) ?_
      refine AO.opG rfl rfl rfl (fun hp => OpW.force 36 rfl (by exact hp) (O.not rfl rfl (by rfl))) ?_
      refine AO.op (O.pickOr rfl rfl rfl rfl (fun h => by exact congrArg (fun b => !b) h)) rfl rfl rfl ?_
      refine AO.op (O.move rfl rfl) rfl rfl rfl ?_
      refine AO.opG rfl rfl rfl (fun hp => O.fieldAddr rfl rfl) ?_
      refine AO.opG rfl rfl rfl (fun hp => OpW.force 40 rfl (by exact hp) (O.load rfl rfl (by repeat (first | exact List.Mem.head _ | refine List.Mem.tail _ ?_)) (by rfl))) ?_
      refine AO.opG rfl rfl rfl (fun hp => OpW.force 41 rfl (by exact hp) (O.lss rfl rfl rfl (by rfl))) ?_
      refine AO.op (O.pickOr rfl rfl rfl rfl (fun h => by exact congrArg (fun b => !b) h)) rfl rfl rfl ?_
      refine AO.op (O.move rfl rfl) rfl rfl rfl ?_
      refine AO.opG rfl rfl rfl (fun hp => O.fieldAddr rfl rfl) ?_
      refine AO.opG rfl rfl rfl (fun hp => OpW.force 45 rfl (by exact hp) (O.load rfl rfl (by repeat (first | exact List.Mem.head _ | refine List.Mem.tail _ ?_)) (by rfl))) ?_
      refine AO.opG rfl rfl rfl (fun hp => OpW.force 46 rfl (by exact hp) (O.lss rfl rfl rfl (by rfl))) ?_
      refine AO.op (O.pickOr rfl rfl rfl rfl (fun h => by exact congrArg (fun b => !b) h)) rfl rfl rfl ?_
      refine AO.op (O.move rfl rfl) rfl rfl rfl ?_
      refine AO.opG rfl rfl rfl (fun hp => O.fieldAddr rfl rfl) ?_
      refine AO.opG rfl rfl rfl (fun hp => OpW.force 50 rfl (by exact hp) (O.load rfl rfl (by repeat (first | exact List.Mem.head _ | refine List.Mem.tail _ ?_)) (by rfl))) ?_
      refine AO.opG rfl rfl rfl (fun hp => OpW.force 51 rfl (by exact hp) (O.gtr rfl rfl rfl (by rfl))) ?_
      refine AO.op (O.pickOr rfl rfl rfl rfl (fun h => by exact congrArg (fun b => !b) h)) rfl rfl rfl ?_
      refine AO.op (O.move rfl rfl) rfl rfl rfl ?_
      refine AO.opG rfl rfl rfl (fun hp => O.move rfl rfl) ?_
      refine AO.opG rfl rfl rfl (fun hp => O.loadK rfl rfl (by repeat (exact List.Mem.head _)) (by rfl) (by rfl)) ?_
      refine AO.opG rfl rfl rfl (fun hp => OpW.force 55 rfl (by exact hp) (OpW.force 56 rfl (by exact hp) (O.lookB rfl rfl rfl (by repeat (first | exact List.Mem.head _ | refine List.Mem.tail _ ?_)) (by exact keyA2 (wfI64 (inW hp).1) (wfI64 (inW hp).2))))) ?_
      refine AO.op (O.pickOr rfl rfl rfl rfl (fun h => by exact congrArg (fun b => !b) h)) rfl rfl rfl ?_
      refine AO.nil ?_
      refine AQ.thenN ?_
      rw [show (chW (wt l k) || mBool (mGet M (key2 (wt l k).peer (wt l k).m.id) (.bool false))) = _ from stepW hs]
      refine AW.split rfl (fun h58 => ?_) (fun h58 => ?_) <;> (try simp only [decide_eq_true_eq, decide_eq_false_iff_not, beq_iff_eq, beq_eq_false_iff_ne, bne_iff_ne, bne_eq_false_iff_eq, Bool.not_eq_true', Bool.not_eq_false', Bool.not_eq_true, Bool.not_eq_false, ne_eq, Int.not_lt, Int.not_le, Bool.and_eq_true, Bool.or_eq_true, Bool.or_eq_false_iff, Bool.and_eq_false_imp, strOf_toList, Decidable.not_not] at h58)
      · skip
        refine AW.seq ?_
        refine AW.region ?_
        refine AO.op (O.assign rfl rfl) rfl rfl rfl ?_
        refine AO.nil ?_
        refine AQ.thenN ?_
        refine AW.ret ?_
        refine AQ.thenR ?_
        refine AQ.blockR ?_
        refine AQ.thenR ?_
        refine AQ.loopR ?_
        refine AQ.blockR ?_
        refine AQ.thenR ?_
        refine AQ.ret1 rfl rfl ⟨_, List.nil_sublist _, .nil⟩ (retD (decide_eq_false fun hh => h58 ((WOkTo.succ hk).1 (WOkTo.mono (by omega) hh.2)).2).symm)
      · skip
        have hin := OkW.in h58.1
        refine AW.skip ?_
        refine AQ.thenN ?_
        refine AW.region ?_
        refine AO.op (O.move rfl rfl) rfl rfl rfl ?_
        refine AO.op (O.loadK rfl rfl (by repeat (exact List.Mem.head _)) (by rfl) (by rfl)) rfl rfl rfl ?_
        (refine AO.mapPut (i := 2) rfl rfl rfl rfl rfl rfl rfl (by exact keyA2 (wfI64 hin.1) (wfI64 hin.2)) (by exact plainElem_bool TyD.ax _) (by ( unfold maxLen; omega)) (by (dsimp only [List.set, List.cons_append, List.nil_append, List.take, List.drop]; done)) ?_)
        refine AO.nil ?_
        refine AQ.blockN ?_
        refine AQ.thenN ?_
        refine AW.region ?_
        refine AO.op (O.add rfl rfl rfl (by exact wI64 (by omega))) rfl rfl rfl ?_
        refine AO.op (O.move rfl rfl) rfl rfl rfl ?_
        refine AO.nil ?_
        refine AQ.loopKN _ _ _ (by omega) (⟨k + 1, _, by omega, (WOkTo.succ hk).2 ⟨ha, h58⟩, by rw [take_snoc Wt.none hk, List.map_append, List.map_singleton]; exact hs.put hin.1 hin.2, rfl, rfl, rfl⟩) (by repeat (first | exact envNil | refine envCons rfl ?_)) (by repeat (first | exact envNil | refine envCons rfl ?_)) (by repeat (first | exact subPnil | refine subPcons 2 rfl ?_))
    · skip
      obtain rfl : k = l.length := by omega
      refine AW.exit ?_
      refine AQ.thenX ?_
      refine AQ.loopX ?_
      refine AQ.blockX rfl ?_
      refine AQ.thenN ?_
      refine AW.seq ?_
      refine AW.region ?_
      refine AO.op (O.assign rfl rfl) rfl rfl rfl ?_
      refine AO.nil ?_
      refine AQ.thenN ?_
      refine AW.ret ?_
      refine AQ.ret1 rfl rfl ⟨_, List.nil_sublist _, .nil⟩ (retD (decide_eq_true ⟨by omega, ha⟩).symm)
abbrev chH (h : Hd) : Bool := !decide (PeerOk h.peer) || !decide (IdOk h.id) || decide (h.till < 0)
abbrev OkH0 (h : Hd) : Prop := PeerOk h.peer ∧ IdOk h.id ∧ 0 ≤ h.till
theorem chH_eq (h : Hd) : chH h = !decide (OkH0 h) := by
  rw [Bool.eq_iff_iff]
  simp only [chH, Bool.or_eq_true, Bool.not_eq_true', decide_eq_true_eq, decide_eq_false_iff_not, OkH0]
  constructor
  · rintro ((h | h) | h) ⟨h1, h2, h3⟩
    · exact h h1
    · exact h h2
    · omega
  · intro hh
    by_cases h1 : PeerOk h.peer
    · by_cases h2 : IdOk h.id
      · by_cases h3 : h.till < 0
        · exact .inr h3
        · exact absurd ⟨h1, h2, by omega⟩ hh
      · exact .inl (.inr h2)
    · exact .inl (.inl h1)
theorem OkH0.in {h : Hd} (hh : OkH0 h) : In h.peer ∧ In h.id := by
  obtain ⟨h1, h2, -⟩ := hh
  unfold In; omega
theorem inH {h : Hd} (hh : (bif false then chH h else !chH h) = true) : In h.peer ∧ In h.id := by
  rw [cond_false, chH_eq, Bool.not_not, decide_eq_true_eq] at hh
  exact OkH0.in hh
theorem stepH {l : List Hd} {k : Nat} {M : Ents} (hs : Seen M ((l.take k).map kHd)) : (chH (hd l k) || mBool (mGet M (key2 (hd l k).peer (hd l k).id) (.bool false))) = !decide (OkH0 (hd l k) ∧ kHd (hd l k) ∉ (l.take k).map kHd) := by
  rw [chH_eq]
  exact or_step fun h => hs.has _ _ (OkH0.in h).1 (OkH0.in h).2
theorem ansH (h : Hd) : ((h.ans && !decide (ValM h.m)) || (!h.ans && !decide (h.m = Msg.none))) = !decide ((h.ans = true → ValM h.m) ∧ (h.ans = false → h.m = Msg.none)) := by
  by_cases h1 : ValM h.m <;> by_cases h2 : h.m = Msg.none <;> cases h.ans <;> simp [h1, h2]
theorem heardOK_fn (l : List Hd) (hb : ∀ h ∈ l, BdM h.m) : Sp Try.prog 39 [roH l] [] (Is (.val (.bool (decide (l.length ≤ 16 ∧ HOkTo l l.length))))) := by
  refine Sp.enter Try.func39 rfl _ Try.ntmps39 rfl (fun w0 R0 => ?_)
  refine AW.seq ?_
  refine AW.region ?_
  refine AO.op (O.assign rfl rfl) rfl rfl rfl ?_
  refine AO.nil ?_
  refine AQ.thenN ?_
  refine AW.seq ?_
  refine AW.seq ?_
  refine AW.region ?_
  refine AO.op (O.move rfl rfl) rfl rfl rfl ?_
  refine AO.op (O.lenR rfl rfl) rfl rfl rfl ?_
  refine AO.op (O.gtr rfl rfl rfl (by rfl)) rfl rfl rfl ?_
  refine AO.nil ?_
  refine AQ.thenN ?_
  refine AW.split rfl (fun h => ?_) (fun h => ?_) <;> (try simp only [decide_eq_true_eq, decide_eq_false_iff_not, beq_iff_eq, beq_eq_false_iff_ne, bne_iff_ne, bne_eq_false_iff_eq, Bool.not_eq_true', Bool.not_eq_false', Bool.not_eq_true, Bool.not_eq_false, ne_eq, Int.not_lt, Int.not_le, Bool.and_eq_true, Bool.or_eq_true, Bool.or_eq_false_iff, Bool.and_eq_false_imp, strOf_toList, Decidable.not_not] at h)
  · skip
    refine AW.seq ?_
    refine AW.region ?_
    refine AO.op (O.assign rfl rfl) rfl rfl rfl ?_
    refine AO.nil ?_
    refine AQ.thenN ?_
    refine AW.ret ?_
    refine AQ.thenR ?_
    refine AQ.ret1 rfl rfl ⟨_, List.nil_sublist _, .nil⟩ (retD (decide_eq_false fun hk => by omega).symm)
  · skip
    refine AW.skip ?_
    refine AQ.thenN ?_
    refine AW.seq ?_
    refine AW.region ?_
    refine AO.opN (O.makeMap rfl) rfl rfl rfl ?_
    rintro _ _ ⟨B1, rfl, rfl⟩
    simp only [List.cons_append, List.nil_append]
    refine AO.op (O.assign rfl rfl) rfl rfl rfl ?_
    refine AO.nil ?_
    refine AQ.thenN ?_
    refine AW.seq ?_
    refine AW.seq ?_
    refine AW.region ?_
    refine AO.op (O.move rfl rfl) rfl rfl rfl ?_
    refine AO.op (O.lenR rfl rfl) rfl rfl rfl ?_
    refine AO.op (O.move rfl rfl) rfl rfl rfl ?_
    refine AO.nil ?_
    refine AQ.thenN ?_
    refine AW.block ?_
    refine AW.loopK [(3, _), (11, _), (12, _)] (fun nn E H => ∃ (k : Nat) (M : Ents), (k ≤ l.length) ∧ (HOkTo l k) ∧ (Seen M ((l.take k).map kHd)) ∧ nn = l.length - k ∧ E = [(13, .val (.int .i64 (k : Int)))] ∧ H = [mapK B1 M]) _ (⟨0, [], by omega, ⟨by simp, by simp⟩, Seen.nil, rfl, rfl, rfl⟩) (by repeat (first | exact envNil | refine envCons rfl ?_)) (by repeat (first | exact envNil | refine envCons rfl ?_)) (by repeat (first | exact subPnil | refine subPcons 0 rfl ?_)) ?_
    rintro nn E H ⟨k, M, h1, ha, hs, rfl, rfl, rfl⟩
    dsimp only [List.cons_append, List.nil_append]
    have hsl := hs.len
    rw [List.length_map, List.length_take] at hsl
    refine AW.seq ?_
    refine AW.region ?_
    refine AO.op (O.lss rfl rfl rfl (by rfl)) rfl rfl rfl ?_
    refine AO.nil ?_
    refine AQ.thenN ?_
    refine AW.seq ?_
    refine AW.split rfl (fun hlt => ?_) (fun hlt => ?_) <;> (try simp only [decide_eq_true_eq, decide_eq_false_iff_not, beq_iff_eq, beq_eq_false_iff_ne, bne_iff_ne, bne_eq_false_iff_eq, Bool.not_eq_true', Bool.not_eq_false', Bool.not_eq_true, Bool.not_eq_false, ne_eq, Int.not_lt, Int.not_le, Bool.and_eq_true, Bool.or_eq_true, Bool.or_eq_false_iff, Bool.and_eq_false_imp, strOf_toList, Decidable.not_not] at hlt)
    · skip
      have hk : k < l.length := by omega
      have hbd : BdM (hd l k).m := hb _ (getD_mem _ hk)
      refine AW.skip ?_
      refine AQ.thenN ?_
      refine AW.seq ?_
      refine AW.block ?_
      refine AW.seq ?_
      refine AW.region ?_
      refine AO.op (O.idxR rfl rfl rfl ⟨(by omega), (by omega)⟩) rfl rfl rfl ?_
      refine AO.op (O.loadRK rfl rfl (by exact getH (by omega) (by omega)) (by rfl)) rfl rfl rfl ?_
      refine AO.opB (O.alloc rfl (by (dsimp only [zerosA, List.replicate, List.append, List.flatten, AV.cells, Value.cells, List.toList_toArray, List.map]; done)) (by rfl)) rfl rfl rfl ?_
      intro B2
      (refine AO.store (i := 0) rfl rfl rfl rfl rfl rfl (by rfl) (by rfl) (by rfl) (by (dsimp only [List.set, List.cons_append, List.nil_append, List.take, List.drop]; done)) (by (dsimp only [List.set, List.cons_append, List.nil_append, List.take, List.drop]; done)) ?_)
      refine AO.nil ?_
      refine AQ.thenN ?_
      refine AW.seq ?_
      refine AW.region ?_
      refine AO.op (O.fieldAddr rfl rfl) rfl rfl rfl ?_
      refine AO.op (O.load rfl rfl (by repeat (exact List.Mem.head _)) (by rfl)) rfl rfl rfl ?_
      refine AO.op (O.fieldAddr rfl rfl) rfl rfl rfl ?_
      refine AO.op (O.load rfl rfl (by repeat (exact List.Mem.head _)) (by rfl)) rfl rfl rfl ?_
      refine AO.op (O.build rfl rfl rfl (by rfl)) rfl rfl rfl ?_
      refine AO.opB (O.alloc rfl (by (dsimp only [zerosA, List.replicate, List.append, List.flatten, AV.cells, Value.cells, List.toList_toArray, List.map]; done)) (by rfl)) rfl rfl rfl ?_
      intro B3
      (refine AO.store (i := 0) rfl rfl rfl rfl rfl rfl (by rfl) (by rfl) (by rfl) (by (dsimp only [List.set, List.cons_append, List.nil_append, List.take, List.drop]; done)) (by (dsimp only [List.set, List.cons_append, List.nil_append, List.take, List.drop]; done)) ?_)
      refine AO.nil ?_
      refine AQ.thenN ?_
      refine AW.seq ?_
      refine AW.seq ?_
      refine AW.region ?_
      refine AO.op (O.fieldAddr rfl rfl) rfl rfl rfl ?_
      refine AO.op (O.load rfl rfl (by repeat (first | exact List.Mem.head _ | refine List.Mem.tail _ ?_)) (by rfl)) rfl rfl rfl ?_
      refine AO.op (O.call rfl Try.func37 rfl rfl rfl (peerOK_fn _)) rfl rfl rfl ?_
      refine AO.op (O.not rfl rfl (by rfl)) rfl rfl rfl ?_
      refine AO.op (O.move rfl rfl) rfl rfl rfl ?_
      refine AO.opG rfl rfl rfl (fun hp => O.fieldAddr rfl rfl) ?_
      refine AO.opG rfl rfl rfl (fun hp => OpW.force 27 rfl (by exact hp) (O.load rfl rfl (by repeat (first | exact List.Mem.head _ | refine List.Mem.tail _ ?_)) (by rfl))) ?_
      refine AO.opG rfl rfl rfl (fun hp => OpW.force 28 rfl (by exact hp) (O.call rfl Try.func36 rfl rfl rfl (idOK_fn _))) ?_
      refine AO.opG rfl rfl rfl (fun hp => OpW.force 29 rfl (by exact hp) (O.not rfl rfl (by rfl))) ?_
      refine AO.op (O.pickOr rfl rfl rfl rfl (fun h => by exact congrArg (fun b => !b) h)) rfl rfl rfl ?_
      refine AO.op (O.move rfl rfl) rfl rfl rfl ?_
      refine AO.opG rfl rfl rfl (fun hp => O.fieldAddr rfl rfl) ?_
      refine AO.opG rfl rfl rfl (fun hp => OpW.force 33 rfl (by exact hp) (O.load rfl rfl (by repeat (first | exact List.Mem.head _ | refine List.Mem.tail _ ?_)) (by rfl))) ?_
      refine AO.opG rfl rfl rfl (fun hp => OpW.force 34 rfl (by exact hp) (O.lss rfl rfl rfl (by rfl))) ?_
      refine AO.op (O.pickOr rfl rfl rfl rfl (fun h => by exact congrArg (fun b => !b) h)) rfl rfl rfl ?_
      refine AO.op (O.move rfl rfl) rfl rfl rfl ?_
      refine AO.opG rfl rfl rfl (fun hp => O.move rfl rfl) ?_
      refine AO.opG rfl rfl rfl (fun hp => O.loadK rfl rfl (by repeat (exact List.Mem.head _)) (by rfl) (by rfl)) ?_
      refine AO.opG rfl rfl rfl (fun hp => OpW.force 38 rfl (by exact hp) (OpW.force 39 rfl (by exact hp) (O.lookB rfl rfl rfl (by repeat (first | exact List.Mem.head _ | refine List.Mem.tail _ ?_)) (by exact keyA2 (wfI64 (inH hp).1) (wfI64 (inH hp).2))))) ?_
      refine AO.op (O.pickOr rfl rfl rfl rfl (fun h => by exact congrArg (fun b => !b) h)) rfl rfl rfl ?_
      refine AO.nil ?_
      refine AQ.thenN ?_
      rw [show (chH (hd l k) || mBool (mGet M (key2 (hd l k).peer (hd l k).id) (.bool false))) = _ from stepH hs]
      refine AW.split rfl (fun h58 => ?_) (fun h58 => ?_) <;> (try simp only [decide_eq_true_eq, decide_eq_false_iff_not, beq_iff_eq, beq_eq_false_iff_ne, bne_iff_ne, bne_eq_false_iff_eq, Bool.not_eq_true', Bool.not_eq_false', Bool.not_eq_true, Bool.not_eq_false, ne_eq, Int.not_lt, Int.not_le, Bool.and_eq_true, Bool.or_eq_true, Bool.or_eq_false_iff, Bool.and_eq_false_imp, strOf_toList, Decidable.not_not] at h58)
      · skip
        refine AW.seq ?_
        refine AW.region ?_
        refine AO.op (O.assign rfl rfl) rfl rfl rfl ?_
        refine AO.nil ?_
        refine AQ.thenN ?_
        refine AW.ret ?_
        refine AQ.thenR ?_
        refine AQ.blockR ?_
        refine AQ.thenR ?_
        refine AQ.loopR ?_
        refine AQ.blockR ?_
        refine AQ.thenR ?_
        refine AQ.ret1 rfl rfl ⟨_, List.nil_sublist _, .nil⟩ (retD (decide_eq_false fun hh => h58 (by have := ((HOkTo.succ hk).1 (HOkTo.mono (by omega) hh.2)).2; exact ⟨⟨this.1.1, this.1.2.1, this.1.2.2.1⟩, this.2⟩)).symm)
      · skip
        have hin := OkH0.in h58.1
        refine AW.skip ?_
        refine AQ.thenN ?_
        refine AW.seq ?_
        refine AW.seq ?_
        refine AW.region ?_
        refine AO.op (O.fieldAddr rfl rfl) rfl rfl rfl ?_
        refine AO.op (O.load rfl rfl (by repeat (first | exact List.Mem.head _ | refine List.Mem.tail _ ?_)) (by rfl)) rfl rfl rfl ?_
        refine AO.op (O.move rfl rfl) rfl rfl rfl ?_
        refine AO.opG rfl rfl rfl (fun hp => O.fieldAddr rfl rfl) ?_
        refine AO.opG rfl rfl rfl (fun hp => OpW.force 45 rfl (by exact hp) (O.loadK rfl rfl (by repeat (first | exact List.Mem.head _ | refine List.Mem.tail _ ?_)) (by rfl) (by rfl))) ?_
        refine AO.opG rfl rfl rfl (fun hp => OpW.force 46 rfl (by exact hp) (O.call rfl Try.func44 rfl rfl rfl (valid_fn (hd l k).m))) ?_
        refine AO.opG rfl rfl rfl (fun hp => OpW.force 47 rfl (by exact hp) (O.not rfl rfl (by rfl))) ?_
        refine AO.op (O.pickAnd rfl rfl rfl rfl (fun h => by exact h)) rfl rfl rfl ?_
        refine AO.op (O.move rfl rfl) rfl rfl rfl ?_
        refine AO.opG rfl rfl rfl (fun hp => O.fieldAddr rfl rfl) ?_
        refine AO.opG rfl rfl rfl (fun hp => OpW.force 51 rfl (by exact hp) (O.load rfl rfl (by repeat (first | exact List.Mem.head _ | refine List.Mem.tail _ ?_)) (by rfl))) ?_
        refine AO.opG rfl rfl rfl (fun hp => OpW.force 52 rfl (by exact hp) (O.not rfl rfl (by rfl))) ?_
        refine AO.opG rfl rfl rfl (fun hp => OpW.force 53 rfl (by exact hp) (O.move rfl rfl)) ?_
        refine AO.opG rfl rfl rfl (fun hp => O.fieldAddr rfl rfl) ?_
        refine AO.opG rfl rfl rfl (fun hp => OpW.force 55 rfl (by exact hp) (O.loadK rfl rfl (by repeat (first | exact List.Mem.head _ | refine List.Mem.tail _ ?_)) (by rfl) (by rfl))) ?_
        refine AO.opG rfl rfl rfl (fun hp => OpW.force 56 rfl (by exact hp) (O.call rfl Try.func54 rfl rfl rfl (zero_fn (hd l k).m hbd))) ?_
        refine AO.opG rfl rfl rfl (fun hp => OpW.force 57 rfl (by exact hp) (O.not rfl rfl (by rfl))) ?_
        refine AO.opG rfl rfl rfl (fun hp => OpW.force 54 rfl (by exact hp) (O.pickAnd rfl rfl rfl rfl (fun h => by simp_all))) ?_
        refine AO.op (O.pickOr rfl rfl rfl rfl (fun h => by exact congrArg (fun b => !b) h)) rfl rfl rfl ?_
        refine AO.nil ?_
        refine AQ.thenN ?_
        rw [ansH]
        refine AW.split rfl (fun h60 => ?_) (fun h60 => ?_) <;> (try simp only [decide_eq_true_eq, decide_eq_false_iff_not, beq_iff_eq, beq_eq_false_iff_ne, bne_iff_ne, bne_eq_false_iff_eq, Bool.not_eq_true', Bool.not_eq_false', Bool.not_eq_true, Bool.not_eq_false, ne_eq, Int.not_lt, Int.not_le, Bool.and_eq_true, Bool.or_eq_true, Bool.or_eq_false_iff, Bool.and_eq_false_imp, strOf_toList, Decidable.not_not] at h60)
        · skip
          refine AW.seq ?_
          refine AW.region ?_
          refine AO.op (O.assign rfl rfl) rfl rfl rfl ?_
          refine AO.nil ?_
          refine AQ.thenN ?_
          refine AW.ret ?_
          refine AQ.thenR ?_
          refine AQ.blockR ?_
          refine AQ.thenR ?_
          refine AQ.loopR ?_
          refine AQ.blockR ?_
          refine AQ.thenR ?_
          refine AQ.ret1 rfl rfl ⟨_, List.nil_sublist _, .nil⟩ (retD (decide_eq_false fun hh => h60 (by have := ((HOkTo.succ hk).1 (HOkTo.mono (by omega) hh.2)).2; exact this.1.2.2.2)).symm)
        · skip
          refine AW.skip ?_
          refine AQ.thenN ?_
          refine AW.region ?_
          refine AO.op (O.move rfl rfl) rfl rfl rfl ?_
          refine AO.op (O.loadK rfl rfl (by repeat (exact List.Mem.head _)) (by rfl) (by rfl)) rfl rfl rfl ?_
          (refine AO.mapPut (i := 2) rfl rfl rfl rfl rfl rfl rfl (by exact keyA2 (wfI64 hin.1) (wfI64 hin.2)) (by exact plainElem_bool TyD.ax _) (by ( unfold maxLen; omega)) (by (dsimp only [List.set, List.cons_append, List.nil_append, List.take, List.drop]; done)) ?_)
          refine AO.nil ?_
          refine AQ.blockN ?_
          refine AQ.thenN ?_
          refine AW.region ?_
          refine AO.op (O.add rfl rfl rfl (by exact wI64 (by omega))) rfl rfl rfl ?_
          refine AO.op (O.move rfl rfl) rfl rfl rfl ?_
          refine AO.nil ?_
          refine AQ.loopKN _ _ _ (by omega) (⟨k + 1, _, by omega, (HOkTo.succ hk).2 ⟨ha, ⟨h58.1.1, h58.1.2.1, h58.1.2.2, h60⟩, h58.2⟩, by rw [take_snoc Hd.none hk, List.map_append, List.map_singleton]; exact hs.put hin.1 hin.2, rfl, rfl, rfl⟩) (by repeat (first | exact envNil | refine envCons rfl ?_)) (by repeat (first | exact envNil | refine envCons rfl ?_)) (by repeat (first | exact subPnil | refine subPcons 2 rfl ?_))
    · skip
      obtain rfl : k = l.length := by omega
      refine AW.exit ?_
      refine AQ.thenX ?_
      refine AQ.loopX ?_
      refine AQ.blockX rfl ?_
      refine AQ.thenN ?_
      refine AW.seq ?_
      refine AW.region ?_
      refine AO.op (O.assign rfl rfl) rfl rfl rfl ?_
      refine AO.nil ?_
      refine AQ.thenN ?_
      refine AW.ret ?_
      refine AQ.ret1 rfl rfl ⟨_, List.nil_sublist _, .nil⟩ (retD (decide_eq_true ⟨by omega, ha⟩).symm)
end Go.Proofs.Ytdnmilmcdbgppaa.By

namespace Go.Proofs.Ytdnmilmcdbgppaa.By
open Go.RowKit L A
set_option linter.unusedVariables false
set_option maxRecDepth 20000
set_option linter.unusedSimpArgs false
attribute [local irreducible] AW AQ AO
def BdE (e : Ep) : Prop := e.out.length ≤ 140737488355328 ∧ e.used.length ≤ 140737488355328 ∧ e.inn.length ≤ 140737488355328 ∧ ∀ h ∈ e.inn, BdM h.m
abbrev UOkTo (l : List Us) (k : Nat) : Prop := ∀ u ∈ l.take k, OkU u
theorem UOkTo.succ {l : List Us} {k : Nat} (h : k < l.length) : UOkTo l (k + 1) ↔ UOkTo l k ∧ OkU (us l k) := mem_take_snoc Us.none h OkU
theorem UOkTo.mono {l : List Us} {k : Nat} (hh : UOkTo l l.length) : UOkTo l k := fun w hw => hh w (by rw [List.take_length]; exact List.mem_of_mem_take hw)
abbrev chU (u : Us) : Bool := !decide (PeerOk u.peer) || !decide (IdOk u.id) || decide (u.till < 0)
theorem chU_eq (u : Us) : chU u = !decide (OkU u) := chH_eq ⟨u.peer, u.id, u.till, false, Msg.none⟩
theorem valE_iff (e : Ep) : ValE e ↔ (IdOk e.next ∧ e.used.length ≤ 32) ∧ UOkTo e.used e.used.length ∧ (e.out.length ≤ 16 ∧ WOkTo e.out e.out.length) ∧ (e.inn.length ≤ 16 ∧ HOkTo e.inn e.inn.length) := by
  unfold ValE UOkTo WOkTo HOkTo
  rw [List.take_length, List.take_length, List.take_length]
  constructor
  · rintro ⟨h1, h2, h3, h4, h5, h6, h7, h8, h9⟩; exact ⟨⟨h1, h3⟩, h7, ⟨h2, h5, h6⟩, h4, h8, h9⟩
  · rintro ⟨⟨h1, h3⟩, h7, ⟨h2, h5, h6⟩, h4, h8, h9⟩; exact ⟨h1, h2, h3, h4, h5, h6, h7, h8, h9⟩
theorem evalid_fn (e : Ep) (hb : BdE e) : Sp Try.prog 15 [aggE e] [] (Is (.val (.bool (decide (ValE e))))) := by
  have hb2 := hb.2.1
  refine Sp.enter Try.func15 rfl _ Try.ntmps15 rfl (fun w0 R0 => ?_)
  refine AW.seq ?_
  refine AW.region ?_
  refine AO.opB (O.box rfl rfl rfl rfl rfl) rfl rfl rfl ?_
  intro B1
  refine AO.op (O.assign rfl rfl) rfl rfl rfl ?_
  refine AO.nil ?_
  refine AQ.thenN ?_
  refine AW.seq ?_
  refine AW.seq ?_
  refine AW.region ?_
  refine AO.op (O.fieldAddr rfl rfl) rfl rfl rfl ?_
  refine AO.op (O.load rfl rfl (by repeat (exact List.Mem.head _)) (by rfl)) rfl rfl rfl ?_
  refine AO.op (O.call rfl Try.func36 rfl rfl rfl (idOK_fn _)) rfl rfl rfl ?_
  refine AO.op (O.not rfl rfl (by rfl)) rfl rfl rfl ?_
  refine AO.op (O.move rfl rfl) rfl rfl rfl ?_
  refine AO.opG rfl rfl rfl (fun hp => O.fieldAddr rfl rfl) ?_
  refine AO.opG rfl rfl rfl (fun hp => OpW.force 10 rfl (by exact hp) (O.load rfl rfl (by repeat (exact List.Mem.head _)) (by rfl))) ?_
  refine AO.opG rfl rfl rfl (fun hp => OpW.force 11 rfl (by exact hp) (O.lenR rfl rfl)) ?_
  refine AO.opG rfl rfl rfl (fun hp => OpW.force 12 rfl (by exact hp) (O.gtr rfl rfl rfl (by rfl))) ?_
  refine AO.op (O.pickOr rfl rfl rfl rfl (fun h => by exact congrArg (fun b => !b) h)) rfl rfl rfl ?_
  refine AO.nil ?_
  refine AQ.thenN ?_
  refine AW.split rfl (fun h => ?_) (fun h => ?_) <;> (try simp only [decide_eq_true_eq, decide_eq_false_iff_not, beq_iff_eq, beq_eq_false_iff_ne, bne_iff_ne, bne_eq_false_iff_eq, Bool.not_eq_true', Bool.not_eq_false', Bool.not_eq_true, Bool.not_eq_false, ne_eq, Int.not_lt, Int.not_le, Bool.and_eq_true, Bool.or_eq_true, Bool.or_eq_false_iff, Bool.and_eq_false_imp, strOf_toList, Decidable.not_not] at h)
  · skip
    refine AW.seq ?_
    refine AW.region ?_
    refine AO.op (O.assign rfl rfl) rfl rfl rfl ?_
    refine AO.nil ?_
    refine AQ.thenN ?_
    refine AW.ret ?_
    refine AQ.thenR ?_
    refine AQ.ret1 rfl rfl ⟨_, List.nil_sublist _, .nil⟩ (retD (decide_eq_false fun hk => by obtain ⟨⟨h1, h2⟩, -⟩ := (valE_iff e).1 hk; rcases h with h | h <;> omega).symm)
  · skip
    refine AW.skip ?_
    refine AQ.thenN ?_
    refine AW.seq ?_
    refine AW.seq ?_
    refine AW.region ?_
    refine AO.op (O.fieldAddr rfl rfl) rfl rfl rfl ?_
    refine AO.op (O.load rfl rfl (by repeat (exact List.Mem.head _)) (by rfl)) rfl rfl rfl ?_
    refine AO.op (O.lenR rfl rfl) rfl rfl rfl ?_
    refine AO.op (O.move rfl rfl) rfl rfl rfl ?_
    refine AO.nil ?_
    refine AQ.thenN ?_
    refine AW.block ?_
    refine AW.loopK [(1, _), (16, _), (17, _)] (fun nn E H => ∃ (k : Nat), (k ≤ e.used.length) ∧ (UOkTo e.used k) ∧ nn = e.used.length - k ∧ E = [(18, .val (.int .i64 (k : Int)))] ∧ H = [.blk B1 26 4 [.val (.int .i64 e.next), roW e.out, roU e.used, roH e.inn]]) _ (⟨0, by omega, fun _ hu => by simp at hu, rfl, rfl, rfl⟩) (by repeat (first | exact envNil | refine envCons rfl ?_)) (by repeat (first | exact envNil | refine envCons rfl ?_)) (by repeat (first | exact subPnil | refine subPcons 0 rfl ?_)) ?_
    rintro nn E H ⟨k, h1, ha, rfl, rfl, rfl⟩
    dsimp only [List.cons_append, List.nil_append]
    refine AW.seq ?_
    refine AW.region ?_
    refine AO.op (O.lss rfl rfl rfl (by rfl)) rfl rfl rfl ?_
    refine AO.nil ?_
    refine AQ.thenN ?_
    refine AW.seq ?_
    refine AW.split rfl (fun hlt => ?_) (fun hlt => ?_) <;> (try simp only [decide_eq_true_eq, decide_eq_false_iff_not, beq_iff_eq, beq_eq_false_iff_ne, bne_iff_ne, bne_eq_false_iff_eq, Bool.not_eq_true', Bool.not_eq_false', Bool.not_eq_true, Bool.not_eq_false, ne_eq, Int.not_lt, Int.not_le, Bool.and_eq_true, Bool.or_eq_true, Bool.or_eq_false_iff, Bool.and_eq_false_imp, strOf_toList, Decidable.not_not] at hlt)
    · skip
      have hk : k < e.used.length := by omega
      refine AW.skip ?_
      refine AQ.thenN ?_
      refine AW.seq ?_
      refine AW.block ?_
      refine AW.seq ?_
      refine AW.region ?_
      refine AO.op (O.idxR rfl rfl rfl ⟨(by omega), (by omega)⟩) rfl rfl rfl ?_
      refine AO.op (O.loadRK rfl rfl (by exact getU (by omega) (by omega)) (by rfl)) rfl rfl rfl ?_
      refine AO.opB (O.alloc rfl (by (dsimp only [List.set, List.append, List.cons_append, List.nil_append, roB_cells, roI_cells, roO_cells, roW_cells, roU_cells, roH_cells, splice, ofConst, AV.cells, List.map, List.map_cons, List.map_nil, List.take, List.drop, Nat.zero_add, Nat.add_zero, Nat.reduceAdd, Nat.reduceMul, Nat.zero_mul, Value.cells, List.toList_toArray, zerosA, List.replicate, List.flatten, List.append_nil]; done)) (by rfl)) rfl rfl rfl ?_
      intro B2
      (refine AO.store (i := 0) rfl rfl rfl rfl rfl rfl (by rfl) (by rfl) (by rfl) (by (dsimp only [List.set, List.append, List.cons_append, List.nil_append, roB_cells, roI_cells, roO_cells, roW_cells, roU_cells, roH_cells, splice, ofConst, AV.cells, List.map, List.map_cons, List.map_nil, List.take, List.drop, Nat.zero_add, Nat.add_zero, Nat.reduceAdd, Nat.reduceMul, Nat.zero_mul, Value.cells, List.toList_toArray, zerosA, List.replicate, List.flatten, List.append_nil]; done)) (by (dsimp only [List.set, List.append, List.cons_append, List.nil_append, roB_cells, roI_cells, roO_cells, roW_cells, roU_cells, roH_cells, splice, ofConst, AV.cells, List.map, List.map_cons, List.map_nil, List.take, List.drop, Nat.zero_add, Nat.add_zero, Nat.reduceAdd, Nat.reduceMul, Nat.zero_mul, Value.cells, List.toList_toArray, zerosA, List.replicate, List.flatten, List.append_nil]; done)) ?_)
      refine AO.nil ?_
      refine AQ.thenN ?_
      refine AW.seq ?_
      refine AW.region ?_
      refine AO.op (O.fieldAddr rfl rfl) rfl rfl rfl ?_
      refine AO.op (O.load rfl rfl (by repeat (exact List.Mem.head _)) (by rfl)) rfl rfl rfl ?_
      refine AO.op (O.call rfl Try.func37 rfl rfl rfl (peerOK_fn _)) rfl rfl rfl ?_
      refine AO.op (O.not rfl rfl (by rfl)) rfl rfl rfl ?_
      refine AO.op (O.move rfl rfl) rfl rfl rfl ?_
      refine AO.opG rfl rfl rfl (fun hp => O.fieldAddr rfl rfl) ?_
      refine AO.opG rfl rfl rfl (fun hp => OpW.force 27 rfl (by exact hp) (O.load rfl rfl (by repeat (exact List.Mem.head _)) (by rfl))) ?_
      refine AO.opG rfl rfl rfl (fun hp => OpW.force 28 rfl (by exact hp) (O.call rfl Try.func36 rfl rfl rfl (idOK_fn _))) ?_
      refine AO.opG rfl rfl rfl (fun hp => OpW.force 29 rfl (by exact hp) (O.not rfl rfl (by rfl))) ?_
      refine AO.op (O.pickOr rfl rfl rfl rfl (fun h => by exact congrArg (fun b => !b) h)) rfl rfl rfl ?_
      refine AO.op (O.move rfl rfl) rfl rfl rfl ?_
      refine AO.opG rfl rfl rfl (fun hp => O.fieldAddr rfl rfl) ?_
      refine AO.opG rfl rfl rfl (fun hp => OpW.force 33 rfl (by exact hp) (O.load rfl rfl (by repeat (exact List.Mem.head _)) (by rfl))) ?_
      refine AO.opG rfl rfl rfl (fun hp => OpW.force 34 rfl (by exact hp) (O.lss rfl rfl rfl (by rfl))) ?_
      refine AO.op (O.pickOr rfl rfl rfl rfl (fun h => by exact congrArg (fun b => !b) h)) rfl rfl rfl ?_
      refine AO.nil ?_
      refine AQ.thenN ?_
      rw [show (!decide (PeerOk (us e.used k).peer) || !decide (IdOk (us e.used k).id) || decide ((us e.used k).till < 0)) = !decide (OkU (us e.used k)) from chU_eq _]
      refine AW.split rfl (fun h36 => ?_) (fun h36 => ?_) <;> (try simp only [decide_eq_true_eq, decide_eq_false_iff_not, beq_iff_eq, beq_eq_false_iff_ne, bne_iff_ne, bne_eq_false_iff_eq, Bool.not_eq_true', Bool.not_eq_false', Bool.not_eq_true, Bool.not_eq_false, ne_eq, Int.not_lt, Int.not_le, Bool.and_eq_true, Bool.or_eq_true, Bool.or_eq_false_iff, Bool.and_eq_false_imp, strOf_toList, Decidable.not_not] at h36)
      · skip
        refine AW.seq ?_
        refine AW.region ?_
        refine AO.op (O.assign rfl rfl) rfl rfl rfl ?_
        refine AO.nil ?_
        refine AQ.thenN ?_
        refine AW.ret ?_
        refine AQ.blockR ?_
        refine AQ.thenR ?_
        refine AQ.loopR ?_
        refine AQ.blockR ?_
        refine AQ.thenR ?_
        refine AQ.ret1 rfl rfl ⟨_, List.nil_sublist _, .nil⟩ (retD (decide_eq_false fun hh => h36 ((UOkTo.succ hk).1 (UOkTo.mono ((valE_iff e).1 hh).2.1)).2).symm)
      · skip
        refine AW.skip ?_
        refine AQ.blockN ?_
        refine AQ.thenN ?_
        refine AW.region ?_
        refine AO.op (O.add rfl rfl rfl (by exact wI64 (by omega))) rfl rfl rfl ?_
        refine AO.op (O.move rfl rfl) rfl rfl rfl ?_
        refine AO.nil ?_
        refine AQ.loopKN _ _ _ (by omega) (⟨k + 1, by omega, (UOkTo.succ hk).2 ⟨ha, h36⟩, rfl, rfl, rfl⟩) (by repeat (first | exact envNil | refine envCons rfl ?_)) (by repeat (first | exact envNil | refine envCons rfl ?_)) (by repeat (first | exact subPnil | refine subPcons 1 rfl ?_))
    · skip
      obtain rfl : k = e.used.length := by omega
      refine AW.exit ?_
      refine AQ.thenX ?_
      refine AQ.loopX ?_
      refine AQ.blockX rfl ?_
      refine AQ.thenN ?_
      refine AW.seq ?_
      refine AW.region ?_
      refine AO.op (O.fieldAddr rfl rfl) rfl rfl rfl ?_
      refine AO.op (O.load rfl rfl (by repeat (exact List.Mem.head _)) (by rfl)) rfl rfl rfl ?_
      refine AO.op (O.call rfl Try.func38 rfl rfl rfl (waitingOK_fn e.out)) rfl rfl rfl ?_
      refine AO.op (O.move rfl rfl) rfl rfl rfl ?_
      refine AO.opG rfl rfl rfl (fun hp => O.fieldAddr rfl rfl) ?_
      refine AO.opG rfl rfl rfl (fun hp => OpW.force 42 rfl (by exact hp) (O.load rfl rfl (by repeat (exact List.Mem.head _)) (by rfl))) ?_
      refine AO.opG rfl rfl rfl (fun hp => OpW.force 43 rfl (by exact hp) (O.call rfl Try.func39 rfl rfl rfl (heardOK_fn e.inn hb.2.2.2))) ?_
      refine AO.op (O.pickAnd rfl rfl rfl rfl (fun h => by exact h)) rfl rfl rfl ?_
      refine AO.op (O.assign rfl rfl) rfl rfl rfl ?_
      refine AO.nil ?_
      refine AQ.thenN ?_
      refine AW.ret ?_
      refine AQ.ret1 rfl rfl ⟨_, List.nil_sublist _, .nil⟩ (retD (by rw [and_dec]; refine decide_eq_decide.2 ?_; rw [valE_iff]; exact ⟨fun hh => ⟨by omega, ha, hh⟩, fun hh => hh.2.2⟩))
end Go.Proofs.Ytdnmilmcdbgppaa.By

namespace Go.Proofs.Ytdnmilmcdbgppaa.By
open Go.RowKit L A
set_option linter.unusedVariables false
set_option maxRecDepth 20000
set_option linter.unusedSimpArgs false
attribute [local irreducible] AW AQ AO
theorem wtsA_take {l : List Wt} {k j : Nat} (h : j = k) : (wtsA l).take (j * 9) = wtsA (l.take k) := by subst h; exact flat_take cellsW_len l j
theorem hdsA_take {l : List Hd} {k j : Nat} (h : j = k) : (hdsA l).take (j * 10) = hdsA (l.take k) := by subst h; exact flat_take cellsH_len l j
theorem getWt {l : List Wt} {k i : Nat} (h : i < k) (hk : k ≤ l.length) {j : Nat} (hj : j = i) : ((wtsA (l.take k)).drop (j * 9)).take 9 = cW (wt l i) := by
  have := getW (l := l.take k) (k := i) (by rw [List.length_take]; omega) hj
  rw [this]
  have e : wt (l.take k) i = wt l i := by simp [wt, List.getElem?_take, h]
  rw [e]
theorem getHt {l : List Hd} {k i : Nat} (h : i < k) (hk : k ≤ l.length) {j : Nat} (hj : j = i) : ((hdsA (l.take k)).drop (j * 10)).take 10 = cH (hd l i) := by
  have := getH (l := l.take k) (k := i) (by rw [List.length_take]; omega) hj
  rw [this]
  have e : hd (l.take k) i = hd l i := by simp [hd, List.getElem?_take, h]
  rw [e]
theorem rchW_eq (w : Wt) : (!decide (0 ≤ w.peer ∧ w.peer ≤ 65536) || !decide (ValM w.m) || w.m.ty != 0 || decide (w.due < 0) || decide (w.sent < 1) || decide (5 < w.sent)) = !decide (OkW w) := by
  rw [← chW_eq, chW]
  cases !decide (PeerOk w.peer) <;> cases !decide (ValM w.m) <;> cases w.m.ty != 0 <;> rfl
theorem rchH_eq (h : Hd) : (!decide (0 ≤ h.peer ∧ h.peer ≤ 65536) || !decide (0 ≤ h.id ∧ h.id ≤ 65535) || decide (h.till < 0) || (h.ans && !decide (ValM h.m)) || (!h.ans && !decide (h.m = Msg.none))) = !decide (OkH h) := by
  rw [Bool.or_assoc, ansH, show (!decide (0 ≤ h.peer ∧ h.peer ≤ 65536) || !decide (0 ≤ h.id ∧ h.id ≤ 65535) || decide (h.till < 0)) = !decide (OkH0 h) from chH_eq h, ← Bool.not_and, and_dec]
  congr 1
  exact decide_eq_decide.2 ⟨fun ⟨⟨a, b, c⟩, d, e⟩ => ⟨a, b, c, d, e⟩, fun ⟨a, b, c, d, e⟩ => ⟨⟨a, b, c⟩, d, e⟩⟩
set_option maxHeartbeats 4000000 in
theorem revalid_fn (e : Ep) (hb : BdE e) : Sp Try.prog 16 [aggE e] [] (Is (.val (.bool (decide (ValE e))))) := by
  obtain ⟨hb1, hb2, hb3, hb4⟩ := hb
  refine Sp.enter Try.func16 rfl _ Try.ntmps16 rfl (fun w0 R0 => ?_)
  refine AW.seq ?_
  refine AW.region ?_
  refine AO.opB (O.box rfl rfl rfl rfl rfl) rfl rfl rfl ?_
  intro B1
  refine AO.op (O.assign rfl rfl) rfl rfl rfl ?_
  refine AO.nil ?_
  refine AQ.thenN ?_
  refine AW.seq ?_
  refine AW.seq ?_
  refine AW.region ?_
  refine AO.op (O.fieldAddr rfl rfl) rfl rfl rfl ?_
  refine AO.op (O.load rfl rfl (by repeat (exact List.Mem.head _)) (by rfl)) rfl rfl rfl ?_
  refine AO.op (O.call rfl Try.func40 rfl rfl rfl (in_fn _ _)) rfl rfl rfl ?_
  refine AO.op (O.not rfl rfl (by rfl)) rfl rfl rfl ?_
  refine AO.op (O.move rfl rfl) rfl rfl rfl ?_
  refine AO.opG rfl rfl rfl (fun hp => O.fieldAddr rfl rfl) ?_
  refine AO.opG rfl rfl rfl (fun hp => OpW.force 18 rfl (by exact hp) (O.load rfl rfl (by repeat (exact List.Mem.head _)) (by rfl))) ?_
  refine AO.opG rfl rfl rfl (fun hp => OpW.force 19 rfl (by exact hp) (O.lenR rfl rfl)) ?_
  refine AO.opG rfl rfl rfl (fun hp => OpW.force 20 rfl (by exact hp) (O.gtr rfl rfl rfl (by rfl))) ?_
  refine AO.op (O.pickOr rfl rfl rfl rfl (fun h => by exact congrArg (fun b => !b) h)) rfl rfl rfl ?_
  refine AO.op (O.move rfl rfl) rfl rfl rfl ?_
  refine AO.opG rfl rfl rfl (fun hp => O.fieldAddr rfl rfl) ?_
  refine AO.opG rfl rfl rfl (fun hp => OpW.force 24 rfl (by exact hp) (O.load rfl rfl (by repeat (exact List.Mem.head _)) (by rfl))) ?_
  refine AO.opG rfl rfl rfl (fun hp => OpW.force 25 rfl (by exact hp) (O.lenR rfl rfl)) ?_
  refine AO.opG rfl rfl rfl (fun hp => OpW.force 26 rfl (by exact hp) (O.gtr rfl rfl rfl (by rfl))) ?_
  refine AO.op (O.pickOr rfl rfl rfl rfl (fun h => by exact congrArg (fun b => !b) h)) rfl rfl rfl ?_
  refine AO.op (O.move rfl rfl) rfl rfl rfl ?_
  refine AO.opG rfl rfl rfl (fun hp => O.fieldAddr rfl rfl) ?_
  refine AO.opG rfl rfl rfl (fun hp => OpW.force 30 rfl (by exact hp) (O.load rfl rfl (by repeat (exact List.Mem.head _)) (by rfl))) ?_
  refine AO.opG rfl rfl rfl (fun hp => OpW.force 31 rfl (by exact hp) (O.lenR rfl rfl)) ?_
  refine AO.opG rfl rfl rfl (fun hp => OpW.force 32 rfl (by exact hp) (O.gtr rfl rfl rfl (by rfl))) ?_
  refine AO.op (O.pickOr rfl rfl rfl rfl (fun h => by exact congrArg (fun b => !b) h)) rfl rfl rfl ?_
  refine AO.nil ?_
  refine AQ.thenN ?_
  refine AW.split rfl (fun h => ?_) (fun h => ?_) <;> (try simp only [decide_eq_true_eq, decide_eq_false_iff_not, beq_iff_eq, beq_eq_false_iff_ne, bne_iff_ne, bne_eq_false_iff_eq, Bool.not_eq_true', Bool.not_eq_false', Bool.not_eq_true, Bool.not_eq_false, ne_eq, Int.not_lt, Int.not_le, Bool.and_eq_true, Bool.or_eq_true, Bool.or_eq_false_iff, Bool.and_eq_false_imp, strOf_toList, Decidable.not_not] at h)
  · skip
    refine AW.seq ?_
    refine AW.region ?_
    refine AO.op (O.assign rfl rfl) rfl rfl rfl ?_
    refine AO.nil ?_
    refine AQ.thenN ?_
    refine AW.ret ?_
    refine AQ.thenR ?_
    refine AQ.ret1 rfl rfl ⟨_, List.nil_sublist _, .nil⟩ (retD (decide_eq_false fun hk => by obtain ⟨h1, h2, h3, h4, -⟩ := hk; rcases h with ((h | h) | h) | h <;> omega).symm)
  · skip
    refine AW.skip ?_
    refine AQ.thenN ?_
    refine AW.seq ?_
    refine AW.seq ?_
    refine AW.region ?_
    refine AO.op (O.fieldAddr rfl rfl) rfl rfl rfl ?_
    refine AO.op (O.load rfl rfl (by repeat (exact List.Mem.head _)) (by rfl)) rfl rfl rfl ?_
    refine AO.op (O.lenR rfl rfl) rfl rfl rfl ?_
    refine AO.op (O.move rfl rfl) rfl rfl rfl ?_
    refine AO.nil ?_
    refine AQ.thenN ?_
    refine AW.block ?_
    refine AW.loopK [(1, _), (36, _), (37, _)] (fun nn E H => ∃ (k : Nat), (k ≤ e.out.length) ∧ (WOkTo e.out k) ∧ nn = e.out.length - k ∧ E = [(38, .val (.int .i64 (k : Int)))] ∧ H = [.blk B1 26 4 [.val (.int .i64 e.next), roW e.out, roU e.used, roH e.inn]]) _ (⟨0, by omega, ⟨fun _ hu => by simp at hu, by simp⟩, rfl, rfl, rfl⟩) (by repeat (first | exact envNil | refine envCons rfl ?_)) (by repeat (first | exact envNil | refine envCons rfl ?_)) (by repeat (first | exact subPnil | refine subPcons 0 rfl ?_)) ?_
    rintro nn E H ⟨k, h1, ha, rfl, rfl, rfl⟩
    dsimp only [List.cons_append, List.nil_append]
    refine AW.seq ?_
    refine AW.region ?_
    refine AO.op (O.lss rfl rfl rfl (by rfl)) rfl rfl rfl ?_
    refine AO.nil ?_
    refine AQ.thenN ?_
    refine AW.seq ?_
    refine AW.split rfl (fun hlt => ?_) (fun hlt => ?_) <;> (try simp only [decide_eq_true_eq, decide_eq_false_iff_not, beq_iff_eq, beq_eq_false_iff_ne, bne_iff_ne, bne_eq_false_iff_eq, Bool.not_eq_true', Bool.not_eq_false', Bool.not_eq_true, Bool.not_eq_false, ne_eq, Int.not_lt, Int.not_le, Bool.and_eq_true, Bool.or_eq_true, Bool.or_eq_false_iff, Bool.and_eq_false_imp, strOf_toList, Decidable.not_not] at hlt)
    · skip
      have hk : k < e.out.length := by omega
      have hk1 : k ≤ e.out.length := by omega
      refine AW.skip ?_
      refine AQ.thenN ?_
      refine AW.seq ?_
      refine AW.block ?_
      refine AW.seq ?_
      refine AW.region ?_
      refine AO.op (O.move rfl rfl) rfl rfl rfl ?_
      refine AO.op (O.idxR rfl rfl rfl ⟨(by omega), (by omega)⟩) rfl rfl rfl ?_
      refine AO.op (O.loadRK rfl rfl (by exact getW (by omega) (by omega)) (by rfl)) rfl rfl rfl ?_
      refine AO.opB (O.alloc rfl (by (dsimp only [zerosA, List.replicate, List.append, List.flatten, AV.cells, Value.cells, List.toList_toArray, List.map]; done)) (by rfl)) rfl rfl rfl ?_
      intro B2
      refine AO.op (O.assign rfl rfl) rfl rfl rfl ?_
      (refine AO.store (i := 0) rfl rfl rfl rfl rfl rfl (by rfl) (by rfl) (by rfl) (by (dsimp only [List.set, List.cons_append, List.nil_append, List.take, List.drop]; done)) (by (dsimp only [List.set, List.cons_append, List.nil_append, List.take, List.drop]; done)) ?_)
      refine AO.nil ?_
      refine AQ.thenN ?_
      refine AW.seq ?_
      refine AW.seq ?_
      refine AW.region ?_
      refine AO.op (O.fieldAddr rfl rfl) rfl rfl rfl ?_
      refine AO.op (O.load rfl rfl (by repeat (exact List.Mem.head _)) (by rfl)) rfl rfl rfl ?_
      refine AO.op (O.call rfl Try.func40 rfl rfl rfl (in_fn _ _)) rfl rfl rfl ?_
      refine AO.op (O.not rfl rfl (by rfl)) rfl rfl rfl ?_
      refine AO.op (O.move rfl rfl) rfl rfl rfl ?_
      refine AO.opG rfl rfl rfl (fun hp => O.fieldAddr rfl rfl) ?_
      refine AO.opG rfl rfl rfl (fun hp => OpW.force 48 rfl (by exact hp) (O.loadK rfl rfl (by repeat (exact List.Mem.head _)) (by rfl) (by rfl))) ?_
      refine AO.opG rfl rfl rfl (fun hp => OpW.force 49 rfl (by exact hp) (O.call rfl Try.func41 rfl rfl rfl (rvalid_fn (wt e.out k).m))) ?_
      refine AO.opG rfl rfl rfl (fun hp => OpW.force 50 rfl (by exact hp) (O.not rfl rfl (by rfl))) ?_
      refine AO.op (O.pickOr rfl rfl rfl rfl (fun h => by exact congrArg (fun b => !b) h)) rfl rfl rfl ?_
      refine AO.op (O.move rfl rfl) rfl rfl rfl ?_
      refine AO.opG rfl rfl rfl (fun hp => O.fieldAddr rfl rfl) ?_
      refine AO.opG rfl rfl rfl (fun hp => OpW.force 54 rfl (by exact hp) (O.fieldAddr rfl rfl)) ?_
      refine AO.opG rfl rfl rfl (fun hp => OpW.force 55 rfl (by exact hp) (O.load rfl rfl (by repeat (exact List.Mem.head _)) (by rfl))) ?_
      refine AO.opG rfl rfl rfl (fun hp => OpW.force 56 rfl (by exact hp) (O.neq rfl rfl rfl (by rfl))) ?_
      refine AO.op (O.pickOr rfl rfl rfl rfl (fun h => by exact congrArg (fun b => !b) h)) rfl rfl rfl ?_
      refine AO.op (O.move rfl rfl) rfl rfl rfl ?_
      refine AO.opG rfl rfl rfl (fun hp => O.fieldAddr rfl rfl) ?_
      refine AO.opG rfl rfl rfl (fun hp => OpW.force 60 rfl (by exact hp) (O.load rfl rfl (by repeat (exact List.Mem.head _)) (by rfl))) ?_
      refine AO.opG rfl rfl rfl (fun hp => OpW.force 61 rfl (by exact hp) (O.lss rfl rfl rfl (by rfl))) ?_
      refine AO.op (O.pickOr rfl rfl rfl rfl (fun h => by exact congrArg (fun b => !b) h)) rfl rfl rfl ?_
      refine AO.op (O.move rfl rfl) rfl rfl rfl ?_
      refine AO.opG rfl rfl rfl (fun hp => O.fieldAddr rfl rfl) ?_
      refine AO.opG rfl rfl rfl (fun hp => OpW.force 65 rfl (by exact hp) (O.load rfl rfl (by repeat (exact List.Mem.head _)) (by rfl))) ?_
      refine AO.opG rfl rfl rfl (fun hp => OpW.force 66 rfl (by exact hp) (O.lss rfl rfl rfl (by rfl))) ?_
      refine AO.op (O.pickOr rfl rfl rfl rfl (fun h => by exact congrArg (fun b => !b) h)) rfl rfl rfl ?_
      refine AO.op (O.move rfl rfl) rfl rfl rfl ?_
      refine AO.opG rfl rfl rfl (fun hp => O.fieldAddr rfl rfl) ?_
      refine AO.opG rfl rfl rfl (fun hp => OpW.force 70 rfl (by exact hp) (O.load rfl rfl (by repeat (exact List.Mem.head _)) (by rfl))) ?_
      refine AO.opG rfl rfl rfl (fun hp => OpW.force 71 rfl (by exact hp) (O.gtr rfl rfl rfl (by rfl))) ?_
      refine AO.op (O.pickOr rfl rfl rfl rfl (fun h => by exact congrArg (fun b => !b) h)) rfl rfl rfl ?_
      refine AO.nil ?_
      refine AQ.thenN ?_
      rw [show (_ || _) = !decide (OkW (wt e.out k)) from rchW_eq _]
      refine AW.split rfl (fun h36 => ?_) (fun h36 => ?_) <;> (try simp only [decide_eq_true_eq, decide_eq_false_iff_not, beq_iff_eq, beq_eq_false_iff_ne, bne_iff_ne, bne_eq_false_iff_eq, Bool.not_eq_true', Bool.not_eq_false', Bool.not_eq_true, Bool.not_eq_false, ne_eq, Int.not_lt, Int.not_le, Bool.and_eq_true, Bool.or_eq_true, Bool.or_eq_false_iff, Bool.and_eq_false_imp, strOf_toList, Decidable.not_not] at h36)
      · skip
        refine AW.seq ?_
        refine AW.region ?_
        refine AO.op (O.assign rfl rfl) rfl rfl rfl ?_
        refine AO.nil ?_
        refine AQ.thenN ?_
        refine AW.ret ?_
        refine AQ.thenR ?_
        refine AQ.blockR ?_
        refine AQ.thenR ?_
        refine AQ.loopR ?_
        refine AQ.blockR ?_
        refine AQ.thenR ?_
        refine AQ.ret1 rfl rfl ⟨_, List.nil_sublist _, .nil⟩ (retD (decide_eq_false fun hh => h36 ((WOkTo.succ hk).1 (WOkTo.mono (by omega) ((valE_iff e).1 hh).2.2.1.2)).2.1).symm)
      · skip
        refine AW.skip ?_
        refine AQ.thenN ?_
        refine AW.seq ?_
        refine AW.region ?_
        refine AO.op (O.fieldAddr rfl rfl) rfl rfl rfl ?_
        refine AO.op (O.load rfl rfl (by repeat (first | exact List.Mem.head _ | refine List.Mem.tail _ ?_)) (by rfl)) rfl rfl rfl ?_
        refine AO.op (O.move rfl rfl) rfl rfl rfl ?_
        refine AO.op (O.sliceTo (k := k) rfl rfl rfl (by rfl) (by omega) (by exact wtsA_take rfl)) rfl rfl rfl ?_
        refine AO.op (O.lenR rfl rfl) rfl rfl rfl ?_
        refine AO.op (O.move rfl rfl) rfl rfl rfl ?_
        refine AO.nil ?_
        refine AQ.thenN ?_
        refine AW.block ?_
        refine AW.loopK [(1, _), (4, _), (36, _), (37, _), (38, _), (77, _), (78, _)] (fun nn E H => ∃ (i : Nat), (i ≤ k) ∧ (∀ q, q < i → kWt (wt e.out q) ≠ kWt (wt e.out k)) ∧ nn = k - i ∧ E = [(79, .val (.int .i64 (i : Int)))] ∧ H = [.blk B2 71 9 (cW (wt e.out k)), .blk B1 26 4 [.val (.int .i64 e.next), roW e.out, roU e.used, roH e.inn]]) _ (⟨0, by omega, fun q hq => by omega, rfl, rfl, rfl⟩) (by repeat (first | exact envNil | refine envCons rfl ?_)) (by repeat (first | exact envNil | refine envCons rfl ?_)) (by repeat (first | exact subPnil | refine subPcons 0 rfl ?_)) ?_
        rintro nn E H ⟨i, hi1, hne, rfl, rfl, rfl⟩
        dsimp only [List.cons_append, List.nil_append]
        refine AW.seq ?_
        refine AW.region ?_
        refine AO.op (O.lss rfl rfl rfl (by rfl)) rfl rfl rfl ?_
        refine AO.nil ?_
        refine AQ.thenN ?_
        refine AW.seq ?_
        refine AW.split rfl (fun hlt2 => ?_) (fun hlt2 => ?_) <;> (try simp only [decide_eq_true_eq, decide_eq_false_iff_not, beq_iff_eq, beq_eq_false_iff_ne, bne_iff_ne, bne_eq_false_iff_eq, Bool.not_eq_true', Bool.not_eq_false', Bool.not_eq_true, Bool.not_eq_false, ne_eq, Int.not_lt, Int.not_le, Bool.and_eq_true, Bool.or_eq_true, Bool.or_eq_false_iff, Bool.and_eq_false_imp, strOf_toList, Decidable.not_not] at hlt2)
        · skip
          have hji : i < k := by omega
          refine AW.skip ?_
          refine AQ.thenN ?_
          refine AW.seq ?_
          refine AW.block ?_
          refine AW.seq ?_
          refine AW.region ?_
          refine AO.op (O.idxR rfl rfl rfl ⟨(by omega), (by omega)⟩) rfl rfl rfl ?_
          refine AO.op (O.loadRK rfl rfl (by exact getWt hji hk1 rfl) (by rfl)) rfl rfl rfl ?_
          refine AO.opB (O.alloc rfl (by (dsimp only [zerosA, List.replicate, List.append, List.flatten, AV.cells, Value.cells, List.toList_toArray, List.map]; done)) (by rfl)) rfl rfl rfl ?_
          intro B3
          (refine AO.store (i := 0) rfl rfl rfl rfl rfl rfl (by rfl) (by rfl) (by rfl) (by (dsimp only [List.set, List.cons_append, List.nil_append, List.take, List.drop]; done)) (by (dsimp only [List.set, List.cons_append, List.nil_append, List.take, List.drop]; done)) ?_)
          refine AO.nil ?_
          refine AQ.thenN ?_
          refine AW.seq ?_
          refine AW.region ?_
          refine AO.op (O.fieldAddr rfl rfl) rfl rfl rfl ?_
          refine AO.op (O.load rfl rfl (by repeat (exact List.Mem.head _)) (by rfl)) rfl rfl rfl ?_
          refine AO.op (O.fieldAddr rfl rfl) rfl rfl rfl ?_
          refine AO.op (O.load rfl rfl (by repeat (first | exact List.Mem.head _ | refine List.Mem.tail _ ?_)) (by rfl)) rfl rfl rfl ?_
          refine AO.op (O.eql rfl rfl rfl (by rfl)) rfl rfl rfl ?_
          refine AO.op (O.move rfl rfl) rfl rfl rfl ?_
          refine AO.opG rfl rfl rfl (fun hp => O.fieldAddr rfl rfl) ?_
          refine AO.opG rfl rfl rfl (fun hp => OpW.force 89 rfl (by exact hp) (O.fieldAddr rfl rfl)) ?_
          refine AO.opG rfl rfl rfl (fun hp => OpW.force 90 rfl (by exact hp) (O.load rfl rfl (by repeat (exact List.Mem.head _)) (by rfl))) ?_
          refine AO.opG rfl rfl rfl (fun hp => O.fieldAddr rfl rfl) ?_
          refine AO.opG rfl rfl rfl (fun hp => OpW.force 92 rfl (by exact hp) (O.fieldAddr rfl rfl)) ?_
          refine AO.opG rfl rfl rfl (fun hp => OpW.force 93 rfl (by exact hp) (O.load rfl rfl (by repeat (first | exact List.Mem.head _ | refine List.Mem.tail _ ?_)) (by rfl))) ?_
          refine AO.opG rfl rfl rfl (fun hp => OpW.force 91 rfl (by exact hp) (OpW.force 94 rfl (by exact hp) (O.eql rfl rfl rfl (by rfl)))) ?_
          refine AO.op (O.pickAnd rfl rfl rfl rfl (fun h => by exact h)) rfl rfl rfl ?_
          refine AO.nil ?_
          refine AQ.thenN ?_
          refine AW.split rfl (fun h96 => ?_) (fun h96 => ?_) <;> (try simp only [decide_eq_true_eq, decide_eq_false_iff_not, beq_iff_eq, beq_eq_false_iff_ne, bne_iff_ne, bne_eq_false_iff_eq, Bool.not_eq_true', Bool.not_eq_false', Bool.not_eq_true, Bool.not_eq_false, ne_eq, Int.not_lt, Int.not_le, Bool.and_eq_true, Bool.or_eq_true, Bool.or_eq_false_iff, Bool.and_eq_false_imp, strOf_toList, Decidable.not_not] at h96)
          · skip
            refine AW.seq ?_
            refine AW.region ?_
            refine AO.op (O.assign rfl rfl) rfl rfl rfl ?_
            refine AO.nil ?_
            refine AQ.thenN ?_
            refine AW.ret ?_
            refine AQ.blockR ?_
            refine AQ.thenR ?_
            refine AQ.loopR ?_
            refine AQ.blockR ?_
            refine AQ.blockR ?_
            refine AQ.thenR ?_
            refine AQ.loopR ?_
            refine AQ.blockR ?_
            refine AQ.thenR ?_
            refine AQ.ret1 rfl rfl ⟨_, List.nil_sublist _, .nil⟩ (retD (decide_eq_false fun hh => ((WOkTo.succ hk).1 (WOkTo.mono (by omega) ((valE_iff e).1 hh).2.2.1.2)).2.2 ((key_at kWt Wt.none (by omega)).2 ⟨i, hji, Prod.ext h96.1 h96.2⟩)).symm)
          · skip
            refine AW.skip ?_
            refine AQ.blockN ?_
            refine AQ.thenN ?_
            refine AW.region ?_
            refine AO.op (O.add rfl rfl rfl (by exact wI64 (by omega))) rfl rfl rfl ?_
            refine AO.op (O.move rfl rfl) rfl rfl rfl ?_
            refine AO.nil ?_
            refine AQ.loopKN _ _ _ (by omega) (⟨i + 1, by omega, fun q hq => (Nat.lt_or_ge q i).elim (hne q) (fun h he => h96 ((show q = i by omega) ▸ congrArg Prod.fst he) ((show q = i by omega) ▸ congrArg Prod.snd he)), rfl, rfl, rfl⟩) (by repeat (first | exact envNil | refine envCons rfl ?_)) (by repeat (first | exact envNil | refine envCons rfl ?_)) (by repeat (first | exact subPnil | refine subPcons 1 rfl ?_))
        · skip
          obtain rfl : i = k := by omega
          refine AW.exit ?_
          refine AQ.thenX ?_
          refine AQ.loopX ?_
          refine AQ.blockX rfl ?_
          refine AQ.blockN ?_
          refine AQ.thenN ?_
          refine AW.region ?_
          refine AO.op (O.add rfl rfl rfl (by exact wI64 (by omega))) rfl rfl rfl ?_
          refine AO.op (O.move rfl rfl) rfl rfl rfl ?_
          refine AO.nil ?_
          refine AQ.loopKN _ _ _ (by omega) (⟨i + 1, by omega, (WOkTo.succ hk).2 ⟨ha, h36, fun hm => by obtain ⟨q, hq, hqe⟩ := (key_at kWt Wt.none (by omega)).1 hm; exact hne q hq hqe⟩, rfl, rfl, rfl⟩) (by repeat (first | exact envNil | refine envCons rfl ?_)) (by repeat (first | exact envNil | refine envCons rfl ?_)) (by repeat (first | exact subPnil | refine subPcons 1 rfl ?_))
    · skip
      obtain rfl : k = e.out.length := by omega
      refine AW.exit ?_
      refine AQ.thenX ?_
      refine AQ.loopX ?_
      refine AQ.blockX rfl ?_
      refine AQ.thenN ?_
      refine AW.seq ?_
      refine AW.seq ?_
      refine AW.region ?_
      refine AO.op (O.fieldAddr rfl rfl) rfl rfl rfl ?_
      refine AO.op (O.load rfl rfl (by repeat (exact List.Mem.head _)) (by rfl)) rfl rfl rfl ?_
      refine AO.op (O.lenR rfl rfl) rfl rfl rfl ?_
      refine AO.op (O.move rfl rfl) rfl rfl rfl ?_
      refine AO.nil ?_
      refine AQ.thenN ?_
      refine AW.block ?_
      refine AW.loopK [(1, _), (100, _), (101, _)] (fun nn E H => ∃ (k : Nat), (k ≤ e.used.length) ∧ (UOkTo e.used k) ∧ nn = e.used.length - k ∧ E = [(102, .val (.int .i64 (k : Int)))] ∧ H = [.blk B1 26 4 [.val (.int .i64 e.next), roW e.out, roU e.used, roH e.inn]]) _ (⟨0, by omega, fun _ hu => by simp at hu, rfl, rfl, rfl⟩) (by repeat (first | exact envNil | refine envCons rfl ?_)) (by repeat (first | exact envNil | refine envCons rfl ?_)) (by repeat (first | exact subPnil | refine subPcons 0 rfl ?_)) ?_
      rintro nn E H ⟨k, hu1, hu, rfl, rfl, rfl⟩
      dsimp only [List.cons_append, List.nil_append]
      refine AW.seq ?_
      refine AW.region ?_
      refine AO.op (O.lss rfl rfl rfl (by rfl)) rfl rfl rfl ?_
      refine AO.nil ?_
      refine AQ.thenN ?_
      refine AW.seq ?_
      refine AW.split rfl (fun hlt => ?_) (fun hlt => ?_) <;> (try simp only [decide_eq_true_eq, decide_eq_false_iff_not, beq_iff_eq, beq_eq_false_iff_ne, bne_iff_ne, bne_eq_false_iff_eq, Bool.not_eq_true', Bool.not_eq_false', Bool.not_eq_true, Bool.not_eq_false, ne_eq, Int.not_lt, Int.not_le, Bool.and_eq_true, Bool.or_eq_true, Bool.or_eq_false_iff, Bool.and_eq_false_imp, strOf_toList, Decidable.not_not] at hlt)
      · skip
        have hk : k < e.used.length := by omega
        refine AW.skip ?_
        refine AQ.thenN ?_
        refine AW.seq ?_
        refine AW.block ?_
        refine AW.seq ?_
        refine AW.region ?_
        refine AO.op (O.idxR rfl rfl rfl ⟨(by omega), (by omega)⟩) rfl rfl rfl ?_
        refine AO.op (O.loadRK rfl rfl (by exact getU (by omega) (by omega)) (by rfl)) rfl rfl rfl ?_
        refine AO.opB (O.alloc rfl (by (dsimp only [zerosA, List.replicate, List.append, List.flatten, AV.cells, Value.cells, List.toList_toArray, List.map]; done)) (by rfl)) rfl rfl rfl ?_
        intro B4
        (refine AO.store (i := 0) rfl rfl rfl rfl rfl rfl (by rfl) (by rfl) (by rfl) (by (dsimp only [List.set, List.cons_append, List.nil_append, List.take, List.drop]; done)) (by (dsimp only [List.set, List.cons_append, List.nil_append, List.take, List.drop]; done)) ?_)
        refine AO.nil ?_
        refine AQ.thenN ?_
        refine AW.seq ?_
        refine AW.region ?_
        refine AO.op (O.fieldAddr rfl rfl) rfl rfl rfl ?_
        refine AO.op (O.load rfl rfl (by repeat (exact List.Mem.head _)) (by rfl)) rfl rfl rfl ?_
        refine AO.op (O.call rfl Try.func40 rfl rfl rfl (in_fn _ _)) rfl rfl rfl ?_
        refine AO.op (O.not rfl rfl (by rfl)) rfl rfl rfl ?_
        refine AO.op (O.move rfl rfl) rfl rfl rfl ?_
        refine AO.opG rfl rfl rfl (fun hp => O.fieldAddr rfl rfl) ?_
        refine AO.opG rfl rfl rfl (fun hp => OpW.force 111 rfl (by exact hp) (O.load rfl rfl (by repeat (exact List.Mem.head _)) (by rfl))) ?_
        refine AO.opG rfl rfl rfl (fun hp => OpW.force 112 rfl (by exact hp) (O.call rfl Try.func40 rfl rfl rfl (in_fn _ _))) ?_
        refine AO.opG rfl rfl rfl (fun hp => OpW.force 113 rfl (by exact hp) (O.not rfl rfl (by rfl))) ?_
        refine AO.op (O.pickOr rfl rfl rfl rfl (fun h => by exact congrArg (fun b => !b) h)) rfl rfl rfl ?_
        refine AO.op (O.move rfl rfl) rfl rfl rfl ?_
        refine AO.opG rfl rfl rfl (fun hp => O.fieldAddr rfl rfl) ?_
        refine AO.opG rfl rfl rfl (fun hp => OpW.force 117 rfl (by exact hp) (O.load rfl rfl (by repeat (exact List.Mem.head _)) (by rfl))) ?_
        refine AO.opG rfl rfl rfl (fun hp => OpW.force 118 rfl (by exact hp) (O.lss rfl rfl rfl (by rfl))) ?_
        refine AO.op (O.pickOr rfl rfl rfl rfl (fun h => by exact congrArg (fun b => !b) h)) rfl rfl rfl ?_
        refine AO.nil ?_
        refine AQ.thenN ?_
        rw [show (_ || _) = !decide (OkU (us e.used k)) from chU_eq _]
        refine AW.split rfl (fun h36 => ?_) (fun h36 => ?_) <;> (try simp only [decide_eq_true_eq, decide_eq_false_iff_not, beq_iff_eq, beq_eq_false_iff_ne, bne_iff_ne, bne_eq_false_iff_eq, Bool.not_eq_true', Bool.not_eq_false', Bool.not_eq_true, Bool.not_eq_false, ne_eq, Int.not_lt, Int.not_le, Bool.and_eq_true, Bool.or_eq_true, Bool.or_eq_false_iff, Bool.and_eq_false_imp, strOf_toList, Decidable.not_not] at h36)
        · skip
          refine AW.seq ?_
          refine AW.region ?_
          refine AO.op (O.assign rfl rfl) rfl rfl rfl ?_
          refine AO.nil ?_
          refine AQ.thenN ?_
          refine AW.ret ?_
          refine AQ.blockR ?_
          refine AQ.thenR ?_
          refine AQ.loopR ?_
          refine AQ.blockR ?_
          refine AQ.thenR ?_
          refine AQ.ret1 rfl rfl ⟨_, List.nil_sublist _, .nil⟩ (retD (decide_eq_false fun hh => h36 ((UOkTo.succ hk).1 (UOkTo.mono ((valE_iff e).1 hh).2.1)).2).symm)
        · skip
          refine AW.skip ?_
          refine AQ.blockN ?_
          refine AQ.thenN ?_
          refine AW.region ?_
          refine AO.op (O.add rfl rfl rfl (by exact wI64 (by omega))) rfl rfl rfl ?_
          refine AO.op (O.move rfl rfl) rfl rfl rfl ?_
          refine AO.nil ?_
          refine AQ.loopKN _ _ _ (by omega) (⟨k + 1, by omega, (UOkTo.succ hk).2 ⟨hu, h36⟩, rfl, rfl, rfl⟩) (by repeat (first | exact envNil | refine envCons rfl ?_)) (by repeat (first | exact envNil | refine envCons rfl ?_)) (by repeat (first | exact subPnil | refine subPcons 1 rfl ?_))
      · skip
        obtain rfl : k = e.used.length := by omega
        refine AW.exit ?_
        refine AQ.thenX ?_
        refine AQ.loopX ?_
        refine AQ.blockX rfl ?_
        refine AQ.thenN ?_
        refine AW.seq ?_
        refine AW.seq ?_
        refine AW.region ?_
        refine AO.op (O.fieldAddr rfl rfl) rfl rfl rfl ?_
        refine AO.op (O.load rfl rfl (by repeat (exact List.Mem.head _)) (by rfl)) rfl rfl rfl ?_
        refine AO.op (O.lenR rfl rfl) rfl rfl rfl ?_
        refine AO.op (O.move rfl rfl) rfl rfl rfl ?_
        refine AO.nil ?_
        refine AQ.thenN ?_
        refine AW.block ?_
        refine AW.loopK [(1, _), (123, _), (124, _)] (fun nn E H => ∃ (k : Nat), (k ≤ e.inn.length) ∧ (HOkTo e.inn k) ∧ nn = e.inn.length - k ∧ E = [(125, .val (.int .i64 (k : Int)))] ∧ H = [.blk B1 26 4 [.val (.int .i64 e.next), roW e.out, roU e.used, roH e.inn]]) _ (⟨0, by omega, ⟨fun _ hu => by simp at hu, by simp⟩, rfl, rfl, rfl⟩) (by repeat (first | exact envNil | refine envCons rfl ?_)) (by repeat (first | exact envNil | refine envCons rfl ?_)) (by repeat (first | exact subPnil | refine subPcons 0 rfl ?_)) ?_
        rintro nn E H ⟨k, h2, hd', rfl, rfl, rfl⟩
        dsimp only [List.cons_append, List.nil_append]
        refine AW.seq ?_
        refine AW.region ?_
        refine AO.op (O.lss rfl rfl rfl (by rfl)) rfl rfl rfl ?_
        refine AO.nil ?_
        refine AQ.thenN ?_
        refine AW.seq ?_
        refine AW.split rfl (fun hlt => ?_) (fun hlt => ?_) <;> (try simp only [decide_eq_true_eq, decide_eq_false_iff_not, beq_iff_eq, beq_eq_false_iff_ne, bne_iff_ne, bne_eq_false_iff_eq, Bool.not_eq_true', Bool.not_eq_false', Bool.not_eq_true, Bool.not_eq_false, ne_eq, Int.not_lt, Int.not_le, Bool.and_eq_true, Bool.or_eq_true, Bool.or_eq_false_iff, Bool.and_eq_false_imp, strOf_toList, Decidable.not_not] at hlt)
        · skip
          have hk : k < e.inn.length := by omega
          have hk1 : k ≤ e.inn.length := by omega
          have hbd : BdM (hd e.inn k).m := hb4 _ (getD_mem _ hk)
          refine AW.skip ?_
          refine AQ.thenN ?_
          refine AW.seq ?_
          refine AW.block ?_
          refine AW.seq ?_
          refine AW.region ?_
          refine AO.op (O.move rfl rfl) rfl rfl rfl ?_
          refine AO.op (O.idxR rfl rfl rfl ⟨(by omega), (by omega)⟩) rfl rfl rfl ?_
          refine AO.op (O.loadRK rfl rfl (by exact getH (by omega) (by omega)) (by rfl)) rfl rfl rfl ?_
          refine AO.opB (O.alloc rfl (by (dsimp only [zerosA, List.replicate, List.append, List.flatten, AV.cells, Value.cells, List.toList_toArray, List.map]; done)) (by rfl)) rfl rfl rfl ?_
          intro B5
          refine AO.op (O.assign rfl rfl) rfl rfl rfl ?_
          (refine AO.store (i := 0) rfl rfl rfl rfl rfl rfl (by rfl) (by rfl) (by rfl) (by (dsimp only [List.set, List.cons_append, List.nil_append, List.take, List.drop]; done)) (by (dsimp only [List.set, List.cons_append, List.nil_append, List.take, List.drop]; done)) ?_)
          refine AO.nil ?_
          refine AQ.thenN ?_
          refine AW.seq ?_
          refine AW.seq ?_
          refine AW.region ?_
          refine AO.op (O.fieldAddr rfl rfl) rfl rfl rfl ?_
          refine AO.op (O.load rfl rfl (by repeat (exact List.Mem.head _)) (by rfl)) rfl rfl rfl ?_
          refine AO.op (O.call rfl Try.func40 rfl rfl rfl (in_fn _ _)) rfl rfl rfl ?_
          refine AO.op (O.not rfl rfl (by rfl)) rfl rfl rfl ?_
          refine AO.op (O.move rfl rfl) rfl rfl rfl ?_
          refine AO.opG rfl rfl rfl (fun hp => O.fieldAddr rfl rfl) ?_
          refine AO.opG rfl rfl rfl (fun hp => OpW.force 135 rfl (by exact hp) (O.load rfl rfl (by repeat (exact List.Mem.head _)) (by rfl))) ?_
          refine AO.opG rfl rfl rfl (fun hp => OpW.force 136 rfl (by exact hp) (O.call rfl Try.func40 rfl rfl rfl (in_fn _ _))) ?_
          refine AO.opG rfl rfl rfl (fun hp => OpW.force 137 rfl (by exact hp) (O.not rfl rfl (by rfl))) ?_
          refine AO.op (O.pickOr rfl rfl rfl rfl (fun h => by exact congrArg (fun b => !b) h)) rfl rfl rfl ?_
          refine AO.op (O.move rfl rfl) rfl rfl rfl ?_
          refine AO.opG rfl rfl rfl (fun hp => O.fieldAddr rfl rfl) ?_
          refine AO.opG rfl rfl rfl (fun hp => OpW.force 141 rfl (by exact hp) (O.load rfl rfl (by repeat (exact List.Mem.head _)) (by rfl))) ?_
          refine AO.opG rfl rfl rfl (fun hp => OpW.force 142 rfl (by exact hp) (O.lss rfl rfl rfl (by rfl))) ?_
          refine AO.op (O.pickOr rfl rfl rfl rfl (fun h => by exact congrArg (fun b => !b) h)) rfl rfl rfl ?_
          refine AO.op (O.move rfl rfl) rfl rfl rfl ?_
          refine AO.opG rfl rfl rfl (fun hp => O.fieldAddr rfl rfl) ?_
          refine AO.opG rfl rfl rfl (fun hp => OpW.force 146 rfl (by exact hp) (O.load rfl rfl (by repeat (exact List.Mem.head _)) (by rfl))) ?_
          refine AO.opG rfl rfl rfl (fun hp => OpW.force 147 rfl (by exact hp) (O.move rfl rfl)) ?_
          refine AO.opG rfl rfl rfl (fun hp => O.fieldAddr rfl rfl) ?_
          refine AO.opG rfl rfl rfl (fun hp => OpW.force 149 rfl (by exact hp) (O.loadK rfl rfl (by repeat (exact List.Mem.head _)) (by rfl) (by rfl))) ?_
          refine AO.opG rfl rfl rfl (fun hp => OpW.force 150 rfl (by exact hp) (O.call rfl Try.func41 rfl rfl rfl (rvalid_fn (hd e.inn k).m))) ?_
          refine AO.opG rfl rfl rfl (fun hp => OpW.force 151 rfl (by exact hp) (O.not rfl rfl (by rfl))) ?_
          refine AO.opG rfl rfl rfl (fun hp => OpW.force 148 rfl (by exact hp) (O.pickAnd rfl rfl rfl rfl (fun h => by simp_all))) ?_
          refine AO.op (O.pickOr rfl rfl rfl rfl (fun h => by exact congrArg (fun b => !b) h)) rfl rfl rfl ?_
          refine AO.op (O.move rfl rfl) rfl rfl rfl ?_
          refine AO.opG rfl rfl rfl (fun hp => O.fieldAddr rfl rfl) ?_
          refine AO.opG rfl rfl rfl (fun hp => OpW.force 156 rfl (by exact hp) (O.load rfl rfl (by repeat (exact List.Mem.head _)) (by rfl))) ?_
          refine AO.opG rfl rfl rfl (fun hp => OpW.force 157 rfl (by exact hp) (O.not rfl rfl (by rfl))) ?_
          refine AO.opG rfl rfl rfl (fun hp => OpW.force 158 rfl (by exact hp) (O.move rfl rfl)) ?_
          refine AO.opG rfl rfl rfl (fun hp => O.fieldAddr rfl rfl) ?_
          refine AO.opG rfl rfl rfl (fun hp => OpW.force 160 rfl (by exact hp) (O.loadK rfl rfl (by repeat (exact List.Mem.head _)) (by rfl) (by rfl))) ?_
          refine AO.opG rfl rfl rfl (fun hp => OpW.force 161 rfl (by exact hp) (O.call rfl Try.func42 rfl rfl rfl (rzero_fn (hd e.inn k).m hbd))) ?_
          refine AO.opG rfl rfl rfl (fun hp => OpW.force 162 rfl (by exact hp) (O.not rfl rfl (by rfl))) ?_
          refine AO.opG rfl rfl rfl (fun hp => OpW.force 159 rfl (by exact hp) (O.pickAnd rfl rfl rfl rfl (fun h => by simp_all))) ?_
          refine AO.op (O.pickOr rfl rfl rfl rfl (fun h => by exact congrArg (fun b => !b) h)) rfl rfl rfl ?_
          refine AO.nil ?_
          refine AQ.thenN ?_
          rw [show (_ || _) = !decide (OkH (hd e.inn k)) from rchH_eq _]
          refine AW.split rfl (fun h36 => ?_) (fun h36 => ?_) <;> (try simp only [decide_eq_true_eq, decide_eq_false_iff_not, beq_iff_eq, beq_eq_false_iff_ne, bne_iff_ne, bne_eq_false_iff_eq, Bool.not_eq_true', Bool.not_eq_false', Bool.not_eq_true, Bool.not_eq_false, ne_eq, Int.not_lt, Int.not_le, Bool.and_eq_true, Bool.or_eq_true, Bool.or_eq_false_iff, Bool.and_eq_false_imp, strOf_toList, Decidable.not_not] at h36)
          · skip
            refine AW.seq ?_
            refine AW.region ?_
            refine AO.op (O.assign rfl rfl) rfl rfl rfl ?_
            refine AO.nil ?_
            refine AQ.thenN ?_
            refine AW.ret ?_
            refine AQ.thenR ?_
            refine AQ.blockR ?_
            refine AQ.thenR ?_
            refine AQ.loopR ?_
            refine AQ.blockR ?_
            refine AQ.thenR ?_
            refine AQ.ret1 rfl rfl ⟨_, List.nil_sublist _, .nil⟩ (retD (decide_eq_false fun hh => h36 ((HOkTo.succ hk).1 (HOkTo.mono (by omega) ((valE_iff e).1 hh).2.2.2.2)).2.1).symm)
          · skip
            refine AW.skip ?_
            refine AQ.thenN ?_
            refine AW.seq ?_
            refine AW.region ?_
            refine AO.op (O.fieldAddr rfl rfl) rfl rfl rfl ?_
            refine AO.op (O.load rfl rfl (by repeat (first | exact List.Mem.head _ | refine List.Mem.tail _ ?_)) (by rfl)) rfl rfl rfl ?_
            refine AO.op (O.move rfl rfl) rfl rfl rfl ?_
            refine AO.op (O.sliceTo (k := k) rfl rfl rfl (by rfl) (by omega) (by exact hdsA_take rfl)) rfl rfl rfl ?_
            refine AO.op (O.lenR rfl rfl) rfl rfl rfl ?_
            refine AO.op (O.move rfl rfl) rfl rfl rfl ?_
            refine AO.nil ?_
            refine AQ.thenN ?_
            refine AW.block ?_
            refine AW.loopK [(1, _), (10, _), (123, _), (124, _), (125, _), (169, _), (170, _)] (fun nn E H => ∃ (i : Nat), (i ≤ k) ∧ (∀ q, q < i → kHd (hd e.inn q) ≠ kHd (hd e.inn k)) ∧ nn = k - i ∧ E = [(171, .val (.int .i64 (i : Int)))] ∧ H = [.blk B5 63 10 (cH (hd e.inn k)), .blk B1 26 4 [.val (.int .i64 e.next), roW e.out, roU e.used, roH e.inn]]) _ (⟨0, by omega, fun q hq => by omega, rfl, rfl, rfl⟩) (by repeat (first | exact envNil | refine envCons rfl ?_)) (by repeat (first | exact envNil | refine envCons rfl ?_)) (by repeat (first | exact subPnil | refine subPcons 0 rfl ?_)) ?_
            rintro nn E H ⟨i, hi1, hne, rfl, rfl, rfl⟩
            dsimp only [List.cons_append, List.nil_append]
            refine AW.seq ?_
            refine AW.region ?_
            refine AO.op (O.lss rfl rfl rfl (by rfl)) rfl rfl rfl ?_
            refine AO.nil ?_
            refine AQ.thenN ?_
            refine AW.seq ?_
            refine AW.split rfl (fun hlt2 => ?_) (fun hlt2 => ?_) <;> (try simp only [decide_eq_true_eq, decide_eq_false_iff_not, beq_iff_eq, beq_eq_false_iff_ne, bne_iff_ne, bne_eq_false_iff_eq, Bool.not_eq_true', Bool.not_eq_false', Bool.not_eq_true, Bool.not_eq_false, ne_eq, Int.not_lt, Int.not_le, Bool.and_eq_true, Bool.or_eq_true, Bool.or_eq_false_iff, Bool.and_eq_false_imp, strOf_toList, Decidable.not_not] at hlt2)
            · skip
              have hji : i < k := by omega
              refine AW.skip ?_
              refine AQ.thenN ?_
              refine AW.seq ?_
              refine AW.block ?_
              refine AW.seq ?_
              refine AW.region ?_
              refine AO.op (O.idxR rfl rfl rfl ⟨(by omega), (by omega)⟩) rfl rfl rfl ?_
              refine AO.op (O.loadRK rfl rfl (by exact getHt hji hk1 rfl) (by rfl)) rfl rfl rfl ?_
              refine AO.opB (O.alloc rfl (by (dsimp only [zerosA, List.replicate, List.append, List.flatten, AV.cells, Value.cells, List.toList_toArray, List.map]; done)) (by rfl)) rfl rfl rfl ?_
              intro B6
              (refine AO.store (i := 0) rfl rfl rfl rfl rfl rfl (by rfl) (by rfl) (by rfl) (by (dsimp only [List.set, List.cons_append, List.nil_append, List.take, List.drop]; done)) (by (dsimp only [List.set, List.cons_append, List.nil_append, List.take, List.drop]; done)) ?_)
              refine AO.nil ?_
              refine AQ.thenN ?_
              refine AW.seq ?_
              refine AW.region ?_
              refine AO.op (O.fieldAddr rfl rfl) rfl rfl rfl ?_
              refine AO.op (O.load rfl rfl (by repeat (exact List.Mem.head _)) (by rfl)) rfl rfl rfl ?_
              refine AO.op (O.fieldAddr rfl rfl) rfl rfl rfl ?_
              refine AO.op (O.load rfl rfl (by repeat (first | exact List.Mem.head _ | refine List.Mem.tail _ ?_)) (by rfl)) rfl rfl rfl ?_
              refine AO.op (O.eql rfl rfl rfl (by rfl)) rfl rfl rfl ?_
              refine AO.op (O.move rfl rfl) rfl rfl rfl ?_
              refine AO.opG rfl rfl rfl (fun hp => O.fieldAddr rfl rfl) ?_
              refine AO.opG rfl rfl rfl (fun hp => OpW.force 181 rfl (by exact hp) (O.load rfl rfl (by repeat (exact List.Mem.head _)) (by rfl))) ?_
              refine AO.opG rfl rfl rfl (fun hp => O.fieldAddr rfl rfl) ?_
              refine AO.opG rfl rfl rfl (fun hp => OpW.force 183 rfl (by exact hp) (O.load rfl rfl (by repeat (first | exact List.Mem.head _ | refine List.Mem.tail _ ?_)) (by rfl))) ?_
              refine AO.opG rfl rfl rfl (fun hp => OpW.force 182 rfl (by exact hp) (OpW.force 184 rfl (by exact hp) (O.eql rfl rfl rfl (by rfl)))) ?_
              refine AO.op (O.pickAnd rfl rfl rfl rfl (fun h => by exact h)) rfl rfl rfl ?_
              refine AO.nil ?_
              refine AQ.thenN ?_
              refine AW.split rfl (fun h96 => ?_) (fun h96 => ?_) <;> (try simp only [decide_eq_true_eq, decide_eq_false_iff_not, beq_iff_eq, beq_eq_false_iff_ne, bne_iff_ne, bne_eq_false_iff_eq, Bool.not_eq_true', Bool.not_eq_false', Bool.not_eq_true, Bool.not_eq_false, ne_eq, Int.not_lt, Int.not_le, Bool.and_eq_true, Bool.or_eq_true, Bool.or_eq_false_iff, Bool.and_eq_false_imp, strOf_toList, Decidable.not_not] at h96)
              · skip
                refine AW.seq ?_
                refine AW.region ?_
                refine AO.op (O.assign rfl rfl) rfl rfl rfl ?_
                refine AO.nil ?_
                refine AQ.thenN ?_
                refine AW.ret ?_
                refine AQ.blockR ?_
                refine AQ.thenR ?_
                refine AQ.loopR ?_
                refine AQ.blockR ?_
                refine AQ.blockR ?_
                refine AQ.thenR ?_
                refine AQ.loopR ?_
                refine AQ.blockR ?_
                refine AQ.thenR ?_
                refine AQ.ret1 rfl rfl ⟨_, List.nil_sublist _, .nil⟩ (retD (decide_eq_false fun hh => ((HOkTo.succ hk).1 (HOkTo.mono (by omega) ((valE_iff e).1 hh).2.2.2.2)).2.2 ((key_at kHd Hd.none (by omega)).2 ⟨i, hji, Prod.ext h96.1 h96.2⟩)).symm)
              · skip
                refine AW.skip ?_
                refine AQ.blockN ?_
                refine AQ.thenN ?_
                refine AW.region ?_
                refine AO.op (O.add rfl rfl rfl (by exact wI64 (by omega))) rfl rfl rfl ?_
                refine AO.op (O.move rfl rfl) rfl rfl rfl ?_
                refine AO.nil ?_
                refine AQ.loopKN _ _ _ (by omega) (⟨i + 1, by omega, fun q hq => (Nat.lt_or_ge q i).elim (hne q) (fun h he => h96 ((show q = i by omega) ▸ congrArg Prod.fst he) ((show q = i by omega) ▸ congrArg Prod.snd he)), rfl, rfl, rfl⟩) (by repeat (first | exact envNil | refine envCons rfl ?_)) (by repeat (first | exact envNil | refine envCons rfl ?_)) (by repeat (first | exact subPnil | refine subPcons 1 rfl ?_))
            · skip
              obtain rfl : i = k := by omega
              refine AW.exit ?_
              refine AQ.thenX ?_
              refine AQ.loopX ?_
              refine AQ.blockX rfl ?_
              refine AQ.blockN ?_
              refine AQ.thenN ?_
              refine AW.region ?_
              refine AO.op (O.add rfl rfl rfl (by exact wI64 (by omega))) rfl rfl rfl ?_
              refine AO.op (O.move rfl rfl) rfl rfl rfl ?_
              refine AO.nil ?_
              refine AQ.loopKN _ _ _ (by omega) (⟨i + 1, by omega, (HOkTo.succ hk).2 ⟨hd', h36, fun hm => by obtain ⟨q, hq, hqe⟩ := (key_at kHd Hd.none (by omega)).1 hm; exact hne q hq hqe⟩, rfl, rfl, rfl⟩) (by repeat (first | exact envNil | refine envCons rfl ?_)) (by repeat (first | exact envNil | refine envCons rfl ?_)) (by repeat (first | exact subPnil | refine subPcons 1 rfl ?_))
        · skip
          obtain rfl : k = e.inn.length := by omega
          refine AW.exit ?_
          refine AQ.thenX ?_
          refine AQ.loopX ?_
          refine AQ.blockX rfl ?_
          refine AQ.thenN ?_
          refine AW.seq ?_
          refine AW.region ?_
          refine AO.op (O.assign rfl rfl) rfl rfl rfl ?_
          refine AO.nil ?_
          refine AQ.thenN ?_
          refine AW.ret ?_
          refine AQ.ret1 rfl rfl ⟨_, List.nil_sublist _, .nil⟩ (retD (decide_eq_true ((valE_iff e).2 ⟨⟨h.1.1.1, by omega⟩, hu, ⟨by omega, ha⟩, by omega, hd'⟩)).symm)
end Go.Proofs.Ytdnmilmcdbgppaa.By

namespace Go.Proofs.Ytdnmilmcdbgppaa.By
open Go.RowKit L A
set_option linter.unusedVariables false
set_option maxRecDepth 20000
set_option linter.unusedSimpArgs false
attribute [local irreducible] AW AQ AO
abbrev zO : Value := .agg #[.int .i64 0, .slice none 0 0]
def zOpts (n : Nat) : List AV := zerosA n zO
theorem zeros_opt (n : Nat) : zOpts (n + 1) = .val (.int .i64 0) :: .val (.slice none 0 0) :: zOpts n := by
  unfold zOpts zerosA
  rw [List.replicate_succ, List.flatten_cons]
  rfl
theorem splice_opt {os : List Opt} {k : Nat} (h : k < os.length) {j : Nat} (hj : j = k * 2) : splice (optsA (os.take k) ++ zOpts (os.length - k)) j [.val (.int .i64 (oat os k).num), roB (oat os k).val] = optsA (os.take (k + 1)) ++ zOpts (os.length - (k + 1)) := by
  have hl : (optsA (os.take k)).length = k * 2 := by rw [optsA_len, List.length_take]; omega
  obtain ⟨m, hm⟩ : ∃ m, os.length - k = m + 1 := ⟨os.length - k - 1, by omega⟩
  rw [take_snoc Opt.none h, optsA_snoc, hm, show os.length - (k + 1) = m by omega, zeros_opt, hj]
  show ((optsA (os.take k) ++ AV.val (.int .i64 0) :: AV.val (.slice none 0 0) :: zOpts m).set (k * 2) _).set (k * 2 + 1) _ = _
  rw [← hl, List.set_append_right _ _ (Nat.le_refl _), Nat.sub_self, List.set_cons_zero, List.set_append_right _ _ (Nat.le_succ _), show ∀ n : Nat, n.succ - n = 1 from fun n => by omega, List.set_cons_succ, List.set_cons_zero, List.append_assoc]
  rfl
theorem zerosOpt_len (n : Nat) : (zOpts n).length = n * 2 := by
  induction n with
  | zero => rfl
  | succ n ih => rw [zeros_opt, List.length_cons, List.length_cons, ih]; omega
set_option maxHeartbeats 4000000 in
theorem message_fn (m : Msg) (h : SmM m) : Sp Try.prog 47 [aggM m] [] (Is (aggM m)) := by
  have hat := fun k => SmM.at h (k := k)
  obtain ⟨h1, h2, h3, -⟩ := h
  refine Sp.enter Try.func47 rfl _ Try.ntmps47 rfl (fun w0 R0 => ?_)
  refine AW.seq ?_
  refine AW.region ?_
  refine AO.opB (O.box rfl rfl rfl rfl rfl) rfl rfl rfl ?_
  intro B1
  refine AO.opB (O.alloc rfl (by (dsimp only [zerosA, List.replicate, List.append, List.flatten, AV.cells, Value.cells, List.toList_toArray, List.map]; done)) (by rfl)) rfl rfl rfl ?_
  intro B2
  refine AO.nil ?_
  refine AQ.thenN ?_
  refine AW.seq ?_
  refine AW.regionD 7 (by kernel_rfl) (by kernel_rfl) ?_
  simp only [List.take_succ_cons, List.take_zero, List.drop_succ_cons, List.drop_zero]
  refine FA.op (O.fieldAddr rfl rfl) rfl rfl rfl rfl ?_
  refine FA.op (O.load rfl rfl (by repeat (first | exact List.Mem.head _ | refine List.Mem.tail _ ?_)) (by rfl)) rfl rfl rfl rfl ?_
  refine FA.op (O.call rfl Try.func58 rfl rfl rfl (clone_fn _ (by assumption))) rfl rfl rfl rfl ?_
  refine FA.op (O.fieldAddr rfl rfl) rfl rfl rfl rfl ?_
  refine FA.op (O.load rfl rfl (by repeat (first | exact List.Mem.head _ | refine List.Mem.tail _ ?_)) (by rfl)) rfl rfl rfl rfl ?_
  refine FA.op (O.call rfl Try.func58 rfl rfl rfl (clone_fn _ (by assumption))) rfl rfl rfl rfl ?_
  refine FA.op (O.fieldAddr rfl rfl) rfl rfl rfl rfl ?_
  refine FA.nil ?_
  simp only [chosen, List.nil_append, List.cons_append, List.append_nil]
  (refine AO.store (i := 1) rfl rfl rfl rfl rfl rfl (by rfl) (by rfl) (by rfl) (by (dsimp only [List.set, List.cons_append, List.nil_append, List.take, List.drop]; done)) (by (dsimp only [List.set, List.cons_append, List.nil_append, List.take, List.drop]; done)) ?_)
  refine AO.op (O.fieldAddr rfl rfl) rfl rfl rfl ?_
  (refine AO.store (i := 1) rfl rfl rfl rfl rfl rfl (by rfl) (by rfl) (by rfl) (by (dsimp only [List.set, List.cons_append, List.nil_append, List.take, List.drop]; done)) (by (dsimp only [List.set, List.cons_append, List.nil_append, List.take, List.drop]; done)) ?_)
  refine AO.nil ?_
  refine AQ.thenN ?_
  refine AW.seq ?_
  refine AW.region ?_
  refine AO.op (O.fieldAddr rfl rfl) rfl rfl rfl ?_
  refine AO.op (O.load rfl rfl (by repeat (first | exact List.Mem.head _ | refine List.Mem.tail _ ?_)) (by rfl)) rfl rfl rfl ?_
  refine AO.op (O.lenR rfl rfl) rfl rfl rfl ?_
  refine AO.opB (O.makeSlice rfl rfl rfl (by rfl) (by rfl) (by omega) (by (unfold maxLen; omega)) (by rfl)) rfl rfl rfl ?_
  intro B3
  refine AO.op (O.assign rfl rfl) rfl rfl rfl ?_
  refine AO.nil ?_
  refine AQ.thenN ?_
  refine AW.seq ?_
  refine AW.seq ?_
  refine AW.region ?_
  refine AO.op (O.fieldAddr rfl rfl) rfl rfl rfl ?_
  refine AO.op (O.load rfl rfl (by repeat (first | exact List.Mem.head _ | refine List.Mem.tail _ ?_)) (by rfl)) rfl rfl rfl ?_
  refine AO.op (O.lenR rfl rfl) rfl rfl rfl ?_
  refine AO.op (O.move rfl rfl) rfl rfl rfl ?_
  refine AO.nil ?_
  refine AQ.thenN ?_
  refine AW.block ?_
  have hz : (m.opts.take 0 : List Opt) = [] := rfl
  refine AW.loopK [(1, _), (2, _), (3, _), (19, _), (20, _)] (fun nn E H => ∃ (k : Nat), (k ≤ m.opts.length) ∧ nn = m.opts.length - k ∧ E = [(21, .val (.int .i64 (k : Int)))] ∧ H = [.blk B3 88 (m.opts.length * 2) (optsA (m.opts.take k) ++ zOpts (m.opts.length - k)), .blk B2 31 6 [.val (.int .i64 0), .val (.int .i64 0), .val (.int .i64 0), .val (.slice none 0 0), .val (.slice none 0 0), .val (.slice none 0 0)], .blk B1 31 6 [.val (.int .i64 m.ty), .val (.int .i64 m.code), .val (.int .i64 m.id), roB m.tok, roO m.opts, roB m.pay]]) _ (⟨0, by omega, rfl, rfl, rfl⟩) (by repeat (first | exact envNil | refine envCons rfl ?_)) (by repeat (first | exact envNil | refine envCons rfl ?_)) (by repeat (first | exact subPnil | refine subPcons 0 rfl ?_)) ?_
  rintro nn E H ⟨k, hk1, rfl, rfl, rfl⟩
  dsimp only [List.cons_append, List.nil_append]
  refine AW.seq ?_
  refine AW.region ?_
  refine AO.op (O.lss rfl rfl rfl (by rfl)) rfl rfl rfl ?_
  refine AO.nil ?_
  refine AQ.thenN ?_
  refine AW.seq ?_
  refine AW.split rfl (fun hlt => ?_) (fun hlt => ?_) <;> (try simp only [decide_eq_true_eq, decide_eq_false_iff_not, beq_iff_eq, beq_eq_false_iff_ne, bne_iff_ne, bne_eq_false_iff_eq, Bool.not_eq_true', Bool.not_eq_false', Bool.not_eq_true, Bool.not_eq_false, ne_eq, Int.not_lt, Int.not_le, Bool.and_eq_true, Bool.or_eq_true, Bool.or_eq_false_iff, Bool.and_eq_false_imp, strOf_toList, Decidable.not_not] at hlt)
  · skip
    have hk : k < m.opts.length := by omega
    have hv := hat k hk
    have hbl : (optsA (m.opts.take k) ++ zOpts (m.opts.length - k)).length = m.opts.length * 2 := by rw [List.length_append, optsA_len, zerosOpt_len, List.length_take]; omega
    refine AW.skip ?_
    refine AQ.thenN ?_
    refine AW.seq ?_
    refine AW.block ?_
    refine AW.seq ?_
    refine AW.region ?_
    refine AO.op (O.move rfl rfl) rfl rfl rfl ?_
    refine AO.op (O.idxR rfl rfl rfl ⟨(by omega), (by omega)⟩) rfl rfl rfl ?_
    refine AO.op (O.loadRK rfl rfl (by exact getO (by omega) (by omega)) (by rfl)) rfl rfl rfl ?_
    refine AO.opB (O.alloc rfl (by (dsimp only [zerosA, List.replicate, List.append, List.flatten, AV.cells, Value.cells, List.toList_toArray, List.map]; done)) (by rfl)) rfl rfl rfl ?_
    intro B4
    refine AO.op (O.assign rfl rfl) rfl rfl rfl ?_
    (refine AO.store (i := 0) rfl rfl rfl rfl rfl rfl (by rfl) (by rfl) (by rfl) (by rfl) (by (dsimp only [List.set, List.cons_append, List.nil_append, List.take, List.drop]; done)) ?_)
    refine AO.nil ?_
    refine AQ.thenN ?_
    refine AW.regionD 9 (by kernel_rfl) (by kernel_rfl) ?_
    simp only [List.take_succ_cons, List.take_zero, List.drop_succ_cons, List.drop_zero]
    refine FA.op (O.move rfl rfl) rfl rfl rfl rfl ?_
    refine FA.op (O.move rfl rfl) rfl rfl rfl rfl ?_
    refine FA.op (O.fieldAddr rfl rfl) rfl rfl rfl rfl ?_
    refine FA.op (O.load rfl rfl (by repeat (exact List.Mem.head _)) (by rfl)) rfl rfl rfl rfl ?_
    refine FA.op (O.fieldAddr rfl rfl) rfl rfl rfl rfl ?_
    refine FA.op (O.load rfl rfl (by repeat (exact List.Mem.head _)) (by rfl)) rfl rfl rfl rfl ?_
    refine FA.op (O.call rfl Try.func58 rfl rfl rfl (clone_fn _ (by assumption))) rfl rfl rfl rfl ?_
    refine FA.op (O.build rfl rfl rfl (by rfl)) rfl rfl rfl rfl ?_
    refine FA.op (O.idxV rfl rfl rfl ⟨(by omega), (by omega)⟩) rfl rfl rfl rfl ?_
    refine FA.nil ?_
    simp only [chosen, List.nil_append, List.cons_append, List.append_nil]
    (refine AO.store (i := 1) rfl rfl rfl rfl rfl rfl (by rfl) (by rfl) (by exact Nat.ble_eq_true_of_le (by rw [hbl]; omega)) (by exact splice_opt hk (by omega)) (by (dsimp only [List.set, List.cons_append, List.nil_append, List.take, List.drop]; done)) ?_)
    refine AO.nil ?_
    refine AQ.blockN ?_
    refine AQ.thenN ?_
    refine AW.region ?_
    refine AO.op (O.add rfl rfl rfl (by exact wI64 (by omega))) rfl rfl rfl ?_
    refine AO.op (O.move rfl rfl) rfl rfl rfl ?_
    refine AO.nil ?_
    refine AQ.loopKN _ _ _ (by omega) (⟨k + 1, by omega, rfl, rfl, rfl⟩) (by repeat (first | exact envNil | refine envCons rfl ?_)) (by repeat (first | exact envNil | refine envCons rfl ?_)) (by repeat (first | exact subPnil | refine subPcons 1 rfl ?_))
  · skip
    obtain rfl : k = m.opts.length := by omega
    rw [List.take_length, Nat.sub_self, show zOpts 0 = [] from rfl, List.append_nil]
    refine AW.g ?_
    refine G.closeRow (n := m.opts.length) (sz := 2) (cap := m.opts.length) 0 rfl (optsA_len _) rfl (Nat.le_refl _) (by (unfold maxLen; omega)) ?_
    refine AW.u ?_
    dsimp only [List.set]
    refine AW.g ?_
    refine G.freezeRow 0 rfl [3] (by repeat (first | exact frNil | refine frCons rfl ?_)) ?_
    refine AW.u ?_
    try dsimp only [List.map, List.eraseIdx, List.cons_append, List.nil_append]
    refine AW.exit ?_
    refine AQ.thenX ?_
    refine AQ.loopX ?_
    refine AQ.blockX rfl ?_
    refine AQ.thenN ?_
    refine AW.seq ?_
    refine AW.region ?_
    refine AO.op (O.move rfl rfl) rfl rfl rfl ?_
    refine AO.op (O.fieldAddr rfl rfl) rfl rfl rfl ?_
    (refine AO.store (i := 1) rfl rfl rfl rfl rfl rfl (by rfl) (by rfl) (by rfl) (by (dsimp only [List.set, List.cons_append, List.nil_append, List.take, List.drop]; done)) (by (dsimp only [List.set, List.cons_append, List.nil_append, List.take, List.drop]; done)) ?_)
    refine AO.nil ?_
    refine AQ.thenN ?_
    refine AW.seq ?_
    refine AW.region ?_
    refine AO.op (O.loadK rfl rfl (by repeat (first | exact List.Mem.head _ | refine List.Mem.tail _ ?_)) (by rfl) (by rfl)) rfl rfl rfl ?_
    (refine AO.store (i := 0) rfl rfl rfl rfl rfl rfl (by rfl) (by rfl) (by rfl) (by (dsimp only [List.set, List.cons_append, List.nil_append, List.take, List.drop]; done)) (by (dsimp only [List.set, List.cons_append, List.nil_append, List.take, List.drop]; done)) ?_)
    refine AO.nil ?_
    refine AQ.thenN ?_
    refine AW.ret ?_
    refine AQ.retCell rfl rfl (by repeat (exact List.Mem.head _)) (by rfl) rfl ⟨_, List.nil_sublist _, .nil⟩ (⟨rfl, rfl⟩)
end Go.Proofs.Ytdnmilmcdbgppaa.By

namespace Go.Proofs.Ytdnmilmcdbgppaa.By
open Go.RowKit L A
set_option linter.unusedVariables false
set_option maxRecDepth 20000
set_option linter.unusedSimpArgs false
attribute [local irreducible] AW AQ AO
def liveU (now : Int) (u : Us) : Bool := decide (now < u.till)
def liveH (now : Int) (h : Hd) : Bool := decide (now < h.till)
def cleanE (e : Ep) (now : Int) : Ep := ⟨e.next, e.out, e.used.filter (liveU now), e.inn.filter (liveH now)⟩
theorem filt_succ {α : Type} (p : α → Bool) (d : α) {l : List α} {k : Nat} (h : k < l.length) : (l.take (k + 1)).filter p = (l.take k).filter p ++ (if p (l.getD k d) = true then [l.getD k d] else []) := by
  rw [take_snoc d h, List.filter_append]
  congr 1
  generalize l.getD k d = x
  cases hp : p x <;> simp [hp]
theorem filt_len {α : Type} (p : α → Bool) (l : List α) (k : Nat) : ((l.take k).filter p).length ≤ k := Nat.le_trans (List.length_filter_le _ _) (by rw [List.length_take]; omega)
structure SmE (e : Ep) : Prop where
  o : e.out.length ≤ 1000
  u : e.used.length ≤ 1000
  i : e.inn.length ≤ 1000
  om : ∀ w ∈ e.out, SmM w.m
  im : ∀ h ∈ e.inn, SmM h.m
/-- An endpoint whose lists are rows of the caller's own. -/
def NewE (e : Ep) (r : AV) (Hn : List HE) : Prop := ∃ V1 V2 V3 : Value, V1.oneCell' = true ∧ V2.oneCell' = true ∧ V3.oneCell' = true ∧ r = .agg [.val (.int .i64 e.next), .val V1, .val V2, .val V3] ∧
  Hn = [.row V3 63 10 e.inn.length (hdsA e.inn), .row V2 60 3 e.used.length (ussA e.used), .row V1 71 9 e.out.length (wtsA e.out)]
abbrev nilS : Value := .slice none 0 0
set_option maxHeartbeats 4000000 in
theorem cleaned_fn (e : Ep) (now : Int) (hs : SmE e) : Sp Try.prog 45 [aggE e, .val (.int .i64 now)] [] (NewE (cleanE e now)) := by
  have hs1 := hs.o
  have hs2 := hs.u
  have hs3 := hs.i
  refine Sp.enter Try.func45 rfl _ Try.ntmps45 rfl (fun w0 R0 => ?_)
  refine AW.seq ?_
  refine AW.region ?_
  refine AO.opB (O.box rfl rfl rfl rfl rfl) rfl rfl rfl ?_
  intro B1
  refine AO.opB (O.alloc rfl (by (dsimp only [zerosA, List.replicate, List.append, List.flatten, AV.cells, Value.cells, List.toList_toArray, List.map]; done)) (by rfl)) rfl rfl rfl ?_
  intro B2
  refine AO.nil ?_
  refine AQ.thenN ?_
  refine AW.seq ?_
  refine AW.region ?_
  refine AO.op (O.fieldAddr rfl rfl) rfl rfl rfl ?_
  refine AO.op (O.load rfl rfl (by repeat (first | exact List.Mem.head _ | refine List.Mem.tail _ ?_)) (by rfl)) rfl rfl rfl ?_
  refine AO.op (O.build rfl rfl rfl (by rfl)) rfl rfl rfl ?_
  refine AO.opB (O.alloc rfl (by (dsimp only [zerosA, List.replicate, List.append, List.flatten, AV.cells, Value.cells, List.toList_toArray, List.map]; done)) (by rfl)) rfl rfl rfl ?_
  intro B3
  (refine AO.store (i := 0) rfl rfl rfl rfl rfl rfl (by rfl) (by rfl) (by rfl) (by (dsimp only [List.set, List.cons_append, List.nil_append, List.take, List.drop]; done)) (by (dsimp only [List.set, List.cons_append, List.nil_append, List.take, List.drop]; done)) ?_)
  refine AO.nil ?_
  refine AQ.thenN ?_
  refine AW.seq ?_
  refine AW.seq ?_
  refine AW.region ?_
  refine AO.op (O.fieldAddr rfl rfl) rfl rfl rfl ?_
  refine AO.op (O.load rfl rfl (by repeat (first | exact List.Mem.head _ | refine List.Mem.tail _ ?_)) (by rfl)) rfl rfl rfl ?_
  refine AO.op (O.lenR rfl rfl) rfl rfl rfl ?_
  refine AO.op (O.move rfl rfl) rfl rfl rfl ?_
  refine AO.nil ?_
  refine AQ.thenN ?_
  refine AW.block ?_
  refine AW.g ?_
  refine G.nilRow 71 9 ?_
  refine AW.u ?_
  refine AW.loopK [(1, _), (2, _), (4, _), (5, _), (16, _), (17, _)] (fun nn E H => ∃ (k : Nat) (V : Value), (k ≤ e.out.length) ∧ (V.oneCell' = true) ∧ nn = e.out.length - k ∧ E = [(18, .val (.int .i64 (k : Int)))] ∧ H = [.row V 71 9 k (wtsA (e.out.take k)), .blk B3 26 4 [.val (.int .i64 e.next), .val V, .val nilS, .val nilS], .blk B2 26 4 [.val (.int .i64 0), .val nilS, .val nilS, .val nilS], .blk B1 26 4 [.val (.int .i64 e.next), roW e.out, roU e.used, roH e.inn]]) _ (⟨0, nilS, by omega, rfl, rfl, rfl, rfl⟩) (by repeat (first | exact envNil | refine envCons rfl ?_)) (by repeat (first | exact envNil | refine envCons rfl ?_)) (by repeat (first | exact subPnil | refine subPcons 0 rfl ?_)) ?_
  rintro nn E H ⟨k, V, hk1, hV, rfl, rfl, rfl⟩
  dsimp only [List.cons_append, List.nil_append]
  refine AW.seq ?_
  refine AW.region ?_
  refine AO.op (O.lss rfl rfl rfl (by rfl)) rfl rfl rfl ?_
  refine AO.nil ?_
  refine AQ.thenN ?_
  refine AW.seq ?_
  refine AW.split rfl (fun hlt => ?_) (fun hlt => ?_) <;> (try simp only [decide_eq_true_eq, decide_eq_false_iff_not, beq_iff_eq, beq_eq_false_iff_ne, bne_iff_ne, bne_eq_false_iff_eq, Bool.not_eq_true', Bool.not_eq_false', Bool.not_eq_true, Bool.not_eq_false, ne_eq, Int.not_lt, Int.not_le, Bool.and_eq_true, Bool.or_eq_true, Bool.or_eq_false_iff, Bool.and_eq_false_imp, strOf_toList, Decidable.not_not] at hlt)
  · skip
    have hk : k < e.out.length := by omega
    have hsc : wtsA (e.out.take (k + 1)) = wtsA (e.out.take k) ++ cW (wt e.out k) := by rw [take_snoc Wt.none hk, wtsA_snoc]
    refine AW.skip ?_
    refine AQ.thenN ?_
    refine AW.seq ?_
    refine AW.block ?_
    refine AW.seq ?_
    refine AW.region ?_
    refine AO.op (O.idxR rfl rfl rfl ⟨(by omega), (by omega)⟩) rfl rfl rfl ?_
    refine AO.op (O.loadRK rfl rfl (by exact getW (by omega) (by omega)) (by rfl)) rfl rfl rfl ?_
    refine AO.opB (O.alloc rfl (by (dsimp only [zerosA, List.replicate, List.append, List.flatten, AV.cells, Value.cells, List.toList_toArray, List.map]; done)) (by rfl)) rfl rfl rfl ?_
    intro B4
    (refine AO.store (i := 0) rfl rfl rfl rfl rfl rfl (by rfl) (by rfl) (by rfl) (by (dsimp only [List.set, List.cons_append, List.nil_append, List.take, List.drop]; done)) (by (dsimp only [List.set, List.cons_append, List.nil_append, List.take, List.drop]; done)) ?_)
    refine AO.nil ?_
    refine AQ.thenN ?_
    refine AW.seq ?_
    refine AW.region ?_
    refine AO.op (O.fieldAddr rfl rfl) rfl rfl rfl ?_
    refine AO.op (O.loadK rfl rfl (by repeat (exact List.Mem.head _)) (by rfl) (by rfl)) rfl rfl rfl ?_
    refine AO.op (O.call rfl Try.func47 rfl rfl rfl (message_fn (wt e.out k).m (hs.om _ (getD_mem _ hk)))) rfl rfl rfl ?_
    refine AO.op (O.fieldAddr rfl rfl) rfl rfl rfl ?_
    (refine AO.store (i := 0) rfl rfl rfl rfl rfl rfl (by rfl) (by rfl) (by rfl) (by (dsimp only [List.set, List.cons_append, List.nil_append, List.take, List.drop]; done)) (by (dsimp only [List.set, List.cons_append, List.nil_append, List.take, List.drop]; done)) ?_)
    refine AO.nil ?_
    refine AQ.thenN ?_
    refine AW.region ?_
    refine AO.op (O.fieldAddr rfl rfl) rfl rfl rfl ?_
    refine AO.op (O.load rfl rfl (by repeat (first | exact List.Mem.head _ | refine List.Mem.tail _ ?_)) (by rfl)) rfl rfl rfl ?_
    refine AO.op (O.loadK rfl rfl (by repeat (exact List.Mem.head _)) (by rfl) (by rfl)) rfl rfl rfl ?_
    refine AO.opB (O.buildSlice rfl rfl rfl (by rfl) (by rfl) (by rfl) (by rfl)) rfl rfl rfl ?_
    intro B5
    refine AO.g ?_
    (refine G.freezeSl 0 29 rfl rfl ⟨Nat.le_refl _, by unfold maxLen; omega⟩ ?_)
    refine G.unfull 29 rfl ?_
    refine AO.u ?_
    dsimp only [List.eraseIdx]
    (refine AO.append' (i := 1) rfl rfl rfl rfl (by rfl) (by rfl) rfl rfl rfl (by exact SrcA.ro TyD.ax (by rfl) (Nat.le_of_ble_eq_true rfl)) (by rfl) (by (unfold maxLen; omega)) (by omega) (by (dsimp only [List.set, List.cons_append, List.nil_append, List.take, List.drop]; done)) (fun _ => by (dsimp only [List.set]; done)) ?_)
    intro V6 hV6
    refine AO.op (O.fieldAddr rfl rfl) rfl rfl rfl ?_
    (refine AO.store (i := 2) rfl rfl rfl rfl rfl rfl (by (simp [AV.cells, AV.one, *]; done)) (by rfl) (by rfl) (by (dsimp only [List.set, List.cons_append, List.nil_append, List.take, List.drop]; done)) (by (dsimp only [List.set, List.cons_append, List.nil_append, List.take, List.drop]; done)) ?_)
    refine AO.nil ?_
    refine AQ.blockN ?_
    refine AQ.thenN ?_
    refine AW.region ?_
    refine AO.op (O.add rfl rfl rfl (by exact wI64 (by omega))) rfl rfl rfl ?_
    refine AO.op (O.move rfl rfl) rfl rfl rfl ?_
    refine AO.nil ?_
    refine AQ.loopKN _ _ _ (by omega) (⟨k + 1, _, by omega, ‹_›, rfl, rfl, by rw [hsc]⟩) (by repeat (first | exact envNil | refine envCons rfl ?_)) (by repeat (first | exact envNil | refine envCons rfl ?_)) (by repeat (first | exact subPnil | refine subPcons 1 rfl ?_))
  · skip
    obtain rfl : k = e.out.length := by omega
    rw [List.take_length]
    refine AW.exit ?_
    refine AQ.thenX ?_
    refine AQ.loopX ?_
    refine AQ.blockX rfl ?_
    refine AQ.thenN ?_
    refine AW.seq ?_
    refine AW.seq ?_
    refine AW.region ?_
    refine AO.op (O.fieldAddr rfl rfl) rfl rfl rfl ?_
    refine AO.op (O.load rfl rfl (by repeat (first | exact List.Mem.head _ | refine List.Mem.tail _ ?_)) (by rfl)) rfl rfl rfl ?_
    refine AO.op (O.lenR rfl rfl) rfl rfl rfl ?_
    refine AO.op (O.move rfl rfl) rfl rfl rfl ?_
    refine AO.nil ?_
    refine AQ.thenN ?_
    refine AW.block ?_
    refine AW.g ?_
    refine G.nilRow 60 3 ?_
    refine AW.u ?_
    refine AW.loopK [(1, _), (2, _), (4, _), (5, _), (34, _), (35, _)] (fun nn E H => ∃ (k : Nat) (V2 : Value), (k ≤ e.used.length) ∧ (V2.oneCell' = true) ∧ nn = e.used.length - k ∧ E = [(36, .val (.int .i64 (k : Int)))] ∧ H = [.row V2 60 3 ((e.used.take k).filter (liveU now)).length (ussA ((e.used.take k).filter (liveU now))), .row V 71 9 e.out.length (wtsA e.out), .blk B3 26 4 [.val (.int .i64 e.next), .val V, .val V2, .val nilS], .blk B2 26 4 [.val (.int .i64 0), .val nilS, .val nilS, .val nilS], .blk B1 26 4 [.val (.int .i64 e.next), roW e.out, roU e.used, roH e.inn]]) _ (⟨0, nilS, by omega, rfl, rfl, rfl, rfl⟩) (by repeat (first | exact envNil | refine envCons rfl ?_)) (by repeat (first | exact envNil | refine envCons rfl ?_)) (by repeat (first | exact subPnil | refine subPcons 0 rfl ?_)) ?_
    rintro nn E H ⟨k, V2, hk1, hV2, rfl, rfl, rfl⟩
    dsimp only [List.cons_append, List.nil_append]
    have hfl := filt_len (liveU now) e.used k
    refine AW.seq ?_
    refine AW.region ?_
    refine AO.op (O.lss rfl rfl rfl (by rfl)) rfl rfl rfl ?_
    refine AO.nil ?_
    refine AQ.thenN ?_
    refine AW.seq ?_
    refine AW.split rfl (fun hlt2 => ?_) (fun hlt2 => ?_) <;> (try simp only [decide_eq_true_eq, decide_eq_false_iff_not, beq_iff_eq, beq_eq_false_iff_ne, bne_iff_ne, bne_eq_false_iff_eq, Bool.not_eq_true', Bool.not_eq_false', Bool.not_eq_true, Bool.not_eq_false, ne_eq, Int.not_lt, Int.not_le, Bool.and_eq_true, Bool.or_eq_true, Bool.or_eq_false_iff, Bool.and_eq_false_imp, strOf_toList, Decidable.not_not] at hlt2)
    · skip
      have hk : k < e.used.length := by omega
      have hf := filt_succ (liveU now) Us.none hk
      refine AW.skip ?_
      refine AQ.thenN ?_
      refine AW.seq ?_
      refine AW.block ?_
      refine AW.seq ?_
      refine AW.region ?_
      refine AO.op (O.idxR rfl rfl rfl ⟨(by omega), (by omega)⟩) rfl rfl rfl ?_
      refine AO.op (O.loadRK rfl rfl (by exact getU (by omega) (by omega)) (by rfl)) rfl rfl rfl ?_
      refine AO.opB (O.alloc rfl (by (dsimp only [zerosA, List.replicate, List.append, List.flatten, AV.cells, Value.cells, List.toList_toArray, List.map]; done)) (by rfl)) rfl rfl rfl ?_
      intro B7
      (refine AO.store (i := 0) rfl rfl rfl rfl rfl rfl (by rfl) (by rfl) (by rfl) (by (dsimp only [List.set, List.cons_append, List.nil_append, List.take, List.drop]; done)) (by (dsimp only [List.set, List.cons_append, List.nil_append, List.take, List.drop]; done)) ?_)
      refine AO.nil ?_
      refine AQ.thenN ?_
      refine AW.seq ?_
      refine AW.region ?_
      refine AO.op (O.fieldAddr rfl rfl) rfl rfl rfl ?_
      refine AO.op (O.load rfl rfl (by repeat (exact List.Mem.head _)) (by rfl)) rfl rfl rfl ?_
      refine AO.op (O.move rfl rfl) rfl rfl rfl ?_
      refine AO.op (O.gtr rfl rfl rfl (by rfl)) rfl rfl rfl ?_
      refine AO.nil ?_
      refine AQ.thenN ?_
      refine AW.split rfl (fun hu => ?_) (fun hu => ?_) <;> (try simp only [decide_eq_true_eq, decide_eq_false_iff_not, beq_iff_eq, beq_eq_false_iff_ne, bne_iff_ne, bne_eq_false_iff_eq, Bool.not_eq_true', Bool.not_eq_false', Bool.not_eq_true, Bool.not_eq_false, ne_eq, Int.not_lt, Int.not_le, Bool.and_eq_true, Bool.or_eq_true, Bool.or_eq_false_iff, Bool.and_eq_false_imp, strOf_toList, Decidable.not_not] at hu)
      · skip
        rw [if_pos (show liveU now (us e.used k) = true from decide_eq_true hu)] at hf
        have hfl2 : ((e.used.take (k + 1)).filter (liveU now)).length = ((e.used.take k).filter (liveU now)).length + 1 := by rw [hf, List.length_append]; rfl
        refine AW.region ?_
        refine AO.op (O.fieldAddr rfl rfl) rfl rfl rfl ?_
        refine AO.op (O.load rfl rfl (by repeat (first | exact List.Mem.head _ | refine List.Mem.tail _ ?_)) (by rfl)) rfl rfl rfl ?_
        refine AO.op (O.loadK rfl rfl (by repeat (exact List.Mem.head _)) (by rfl) (by rfl)) rfl rfl rfl ?_
        refine AO.opB (O.buildSlice rfl rfl rfl (by rfl) (by rfl) (by rfl) (by rfl)) rfl rfl rfl ?_
        intro B8
        refine AO.g ?_
        (refine G.freezeSl 0 47 rfl rfl ⟨Nat.le_refl _, by unfold maxLen; omega⟩ ?_)
        refine G.unfull 47 rfl ?_
        refine AO.u ?_
        dsimp only [List.eraseIdx]
        (refine AO.append' (i := 1) rfl rfl rfl rfl (by rfl) (by rfl) rfl rfl rfl (by exact SrcA.ro TyD.ax (by rfl) (Nat.le_of_ble_eq_true rfl)) (by rfl) (by (unfold maxLen; omega)) (by omega) (by (dsimp only [List.set, List.cons_append, List.nil_append, List.take, List.drop]; done)) (fun _ => by (dsimp only [List.set]; done)) ?_)
        intro V9 hV9
        refine AO.op (O.fieldAddr rfl rfl) rfl rfl rfl ?_
        (refine AO.store (i := 3) rfl rfl rfl rfl rfl rfl (by (simp [AV.cells, AV.one, *]; done)) (by rfl) (by rfl) (by (dsimp only [List.set, List.cons_append, List.nil_append, List.take, List.drop]; done)) (by (dsimp only [List.set, List.cons_append, List.nil_append, List.take, List.drop]; done)) ?_)
        refine AO.nil ?_
        refine AQ.blockN ?_
        refine AQ.thenN ?_
        refine AW.region ?_
        refine AO.op (O.add rfl rfl rfl (by exact wI64 (by omega))) rfl rfl rfl ?_
        refine AO.op (O.move rfl rfl) rfl rfl rfl ?_
        refine AO.nil ?_
        refine AQ.loopKN _ _ _ (by omega) (⟨k + 1, _, by omega, ‹_›, rfl, rfl, by rw [hfl2, hf, ussA_snoc]⟩) (by repeat (first | exact envNil | refine envCons rfl ?_)) (by repeat (first | exact envNil | refine envCons rfl ?_)) (by repeat (first | exact subPnil | refine subPcons 1 rfl ?_))
      · skip
        rw [if_neg (show ¬ liveU now (us e.used k) = true from fun h => absurd (of_decide_eq_true h) (by omega)), List.append_nil] at hf
        refine AW.skip ?_
        refine AQ.blockN ?_
        refine AQ.thenN ?_
        refine AW.region ?_
        refine AO.op (O.add rfl rfl rfl (by exact wI64 (by omega))) rfl rfl rfl ?_
        refine AO.op (O.move rfl rfl) rfl rfl rfl ?_
        refine AO.nil ?_
        refine AQ.loopKN _ _ _ (by omega) (⟨k + 1, V2, by omega, hV2, rfl, rfl, by rw [hf]⟩) (by repeat (first | exact envNil | refine envCons rfl ?_)) (by repeat (first | exact envNil | refine envCons rfl ?_)) (by repeat (first | exact subPnil | refine subPcons 1 rfl ?_))
    · skip
      obtain rfl : k = e.used.length := by omega
      rw [List.take_length]
      refine AW.exit ?_
      refine AQ.thenX ?_
      refine AQ.loopX ?_
      refine AQ.blockX rfl ?_
      refine AQ.thenN ?_
      refine AW.seq ?_
      refine AW.seq ?_
      refine AW.region ?_
      refine AO.op (O.fieldAddr rfl rfl) rfl rfl rfl ?_
      refine AO.op (O.load rfl rfl (by repeat (first | exact List.Mem.head _ | refine List.Mem.tail _ ?_)) (by rfl)) rfl rfl rfl ?_
      refine AO.op (O.lenR rfl rfl) rfl rfl rfl ?_
      refine AO.op (O.move rfl rfl) rfl rfl rfl ?_
      refine AO.nil ?_
      refine AQ.thenN ?_
      refine AW.block ?_
      refine AW.g ?_
      refine G.nilRow 63 10 ?_
      refine AW.u ?_
      refine AW.loopK [(1, _), (4, _), (5, _), (52, _), (53, _)] (fun nn E H => ∃ (k : Nat) (V3 : Value), (k ≤ e.inn.length) ∧ (V3.oneCell' = true) ∧ nn = e.inn.length - k ∧ E = [(54, .val (.int .i64 (k : Int)))] ∧ H = [.row V3 63 10 ((e.inn.take k).filter (liveH now)).length (hdsA ((e.inn.take k).filter (liveH now))), .row V2 60 3 (e.used.filter (liveU now)).length (ussA (e.used.filter (liveU now))), .row V 71 9 e.out.length (wtsA e.out), .blk B3 26 4 [.val (.int .i64 e.next), .val V, .val V2, .val V3], .blk B2 26 4 [.val (.int .i64 0), .val nilS, .val nilS, .val nilS]]) _ (⟨0, nilS, by omega, rfl, rfl, rfl, rfl⟩) (by repeat (first | exact envNil | refine envCons rfl ?_)) (by repeat (first | exact envNil | refine envCons rfl ?_)) (by repeat (first | exact subPnil | refine subPcons 0 rfl ?_)) ?_
      rintro nn E H ⟨k, V3, hk1, hV3, rfl, rfl, rfl⟩
      dsimp only [List.cons_append, List.nil_append]
      have hfl := filt_len (liveH now) e.inn k
      refine AW.seq ?_
      refine AW.region ?_
      refine AO.op (O.lss rfl rfl rfl (by rfl)) rfl rfl rfl ?_
      refine AO.nil ?_
      refine AQ.thenN ?_
      refine AW.seq ?_
      refine AW.split rfl (fun hlt3 => ?_) (fun hlt3 => ?_) <;> (try simp only [decide_eq_true_eq, decide_eq_false_iff_not, beq_iff_eq, beq_eq_false_iff_ne, bne_iff_ne, bne_eq_false_iff_eq, Bool.not_eq_true', Bool.not_eq_false', Bool.not_eq_true, Bool.not_eq_false, ne_eq, Int.not_lt, Int.not_le, Bool.and_eq_true, Bool.or_eq_true, Bool.or_eq_false_iff, Bool.and_eq_false_imp, strOf_toList, Decidable.not_not] at hlt3)
      · skip
        have hk : k < e.inn.length := by omega
        have hf := filt_succ (liveH now) Hd.none hk
        refine AW.skip ?_
        refine AQ.thenN ?_
        refine AW.seq ?_
        refine AW.block ?_
        refine AW.seq ?_
        refine AW.region ?_
        refine AO.op (O.idxR rfl rfl rfl ⟨(by omega), (by omega)⟩) rfl rfl rfl ?_
        refine AO.op (O.loadRK rfl rfl (by exact getH (by omega) (by omega)) (by rfl)) rfl rfl rfl ?_
        refine AO.opB (O.alloc rfl (by (dsimp only [zerosA, List.replicate, List.append, List.flatten, AV.cells, Value.cells, List.toList_toArray, List.map]; done)) (by rfl)) rfl rfl rfl ?_
        intro B10
        (refine AO.store (i := 0) rfl rfl rfl rfl rfl rfl (by rfl) (by rfl) (by rfl) (by (dsimp only [List.set, List.cons_append, List.nil_append, List.take, List.drop]; done)) (by (dsimp only [List.set, List.cons_append, List.nil_append, List.take, List.drop]; done)) ?_)
        refine AO.nil ?_
        refine AQ.thenN ?_
        refine AW.seq ?_
        refine AW.region ?_
        refine AO.op (O.fieldAddr rfl rfl) rfl rfl rfl ?_
        refine AO.op (O.load rfl rfl (by repeat (exact List.Mem.head _)) (by rfl)) rfl rfl rfl ?_
        refine AO.op (O.move rfl rfl) rfl rfl rfl ?_
        refine AO.op (O.gtr rfl rfl rfl (by rfl)) rfl rfl rfl ?_
        refine AO.nil ?_
        refine AQ.thenN ?_
        refine AW.split rfl (fun hu => ?_) (fun hu => ?_) <;> (try simp only [decide_eq_true_eq, decide_eq_false_iff_not, beq_iff_eq, beq_eq_false_iff_ne, bne_iff_ne, bne_eq_false_iff_eq, Bool.not_eq_true', Bool.not_eq_false', Bool.not_eq_true, Bool.not_eq_false, ne_eq, Int.not_lt, Int.not_le, Bool.and_eq_true, Bool.or_eq_true, Bool.or_eq_false_iff, Bool.and_eq_false_imp, strOf_toList, Decidable.not_not] at hu)
        · skip
          rw [if_pos (show liveH now (hd e.inn k) = true from decide_eq_true hu)] at hf
          have hfl2 : ((e.inn.take (k + 1)).filter (liveH now)).length = ((e.inn.take k).filter (liveH now)).length + 1 := by rw [hf, List.length_append]; rfl
          refine AW.seq ?_
          refine AW.region ?_
          refine AO.op (O.fieldAddr rfl rfl) rfl rfl rfl ?_
          refine AO.op (O.loadK rfl rfl (by repeat (exact List.Mem.head _)) (by rfl) (by rfl)) rfl rfl rfl ?_
          refine AO.op (O.call rfl Try.func47 rfl rfl rfl (message_fn (hd e.inn k).m (hs.im _ (getD_mem _ hk)))) rfl rfl rfl ?_
          refine AO.op (O.fieldAddr rfl rfl) rfl rfl rfl ?_
          (refine AO.store (i := 0) rfl rfl rfl rfl rfl rfl (by rfl) (by rfl) (by rfl) (by (dsimp only [List.set, List.cons_append, List.nil_append, List.take, List.drop]; done)) (by (dsimp only [List.set, List.cons_append, List.nil_append, List.take, List.drop]; done)) ?_)
          refine AO.nil ?_
          refine AQ.thenN ?_
          refine AW.region ?_
          refine AO.op (O.fieldAddr rfl rfl) rfl rfl rfl ?_
          refine AO.op (O.load rfl rfl (by repeat (first | exact List.Mem.head _ | refine List.Mem.tail _ ?_)) (by rfl)) rfl rfl rfl ?_
          refine AO.op (O.loadK rfl rfl (by repeat (exact List.Mem.head _)) (by rfl) (by rfl)) rfl rfl rfl ?_
          refine AO.opB (O.buildSlice rfl rfl rfl (by rfl) (by rfl) (by rfl) (by rfl)) rfl rfl rfl ?_
          intro B11
          refine AO.g ?_
          (refine G.freezeSl 0 69 rfl rfl ⟨Nat.le_refl _, by unfold maxLen; omega⟩ ?_)
          refine G.unfull 69 rfl ?_
          refine AO.u ?_
          dsimp only [List.eraseIdx]
          (refine AO.append' (i := 1) rfl rfl rfl rfl (by rfl) (by rfl) rfl rfl rfl (by exact SrcA.ro TyD.ax (by rfl) (Nat.le_of_ble_eq_true rfl)) (by rfl) (by (unfold maxLen; omega)) (by omega) (by (dsimp only [List.set, List.cons_append, List.nil_append, List.take, List.drop]; done)) (fun _ => by (dsimp only [List.set]; done)) ?_)
          intro V12 hV12
          refine AO.op (O.fieldAddr rfl rfl) rfl rfl rfl ?_
          (refine AO.store (i := 4) rfl rfl rfl rfl rfl rfl (by (simp [AV.cells, AV.one, *]; done)) (by rfl) (by rfl) (by (dsimp only [List.set, List.cons_append, List.nil_append, List.take, List.drop]; done)) (by (dsimp only [List.set, List.cons_append, List.nil_append, List.take, List.drop]; done)) ?_)
          refine AO.nil ?_
          refine AQ.blockN ?_
          refine AQ.thenN ?_
          refine AW.region ?_
          refine AO.op (O.add rfl rfl rfl (by exact wI64 (by omega))) rfl rfl rfl ?_
          refine AO.op (O.move rfl rfl) rfl rfl rfl ?_
          refine AO.nil ?_
          refine AQ.loopKN _ _ _ (by omega) (⟨k + 1, _, by omega, ‹_›, rfl, rfl, by rw [hfl2, hf, hdsA_snoc]⟩) (by repeat (first | exact envNil | refine envCons rfl ?_)) (by repeat (first | exact envNil | refine envCons rfl ?_)) (by repeat (first | exact subPnil | refine subPcons 1 rfl ?_))
        · skip
          rw [if_neg (show ¬ liveH now (hd e.inn k) = true from fun h => absurd (of_decide_eq_true h) (by omega)), List.append_nil] at hf
          refine AW.skip ?_
          refine AQ.blockN ?_
          refine AQ.thenN ?_
          refine AW.region ?_
          refine AO.op (O.add rfl rfl rfl (by exact wI64 (by omega))) rfl rfl rfl ?_
          refine AO.op (O.move rfl rfl) rfl rfl rfl ?_
          refine AO.nil ?_
          refine AQ.loopKN _ _ _ (by omega) (⟨k + 1, V3, by omega, hV3, rfl, rfl, by rw [hf]⟩) (by repeat (first | exact envNil | refine envCons rfl ?_)) (by repeat (first | exact envNil | refine envCons rfl ?_)) (by repeat (first | exact subPnil | refine subPcons 1 rfl ?_))
      · skip
        obtain rfl : k = e.inn.length := by omega
        rw [List.take_length]
        refine AW.exit ?_
        refine AQ.thenX ?_
        refine AQ.loopX ?_
        refine AQ.blockX rfl ?_
        refine AQ.thenN ?_
        refine AW.seq ?_
        refine AW.region ?_
        refine AO.op (O.loadK rfl rfl (by repeat (first | exact List.Mem.head _ | refine List.Mem.tail _ ?_)) (by rfl) (by rfl)) rfl rfl rfl ?_
        (refine AO.store (i := 4) rfl rfl rfl rfl rfl rfl (by (simp [AV.cells, AV.one, roB, roI, roO, show ∀ k z, (Value.int k z).oneCell' = true from fun _ _ => rfl, show ∀ k, (Value.bool k).oneCell' = true from fun _ => rfl, *]; done)) (by rfl) (by rfl) (by (dsimp only [List.set, List.cons_append, List.nil_append, List.take, List.drop]; done)) (by (dsimp only [List.set, List.cons_append, List.nil_append, List.take, List.drop]; done)) ?_)
        refine AO.nil ?_
        refine AQ.thenN ?_
        refine AW.ret ?_
        refine AQ.retCell rfl rfl (by repeat (first | exact List.Mem.head _ | refine List.Mem.tail _ ?_)) (by rfl) rfl ⟨_, by repeat (first | exact List.Sublist.slnil | refine List.Sublist.cons_cons _ ?_ | refine List.Sublist.cons _ ?_), List.Perm.refl _⟩ (⟨V, V2, V3, hV, hV2, hV3, rfl, rfl⟩)
end Go.Proofs.Ytdnmilmcdbgppaa.By

namespace Go.Proofs.Ytdnmilmcdbgppaa.By
open Go.RowKit L A
set_option linter.unusedVariables false
set_option maxRecDepth 20000
set_option linter.unusedSimpArgs false
attribute [local irreducible] AW AQ AO
set_option maxHeartbeats 4000000 in
theorem rclean_fn (e : Ep) (now : Int) (hs : SmE e) : Sp Try.prog 49 [aggE e, .val (.int .i64 now)] [] (NewE (cleanE e now)) := by
  have hs1 := hs.o
  have hs2 := hs.u
  have hs3 := hs.i
  refine Sp.enter Try.func49 rfl _ Try.ntmps49 rfl (fun w0 R0 => ?_)
  refine AW.seq ?_
  refine AW.region ?_
  refine AO.opB (O.box rfl rfl rfl rfl rfl) rfl rfl rfl ?_
  intro B1
  refine AO.opB (O.alloc rfl (by (dsimp only [zerosA, List.replicate, List.append, List.flatten, AV.cells, Value.cells, List.toList_toArray, List.map]; done)) (by rfl)) rfl rfl rfl ?_
  intro B2
  refine AO.nil ?_
  refine AQ.thenN ?_
  refine AW.seq ?_
  refine AW.region ?_
  refine AO.op (O.fieldAddr rfl rfl) rfl rfl rfl ?_
  refine AO.op (O.load rfl rfl (by repeat (first | exact List.Mem.head _ | refine List.Mem.tail _ ?_)) (by rfl)) rfl rfl rfl ?_
  refine AO.op (O.build rfl rfl rfl (by rfl)) rfl rfl rfl ?_
  refine AO.opB (O.alloc rfl (by (dsimp only [zerosA, List.replicate, List.append, List.flatten, AV.cells, Value.cells, List.toList_toArray, List.map]; done)) (by rfl)) rfl rfl rfl ?_
  intro B3
  (refine AO.store (i := 0) rfl rfl rfl rfl rfl rfl (by rfl) (by rfl) (by rfl) (by (dsimp only [List.set, List.append, List.cons_append, List.nil_append, AV.cells, splice, List.take, List.drop, Nat.reduceAdd]; done)) (by (dsimp only [List.set, List.append, List.cons_append, List.nil_append, AV.cells, splice, List.take, List.drop, Nat.reduceAdd]; done)) ?_)
  refine AO.nil ?_
  refine AQ.thenN ?_
  refine AW.seq ?_
  refine AW.region ?_
  refine AO.op (O.assign rfl rfl) rfl rfl rfl ?_
  refine AO.nil ?_
  refine AQ.thenN ?_
  refine AW.seq ?_
  refine AW.seq ?_
  refine AW.region ?_
  refine AO.op (O.fieldAddr rfl rfl) rfl rfl rfl ?_
  refine AO.op (O.load rfl rfl (by repeat (first | exact List.Mem.head _ | refine List.Mem.tail _ ?_)) (by rfl)) rfl rfl rfl ?_
  refine AO.op (O.lenR rfl rfl) rfl rfl rfl ?_
  refine AO.op (O.move rfl rfl) rfl rfl rfl ?_
  refine AO.nil ?_
  refine AQ.thenN ?_
  refine AW.block ?_
  refine AW.g ?_
  refine G.nilRow 71 9 ?_
  refine AW.u ?_
  refine AW.loopK [(1, _), (2, _), (4, _), (5, _), (19, _), (20, _)] (fun nn E H => ∃ (k : Nat) (V : Value), (k ≤ e.out.length) ∧ (V.oneCell' = true) ∧ nn = e.out.length - k ∧ E = [(6, .val V), (21, .val (.int .i64 (k : Int)))] ∧ H = [.row V 71 9 k (wtsA (e.out.take k)), .blk B3 26 4 [.val (.int .i64 e.next), .val nilS, .val nilS, .val nilS], .blk B2 26 4 [.val (.int .i64 0), .val nilS, .val nilS, .val nilS], .blk B1 26 4 [.val (.int .i64 e.next), roW e.out, roU e.used, roH e.inn]]) _ (⟨0, nilS, by omega, rfl, rfl, rfl, rfl⟩) (by repeat (first | exact envNil | refine envCons rfl ?_)) (by repeat (first | exact envNil | refine envCons rfl ?_)) (by repeat (first | exact subPnil | refine subPcons 0 rfl ?_)) ?_
  rintro nn E H ⟨k, V, hk1, hV, rfl, rfl, rfl⟩
  dsimp only [List.cons_append, List.nil_append]
  refine AW.seq ?_
  refine AW.region ?_
  refine AO.op (O.lss rfl rfl rfl (by rfl)) rfl rfl rfl ?_
  refine AO.nil ?_
  refine AQ.thenN ?_
  refine AW.seq ?_
  refine AW.split rfl (fun hlt => ?_) (fun hlt => ?_) <;> (try simp only [decide_eq_true_eq, decide_eq_false_iff_not, beq_iff_eq, beq_eq_false_iff_ne, bne_iff_ne, bne_eq_false_iff_eq, Bool.not_eq_true', Bool.not_eq_false', Bool.not_eq_true, Bool.not_eq_false, ne_eq, Int.not_lt, Int.not_le, Bool.and_eq_true, Bool.or_eq_true, Bool.or_eq_false_iff, Bool.and_eq_false_imp, strOf_toList, Decidable.not_not] at hlt)
  · skip
    have hk : k < e.out.length := by omega
    have hsc : wtsA (e.out.take (k + 1)) = wtsA (e.out.take k) ++ cW (wt e.out k) := by rw [take_snoc Wt.none hk, wtsA_snoc]
    refine AW.skip ?_
    refine AQ.thenN ?_
    refine AW.seq ?_
    refine AW.block ?_
    refine AW.seq ?_
    refine AW.region ?_
    refine AO.op (O.idxR rfl rfl rfl ⟨(by omega), (by omega)⟩) rfl rfl rfl ?_
    refine AO.op (O.loadRK rfl rfl (by exact getW (by omega) (by omega)) (by rfl)) rfl rfl rfl ?_
    refine AO.opB (O.alloc rfl (by (dsimp only [zerosA, List.replicate, List.append, List.flatten, AV.cells, Value.cells, List.toList_toArray, List.map]; done)) (by rfl)) rfl rfl rfl ?_
    intro B4
    (refine AO.store (i := 0) rfl rfl rfl rfl rfl rfl (by rfl) (by rfl) (by rfl) (by (dsimp only [List.set, List.append, List.cons_append, List.nil_append, AV.cells, splice, List.take, List.drop, Nat.reduceAdd]; done)) (by (dsimp only [List.set, List.append, List.cons_append, List.nil_append, AV.cells, splice, List.take, List.drop, Nat.reduceAdd]; done)) ?_)
    refine AO.nil ?_
    refine AQ.thenN ?_
    refine AW.seq ?_
    refine AW.region ?_
    refine AO.op (O.fieldAddr rfl rfl) rfl rfl rfl ?_
    refine AO.op (O.loadK rfl rfl (by repeat (exact List.Mem.head _)) (by rfl) (by rfl)) rfl rfl rfl ?_
    refine AO.op (O.call rfl Try.func51 rfl rfl rfl (copy_fn (wt e.out k).m (hs.om _ (getD_mem _ hk)))) rfl rfl rfl ?_
    refine AO.op (O.fieldAddr rfl rfl) rfl rfl rfl ?_
    (refine AO.store (i := 0) rfl rfl rfl rfl rfl rfl (by rfl) (by rfl) (by rfl) (by (dsimp only [List.set, List.append, List.cons_append, List.nil_append, AV.cells, splice, List.take, List.drop, Nat.reduceAdd]; done)) (by (dsimp only [List.set, List.append, List.cons_append, List.nil_append, AV.cells, splice, List.take, List.drop, Nat.reduceAdd]; done)) ?_)
    refine AO.nil ?_
    refine AQ.thenN ?_
    refine AW.region ?_
    refine AO.op (O.move rfl rfl) rfl rfl rfl ?_
    refine AO.op (O.loadK rfl rfl (by repeat (exact List.Mem.head _)) (by rfl) (by rfl)) rfl rfl rfl ?_
    refine AO.opB (O.buildSlice rfl rfl rfl (by rfl) (by rfl) (by rfl) (by rfl)) rfl rfl rfl ?_
    intro B5
    refine AO.g ?_
    (refine G.freezeSl 0 31 rfl rfl ⟨Nat.le_refl _, by unfold maxLen; omega⟩ ?_)
    refine G.unfull 31 rfl ?_
    refine AO.u ?_
    dsimp only [List.eraseIdx]
    (refine AO.append' (i := 1) rfl rfl rfl rfl (by rfl) (by rfl) rfl rfl rfl (by exact SrcA.ro TyD.ax (by rfl) (Nat.le_of_ble_eq_true rfl)) (by rfl) (by (unfold maxLen; omega)) (by omega) (by (dsimp only [List.set, List.append, List.cons_append, List.nil_append, AV.cells, splice, List.take, List.drop, Nat.reduceAdd]; done)) (fun _ => by (dsimp only [List.set]; done)) ?_)
    intro V6 hV6
    refine AO.op (O.assign rfl rfl) rfl rfl rfl ?_
    refine AO.nil ?_
    refine AQ.blockN ?_
    refine AQ.thenN ?_
    refine AW.region ?_
    refine AO.op (O.add rfl rfl rfl (by exact wI64 (by omega))) rfl rfl rfl ?_
    refine AO.op (O.move rfl rfl) rfl rfl rfl ?_
    refine AO.nil ?_
    refine AQ.loopKN _ _ _ (by omega) (⟨k + 1, _, by omega, ‹_›, rfl, rfl, by rw [hsc]⟩) (by repeat (first | exact envNil | refine envCons rfl ?_)) (by repeat (first | exact envNil | refine envCons rfl ?_)) (by repeat (first | exact subPnil | refine subPcons 1 rfl ?_))
  · skip
    obtain rfl : k = e.out.length := by omega
    rw [List.take_length]
    refine AW.exit ?_
    refine AQ.thenX ?_
    refine AQ.loopX ?_
    refine AQ.blockX rfl ?_
    refine AQ.thenN ?_
    refine AW.seq ?_
    refine AW.region ?_
    refine AO.op (O.assign rfl rfl) rfl rfl rfl ?_
    refine AO.nil ?_
    refine AQ.thenN ?_
    refine AW.seq ?_
    refine AW.seq ?_
    refine AW.region ?_
    refine AO.op (O.fieldAddr rfl rfl) rfl rfl rfl ?_
    refine AO.op (O.load rfl rfl (by repeat (first | exact List.Mem.head _ | refine List.Mem.tail _ ?_)) (by rfl)) rfl rfl rfl ?_
    refine AO.op (O.lenR rfl rfl) rfl rfl rfl ?_
    refine AO.op (O.move rfl rfl) rfl rfl rfl ?_
    refine AO.nil ?_
    refine AQ.thenN ?_
    refine AW.block ?_
    refine AW.g ?_
    refine G.nilRow 60 3 ?_
    refine AW.u ?_
    refine AW.loopK [(1, _), (2, _), (4, _), (5, _), (6, _), (35, _), (36, _)] (fun nn E H => ∃ (k : Nat) (V2 : Value), (k ≤ e.used.length) ∧ (V2.oneCell' = true) ∧ nn = e.used.length - k ∧ E = [(9, .val V2), (37, .val (.int .i64 (k : Int)))] ∧ H = [.row V2 60 3 ((e.used.take k).filter (liveU now)).length (ussA ((e.used.take k).filter (liveU now))), .row V 71 9 e.out.length (wtsA e.out), .blk B3 26 4 [.val (.int .i64 e.next), .val nilS, .val nilS, .val nilS], .blk B2 26 4 [.val (.int .i64 0), .val nilS, .val nilS, .val nilS], .blk B1 26 4 [.val (.int .i64 e.next), roW e.out, roU e.used, roH e.inn]]) _ (⟨0, nilS, by omega, rfl, rfl, rfl, rfl⟩) (by repeat (first | exact envNil | refine envCons rfl ?_)) (by repeat (first | exact envNil | refine envCons rfl ?_)) (by repeat (first | exact subPnil | refine subPcons 0 rfl ?_)) ?_
    rintro nn E H ⟨k, V2, hk1, hV2, rfl, rfl, rfl⟩
    dsimp only [List.cons_append, List.nil_append]
    have hfl := filt_len (liveU now) e.used k
    refine AW.seq ?_
    refine AW.region ?_
    refine AO.op (O.lss rfl rfl rfl (by rfl)) rfl rfl rfl ?_
    refine AO.nil ?_
    refine AQ.thenN ?_
    refine AW.seq ?_
    refine AW.split rfl (fun hlt2 => ?_) (fun hlt2 => ?_) <;> (try simp only [decide_eq_true_eq, decide_eq_false_iff_not, beq_iff_eq, beq_eq_false_iff_ne, bne_iff_ne, bne_eq_false_iff_eq, Bool.not_eq_true', Bool.not_eq_false', Bool.not_eq_true, Bool.not_eq_false, ne_eq, Int.not_lt, Int.not_le, Bool.and_eq_true, Bool.or_eq_true, Bool.or_eq_false_iff, Bool.and_eq_false_imp, strOf_toList, Decidable.not_not] at hlt2)
    · skip
      have hk : k < e.used.length := by omega
      have hf := filt_succ (liveU now) Us.none hk
      refine AW.skip ?_
      refine AQ.thenN ?_
      refine AW.seq ?_
      refine AW.block ?_
      refine AW.seq ?_
      refine AW.region ?_
      refine AO.op (O.idxR rfl rfl rfl ⟨(by omega), (by omega)⟩) rfl rfl rfl ?_
      refine AO.op (O.loadRK rfl rfl (by exact getU (by omega) (by omega)) (by rfl)) rfl rfl rfl ?_
      refine AO.opB (O.alloc rfl (by (dsimp only [zerosA, List.replicate, List.append, List.flatten, AV.cells, Value.cells, List.toList_toArray, List.map]; done)) (by rfl)) rfl rfl rfl ?_
      intro B7
      (refine AO.store (i := 0) rfl rfl rfl rfl rfl rfl (by rfl) (by rfl) (by rfl) (by (dsimp only [List.set, List.append, List.cons_append, List.nil_append, AV.cells, splice, List.take, List.drop, Nat.reduceAdd]; done)) (by (dsimp only [List.set, List.append, List.cons_append, List.nil_append, AV.cells, splice, List.take, List.drop, Nat.reduceAdd]; done)) ?_)
      refine AO.nil ?_
      refine AQ.thenN ?_
      refine AW.seq ?_
      refine AW.region ?_
      refine AO.op (O.fieldAddr rfl rfl) rfl rfl rfl ?_
      refine AO.op (O.load rfl rfl (by repeat (exact List.Mem.head _)) (by rfl)) rfl rfl rfl ?_
      refine AO.op (O.move rfl rfl) rfl rfl rfl ?_
      refine AO.op (O.gtr rfl rfl rfl (by rfl)) rfl rfl rfl ?_
      refine AO.nil ?_
      refine AQ.thenN ?_
      refine AW.split rfl (fun hu => ?_) (fun hu => ?_) <;> (try simp only [decide_eq_true_eq, decide_eq_false_iff_not, beq_iff_eq, beq_eq_false_iff_ne, bne_iff_ne, bne_eq_false_iff_eq, Bool.not_eq_true', Bool.not_eq_false', Bool.not_eq_true, Bool.not_eq_false, ne_eq, Int.not_lt, Int.not_le, Bool.and_eq_true, Bool.or_eq_true, Bool.or_eq_false_iff, Bool.and_eq_false_imp, strOf_toList, Decidable.not_not] at hu)
      · skip
        rw [if_pos (show liveU now (us e.used k) = true from decide_eq_true hu)] at hf
        have hfl2 : ((e.used.take (k + 1)).filter (liveU now)).length = ((e.used.take k).filter (liveU now)).length + 1 := by rw [hf, List.length_append]; rfl
        refine AW.region ?_
        refine AO.op (O.move rfl rfl) rfl rfl rfl ?_
        refine AO.op (O.loadK rfl rfl (by repeat (exact List.Mem.head _)) (by rfl) (by rfl)) rfl rfl rfl ?_
        refine AO.opB (O.buildSlice rfl rfl rfl (by rfl) (by rfl) (by rfl) (by rfl)) rfl rfl rfl ?_
        intro B8
        refine AO.g ?_
        (refine G.freezeSl 0 47 rfl rfl ⟨Nat.le_refl _, by unfold maxLen; omega⟩ ?_)
        refine G.unfull 47 rfl ?_
        refine AO.u ?_
        dsimp only [List.eraseIdx]
        (refine AO.append' (i := 1) rfl rfl rfl rfl (by rfl) (by rfl) rfl rfl rfl (by exact SrcA.ro TyD.ax (by rfl) (Nat.le_of_ble_eq_true rfl)) (by rfl) (by (unfold maxLen; omega)) (by omega) (by (dsimp only [List.set, List.append, List.cons_append, List.nil_append, AV.cells, splice, List.take, List.drop, Nat.reduceAdd]; done)) (fun _ => by (dsimp only [List.set]; done)) ?_)
        intro V9 hV9
        refine AO.op (O.assign rfl rfl) rfl rfl rfl ?_
        refine AO.nil ?_
        refine AQ.blockN ?_
        refine AQ.thenN ?_
        refine AW.region ?_
        refine AO.op (O.add rfl rfl rfl (by exact wI64 (by omega))) rfl rfl rfl ?_
        refine AO.op (O.move rfl rfl) rfl rfl rfl ?_
        refine AO.nil ?_
        refine AQ.loopKN _ _ _ (by omega) (⟨k + 1, _, by omega, ‹_›, rfl, rfl, by rw [hfl2, hf, ussA_snoc]⟩) (by repeat (first | exact envNil | refine envCons rfl ?_)) (by repeat (first | exact envNil | refine envCons rfl ?_)) (by repeat (first | exact subPnil | refine subPcons 1 rfl ?_))
      · skip
        rw [if_neg (show ¬ liveU now (us e.used k) = true from fun h => absurd (of_decide_eq_true h) (by omega)), List.append_nil] at hf
        refine AW.skip ?_
        refine AQ.blockN ?_
        refine AQ.thenN ?_
        refine AW.region ?_
        refine AO.op (O.add rfl rfl rfl (by exact wI64 (by omega))) rfl rfl rfl ?_
        refine AO.op (O.move rfl rfl) rfl rfl rfl ?_
        refine AO.nil ?_
        refine AQ.loopKN _ _ _ (by omega) (⟨k + 1, V2, by omega, hV2, rfl, rfl, by rw [hf]⟩) (by repeat (first | exact envNil | refine envCons rfl ?_)) (by repeat (first | exact envNil | refine envCons rfl ?_)) (by repeat (first | exact subPnil | refine subPcons 1 rfl ?_))
    · skip
      obtain rfl : k = e.used.length := by omega
      rw [List.take_length]
      refine AW.exit ?_
      refine AQ.thenX ?_
      refine AQ.loopX ?_
      refine AQ.blockX rfl ?_
      refine AQ.thenN ?_
      refine AW.seq ?_
      refine AW.region ?_
      refine AO.op (O.assign rfl rfl) rfl rfl rfl ?_
      refine AO.nil ?_
      refine AQ.thenN ?_
      refine AW.seq ?_
      refine AW.seq ?_
      refine AW.region ?_
      refine AO.op (O.fieldAddr rfl rfl) rfl rfl rfl ?_
      refine AO.op (O.load rfl rfl (by repeat (first | exact List.Mem.head _ | refine List.Mem.tail _ ?_)) (by rfl)) rfl rfl rfl ?_
      refine AO.op (O.lenR rfl rfl) rfl rfl rfl ?_
      refine AO.op (O.move rfl rfl) rfl rfl rfl ?_
      refine AO.nil ?_
      refine AQ.thenN ?_
      refine AW.block ?_
      refine AW.g ?_
      refine G.nilRow 63 10 ?_
      refine AW.u ?_
      refine AW.loopK [(1, _), (4, _), (5, _), (6, _), (9, _), (51, _), (52, _)] (fun nn E H => ∃ (k : Nat) (V3 : Value), (k ≤ e.inn.length) ∧ (V3.oneCell' = true) ∧ nn = e.inn.length - k ∧ E = [(12, .val V3), (53, .val (.int .i64 (k : Int)))] ∧ H = [.row V3 63 10 ((e.inn.take k).filter (liveH now)).length (hdsA ((e.inn.take k).filter (liveH now))), .row V2 60 3 (e.used.filter (liveU now)).length (ussA (e.used.filter (liveU now))), .row V 71 9 e.out.length (wtsA e.out), .blk B3 26 4 [.val (.int .i64 e.next), .val nilS, .val nilS, .val nilS], .blk B2 26 4 [.val (.int .i64 0), .val nilS, .val nilS, .val nilS]]) _ (⟨0, nilS, by omega, rfl, rfl, rfl, rfl⟩) (by repeat (first | exact envNil | refine envCons rfl ?_)) (by repeat (first | exact envNil | refine envCons rfl ?_)) (by repeat (first | exact subPnil | refine subPcons 0 rfl ?_)) ?_
      rintro nn E H ⟨k, V3, hk1, hV3, rfl, rfl, rfl⟩
      dsimp only [List.cons_append, List.nil_append]
      have hfl := filt_len (liveH now) e.inn k
      refine AW.seq ?_
      refine AW.region ?_
      refine AO.op (O.lss rfl rfl rfl (by rfl)) rfl rfl rfl ?_
      refine AO.nil ?_
      refine AQ.thenN ?_
      refine AW.seq ?_
      refine AW.split rfl (fun hlt3 => ?_) (fun hlt3 => ?_) <;> (try simp only [decide_eq_true_eq, decide_eq_false_iff_not, beq_iff_eq, beq_eq_false_iff_ne, bne_iff_ne, bne_eq_false_iff_eq, Bool.not_eq_true', Bool.not_eq_false', Bool.not_eq_true, Bool.not_eq_false, ne_eq, Int.not_lt, Int.not_le, Bool.and_eq_true, Bool.or_eq_true, Bool.or_eq_false_iff, Bool.and_eq_false_imp, strOf_toList, Decidable.not_not] at hlt3)
      · skip
        have hk : k < e.inn.length := by omega
        have hf := filt_succ (liveH now) Hd.none hk
        refine AW.skip ?_
        refine AQ.thenN ?_
        refine AW.seq ?_
        refine AW.block ?_
        refine AW.seq ?_
        refine AW.region ?_
        refine AO.op (O.idxR rfl rfl rfl ⟨(by omega), (by omega)⟩) rfl rfl rfl ?_
        refine AO.op (O.loadRK rfl rfl (by exact getH (by omega) (by omega)) (by rfl)) rfl rfl rfl ?_
        refine AO.opB (O.alloc rfl (by (dsimp only [zerosA, List.replicate, List.append, List.flatten, AV.cells, Value.cells, List.toList_toArray, List.map]; done)) (by rfl)) rfl rfl rfl ?_
        intro B10
        (refine AO.store (i := 0) rfl rfl rfl rfl rfl rfl (by rfl) (by rfl) (by rfl) (by (dsimp only [List.set, List.append, List.cons_append, List.nil_append, AV.cells, splice, List.take, List.drop, Nat.reduceAdd]; done)) (by (dsimp only [List.set, List.append, List.cons_append, List.nil_append, AV.cells, splice, List.take, List.drop, Nat.reduceAdd]; done)) ?_)
        refine AO.nil ?_
        refine AQ.thenN ?_
        refine AW.seq ?_
        refine AW.region ?_
        refine AO.op (O.fieldAddr rfl rfl) rfl rfl rfl ?_
        refine AO.op (O.load rfl rfl (by repeat (exact List.Mem.head _)) (by rfl)) rfl rfl rfl ?_
        refine AO.op (O.move rfl rfl) rfl rfl rfl ?_
        refine AO.op (O.gtr rfl rfl rfl (by rfl)) rfl rfl rfl ?_
        refine AO.nil ?_
        refine AQ.thenN ?_
        refine AW.split rfl (fun hu => ?_) (fun hu => ?_) <;> (try simp only [decide_eq_true_eq, decide_eq_false_iff_not, beq_iff_eq, beq_eq_false_iff_ne, bne_iff_ne, bne_eq_false_iff_eq, Bool.not_eq_true', Bool.not_eq_false', Bool.not_eq_true, Bool.not_eq_false, ne_eq, Int.not_lt, Int.not_le, Bool.and_eq_true, Bool.or_eq_true, Bool.or_eq_false_iff, Bool.and_eq_false_imp, strOf_toList, Decidable.not_not] at hu)
        · skip
          rw [if_pos (show liveH now (hd e.inn k) = true from decide_eq_true hu)] at hf
          have hfl2 : ((e.inn.take (k + 1)).filter (liveH now)).length = ((e.inn.take k).filter (liveH now)).length + 1 := by rw [hf, List.length_append]; rfl
          refine AW.seq ?_
          refine AW.region ?_
          refine AO.op (O.fieldAddr rfl rfl) rfl rfl rfl ?_
          refine AO.op (O.loadK rfl rfl (by repeat (exact List.Mem.head _)) (by rfl) (by rfl)) rfl rfl rfl ?_
          refine AO.op (O.call rfl Try.func51 rfl rfl rfl (copy_fn (hd e.inn k).m (hs.im _ (getD_mem _ hk)))) rfl rfl rfl ?_
          refine AO.op (O.fieldAddr rfl rfl) rfl rfl rfl ?_
          (refine AO.store (i := 0) rfl rfl rfl rfl rfl rfl (by rfl) (by rfl) (by rfl) (by (dsimp only [List.set, List.append, List.cons_append, List.nil_append, AV.cells, splice, List.take, List.drop, Nat.reduceAdd]; done)) (by (dsimp only [List.set, List.append, List.cons_append, List.nil_append, AV.cells, splice, List.take, List.drop, Nat.reduceAdd]; done)) ?_)
          refine AO.nil ?_
          refine AQ.thenN ?_
          refine AW.region ?_
          refine AO.op (O.move rfl rfl) rfl rfl rfl ?_
          refine AO.op (O.loadK rfl rfl (by repeat (exact List.Mem.head _)) (by rfl) (by rfl)) rfl rfl rfl ?_
          refine AO.opB (O.buildSlice rfl rfl rfl (by rfl) (by rfl) (by rfl) (by rfl)) rfl rfl rfl ?_
          intro B11
          refine AO.g ?_
          (refine G.freezeSl 0 67 rfl rfl ⟨Nat.le_refl _, by unfold maxLen; omega⟩ ?_)
          refine G.unfull 67 rfl ?_
          refine AO.u ?_
          dsimp only [List.eraseIdx]
          (refine AO.append' (i := 1) rfl rfl rfl rfl (by rfl) (by rfl) rfl rfl rfl (by exact SrcA.ro TyD.ax (by rfl) (Nat.le_of_ble_eq_true rfl)) (by rfl) (by (unfold maxLen; omega)) (by omega) (by (dsimp only [List.set, List.append, List.cons_append, List.nil_append, AV.cells, splice, List.take, List.drop, Nat.reduceAdd]; done)) (fun _ => by (dsimp only [List.set]; done)) ?_)
          intro V12 hV12
          refine AO.op (O.assign rfl rfl) rfl rfl rfl ?_
          refine AO.nil ?_
          refine AQ.blockN ?_
          refine AQ.thenN ?_
          refine AW.region ?_
          refine AO.op (O.add rfl rfl rfl (by exact wI64 (by omega))) rfl rfl rfl ?_
          refine AO.op (O.move rfl rfl) rfl rfl rfl ?_
          refine AO.nil ?_
          refine AQ.loopKN _ _ _ (by omega) (⟨k + 1, _, by omega, ‹_›, rfl, rfl, by rw [hfl2, hf, hdsA_snoc]⟩) (by repeat (first | exact envNil | refine envCons rfl ?_)) (by repeat (first | exact envNil | refine envCons rfl ?_)) (by repeat (first | exact subPnil | refine subPcons 1 rfl ?_))
        · skip
          rw [if_neg (show ¬ liveH now (hd e.inn k) = true from fun h => absurd (of_decide_eq_true h) (by omega)), List.append_nil] at hf
          refine AW.skip ?_
          refine AQ.blockN ?_
          refine AQ.thenN ?_
          refine AW.region ?_
          refine AO.op (O.add rfl rfl rfl (by exact wI64 (by omega))) rfl rfl rfl ?_
          refine AO.op (O.move rfl rfl) rfl rfl rfl ?_
          refine AO.nil ?_
          refine AQ.loopKN _ _ _ (by omega) (⟨k + 1, V3, by omega, hV3, rfl, rfl, by rw [hf]⟩) (by repeat (first | exact envNil | refine envCons rfl ?_)) (by repeat (first | exact envNil | refine envCons rfl ?_)) (by repeat (first | exact subPnil | refine subPcons 1 rfl ?_))
      · skip
        obtain rfl : k = e.inn.length := by omega
        rw [List.take_length]
        refine AW.exit ?_
        refine AQ.thenX ?_
        refine AQ.loopX ?_
        refine AQ.blockX rfl ?_
        refine AQ.thenN ?_
        refine AW.seq ?_
        refine AW.region ?_
        refine AO.op (O.move rfl rfl) rfl rfl rfl ?_
        refine AO.op (O.move rfl rfl) rfl rfl rfl ?_
        refine AO.op (O.move rfl rfl) rfl rfl rfl ?_
        refine AO.op (O.fieldAddr rfl rfl) rfl rfl rfl ?_
        (refine AO.store (i := 3) rfl rfl rfl rfl rfl rfl (by (simp [AV.cells, AV.one, *]; done)) (by rfl) (by rfl) (by (dsimp only [List.set, List.append, List.cons_append, List.nil_append, AV.cells, splice, List.take, List.drop, Nat.reduceAdd]; done)) (by (dsimp only [List.set, List.append, List.cons_append, List.nil_append, AV.cells, splice, List.take, List.drop, Nat.reduceAdd]; done)) ?_)
        refine AO.op (O.fieldAddr rfl rfl) rfl rfl rfl ?_
        (refine AO.store (i := 3) rfl rfl rfl rfl rfl rfl (by (simp [AV.cells, AV.one, *]; done)) (by rfl) (by rfl) (by (dsimp only [List.set, List.append, List.cons_append, List.nil_append, AV.cells, splice, List.take, List.drop, Nat.reduceAdd]; done)) (by (dsimp only [List.set, List.append, List.cons_append, List.nil_append, AV.cells, splice, List.take, List.drop, Nat.reduceAdd]; done)) ?_)
        refine AO.op (O.fieldAddr rfl rfl) rfl rfl rfl ?_
        (refine AO.store (i := 3) rfl rfl rfl rfl rfl rfl (by (simp [AV.cells, AV.one, *]; done)) (by rfl) (by rfl) (by (dsimp only [List.set, List.append, List.cons_append, List.nil_append, AV.cells, splice, List.take, List.drop, Nat.reduceAdd]; done)) (by (dsimp only [List.set, List.append, List.cons_append, List.nil_append, AV.cells, splice, List.take, List.drop, Nat.reduceAdd]; done)) ?_)
        refine AO.nil ?_
        refine AQ.thenN ?_
        refine AW.seq ?_
        refine AW.region ?_
        refine AO.op (O.loadK rfl rfl (by repeat (first | exact List.Mem.head _ | refine List.Mem.tail _ ?_)) (by rfl) (by rfl)) rfl rfl rfl ?_
        (refine AO.store (i := 4) rfl rfl rfl rfl rfl rfl (by (simp [AV.cells, AV.one, roB, roI, roO, show ∀ k z, (Value.int k z).oneCell' = true from fun _ _ => rfl, show ∀ k, (Value.bool k).oneCell' = true from fun _ => rfl, *]; done)) (by rfl) (by rfl) (by (dsimp only [List.set, List.append, List.cons_append, List.nil_append, AV.cells, splice, List.take, List.drop, Nat.reduceAdd]; done)) (by (dsimp only [List.set, List.append, List.cons_append, List.nil_append, AV.cells, splice, List.take, List.drop, Nat.reduceAdd]; done)) ?_)
        refine AO.nil ?_
        refine AQ.thenN ?_
        refine AW.ret ?_
        refine AQ.retCell rfl rfl (by repeat (first | exact List.Mem.head _ | refine List.Mem.tail _ ?_)) (by rfl) rfl ⟨_, by repeat (first | exact List.Sublist.slnil | refine List.Sublist.cons_cons _ ?_ | refine List.Sublist.cons _ ?_), List.Perm.refl _⟩ (⟨V, V2, V3, hV, hV2, hV3, rfl, rfl⟩)
theorem args_fn (e : Ep) (peer now : Int) (hb : BdE e) : Sp Try.prog 48 [aggE e, .val (.int .i64 peer), .val (.int .i64 now)] [] (Is (.val (.bool (decide (ValE e ∧ TimeOk now ∧ PeerOk peer))))) := by
  refine Sp.enter Try.func48 rfl _ Try.ntmps48 rfl (fun w0 R0 => ?_)
  refine AW.seq ?_
  refine AW.region ?_
  refine AO.opB (O.box rfl rfl rfl rfl rfl) rfl rfl rfl ?_
  intro B1
  refine AO.op (O.assign rfl rfl) rfl rfl rfl ?_
  refine AO.nil ?_
  refine AQ.thenN ?_
  refine AW.seq ?_
  refine AW.region ?_
  refine AO.op (O.loadK rfl rfl (by repeat (exact List.Mem.head _)) (by rfl) (by rfl)) rfl rfl rfl ?_
  refine AO.op (O.call rfl Try.func16 rfl rfl rfl (revalid_fn e hb)) rfl rfl rfl ?_
  refine AO.op (O.move rfl rfl) rfl rfl rfl ?_
  refine AO.opG rfl rfl rfl (fun hp => O.move rfl rfl) ?_
  refine AO.opG rfl rfl rfl (fun hp => OpW.force 10 rfl (by exact hp) (O.call rfl Try.func40 rfl rfl rfl (in_fn _ _))) ?_
  refine AO.op (O.pickAnd rfl rfl rfl rfl (fun h => by exact h)) rfl rfl rfl ?_
  refine AO.op (O.move rfl rfl) rfl rfl rfl ?_
  refine AO.opG rfl rfl rfl (fun hp => O.move rfl rfl) ?_
  refine AO.opG rfl rfl rfl (fun hp => OpW.force 14 rfl (by exact hp) (O.call rfl Try.func40 rfl rfl rfl (in_fn _ _))) ?_
  refine AO.op (O.pickAnd rfl rfl rfl rfl (fun h => by exact h)) rfl rfl rfl ?_
  refine AO.op (O.assign rfl rfl) rfl rfl rfl ?_
  refine AO.nil ?_
  refine AQ.thenN ?_
  refine AW.ret ?_
  refine AQ.ret1 rfl rfl ⟨_, List.nil_sublist _, .nil⟩ (retD (by rw [and_dec, and_dec]; exact decide_eq_decide.2 and_assoc))
end Go.Proofs.Ytdnmilmcdbgppaa.By

namespace Go.Proofs.Ytdnmilmcdbgppaa.A
open Go.RowKit L
set_option linter.unusedVariables false
set_option maxRecDepth 20000
set_option linter.unusedSimpArgs false
section
variable {Γ : Cx} {P : Program} {Q : Exit → Act → World → Prop} {E : Env} {H : List HE} {N : Nat} {o : Oper} {ops : Array Oper} {rest : List Oper}

/-- Values that hold no memory. -/
def Plain (v : AV) : Prop := (∃ c, v = .val c) ∨ ∃ xs, v = .agg xs ∧ ∀ x ∈ xs, ∃ c, x = .val c
theorem Plain.val {c : Value} : Plain (.val c) := .inl ⟨c, rfl⟩
theorem Plain.rel {v : AV} (h : Plain v) {R R' : Nat → Prop} {W W' : World} {u : Value} (hv : RelV R W v u) : RelV R' W' v u := by
  rcases h with ⟨c, rfl⟩ | ⟨xs, rfl, hx⟩
  · rw [hv.val_inv]; exact .val _
  · cases hv with
    | agg _ cs hs hr =>
      refine .agg _ cs hs fun j hj => ?_
      obtain ⟨c, hc⟩ := hx xs[j] (List.getElem_mem hj)
      have := hr j hj
      rw [hc] at this ⊢
      rw [this.val_inv]; exact .val _

inductive LendB (b : Nat) (ys : List AV) : List AV → List AV → Prop
  | nil : LendB b ys [] []
  | same {a : AV} {r r' : List AV} : LendB b ys r r' → LendB b ys (a :: r) (a :: r')
  | lend {j : Nat} {r r' : List AV} : LendB b ys r r' → LendB b ys (.val (.pointer (some ⟨b, j, none⟩)) :: r) (.rp ys j :: r')
theorem blk_rp {R : Nat → Prop} {W : World} {b T room j : Nat} {xs : List AV} (h : HE.ok R W (.blk b T room xs)) : RelV (fun c => R c ∨ c = b) W (.rp xs j) (.pointer (some ⟨b, j, none⟩)) := by
  have := RelV.rp (R := fun c => R c ∨ c = b) (W := W) xs j b 0 (fun q => (W.cell? ⟨b, 0 + q, none⟩).getD undef) (.inr rfl) (fun q hq => by
    obtain ⟨u, hu, _⟩ := blk_cell h (j := q) (v := xs[q]) (by simp [hq])
    rw [Nat.zero_add, hu]; rfl) (fun q hq => by
    obtain ⟨u, hu, hr⟩ := blk_cell h (j := q) (v := xs[q]) (by simp [hq])
    rw [Nat.zero_add, hu]
    exact hr.mono (fun _ h => .inl h) (fun _ _ => rfl))
  simpa using this
theorem LendB.rel {R : Nat → Prop} {W : World} {b T room : Nat} {xs : List AV} (h : HE.ok R W (.blk b T room xs)) {a a' : List AV} (hl : LendB b xs a a') : ∀ {us : List Value}, RelL R W a us → RelL (fun c => R c ∨ c = b) W a' us := by
  induction hl with
  | nil => intro us h; exact h.mono (fun _ h => .inl h) (fun _ _ => rfl)
  | same _ ih =>
    intro us h
    obtain ⟨u, r, rfl, h1, h2⟩ := h.uncons
    exact RelL.cons (h1.mono (fun _ h => .inl h) (fun _ _ => rfl)) (ih h2)
  | lend _ ih =>
    intro us h'
    obtain ⟨u, r, rfl, h1, h2⟩ := h'.uncons
    rw [h1.val_inv]
    exact RelL.cons (blk_rp h) (ih h2)
end

theorem tmodE {a b : Int} (h : 0 ≤ a) : a.tmod b = a % b := Int.tmod_eq_emod_of_nonneg h
/-! Bytes told by a function of their place. -/
def fnB (n : Nat) (f : Nat → UInt8) : List UInt8 := (List.range n).map f
def arB (n : Nat) (f : Nat → UInt8) : List AV := bytesA (fnB n f)
end Go.Proofs.Ytdnmilmcdbgppaa.A

namespace Go.Proofs.Ytdnmilmcdbgppaa.A
open Go.RowKit L
section
variable {Γ : Cx} {P : Program} {E : Env} {H : List HE} {N : Nat} {o : Oper}
theorem RelV.plain {R R' : Nat → Prop} {W W' : World} {x : AV} {u : Value} (hx : ∃ c, x = .val c) (h : RelV R W x u) : RelV R' W' x u := by
  obtain ⟨c, rfl⟩ := hx
  rw [h.val_inv]; exact .val _
def PlainP (Post : AV → List HE → Prop) : Prop := ∀ r Hn, Post r Hn → (∀ (R R' : Nat → Prop) W u, RelV R W r u → RelV R' W r u) ∧ ∀ e ∈ Hn, ∀ (R R' : Nat → Prop) W, HE.ok R W e → HE.ok R' W e
end
end Go.Proofs.Ytdnmilmcdbgppaa.A

namespace Go.Proofs.Ytdnmilmcdbgppaa.A
open Go.RowKit L
section
variable {Γ : Cx} {P : Program} {E : Env} {H : List HE} {N : Nat} {o : Oper}
inductive LendX (H : List HE) : List AV → List AV → Prop
  | nil : LendX H [] []
  | same {a : AV} {r r' : List AV} : LendX H r r' → LendX H (a :: r) (a :: r')
  | row {v : Value} {T sz n : Nat} {rs r r' : List AV} (i : Nat) (hi : H[i]? = some (.row v T sz n rs)) : LendX H r r' → LendX H (.val v :: r) (.ro false n rs :: r')
  | agg {xs xs' r r' : List AV} : LendX H xs xs' → LendX H r r' → LendX H (.agg xs :: r) (.agg xs' :: r')
theorem LendX.rel {R : Nat → Prop} {W : World} (hok : ∀ e ∈ H, e.ok R W) {a a' : List AV} (h : LendX H a a') : ∀ {us : List Value}, RelL R W a us → RelL (fun b => R b ∨ ∃ e ∈ H, e.foot b) W a' us := by
  induction h with
  | nil => intro us h; exact h.mono (fun _ h => .inl h) (fun _ _ => rfl)
  | same _ ih =>
    intro us h
    obtain ⟨u, r, rfl, h1, h2⟩ := h.uncons
    exact RelL.cons (h1.mono (fun _ h => .inl h) (fun _ _ => rfl)) (ih h2)
  | row i hi _ ih =>
    intro us h
    obtain ⟨u, r, rfl, h1, h2⟩ := h.uncons
    have := h1.val_inv
    subst this
    have hm := List.mem_of_getElem? hi
    exact RelL.cons ((row_ro (hok _ hm)).mono (fun b hb => hb.elim .inl fun hf => .inr ⟨_, hm, hf⟩) (fun _ _ => rfl)) (ih h2)
  | agg _ _ ih1 ih2 =>
    intro us h
    obtain ⟨u, r, rfl, h1, h2⟩ := h.uncons
    obtain ⟨vs, rfl, hv⟩ := h1.agg_inv
    exact RelL.cons (ih1 hv).toAgg (ih2 h2)
theorem O.callXP {f : FuncId} {xs : List Operand} {ats : Array TypeId} {args args' : List AV} {fn : Func} {Post : AV → List HE → Prop} (ho : o.op = .call { callee := .value (.func f), args := xs.toArray, argTypes := ats }) (hfn : P.funcs[f]? = some fn) (hn : (fn.name == "runtime.NumGoroutine") = false) (hb : fn.body.isNone = false)
    (hx : evs E xs = some args) (h : Sp P f args' [] Post) (hp : PlainP Post) (hl : LendX H args args') : OpW P N o E H Post := fun R a W h0 h2 h3 ha => by
  have hlt : ∀ b, (R b ∨ ∃ e ∈ H, e.foot b) → b < W.heap.size := by
    rintro b (hb | ⟨e, he, hb⟩)
    · exact h0 b hb
    · exact HE.ok_lt (h2 _ he) hb
  unfold Oper.wp
  rw [run_callF ho hfn hn hb, List.map_toArray]
  have hc := h W _ (xs.map a.eval) hlt (fun e he => by cases he) .nil (hl.rel h2 (ha.evs hx))
  refine Calls.mono hc ?_
  rintro e W' ⟨u, r, H', R', rfl, hpo, hs, hv⟩
  have p := fn_post1 hs hv hlt
  obtain ⟨q1, q2⟩ := hp r H' hpo
  refine ⟨u, r, H', R, rfl, hpo, p.ext, fun _ h => h, fun _ h => .inl h, q1 _ _ _ _ hv, fun e he => ⟨q2 e he _ _ _ (p.ok e he).1, fun b hb => ?_⟩, p.disj⟩
  have := (p.ok e he).2 b hb
  exact ⟨this.1, fun hr => by have := h0 b hr; omega⟩
theorem plain_val (c : Value) : PlainP (Is (.val c)) := by
  rintro r Hn ⟨rfl, rfl⟩
  exact ⟨fun R R' W u h => h.plain ⟨_, rfl⟩, fun e he => by cases he⟩
/-- .. the yield a plain value. -/
theorem O.callX {f : FuncId} {xs : List Operand} {ats : Array TypeId} {args args' : List AV} {fn : Func} {c : Value} (ho : o.op = .call { callee := .value (.func f), args := xs.toArray, argTypes := ats }) (hfn : P.funcs[f]? = some fn) (hn : (fn.name == "runtime.NumGoroutine") = false) (hb : fn.body.isNone = false)
    (hx : evs E xs = some args) (h : Sp P f args' [] (Is (.val c))) (hl : LendX H args args') : OpW P N o E H (Is (.val c)) := O.callXP ho hfn hn hb hx h (plain_val c) hl
end
end Go.Proofs.Ytdnmilmcdbgppaa.A

namespace Go.Proofs.Ytdnmilmcdbgppaa.By
open Go.RowKit L A
set_option linter.unusedVariables false
set_option maxRecDepth 20000
set_option linter.unusedSimpArgs false
attribute [local irreducible] AW AQ AO
def uB (peer id : Int) (u : Us) : Bool := u.peer == peer && u.id == id
def wB (peer id : Int) (w : Wt) : Bool := w.peer == peer && w.m.id == id
def takenB (out : List Wt) (used : List Us) (peer id : Int) : Bool := used.any (uB peer id) || out.any (wB peer id)
theorem any_succ {α : Type} (p : α → Bool) (d : α) {l : List α} {k : Nat} (h : k < l.length) : (l.take (k + 1)).any p = ((l.take k).any p || p (l.getD k d)) := by
  rw [take_snoc d h, List.any_append]; simp
theorem nodup_sub : ∀ (s l : List Int), s.Nodup → (∀ x ∈ s, x ∈ l) → s.length ≤ l.length
  | [], l, _, _ => by simp
  | x :: s, l, h, hs => by
    have h1 := List.nodup_cons.1 h
    have hx := hs x (List.mem_cons_self ..)
    have := nodup_sub s (l.erase x) h1.2 fun y hy => by
      have hne : y ≠ x := fun e => h1.1 (e ▸ hy)
      exact (List.mem_erase_of_ne hne).2 (hs y (List.mem_cons_of_mem _ hy))
    rw [List.length_erase_of_mem hx] at this
    have : 0 < l.length := List.length_pos_of_mem hx
    simp only [List.length_cons]; omega
theorem taken_mem {out : List Wt} {used : List Us} {peer id : Int} (h : takenB out used peer id = true) : id ∈ used.map Us.id ++ out.map (fun w => w.m.id) := by
  unfold takenB at h
  rw [Bool.or_eq_true, List.any_eq_true, List.any_eq_true] at h
  rw [List.mem_append, List.mem_map, List.mem_map]
  rcases h with ⟨u, hu, h⟩ | ⟨u, hu, h⟩
  · unfold uB at h; simp only [Bool.and_eq_true, beq_iff_eq] at h; exact .inl ⟨u, hu, h.2⟩
  · unfold wB at h; simp only [Bool.and_eq_true, beq_iff_eq] at h; exact .inr ⟨u, hu, h.2⟩
def freeK (out : List Wt) (used : List Us) (peer next : Int) : Nat := ((List.range 64).find? fun k : Nat => !takenB out used peer ((next + (k : Int)) % 65536)).getD 0
def freeI (out : List Wt) (used : List Us) (peer next : Int) : Int := (next + (freeK out used peer next : Int)) % 65536
theorem freeK_spec {out : List Wt} {used : List Us} {peer next : Int} (h : used.length + out.length ≤ 48) :
    freeK out used peer next < 64 ∧ takenB out used peer ((next + (freeK out used peer next : Int)) % 65536) = false ∧ ∀ k : Nat, k < freeK out used peer next → takenB out used peer ((next + (k : Int)) % 65536) = true := by
  unfold freeK
  cases hf : (List.range 64).find? (fun k : Nat => !takenB out used peer ((next + (k : Int)) % 65536)) with
  | some K =>
    have h1 := List.find?_some hf
    have h2 := List.mem_range.1 (List.mem_of_find?_eq_some hf)
    refine ⟨h2, by simpa using h1, fun k hk => ?_⟩
    have h3 : ((List.range 64).find? fun k : Nat => !takenB out used peer ((next + (k : Int)) % 65536)) = some K := hf
    rw [List.find?_eq_some_iff_getElem] at h3
    obtain ⟨_, i, hi, hie, h4⟩ := h3
    rw [List.getElem_range] at hie
    subst hie
    have := h4 k hk
    rw [List.getElem_range] at this
    simpa using this
  | none =>
    exfalso
    have h1 := List.find?_eq_none.1 hf
    have h2 : ∀ k : Nat, k < 64 → takenB out used peer ((next + (k : Int)) % 65536) = true := fun k hk => by
      have := h1 k (List.mem_range.2 hk)
      simpa using this
    have h3 := nodup_sub ((List.range 64).map fun k : Nat => (next + (k : Int)) % 65536) (used.map Us.id ++ out.map (fun w => w.m.id)) ?_ ?_
    · simp only [List.length_map, List.length_range, List.length_append] at h3
      omega
    · rw [List.Nodup, List.pairwise_map]
      refine List.Pairwise.imp_of_mem ?_ List.nodup_range
      intro a b ha hb hab he
      rw [List.mem_range] at ha hb
      omega
    · intro x hx
      obtain ⟨k, hk, rfl⟩ := List.mem_map.1 hx
      exact taken_mem (h2 k (List.mem_range.1 hk))
set_option maxHeartbeats 4000000 in
theorem free_fn (next : Int) (out : List Wt) (used : List Us) (x : Value) (hx : x.oneCell' = true) (peer : Int) (hn : IdOk next) (hl : used.length + out.length ≤ 48) : Sp Try.prog 46 [.agg [.val (.int .i64 next), roW out, roU used, .val x], .val (.int .i64 peer)] [] (Is (.val (.int .i64 (freeI out used peer next)))) := by
  obtain ⟨hK1, hK2, hK3⟩ := freeK_spec (peer := peer) (next := next) hl
  obtain ⟨K, hK⟩ : ∃ K, K = freeK out used peer next := ⟨_, rfl⟩
  have hfI : freeI out used peer next = (next + (K : Int)) % 65536 := by rw [hK]; rfl
  rw [← hK] at hK1 hK2 hK3
  rw [hfI]
  refine Sp.enter Try.func46 rfl _ Try.ntmps46 rfl (fun w0 R0 => ?_)
  refine AW.seq ?_
  refine AW.region ?_
  refine AO.opB (O.box rfl rfl rfl rfl rfl) rfl rfl rfl ?_
  intro B1
  refine AO.op (O.assign rfl rfl) rfl rfl rfl ?_
  refine AO.nil ?_
  refine AQ.thenN ?_
  refine AW.seq ?_
  refine AW.region ?_
  refine AO.op (O.fieldAddr rfl rfl) rfl rfl rfl ?_
  refine AO.op (O.load rfl rfl (by repeat (exact List.Mem.head _)) (by rfl)) rfl rfl rfl ?_
  refine AO.op (O.assign rfl rfl) rfl rfl rfl ?_
  refine AO.nil ?_
  refine AQ.thenN ?_
  refine AW.block ?_
  refine AW.loopK [(1, _), (2, _)] (fun nn E H => ∃ (k : Nat) (id : Int), (k ≤ K) ∧ (id = (next + (k : Int)) % 65536) ∧ nn = K - k ∧ E = [(5, .val (.int .i64 id))] ∧ H = [.blk B1 26 4 [.val (.int .i64 next), roW out, roU used, .val x]]) _ (⟨0, next, by omega, by omega, rfl, rfl, rfl⟩) (by repeat (first | exact envNil | refine envCons rfl ?_)) (by repeat (first | exact envNil | refine envCons rfl ?_)) (by repeat (first | exact subPnil | refine subPcons 0 rfl ?_)) ?_
  rintro nn E H ⟨k, id, hk, hid, rfl, rfl, rfl⟩
  dsimp only [List.cons_append, List.nil_append]
  have hidb : 0 ≤ id ∧ id ≤ 65535 := by omega
  refine AW.seq ?_
  refine AW.block ?_
  refine AW.seq ?_
  refine AW.region ?_
  refine AO.op (O.assign rfl rfl) rfl rfl rfl ?_
  refine AO.nil ?_
  refine AQ.thenN ?_
  refine AW.seq ?_
  refine AW.seq ?_
  refine AW.region ?_
  refine AO.op (O.fieldAddr rfl rfl) rfl rfl rfl ?_
  refine AO.op (O.load rfl rfl (by repeat (exact List.Mem.head _)) (by rfl)) rfl rfl rfl ?_
  refine AO.op (O.lenR rfl rfl) rfl rfl rfl ?_
  refine AO.op (O.move rfl rfl) rfl rfl rfl ?_
  refine AO.nil ?_
  refine AQ.thenN ?_
  refine AW.block ?_
  refine AW.loopK [(1, _), (2, _), (5, _), (17, _), (18, _)] (fun nn E H => ∃ (j : Nat) (b : Bool), (j ≤ used.length) ∧ (b = (used.take j).any (uB peer id)) ∧ nn = used.length - j ∧ E = [(6, .val (.bool b)), (19, .val (.int .i64 (j : Int)))] ∧ H = [.blk B1 26 4 [.val (.int .i64 next), roW out, roU used, .val x]]) _ (⟨0, false, by omega, rfl, rfl, rfl, rfl⟩) (by repeat (first | exact envNil | refine envCons rfl ?_)) (by repeat (first | exact envNil | refine envCons rfl ?_)) (by repeat (first | exact subPnil | refine subPcons 0 rfl ?_)) ?_
  rintro nn E H ⟨j, b, hj, hb, rfl, rfl, rfl⟩
  dsimp only [List.cons_append, List.nil_append]
  refine AW.seq ?_
  refine AW.region ?_
  refine AO.op (O.lss rfl rfl rfl (by rfl)) rfl rfl rfl ?_
  refine AO.nil ?_
  refine AQ.thenN ?_
  refine AW.seq ?_
  refine AW.split rfl (fun h1 => ?_) (fun h1 => ?_) <;> (try simp only [decide_eq_true_eq, decide_eq_false_iff_not, beq_iff_eq, beq_eq_false_iff_ne, bne_iff_ne, bne_eq_false_iff_eq, Bool.not_eq_true', Bool.not_eq_false', Bool.not_eq_true, Bool.not_eq_false, ne_eq, Int.not_lt, Int.not_le, Bool.and_eq_true, Bool.or_eq_true, Bool.or_eq_false_iff, Bool.and_eq_false_imp, strOf_toList, Decidable.not_not] at h1)
  · skip
    have hj' : j < used.length := by omega
    refine AW.skip ?_
    refine AQ.thenN ?_
    refine AW.seq ?_
    refine AW.block ?_
    refine AW.seq ?_
    refine AW.region ?_
    refine AO.op (O.idxR rfl rfl rfl ⟨(by omega), (by omega)⟩) rfl rfl rfl ?_
    refine AO.op (O.loadRK rfl rfl (by exact getU (by omega) (by omega)) (by rfl)) rfl rfl rfl ?_
    refine AO.opB (O.alloc rfl (by (dsimp only [zerosA, List.replicate, List.append, List.flatten, AV.cells, Value.cells, List.toList_toArray, List.map]; done)) (by rfl)) rfl rfl rfl ?_
    intro B2
    (refine AO.store (i := 0) rfl rfl rfl rfl rfl rfl (by rfl) (by rfl) (by rfl) (by (dsimp only [List.set, List.cons_append, List.nil_append, List.take, List.drop]; done)) (by (dsimp only [List.set, List.cons_append, List.nil_append, List.take, List.drop]; done)) ?_)
    refine AO.nil ?_
    refine AQ.thenN ?_
    refine AW.region ?_
    refine AO.op (O.move rfl rfl) rfl rfl rfl ?_
    refine AO.op (O.move rfl rfl) rfl rfl rfl ?_
    refine AO.opG rfl rfl rfl (fun hp => O.fieldAddr rfl rfl) ?_
    refine AO.opG rfl rfl rfl (fun hp => OpW.force 25 rfl (by exact hp) (O.load rfl rfl (by repeat (exact List.Mem.head _)) (by rfl))) ?_
    refine AO.opG rfl rfl rfl (fun hp => O.move rfl rfl) ?_
    refine AO.opG rfl rfl rfl (fun hp => OpW.force 26 rfl (by exact hp) (OpW.force 27 rfl (by exact hp) (O.eql rfl rfl rfl (by rfl)))) ?_
    refine AO.opG rfl rfl rfl (fun hp => OpW.force 28 rfl (by exact hp) (O.move rfl rfl)) ?_
    refine AO.opG rfl rfl rfl (fun hp => O.fieldAddr rfl rfl) ?_
    refine AO.opG rfl rfl rfl (fun hp => OpW.force 30 rfl (by exact hp) (O.load rfl rfl (by repeat (exact List.Mem.head _)) (by rfl))) ?_
    refine AO.opG rfl rfl rfl (fun hp => O.move rfl rfl) ?_
    refine AO.opG rfl rfl rfl (fun hp => OpW.force 31 rfl (by exact hp) (OpW.force 32 rfl (by exact hp) (O.eql rfl rfl rfl (by rfl)))) ?_
    refine AO.opG rfl rfl rfl (fun hp => OpW.force 29 rfl (by exact hp) (O.pickAnd rfl rfl rfl rfl (fun h => by simp_all))) ?_
    refine AO.op (O.pickOr rfl rfl rfl rfl (fun h => by exact congrArg (fun b => !b) h)) rfl rfl rfl ?_
    refine AO.op (O.assign rfl rfl) rfl rfl rfl ?_
    refine AO.nil ?_
    refine AQ.blockN ?_
    refine AQ.thenN ?_
    refine AW.region ?_
    refine AO.op (O.add rfl rfl rfl (by exact wI64 (by omega))) rfl rfl rfl ?_
    refine AO.op (O.move rfl rfl) rfl rfl rfl ?_
    refine AO.nil ?_
    refine AQ.loopKN _ _ _ (by omega) (⟨j + 1, _, by omega, (by rw [any_succ _ Us.none hj', ← hb]), rfl, rfl, rfl⟩) (by repeat (first | exact envNil | refine envCons rfl ?_)) (by repeat (first | exact envNil | refine envCons rfl ?_)) (by repeat (first | exact subPnil | refine subPcons 1 rfl ?_))
  · skip
    obtain rfl : j = used.length := by omega
    rw [List.take_length] at hb
    refine AW.exit ?_
    refine AQ.thenX ?_
    refine AQ.loopX ?_
    refine AQ.blockX rfl ?_
    refine AQ.thenN ?_
    refine AW.seq ?_
    refine AW.seq ?_
    refine AW.region ?_
    refine AO.op (O.fieldAddr rfl rfl) rfl rfl rfl ?_
    refine AO.op (O.load rfl rfl (by repeat (exact List.Mem.head _)) (by rfl)) rfl rfl rfl ?_
    refine AO.op (O.lenR rfl rfl) rfl rfl rfl ?_
    refine AO.op (O.move rfl rfl) rfl rfl rfl ?_
    refine AO.nil ?_
    refine AQ.thenN ?_
    refine AW.block ?_
    refine AW.loopK [(1, _), (2, _), (5, _), (38, _), (39, _)] (fun nn E H => ∃ (j : Nat) (b2 : Bool), (j ≤ out.length) ∧ (b2 = (b || (out.take j).any (wB peer id))) ∧ nn = out.length - j ∧ E = [(6, .val (.bool b2)), (40, .val (.int .i64 (j : Int)))] ∧ H = [.blk B1 26 4 [.val (.int .i64 next), roW out, roU used, .val x]]) _ (⟨0, b, by omega, by simp, rfl, rfl, rfl⟩) (by repeat (first | exact envNil | refine envCons rfl ?_)) (by repeat (first | exact envNil | refine envCons rfl ?_)) (by repeat (first | exact subPnil | refine subPcons 0 rfl ?_)) ?_
    rintro nn E H ⟨j, b2, hj, hb2, rfl, rfl, rfl⟩
    dsimp only [List.cons_append, List.nil_append]
    refine AW.seq ?_
    refine AW.region ?_
    refine AO.op (O.lss rfl rfl rfl (by rfl)) rfl rfl rfl ?_
    refine AO.nil ?_
    refine AQ.thenN ?_
    refine AW.seq ?_
    refine AW.split rfl (fun h2 => ?_) (fun h2 => ?_) <;> (try simp only [decide_eq_true_eq, decide_eq_false_iff_not, beq_iff_eq, beq_eq_false_iff_ne, bne_iff_ne, bne_eq_false_iff_eq, Bool.not_eq_true', Bool.not_eq_false', Bool.not_eq_true, Bool.not_eq_false, ne_eq, Int.not_lt, Int.not_le, Bool.and_eq_true, Bool.or_eq_true, Bool.or_eq_false_iff, Bool.and_eq_false_imp, strOf_toList, Decidable.not_not] at h2)
    · skip
      have hj' : j < out.length := by omega
      refine AW.skip ?_
      refine AQ.thenN ?_
      refine AW.seq ?_
      refine AW.block ?_
      refine AW.seq ?_
      refine AW.region ?_
      refine AO.op (O.idxR rfl rfl rfl ⟨(by omega), (by omega)⟩) rfl rfl rfl ?_
      refine AO.op (O.loadRK rfl rfl (by exact getW (by omega) (by omega)) (by rfl)) rfl rfl rfl ?_
      refine AO.opB (O.alloc rfl (by (dsimp only [zerosA, List.replicate, List.append, List.flatten, AV.cells, Value.cells, List.toList_toArray, List.map]; done)) (by rfl)) rfl rfl rfl ?_
      intro B3
      (refine AO.store (i := 0) rfl rfl rfl rfl rfl rfl (by rfl) (by rfl) (by rfl) (by (dsimp only [List.set, List.cons_append, List.nil_append, List.take, List.drop]; done)) (by (dsimp only [List.set, List.cons_append, List.nil_append, List.take, List.drop]; done)) ?_)
      refine AO.nil ?_
      refine AQ.thenN ?_
      refine AW.region ?_
      refine AO.op (O.move rfl rfl) rfl rfl rfl ?_
      refine AO.op (O.move rfl rfl) rfl rfl rfl ?_
      refine AO.opG rfl rfl rfl (fun hp => O.fieldAddr rfl rfl) ?_
      refine AO.opG rfl rfl rfl (fun hp => OpW.force 46 rfl (by exact hp) (O.load rfl rfl (by repeat (exact List.Mem.head _)) (by rfl))) ?_
      refine AO.opG rfl rfl rfl (fun hp => O.move rfl rfl) ?_
      refine AO.opG rfl rfl rfl (fun hp => OpW.force 47 rfl (by exact hp) (OpW.force 48 rfl (by exact hp) (O.eql rfl rfl rfl (by rfl)))) ?_
      refine AO.opG rfl rfl rfl (fun hp => OpW.force 49 rfl (by exact hp) (O.move rfl rfl)) ?_
      refine AO.opG rfl rfl rfl (fun hp => O.fieldAddr rfl rfl) ?_
      refine AO.opG rfl rfl rfl (fun hp => OpW.force 51 rfl (by exact hp) (O.fieldAddr rfl rfl)) ?_
      refine AO.opG rfl rfl rfl (fun hp => OpW.force 52 rfl (by exact hp) (O.load rfl rfl (by repeat (exact List.Mem.head _)) (by rfl))) ?_
      refine AO.opG rfl rfl rfl (fun hp => O.move rfl rfl) ?_
      refine AO.opG rfl rfl rfl (fun hp => OpW.force 53 rfl (by exact hp) (OpW.force 54 rfl (by exact hp) (O.eql rfl rfl rfl (by rfl)))) ?_
      refine AO.opG rfl rfl rfl (fun hp => OpW.force 50 rfl (by exact hp) (O.pickAnd rfl rfl rfl rfl (fun h => by simp_all))) ?_
      refine AO.op (O.pickOr rfl rfl rfl rfl (fun h => by exact congrArg (fun b => !b) h)) rfl rfl rfl ?_
      refine AO.op (O.assign rfl rfl) rfl rfl rfl ?_
      refine AO.nil ?_
      refine AQ.blockN ?_
      refine AQ.thenN ?_
      refine AW.region ?_
      refine AO.op (O.add rfl rfl rfl (by exact wI64 (by omega))) rfl rfl rfl ?_
      refine AO.op (O.move rfl rfl) rfl rfl rfl ?_
      refine AO.nil ?_
      refine AQ.loopKN _ _ _ (by omega) (⟨j + 1, _, by omega, (by rw [any_succ _ Wt.none hj', ← Bool.or_assoc, ← hb2]), rfl, rfl, rfl⟩) (by repeat (first | exact envNil | refine envCons rfl ?_)) (by repeat (first | exact envNil | refine envCons rfl ?_)) (by repeat (first | exact subPnil | refine subPcons 1 rfl ?_))
    · skip
      obtain rfl : j = out.length := by omega
      rw [List.take_length] at hb2
      have hb3 : b2 = takenB out used peer id := by rw [hb2, hb]; rfl
      refine AW.exit ?_
      refine AQ.thenX ?_
      refine AQ.loopX ?_
      refine AQ.blockX rfl ?_
      refine AQ.thenN ?_
      refine AW.seq ?_
      refine AW.region ?_
      refine AO.op (O.move rfl rfl) rfl rfl rfl ?_
      refine AO.op (O.not rfl rfl (by rfl)) rfl rfl rfl ?_
      refine AO.nil ?_
      refine AQ.thenN ?_
      refine AW.split rfl (fun h3 => ?_) (fun h3 => ?_) <;> (try simp only [decide_eq_true_eq, decide_eq_false_iff_not, beq_iff_eq, beq_eq_false_iff_ne, bne_iff_ne, bne_eq_false_iff_eq, Bool.not_eq_true', Bool.not_eq_false', Bool.not_eq_true, Bool.not_eq_false, ne_eq, Int.not_lt, Int.not_le, Bool.and_eq_true, Bool.or_eq_true, Bool.or_eq_false_iff, Bool.and_eq_false_imp, strOf_toList, Decidable.not_not] at h3)
      · skip
        have : k = K := by
          rcases Nat.lt_or_ge k K with h | h
          · rw [hb3, hid, hK3 k h] at h3; simp at h3
          · omega
        refine AW.seq ?_
        refine AW.region ?_
        refine AO.op (O.move rfl rfl) rfl rfl rfl ?_
        refine AO.op (O.assign rfl rfl) rfl rfl rfl ?_
        refine AO.nil ?_
        refine AQ.thenN ?_
        refine AW.ret ?_
        refine AQ.blockR ?_
        refine AQ.thenR ?_
        refine AQ.loopR ?_
        refine AQ.blockR ?_
        refine AQ.ret1 rfl rfl ⟨_, List.nil_sublist _, .nil⟩ (⟨by rw [hid, this], rfl⟩)
      · skip
        have hlt : k < K := by
          rcases Nat.lt_or_ge k K with h | h
          · exact h
          · obtain rfl : k = K := by omega
            rw [hb3, hid, hK2] at h3; simp at h3
        refine AW.skip ?_
        refine AQ.blockN ?_
        refine AQ.thenN ?_
        refine AW.region ?_
        refine AO.op (O.move rfl rfl) rfl rfl rfl ?_
        refine AO.op (O.add rfl rfl rfl (by exact wI64 (by omega))) rfl rfl rfl ?_
        refine AO.op (O.and_ rfl rfl rfl (andI64 16 (by decide) (by decide) (m := 65536) (by decide) (by omega))) rfl rfl rfl ?_
        refine AO.op (O.assign rfl rfl) rfl rfl rfl ?_
        refine AO.nil ?_
        refine AQ.loopKN _ _ _ (by omega) (⟨k + 1, (id + 1) % 65536, by omega, (by omega), rfl, rfl, rfl⟩) (by repeat (first | exact envNil | refine envCons rfl ?_)) (by repeat (first | exact envNil | refine envCons rfl ?_)) (by repeat (first | exact subPnil | refine subPcons 0 rfl ?_))
set_option maxHeartbeats 4000000 in
theorem rfree_fn (next : Int) (out : List Wt) (used : List Us) (x : Value) (hx : x.oneCell' = true) (peer id : Int) (hl : used.length + out.length ≤ 48) : Sp Try.prog 50 [.agg [.val (.int .i64 next), roW out, roU used, .val x], .val (.int .i64 peer), .val (.int .i64 id)] [] (Is (.val (.bool (!takenB out used peer id)))) := by
  refine Sp.enter Try.func50 rfl _ Try.ntmps50 rfl (fun w0 R0 => ?_)
  refine AW.seq ?_
  refine AW.region ?_
  refine AO.opB (O.box rfl rfl rfl rfl rfl) rfl rfl rfl ?_
  intro B1
  refine AO.op (O.assign rfl rfl) rfl rfl rfl ?_
  refine AO.nil ?_
  refine AQ.thenN ?_
  refine AW.seq ?_
  refine AW.seq ?_
  refine AW.region ?_
  refine AO.op (O.fieldAddr rfl rfl) rfl rfl rfl ?_
  refine AO.op (O.load rfl rfl (by repeat (exact List.Mem.head _)) (by rfl)) rfl rfl rfl ?_
  refine AO.op (O.lenR rfl rfl) rfl rfl rfl ?_
  refine AO.op (O.move rfl rfl) rfl rfl rfl ?_
  refine AO.nil ?_
  refine AQ.thenN ?_
  refine AW.block ?_
  refine AW.loopK [(1, _), (2, _), (3, _), (12, _), (13, _)] (fun nn E H => ∃ (j : Nat), (j ≤ used.length) ∧ ((used.take j).any (uB peer id) = false) ∧ nn = used.length - j ∧ E = [(14, .val (.int .i64 (j : Int)))] ∧ H = [.blk B1 26 4 [.val (.int .i64 next), roW out, roU used, .val x]]) _ (⟨0, by omega, rfl, rfl, rfl, rfl⟩) (by repeat (first | exact envNil | refine envCons rfl ?_)) (by repeat (first | exact envNil | refine envCons rfl ?_)) (by repeat (first | exact subPnil | refine subPcons 0 rfl ?_)) ?_
  rintro nn E H ⟨j, hj, hb, rfl, rfl, rfl⟩
  dsimp only [List.cons_append, List.nil_append]
  refine AW.seq ?_
  refine AW.region ?_
  refine AO.op (O.lss rfl rfl rfl (by rfl)) rfl rfl rfl ?_
  refine AO.nil ?_
  refine AQ.thenN ?_
  refine AW.seq ?_
  refine AW.split rfl (fun h1 => ?_) (fun h1 => ?_) <;> (try simp only [decide_eq_true_eq, decide_eq_false_iff_not, beq_iff_eq, beq_eq_false_iff_ne, bne_iff_ne, bne_eq_false_iff_eq, Bool.not_eq_true', Bool.not_eq_false', Bool.not_eq_true, Bool.not_eq_false, ne_eq, Int.not_lt, Int.not_le, Bool.and_eq_true, Bool.or_eq_true, Bool.or_eq_false_iff, Bool.and_eq_false_imp, strOf_toList, Decidable.not_not] at h1)
  · skip
    have hj' : j < used.length := by omega
    have hs := any_succ (uB peer id) Us.none hj'
    rw [hb, Bool.false_or] at hs
    refine AW.skip ?_
    refine AQ.thenN ?_
    refine AW.seq ?_
    refine AW.block ?_
    refine AW.seq ?_
    refine AW.region ?_
    refine AO.op (O.idxR rfl rfl rfl ⟨(by omega), (by omega)⟩) rfl rfl rfl ?_
    refine AO.op (O.loadRK rfl rfl (by exact getU (by omega) (by omega)) (by rfl)) rfl rfl rfl ?_
    refine AO.opB (O.alloc rfl (by (dsimp only [zerosA, List.replicate, List.append, List.flatten, AV.cells, Value.cells, List.toList_toArray, List.map]; done)) (by rfl)) rfl rfl rfl ?_
    intro B2
    (refine AO.store (i := 0) rfl rfl rfl rfl rfl rfl (by rfl) (by rfl) (by rfl) (by (dsimp only [List.set, List.cons_append, List.nil_append, List.take, List.drop]; done)) (by (dsimp only [List.set, List.cons_append, List.nil_append, List.take, List.drop]; done)) ?_)
    refine AO.nil ?_
    refine AQ.thenN ?_
    refine AW.seq ?_
    refine AW.region ?_
    refine AO.op (O.fieldAddr rfl rfl) rfl rfl rfl ?_
    refine AO.op (O.load rfl rfl (by repeat (exact List.Mem.head _)) (by rfl)) rfl rfl rfl ?_
    refine AO.op (O.move rfl rfl) rfl rfl rfl ?_
    refine AO.op (O.eql rfl rfl rfl (by rfl)) rfl rfl rfl ?_
    refine AO.op (O.move rfl rfl) rfl rfl rfl ?_
    refine AO.opG rfl rfl rfl (fun hp => O.fieldAddr rfl rfl) ?_
    refine AO.opG rfl rfl rfl (fun hp => OpW.force 23 rfl (by exact hp) (O.load rfl rfl (by repeat (exact List.Mem.head _)) (by rfl))) ?_
    refine AO.opG rfl rfl rfl (fun hp => O.move rfl rfl) ?_
    refine AO.opG rfl rfl rfl (fun hp => OpW.force 24 rfl (by exact hp) (OpW.force 25 rfl (by exact hp) (O.eql rfl rfl rfl (by rfl)))) ?_
    refine AO.op (O.pickAnd rfl rfl rfl rfl (fun h => by exact h)) rfl rfl rfl ?_
    refine AO.nil ?_
    refine AQ.thenN ?_
    refine AW.split rfl (fun h27 => ?_) (fun h27 => ?_)
    · skip
      refine AW.seq ?_
      refine AW.region ?_
      refine AO.op (O.assign rfl rfl) rfl rfl rfl ?_
      refine AO.nil ?_
      refine AQ.thenN ?_
      refine AW.ret ?_
      refine AQ.blockR ?_
      refine AQ.thenR ?_
      refine AQ.loopR ?_
      refine AQ.blockR ?_
      refine AQ.thenR ?_
      have : used.any (uB peer id) = true := by
        have h8 : (used.take (j + 1)).any (uB peer id) = true := hs.trans h27
        rw [List.any_eq_true] at h8 ⊢
        obtain ⟨u, hu, h9⟩ := h8
        exact ⟨u, List.mem_of_mem_take hu, h9⟩
      refine AQ.ret1 rfl rfl ⟨_, List.nil_sublist _, .nil⟩ (retD (by rw [takenB, this]; rfl))
    · skip
      refine AW.skip ?_
      refine AQ.blockN ?_
      refine AQ.thenN ?_
      refine AW.region ?_
      refine AO.op (O.add rfl rfl rfl (by exact wI64 (by omega))) rfl rfl rfl ?_
      refine AO.op (O.move rfl rfl) rfl rfl rfl ?_
      refine AO.nil ?_
      refine AQ.loopKN _ _ _ (by omega) (⟨j + 1, by omega, hs.trans h27, rfl, rfl, rfl⟩) (by repeat (first | exact envNil | refine envCons rfl ?_)) (by repeat (first | exact envNil | refine envCons rfl ?_)) (by repeat (first | exact subPnil | refine subPcons 1 rfl ?_))
  · skip
    obtain rfl : j = used.length := by omega
    rw [List.take_length] at hb
    refine AW.exit ?_
    refine AQ.thenX ?_
    refine AQ.loopX ?_
    refine AQ.blockX rfl ?_
    refine AQ.thenN ?_
    refine AW.seq ?_
    refine AW.seq ?_
    refine AW.region ?_
    refine AO.op (O.fieldAddr rfl rfl) rfl rfl rfl ?_
    refine AO.op (O.load rfl rfl (by repeat (exact List.Mem.head _)) (by rfl)) rfl rfl rfl ?_
    refine AO.op (O.lenR rfl rfl) rfl rfl rfl ?_
    refine AO.op (O.move rfl rfl) rfl rfl rfl ?_
    refine AO.nil ?_
    refine AQ.thenN ?_
    refine AW.block ?_
    refine AW.loopK [(1, _), (2, _), (30, _), (31, _)] (fun nn E H => ∃ (j : Nat), (j ≤ out.length) ∧ ((out.take j).any (wB peer id) = false) ∧ nn = out.length - j ∧ E = [(32, .val (.int .i64 (j : Int)))] ∧ H = []) _ (⟨0, by omega, rfl, rfl, rfl, rfl⟩) (by repeat (first | exact envNil | refine envCons rfl ?_)) (by repeat (first | exact envNil | refine envCons rfl ?_)) (by repeat (exact subPnil)) ?_
    rintro nn E H ⟨j, hj, hb2, rfl, rfl, rfl⟩
    dsimp only [List.cons_append, List.nil_append]
    refine AW.seq ?_
    refine AW.region ?_
    refine AO.op (O.lss rfl rfl rfl (by rfl)) rfl rfl rfl ?_
    refine AO.nil ?_
    refine AQ.thenN ?_
    refine AW.seq ?_
    refine AW.split rfl (fun h1 => ?_) (fun h1 => ?_) <;> (try simp only [decide_eq_true_eq, decide_eq_false_iff_not, beq_iff_eq, beq_eq_false_iff_ne, bne_iff_ne, bne_eq_false_iff_eq, Bool.not_eq_true', Bool.not_eq_false', Bool.not_eq_true, Bool.not_eq_false, ne_eq, Int.not_lt, Int.not_le, Bool.and_eq_true, Bool.or_eq_true, Bool.or_eq_false_iff, Bool.and_eq_false_imp, strOf_toList, Decidable.not_not] at h1)
    · skip
      have hj' : j < out.length := by omega
      have hs := any_succ (wB peer id) Wt.none hj'
      rw [hb2, Bool.false_or] at hs
      refine AW.skip ?_
      refine AQ.thenN ?_
      refine AW.seq ?_
      refine AW.block ?_
      refine AW.seq ?_
      refine AW.region ?_
      refine AO.op (O.idxR rfl rfl rfl ⟨(by omega), (by omega)⟩) rfl rfl rfl ?_
      refine AO.op (O.loadRK rfl rfl (by exact getW (by omega) (by omega)) (by rfl)) rfl rfl rfl ?_
      refine AO.opB (O.alloc rfl (by (dsimp only [zerosA, List.replicate, List.append, List.flatten, AV.cells, Value.cells, List.toList_toArray, List.map]; done)) (by rfl)) rfl rfl rfl ?_
      intro B3
      (refine AO.store (i := 0) rfl rfl rfl rfl rfl rfl (by rfl) (by rfl) (by rfl) (by (dsimp only [List.set, List.cons_append, List.nil_append, List.take, List.drop]; done)) (by (dsimp only [List.set, List.cons_append, List.nil_append, List.take, List.drop]; done)) ?_)
      refine AO.nil ?_
      refine AQ.thenN ?_
      refine AW.seq ?_
      refine AW.region ?_
      refine AO.op (O.fieldAddr rfl rfl) rfl rfl rfl ?_
      refine AO.op (O.load rfl rfl (by repeat (exact List.Mem.head _)) (by rfl)) rfl rfl rfl ?_
      refine AO.op (O.move rfl rfl) rfl rfl rfl ?_
      refine AO.op (O.eql rfl rfl rfl (by rfl)) rfl rfl rfl ?_
      refine AO.op (O.move rfl rfl) rfl rfl rfl ?_
      refine AO.opG rfl rfl rfl (fun hp => O.fieldAddr rfl rfl) ?_
      refine AO.opG rfl rfl rfl (fun hp => OpW.force 41 rfl (by exact hp) (O.fieldAddr rfl rfl)) ?_
      refine AO.opG rfl rfl rfl (fun hp => OpW.force 42 rfl (by exact hp) (O.load rfl rfl (by repeat (exact List.Mem.head _)) (by rfl))) ?_
      refine AO.opG rfl rfl rfl (fun hp => O.move rfl rfl) ?_
      refine AO.opG rfl rfl rfl (fun hp => OpW.force 43 rfl (by exact hp) (OpW.force 44 rfl (by exact hp) (O.eql rfl rfl rfl (by rfl)))) ?_
      refine AO.op (O.pickAnd rfl rfl rfl rfl (fun h => by exact h)) rfl rfl rfl ?_
      refine AO.nil ?_
      refine AQ.thenN ?_
      refine AW.split rfl (fun h27 => ?_) (fun h27 => ?_)
      · skip
        refine AW.seq ?_
        refine AW.region ?_
        refine AO.op (O.assign rfl rfl) rfl rfl rfl ?_
        refine AO.nil ?_
        refine AQ.thenN ?_
        refine AW.ret ?_
        refine AQ.blockR ?_
        refine AQ.thenR ?_
        refine AQ.loopR ?_
        refine AQ.blockR ?_
        refine AQ.thenR ?_
        have : out.any (wB peer id) = true := by
          have h8 : (out.take (j + 1)).any (wB peer id) = true := hs.trans h27
          rw [List.any_eq_true] at h8 ⊢
          obtain ⟨u, hu, h9⟩ := h8
          exact ⟨u, List.mem_of_mem_take hu, h9⟩
        refine AQ.ret1 rfl rfl ⟨_, List.nil_sublist _, .nil⟩ (retD (by rw [takenB, this, Bool.or_true]; rfl))
      · skip
        refine AW.skip ?_
        refine AQ.blockN ?_
        refine AQ.thenN ?_
        refine AW.region ?_
        refine AO.op (O.add rfl rfl rfl (by exact wI64 (by omega))) rfl rfl rfl ?_
        refine AO.op (O.move rfl rfl) rfl rfl rfl ?_
        refine AO.nil ?_
        refine AQ.loopKN _ _ _ (by omega) (⟨j + 1, by omega, hs.trans h27, rfl, rfl, rfl⟩) (by repeat (first | exact envNil | refine envCons rfl ?_)) (by repeat (first | exact envNil | refine envCons rfl ?_)) (by repeat (exact subPnil))
    · skip
      obtain rfl : j = out.length := by omega
      rw [List.take_length] at hb2
      refine AW.exit ?_
      refine AQ.thenX ?_
      refine AQ.loopX ?_
      refine AQ.blockX rfl ?_
      refine AQ.thenN ?_
      refine AW.seq ?_
      refine AW.region ?_
      refine AO.op (O.assign rfl rfl) rfl rfl rfl ?_
      refine AO.nil ?_
      refine AQ.thenN ?_
      refine AW.ret ?_
      refine AQ.ret1 rfl rfl ⟨_, List.nil_sublist _, .nil⟩ (retD (by rw [takenB, hb, hb2]; rfl))
end Go.Proofs.Ytdnmilmcdbgppaa.By
