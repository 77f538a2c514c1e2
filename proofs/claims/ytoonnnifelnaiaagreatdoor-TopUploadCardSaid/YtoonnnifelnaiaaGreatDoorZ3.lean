/-
  Texts laid together (part 3): what the statement's walk and plain law need. No condition.
-/
import Derived.WideKeyPair
import Derived.Test.YtoonnnifelnaiaaGreatDoorZ2
namespace Go.Proofs.YtoonnnifelnaiaaGreatDoor.By
open Go.RowKit L A
set_option linter.unusedVariables false
set_option maxRecDepth 20000
set_option linter.unusedSimpArgs false
structure Wt where
 peer : Int
 m : Msg
 due : Int
 sent : Int
 deriving DecidableEq
structure Us where
 peer : Int
 id : Int
 till : Int
 deriving DecidableEq
structure Hd where
 peer : Int
 id : Int
 till : Int
 ans : Bool
 m : Msg
 deriving DecidableEq
structure Ep where
 next : Int
 out : List Wt
 used : List Us
 inn : List Hd
 deriving DecidableEq
def Wt.none : Wt := ⟨0, Msg.none, 0, 0⟩
def Us.none : Us := ⟨0, 0, 0⟩
def Hd.none : Hd := ⟨0, 0, 0, false, Msg.none⟩
def Ep.none : Ep := ⟨0, [], [], []⟩
abbrev cW (w : Wt) : List AV := [.val (.int .i64 w.peer), .val (.int .i64 w.m.ty), .val (.int .i64 w.m.code), .val (.int .i64 w.m.id), roB w.m.tok, roO w.m.opts, roB w.m.pay, .val (.int .i64 w.due), .val (.int .i64 w.sent)]
abbrev cU (u : Us) : List AV := [.val (.int .i64 u.peer), .val (.int .i64 u.id), .val (.int .i64 u.till)]
abbrev cH (h : Hd) : List AV := [.val (.int .i64 h.peer), .val (.int .i64 h.id), .val (.int .i64 h.till), .val (.bool h.ans), .val (.int .i64 h.m.ty), .val (.int .i64 h.m.code), .val (.int .i64 h.m.id), roB h.m.tok, roO h.m.opts, roB h.m.pay]
def cellsW (w : Wt) : List AV := cW w
def cellsU (u : Us) : List AV := cU u
def cellsH (h : Hd) : List AV := cH h
theorem cellsW_len (w : Wt) : (cellsW w).length = 9 := rfl
theorem cellsU_len (w : Us) : (cellsU w).length = 3 := rfl
theorem cellsH_len (w : Hd) : (cellsH w).length = 10 := rfl
def wtsA (l : List Wt) : List AV := l.flatMap cellsW
def ussA (l : List Us) : List AV := l.flatMap cellsU
def hdsA (l : List Hd) : List AV := l.flatMap cellsH
def roW (l : List Wt) : AV := .ro false l.length (wtsA l)
def roU (l : List Us) : AV := .ro false l.length (ussA l)
def roH (l : List Hd) : AV := .ro false l.length (hdsA l)
theorem roW_cells (l : List Wt) : (roW l).cells = [roW l] := rfl
theorem roU_cells (l : List Us) : (roU l).cells = [roU l] := rfl
theorem roH_cells (l : List Hd) : (roH l).cells = [roH l] := rfl
abbrev aggW (w : Wt) : AV := .agg (cW w)
abbrev aggU (u : Us) : AV := .agg (cU u)
abbrev aggH (h : Hd) : AV := .agg (cH h)
abbrev aggE (e : Ep) : AV := .agg [.val (.int .i64 e.next), roW e.out, roU e.used, roH e.inn]
abbrev wt (l : List Wt) (k : Nat) : Wt := l.getD k Wt.none
abbrev us (l : List Us) (k : Nat) : Us := l.getD k Us.none
abbrev hd (l : List Hd) (k : Nat) : Hd := l.getD k Hd.none
@[simp] theorem wtsA_len (l : List Wt) : (wtsA l).length = l.length * 9 := flat_len cellsW_len l
@[simp] theorem ussA_len (l : List Us) : (ussA l).length = l.length * 3 := flat_len cellsU_len l
@[simp] theorem hdsA_len (l : List Hd) : (hdsA l).length = l.length * 10 := flat_len cellsH_len l
theorem wtsA_snoc (a : List Wt) (w : Wt) : wtsA (a ++ [w]) = wtsA a ++ cW w := flat_snoc a w
theorem ussA_snoc (a : List Us) (w : Us) : ussA (a ++ [w]) = ussA a ++ cU w := flat_snoc a w
theorem hdsA_snoc (a : List Hd) (w : Hd) : hdsA (a ++ [w]) = hdsA a ++ cH w := flat_snoc a w
theorem flat_one {α : Type} {f : α → List AV} (h : ∀ a, (f a).all AV.one = true) : ∀ l : List α, (l.flatMap f).all AV.one = true
 | [] => rfl
 | a :: l => by rw [List.flatMap_cons, List.all_append, h a, flat_one h l]; rfl
theorem wtsA_one (l : List Wt) : (wtsA l).all AV.one = true := flat_one (fun _ => rfl) l
theorem getW {l : List Wt} {k : Nat} (h : k < l.length) {j : Nat} (hj : j = k) : ((wtsA l).drop (j * 9)).take 9 = cW (wt l k) := flat_at cellsW_len Wt.none h hj
theorem getU {l : List Us} {k : Nat} (h : k < l.length) {j : Nat} (hj : j = k) : ((ussA l).drop (j * 3)).take 3 = cU (us l k) := flat_at cellsU_len Us.none h hj
theorem getH {l : List Hd} {k : Nat} (h : k < l.length) {j : Nat} (hj : j = k) : ((hdsA l).drop (j * 10)).take 10 = cH (hd l k) := flat_at cellsH_len Hd.none h hj
theorem cellH {l : List Hd} {k c : Nat} (h : k < l.length) (hc : c < 10) {j : Nat} (hj : j = k * 10 + c) : (hdsA l)[j]? = (cellsH (hd l k))[c]? := flat_cell cellsH_len Hd.none h hc hj
/-! ### What is valid -/
abbrev PeerOk (p : Int) : Prop := 0 ≤ p ∧ p ≤ 65536
abbrev IdOk (p : Int) : Prop := 0 ≤ p ∧ p ≤ 65535
abbrev TimeOk (p : Int) : Prop := 0 ≤ p ∧ p ≤ 1073741824
abbrev OkW (w : Wt) : Prop := PeerOk w.peer ∧ w.m.ty = 0 ∧ ValM w.m ∧ 0 ≤ w.due ∧ 1 ≤ w.sent ∧ w.sent ≤ 5
abbrev OkU (u : Us) : Prop := PeerOk u.peer ∧ IdOk u.id ∧ 0 ≤ u.till
abbrev OkH (h : Hd) : Prop := PeerOk h.peer ∧ IdOk h.id ∧ 0 ≤ h.till ∧ (h.ans = true → ValM h.m) ∧ (h.ans = false → h.m = Msg.none)
abbrev kWt (w : Wt) : Int × Int := (w.peer, w.m.id)
abbrev kHd (h : Hd) : Int × Int := (h.peer, h.id)
def ValE (e : Ep) : Prop := IdOk e.next ∧ e.out.length ≤ 16 ∧ e.used.length ≤ 32 ∧ e.inn.length ≤ 16 ∧ (∀ w ∈ e.out, OkW w) ∧ (e.out.map kWt).Nodup ∧ (∀ u ∈ e.used, OkU u) ∧ (∀ h ∈ e.inn, OkH h) ∧ (e.inn.map kHd).Nodup
instance (e : Ep) : Decidable (ValE e) := by unfold ValE; infer_instance
/-- The first k are valid. -/
abbrev WOkTo (l : List Wt) (k : Nat) : Prop := (∀ w ∈ l.take k, OkW w) ∧ ((l.take k).map kWt).Nodup
abbrev HOkTo (l : List Hd) (k : Nat) : Prop := (∀ w ∈ l.take k, OkH w) ∧ ((l.take k).map kHd).Nodup
theorem nodup_snoc {α : Type} [DecidableEq α] {l : List α} {a : α} : (l ++ [a]).Nodup ↔ l.Nodup ∧ a ∉ l := by
 rw [List.nodup_append]
 constructor
 ·rintro ⟨h1, _, h3⟩; exact ⟨h1, fun h => h3 a h a (by simp) rfl⟩
 ·rintro ⟨h1, h2⟩; refine ⟨h1, by simp, fun x hx y hy => ?_⟩
  obtain rfl : y = a := by simpa using hy
  rintro rfl; exact h2 hx
theorem mem_take_snoc {α : Type} (d : α) {l : List α} {k : Nat} (h : k < l.length) (p : α → Prop) : (∀ w ∈ l.take (k + 1), p w) ↔ (∀ w ∈ l.take k, p w) ∧ p (l.getD k d) := by
 rw [take_snoc d h]; constructor
 ·intro hh; exact ⟨fun w hw => hh w (List.mem_append_left _ hw), hh _ (by simp)⟩
 ·rintro ⟨h1, h2⟩ w hw
  rcases List.mem_append.1 hw with hw | hw
  ·exact h1 w hw
  ·obtain rfl : w = _ := by simpa using hw
   exact h2
theorem WOkTo.succ {l : List Wt} {k : Nat} (h : k < l.length) : WOkTo l (k + 1) ↔ WOkTo l k ∧ OkW (wt l k) ∧ kWt (wt l k) ∉ (l.take k).map kWt := by
 refine (and_congr (mem_take_snoc Wt.none h OkW) Iff.rfl).trans ?_
 rw [take_snoc Wt.none h, List.map_append, List.map_singleton, nodup_snoc]
 constructor
 ·rintro ⟨⟨h1, h2⟩, h3, h4⟩; exact ⟨⟨h1, h3⟩, h2, h4⟩
 ·rintro ⟨⟨h1, h3⟩, h2, h4⟩; exact ⟨⟨h1, h2⟩, h3, h4⟩
theorem HOkTo.succ {l : List Hd} {k : Nat} (h : k < l.length) : HOkTo l (k + 1) ↔ HOkTo l k ∧ OkH (hd l k) ∧ kHd (hd l k) ∉ (l.take k).map kHd := by
 refine (and_congr (mem_take_snoc Hd.none h OkH) Iff.rfl).trans ?_
 rw [take_snoc Hd.none h, List.map_append, List.map_singleton, nodup_snoc]
 constructor
 ·rintro ⟨⟨h1, h2⟩, h3, h4⟩; exact ⟨⟨h1, h3⟩, h2, h4⟩
 ·rintro ⟨⟨h1, h3⟩, h2, h4⟩; exact ⟨⟨h1, h2⟩, h3, h4⟩
theorem WOkTo.mono {l : List Wt} {k : Nat} (h : k ≤ l.length) (hh : WOkTo l l.length) : WOkTo l k := by
 rw [WOkTo, List.take_length] at hh
 refine ⟨fun w hw => hh.1 w (List.mem_of_mem_take hw), ?_⟩
 rw [List.map_take]; exact hh.2.sublist (List.take_sublist _ _)
theorem HOkTo.mono {l : List Hd} {k : Nat} (h : k ≤ l.length) (hh : HOkTo l l.length) : HOkTo l k := by
 rw [HOkTo, List.take_length] at hh
 refine ⟨fun w hw => hh.1 w (List.mem_of_mem_take hw), ?_⟩
 rw [List.map_take]; exact hh.2.sublist (List.take_sublist _ _)
/-! ### A map of the keys that were met -/
theorem arr2 : Go.WideMaps.ArrKey Tryz.prog 179 3 2 := ⟨Tryz.underlying179, by kernel_rfl, by kernel_rfl, by kernel_rfl⟩
instance : KeyT Tryz.prog 179 := ⟨Go.Maps.Keyed.of_law arr2.law⟩
instance : ZeroT Tryz.prog 4 (.bool false) := ⟨fun W => by kernel_rfl⟩
theorem keyOf2 {a b : Int} (ha : (Lit.int .i64 a).wf = true) (hb : (Lit.int .i64 b).wf = true) : keyOf Tryz.prog 179 (.agg #[.int .i64 a, .int .i64 b]) = some (key2 a b) :=
 Go.WideMaps.keyOf_pair arr2 Tryz.underlying3 ⟨Tryz.prog.types.size - 1, by kernel_rfl⟩ ha hb
theorem keyA2 {a b : Int} (ha : (Lit.int .i64 a).wf = true) (hb : (Lit.int .i64 b).wf = true) : KeyA Tryz.prog 179 (.agg [.val (.int .i64 a), .val (.int .i64 b)]) (key2 a b) := fun R W v h => by
 obtain ⟨us, rfl, hr⟩ := h.agg_inv
 obtain ⟨u, r, rfl, h1, h2⟩ := hr.uncons
 obtain ⟨u', r', rfl, h3, h4⟩ := h2.uncons
 have : r' = [] := List.eq_nil_of_length_eq_zero h4.1
 subst this
 rw [h1.val_inv, h3.val_inv]
 exact keyOf2 ha hb
def In (z : Int) : Prop := -9223372036854775808 ≤ z ∧ z ≤ 9223372036854775807
theorem key2_inj {a b a' b' : Int} (ha : In a) (hb : In b) (ha' : In a') (hb' : In b') : key2 a b = key2 a' b' ↔ a = a' ∧ b = b' := by
 constructor
 ·intro h
  have h1 := keyOf2 (wfI64 ha) (wfI64 hb)
  have h2 := keyOf2 (wfI64 ha') (wfI64 hb')
  rw [← h] at h2
  have := (Go.Maps.Keyed.of_law arr2.law).inj h1 h2
  simpa using this
 ·rintro ⟨rfl, rfl⟩; rfl
theorem isKey2 (a b : Int) : WideAt.IsKeyLit (key2 a b) := by unfold key2; trivial
abbrev mapK (b : Nat) (M : Ents) : HE := mapHE Tryz.prog 179 4 b M
theorem mGet_same {M : Ents} {k v z : Lit} (hk : WideAt.IsKeyLit k) : mGet (mPut M k v) k z = v := by
 unfold mGet mPut mDel
 rw [List.find?_cons, show ((k, v) : Lit × Lit).1 = k from rfl, WideAt.sameKey_self hk]
theorem mGet_other {M : Ents} {k v z k' : Lit} (hk : WideAt.IsKeyLit k) (hk' : WideAt.IsKeyLit k') (h : k ≠ k') : mGet (mPut M k v) k' z = mGet M k' z := by
 have h1 : k.sameKey k' = false := by
  cases hb : k.sameKey k' with
  | false => rfl
  | true => exact absurd ((WideAt.sameKey_iff hk').1 hb) h
 unfold mGet mPut mDel
 rw [List.find?_cons, show ((k, v) : Lit × Lit).1 = k from rfl, h1, List.find?_filter]
 have e : (fun p : Lit × Lit => decide ((!p.1.sameKey k) = true ∧ p.1.sameKey k' = true)) = fun p => p.1.sameKey k' := by
  funext p
  cases hb : p.1.sameKey k' with
  | false => simp
  | true =>
   have h2 := (WideAt.sameKey_iff hk').1 hb
   have h3 : p.1.sameKey k = false := by
    cases hc : p.1.sameKey k with
    | false => rfl
    | true => exact absurd (((WideAt.sameKey_iff hk).1 hc).symm.trans h2) h
   simp [h3]
 rw [e]
theorem mPut_len (M : Ents) (k v : Lit) : (mPut M k v).length ≤ M.length + 1 := by
 have : (mDel M k).length ≤ M.length := List.length_filter_le _ M
 simp [mPut]; exact this
structure Seen (M : Ents) (ps : List (Int × Int)) : Prop where
 has : ∀ a b, In a → In b → mBool (mGet M (key2 a b) (.bool false)) = decide ((a, b) ∈ ps)
 len : M.length ≤ ps.length
theorem Seen.nil : Seen [] [] := ⟨fun a b _ _ => rfl, Nat.le_refl _⟩
theorem Seen.put {M : Ents} {ps : List (Int × Int)} (h : Seen M ps) {a b : Int} (ha : In a) (hb : In b) : Seen (mPut M (key2 a b) (.bool true)) (ps ++ [(a, b)]) := by
 refine ⟨fun a' b' ha' hb' => ?_, ?_⟩
 ·by_cases he : key2 a b = key2 a' b'
  ·obtain ⟨rfl, rfl⟩ := (key2_inj ha hb ha' hb').1 he
   rw [mGet_same (isKey2 _ _)]; simp [mBool]
  ·rw [mGet_other (isKey2 _ _) (isKey2 _ _) he, h.has a' b' ha' hb']
   refine decide_eq_decide.2 ?_
   rw [List.mem_append]
   constructor
   ·exact .inl
   ·rintro (h1 | h1)
    ·exact h1
    ·have h2 : (a', b') = (a, b) := by simpa using h1
     cases h2
     exact absurd rfl he
 ·have := mPut_len M (key2 a b) (.bool true)
  have := h.len
  rw [List.length_append, List.length_singleton]; omega
end Go.Proofs.YtoonnnifelnaiaaGreatDoor.By

namespace Go.Proofs.YtoonnnifelnaiaaGreatDoor.By
open Go.RowKit L A
set_option linter.unusedVariables false
set_option maxRecDepth 20000
set_option linter.unusedSimpArgs false
attribute [local irreducible] AW AQ AO

end Go.Proofs.YtoonnnifelnaiaaGreatDoor.By

namespace Go.Proofs.YtoonnnifelnaiaaGreatDoor.By
open Go.RowKit L A
set_option linter.unusedVariables false
set_option maxRecDepth 20000
set_option linter.unusedSimpArgs false
attribute [local irreducible] AW AQ AO

theorem clone_fn (l : List UInt8) (hl : l.length ≤ 140737488355328) : Sp Tryz.prog 49 [roB l] [] (Is (roB l)) := by
 refine Sp.enter Tryz.func49 rfl _ Tryz.ntmps49 rfl (fun w0 R0 => ?_)
 refine AW.seq ?_
 refine AW.region ?_
 refine AO.op (O.assign rfl rfl) rfl rfl rfl ?_
 refine AO.nil ?_
 refine AQ.thenN ?_
 refine AW.seq ?_
 refine AW.seq ?_
 refine AW.region ?_
 refine AO.op (O.move rfl rfl) rfl rfl rfl ?_
 refine AO.opN (O.eqlNil rfl rfl rfl) rfl rfl rfl ?_
 rintro _ _ ⟨c, rfl, rfl, hnil⟩
 simp only [List.cons_append, List.nil_append]
 refine AO.nil ?_
 refine AQ.thenN ?_
 refine AW.split rfl (fun h => ?_) (fun h => ?_)
 ·skip
  obtain rfl : l = [] := List.eq_nil_of_length_eq_zero (hnil (by simp [h]))
  refine AW.seq ?_
  refine AW.region ?_
  refine AO.op (O.assign rfl rfl) rfl rfl rfl ?_
  refine AO.nil ?_
  refine AQ.thenN ?_
  refine AW.ret ?_
  refine AQ.thenR ?_
  refine AQ.g ?_
  refine G.nilRo 2 rfl ?_
  refine AQ.u ?_
  refine AQ.ret1 rfl rfl ⟨_, List.nil_sublist _, .nil⟩ (⟨rfl, rfl⟩)
 ·skip
  refine AW.skip ?_
  refine AQ.thenN ?_
  refine AW.seq ?_
  refine AW.region ?_
  refine AO.opRow (O.buildSlice0 rfl) rfl rfl rfl ?_
  intro V hV
  refine AO.op (O.move rfl rfl) rfl rfl rfl ?_
  first | (refine AO.append' (i := 0) rfl rfl rfl rfl (by rfl) (by rfl) rfl rfl rfl (by first | exact SrcA.nil TyD.ax | exact SrcA.ro TyD.ax (by first | rfl | assumption | (simp; done) | (simp; omega)) (Nat.le_of_ble_eq_true rfl) | exact SrcA.blk TyD.ax (by repeat (first | exact List.Mem.head _ | refine List.Mem.tail _ ?_)) (by first | (dsimp only [List.set, List.append, List.cons_append, List.nil_append, roB_cells, roI_cells, roO_cells, splice, ofConst, AV.cells, List.map, List.map_cons, List.map_nil, List.take, List.drop, Nat.zero_add, Nat.add_zero, Nat.reduceAdd, Nat.reduceMul, Nat.zero_mul, Value.cells, List.toList_toArray, zerosA, List.replicate, List.flatten, List.append_nil]; rfl) | (dsimp only [List.set, List.append, List.cons_append, List.nil_append, roB_cells, roI_cells, roO_cells, splice, ofConst, AV.cells, List.map, List.map_cons, List.map_nil, List.take, List.drop, Nat.zero_add, Nat.add_zero, Nat.reduceAdd, Nat.reduceMul, Nat.zero_mul, Value.cells, List.toList_toArray, zerosA, List.replicate, List.flatten, List.append_nil]; done) | rfl) (by first | rfl | (simp; done) | (simp; omega)) | exact SrcA.row TyD.ax (by repeat (first | exact List.Mem.head _ | refine List.Mem.tail _ ?_)) (by first | rfl | (simp; done) | (simp; omega)) | exact SrcA.str TyD.ax (by rfl)) (by first | rfl | assumption | (simp [AV.cells, AV.one, *]; done) | (simp [AV.cells, AV.one, roB, roI, roO, show ∀ k z, (Value.int k z).oneCell' = true from fun _ _ => rfl, show ∀ k, (Value.bool k).oneCell' = true from fun _ => rfl, *]; done) | simp [AV.cells, AV.one, Value.oneCell', *]) (by first | (unfold maxLen; omega) | (unfold maxLen; simp only [List.length_take, List.length_drop, List.length_append, List.length_cons, List.length_nil, List.length_set, Nat.zero_add]; omega)) (by first | omega | (simp only [List.length_take, List.length_drop, List.length_append, List.length_cons, List.length_nil, List.length_set, Nat.zero_add]; omega)) (by first | (dsimp only [List.set, List.append, List.cons_append, List.nil_append, roB_cells, roI_cells, roO_cells, splice, ofConst, AV.cells, List.map, List.map_cons, List.map_nil, List.take, List.drop, Nat.zero_add, Nat.add_zero, Nat.reduceAdd, Nat.reduceMul, Nat.zero_mul, Value.cells, List.toList_toArray, zerosA, List.replicate, List.flatten, List.append_nil]; rfl) | (dsimp only [List.set, List.append, List.cons_append, List.nil_append, roB_cells, roI_cells, roO_cells, splice, ofConst, AV.cells, List.map, List.map_cons, List.map_nil, List.take, List.drop, Nat.zero_add, Nat.add_zero, Nat.reduceAdd, Nat.reduceMul, Nat.zero_mul, Value.cells, List.toList_toArray, zerosA, List.replicate, List.flatten, List.append_nil]; done) | rfl) (fun _ => by first | (dsimp only [List.set]; rfl) | (dsimp only [List.set]; done) | rfl) ?_) | (refine AO.append' (i := 1) rfl rfl rfl rfl (by rfl) (by rfl) rfl rfl rfl (by first | exact SrcA.nil TyD.ax | exact SrcA.ro TyD.ax (by first | rfl | assumption | (simp; done) | (simp; omega)) (Nat.le_of_ble_eq_true rfl) | exact SrcA.blk TyD.ax (by repeat (first | exact List.Mem.head _ | refine List.Mem.tail _ ?_)) (by first | (dsimp only [List.set, List.append, List.cons_append, List.nil_append, roB_cells, roI_cells, roO_cells, splice, ofConst, AV.cells, List.map, List.map_cons, List.map_nil, List.take, List.drop, Nat.zero_add, Nat.add_zero, Nat.reduceAdd, Nat.reduceMul, Nat.zero_mul, Value.cells, List.toList_toArray, zerosA, List.replicate, List.flatten, List.append_nil]; rfl) | (dsimp only [List.set, List.append, List.cons_append, List.nil_append, roB_cells, roI_cells, roO_cells, splice, ofConst, AV.cells, List.map, List.map_cons, List.map_nil, List.take, List.drop, Nat.zero_add, Nat.add_zero, Nat.reduceAdd, Nat.reduceMul, Nat.zero_mul, Value.cells, List.toList_toArray, zerosA, List.replicate, List.flatten, List.append_nil]; done) | rfl) (by first | rfl | (simp; done) | (simp; omega)) | exact SrcA.row TyD.ax (by repeat (first | exact List.Mem.head _ | refine List.Mem.tail _ ?_)) (by first | rfl | (simp; done) | (simp; omega)) | exact SrcA.str TyD.ax (by rfl)) (by first | rfl | assumption | (simp [AV.cells, AV.one, *]; done) | (simp [AV.cells, AV.one, roB, roI, roO, show ∀ k z, (Value.int k z).oneCell' = true from fun _ _ => rfl, show ∀ k, (Value.bool k).oneCell' = true from fun _ => rfl, *]; done) | simp [AV.cells, AV.one, Value.oneCell', *]) (by first | (unfold maxLen; omega) | (unfold maxLen; simp only [List.length_take, List.length_drop, List.length_append, List.length_cons, List.length_nil, List.length_set, Nat.zero_add]; omega)) (by first | omega | (simp only [List.length_take, List.length_drop, List.length_append, List.length_cons, List.length_nil, List.length_set, Nat.zero_add]; omega)) (by first | (dsimp only [List.set, List.append, List.cons_append, List.nil_append, roB_cells, roI_cells, roO_cells, splice, ofConst, AV.cells, List.map, List.map_cons, List.map_nil, List.take, List.drop, Nat.zero_add, Nat.add_zero, Nat.reduceAdd, Nat.reduceMul, Nat.zero_mul, Value.cells, List.toList_toArray, zerosA, List.replicate, List.flatten, List.append_nil]; rfl) | (dsimp only [List.set, List.append, List.cons_append, List.nil_append, roB_cells, roI_cells, roO_cells, splice, ofConst, AV.cells, List.map, List.map_cons, List.map_nil, List.take, List.drop, Nat.zero_add, Nat.add_zero, Nat.reduceAdd, Nat.reduceMul, Nat.zero_mul, Value.cells, List.toList_toArray, zerosA, List.replicate, List.flatten, List.append_nil]; done) | rfl) (fun _ => by first | (dsimp only [List.set]; rfl) | (dsimp only [List.set]; done) | rfl) ?_) | (refine AO.append' (i := 2) rfl rfl rfl rfl (by rfl) (by rfl) rfl rfl rfl (by first | exact SrcA.nil TyD.ax | exact SrcA.ro TyD.ax (by first | rfl | assumption | (simp; done) | (simp; omega)) (Nat.le_of_ble_eq_true rfl) | exact SrcA.blk TyD.ax (by repeat (first | exact List.Mem.head _ | refine List.Mem.tail _ ?_)) (by first | (dsimp only [List.set, List.append, List.cons_append, List.nil_append, roB_cells, roI_cells, roO_cells, splice, ofConst, AV.cells, List.map, List.map_cons, List.map_nil, List.take, List.drop, Nat.zero_add, Nat.add_zero, Nat.reduceAdd, Nat.reduceMul, Nat.zero_mul, Value.cells, List.toList_toArray, zerosA, List.replicate, List.flatten, List.append_nil]; rfl) | (dsimp only [List.set, List.append, List.cons_append, List.nil_append, roB_cells, roI_cells, roO_cells, splice, ofConst, AV.cells, List.map, List.map_cons, List.map_nil, List.take, List.drop, Nat.zero_add, Nat.add_zero, Nat.reduceAdd, Nat.reduceMul, Nat.zero_mul, Value.cells, List.toList_toArray, zerosA, List.replicate, List.flatten, List.append_nil]; done) | rfl) (by first | rfl | (simp; done) | (simp; omega)) | exact SrcA.row TyD.ax (by repeat (first | exact List.Mem.head _ | refine List.Mem.tail _ ?_)) (by first | rfl | (simp; done) | (simp; omega)) | exact SrcA.str TyD.ax (by rfl)) (by first | rfl | assumption | (simp [AV.cells, AV.one, *]; done) | (simp [AV.cells, AV.one, roB, roI, roO, show ∀ k z, (Value.int k z).oneCell' = true from fun _ _ => rfl, show ∀ k, (Value.bool k).oneCell' = true from fun _ => rfl, *]; done) | simp [AV.cells, AV.one, Value.oneCell', *]) (by first | (unfold maxLen; omega) | (unfold maxLen; simp only [List.length_take, List.length_drop, List.length_append, List.length_cons, List.length_nil, List.length_set, Nat.zero_add]; omega)) (by first | omega | (simp only [List.length_take, List.length_drop, List.length_append, List.length_cons, List.length_nil, List.length_set, Nat.zero_add]; omega)) (by first | (dsimp only [List.set, List.append, List.cons_append, List.nil_append, roB_cells, roI_cells, roO_cells, splice, ofConst, AV.cells, List.map, List.map_cons, List.map_nil, List.take, List.drop, Nat.zero_add, Nat.add_zero, Nat.reduceAdd, Nat.reduceMul, Nat.zero_mul, Value.cells, List.toList_toArray, zerosA, List.replicate, List.flatten, List.append_nil]; rfl) | (dsimp only [List.set, List.append, List.cons_append, List.nil_append, roB_cells, roI_cells, roO_cells, splice, ofConst, AV.cells, List.map, List.map_cons, List.map_nil, List.take, List.drop, Nat.zero_add, Nat.add_zero, Nat.reduceAdd, Nat.reduceMul, Nat.zero_mul, Value.cells, List.toList_toArray, zerosA, List.replicate, List.flatten, List.append_nil]; done) | rfl) (fun _ => by first | (dsimp only [List.set]; rfl) | (dsimp only [List.set]; done) | rfl) ?_) | (refine AO.append' (i := 3) rfl rfl rfl rfl (by rfl) (by rfl) rfl rfl rfl (by first | exact SrcA.nil TyD.ax | exact SrcA.ro TyD.ax (by first | rfl | assumption | (simp; done) | (simp; omega)) (Nat.le_of_ble_eq_true rfl) | exact SrcA.blk TyD.ax (by repeat (first | exact List.Mem.head _ | refine List.Mem.tail _ ?_)) (by first | (dsimp only [List.set, List.append, List.cons_append, List.nil_append, roB_cells, roI_cells, roO_cells, splice, ofConst, AV.cells, List.map, List.map_cons, List.map_nil, List.take, List.drop, Nat.zero_add, Nat.add_zero, Nat.reduceAdd, Nat.reduceMul, Nat.zero_mul, Value.cells, List.toList_toArray, zerosA, List.replicate, List.flatten, List.append_nil]; rfl) | (dsimp only [List.set, List.append, List.cons_append, List.nil_append, roB_cells, roI_cells, roO_cells, splice, ofConst, AV.cells, List.map, List.map_cons, List.map_nil, List.take, List.drop, Nat.zero_add, Nat.add_zero, Nat.reduceAdd, Nat.reduceMul, Nat.zero_mul, Value.cells, List.toList_toArray, zerosA, List.replicate, List.flatten, List.append_nil]; done) | rfl) (by first | rfl | (simp; done) | (simp; omega)) | exact SrcA.row TyD.ax (by repeat (first | exact List.Mem.head _ | refine List.Mem.tail _ ?_)) (by first | rfl | (simp; done) | (simp; omega)) | exact SrcA.str TyD.ax (by rfl)) (by first | rfl | assumption | (simp [AV.cells, AV.one, *]; done) | (simp [AV.cells, AV.one, roB, roI, roO, show ∀ k z, (Value.int k z).oneCell' = true from fun _ _ => rfl, show ∀ k, (Value.bool k).oneCell' = true from fun _ => rfl, *]; done) | simp [AV.cells, AV.one, Value.oneCell', *]) (by first | (unfold maxLen; omega) | (unfold maxLen; simp only [List.length_take, List.length_drop, List.length_append, List.length_cons, List.length_nil, List.length_set, Nat.zero_add]; omega)) (by first | omega | (simp only [List.length_take, List.length_drop, List.length_append, List.length_cons, List.length_nil, List.length_set, Nat.zero_add]; omega)) (by first | (dsimp only [List.set, List.append, List.cons_append, List.nil_append, roB_cells, roI_cells, roO_cells, splice, ofConst, AV.cells, List.map, List.map_cons, List.map_nil, List.take, List.drop, Nat.zero_add, Nat.add_zero, Nat.reduceAdd, Nat.reduceMul, Nat.zero_mul, Value.cells, List.toList_toArray, zerosA, List.replicate, List.flatten, List.append_nil]; rfl) | (dsimp only [List.set, List.append, List.cons_append, List.nil_append, roB_cells, roI_cells, roO_cells, splice, ofConst, AV.cells, List.map, List.map_cons, List.map_nil, List.take, List.drop, Nat.zero_add, Nat.add_zero, Nat.reduceAdd, Nat.reduceMul, Nat.zero_mul, Value.cells, List.toList_toArray, zerosA, List.replicate, List.flatten, List.append_nil]; done) | rfl) (fun _ => by first | (dsimp only [List.set]; rfl) | (dsimp only [List.set]; done) | rfl) ?_) | (refine AO.append' (i := 4) rfl rfl rfl rfl (by rfl) (by rfl) rfl rfl rfl (by first | exact SrcA.nil TyD.ax | exact SrcA.ro TyD.ax (by first | rfl | assumption | (simp; done) | (simp; omega)) (Nat.le_of_ble_eq_true rfl) | exact SrcA.blk TyD.ax (by repeat (first | exact List.Mem.head _ | refine List.Mem.tail _ ?_)) (by first | (dsimp only [List.set, List.append, List.cons_append, List.nil_append, roB_cells, roI_cells, roO_cells, splice, ofConst, AV.cells, List.map, List.map_cons, List.map_nil, List.take, List.drop, Nat.zero_add, Nat.add_zero, Nat.reduceAdd, Nat.reduceMul, Nat.zero_mul, Value.cells, List.toList_toArray, zerosA, List.replicate, List.flatten, List.append_nil]; rfl) | (dsimp only [List.set, List.append, List.cons_append, List.nil_append, roB_cells, roI_cells, roO_cells, splice, ofConst, AV.cells, List.map, List.map_cons, List.map_nil, List.take, List.drop, Nat.zero_add, Nat.add_zero, Nat.reduceAdd, Nat.reduceMul, Nat.zero_mul, Value.cells, List.toList_toArray, zerosA, List.replicate, List.flatten, List.append_nil]; done) | rfl) (by first | rfl | (simp; done) | (simp; omega)) | exact SrcA.row TyD.ax (by repeat (first | exact List.Mem.head _ | refine List.Mem.tail _ ?_)) (by first | rfl | (simp; done) | (simp; omega)) | exact SrcA.str TyD.ax (by rfl)) (by first | rfl | assumption | (simp [AV.cells, AV.one, *]; done) | (simp [AV.cells, AV.one, roB, roI, roO, show ∀ k z, (Value.int k z).oneCell' = true from fun _ _ => rfl, show ∀ k, (Value.bool k).oneCell' = true from fun _ => rfl, *]; done) | simp [AV.cells, AV.one, Value.oneCell', *]) (by first | (unfold maxLen; omega) | (unfold maxLen; simp only [List.length_take, List.length_drop, List.length_append, List.length_cons, List.length_nil, List.length_set, Nat.zero_add]; omega)) (by first | omega | (simp only [List.length_take, List.length_drop, List.length_append, List.length_cons, List.length_nil, List.length_set, Nat.zero_add]; omega)) (by first | (dsimp only [List.set, List.append, List.cons_append, List.nil_append, roB_cells, roI_cells, roO_cells, splice, ofConst, AV.cells, List.map, List.map_cons, List.map_nil, List.take, List.drop, Nat.zero_add, Nat.add_zero, Nat.reduceAdd, Nat.reduceMul, Nat.zero_mul, Value.cells, List.toList_toArray, zerosA, List.replicate, List.flatten, List.append_nil]; rfl) | (dsimp only [List.set, List.append, List.cons_append, List.nil_append, roB_cells, roI_cells, roO_cells, splice, ofConst, AV.cells, List.map, List.map_cons, List.map_nil, List.take, List.drop, Nat.zero_add, Nat.add_zero, Nat.reduceAdd, Nat.reduceMul, Nat.zero_mul, Value.cells, List.toList_toArray, zerosA, List.replicate, List.flatten, List.append_nil]; done) | rfl) (fun _ => by first | (dsimp only [List.set]; rfl) | (dsimp only [List.set]; done) | rfl) ?_) | (refine AO.append' (i := 5) rfl rfl rfl rfl (by rfl) (by rfl) rfl rfl rfl (by first | exact SrcA.nil TyD.ax | exact SrcA.ro TyD.ax (by first | rfl | assumption | (simp; done) | (simp; omega)) (Nat.le_of_ble_eq_true rfl) | exact SrcA.blk TyD.ax (by repeat (first | exact List.Mem.head _ | refine List.Mem.tail _ ?_)) (by first | (dsimp only [List.set, List.append, List.cons_append, List.nil_append, roB_cells, roI_cells, roO_cells, splice, ofConst, AV.cells, List.map, List.map_cons, List.map_nil, List.take, List.drop, Nat.zero_add, Nat.add_zero, Nat.reduceAdd, Nat.reduceMul, Nat.zero_mul, Value.cells, List.toList_toArray, zerosA, List.replicate, List.flatten, List.append_nil]; rfl) | (dsimp only [List.set, List.append, List.cons_append, List.nil_append, roB_cells, roI_cells, roO_cells, splice, ofConst, AV.cells, List.map, List.map_cons, List.map_nil, List.take, List.drop, Nat.zero_add, Nat.add_zero, Nat.reduceAdd, Nat.reduceMul, Nat.zero_mul, Value.cells, List.toList_toArray, zerosA, List.replicate, List.flatten, List.append_nil]; done) | rfl) (by first | rfl | (simp; done) | (simp; omega)) | exact SrcA.row TyD.ax (by repeat (first | exact List.Mem.head _ | refine List.Mem.tail _ ?_)) (by first | rfl | (simp; done) | (simp; omega)) | exact SrcA.str TyD.ax (by rfl)) (by first | rfl | assumption | (simp [AV.cells, AV.one, *]; done) | (simp [AV.cells, AV.one, roB, roI, roO, show ∀ k z, (Value.int k z).oneCell' = true from fun _ _ => rfl, show ∀ k, (Value.bool k).oneCell' = true from fun _ => rfl, *]; done) | simp [AV.cells, AV.one, Value.oneCell', *]) (by first | (unfold maxLen; omega) | (unfold maxLen; simp only [List.length_take, List.length_drop, List.length_append, List.length_cons, List.length_nil, List.length_set, Nat.zero_add]; omega)) (by first | omega | (simp only [List.length_take, List.length_drop, List.length_append, List.length_cons, List.length_nil, List.length_set, Nat.zero_add]; omega)) (by first | (dsimp only [List.set, List.append, List.cons_append, List.nil_append, roB_cells, roI_cells, roO_cells, splice, ofConst, AV.cells, List.map, List.map_cons, List.map_nil, List.take, List.drop, Nat.zero_add, Nat.add_zero, Nat.reduceAdd, Nat.reduceMul, Nat.zero_mul, Value.cells, List.toList_toArray, zerosA, List.replicate, List.flatten, List.append_nil]; rfl) | (dsimp only [List.set, List.append, List.cons_append, List.nil_append, roB_cells, roI_cells, roO_cells, splice, ofConst, AV.cells, List.map, List.map_cons, List.map_nil, List.take, List.drop, Nat.zero_add, Nat.add_zero, Nat.reduceAdd, Nat.reduceMul, Nat.zero_mul, Value.cells, List.toList_toArray, zerosA, List.replicate, List.flatten, List.append_nil]; done) | rfl) (fun _ => by first | (dsimp only [List.set]; rfl) | (dsimp only [List.set]; done) | rfl) ?_) | (refine AO.append' (i := 6) rfl rfl rfl rfl (by rfl) (by rfl) rfl rfl rfl (by first | exact SrcA.nil TyD.ax | exact SrcA.ro TyD.ax (by first | rfl | assumption | (simp; done) | (simp; omega)) (Nat.le_of_ble_eq_true rfl) | exact SrcA.blk TyD.ax (by repeat (first | exact List.Mem.head _ | refine List.Mem.tail _ ?_)) (by first | (dsimp only [List.set, List.append, List.cons_append, List.nil_append, roB_cells, roI_cells, roO_cells, splice, ofConst, AV.cells, List.map, List.map_cons, List.map_nil, List.take, List.drop, Nat.zero_add, Nat.add_zero, Nat.reduceAdd, Nat.reduceMul, Nat.zero_mul, Value.cells, List.toList_toArray, zerosA, List.replicate, List.flatten, List.append_nil]; rfl) | (dsimp only [List.set, List.append, List.cons_append, List.nil_append, roB_cells, roI_cells, roO_cells, splice, ofConst, AV.cells, List.map, List.map_cons, List.map_nil, List.take, List.drop, Nat.zero_add, Nat.add_zero, Nat.reduceAdd, Nat.reduceMul, Nat.zero_mul, Value.cells, List.toList_toArray, zerosA, List.replicate, List.flatten, List.append_nil]; done) | rfl) (by first | rfl | (simp; done) | (simp; omega)) | exact SrcA.row TyD.ax (by repeat (first | exact List.Mem.head _ | refine List.Mem.tail _ ?_)) (by first | rfl | (simp; done) | (simp; omega)) | exact SrcA.str TyD.ax (by rfl)) (by first | rfl | assumption | (simp [AV.cells, AV.one, *]; done) | (simp [AV.cells, AV.one, roB, roI, roO, show ∀ k z, (Value.int k z).oneCell' = true from fun _ _ => rfl, show ∀ k, (Value.bool k).oneCell' = true from fun _ => rfl, *]; done) | simp [AV.cells, AV.one, Value.oneCell', *]) (by first | (unfold maxLen; omega) | (unfold maxLen; simp only [List.length_take, List.length_drop, List.length_append, List.length_cons, List.length_nil, List.length_set, Nat.zero_add]; omega)) (by first | omega | (simp only [List.length_take, List.length_drop, List.length_append, List.length_cons, List.length_nil, List.length_set, Nat.zero_add]; omega)) (by first | (dsimp only [List.set, List.append, List.cons_append, List.nil_append, roB_cells, roI_cells, roO_cells, splice, ofConst, AV.cells, List.map, List.map_cons, List.map_nil, List.take, List.drop, Nat.zero_add, Nat.add_zero, Nat.reduceAdd, Nat.reduceMul, Nat.zero_mul, Value.cells, List.toList_toArray, zerosA, List.replicate, List.flatten, List.append_nil]; rfl) | (dsimp only [List.set, List.append, List.cons_append, List.nil_append, roB_cells, roI_cells, roO_cells, splice, ofConst, AV.cells, List.map, List.map_cons, List.map_nil, List.take, List.drop, Nat.zero_add, Nat.add_zero, Nat.reduceAdd, Nat.reduceMul, Nat.zero_mul, Value.cells, List.toList_toArray, zerosA, List.replicate, List.flatten, List.append_nil]; done) | rfl) (fun _ => by first | (dsimp only [List.set]; rfl) | (dsimp only [List.set]; done) | rfl) ?_) | (refine AO.append' (i := 7) rfl rfl rfl rfl (by rfl) (by rfl) rfl rfl rfl (by first | exact SrcA.nil TyD.ax | exact SrcA.ro TyD.ax (by first | rfl | assumption | (simp; done) | (simp; omega)) (Nat.le_of_ble_eq_true rfl) | exact SrcA.blk TyD.ax (by repeat (first | exact List.Mem.head _ | refine List.Mem.tail _ ?_)) (by first | (dsimp only [List.set, List.append, List.cons_append, List.nil_append, roB_cells, roI_cells, roO_cells, splice, ofConst, AV.cells, List.map, List.map_cons, List.map_nil, List.take, List.drop, Nat.zero_add, Nat.add_zero, Nat.reduceAdd, Nat.reduceMul, Nat.zero_mul, Value.cells, List.toList_toArray, zerosA, List.replicate, List.flatten, List.append_nil]; rfl) | (dsimp only [List.set, List.append, List.cons_append, List.nil_append, roB_cells, roI_cells, roO_cells, splice, ofConst, AV.cells, List.map, List.map_cons, List.map_nil, List.take, List.drop, Nat.zero_add, Nat.add_zero, Nat.reduceAdd, Nat.reduceMul, Nat.zero_mul, Value.cells, List.toList_toArray, zerosA, List.replicate, List.flatten, List.append_nil]; done) | rfl) (by first | rfl | (simp; done) | (simp; omega)) | exact SrcA.row TyD.ax (by repeat (first | exact List.Mem.head _ | refine List.Mem.tail _ ?_)) (by first | rfl | (simp; done) | (simp; omega)) | exact SrcA.str TyD.ax (by rfl)) (by first | rfl | assumption | (simp [AV.cells, AV.one, *]; done) | (simp [AV.cells, AV.one, roB, roI, roO, show ∀ k z, (Value.int k z).oneCell' = true from fun _ _ => rfl, show ∀ k, (Value.bool k).oneCell' = true from fun _ => rfl, *]; done) | simp [AV.cells, AV.one, Value.oneCell', *]) (by first | (unfold maxLen; omega) | (unfold maxLen; simp only [List.length_take, List.length_drop, List.length_append, List.length_cons, List.length_nil, List.length_set, Nat.zero_add]; omega)) (by first | omega | (simp only [List.length_take, List.length_drop, List.length_append, List.length_cons, List.length_nil, List.length_set, Nat.zero_add]; omega)) (by first | (dsimp only [List.set, List.append, List.cons_append, List.nil_append, roB_cells, roI_cells, roO_cells, splice, ofConst, AV.cells, List.map, List.map_cons, List.map_nil, List.take, List.drop, Nat.zero_add, Nat.add_zero, Nat.reduceAdd, Nat.reduceMul, Nat.zero_mul, Value.cells, List.toList_toArray, zerosA, List.replicate, List.flatten, List.append_nil]; rfl) | (dsimp only [List.set, List.append, List.cons_append, List.nil_append, roB_cells, roI_cells, roO_cells, splice, ofConst, AV.cells, List.map, List.map_cons, List.map_nil, List.take, List.drop, Nat.zero_add, Nat.add_zero, Nat.reduceAdd, Nat.reduceMul, Nat.zero_mul, Value.cells, List.toList_toArray, zerosA, List.replicate, List.flatten, List.append_nil]; done) | rfl) (fun _ => by first | (dsimp only [List.set]; rfl) | (dsimp only [List.set]; done) | rfl) ?_) | (refine AO.append' (i := 8) rfl rfl rfl rfl (by rfl) (by rfl) rfl rfl rfl (by first | exact SrcA.nil TyD.ax | exact SrcA.ro TyD.ax (by first | rfl | assumption | (simp; done) | (simp; omega)) (Nat.le_of_ble_eq_true rfl) | exact SrcA.blk TyD.ax (by repeat (first | exact List.Mem.head _ | refine List.Mem.tail _ ?_)) (by first | (dsimp only [List.set, List.append, List.cons_append, List.nil_append, roB_cells, roI_cells, roO_cells, splice, ofConst, AV.cells, List.map, List.map_cons, List.map_nil, List.take, List.drop, Nat.zero_add, Nat.add_zero, Nat.reduceAdd, Nat.reduceMul, Nat.zero_mul, Value.cells, List.toList_toArray, zerosA, List.replicate, List.flatten, List.append_nil]; rfl) | (dsimp only [List.set, List.append, List.cons_append, List.nil_append, roB_cells, roI_cells, roO_cells, splice, ofConst, AV.cells, List.map, List.map_cons, List.map_nil, List.take, List.drop, Nat.zero_add, Nat.add_zero, Nat.reduceAdd, Nat.reduceMul, Nat.zero_mul, Value.cells, List.toList_toArray, zerosA, List.replicate, List.flatten, List.append_nil]; done) | rfl) (by first | rfl | (simp; done) | (simp; omega)) | exact SrcA.row TyD.ax (by repeat (first | exact List.Mem.head _ | refine List.Mem.tail _ ?_)) (by first | rfl | (simp; done) | (simp; omega)) | exact SrcA.str TyD.ax (by rfl)) (by first | rfl | assumption | (simp [AV.cells, AV.one, *]; done) | (simp [AV.cells, AV.one, roB, roI, roO, show ∀ k z, (Value.int k z).oneCell' = true from fun _ _ => rfl, show ∀ k, (Value.bool k).oneCell' = true from fun _ => rfl, *]; done) | simp [AV.cells, AV.one, Value.oneCell', *]) (by first | (unfold maxLen; omega) | (unfold maxLen; simp only [List.length_take, List.length_drop, List.length_append, List.length_cons, List.length_nil, List.length_set, Nat.zero_add]; omega)) (by first | omega | (simp only [List.length_take, List.length_drop, List.length_append, List.length_cons, List.length_nil, List.length_set, Nat.zero_add]; omega)) (by first | (dsimp only [List.set, List.append, List.cons_append, List.nil_append, roB_cells, roI_cells, roO_cells, splice, ofConst, AV.cells, List.map, List.map_cons, List.map_nil, List.take, List.drop, Nat.zero_add, Nat.add_zero, Nat.reduceAdd, Nat.reduceMul, Nat.zero_mul, Value.cells, List.toList_toArray, zerosA, List.replicate, List.flatten, List.append_nil]; rfl) | (dsimp only [List.set, List.append, List.cons_append, List.nil_append, roB_cells, roI_cells, roO_cells, splice, ofConst, AV.cells, List.map, List.map_cons, List.map_nil, List.take, List.drop, Nat.zero_add, Nat.add_zero, Nat.reduceAdd, Nat.reduceMul, Nat.zero_mul, Value.cells, List.toList_toArray, zerosA, List.replicate, List.flatten, List.append_nil]; done) | rfl) (fun _ => by first | (dsimp only [List.set]; rfl) | (dsimp only [List.set]; done) | rfl) ?_) | (refine AO.append' (i := 9) rfl rfl rfl rfl (by rfl) (by rfl) rfl rfl rfl (by first | exact SrcA.nil TyD.ax | exact SrcA.ro TyD.ax (by first | rfl | assumption | (simp; done) | (simp; omega)) (Nat.le_of_ble_eq_true rfl) | exact SrcA.blk TyD.ax (by repeat (first | exact List.Mem.head _ | refine List.Mem.tail _ ?_)) (by first | (dsimp only [List.set, List.append, List.cons_append, List.nil_append, roB_cells, roI_cells, roO_cells, splice, ofConst, AV.cells, List.map, List.map_cons, List.map_nil, List.take, List.drop, Nat.zero_add, Nat.add_zero, Nat.reduceAdd, Nat.reduceMul, Nat.zero_mul, Value.cells, List.toList_toArray, zerosA, List.replicate, List.flatten, List.append_nil]; rfl) | (dsimp only [List.set, List.append, List.cons_append, List.nil_append, roB_cells, roI_cells, roO_cells, splice, ofConst, AV.cells, List.map, List.map_cons, List.map_nil, List.take, List.drop, Nat.zero_add, Nat.add_zero, Nat.reduceAdd, Nat.reduceMul, Nat.zero_mul, Value.cells, List.toList_toArray, zerosA, List.replicate, List.flatten, List.append_nil]; done) | rfl) (by first | rfl | (simp; done) | (simp; omega)) | exact SrcA.row TyD.ax (by repeat (first | exact List.Mem.head _ | refine List.Mem.tail _ ?_)) (by first | rfl | (simp; done) | (simp; omega)) | exact SrcA.str TyD.ax (by rfl)) (by first | rfl | assumption | (simp [AV.cells, AV.one, *]; done) | (simp [AV.cells, AV.one, roB, roI, roO, show ∀ k z, (Value.int k z).oneCell' = true from fun _ _ => rfl, show ∀ k, (Value.bool k).oneCell' = true from fun _ => rfl, *]; done) | simp [AV.cells, AV.one, Value.oneCell', *]) (by first | (unfold maxLen; omega) | (unfold maxLen; simp only [List.length_take, List.length_drop, List.length_append, List.length_cons, List.length_nil, List.length_set, Nat.zero_add]; omega)) (by first | omega | (simp only [List.length_take, List.length_drop, List.length_append, List.length_cons, List.length_nil, List.length_set, Nat.zero_add]; omega)) (by first | (dsimp only [List.set, List.append, List.cons_append, List.nil_append, roB_cells, roI_cells, roO_cells, splice, ofConst, AV.cells, List.map, List.map_cons, List.map_nil, List.take, List.drop, Nat.zero_add, Nat.add_zero, Nat.reduceAdd, Nat.reduceMul, Nat.zero_mul, Value.cells, List.toList_toArray, zerosA, List.replicate, List.flatten, List.append_nil]; rfl) | (dsimp only [List.set, List.append, List.cons_append, List.nil_append, roB_cells, roI_cells, roO_cells, splice, ofConst, AV.cells, List.map, List.map_cons, List.map_nil, List.take, List.drop, Nat.zero_add, Nat.add_zero, Nat.reduceAdd, Nat.reduceMul, Nat.zero_mul, Value.cells, List.toList_toArray, zerosA, List.replicate, List.flatten, List.append_nil]; done) | rfl) (fun _ => by first | (dsimp only [List.set]; rfl) | (dsimp only [List.set]; done) | rfl) ?_)
  intro V hV
  refine AO.op (O.assign rfl rfl) rfl rfl rfl ?_
  refine AO.nil ?_
  refine AQ.thenN ?_
  refine AW.ret ?_
  refine AQ.g ?_
  first | (refine G.freezeRow 0 rfl [2] (by repeat (first | exact frNil | refine frCons rfl ?_)) ?_) | (refine G.freezeRow 1 rfl [2] (by repeat (first | exact frNil | refine frCons rfl ?_)) ?_) | (refine G.freezeRow 2 rfl [2] (by repeat (first | exact frNil | refine frCons rfl ?_)) ?_) | (refine G.freezeRow 3 rfl [2] (by repeat (first | exact frNil | refine frCons rfl ?_)) ?_) | (refine G.freezeRow 4 rfl [2] (by repeat (first | exact frNil | refine frCons rfl ?_)) ?_)
  refine AQ.u ?_
  dsimp only [List.map, List.eraseIdx, List.cons_append, List.nil_append]
  refine AQ.ret1 rfl rfl ⟨_, List.nil_sublist _, .nil⟩ (⟨by simp [roB], rfl⟩)
def reqB (c : Int) : Bool := decide (1 ≤ c ∧ c ≤ 31)
def respB (c : Int) : Bool := decide (64 ≤ c ∧ c ≤ 95 ∨ 128 ≤ c ∧ c ≤ 191)
def SmM (m : Msg) : Prop := m.tok.length ≤ 140737488355328 ∧ m.pay.length ≤ 140737488355328 ∧ m.opts.length ≤ 1000000 ∧ ∀ o ∈ m.opts, o.val.length ≤ 140737488355328
theorem SmM.at {m : Msg} (h : SmM m) {k : Nat} (hk : k < m.opts.length) : (oat m.opts k).val.length ≤ 140737488355328 := h.2.2.2 _ (getD_mem _ hk)
end Go.Proofs.YtoonnnifelnaiaaGreatDoor.By

namespace Go.Proofs.YtoonnnifelnaiaaGreatDoor.By
open Go.RowKit L A
set_option linter.unusedVariables false
set_option maxRecDepth 20000
set_option linter.unusedSimpArgs false
attribute [local irreducible] AW AQ AO
def replyM (m : Msg) (code : Int) (os : List Opt) (pay : List UInt8) : Msg := ⟨if m.ty = 0 then 2 else 1, code, if m.ty = 0 then m.id else 0, m.tok, os, pay⟩
def replyR (m : Msg) (code : Int) (os : List Opt) (pay : List UInt8) : Msg × Int :=
 if ValM m ∧ reqB m.code = true then (if respB code = true ∧ ValM (replyM m code os pay) then (replyM m code os pay, 0) else (Msg.none, 4)) else (Msg.none, 1)
abbrev resM (r : Msg × Int) : AV := .tup [aggM r.1, .val (.int .i64 r.2)]
end Go.Proofs.YtoonnnifelnaiaaGreatDoor.By

namespace Go.Proofs.YtoonnnifelnaiaaGreatDoor.By
open Go.RowKit L A
set_option linter.unusedVariables false
set_option maxRecDepth 20000
set_option linter.unusedSimpArgs false
attribute [local irreducible] AW AQ AO
theorem and_dec {p q : Prop} [Decidable p] [Decidable q] : (decide p && decide q) = decide (p ∧ q) := by by_cases h : p <;> by_cases g : q <;> simp [h, g]
theorem retD {a b : Bool} (e : a = b) : Is (.val (.bool b)) (.val (.bool a)) [] := ⟨by rw [e], rfl⟩
theorem peerOK_fn (n : Int) : Sp Tryz.prog 52 [.val (.int .i64 n)] [] (Is (.val (.bool (decide (PeerOk n))))) := by
 refine Sp.enter Tryz.func52 rfl _ Tryz.ntmps52 rfl (fun w0 R0 => ?_)
 refine AW.seq ?_
 refine AW.region ?_
 refine AO.op (O.assign rfl rfl) rfl rfl rfl ?_
 refine AO.nil ?_
 refine AQ.thenN ?_
 refine AW.seq ?_
 refine AW.region ?_
 refine AO.op (O.move rfl rfl) rfl rfl rfl ?_
 refine AO.op (O.geq rfl rfl rfl (by first | exact bTrue (by omega) | exact bFalse (by omega) | assumption | rfl)) rfl rfl rfl ?_
 refine AO.op (O.move rfl rfl) rfl rfl rfl ?_
 first | (refine AO.opG rfl rfl rfl (fun hp => O.move rfl rfl) ?_) | (refine AO.op (O.move rfl rfl) rfl rfl rfl ?_) | (refine AO.no rfl rfl rfl ?_)
 first | (refine AO.opG rfl rfl rfl (fun hp => OpW.force 6 rfl (by first | exact hp | simp_all) (O.leq rfl rfl rfl (by first | exact bTrue (by omega) | exact bFalse (by omega) | assumption | rfl))) ?_) | (refine AO.op (O.leq rfl rfl rfl (by first | exact bTrue (by omega) | exact bFalse (by omega) | assumption | rfl)) rfl rfl rfl ?_) | (refine AO.no rfl rfl rfl ?_)
 first | (refine AO.op (O.pickAnd rfl rfl rfl rfl (fun h => by first | exact h | simp_all)) rfl rfl rfl ?_) | (refine AO.op (O.pickF rfl rfl rfl) rfl rfl rfl ?_) | (refine AO.op (O.pickT rfl rfl rfl) rfl rfl rfl ?_)
 refine AO.op (O.assign rfl rfl) rfl rfl rfl ?_
 refine AO.nil ?_
 refine AQ.thenN ?_
 refine AW.ret ?_
 refine AQ.ret1 rfl rfl ⟨_, List.nil_sublist _, .nil⟩ (retD and_dec)
theorem idOK_fn (n : Int) : Sp Tryz.prog 81 [.val (.int .i64 n)] [] (Is (.val (.bool (decide (IdOk n))))) := by
 refine Sp.enter Tryz.func81 rfl _ Tryz.ntmps81 rfl (fun w0 R0 => ?_)
 refine AW.seq ?_
 refine AW.region ?_
 refine AO.op (O.assign rfl rfl) rfl rfl rfl ?_
 refine AO.nil ?_
 refine AQ.thenN ?_
 refine AW.seq ?_
 refine AW.region ?_
 refine AO.op (O.move rfl rfl) rfl rfl rfl ?_
 refine AO.op (O.geq rfl rfl rfl (by first | exact bTrue (by omega) | exact bFalse (by omega) | assumption | rfl)) rfl rfl rfl ?_
 refine AO.op (O.move rfl rfl) rfl rfl rfl ?_
 first | (refine AO.opG rfl rfl rfl (fun hp => O.move rfl rfl) ?_) | (refine AO.op (O.move rfl rfl) rfl rfl rfl ?_) | (refine AO.no rfl rfl rfl ?_)
 first | (refine AO.opG rfl rfl rfl (fun hp => OpW.force 6 rfl (by first | exact hp | simp_all) (O.leq rfl rfl rfl (by first | exact bTrue (by omega) | exact bFalse (by omega) | assumption | rfl))) ?_) | (refine AO.op (O.leq rfl rfl rfl (by first | exact bTrue (by omega) | exact bFalse (by omega) | assumption | rfl)) rfl rfl rfl ?_) | (refine AO.no rfl rfl rfl ?_)
 first | (refine AO.op (O.pickAnd rfl rfl rfl rfl (fun h => by first | exact h | simp_all)) rfl rfl rfl ?_) | (refine AO.op (O.pickF rfl rfl rfl) rfl rfl rfl ?_) | (refine AO.op (O.pickT rfl rfl rfl) rfl rfl rfl ?_)
 refine AO.op (O.assign rfl rfl) rfl rfl rfl ?_
 refine AO.nil ?_
 refine AQ.thenN ?_
 refine AW.ret ?_
 refine AQ.ret1 rfl rfl ⟨_, List.nil_sublist _, .nil⟩ (retD and_dec)
theorem timeOK_fn (n : Int) : Sp Tryz.prog 51 [.val (.int .i64 n)] [] (Is (.val (.bool (decide (TimeOk n))))) := by
 refine Sp.enter Tryz.func51 rfl _ Tryz.ntmps51 rfl (fun w0 R0 => ?_)
 refine AW.seq ?_
 refine AW.region ?_
 refine AO.op (O.assign rfl rfl) rfl rfl rfl ?_
 refine AO.nil ?_
 refine AQ.thenN ?_
 refine AW.seq ?_
 refine AW.region ?_
 refine AO.op (O.move rfl rfl) rfl rfl rfl ?_
 refine AO.op (O.geq rfl rfl rfl (by first | exact bTrue (by omega) | exact bFalse (by omega) | assumption | rfl)) rfl rfl rfl ?_
 refine AO.op (O.move rfl rfl) rfl rfl rfl ?_
 first | (refine AO.opG rfl rfl rfl (fun hp => O.move rfl rfl) ?_) | (refine AO.op (O.move rfl rfl) rfl rfl rfl ?_) | (refine AO.no rfl rfl rfl ?_)
 first | (refine AO.opG rfl rfl rfl (fun hp => OpW.force 6 rfl (by first | exact hp | simp_all) (O.leq rfl rfl rfl (by first | exact bTrue (by omega) | exact bFalse (by omega) | assumption | rfl))) ?_) | (refine AO.op (O.leq rfl rfl rfl (by first | exact bTrue (by omega) | exact bFalse (by omega) | assumption | rfl)) rfl rfl rfl ?_) | (refine AO.no rfl rfl rfl ?_)
 first | (refine AO.op (O.pickAnd rfl rfl rfl rfl (fun h => by first | exact h | simp_all)) rfl rfl rfl ?_) | (refine AO.op (O.pickF rfl rfl rfl) rfl rfl rfl ?_) | (refine AO.op (O.pickT rfl rfl rfl) rfl rfl rfl ?_)
 refine AO.op (O.assign rfl rfl) rfl rfl rfl ?_
 refine AO.nil ?_
 refine AQ.thenN ?_
 refine AW.ret ?_
 refine AQ.ret1 rfl rfl ⟨_, List.nil_sublist _, .nil⟩ (retD and_dec)
def BdM (m : Msg) : Prop := m.tok.length ≤ 140737488355328 ∧ m.opts.length ≤ 140737488355328 ∧ m.pay.length ≤ 140737488355328
theorem isNone (m : Msg) : m = Msg.none ↔ m.ty = 0 ∧ m.code = 0 ∧ m.id = 0 ∧ m.tok.length + m.opts.length + m.pay.length = 0 := by
 obtain ⟨a, b, c, d, e, f⟩ := m
 unfold Msg.none
 simp only [Msg.mk.injEq]
 constructor
 ·rintro ⟨rfl, rfl, rfl, rfl, rfl, rfl⟩; simp
 ·rintro ⟨h1, h2, h3, h4⟩; exact ⟨h1, h2, h3, List.eq_nil_of_length_eq_zero (by omega), List.eq_nil_of_length_eq_zero (by omega), List.eq_nil_of_length_eq_zero (by omega)⟩
theorem zero_fn (m : Msg) (h : BdM m) : Sp Tryz.prog 107 [aggM m] [] (Is (.val (.bool (decide (m = Msg.none))))) := by
 obtain ⟨h1, h2, h3⟩ := h
 refine Sp.enter Tryz.func107 rfl _ Tryz.ntmps107 rfl (fun w0 R0 => ?_)
 refine AW.seq ?_
 refine AW.region ?_
 refine AO.opB (O.box rfl rfl rfl rfl rfl) rfl rfl rfl ?_
 intro B1
 refine AO.op (O.assign rfl rfl) rfl rfl rfl ?_
 refine AO.nil ?_
 refine AQ.thenN ?_
 refine AW.seq ?_
 refine AW.region ?_
 first | (refine AO.op (O.fieldAddrR rfl rfl) rfl rfl rfl ?_) | (refine AO.op (O.fieldAddr rfl rfl) rfl rfl rfl ?_)
 first | (refine AO.op (O.loadR rfl rfl (by first | rfl | assumption)) rfl rfl rfl ?_) | (refine AO.op (O.load rfl rfl (by repeat (first | exact List.Mem.head _ | refine List.Mem.tail _ ?_)) (by first | rfl | assumption)) rfl rfl rfl ?_)
 refine AO.op (O.eql rfl rfl rfl (by first | exact beq_iff_eq.2 (by omega) | exact beq_eq_false_iff_ne.2 (by omega) | assumption | rfl)) rfl rfl rfl ?_
 refine AO.op (O.move rfl rfl) rfl rfl rfl ?_
 first | (refine AO.opG rfl rfl rfl (fun hp => O.fieldAddrR rfl rfl) ?_) | (refine AO.opG rfl rfl rfl (fun hp => O.fieldAddr rfl rfl) ?_) | (refine AO.op (O.fieldAddrR rfl rfl) rfl rfl rfl ?_) | (refine AO.op (O.fieldAddr rfl rfl) rfl rfl rfl ?_) | (refine AO.no rfl rfl rfl ?_)
 first | (refine AO.opG rfl rfl rfl (fun hp => OpW.force 7 rfl (by first | exact hp | simp_all) (O.loadR rfl rfl (by first | rfl | assumption))) ?_) | (refine AO.opG rfl rfl rfl (fun hp => OpW.force 7 rfl (by first | exact hp | simp_all) (O.load rfl rfl (by repeat (first | exact List.Mem.head _ | refine List.Mem.tail _ ?_)) (by first | rfl | assumption))) ?_) | (refine AO.op (O.loadR rfl rfl (by first | rfl | assumption)) rfl rfl rfl ?_) | (refine AO.op (O.load rfl rfl (by repeat (first | exact List.Mem.head _ | refine List.Mem.tail _ ?_)) (by first | rfl | assumption)) rfl rfl rfl ?_) | (refine AO.no rfl rfl rfl ?_)
 first | (refine AO.opG rfl rfl rfl (fun hp => OpW.force 8 rfl (by first | exact hp | simp_all) (O.eql rfl rfl rfl (by first | exact beq_iff_eq.2 (by omega) | exact beq_eq_false_iff_ne.2 (by omega) | assumption | rfl))) ?_) | (refine AO.op (O.eql rfl rfl rfl (by first | exact beq_iff_eq.2 (by omega) | exact beq_eq_false_iff_ne.2 (by omega) | assumption | rfl)) rfl rfl rfl ?_) | (refine AO.no rfl rfl rfl ?_)
 first | (refine AO.op (O.pickAnd rfl rfl rfl rfl (fun h => by first | exact h | simp_all)) rfl rfl rfl ?_) | (refine AO.op (O.pickF rfl rfl rfl) rfl rfl rfl ?_) | (refine AO.op (O.pickT rfl rfl rfl) rfl rfl rfl ?_)
 refine AO.op (O.move rfl rfl) rfl rfl rfl ?_
 first | (refine AO.opG rfl rfl rfl (fun hp => O.fieldAddrR rfl rfl) ?_) | (refine AO.opG rfl rfl rfl (fun hp => O.fieldAddr rfl rfl) ?_) | (refine AO.op (O.fieldAddrR rfl rfl) rfl rfl rfl ?_) | (refine AO.op (O.fieldAddr rfl rfl) rfl rfl rfl ?_) | (refine AO.no rfl rfl rfl ?_)
 first | (refine AO.opG rfl rfl rfl (fun hp => OpW.force 12 rfl (by first | exact hp | simp_all) (O.loadR rfl rfl (by first | rfl | assumption))) ?_) | (refine AO.opG rfl rfl rfl (fun hp => OpW.force 12 rfl (by first | exact hp | simp_all) (O.load rfl rfl (by repeat (first | exact List.Mem.head _ | refine List.Mem.tail _ ?_)) (by first | rfl | assumption))) ?_) | (refine AO.op (O.loadR rfl rfl (by first | rfl | assumption)) rfl rfl rfl ?_) | (refine AO.op (O.load rfl rfl (by repeat (first | exact List.Mem.head _ | refine List.Mem.tail _ ?_)) (by first | rfl | assumption)) rfl rfl rfl ?_) | (refine AO.no rfl rfl rfl ?_)
 first | (refine AO.opG rfl rfl rfl (fun hp => OpW.force 13 rfl (by first | exact hp | simp_all) (O.eql rfl rfl rfl (by first | exact beq_iff_eq.2 (by omega) | exact beq_eq_false_iff_ne.2 (by omega) | assumption | rfl))) ?_) | (refine AO.op (O.eql rfl rfl rfl (by first | exact beq_iff_eq.2 (by omega) | exact beq_eq_false_iff_ne.2 (by omega) | assumption | rfl)) rfl rfl rfl ?_) | (refine AO.no rfl rfl rfl ?_)
 first | (refine AO.op (O.pickAnd rfl rfl rfl rfl (fun h => by first | exact h | simp_all)) rfl rfl rfl ?_) | (refine AO.op (O.pickF rfl rfl rfl) rfl rfl rfl ?_) | (refine AO.op (O.pickT rfl rfl rfl) rfl rfl rfl ?_)
 refine AO.op (O.move rfl rfl) rfl rfl rfl ?_
 first | (refine AO.opG rfl rfl rfl (fun hp => O.fieldAddrR rfl rfl) ?_) | (refine AO.opG rfl rfl rfl (fun hp => O.fieldAddr rfl rfl) ?_) | (refine AO.op (O.fieldAddrR rfl rfl) rfl rfl rfl ?_) | (refine AO.op (O.fieldAddr rfl rfl) rfl rfl rfl ?_) | (refine AO.no rfl rfl rfl ?_)
 first | (refine AO.opG rfl rfl rfl (fun hp => OpW.force 17 rfl (by first | exact hp | simp_all) (O.loadR rfl rfl (by first | rfl | assumption))) ?_) | (refine AO.opG rfl rfl rfl (fun hp => OpW.force 17 rfl (by first | exact hp | simp_all) (O.load rfl rfl (by repeat (first | exact List.Mem.head _ | refine List.Mem.tail _ ?_)) (by first | rfl | assumption))) ?_) | (refine AO.op (O.loadR rfl rfl (by first | rfl | assumption)) rfl rfl rfl ?_) | (refine AO.op (O.load rfl rfl (by repeat (first | exact List.Mem.head _ | refine List.Mem.tail _ ?_)) (by first | rfl | assumption)) rfl rfl rfl ?_) | (refine AO.no rfl rfl rfl ?_)
 first | (refine AO.opG rfl rfl rfl (fun hp => OpW.force 18 rfl (by first | exact hp | simp_all) (O.lenR rfl rfl)) ?_) | (refine AO.opG rfl rfl rfl (fun hp => OpW.force 18 rfl (by first | exact hp | simp_all) (O.lenV rfl rfl)) ?_) | (refine AO.opG rfl rfl rfl (fun hp => OpW.force 18 rfl (by first | exact hp | simp_all) (O.lenRow rfl rfl (by repeat (first | exact List.Mem.head _ | refine List.Mem.tail _ ?_)))) ?_) | (refine AO.opG rfl rfl rfl (fun hp => OpW.force 18 rfl (by first | exact hp | simp_all) (O.lenS rfl rfl)) ?_) | (refine AO.op (O.lenR rfl rfl) rfl rfl rfl ?_) | (refine AO.op (O.lenV rfl rfl) rfl rfl rfl ?_) | (refine AO.op (O.lenRow rfl rfl (by repeat (first | exact List.Mem.head _ | refine List.Mem.tail _ ?_))) rfl rfl rfl ?_) | (refine AO.op (O.lenS rfl rfl) rfl rfl rfl ?_) | (refine AO.no rfl rfl rfl ?_)
 first | (refine AO.opG rfl rfl rfl (fun hp => O.fieldAddrR rfl rfl) ?_) | (refine AO.opG rfl rfl rfl (fun hp => O.fieldAddr rfl rfl) ?_) | (refine AO.op (O.fieldAddrR rfl rfl) rfl rfl rfl ?_) | (refine AO.op (O.fieldAddr rfl rfl) rfl rfl rfl ?_) | (refine AO.no rfl rfl rfl ?_)
 first | (refine AO.opG rfl rfl rfl (fun hp => OpW.force 20 rfl (by first | exact hp | simp_all) (O.loadR rfl rfl (by first | rfl | assumption))) ?_) | (refine AO.opG rfl rfl rfl (fun hp => OpW.force 20 rfl (by first | exact hp | simp_all) (O.load rfl rfl (by repeat (first | exact List.Mem.head _ | refine List.Mem.tail _ ?_)) (by first | rfl | assumption))) ?_) | (refine AO.op (O.loadR rfl rfl (by first | rfl | assumption)) rfl rfl rfl ?_) | (refine AO.op (O.load rfl rfl (by repeat (first | exact List.Mem.head _ | refine List.Mem.tail _ ?_)) (by first | rfl | assumption)) rfl rfl rfl ?_) | (refine AO.no rfl rfl rfl ?_)
 first | (refine AO.opG rfl rfl rfl (fun hp => OpW.force 21 rfl (by first | exact hp | simp_all) (O.lenR rfl rfl)) ?_) | (refine AO.opG rfl rfl rfl (fun hp => OpW.force 21 rfl (by first | exact hp | simp_all) (O.lenV rfl rfl)) ?_) | (refine AO.opG rfl rfl rfl (fun hp => OpW.force 21 rfl (by first | exact hp | simp_all) (O.lenRow rfl rfl (by repeat (first | exact List.Mem.head _ | refine List.Mem.tail _ ?_)))) ?_) | (refine AO.opG rfl rfl rfl (fun hp => OpW.force 21 rfl (by first | exact hp | simp_all) (O.lenS rfl rfl)) ?_) | (refine AO.op (O.lenR rfl rfl) rfl rfl rfl ?_) | (refine AO.op (O.lenV rfl rfl) rfl rfl rfl ?_) | (refine AO.op (O.lenRow rfl rfl (by repeat (first | exact List.Mem.head _ | refine List.Mem.tail _ ?_))) rfl rfl rfl ?_) | (refine AO.op (O.lenS rfl rfl) rfl rfl rfl ?_) | (refine AO.no rfl rfl rfl ?_)
 first | (refine AO.opG rfl rfl rfl (fun hp => OpW.force 19 rfl (by first | exact hp | simp_all) (OpW.force 22 rfl (by first | exact hp | simp_all) (O.add rfl rfl rfl (by first | exact wI64 (by omega) | rfl)))) ?_) | (refine AO.op (O.add rfl rfl rfl (by first | exact wI64 (by omega) | rfl)) rfl rfl rfl ?_) | (refine AO.no rfl rfl rfl ?_)
 first | (refine AO.opG rfl rfl rfl (fun hp => O.fieldAddrR rfl rfl) ?_) | (refine AO.opG rfl rfl rfl (fun hp => O.fieldAddr rfl rfl) ?_) | (refine AO.op (O.fieldAddrR rfl rfl) rfl rfl rfl ?_) | (refine AO.op (O.fieldAddr rfl rfl) rfl rfl rfl ?_) | (refine AO.no rfl rfl rfl ?_)
 first | (refine AO.opG rfl rfl rfl (fun hp => OpW.force 24 rfl (by first | exact hp | simp_all) (O.loadR rfl rfl (by first | rfl | assumption))) ?_) | (refine AO.opG rfl rfl rfl (fun hp => OpW.force 24 rfl (by first | exact hp | simp_all) (O.load rfl rfl (by repeat (first | exact List.Mem.head _ | refine List.Mem.tail _ ?_)) (by first | rfl | assumption))) ?_) | (refine AO.op (O.loadR rfl rfl (by first | rfl | assumption)) rfl rfl rfl ?_) | (refine AO.op (O.load rfl rfl (by repeat (first | exact List.Mem.head _ | refine List.Mem.tail _ ?_)) (by first | rfl | assumption)) rfl rfl rfl ?_) | (refine AO.no rfl rfl rfl ?_)
 first | (refine AO.opG rfl rfl rfl (fun hp => OpW.force 25 rfl (by first | exact hp | simp_all) (O.lenR rfl rfl)) ?_) | (refine AO.opG rfl rfl rfl (fun hp => OpW.force 25 rfl (by first | exact hp | simp_all) (O.lenV rfl rfl)) ?_) | (refine AO.opG rfl rfl rfl (fun hp => OpW.force 25 rfl (by first | exact hp | simp_all) (O.lenRow rfl rfl (by repeat (first | exact List.Mem.head _ | refine List.Mem.tail _ ?_)))) ?_) | (refine AO.opG rfl rfl rfl (fun hp => OpW.force 25 rfl (by first | exact hp | simp_all) (O.lenS rfl rfl)) ?_) | (refine AO.op (O.lenR rfl rfl) rfl rfl rfl ?_) | (refine AO.op (O.lenV rfl rfl) rfl rfl rfl ?_) | (refine AO.op (O.lenRow rfl rfl (by repeat (first | exact List.Mem.head _ | refine List.Mem.tail _ ?_))) rfl rfl rfl ?_) | (refine AO.op (O.lenS rfl rfl) rfl rfl rfl ?_) | (refine AO.no rfl rfl rfl ?_)
 first | (refine AO.opG rfl rfl rfl (fun hp => OpW.force 23 rfl (by first | exact hp | simp_all) (OpW.force 26 rfl (by first | exact hp | simp_all) (O.add rfl rfl rfl (by first | exact wI64 (by omega) | rfl)))) ?_) | (refine AO.op (O.add rfl rfl rfl (by first | exact wI64 (by omega) | rfl)) rfl rfl rfl ?_) | (refine AO.no rfl rfl rfl ?_)
 first | (refine AO.opG rfl rfl rfl (fun hp => OpW.force 27 rfl (by first | exact hp | simp_all) (O.eql rfl rfl rfl (by first | exact beq_iff_eq.2 (by omega) | exact beq_eq_false_iff_ne.2 (by omega) | assumption | rfl))) ?_) | (refine AO.op (O.eql rfl rfl rfl (by first | exact beq_iff_eq.2 (by omega) | exact beq_eq_false_iff_ne.2 (by omega) | assumption | rfl)) rfl rfl rfl ?_) | (refine AO.no rfl rfl rfl ?_)
 first | (refine AO.op (O.pickAnd rfl rfl rfl rfl (fun h => by first | exact h | simp_all)) rfl rfl rfl ?_) | (refine AO.op (O.pickF rfl rfl rfl) rfl rfl rfl ?_) | (refine AO.op (O.pickT rfl rfl rfl) rfl rfl rfl ?_)
 refine AO.op (O.assign rfl rfl) rfl rfl rfl ?_
 refine AO.nil ?_
 refine AQ.thenN ?_
 refine AW.ret ?_
 refine AQ.ret1 rfl rfl ⟨_, List.nil_sublist _, .nil⟩ (retD (by rw [Bool.eq_iff_iff, decide_eq_true_iff, isNone]; simp only [Bool.and_eq_true, beq_iff_eq, and_assoc]; constructor <;> (rintro ⟨a, b, c, d⟩; exact ⟨a, b, c, by omega⟩)))
end Go.Proofs.YtoonnnifelnaiaaGreatDoor.By

namespace Go.Proofs.YtoonnnifelnaiaaGreatDoor.By
open Go.RowKit L A
set_option linter.unusedVariables false
set_option maxRecDepth 20000
set_option linter.unusedSimpArgs false
attribute [local irreducible] AW AQ AO
theorem or_step {p q : Prop} [Decidable p] [Decidable q] {b : Bool} (h : p → b = decide q) : (!decide p || b) = !decide (p ∧ ¬q) := by
 by_cases hp : p
 ·rw [h hp]; by_cases hq : q <;> simp [hp, hq]
 ·simp [hp]
abbrev chW (w : Wt) : Bool := !decide (PeerOk w.peer) || w.m.ty != 0 || !decide (ValM w.m) || decide (w.due < 0) || decide (w.sent < 1) || decide (5 < w.sent)
theorem chW_eq (w : Wt) : chW w = !decide (OkW w) := by
 rw [Bool.eq_iff_iff]
 simp only [chW, Bool.or_eq_true, Bool.not_eq_true', decide_eq_true_eq, decide_eq_false_iff_not, bne_iff_ne, OkW]
 constructor
 ·rintro (((((h | h) | h) | h) | h) | h) ⟨h1, h2, h3, h4, h5, h6⟩
  ·exact h h1
  ·exact h h2
  ·exact h h3
  ·omega
  ·omega
  ·omega
 ·intro h
  by_cases h1 : PeerOk w.peer
  ·by_cases h2 : w.m.ty = 0
   ·by_cases h3 : ValM w.m
    ·by_cases h4 : w.due < 0
     ·exact .inl (.inl (.inr h4))
     ·by_cases h5 : w.sent < 1
      ·exact .inl (.inr h5)
      ·by_cases h6 : 5 < w.sent
       ·exact .inr h6
       ·exact absurd ⟨h1, h2, h3, by omega, by omega, by omega⟩ h
    ·exact .inl (.inl (.inl (.inr h3)))
   ·exact .inl (.inl (.inl (.inl (.inr h2))))
  ·exact .inl (.inl (.inl (.inl (.inl h1))))
theorem ValM.id {m : Msg} (h : ValM m) : 0 ≤ m.id ∧ m.id ≤ 65535 := by
 obtain ⟨⟨-, ⟨h1, h2, -, -⟩, -⟩, -⟩ := h
 exact ⟨h1, h2⟩
theorem OkW.in {w : Wt} (h : OkW w) : In w.peer ∧ In w.m.id := by
 obtain ⟨h1, -, h3, -⟩ := h
 have := ValM.id h3
 unfold In; omega
theorem inW {w : Wt} (h : (bif false then chW w else !chW w) = true) : In w.peer ∧ In w.m.id := by
 rw [cond_false, chW_eq, Bool.not_not, decide_eq_true_eq] at h
 exact OkW.in h
theorem stepW {l : List Wt} {k : Nat} {M : Ents} (hs : Seen M ((l.take k).map kWt)) : (chW (wt l k) || mBool (mGet M (key2 (wt l k).peer (wt l k).m.id) (.bool false))) = !decide (OkW (wt l k) ∧ kWt (wt l k) ∉ (l.take k).map kWt) := by
 rw [chW_eq]
 exact or_step fun h => hs.has _ _ (OkW.in h).1 (OkW.in h).2
theorem waitingOK_fn (l : List Wt) : Sp Tryz.prog 82 [roW l] [] (Is (.val (.bool (decide (l.length ≤ 16 ∧ WOkTo l l.length))))) := by
 refine Sp.enter Tryz.func82 rfl _ Tryz.ntmps82 rfl (fun w0 R0 => ?_)
 refine AW.seq ?_
 refine AW.region ?_
 refine AO.op (O.assign rfl rfl) rfl rfl rfl ?_
 refine AO.nil ?_
 refine AQ.thenN ?_
 refine AW.seq ?_
 refine AW.seq ?_
 refine AW.region ?_
 refine AO.op (O.move rfl rfl) rfl rfl rfl ?_
 refine AO.op (O.lenR rfl rfl) rfl rfl rfl ?_
 refine AO.op (O.gtr rfl rfl rfl (by rfl)) rfl rfl rfl ?_
 refine AO.nil ?_
 refine AQ.thenN ?_
 refine AW.split rfl (fun h => ?_) (fun h => ?_) <;> (try simp only [decide_eq_true_eq, decide_eq_false_iff_not, beq_iff_eq, beq_eq_false_iff_ne, bne_iff_ne, bne_eq_false_iff_eq, Bool.not_eq_true', Bool.not_eq_false', Bool.not_eq_true, Bool.not_eq_false, ne_eq, Int.not_lt, Int.not_le, Bool.and_eq_true, Bool.or_eq_true, Bool.or_eq_false_iff, Bool.and_eq_false_imp, strOf_toList, Decidable.not_not] at h)
 ·skip
  refine AW.seq ?_
  refine AW.region ?_
  refine AO.op (O.assign rfl rfl) rfl rfl rfl ?_
  refine AO.nil ?_
  refine AQ.thenN ?_
  refine AW.ret ?_
  refine AQ.thenR ?_
  refine AQ.ret1 rfl rfl ⟨_, List.nil_sublist _, .nil⟩ (retD (decide_eq_false fun hk => by omega).symm)
 ·skip
  refine AW.skip ?_
  refine AQ.thenN ?_
  refine AW.seq ?_
  refine AW.region ?_
  refine AO.opN (O.makeMap rfl) rfl rfl rfl ?_
  rintro _ _ ⟨B1, rfl, rfl⟩
  simp only [List.cons_append, List.nil_append]
  refine AO.op (O.assign rfl rfl) rfl rfl rfl ?_
  refine AO.nil ?_
  refine AQ.thenN ?_
  refine AW.seq ?_
  refine AW.seq ?_
  refine AW.region ?_
  refine AO.op (O.move rfl rfl) rfl rfl rfl ?_
  refine AO.op (O.lenR rfl rfl) rfl rfl rfl ?_
  refine AO.op (O.move rfl rfl) rfl rfl rfl ?_
  refine AO.nil ?_
  refine AQ.thenN ?_
  refine AW.block ?_
  refine AW.loopK [(3, _), (11, _), (12, _)] (fun nn E H => ∃ (k : Nat) (M : Ents), (k ≤ l.length) ∧ (WOkTo l k) ∧ (Seen M ((l.take k).map kWt)) ∧ nn = l.length - k ∧ E = [(13, .val (.int .i64 (k : Int)))] ∧ H = [mapK B1 M]) _ (⟨0, [], by omega, ⟨by simp, by simp⟩, Seen.nil, rfl, rfl, rfl⟩) (by repeat (first | exact envNil | refine envCons rfl ?_)) (by repeat (first | exact envNil | refine envCons rfl ?_)) (by repeat (first | exact subPnil | refine subPcons 0 rfl ?_)) ?_
  rintro nn E H ⟨k, M, h1, ha, hs, rfl, rfl, rfl⟩
  dsimp only [List.cons_append, List.nil_append]
  have hsl := hs.len
  rw [List.length_map, List.length_take] at hsl
  refine AW.seq ?_
  refine AW.region ?_
  refine AO.op (O.lss rfl rfl rfl (by rfl)) rfl rfl rfl ?_
  refine AO.nil ?_
  refine AQ.thenN ?_
  refine AW.seq ?_
  refine AW.split rfl (fun hlt => ?_) (fun hlt => ?_) <;> (try simp only [decide_eq_true_eq, decide_eq_false_iff_not, beq_iff_eq, beq_eq_false_iff_ne, bne_iff_ne, bne_eq_false_iff_eq, Bool.not_eq_true', Bool.not_eq_false', Bool.not_eq_true, Bool.not_eq_false, ne_eq, Int.not_lt, Int.not_le, Bool.and_eq_true, Bool.or_eq_true, Bool.or_eq_false_iff, Bool.and_eq_false_imp, strOf_toList, Decidable.not_not] at hlt)
  ·skip
   have hk : k < l.length := by omega
   refine AW.skip ?_
   refine AQ.thenN ?_
   refine AW.seq ?_
   refine AW.block ?_
   refine AW.seq ?_
   refine AW.region ?_
   refine AO.op (O.idxR rfl rfl rfl ⟨(by omega), (by omega)⟩) rfl rfl rfl ?_
   refine AO.op (O.loadRK rfl rfl (by exact getW (by omega) (by omega)) (by rfl)) rfl rfl rfl ?_
   refine AO.opB (O.alloc rfl (by (dsimp only [zerosA, List.replicate, List.append, List.flatten, AV.cells, Value.cells, List.toList_toArray, List.map]; done)) (by rfl)) rfl rfl rfl ?_
   intro B2
   (refine AO.store (i := 0) rfl rfl rfl rfl rfl rfl (by rfl) (by rfl) (by rfl) (by (dsimp only [List.set, List.cons_append, List.nil_append, List.take, List.drop]; done)) (by (dsimp only [List.set, List.cons_append, List.nil_append, List.take, List.drop]; done)) ?_)
   refine AO.nil ?_
   refine AQ.thenN ?_
   refine AW.seq ?_
   refine AW.region ?_
   refine AO.op (O.fieldAddr rfl rfl) rfl rfl rfl ?_
   refine AO.op (O.load rfl rfl (by repeat (exact List.Mem.head _)) (by rfl)) rfl rfl rfl ?_
   refine AO.op (O.fieldAddr rfl rfl) rfl rfl rfl ?_
   refine AO.op (O.fieldAddr rfl rfl) rfl rfl rfl ?_
   refine AO.op (O.load rfl rfl (by repeat (exact List.Mem.head _)) (by rfl)) rfl rfl rfl ?_
   refine AO.op (O.build rfl rfl rfl (by rfl)) rfl rfl rfl ?_
   refine AO.opB (O.alloc rfl (by (dsimp only [zerosA, List.replicate, List.append, List.flatten, AV.cells, Value.cells, List.toList_toArray, List.map]; done)) (by rfl)) rfl rfl rfl ?_
   intro B3
   (refine AO.store (i := 0) rfl rfl rfl rfl rfl rfl (by rfl) (by rfl) (by rfl) (by (dsimp only [List.set, List.cons_append, List.nil_append, List.take, List.drop]; done)) (by (dsimp only [List.set, List.cons_append, List.nil_append, List.take, List.drop]; done)) ?_)
   refine AO.nil ?_
   refine AQ.thenN ?_
   refine AW.seq ?_
   refine AW.seq ?_
   refine AW.region ?_
   refine AO.op (O.fieldAddr rfl rfl) rfl rfl rfl ?_
   refine AO.op (O.load rfl rfl (by repeat (first | exact List.Mem.head _ | refine List.Mem.tail _ ?_)) (by rfl)) rfl rfl rfl ?_
   refine AO.op (O.call rfl Tryz.func52 rfl rfl rfl (peerOK_fn _)) rfl rfl rfl ?_
   refine AO.op (O.not rfl rfl (by rfl)) rfl rfl rfl ?_
   refine AO.op (O.move rfl rfl) rfl rfl rfl ?_
   refine AO.opG rfl rfl rfl (fun hp => O.fieldAddr rfl rfl) ?_
   refine AO.opG rfl rfl rfl (fun hp => OpW.force 28 rfl (by exact hp) (O.fieldAddr rfl rfl)) ?_
   refine AO.opG rfl rfl rfl (fun hp => OpW.force 29 rfl (by exact hp) (O.load rfl rfl (by repeat (first | exact List.Mem.head _ | refine List.Mem.tail _ ?_)) (by rfl))) ?_
   refine AO.opG rfl rfl rfl (fun hp => OpW.force 30 rfl (by exact hp) (O.neq rfl rfl rfl (by rfl))) ?_
   refine AO.op (O.pickOr rfl rfl rfl rfl (fun h => by exact congrArg (fun b => !b) h)) rfl rfl rfl ?_
   refine AO.op (O.move rfl rfl) rfl rfl rfl ?_
   refine AO.opG rfl rfl rfl (fun hp => O.fieldAddr rfl rfl) ?_
   refine AO.opG rfl rfl rfl (fun hp => OpW.force 34 rfl (by exact hp) (O.loadK rfl rfl (by repeat (first | exact List.Mem.head _ | refine List.Mem.tail _ ?_)) (by rfl) (by rfl))) ?_
   refine AO.opG rfl rfl rfl (fun hp => OpW.force 35 rfl (by exact hp) (O.call rfl Tryz.func53 rfl rfl rfl (valid_fn (wt l k).m))) ?_
   refine AO.opG rfl rfl rfl (fun hp => OpW.force 36 rfl (by exact hp) (O.not rfl rfl (by rfl))) ?_
   refine AO.op (O.pickOr rfl rfl rfl rfl (fun h => by exact congrArg (fun b => !b) h)) rfl rfl rfl ?_
   refine AO.op (O.move rfl rfl) rfl rfl rfl ?_
   refine AO.opG rfl rfl rfl (fun hp => O.fieldAddr rfl rfl) ?_
   refine AO.opG rfl rfl rfl (fun hp => OpW.force 40 rfl (by exact hp) (O.load rfl rfl (by repeat (first | exact List.Mem.head _ | refine List.Mem.tail _ ?_)) (by rfl))) ?_
   refine AO.opG rfl rfl rfl (fun hp => OpW.force 41 rfl (by exact hp) (O.lss rfl rfl rfl (by rfl))) ?_
   refine AO.op (O.pickOr rfl rfl rfl rfl (fun h => by exact congrArg (fun b => !b) h)) rfl rfl rfl ?_
   refine AO.op (O.move rfl rfl) rfl rfl rfl ?_
   refine AO.opG rfl rfl rfl (fun hp => O.fieldAddr rfl rfl) ?_
   refine AO.opG rfl rfl rfl (fun hp => OpW.force 45 rfl (by exact hp) (O.load rfl rfl (by repeat (first | exact List.Mem.head _ | refine List.Mem.tail _ ?_)) (by rfl))) ?_
   refine AO.opG rfl rfl rfl (fun hp => OpW.force 46 rfl (by exact hp) (O.lss rfl rfl rfl (by rfl))) ?_
   refine AO.op (O.pickOr rfl rfl rfl rfl (fun h => by exact congrArg (fun b => !b) h)) rfl rfl rfl ?_
   refine AO.op (O.move rfl rfl) rfl rfl rfl ?_
   refine AO.opG rfl rfl rfl (fun hp => O.fieldAddr rfl rfl) ?_
   refine AO.opG rfl rfl rfl (fun hp => OpW.force 50 rfl (by exact hp) (O.load rfl rfl (by repeat (first | exact List.Mem.head _ | refine List.Mem.tail _ ?_)) (by rfl))) ?_
   refine AO.opG rfl rfl rfl (fun hp => OpW.force 51 rfl (by exact hp) (O.gtr rfl rfl rfl (by rfl))) ?_
   refine AO.op (O.pickOr rfl rfl rfl rfl (fun h => by exact congrArg (fun b => !b) h)) rfl rfl rfl ?_
   refine AO.op (O.move rfl rfl) rfl rfl rfl ?_
   refine AO.opG rfl rfl rfl (fun hp => O.move rfl rfl) ?_
   refine AO.opG rfl rfl rfl (fun hp => O.loadK rfl rfl (by repeat (exact List.Mem.head _)) (by rfl) (by rfl)) ?_
   refine AO.opG rfl rfl rfl (fun hp => OpW.force 55 rfl (by exact hp) (OpW.force 56 rfl (by exact hp) (O.lookB rfl rfl rfl (by repeat (first | exact List.Mem.head _ | refine List.Mem.tail _ ?_)) (by exact keyA2 (wfI64 (inW hp).1) (wfI64 (inW hp).2))))) ?_
   refine AO.op (O.pickOr rfl rfl rfl rfl (fun h => by exact congrArg (fun b => !b) h)) rfl rfl rfl ?_
   refine AO.nil ?_
   refine AQ.thenN ?_
   rw [show (chW (wt l k) || mBool (mGet M (key2 (wt l k).peer (wt l k).m.id) (.bool false))) = _ from stepW hs]
   refine AW.split rfl (fun h58 => ?_) (fun h58 => ?_) <;> (try simp only [decide_eq_true_eq, decide_eq_false_iff_not, beq_iff_eq, beq_eq_false_iff_ne, bne_iff_ne, bne_eq_false_iff_eq, Bool.not_eq_true', Bool.not_eq_false', Bool.not_eq_true, Bool.not_eq_false, ne_eq, Int.not_lt, Int.not_le, Bool.and_eq_true, Bool.or_eq_true, Bool.or_eq_false_iff, Bool.and_eq_false_imp, strOf_toList, Decidable.not_not] at h58)
   ·skip
    refine AW.seq ?_
    refine AW.region ?_
    refine AO.op (O.assign rfl rfl) rfl rfl rfl ?_
    refine AO.nil ?_
    refine AQ.thenN ?_
    refine AW.ret ?_
    refine AQ.thenR ?_
    refine AQ.blockR ?_
    refine AQ.thenR ?_
    refine AQ.loopR ?_
    refine AQ.blockR ?_
    refine AQ.thenR ?_
    refine AQ.ret1 rfl rfl ⟨_, List.nil_sublist _, .nil⟩ (retD (decide_eq_false fun hh => h58 ((WOkTo.succ hk).1 (WOkTo.mono (by omega) hh.2)).2).symm)
   ·skip
    have hin := OkW.in h58.1
    refine AW.skip ?_
    refine AQ.thenN ?_
    refine AW.region ?_
    refine AO.op (O.move rfl rfl) rfl rfl rfl ?_
    refine AO.op (O.loadK rfl rfl (by repeat (exact List.Mem.head _)) (by rfl) (by rfl)) rfl rfl rfl ?_
    (refine AO.mapPut (i := 2) rfl rfl rfl rfl rfl rfl rfl (by exact keyA2 (wfI64 hin.1) (wfI64 hin.2)) (by exact plainElem_bool TyD.ax _) (by ( unfold maxLen; omega)) (by (dsimp only [List.set, List.cons_append, List.nil_append, List.take, List.drop]; done)) ?_)
    refine AO.nil ?_
    refine AQ.blockN ?_
    refine AQ.thenN ?_
    refine AW.region ?_
    refine AO.op (O.add rfl rfl rfl (by exact wI64 (by omega))) rfl rfl rfl ?_
    refine AO.op (O.move rfl rfl) rfl rfl rfl ?_
    refine AO.nil ?_
    refine AQ.loopKN _ _ _ (by omega) (⟨k + 1, _, by omega, (WOkTo.succ hk).2 ⟨ha, h58⟩, by rw [take_snoc Wt.none hk, List.map_append, List.map_singleton]; exact hs.put hin.1 hin.2, rfl, rfl, rfl⟩) (by repeat (first | exact envNil | refine envCons rfl ?_)) (by repeat (first | exact envNil | refine envCons rfl ?_)) (by repeat (first | exact subPnil | refine subPcons 2 rfl ?_))
  ·skip
   obtain rfl : k = l.length := by omega
   refine AW.exit ?_
   refine AQ.thenX ?_
   refine AQ.loopX ?_
   refine AQ.blockX rfl ?_
   refine AQ.thenN ?_
   refine AW.seq ?_
   refine AW.region ?_
   refine AO.op (O.assign rfl rfl) rfl rfl rfl ?_
   refine AO.nil ?_
   refine AQ.thenN ?_
   refine AW.ret ?_
   refine AQ.ret1 rfl rfl ⟨_, List.nil_sublist _, .nil⟩ (retD (decide_eq_true ⟨by omega, ha⟩).symm)
abbrev chH (h : Hd) : Bool := !decide (PeerOk h.peer) || !decide (IdOk h.id) || decide (h.till < 0)
abbrev OkH0 (h : Hd) : Prop := PeerOk h.peer ∧ IdOk h.id ∧ 0 ≤ h.till
theorem chH_eq (h : Hd) : chH h = !decide (OkH0 h) := by
 rw [Bool.eq_iff_iff]
 simp only [chH, Bool.or_eq_true, Bool.not_eq_true', decide_eq_true_eq, decide_eq_false_iff_not, OkH0]
 constructor
 ·rintro ((h | h) | h) ⟨h1, h2, h3⟩
  ·exact h h1
  ·exact h h2
  ·omega
 ·intro hh
  by_cases h1 : PeerOk h.peer
  ·by_cases h2 : IdOk h.id
   ·by_cases h3 : h.till < 0
    ·exact .inr h3
    ·exact absurd ⟨h1, h2, by omega⟩ hh
   ·exact .inl (.inr h2)
  ·exact .inl (.inl h1)
theorem OkH0.in {h : Hd} (hh : OkH0 h) : In h.peer ∧ In h.id := by
 obtain ⟨h1, h2, -⟩ := hh
 unfold In; omega
theorem inH {h : Hd} (hh : (bif false then chH h else !chH h) = true) : In h.peer ∧ In h.id := by
 rw [cond_false, chH_eq, Bool.not_not, decide_eq_true_eq] at hh
 exact OkH0.in hh
theorem stepH {l : List Hd} {k : Nat} {M : Ents} (hs : Seen M ((l.take k).map kHd)) : (chH (hd l k) || mBool (mGet M (key2 (hd l k).peer (hd l k).id) (.bool false))) = !decide (OkH0 (hd l k) ∧ kHd (hd l k) ∉ (l.take k).map kHd) := by
 rw [chH_eq]
 exact or_step fun h => hs.has _ _ (OkH0.in h).1 (OkH0.in h).2
theorem ansH (h : Hd) : ((h.ans && !decide (ValM h.m)) || (!h.ans && !decide (h.m = Msg.none))) = !decide ((h.ans = true → ValM h.m) ∧ (h.ans = false → h.m = Msg.none)) := by
 by_cases h1 : ValM h.m <;> by_cases h2 : h.m = Msg.none <;> cases h.ans <;> simp [h1, h2]
theorem heardOK_fn (l : List Hd) (hb : ∀ h ∈ l, BdM h.m) : Sp Tryz.prog 83 [roH l] [] (Is (.val (.bool (decide (l.length ≤ 16 ∧ HOkTo l l.length))))) := by
 refine Sp.enter Tryz.func83 rfl _ Tryz.ntmps83 rfl (fun w0 R0 => ?_)
 refine AW.seq ?_
 refine AW.region ?_
 refine AO.op (O.assign rfl rfl) rfl rfl rfl ?_
 refine AO.nil ?_
 refine AQ.thenN ?_
 refine AW.seq ?_
 refine AW.seq ?_
 refine AW.region ?_
 refine AO.op (O.move rfl rfl) rfl rfl rfl ?_
 refine AO.op (O.lenR rfl rfl) rfl rfl rfl ?_
 refine AO.op (O.gtr rfl rfl rfl (by rfl)) rfl rfl rfl ?_
 refine AO.nil ?_
 refine AQ.thenN ?_
 refine AW.split rfl (fun h => ?_) (fun h => ?_) <;> (try simp only [decide_eq_true_eq, decide_eq_false_iff_not, beq_iff_eq, beq_eq_false_iff_ne, bne_iff_ne, bne_eq_false_iff_eq, Bool.not_eq_true', Bool.not_eq_false', Bool.not_eq_true, Bool.not_eq_false, ne_eq, Int.not_lt, Int.not_le, Bool.and_eq_true, Bool.or_eq_true, Bool.or_eq_false_iff, Bool.and_eq_false_imp, strOf_toList, Decidable.not_not] at h)
 ·skip
  refine AW.seq ?_
  refine AW.region ?_
  refine AO.op (O.assign rfl rfl) rfl rfl rfl ?_
  refine AO.nil ?_
  refine AQ.thenN ?_
  refine AW.ret ?_
  refine AQ.thenR ?_
  refine AQ.ret1 rfl rfl ⟨_, List.nil_sublist _, .nil⟩ (retD (decide_eq_false fun hk => by omega).symm)
 ·skip
  refine AW.skip ?_
  refine AQ.thenN ?_
  refine AW.seq ?_
  refine AW.region ?_
  refine AO.opN (O.makeMap rfl) rfl rfl rfl ?_
  rintro _ _ ⟨B1, rfl, rfl⟩
  simp only [List.cons_append, List.nil_append]
  refine AO.op (O.assign rfl rfl) rfl rfl rfl ?_
  refine AO.nil ?_
  refine AQ.thenN ?_
  refine AW.seq ?_
  refine AW.seq ?_
  refine AW.region ?_
  refine AO.op (O.move rfl rfl) rfl rfl rfl ?_
  refine AO.op (O.lenR rfl rfl) rfl rfl rfl ?_
  refine AO.op (O.move rfl rfl) rfl rfl rfl ?_
  refine AO.nil ?_
  refine AQ.thenN ?_
  refine AW.block ?_
  refine AW.loopK [(3, _), (11, _), (12, _)] (fun nn E H => ∃ (k : Nat) (M : Ents), (k ≤ l.length) ∧ (HOkTo l k) ∧ (Seen M ((l.take k).map kHd)) ∧ nn = l.length - k ∧ E = [(13, .val (.int .i64 (k : Int)))] ∧ H = [mapK B1 M]) _ (⟨0, [], by omega, ⟨by simp, by simp⟩, Seen.nil, rfl, rfl, rfl⟩) (by repeat (first | exact envNil | refine envCons rfl ?_)) (by repeat (first | exact envNil | refine envCons rfl ?_)) (by repeat (first | exact subPnil | refine subPcons 0 rfl ?_)) ?_
  rintro nn E H ⟨k, M, h1, ha, hs, rfl, rfl, rfl⟩
  dsimp only [List.cons_append, List.nil_append]
  have hsl := hs.len
  rw [List.length_map, List.length_take] at hsl
  refine AW.seq ?_
  refine AW.region ?_
  refine AO.op (O.lss rfl rfl rfl (by rfl)) rfl rfl rfl ?_
  refine AO.nil ?_
  refine AQ.thenN ?_
  refine AW.seq ?_
  refine AW.split rfl (fun hlt => ?_) (fun hlt => ?_) <;> (try simp only [decide_eq_true_eq, decide_eq_false_iff_not, beq_iff_eq, beq_eq_false_iff_ne, bne_iff_ne, bne_eq_false_iff_eq, Bool.not_eq_true', Bool.not_eq_false', Bool.not_eq_true, Bool.not_eq_false, ne_eq, Int.not_lt, Int.not_le, Bool.and_eq_true, Bool.or_eq_true, Bool.or_eq_false_iff, Bool.and_eq_false_imp, strOf_toList, Decidable.not_not] at hlt)
  ·skip
   have hk : k < l.length := by omega
   have hbd : BdM (hd l k).m := hb _ (getD_mem _ hk)
   refine AW.skip ?_
   refine AQ.thenN ?_
   refine AW.seq ?_
   refine AW.block ?_
   refine AW.seq ?_
   refine AW.region ?_
   refine AO.op (O.idxR rfl rfl rfl ⟨(by omega), (by omega)⟩) rfl rfl rfl ?_
   refine AO.op (O.loadRK rfl rfl (by exact getH (by omega) (by omega)) (by rfl)) rfl rfl rfl ?_
   refine AO.opB (O.alloc rfl (by (dsimp only [zerosA, List.replicate, List.append, List.flatten, AV.cells, Value.cells, List.toList_toArray, List.map]; done)) (by rfl)) rfl rfl rfl ?_
   intro B2
   (refine AO.store (i := 0) rfl rfl rfl rfl rfl rfl (by rfl) (by rfl) (by rfl) (by (dsimp only [List.set, List.cons_append, List.nil_append, List.take, List.drop]; done)) (by (dsimp only [List.set, List.cons_append, List.nil_append, List.take, List.drop]; done)) ?_)
   refine AO.nil ?_
   refine AQ.thenN ?_
   refine AW.seq ?_
   refine AW.region ?_
   refine AO.op (O.fieldAddr rfl rfl) rfl rfl rfl ?_
   refine AO.op (O.load rfl rfl (by repeat (exact List.Mem.head _)) (by rfl)) rfl rfl rfl ?_
   refine AO.op (O.fieldAddr rfl rfl) rfl rfl rfl ?_
   refine AO.op (O.load rfl rfl (by repeat (exact List.Mem.head _)) (by rfl)) rfl rfl rfl ?_
   refine AO.op (O.build rfl rfl rfl (by rfl)) rfl rfl rfl ?_
   refine AO.opB (O.alloc rfl (by (dsimp only [zerosA, List.replicate, List.append, List.flatten, AV.cells, Value.cells, List.toList_toArray, List.map]; done)) (by rfl)) rfl rfl rfl ?_
   intro B3
   (refine AO.store (i := 0) rfl rfl rfl rfl rfl rfl (by rfl) (by rfl) (by rfl) (by (dsimp only [List.set, List.cons_append, List.nil_append, List.take, List.drop]; done)) (by (dsimp only [List.set, List.cons_append, List.nil_append, List.take, List.drop]; done)) ?_)
   refine AO.nil ?_
   refine AQ.thenN ?_
   refine AW.seq ?_
   refine AW.seq ?_
   refine AW.region ?_
   refine AO.op (O.fieldAddr rfl rfl) rfl rfl rfl ?_
   refine AO.op (O.load rfl rfl (by repeat (first | exact List.Mem.head _ | refine List.Mem.tail _ ?_)) (by rfl)) rfl rfl rfl ?_
   refine AO.op (O.call rfl Tryz.func52 rfl rfl rfl (peerOK_fn _)) rfl rfl rfl ?_
   refine AO.op (O.not rfl rfl (by rfl)) rfl rfl rfl ?_
   refine AO.op (O.move rfl rfl) rfl rfl rfl ?_
   refine AO.opG rfl rfl rfl (fun hp => O.fieldAddr rfl rfl) ?_
   refine AO.opG rfl rfl rfl (fun hp => OpW.force 27 rfl (by exact hp) (O.load rfl rfl (by repeat (first | exact List.Mem.head _ | refine List.Mem.tail _ ?_)) (by rfl))) ?_
   refine AO.opG rfl rfl rfl (fun hp => OpW.force 28 rfl (by exact hp) (O.call rfl Tryz.func81 rfl rfl rfl (idOK_fn _))) ?_
   refine AO.opG rfl rfl rfl (fun hp => OpW.force 29 rfl (by exact hp) (O.not rfl rfl (by rfl))) ?_
   refine AO.op (O.pickOr rfl rfl rfl rfl (fun h => by exact congrArg (fun b => !b) h)) rfl rfl rfl ?_
   refine AO.op (O.move rfl rfl) rfl rfl rfl ?_
   refine AO.opG rfl rfl rfl (fun hp => O.fieldAddr rfl rfl) ?_
   refine AO.opG rfl rfl rfl (fun hp => OpW.force 33 rfl (by exact hp) (O.load rfl rfl (by repeat (first | exact List.Mem.head _ | refine List.Mem.tail _ ?_)) (by rfl))) ?_
   refine AO.opG rfl rfl rfl (fun hp => OpW.force 34 rfl (by exact hp) (O.lss rfl rfl rfl (by rfl))) ?_
   refine AO.op (O.pickOr rfl rfl rfl rfl (fun h => by exact congrArg (fun b => !b) h)) rfl rfl rfl ?_
   refine AO.op (O.move rfl rfl) rfl rfl rfl ?_
   refine AO.opG rfl rfl rfl (fun hp => O.move rfl rfl) ?_
   refine AO.opG rfl rfl rfl (fun hp => O.loadK rfl rfl (by repeat (exact List.Mem.head _)) (by rfl) (by rfl)) ?_
   refine AO.opG rfl rfl rfl (fun hp => OpW.force 38 rfl (by exact hp) (OpW.force 39 rfl (by exact hp) (O.lookB rfl rfl rfl (by repeat (first | exact List.Mem.head _ | refine List.Mem.tail _ ?_)) (by exact keyA2 (wfI64 (inH hp).1) (wfI64 (inH hp).2))))) ?_
   refine AO.op (O.pickOr rfl rfl rfl rfl (fun h => by exact congrArg (fun b => !b) h)) rfl rfl rfl ?_
   refine AO.nil ?_
   refine AQ.thenN ?_
   rw [show (chH (hd l k) || mBool (mGet M (key2 (hd l k).peer (hd l k).id) (.bool false))) = _ from stepH hs]
   refine AW.split rfl (fun h58 => ?_) (fun h58 => ?_) <;> (try simp only [decide_eq_true_eq, decide_eq_false_iff_not, beq_iff_eq, beq_eq_false_iff_ne, bne_iff_ne, bne_eq_false_iff_eq, Bool.not_eq_true', Bool.not_eq_false', Bool.not_eq_true, Bool.not_eq_false, ne_eq, Int.not_lt, Int.not_le, Bool.and_eq_true, Bool.or_eq_true, Bool.or_eq_false_iff, Bool.and_eq_false_imp, strOf_toList, Decidable.not_not] at h58)
   ·skip
    refine AW.seq ?_
    refine AW.region ?_
    refine AO.op (O.assign rfl rfl) rfl rfl rfl ?_
    refine AO.nil ?_
    refine AQ.thenN ?_
    refine AW.ret ?_
    refine AQ.thenR ?_
    refine AQ.blockR ?_
    refine AQ.thenR ?_
    refine AQ.loopR ?_
    refine AQ.blockR ?_
    refine AQ.thenR ?_
    refine AQ.ret1 rfl rfl ⟨_, List.nil_sublist _, .nil⟩ (retD (decide_eq_false fun hh => h58 (by have := ((HOkTo.succ hk).1 (HOkTo.mono (by omega) hh.2)).2; exact ⟨⟨this.1.1, this.1.2.1, this.1.2.2.1⟩, this.2⟩)).symm)
   ·skip
    have hin := OkH0.in h58.1
    refine AW.skip ?_
    refine AQ.thenN ?_
    refine AW.seq ?_
    refine AW.seq ?_
    refine AW.region ?_
    refine AO.op (O.fieldAddr rfl rfl) rfl rfl rfl ?_
    refine AO.op (O.load rfl rfl (by repeat (first | exact List.Mem.head _ | refine List.Mem.tail _ ?_)) (by rfl)) rfl rfl rfl ?_
    refine AO.op (O.move rfl rfl) rfl rfl rfl ?_
    refine AO.opG rfl rfl rfl (fun hp => O.fieldAddr rfl rfl) ?_
    refine AO.opG rfl rfl rfl (fun hp => OpW.force 45 rfl (by exact hp) (O.loadK rfl rfl (by repeat (first | exact List.Mem.head _ | refine List.Mem.tail _ ?_)) (by rfl) (by rfl))) ?_
    refine AO.opG rfl rfl rfl (fun hp => OpW.force 46 rfl (by exact hp) (O.call rfl Tryz.func53 rfl rfl rfl (valid_fn (hd l k).m))) ?_
    refine AO.opG rfl rfl rfl (fun hp => OpW.force 47 rfl (by exact hp) (O.not rfl rfl (by rfl))) ?_
    refine AO.op (O.pickAnd rfl rfl rfl rfl (fun h => by exact h)) rfl rfl rfl ?_
    refine AO.op (O.move rfl rfl) rfl rfl rfl ?_
    refine AO.opG rfl rfl rfl (fun hp => O.fieldAddr rfl rfl) ?_
    refine AO.opG rfl rfl rfl (fun hp => OpW.force 51 rfl (by exact hp) (O.load rfl rfl (by repeat (first | exact List.Mem.head _ | refine List.Mem.tail _ ?_)) (by rfl))) ?_
    refine AO.opG rfl rfl rfl (fun hp => OpW.force 52 rfl (by exact hp) (O.not rfl rfl (by rfl))) ?_
    refine AO.opG rfl rfl rfl (fun hp => OpW.force 53 rfl (by exact hp) (O.move rfl rfl)) ?_
    refine AO.opG rfl rfl rfl (fun hp => O.fieldAddr rfl rfl) ?_
    refine AO.opG rfl rfl rfl (fun hp => OpW.force 55 rfl (by exact hp) (O.loadK rfl rfl (by repeat (first | exact List.Mem.head _ | refine List.Mem.tail _ ?_)) (by rfl) (by rfl))) ?_
    refine AO.opG rfl rfl rfl (fun hp => OpW.force 56 rfl (by exact hp) (O.call rfl Tryz.func107 rfl rfl rfl (zero_fn (hd l k).m hbd))) ?_
    refine AO.opG rfl rfl rfl (fun hp => OpW.force 57 rfl (by exact hp) (O.not rfl rfl (by rfl))) ?_
    refine AO.opG rfl rfl rfl (fun hp => OpW.force 54 rfl (by exact hp) (O.pickAnd rfl rfl rfl rfl (fun h => by simp_all))) ?_
    refine AO.op (O.pickOr rfl rfl rfl rfl (fun h => by exact congrArg (fun b => !b) h)) rfl rfl rfl ?_
    refine AO.nil ?_
    refine AQ.thenN ?_
    rw [ansH]
    refine AW.split rfl (fun h60 => ?_) (fun h60 => ?_) <;> (try simp only [decide_eq_true_eq, decide_eq_false_iff_not, beq_iff_eq, beq_eq_false_iff_ne, bne_iff_ne, bne_eq_false_iff_eq, Bool.not_eq_true', Bool.not_eq_false', Bool.not_eq_true, Bool.not_eq_false, ne_eq, Int.not_lt, Int.not_le, Bool.and_eq_true, Bool.or_eq_true, Bool.or_eq_false_iff, Bool.and_eq_false_imp, strOf_toList, Decidable.not_not] at h60)
    ·skip
     refine AW.seq ?_
     refine AW.region ?_
     refine AO.op (O.assign rfl rfl) rfl rfl rfl ?_
     refine AO.nil ?_
     refine AQ.thenN ?_
     refine AW.ret ?_
     refine AQ.thenR ?_
     refine AQ.blockR ?_
     refine AQ.thenR ?_
     refine AQ.loopR ?_
     refine AQ.blockR ?_
     refine AQ.thenR ?_
     refine AQ.ret1 rfl rfl ⟨_, List.nil_sublist _, .nil⟩ (retD (decide_eq_false fun hh => h60 (by have := ((HOkTo.succ hk).1 (HOkTo.mono (by omega) hh.2)).2; exact this.1.2.2.2)).symm)
    ·skip
     refine AW.skip ?_
     refine AQ.thenN ?_
     refine AW.region ?_
     refine AO.op (O.move rfl rfl) rfl rfl rfl ?_
     refine AO.op (O.loadK rfl rfl (by repeat (exact List.Mem.head _)) (by rfl) (by rfl)) rfl rfl rfl ?_
     (refine AO.mapPut (i := 2) rfl rfl rfl rfl rfl rfl rfl (by exact keyA2 (wfI64 hin.1) (wfI64 hin.2)) (by exact plainElem_bool TyD.ax _) (by ( unfold maxLen; omega)) (by (dsimp only [List.set, List.cons_append, List.nil_append, List.take, List.drop]; done)) ?_)
     refine AO.nil ?_
     refine AQ.blockN ?_
     refine AQ.thenN ?_
     refine AW.region ?_
     refine AO.op (O.add rfl rfl rfl (by exact wI64 (by omega))) rfl rfl rfl ?_
     refine AO.op (O.move rfl rfl) rfl rfl rfl ?_
     refine AO.nil ?_
     refine AQ.loopKN _ _ _ (by omega) (⟨k + 1, _, by omega, (HOkTo.succ hk).2 ⟨ha, ⟨h58.1.1, h58.1.2.1, h58.1.2.2, h60⟩, h58.2⟩, by rw [take_snoc Hd.none hk, List.map_append, List.map_singleton]; exact hs.put hin.1 hin.2, rfl, rfl, rfl⟩) (by repeat (first | exact envNil | refine envCons rfl ?_)) (by repeat (first | exact envNil | refine envCons rfl ?_)) (by repeat (first | exact subPnil | refine subPcons 2 rfl ?_))
  ·skip
   obtain rfl : k = l.length := by omega
   refine AW.exit ?_
   refine AQ.thenX ?_
   refine AQ.loopX ?_
   refine AQ.blockX rfl ?_
   refine AQ.thenN ?_
   refine AW.seq ?_
   refine AW.region ?_
   refine AO.op (O.assign rfl rfl) rfl rfl rfl ?_
   refine AO.nil ?_
   refine AQ.thenN ?_
   refine AW.ret ?_
   refine AQ.ret1 rfl rfl ⟨_, List.nil_sublist _, .nil⟩ (retD (decide_eq_true ⟨by omega, ha⟩).symm)
end Go.Proofs.YtoonnnifelnaiaaGreatDoor.By

namespace Go.Proofs.YtoonnnifelnaiaaGreatDoor.By
open Go.RowKit L A
set_option linter.unusedVariables false
set_option maxRecDepth 20000
set_option linter.unusedSimpArgs false
attribute [local irreducible] AW AQ AO
def BdE (e : Ep) : Prop := e.out.length ≤ 140737488355328 ∧ e.used.length ≤ 140737488355328 ∧ e.inn.length ≤ 140737488355328 ∧ ∀ h ∈ e.inn, BdM h.m
abbrev UOkTo (l : List Us) (k : Nat) : Prop := ∀ u ∈ l.take k, OkU u
theorem UOkTo.succ {l : List Us} {k : Nat} (h : k < l.length) : UOkTo l (k + 1) ↔ UOkTo l k ∧ OkU (us l k) := mem_take_snoc Us.none h OkU
theorem UOkTo.mono {l : List Us} {k : Nat} (hh : UOkTo l l.length) : UOkTo l k := fun w hw => hh w (by rw [List.take_length]; exact List.mem_of_mem_take hw)
abbrev chU (u : Us) : Bool := !decide (PeerOk u.peer) || !decide (IdOk u.id) || decide (u.till < 0)
theorem chU_eq (u : Us) : chU u = !decide (OkU u) := chH_eq ⟨u.peer, u.id, u.till, false, Msg.none⟩
theorem valE_iff (e : Ep) : ValE e ↔ (IdOk e.next ∧ e.used.length ≤ 32) ∧ UOkTo e.used e.used.length ∧ (e.out.length ≤ 16 ∧ WOkTo e.out e.out.length) ∧ (e.inn.length ≤ 16 ∧ HOkTo e.inn e.inn.length) := by
 unfold ValE UOkTo WOkTo HOkTo
 rw [List.take_length, List.take_length, List.take_length]
 constructor
 ·rintro ⟨h1, h2, h3, h4, h5, h6, h7, h8, h9⟩; exact ⟨⟨h1, h3⟩, h7, ⟨h2, h5, h6⟩, h4, h8, h9⟩
 ·rintro ⟨⟨h1, h3⟩, h7, ⟨h2, h5, h6⟩, h4, h8, h9⟩; exact ⟨h1, h2, h3, h4, h5, h6, h7, h8, h9⟩
theorem evalid_fn (e : Ep) (hb : BdE e) : Sp Tryz.prog 50 [aggE e] [] (Is (.val (.bool (decide (ValE e))))) := by
 have hb2 := hb.2.1
 refine Sp.enter Tryz.func50 rfl _ Tryz.ntmps50 rfl (fun w0 R0 => ?_)
 refine AW.seq ?_
 refine AW.region ?_
 refine AO.opB (O.box rfl rfl rfl rfl rfl) rfl rfl rfl ?_
 intro B1
 refine AO.op (O.assign rfl rfl) rfl rfl rfl ?_
 refine AO.nil ?_
 refine AQ.thenN ?_
 refine AW.seq ?_
 refine AW.seq ?_
 refine AW.region ?_
 refine AO.op (O.fieldAddr rfl rfl) rfl rfl rfl ?_
 refine AO.op (O.load rfl rfl (by repeat (exact List.Mem.head _)) (by rfl)) rfl rfl rfl ?_
 refine AO.op (O.call rfl Tryz.func81 rfl rfl rfl (idOK_fn _)) rfl rfl rfl ?_
 refine AO.op (O.not rfl rfl (by rfl)) rfl rfl rfl ?_
 refine AO.op (O.move rfl rfl) rfl rfl rfl ?_
 refine AO.opG rfl rfl rfl (fun hp => O.fieldAddr rfl rfl) ?_
 refine AO.opG rfl rfl rfl (fun hp => OpW.force 10 rfl (by exact hp) (O.load rfl rfl (by repeat (exact List.Mem.head _)) (by rfl))) ?_
 refine AO.opG rfl rfl rfl (fun hp => OpW.force 11 rfl (by exact hp) (O.lenR rfl rfl)) ?_
 refine AO.opG rfl rfl rfl (fun hp => OpW.force 12 rfl (by exact hp) (O.gtr rfl rfl rfl (by rfl))) ?_
 refine AO.op (O.pickOr rfl rfl rfl rfl (fun h => by exact congrArg (fun b => !b) h)) rfl rfl rfl ?_
 refine AO.nil ?_
 refine AQ.thenN ?_
 refine AW.split rfl (fun h => ?_) (fun h => ?_) <;> (try simp only [decide_eq_true_eq, decide_eq_false_iff_not, beq_iff_eq, beq_eq_false_iff_ne, bne_iff_ne, bne_eq_false_iff_eq, Bool.not_eq_true', Bool.not_eq_false', Bool.not_eq_true, Bool.not_eq_false, ne_eq, Int.not_lt, Int.not_le, Bool.and_eq_true, Bool.or_eq_true, Bool.or_eq_false_iff, Bool.and_eq_false_imp, strOf_toList, Decidable.not_not] at h)
 ·skip
  refine AW.seq ?_
  refine AW.region ?_
  refine AO.op (O.assign rfl rfl) rfl rfl rfl ?_
  refine AO.nil ?_
  refine AQ.thenN ?_
  refine AW.ret ?_
  refine AQ.thenR ?_
  refine AQ.ret1 rfl rfl ⟨_, List.nil_sublist _, .nil⟩ (retD (decide_eq_false fun hk => by obtain ⟨⟨h1, h2⟩, -⟩ := (valE_iff e).1 hk; rcases h with h | h <;> omega).symm)
 ·skip
  refine AW.skip ?_
  refine AQ.thenN ?_
  refine AW.seq ?_
  refine AW.seq ?_
  refine AW.region ?_
  refine AO.op (O.fieldAddr rfl rfl) rfl rfl rfl ?_
  refine AO.op (O.load rfl rfl (by repeat (exact List.Mem.head _)) (by rfl)) rfl rfl rfl ?_
  refine AO.op (O.lenR rfl rfl) rfl rfl rfl ?_
  refine AO.op (O.move rfl rfl) rfl rfl rfl ?_
  refine AO.nil ?_
  refine AQ.thenN ?_
  refine AW.block ?_
  refine AW.loopK [(1, _), (16, _), (17, _)] (fun nn E H => ∃ (k : Nat), (k ≤ e.used.length) ∧ (UOkTo e.used k) ∧ nn = e.used.length - k ∧ E = [(18, .val (.int .i64 (k : Int)))] ∧ H = [.blk B1 56 4 [.val (.int .i64 e.next), roW e.out, roU e.used, roH e.inn]]) _ (⟨0, by omega, fun _ hu => by simp at hu, rfl, rfl, rfl⟩) (by repeat (first | exact envNil | refine envCons rfl ?_)) (by repeat (first | exact envNil | refine envCons rfl ?_)) (by repeat (first | exact subPnil | refine subPcons 0 rfl ?_)) ?_
  rintro nn E H ⟨k, h1, ha, rfl, rfl, rfl⟩
  dsimp only [List.cons_append, List.nil_append]
  refine AW.seq ?_
  refine AW.region ?_
  refine AO.op (O.lss rfl rfl rfl (by rfl)) rfl rfl rfl ?_
  refine AO.nil ?_
  refine AQ.thenN ?_
  refine AW.seq ?_
  refine AW.split rfl (fun hlt => ?_) (fun hlt => ?_) <;> (try simp only [decide_eq_true_eq, decide_eq_false_iff_not, beq_iff_eq, beq_eq_false_iff_ne, bne_iff_ne, bne_eq_false_iff_eq, Bool.not_eq_true', Bool.not_eq_false', Bool.not_eq_true, Bool.not_eq_false, ne_eq, Int.not_lt, Int.not_le, Bool.and_eq_true, Bool.or_eq_true, Bool.or_eq_false_iff, Bool.and_eq_false_imp, strOf_toList, Decidable.not_not] at hlt)
  ·skip
   have hk : k < e.used.length := by omega
   refine AW.skip ?_
   refine AQ.thenN ?_
   refine AW.seq ?_
   refine AW.block ?_
   refine AW.seq ?_
   refine AW.region ?_
   refine AO.op (O.idxR rfl rfl rfl ⟨(by omega), (by omega)⟩) rfl rfl rfl ?_
   refine AO.op (O.loadRK rfl rfl (by exact getU (by omega) (by omega)) (by rfl)) rfl rfl rfl ?_
   refine AO.opB (O.alloc rfl (by (dsimp only [zerosA, List.replicate, List.append, List.flatten, AV.cells, Value.cells, List.toList_toArray, List.map]; done)) (by rfl)) rfl rfl rfl ?_
   intro B2
   (refine AO.store (i := 0) rfl rfl rfl rfl rfl rfl (by rfl) (by rfl) (by rfl) (by (dsimp only [List.set, List.cons_append, List.nil_append, List.take, List.drop]; done)) (by (dsimp only [List.set, List.cons_append, List.nil_append, List.take, List.drop]; done)) ?_)
   refine AO.nil ?_
   refine AQ.thenN ?_
   refine AW.seq ?_
   refine AW.region ?_
   refine AO.op (O.fieldAddr rfl rfl) rfl rfl rfl ?_
   refine AO.op (O.load rfl rfl (by repeat (exact List.Mem.head _)) (by rfl)) rfl rfl rfl ?_
   refine AO.op (O.call rfl Tryz.func52 rfl rfl rfl (peerOK_fn _)) rfl rfl rfl ?_
   refine AO.op (O.not rfl rfl (by rfl)) rfl rfl rfl ?_
   refine AO.op (O.move rfl rfl) rfl rfl rfl ?_
   refine AO.opG rfl rfl rfl (fun hp => O.fieldAddr rfl rfl) ?_
   refine AO.opG rfl rfl rfl (fun hp => OpW.force 27 rfl (by exact hp) (O.load rfl rfl (by repeat (exact List.Mem.head _)) (by rfl))) ?_
   refine AO.opG rfl rfl rfl (fun hp => OpW.force 28 rfl (by exact hp) (O.call rfl Tryz.func81 rfl rfl rfl (idOK_fn _))) ?_
   refine AO.opG rfl rfl rfl (fun hp => OpW.force 29 rfl (by exact hp) (O.not rfl rfl (by rfl))) ?_
   refine AO.op (O.pickOr rfl rfl rfl rfl (fun h => by exact congrArg (fun b => !b) h)) rfl rfl rfl ?_
   refine AO.op (O.move rfl rfl) rfl rfl rfl ?_
   refine AO.opG rfl rfl rfl (fun hp => O.fieldAddr rfl rfl) ?_
   refine AO.opG rfl rfl rfl (fun hp => OpW.force 33 rfl (by exact hp) (O.load rfl rfl (by repeat (exact List.Mem.head _)) (by rfl))) ?_
   refine AO.opG rfl rfl rfl (fun hp => OpW.force 34 rfl (by exact hp) (O.lss rfl rfl rfl (by rfl))) ?_
   refine AO.op (O.pickOr rfl rfl rfl rfl (fun h => by exact congrArg (fun b => !b) h)) rfl rfl rfl ?_
   refine AO.nil ?_
   refine AQ.thenN ?_
   rw [show (!decide (PeerOk (us e.used k).peer) || !decide (IdOk (us e.used k).id) || decide ((us e.used k).till < 0)) = !decide (OkU (us e.used k)) from chU_eq _]
   refine AW.split rfl (fun h36 => ?_) (fun h36 => ?_) <;> (try simp only [decide_eq_true_eq, decide_eq_false_iff_not, beq_iff_eq, beq_eq_false_iff_ne, bne_iff_ne, bne_eq_false_iff_eq, Bool.not_eq_true', Bool.not_eq_false', Bool.not_eq_true, Bool.not_eq_false, ne_eq, Int.not_lt, Int.not_le, Bool.and_eq_true, Bool.or_eq_true, Bool.or_eq_false_iff, Bool.and_eq_false_imp, strOf_toList, Decidable.not_not] at h36)
   ·skip
    refine AW.seq ?_
    refine AW.region ?_
    refine AO.op (O.assign rfl rfl) rfl rfl rfl ?_
    refine AO.nil ?_
    refine AQ.thenN ?_
    refine AW.ret ?_
    refine AQ.blockR ?_
    refine AQ.thenR ?_
    refine AQ.loopR ?_
    refine AQ.blockR ?_
    refine AQ.thenR ?_
    refine AQ.ret1 rfl rfl ⟨_, List.nil_sublist _, .nil⟩ (retD (decide_eq_false fun hh => h36 ((UOkTo.succ hk).1 (UOkTo.mono ((valE_iff e).1 hh).2.1)).2).symm)
   ·skip
    refine AW.skip ?_
    refine AQ.blockN ?_
    refine AQ.thenN ?_
    refine AW.region ?_
    refine AO.op (O.add rfl rfl rfl (by exact wI64 (by omega))) rfl rfl rfl ?_
    refine AO.op (O.move rfl rfl) rfl rfl rfl ?_
    refine AO.nil ?_
    refine AQ.loopKN _ _ _ (by omega) (⟨k + 1, by omega, (UOkTo.succ hk).2 ⟨ha, h36⟩, rfl, rfl, rfl⟩) (by repeat (first | exact envNil | refine envCons rfl ?_)) (by repeat (first | exact envNil | refine envCons rfl ?_)) (by repeat (first | exact subPnil | refine subPcons 1 rfl ?_))
  ·skip
   obtain rfl : k = e.used.length := by omega
   refine AW.exit ?_
   refine AQ.thenX ?_
   refine AQ.loopX ?_
   refine AQ.blockX rfl ?_
   refine AQ.thenN ?_
   refine AW.seq ?_
   refine AW.region ?_
   refine AO.op (O.fieldAddr rfl rfl) rfl rfl rfl ?_
   refine AO.op (O.load rfl rfl (by repeat (exact List.Mem.head _)) (by rfl)) rfl rfl rfl ?_
   refine AO.op (O.call rfl Tryz.func82 rfl rfl rfl (waitingOK_fn e.out)) rfl rfl rfl ?_
   refine AO.op (O.move rfl rfl) rfl rfl rfl ?_
   refine AO.opG rfl rfl rfl (fun hp => O.fieldAddr rfl rfl) ?_
   refine AO.opG rfl rfl rfl (fun hp => OpW.force 42 rfl (by exact hp) (O.load rfl rfl (by repeat (exact List.Mem.head _)) (by rfl))) ?_
   refine AO.opG rfl rfl rfl (fun hp => OpW.force 43 rfl (by exact hp) (O.call rfl Tryz.func83 rfl rfl rfl (heardOK_fn e.inn hb.2.2.2))) ?_
   refine AO.op (O.pickAnd rfl rfl rfl rfl (fun h => by exact h)) rfl rfl rfl ?_
   refine AO.op (O.assign rfl rfl) rfl rfl rfl ?_
   refine AO.nil ?_
   refine AQ.thenN ?_
   refine AW.ret ?_
   refine AQ.ret1 rfl rfl ⟨_, List.nil_sublist _, .nil⟩ (retD (by rw [and_dec]; refine decide_eq_decide.2 ?_; rw [valE_iff]; exact ⟨fun hh => ⟨by omega, ha, hh⟩, fun hh => hh.2.2⟩))
end Go.Proofs.YtoonnnifelnaiaaGreatDoor.By

namespace Go.Proofs.YtoonnnifelnaiaaGreatDoor.By
open Go.RowKit L A
set_option linter.unusedVariables false
set_option maxRecDepth 20000
set_option linter.unusedSimpArgs false
attribute [local irreducible] AW AQ AO
end Go.Proofs.YtoonnnifelnaiaaGreatDoor.By

namespace Go.Proofs.YtoonnnifelnaiaaGreatDoor.By
open Go.RowKit L A
set_option linter.unusedVariables false
set_option maxRecDepth 20000
set_option linter.unusedSimpArgs false
attribute [local irreducible] AW AQ AO
abbrev zO : Value := .agg #[.int .i64 0, .slice none 0 0]
def zOpts (n : Nat) : List AV := zerosA n zO
theorem zeros_opt (n : Nat) : zOpts (n + 1) = .val (.int .i64 0) :: .val (.slice none 0 0) :: zOpts n := by
 unfold zOpts zerosA
 rw [List.replicate_succ, List.flatten_cons]
 rfl
theorem splice_opt {os : List Opt} {k : Nat} (h : k < os.length) {j : Nat} (hj : j = k * 2) : splice (optsA (os.take k) ++ zOpts (os.length - k)) j [.val (.int .i64 (oat os k).num), roB (oat os k).val] = optsA (os.take (k + 1)) ++ zOpts (os.length - (k + 1)) := by
 have hl : (optsA (os.take k)).length = k * 2 := by rw [optsA_len, List.length_take]; omega
 obtain ⟨m, hm⟩ : ∃ m, os.length - k = m + 1 := ⟨os.length - k - 1, by omega⟩
 rw [take_snoc Opt.none h, optsA_snoc, hm, show os.length - (k + 1) = m by omega, zeros_opt, hj]
 show ((optsA (os.take k) ++ AV.val (.int .i64 0) :: AV.val (.slice none 0 0) :: zOpts m).set (k * 2) _).set (k * 2 + 1) _ = _
 rw [← hl, List.set_append_right _ _ (Nat.le_refl _), Nat.sub_self, List.set_cons_zero, List.set_append_right _ _ (Nat.le_succ _), show ∀ n : Nat, n.succ - n = 1 from fun n => by omega, List.set_cons_succ, List.set_cons_zero, List.append_assoc]
 rfl
theorem zerosOpt_len (n : Nat) : (zOpts n).length = n * 2 := by
 induction n with
 | zero => rfl
 | succ n ih => rw [zeros_opt, List.length_cons, List.length_cons, ih]; omega
set_option maxHeartbeats 4000000 in
theorem message_fn (m : Msg) (h : SmM m) : Sp Tryz.prog 56 [aggM m] [] (Is (aggM m)) := by
 have hat := fun k => SmM.at h (k := k)
 obtain ⟨h1, h2, h3, -⟩ := h
 refine Sp.enter Tryz.func56 rfl _ Tryz.ntmps56 rfl (fun w0 R0 => ?_)
 refine AW.seq ?_
 refine AW.region ?_
 refine AO.opB (O.box rfl rfl rfl rfl rfl) rfl rfl rfl ?_
 intro B1
 refine AO.opB (O.alloc rfl (by (dsimp only [zerosA, List.replicate, List.append, List.flatten, AV.cells, Value.cells, List.toList_toArray, List.map]; done)) (by rfl)) rfl rfl rfl ?_
 intro B2
 refine AO.nil ?_
 refine AQ.thenN ?_
 refine AW.seq ?_
 refine AW.regionD 7 (by kernel_rfl) (by kernel_rfl) ?_
 simp only [List.take_succ_cons, List.take_zero, List.drop_succ_cons, List.drop_zero]
 refine FA.op (O.fieldAddr rfl rfl) rfl rfl rfl rfl ?_
 refine FA.op (O.load rfl rfl (by repeat (first | exact List.Mem.head _ | refine List.Mem.tail _ ?_)) (by rfl)) rfl rfl rfl rfl ?_
 refine FA.op (O.call rfl Tryz.func49 rfl rfl rfl (clone_fn _ (by assumption))) rfl rfl rfl rfl ?_
 refine FA.op (O.fieldAddr rfl rfl) rfl rfl rfl rfl ?_
 refine FA.op (O.load rfl rfl (by repeat (first | exact List.Mem.head _ | refine List.Mem.tail _ ?_)) (by rfl)) rfl rfl rfl rfl ?_
 refine FA.op (O.call rfl Tryz.func49 rfl rfl rfl (clone_fn _ (by assumption))) rfl rfl rfl rfl ?_
 refine FA.op (O.fieldAddr rfl rfl) rfl rfl rfl rfl ?_
 refine FA.nil ?_
 simp only [chosen, List.nil_append, List.cons_append, List.append_nil]
 (refine AO.store (i := 1) rfl rfl rfl rfl rfl rfl (by rfl) (by rfl) (by rfl) (by (dsimp only [List.set, List.cons_append, List.nil_append, List.take, List.drop]; done)) (by (dsimp only [List.set, List.cons_append, List.nil_append, List.take, List.drop]; done)) ?_)
 refine AO.op (O.fieldAddr rfl rfl) rfl rfl rfl ?_
 (refine AO.store (i := 1) rfl rfl rfl rfl rfl rfl (by rfl) (by rfl) (by rfl) (by (dsimp only [List.set, List.cons_append, List.nil_append, List.take, List.drop]; done)) (by (dsimp only [List.set, List.cons_append, List.nil_append, List.take, List.drop]; done)) ?_)
 refine AO.nil ?_
 refine AQ.thenN ?_
 refine AW.seq ?_
 refine AW.region ?_
 refine AO.op (O.fieldAddr rfl rfl) rfl rfl rfl ?_
 refine AO.op (O.load rfl rfl (by repeat (first | exact List.Mem.head _ | refine List.Mem.tail _ ?_)) (by rfl)) rfl rfl rfl ?_
 refine AO.op (O.lenR rfl rfl) rfl rfl rfl ?_
 refine AO.opB (O.makeSlice rfl rfl rfl (by rfl) (by rfl) (by omega) (by (unfold maxLen; omega)) (by rfl)) rfl rfl rfl ?_
 intro B3
 refine AO.op (O.assign rfl rfl) rfl rfl rfl ?_
 refine AO.nil ?_
 refine AQ.thenN ?_
 refine AW.seq ?_
 refine AW.seq ?_
 refine AW.region ?_
 refine AO.op (O.fieldAddr rfl rfl) rfl rfl rfl ?_
 refine AO.op (O.load rfl rfl (by repeat (first | exact List.Mem.head _ | refine List.Mem.tail _ ?_)) (by rfl)) rfl rfl rfl ?_
 refine AO.op (O.lenR rfl rfl) rfl rfl rfl ?_
 refine AO.op (O.move rfl rfl) rfl rfl rfl ?_
 refine AO.nil ?_
 refine AQ.thenN ?_
 refine AW.block ?_
 have hz : (m.opts.take 0 : List Opt) = [] := rfl
 refine AW.loopK [(1, _), (2, _), (3, _), (19, _), (20, _)] (fun nn E H => ∃ (k : Nat), (k ≤ m.opts.length) ∧ nn = m.opts.length - k ∧ E = [(21, .val (.int .i64 (k : Int)))] ∧ H = [.blk B3 74 (m.opts.length * 2) (optsA (m.opts.take k) ++ zOpts (m.opts.length - k)), .blk B2 41 6 [.val (.int .i64 0), .val (.int .i64 0), .val (.int .i64 0), .val (.slice none 0 0), .val (.slice none 0 0), .val (.slice none 0 0)], .blk B1 41 6 [.val (.int .i64 m.ty), .val (.int .i64 m.code), .val (.int .i64 m.id), roB m.tok, roO m.opts, roB m.pay]]) _ (⟨0, by omega, rfl, rfl, rfl⟩) (by repeat (first | exact envNil | refine envCons rfl ?_)) (by repeat (first | exact envNil | refine envCons rfl ?_)) (by repeat (first | exact subPnil | refine subPcons 0 rfl ?_)) ?_
 rintro nn E H ⟨k, hk1, rfl, rfl, rfl⟩
 dsimp only [List.cons_append, List.nil_append]
 refine AW.seq ?_
 refine AW.region ?_
 refine AO.op (O.lss rfl rfl rfl (by rfl)) rfl rfl rfl ?_
 refine AO.nil ?_
 refine AQ.thenN ?_
 refine AW.seq ?_
 refine AW.split rfl (fun hlt => ?_) (fun hlt => ?_) <;> (try simp only [decide_eq_true_eq, decide_eq_false_iff_not, beq_iff_eq, beq_eq_false_iff_ne, bne_iff_ne, bne_eq_false_iff_eq, Bool.not_eq_true', Bool.not_eq_false', Bool.not_eq_true, Bool.not_eq_false, ne_eq, Int.not_lt, Int.not_le, Bool.and_eq_true, Bool.or_eq_true, Bool.or_eq_false_iff, Bool.and_eq_false_imp, strOf_toList, Decidable.not_not] at hlt)
 ·skip
  have hk : k < m.opts.length := by omega
  have hv := hat k hk
  have hbl : (optsA (m.opts.take k) ++ zOpts (m.opts.length - k)).length = m.opts.length * 2 := by rw [List.length_append, optsA_len, zerosOpt_len, List.length_take]; omega
  refine AW.skip ?_
  refine AQ.thenN ?_
  refine AW.seq ?_
  refine AW.block ?_
  refine AW.seq ?_
  refine AW.region ?_
  refine AO.op (O.move rfl rfl) rfl rfl rfl ?_
  refine AO.op (O.idxR rfl rfl rfl ⟨(by omega), (by omega)⟩) rfl rfl rfl ?_
  refine AO.op (O.loadRK rfl rfl (by exact getO (by omega) (by omega)) (by rfl)) rfl rfl rfl ?_
  refine AO.opB (O.alloc rfl (by (dsimp only [zerosA, List.replicate, List.append, List.flatten, AV.cells, Value.cells, List.toList_toArray, List.map]; done)) (by rfl)) rfl rfl rfl ?_
  intro B4
  refine AO.op (O.assign rfl rfl) rfl rfl rfl ?_
  (refine AO.store (i := 0) rfl rfl rfl rfl rfl rfl (by rfl) (by rfl) (by rfl) (by rfl) (by (dsimp only [List.set, List.cons_append, List.nil_append, List.take, List.drop]; done)) ?_)
  refine AO.nil ?_
  refine AQ.thenN ?_
  refine AW.regionD 9 (by kernel_rfl) (by kernel_rfl) ?_
  simp only [List.take_succ_cons, List.take_zero, List.drop_succ_cons, List.drop_zero]
  refine FA.op (O.move rfl rfl) rfl rfl rfl rfl ?_
  refine FA.op (O.move rfl rfl) rfl rfl rfl rfl ?_
  refine FA.op (O.fieldAddr rfl rfl) rfl rfl rfl rfl ?_
  refine FA.op (O.load rfl rfl (by repeat (exact List.Mem.head _)) (by rfl)) rfl rfl rfl rfl ?_
  refine FA.op (O.fieldAddr rfl rfl) rfl rfl rfl rfl ?_
  refine FA.op (O.load rfl rfl (by repeat (exact List.Mem.head _)) (by rfl)) rfl rfl rfl rfl ?_
  refine FA.op (O.call rfl Tryz.func49 rfl rfl rfl (clone_fn _ (by assumption))) rfl rfl rfl rfl ?_
  refine FA.op (O.build rfl rfl rfl (by rfl)) rfl rfl rfl rfl ?_
  refine FA.op (O.idxV rfl rfl rfl ⟨(by omega), (by omega)⟩) rfl rfl rfl rfl ?_
  refine FA.nil ?_
  simp only [chosen, List.nil_append, List.cons_append, List.append_nil]
  (refine AO.store (i := 1) rfl rfl rfl rfl rfl rfl (by rfl) (by rfl) (by exact Nat.ble_eq_true_of_le (by rw [hbl]; omega)) (by exact splice_opt hk (by omega)) (by (dsimp only [List.set, List.cons_append, List.nil_append, List.take, List.drop]; done)) ?_)
  refine AO.nil ?_
  refine AQ.blockN ?_
  refine AQ.thenN ?_
  refine AW.region ?_
  refine AO.op (O.add rfl rfl rfl (by exact wI64 (by omega))) rfl rfl rfl ?_
  refine AO.op (O.move rfl rfl) rfl rfl rfl ?_
  refine AO.nil ?_
  refine AQ.loopKN _ _ _ (by omega) (⟨k + 1, by omega, rfl, rfl, rfl⟩) (by repeat (first | exact envNil | refine envCons rfl ?_)) (by repeat (first | exact envNil | refine envCons rfl ?_)) (by repeat (first | exact subPnil | refine subPcons 1 rfl ?_))
 ·skip
  obtain rfl : k = m.opts.length := by omega
  rw [List.take_length, Nat.sub_self, show zOpts 0 = [] from rfl, List.append_nil]
  refine AW.g ?_
  refine G.closeRow (n := m.opts.length) (sz := 2) (cap := m.opts.length) 0 rfl (optsA_len _) rfl (Nat.le_refl _) (by (unfold maxLen; omega)) ?_
  refine AW.u ?_
  dsimp only [List.set]
  refine AW.g ?_
  refine G.freezeRow 0 rfl [3] (by repeat (first | exact frNil | refine frCons rfl ?_)) ?_
  refine AW.u ?_
  try dsimp only [List.map, List.eraseIdx, List.cons_append, List.nil_append]
  refine AW.exit ?_
  refine AQ.thenX ?_
  refine AQ.loopX ?_
  refine AQ.blockX rfl ?_
  refine AQ.thenN ?_
  refine AW.seq ?_
  refine AW.region ?_
  refine AO.op (O.move rfl rfl) rfl rfl rfl ?_
  refine AO.op (O.fieldAddr rfl rfl) rfl rfl rfl ?_
  (refine AO.store (i := 1) rfl rfl rfl rfl rfl rfl (by rfl) (by rfl) (by rfl) (by (dsimp only [List.set, List.cons_append, List.nil_append, List.take, List.drop]; done)) (by (dsimp only [List.set, List.cons_append, List.nil_append, List.take, List.drop]; done)) ?_)
  refine AO.nil ?_
  refine AQ.thenN ?_
  refine AW.seq ?_
  refine AW.region ?_
  refine AO.op (O.loadK rfl rfl (by repeat (first | exact List.Mem.head _ | refine List.Mem.tail _ ?_)) (by rfl) (by rfl)) rfl rfl rfl ?_
  (refine AO.store (i := 0) rfl rfl rfl rfl rfl rfl (by rfl) (by rfl) (by rfl) (by (dsimp only [List.set, List.cons_append, List.nil_append, List.take, List.drop]; done)) (by (dsimp only [List.set, List.cons_append, List.nil_append, List.take, List.drop]; done)) ?_)
  refine AO.nil ?_
  refine AQ.thenN ?_
  refine AW.ret ?_
  refine AQ.retCell rfl rfl (by repeat (exact List.Mem.head _)) (by rfl) rfl ⟨_, List.nil_sublist _, .nil⟩ (⟨rfl, rfl⟩)
end Go.Proofs.YtoonnnifelnaiaaGreatDoor.By

namespace Go.Proofs.YtoonnnifelnaiaaGreatDoor.By
open Go.RowKit L A
set_option linter.unusedVariables false
set_option maxRecDepth 20000
set_option linter.unusedSimpArgs false
attribute [local irreducible] AW AQ AO
def liveU (now : Int) (u : Us) : Bool := decide (now < u.till)
def liveH (now : Int) (h : Hd) : Bool := decide (now < h.till)
def cleanE (e : Ep) (now : Int) : Ep := ⟨e.next, e.out, e.used.filter (liveU now), e.inn.filter (liveH now)⟩
theorem filt_succ {α : Type} (p : α → Bool) (d : α) {l : List α} {k : Nat} (h : k < l.length) : (l.take (k + 1)).filter p = (l.take k).filter p ++ (if p (l.getD k d) = true then [l.getD k d] else []) := by
 rw [take_snoc d h, List.filter_append]
 congr 1
 generalize l.getD k d = x
 cases hp : p x <;> simp [hp]
theorem filt_len {α : Type} (p : α → Bool) (l : List α) (k : Nat) : ((l.take k).filter p).length ≤ k := Nat.le_trans (List.length_filter_le _ _) (by rw [List.length_take]; omega)
structure SmE (e : Ep) : Prop where
 o : e.out.length ≤ 1000
 u : e.used.length ≤ 1000
 i : e.inn.length ≤ 1000
 om : ∀ w ∈ e.out, SmM w.m
 im : ∀ h ∈ e.inn, SmM h.m
/-- An endpoint whose lists are rows of the caller's own. -/
def NewE (e : Ep) (r : AV) (Hn : List HE) : Prop := ∃ V1 V2 V3 : Value, V1.oneCell' = true ∧ V2.oneCell' = true ∧ V3.oneCell' = true ∧ r = .agg [.val (.int .i64 e.next), .val V1, .val V2, .val V3] ∧
 Hn = [.row V3 126 10 e.inn.length (hdsA e.inn), .row V2 122 3 e.used.length (ussA e.used), .row V1 78 9 e.out.length (wtsA e.out)]
abbrev nilS : Value := .slice none 0 0
set_option maxHeartbeats 4000000 in
theorem cleaned_fn (e : Ep) (now : Int) (hs : SmE e) : Sp Tryz.prog 54 [aggE e, .val (.int .i64 now)] [] (NewE (cleanE e now)) := by
 have hs1 := hs.o
 have hs2 := hs.u
 have hs3 := hs.i
 refine Sp.enter Tryz.func54 rfl _ Tryz.ntmps54 rfl (fun w0 R0 => ?_)
 refine AW.seq ?_
 refine AW.region ?_
 refine AO.opB (O.box rfl rfl rfl rfl rfl) rfl rfl rfl ?_
 intro B1
 refine AO.opB (O.alloc rfl (by (dsimp only [zerosA, List.replicate, List.append, List.flatten, AV.cells, Value.cells, List.toList_toArray, List.map]; done)) (by rfl)) rfl rfl rfl ?_
 intro B2
 refine AO.nil ?_
 refine AQ.thenN ?_
 refine AW.seq ?_
 refine AW.region ?_
 refine AO.op (O.fieldAddr rfl rfl) rfl rfl rfl ?_
 refine AO.op (O.load rfl rfl (by repeat (first | exact List.Mem.head _ | refine List.Mem.tail _ ?_)) (by rfl)) rfl rfl rfl ?_
 refine AO.op (O.build rfl rfl rfl (by rfl)) rfl rfl rfl ?_
 refine AO.opB (O.alloc rfl (by (dsimp only [zerosA, List.replicate, List.append, List.flatten, AV.cells, Value.cells, List.toList_toArray, List.map]; done)) (by rfl)) rfl rfl rfl ?_
 intro B3
 (refine AO.store (i := 0) rfl rfl rfl rfl rfl rfl (by rfl) (by rfl) (by rfl) (by (dsimp only [List.set, List.cons_append, List.nil_append, List.take, List.drop]; done)) (by (dsimp only [List.set, List.cons_append, List.nil_append, List.take, List.drop]; done)) ?_)
 refine AO.nil ?_
 refine AQ.thenN ?_
 refine AW.seq ?_
 refine AW.seq ?_
 refine AW.region ?_
 refine AO.op (O.fieldAddr rfl rfl) rfl rfl rfl ?_
 refine AO.op (O.load rfl rfl (by repeat (first | exact List.Mem.head _ | refine List.Mem.tail _ ?_)) (by rfl)) rfl rfl rfl ?_
 refine AO.op (O.lenR rfl rfl) rfl rfl rfl ?_
 refine AO.op (O.move rfl rfl) rfl rfl rfl ?_
 refine AO.nil ?_
 refine AQ.thenN ?_
 refine AW.block ?_
 refine AW.g ?_
 refine G.nilRow 78 9 ?_
 refine AW.u ?_
 refine AW.loopK [(1, _), (2, _), (4, _), (5, _), (16, _), (17, _)] (fun nn E H => ∃ (k : Nat) (V : Value), (k ≤ e.out.length) ∧ (V.oneCell' = true) ∧ nn = e.out.length - k ∧ E = [(18, .val (.int .i64 (k : Int)))] ∧ H = [.row V 78 9 k (wtsA (e.out.take k)), .blk B3 56 4 [.val (.int .i64 e.next), .val V, .val nilS, .val nilS], .blk B2 56 4 [.val (.int .i64 0), .val nilS, .val nilS, .val nilS], .blk B1 56 4 [.val (.int .i64 e.next), roW e.out, roU e.used, roH e.inn]]) _ (⟨0, nilS, by omega, rfl, rfl, rfl, rfl⟩) (by repeat (first | exact envNil | refine envCons rfl ?_)) (by repeat (first | exact envNil | refine envCons rfl ?_)) (by repeat (first | exact subPnil | refine subPcons 0 rfl ?_)) ?_
 rintro nn E H ⟨k, V, hk1, hV, rfl, rfl, rfl⟩
 dsimp only [List.cons_append, List.nil_append]
 refine AW.seq ?_
 refine AW.region ?_
 refine AO.op (O.lss rfl rfl rfl (by rfl)) rfl rfl rfl ?_
 refine AO.nil ?_
 refine AQ.thenN ?_
 refine AW.seq ?_
 refine AW.split rfl (fun hlt => ?_) (fun hlt => ?_) <;> (try simp only [decide_eq_true_eq, decide_eq_false_iff_not, beq_iff_eq, beq_eq_false_iff_ne, bne_iff_ne, bne_eq_false_iff_eq, Bool.not_eq_true', Bool.not_eq_false', Bool.not_eq_true, Bool.not_eq_false, ne_eq, Int.not_lt, Int.not_le, Bool.and_eq_true, Bool.or_eq_true, Bool.or_eq_false_iff, Bool.and_eq_false_imp, strOf_toList, Decidable.not_not] at hlt)
 ·skip
  have hk : k < e.out.length := by omega
  have hsc : wtsA (e.out.take (k + 1)) = wtsA (e.out.take k) ++ cW (wt e.out k) := by rw [take_snoc Wt.none hk, wtsA_snoc]
  refine AW.skip ?_
  refine AQ.thenN ?_
  refine AW.seq ?_
  refine AW.block ?_
  refine AW.seq ?_
  refine AW.region ?_
  refine AO.op (O.idxR rfl rfl rfl ⟨(by omega), (by omega)⟩) rfl rfl rfl ?_
  refine AO.op (O.loadRK rfl rfl (by exact getW (by omega) (by omega)) (by rfl)) rfl rfl rfl ?_
  refine AO.opB (O.alloc rfl (by (dsimp only [zerosA, List.replicate, List.append, List.flatten, AV.cells, Value.cells, List.toList_toArray, List.map]; done)) (by rfl)) rfl rfl rfl ?_
  intro B4
  (refine AO.store (i := 0) rfl rfl rfl rfl rfl rfl (by rfl) (by rfl) (by rfl) (by (dsimp only [List.set, List.cons_append, List.nil_append, List.take, List.drop]; done)) (by (dsimp only [List.set, List.cons_append, List.nil_append, List.take, List.drop]; done)) ?_)
  refine AO.nil ?_
  refine AQ.thenN ?_
  refine AW.seq ?_
  refine AW.region ?_
  refine AO.op (O.fieldAddr rfl rfl) rfl rfl rfl ?_
  refine AO.op (O.loadK rfl rfl (by repeat (exact List.Mem.head _)) (by rfl) (by rfl)) rfl rfl rfl ?_
  refine AO.op (O.call rfl Tryz.func56 rfl rfl rfl (message_fn (wt e.out k).m (hs.om _ (getD_mem _ hk)))) rfl rfl rfl ?_
  refine AO.op (O.fieldAddr rfl rfl) rfl rfl rfl ?_
  (refine AO.store (i := 0) rfl rfl rfl rfl rfl rfl (by rfl) (by rfl) (by rfl) (by (dsimp only [List.set, List.cons_append, List.nil_append, List.take, List.drop]; done)) (by (dsimp only [List.set, List.cons_append, List.nil_append, List.take, List.drop]; done)) ?_)
  refine AO.nil ?_
  refine AQ.thenN ?_
  refine AW.region ?_
  refine AO.op (O.fieldAddr rfl rfl) rfl rfl rfl ?_
  refine AO.op (O.load rfl rfl (by repeat (first | exact List.Mem.head _ | refine List.Mem.tail _ ?_)) (by rfl)) rfl rfl rfl ?_
  refine AO.op (O.loadK rfl rfl (by repeat (exact List.Mem.head _)) (by rfl) (by rfl)) rfl rfl rfl ?_
  refine AO.opB (O.buildSlice rfl rfl rfl (by rfl) (by rfl) (by rfl) (by rfl)) rfl rfl rfl ?_
  intro B5
  refine AO.g ?_
  (refine G.freezeSl 0 29 rfl rfl ⟨Nat.le_refl _, by unfold maxLen; omega⟩ ?_)
  refine G.unfull 29 rfl ?_
  refine AO.u ?_
  dsimp only [List.eraseIdx]
  (refine AO.append' (i := 1) rfl rfl rfl rfl (by rfl) (by rfl) rfl rfl rfl (by exact SrcA.ro TyD.ax (by rfl) (Nat.le_of_ble_eq_true rfl)) (by rfl) (by (unfold maxLen; omega)) (by omega) (by (dsimp only [List.set, List.cons_append, List.nil_append, List.take, List.drop]; done)) (fun _ => by (dsimp only [List.set]; done)) ?_)
  intro V6 hV6
  refine AO.op (O.fieldAddr rfl rfl) rfl rfl rfl ?_
  (refine AO.store (i := 2) rfl rfl rfl rfl rfl rfl (by (simp [AV.cells, AV.one, *]; done)) (by rfl) (by rfl) (by (dsimp only [List.set, List.cons_append, List.nil_append, List.take, List.drop]; done)) (by (dsimp only [List.set, List.cons_append, List.nil_append, List.take, List.drop]; done)) ?_)
  refine AO.nil ?_
  refine AQ.blockN ?_
  refine AQ.thenN ?_
  refine AW.region ?_
  refine AO.op (O.add rfl rfl rfl (by exact wI64 (by omega))) rfl rfl rfl ?_
  refine AO.op (O.move rfl rfl) rfl rfl rfl ?_
  refine AO.nil ?_
  refine AQ.loopKN _ _ _ (by omega) (⟨k + 1, _, by omega, ‹_›, rfl, rfl, by rw [hsc]⟩) (by repeat (first | exact envNil | refine envCons rfl ?_)) (by repeat (first | exact envNil | refine envCons rfl ?_)) (by repeat (first | exact subPnil | refine subPcons 1 rfl ?_))
 ·skip
  obtain rfl : k = e.out.length := by omega
  rw [List.take_length]
  refine AW.exit ?_
  refine AQ.thenX ?_
  refine AQ.loopX ?_
  refine AQ.blockX rfl ?_
  refine AQ.thenN ?_
  refine AW.seq ?_
  refine AW.seq ?_
  refine AW.region ?_
  refine AO.op (O.fieldAddr rfl rfl) rfl rfl rfl ?_
  refine AO.op (O.load rfl rfl (by repeat (first | exact List.Mem.head _ | refine List.Mem.tail _ ?_)) (by rfl)) rfl rfl rfl ?_
  refine AO.op (O.lenR rfl rfl) rfl rfl rfl ?_
  refine AO.op (O.move rfl rfl) rfl rfl rfl ?_
  refine AO.nil ?_
  refine AQ.thenN ?_
  refine AW.block ?_
  refine AW.g ?_
  refine G.nilRow 122 3 ?_
  refine AW.u ?_
  refine AW.loopK [(1, _), (2, _), (4, _), (5, _), (34, _), (35, _)] (fun nn E H => ∃ (k : Nat) (V2 : Value), (k ≤ e.used.length) ∧ (V2.oneCell' = true) ∧ nn = e.used.length - k ∧ E = [(36, .val (.int .i64 (k : Int)))] ∧ H = [.row V2 122 3 ((e.used.take k).filter (liveU now)).length (ussA ((e.used.take k).filter (liveU now))), .row V 78 9 e.out.length (wtsA e.out), .blk B3 56 4 [.val (.int .i64 e.next), .val V, .val V2, .val nilS], .blk B2 56 4 [.val (.int .i64 0), .val nilS, .val nilS, .val nilS], .blk B1 56 4 [.val (.int .i64 e.next), roW e.out, roU e.used, roH e.inn]]) _ (⟨0, nilS, by omega, rfl, rfl, rfl, rfl⟩) (by repeat (first | exact envNil | refine envCons rfl ?_)) (by repeat (first | exact envNil | refine envCons rfl ?_)) (by repeat (first | exact subPnil | refine subPcons 0 rfl ?_)) ?_
  rintro nn E H ⟨k, V2, hk1, hV2, rfl, rfl, rfl⟩
  dsimp only [List.cons_append, List.nil_append]
  have hfl := filt_len (liveU now) e.used k
  refine AW.seq ?_
  refine AW.region ?_
  refine AO.op (O.lss rfl rfl rfl (by rfl)) rfl rfl rfl ?_
  refine AO.nil ?_
  refine AQ.thenN ?_
  refine AW.seq ?_
  refine AW.split rfl (fun hlt2 => ?_) (fun hlt2 => ?_) <;> (try simp only [decide_eq_true_eq, decide_eq_false_iff_not, beq_iff_eq, beq_eq_false_iff_ne, bne_iff_ne, bne_eq_false_iff_eq, Bool.not_eq_true', Bool.not_eq_false', Bool.not_eq_true, Bool.not_eq_false, ne_eq, Int.not_lt, Int.not_le, Bool.and_eq_true, Bool.or_eq_true, Bool.or_eq_false_iff, Bool.and_eq_false_imp, strOf_toList, Decidable.not_not] at hlt2)
  ·skip
   have hk : k < e.used.length := by omega
   have hf := filt_succ (liveU now) Us.none hk
   refine AW.skip ?_
   refine AQ.thenN ?_
   refine AW.seq ?_
   refine AW.block ?_
   refine AW.seq ?_
   refine AW.region ?_
   refine AO.op (O.idxR rfl rfl rfl ⟨(by omega), (by omega)⟩) rfl rfl rfl ?_
   refine AO.op (O.loadRK rfl rfl (by exact getU (by omega) (by omega)) (by rfl)) rfl rfl rfl ?_
   refine AO.opB (O.alloc rfl (by (dsimp only [zerosA, List.replicate, List.append, List.flatten, AV.cells, Value.cells, List.toList_toArray, List.map]; done)) (by rfl)) rfl rfl rfl ?_
   intro B7
   (refine AO.store (i := 0) rfl rfl rfl rfl rfl rfl (by rfl) (by rfl) (by rfl) (by (dsimp only [List.set, List.cons_append, List.nil_append, List.take, List.drop]; done)) (by (dsimp only [List.set, List.cons_append, List.nil_append, List.take, List.drop]; done)) ?_)
   refine AO.nil ?_
   refine AQ.thenN ?_
   refine AW.seq ?_
   refine AW.region ?_
   refine AO.op (O.fieldAddr rfl rfl) rfl rfl rfl ?_
   refine AO.op (O.load rfl rfl (by repeat (exact List.Mem.head _)) (by rfl)) rfl rfl rfl ?_
   refine AO.op (O.move rfl rfl) rfl rfl rfl ?_
   refine AO.op (O.gtr rfl rfl rfl (by rfl)) rfl rfl rfl ?_
   refine AO.nil ?_
   refine AQ.thenN ?_
   refine AW.split rfl (fun hu => ?_) (fun hu => ?_) <;> (try simp only [decide_eq_true_eq, decide_eq_false_iff_not, beq_iff_eq, beq_eq_false_iff_ne, bne_iff_ne, bne_eq_false_iff_eq, Bool.not_eq_true', Bool.not_eq_false', Bool.not_eq_true, Bool.not_eq_false, ne_eq, Int.not_lt, Int.not_le, Bool.and_eq_true, Bool.or_eq_true, Bool.or_eq_false_iff, Bool.and_eq_false_imp, strOf_toList, Decidable.not_not] at hu)
   ·skip
    rw [if_pos (show liveU now (us e.used k) = true from decide_eq_true hu)] at hf
    have hfl2 : ((e.used.take (k + 1)).filter (liveU now)).length = ((e.used.take k).filter (liveU now)).length + 1 := by rw [hf, List.length_append]; rfl
    refine AW.region ?_
    refine AO.op (O.fieldAddr rfl rfl) rfl rfl rfl ?_
    refine AO.op (O.load rfl rfl (by repeat (first | exact List.Mem.head _ | refine List.Mem.tail _ ?_)) (by rfl)) rfl rfl rfl ?_
    refine AO.op (O.loadK rfl rfl (by repeat (exact List.Mem.head _)) (by rfl) (by rfl)) rfl rfl rfl ?_
    refine AO.opB (O.buildSlice rfl rfl rfl (by rfl) (by rfl) (by rfl) (by rfl)) rfl rfl rfl ?_
    intro B8
    refine AO.g ?_
    (refine G.freezeSl 0 47 rfl rfl ⟨Nat.le_refl _, by unfold maxLen; omega⟩ ?_)
    refine G.unfull 47 rfl ?_
    refine AO.u ?_
    dsimp only [List.eraseIdx]
    (refine AO.append' (i := 1) rfl rfl rfl rfl (by rfl) (by rfl) rfl rfl rfl (by exact SrcA.ro TyD.ax (by rfl) (Nat.le_of_ble_eq_true rfl)) (by rfl) (by (unfold maxLen; omega)) (by omega) (by (dsimp only [List.set, List.cons_append, List.nil_append, List.take, List.drop]; done)) (fun _ => by (dsimp only [List.set]; done)) ?_)
    intro V9 hV9
    refine AO.op (O.fieldAddr rfl rfl) rfl rfl rfl ?_
    (refine AO.store (i := 3) rfl rfl rfl rfl rfl rfl (by (simp [AV.cells, AV.one, *]; done)) (by rfl) (by rfl) (by (dsimp only [List.set, List.cons_append, List.nil_append, List.take, List.drop]; done)) (by (dsimp only [List.set, List.cons_append, List.nil_append, List.take, List.drop]; done)) ?_)
    refine AO.nil ?_
    refine AQ.blockN ?_
    refine AQ.thenN ?_
    refine AW.region ?_
    refine AO.op (O.add rfl rfl rfl (by exact wI64 (by omega))) rfl rfl rfl ?_
    refine AO.op (O.move rfl rfl) rfl rfl rfl ?_
    refine AO.nil ?_
    refine AQ.loopKN _ _ _ (by omega) (⟨k + 1, _, by omega, ‹_›, rfl, rfl, by rw [hfl2, hf, ussA_snoc]⟩) (by repeat (first | exact envNil | refine envCons rfl ?_)) (by repeat (first | exact envNil | refine envCons rfl ?_)) (by repeat (first | exact subPnil | refine subPcons 1 rfl ?_))
   ·skip
    rw [if_neg (show ¬ liveU now (us e.used k) = true from fun h => absurd (of_decide_eq_true h) (by omega)), List.append_nil] at hf
    refine AW.skip ?_
    refine AQ.blockN ?_
    refine AQ.thenN ?_
    refine AW.region ?_
    refine AO.op (O.add rfl rfl rfl (by exact wI64 (by omega))) rfl rfl rfl ?_
    refine AO.op (O.move rfl rfl) rfl rfl rfl ?_
    refine AO.nil ?_
    refine AQ.loopKN _ _ _ (by omega) (⟨k + 1, V2, by omega, hV2, rfl, rfl, by rw [hf]⟩) (by repeat (first | exact envNil | refine envCons rfl ?_)) (by repeat (first | exact envNil | refine envCons rfl ?_)) (by repeat (first | exact subPnil | refine subPcons 1 rfl ?_))
  ·skip
   obtain rfl : k = e.used.length := by omega
   rw [List.take_length]
   refine AW.exit ?_
   refine AQ.thenX ?_
   refine AQ.loopX ?_
   refine AQ.blockX rfl ?_
   refine AQ.thenN ?_
   refine AW.seq ?_
   refine AW.seq ?_
   refine AW.region ?_
   refine AO.op (O.fieldAddr rfl rfl) rfl rfl rfl ?_
   refine AO.op (O.load rfl rfl (by repeat (first | exact List.Mem.head _ | refine List.Mem.tail _ ?_)) (by rfl)) rfl rfl rfl ?_
   refine AO.op (O.lenR rfl rfl) rfl rfl rfl ?_
   refine AO.op (O.move rfl rfl) rfl rfl rfl ?_
   refine AO.nil ?_
   refine AQ.thenN ?_
   refine AW.block ?_
   refine AW.g ?_
   refine G.nilRow 126 10 ?_
   refine AW.u ?_
   refine AW.loopK [(1, _), (4, _), (5, _), (52, _), (53, _)] (fun nn E H => ∃ (k : Nat) (V3 : Value), (k ≤ e.inn.length) ∧ (V3.oneCell' = true) ∧ nn = e.inn.length - k ∧ E = [(54, .val (.int .i64 (k : Int)))] ∧ H = [.row V3 126 10 ((e.inn.take k).filter (liveH now)).length (hdsA ((e.inn.take k).filter (liveH now))), .row V2 122 3 (e.used.filter (liveU now)).length (ussA (e.used.filter (liveU now))), .row V 78 9 e.out.length (wtsA e.out), .blk B3 56 4 [.val (.int .i64 e.next), .val V, .val V2, .val V3], .blk B2 56 4 [.val (.int .i64 0), .val nilS, .val nilS, .val nilS]]) _ (⟨0, nilS, by omega, rfl, rfl, rfl, rfl⟩) (by repeat (first | exact envNil | refine envCons rfl ?_)) (by repeat (first | exact envNil | refine envCons rfl ?_)) (by repeat (first | exact subPnil | refine subPcons 0 rfl ?_)) ?_
   rintro nn E H ⟨k, V3, hk1, hV3, rfl, rfl, rfl⟩
   dsimp only [List.cons_append, List.nil_append]
   have hfl := filt_len (liveH now) e.inn k
   refine AW.seq ?_
   refine AW.region ?_
   refine AO.op (O.lss rfl rfl rfl (by rfl)) rfl rfl rfl ?_
   refine AO.nil ?_
   refine AQ.thenN ?_
   refine AW.seq ?_
   refine AW.split rfl (fun hlt3 => ?_) (fun hlt3 => ?_) <;> (try simp only [decide_eq_true_eq, decide_eq_false_iff_not, beq_iff_eq, beq_eq_false_iff_ne, bne_iff_ne, bne_eq_false_iff_eq, Bool.not_eq_true', Bool.not_eq_false', Bool.not_eq_true, Bool.not_eq_false, ne_eq, Int.not_lt, Int.not_le, Bool.and_eq_true, Bool.or_eq_true, Bool.or_eq_false_iff, Bool.and_eq_false_imp, strOf_toList, Decidable.not_not] at hlt3)
   ·skip
    have hk : k < e.inn.length := by omega
    have hf := filt_succ (liveH now) Hd.none hk
    refine AW.skip ?_
    refine AQ.thenN ?_
    refine AW.seq ?_
    refine AW.block ?_
    refine AW.seq ?_
    refine AW.region ?_
    refine AO.op (O.idxR rfl rfl rfl ⟨(by omega), (by omega)⟩) rfl rfl rfl ?_
    refine AO.op (O.loadRK rfl rfl (by exact getH (by omega) (by omega)) (by rfl)) rfl rfl rfl ?_
    refine AO.opB (O.alloc rfl (by (dsimp only [zerosA, List.replicate, List.append, List.flatten, AV.cells, Value.cells, List.toList_toArray, List.map]; done)) (by rfl)) rfl rfl rfl ?_
    intro B10
    (refine AO.store (i := 0) rfl rfl rfl rfl rfl rfl (by rfl) (by rfl) (by rfl) (by (dsimp only [List.set, List.cons_append, List.nil_append, List.take, List.drop]; done)) (by (dsimp only [List.set, List.cons_append, List.nil_append, List.take, List.drop]; done)) ?_)
    refine AO.nil ?_
    refine AQ.thenN ?_
    refine AW.seq ?_
    refine AW.region ?_
    refine AO.op (O.fieldAddr rfl rfl) rfl rfl rfl ?_
    refine AO.op (O.load rfl rfl (by repeat (exact List.Mem.head _)) (by rfl)) rfl rfl rfl ?_
    refine AO.op (O.move rfl rfl) rfl rfl rfl ?_
    refine AO.op (O.gtr rfl rfl rfl (by rfl)) rfl rfl rfl ?_
    refine AO.nil ?_
    refine AQ.thenN ?_
    refine AW.split rfl (fun hu => ?_) (fun hu => ?_) <;> (try simp only [decide_eq_true_eq, decide_eq_false_iff_not, beq_iff_eq, beq_eq_false_iff_ne, bne_iff_ne, bne_eq_false_iff_eq, Bool.not_eq_true', Bool.not_eq_false', Bool.not_eq_true, Bool.not_eq_false, ne_eq, Int.not_lt, Int.not_le, Bool.and_eq_true, Bool.or_eq_true, Bool.or_eq_false_iff, Bool.and_eq_false_imp, strOf_toList, Decidable.not_not] at hu)
    ·skip
     rw [if_pos (show liveH now (hd e.inn k) = true from decide_eq_true hu)] at hf
     have hfl2 : ((e.inn.take (k + 1)).filter (liveH now)).length = ((e.inn.take k).filter (liveH now)).length + 1 := by rw [hf, List.length_append]; rfl
     refine AW.seq ?_
     refine AW.region ?_
     refine AO.op (O.fieldAddr rfl rfl) rfl rfl rfl ?_
     refine AO.op (O.loadK rfl rfl (by repeat (exact List.Mem.head _)) (by rfl) (by rfl)) rfl rfl rfl ?_
     refine AO.op (O.call rfl Tryz.func56 rfl rfl rfl (message_fn (hd e.inn k).m (hs.im _ (getD_mem _ hk)))) rfl rfl rfl ?_
     refine AO.op (O.fieldAddr rfl rfl) rfl rfl rfl ?_
     (refine AO.store (i := 0) rfl rfl rfl rfl rfl rfl (by rfl) (by rfl) (by rfl) (by (dsimp only [List.set, List.cons_append, List.nil_append, List.take, List.drop]; done)) (by (dsimp only [List.set, List.cons_append, List.nil_append, List.take, List.drop]; done)) ?_)
     refine AO.nil ?_
     refine AQ.thenN ?_
     refine AW.region ?_
     refine AO.op (O.fieldAddr rfl rfl) rfl rfl rfl ?_
     refine AO.op (O.load rfl rfl (by repeat (first | exact List.Mem.head _ | refine List.Mem.tail _ ?_)) (by rfl)) rfl rfl rfl ?_
     refine AO.op (O.loadK rfl rfl (by repeat (exact List.Mem.head _)) (by rfl) (by rfl)) rfl rfl rfl ?_
     refine AO.opB (O.buildSlice rfl rfl rfl (by rfl) (by rfl) (by rfl) (by rfl)) rfl rfl rfl ?_
     intro B11
     refine AO.g ?_
     (refine G.freezeSl 0 69 rfl rfl ⟨Nat.le_refl _, by unfold maxLen; omega⟩ ?_)
     refine G.unfull 69 rfl ?_
     refine AO.u ?_
     dsimp only [List.eraseIdx]
     (refine AO.append' (i := 1) rfl rfl rfl rfl (by rfl) (by rfl) rfl rfl rfl (by exact SrcA.ro TyD.ax (by rfl) (Nat.le_of_ble_eq_true rfl)) (by rfl) (by (unfold maxLen; omega)) (by omega) (by (dsimp only [List.set, List.cons_append, List.nil_append, List.take, List.drop]; done)) (fun _ => by (dsimp only [List.set]; done)) ?_)
     intro V12 hV12
     refine AO.op (O.fieldAddr rfl rfl) rfl rfl rfl ?_
     (refine AO.store (i := 4) rfl rfl rfl rfl rfl rfl (by (simp [AV.cells, AV.one, *]; done)) (by rfl) (by rfl) (by (dsimp only [List.set, List.cons_append, List.nil_append, List.take, List.drop]; done)) (by (dsimp only [List.set, List.cons_append, List.nil_append, List.take, List.drop]; done)) ?_)
     refine AO.nil ?_
     refine AQ.blockN ?_
     refine AQ.thenN ?_
     refine AW.region ?_
     refine AO.op (O.add rfl rfl rfl (by exact wI64 (by omega))) rfl rfl rfl ?_
     refine AO.op (O.move rfl rfl) rfl rfl rfl ?_
     refine AO.nil ?_
     refine AQ.loopKN _ _ _ (by omega) (⟨k + 1, _, by omega, ‹_›, rfl, rfl, by rw [hfl2, hf, hdsA_snoc]⟩) (by repeat (first | exact envNil | refine envCons rfl ?_)) (by repeat (first | exact envNil | refine envCons rfl ?_)) (by repeat (first | exact subPnil | refine subPcons 1 rfl ?_))
    ·skip
     rw [if_neg (show ¬ liveH now (hd e.inn k) = true from fun h => absurd (of_decide_eq_true h) (by omega)), List.append_nil] at hf
     refine AW.skip ?_
     refine AQ.blockN ?_
     refine AQ.thenN ?_
     refine AW.region ?_
     refine AO.op (O.add rfl rfl rfl (by exact wI64 (by omega))) rfl rfl rfl ?_
     refine AO.op (O.move rfl rfl) rfl rfl rfl ?_
     refine AO.nil ?_
     refine AQ.loopKN _ _ _ (by omega) (⟨k + 1, V3, by omega, hV3, rfl, rfl, by rw [hf]⟩) (by repeat (first | exact envNil | refine envCons rfl ?_)) (by repeat (first | exact envNil | refine envCons rfl ?_)) (by repeat (first | exact subPnil | refine subPcons 1 rfl ?_))
   ·skip
    obtain rfl : k = e.inn.length := by omega
    rw [List.take_length]
    refine AW.exit ?_
    refine AQ.thenX ?_
    refine AQ.loopX ?_
    refine AQ.blockX rfl ?_
    refine AQ.thenN ?_
    refine AW.seq ?_
    refine AW.region ?_
    refine AO.op (O.loadK rfl rfl (by repeat (first | exact List.Mem.head _ | refine List.Mem.tail _ ?_)) (by rfl) (by rfl)) rfl rfl rfl ?_
    (refine AO.store (i := 4) rfl rfl rfl rfl rfl rfl (by (simp [AV.cells, AV.one, roB, roI, roO, show ∀ k z, (Value.int k z).oneCell' = true from fun _ _ => rfl, show ∀ k, (Value.bool k).oneCell' = true from fun _ => rfl, *]; done)) (by rfl) (by rfl) (by (dsimp only [List.set, List.cons_append, List.nil_append, List.take, List.drop]; done)) (by (dsimp only [List.set, List.cons_append, List.nil_append, List.take, List.drop]; done)) ?_)
    refine AO.nil ?_
    refine AQ.thenN ?_
    refine AW.ret ?_
    refine AQ.retCell rfl rfl (by repeat (first | exact List.Mem.head _ | refine List.Mem.tail _ ?_)) (by rfl) rfl ⟨_, by repeat (first | exact List.Sublist.slnil | refine List.Sublist.cons_cons _ ?_ | refine List.Sublist.cons _ ?_), List.Perm.refl _⟩ (⟨V, V2, V3, hV, hV2, hV3, rfl, rfl⟩)
end Go.Proofs.YtoonnnifelnaiaaGreatDoor.By

namespace Go.Proofs.YtoonnnifelnaiaaGreatDoor.By
open Go.RowKit L A
set_option linter.unusedVariables false
set_option maxRecDepth 20000
set_option linter.unusedSimpArgs false
attribute [local irreducible] AW AQ AO
end Go.Proofs.YtoonnnifelnaiaaGreatDoor.By

namespace Go.Proofs.YtoonnnifelnaiaaGreatDoor.A
open Go.RowKit L
set_option linter.unusedVariables false
set_option maxRecDepth 20000
set_option linter.unusedSimpArgs false
section
variable {Γ : Cx} {P : Program} {Q : Exit → Act → World → Prop} {E : Env} {H : List HE} {N : Nat} {o : Oper} {ops : Array Oper} {rest : List Oper}

/-- Values that hold no memory. -/
def Plain (v : AV) : Prop := (∃ c, v = .val c) ∨ ∃ xs, v = .agg xs ∧ ∀ x ∈ xs, ∃ c, x = .val c
theorem Plain.val {c : Value} : Plain (.val c) := .inl ⟨c, rfl⟩
theorem Plain.rel {v : AV} (h : Plain v) {R R' : Nat → Prop} {W W' : World} {u : Value} (hv : RelV R W v u) : RelV R' W' v u := by
 rcases h with ⟨c, rfl⟩ | ⟨xs, rfl, hx⟩
 ·rw [hv.val_inv]; exact .val _
 ·cases hv with
  | agg _ cs hs hr =>
   refine .agg _ cs hs fun j hj => ?_
   obtain ⟨c, hc⟩ := hx xs[j] (List.getElem_mem hj)
   have := hr j hj
   rw [hc] at this ⊢
   rw [this.val_inv]; exact .val _

inductive LendB (b : Nat) (ys : List AV) : List AV → List AV → Prop
 | nil : LendB b ys [] []
 | same {a : AV} {r r' : List AV} : LendB b ys r r' → LendB b ys (a :: r) (a :: r')
 | lend {j : Nat} {r r' : List AV} : LendB b ys r r' → LendB b ys (.val (.pointer (some ⟨b, j, none⟩)) :: r) (.rp ys j :: r')
theorem blk_rp {R : Nat → Prop} {W : World} {b T room j : Nat} {xs : List AV} (h : HE.ok R W (.blk b T room xs)) : RelV (fun c => R c ∨ c = b) W (.rp xs j) (.pointer (some ⟨b, j, none⟩)) := by
 have := RelV.rp (R := fun c => R c ∨ c = b) (W := W) xs j b 0 (fun q => (W.cell? ⟨b, 0 + q, none⟩).getD undef) (.inr rfl) (fun q hq => by
  obtain ⟨u, hu, _⟩ := blk_cell h (j := q) (v := xs[q]) (by simp [hq])
  rw [Nat.zero_add, hu]; rfl) (fun q hq => by
  obtain ⟨u, hu, hr⟩ := blk_cell h (j := q) (v := xs[q]) (by simp [hq])
  rw [Nat.zero_add, hu]
  exact hr.mono (fun _ h => .inl h) (fun _ _ => rfl))
 simpa using this
theorem LendB.rel {R : Nat → Prop} {W : World} {b T room : Nat} {xs : List AV} (h : HE.ok R W (.blk b T room xs)) {a a' : List AV} (hl : LendB b xs a a') : ∀ {us : List Value}, RelL R W a us → RelL (fun c => R c ∨ c = b) W a' us := by
 induction hl with
 | nil => intro us h; exact h.mono (fun _ h => .inl h) (fun _ _ => rfl)
 | same _ ih =>
  intro us h
  obtain ⟨u, r, rfl, h1, h2⟩ := h.uncons
  exact RelL.cons (h1.mono (fun _ h => .inl h) (fun _ _ => rfl)) (ih h2)
 | lend _ ih =>
  intro us h'
  obtain ⟨u, r, rfl, h1, h2⟩ := h'.uncons
  rw [h1.val_inv]
  exact RelL.cons (blk_rp h) (ih h2)
end

/-! Bytes told by a function of their place. -/
def fnB (n : Nat) (f : Nat → UInt8) : List UInt8 := (List.range n).map f
def arB (n : Nat) (f : Nat → UInt8) : List AV := bytesA (fnB n f)
end Go.Proofs.YtoonnnifelnaiaaGreatDoor.A

namespace Go.Proofs.YtoonnnifelnaiaaGreatDoor.A
open Go.RowKit L
section
variable {Γ : Cx} {P : Program} {E : Env} {H : List HE} {N : Nat} {o : Oper}
theorem RelV.plain {R R' : Nat → Prop} {W W' : World} {x : AV} {u : Value} (hx : ∃ c, x = .val c) (h : RelV R W x u) : RelV R' W' x u := by
 obtain ⟨c, rfl⟩ := hx
 rw [h.val_inv]; exact .val _
def PlainP (Post : AV → List HE → Prop) : Prop := ∀ r Hn, Post r Hn → (∀ (R R' : Nat → Prop) W u, RelV R W r u → RelV R' W r u) ∧ ∀ e ∈ Hn, ∀ (R R' : Nat → Prop) W, HE.ok R W e → HE.ok R' W e
end
end Go.Proofs.YtoonnnifelnaiaaGreatDoor.A

namespace Go.Proofs.YtoonnnifelnaiaaGreatDoor.A
open Go.RowKit L
section
variable {Γ : Cx} {P : Program} {E : Env} {H : List HE} {N : Nat} {o : Oper}
inductive LendX (H : List HE) : List AV → List AV → Prop
 | nil : LendX H [] []
 | same {a : AV} {r r' : List AV} : LendX H r r' → LendX H (a :: r) (a :: r')
 | row {v : Value} {T sz n : Nat} {rs r r' : List AV} (i : Nat) (hi : H[i]? = some (.row v T sz n rs)) : LendX H r r' → LendX H (.val v :: r) (.ro false n rs :: r')
 | agg {xs xs' r r' : List AV} : LendX H xs xs' → LendX H r r' → LendX H (.agg xs :: r) (.agg xs' :: r')
theorem LendX.rel {R : Nat → Prop} {W : World} (hok : ∀ e ∈ H, e.ok R W) {a a' : List AV} (h : LendX H a a') : ∀ {us : List Value}, RelL R W a us → RelL (fun b => R b ∨ ∃ e ∈ H, e.foot b) W a' us := by
 induction h with
 | nil => intro us h; exact h.mono (fun _ h => .inl h) (fun _ _ => rfl)
 | same _ ih =>
  intro us h
  obtain ⟨u, r, rfl, h1, h2⟩ := h.uncons
  exact RelL.cons (h1.mono (fun _ h => .inl h) (fun _ _ => rfl)) (ih h2)
 | row i hi _ ih =>
  intro us h
  obtain ⟨u, r, rfl, h1, h2⟩ := h.uncons
  have := h1.val_inv
  subst this
  have hm := List.mem_of_getElem? hi
  exact RelL.cons ((row_ro (hok _ hm)).mono (fun b hb => hb.elim .inl fun hf => .inr ⟨_, hm, hf⟩) (fun _ _ => rfl)) (ih h2)
 | agg _ _ ih1 ih2 =>
  intro us h
  obtain ⟨u, r, rfl, h1, h2⟩ := h.uncons
  obtain ⟨vs, rfl, hv⟩ := h1.agg_inv
  exact RelL.cons (ih1 hv).toAgg (ih2 h2)
theorem O.callXP {f : FuncId} {xs : List Operand} {ats : Array TypeId} {args args' : List AV} {fn : Func} {Post : AV → List HE → Prop} (ho : o.op = .call { callee := .value (.func f), args := xs.toArray, argTypes := ats }) (hfn : P.funcs[f]? = some fn) (hn : (fn.name == "runtime.NumGoroutine") = false) (hb : fn.body.isNone = false)
  (hx : evs E xs = some args) (h : Sp P f args' [] Post) (hp : PlainP Post) (hl : LendX H args args') : OpW P N o E H Post := fun R a W h0 h2 h3 ha => by
 have hlt : ∀ b, (R b ∨ ∃ e ∈ H, e.foot b) → b < W.heap.size := by
  rintro b (hb | ⟨e, he, hb⟩)
  ·exact h0 b hb
  ·exact HE.ok_lt (h2 _ he) hb
 unfold Oper.wp
 rw [run_callF ho hfn hn hb, List.map_toArray]
 have hc := h W _ (xs.map a.eval) hlt (fun e he => by cases he) .nil (hl.rel h2 (ha.evs hx))
 refine Calls.mono hc ?_
 rintro e W' ⟨u, r, H', R', rfl, hpo, hs, hv⟩
 have p := fn_post1 hs hv hlt
 obtain ⟨q1, q2⟩ := hp r H' hpo
 refine ⟨u, r, H', R, rfl, hpo, p.ext, fun _ h => h, fun _ h => .inl h, q1 _ _ _ _ hv, fun e he => ⟨q2 e he _ _ _ (p.ok e he).1, fun b hb => ?_⟩, p.disj⟩
 have := (p.ok e he).2 b hb
 exact ⟨this.1, fun hr => by have := h0 b hr; omega⟩
theorem plain_val (c : Value) : PlainP (Is (.val c)) := by
 rintro r Hn ⟨rfl, rfl⟩
 exact ⟨fun R R' W u h => h.plain ⟨_, rfl⟩, fun e he => by cases he⟩
/-- .. the yield a plain value. -/
theorem O.callX {f : FuncId} {xs : List Operand} {ats : Array TypeId} {args args' : List AV} {fn : Func} {c : Value} (ho : o.op = .call { callee := .value (.func f), args := xs.toArray, argTypes := ats }) (hfn : P.funcs[f]? = some fn) (hn : (fn.name == "runtime.NumGoroutine") = false) (hb : fn.body.isNone = false)
  (hx : evs E xs = some args) (h : Sp P f args' [] (Is (.val c))) (hl : LendX H args args') : OpW P N o E H (Is (.val c)) := O.callXP ho hfn hn hb hx h (plain_val c) hl
end
end Go.Proofs.YtoonnnifelnaiaaGreatDoor.A

namespace Go.Proofs.YtoonnnifelnaiaaGreatDoor.By
open Go.RowKit L A
set_option linter.unusedVariables false
set_option maxRecDepth 20000
set_option linter.unusedSimpArgs false
attribute [local irreducible] AW AQ AO
def uB (peer id : Int) (u : Us) : Bool := u.peer == peer && u.id == id
def wB (peer id : Int) (w : Wt) : Bool := w.peer == peer && w.m.id == id
def takenB (out : List Wt) (used : List Us) (peer id : Int) : Bool := used.any (uB peer id) || out.any (wB peer id)
theorem any_succ {α : Type} (p : α → Bool) (d : α) {l : List α} {k : Nat} (h : k < l.length) : (l.take (k + 1)).any p = ((l.take k).any p || p (l.getD k d)) := by
 rw [take_snoc d h, List.any_append]; simp
theorem nodup_sub : ∀ (s l : List Int), s.Nodup → (∀ x ∈ s, x ∈ l) → s.length ≤ l.length
 | [], l, _, _ => by simp
 | x :: s, l, h, hs => by
  have h1 := List.nodup_cons.1 h
  have hx := hs x (List.mem_cons_self ..)
  have := nodup_sub s (l.erase x) h1.2 fun y hy => by
   have hne : y ≠ x := fun e => h1.1 (e ▸ hy)
   exact (List.mem_erase_of_ne hne).2 (hs y (List.mem_cons_of_mem _ hy))
  rw [List.length_erase_of_mem hx] at this
  have : 0 < l.length := List.length_pos_of_mem hx
  simp only [List.length_cons]; omega
theorem taken_mem {out : List Wt} {used : List Us} {peer id : Int} (h : takenB out used peer id = true) : id ∈ used.map Us.id ++ out.map (fun w => w.m.id) := by
 unfold takenB at h
 rw [Bool.or_eq_true, List.any_eq_true, List.any_eq_true] at h
 rw [List.mem_append, List.mem_map, List.mem_map]
 rcases h with ⟨u, hu, h⟩ | ⟨u, hu, h⟩
 ·unfold uB at h; simp only [Bool.and_eq_true, beq_iff_eq] at h; exact .inl ⟨u, hu, h.2⟩
 ·unfold wB at h; simp only [Bool.and_eq_true, beq_iff_eq] at h; exact .inr ⟨u, hu, h.2⟩
def freeK (out : List Wt) (used : List Us) (peer next : Int) : Nat := ((List.range 64).find? fun k : Nat => !takenB out used peer ((next + (k : Int)) % 65536)).getD 0
def freeI (out : List Wt) (used : List Us) (peer next : Int) : Int := (next + (freeK out used peer next : Int)) % 65536
theorem freeK_spec {out : List Wt} {used : List Us} {peer next : Int} (h : used.length + out.length ≤ 48) :
  freeK out used peer next < 64 ∧ takenB out used peer ((next + (freeK out used peer next : Int)) % 65536) = false ∧ ∀ k : Nat, k < freeK out used peer next → takenB out used peer ((next + (k : Int)) % 65536) = true := by
 unfold freeK
 cases hf : (List.range 64).find? (fun k : Nat => !takenB out used peer ((next + (k : Int)) % 65536)) with
 | some K =>
  have h1 := List.find?_some hf
  have h2 := List.mem_range.1 (List.mem_of_find?_eq_some hf)
  refine ⟨h2, by simpa using h1, fun k hk => ?_⟩
  have h3 : ((List.range 64).find? fun k : Nat => !takenB out used peer ((next + (k : Int)) % 65536)) = some K := hf
  rw [List.find?_eq_some_iff_getElem] at h3
  obtain ⟨_, i, hi, hie, h4⟩ := h3
  rw [List.getElem_range] at hie
  subst hie
  have := h4 k hk
  rw [List.getElem_range] at this
  simpa using this
 | none =>
  exfalso
  have h1 := List.find?_eq_none.1 hf
  have h2 : ∀ k : Nat, k < 64 → takenB out used peer ((next + (k : Int)) % 65536) = true := fun k hk => by
   have := h1 k (List.mem_range.2 hk)
   simpa using this
  have h3 := nodup_sub ((List.range 64).map fun k : Nat => (next + (k : Int)) % 65536) (used.map Us.id ++ out.map (fun w => w.m.id)) ?_ ?_
  ·simp only [List.length_map, List.length_range, List.length_append] at h3
   omega
  ·rw [List.Nodup, List.pairwise_map]
   refine List.Pairwise.imp_of_mem ?_ List.nodup_range
   intro a b ha hb hab he
   rw [List.mem_range] at ha hb
   omega
  ·intro x hx
   obtain ⟨k, hk, rfl⟩ := List.mem_map.1 hx
   exact taken_mem (h2 k (List.mem_range.1 hk))
set_option maxHeartbeats 4000000 in
theorem free_fn (next : Int) (out : List Wt) (used : List Us) (x : Value) (hx : x.oneCell' = true) (peer : Int) (hn : IdOk next) (hl : used.length + out.length ≤ 48) : Sp Tryz.prog 55 [.agg [.val (.int .i64 next), roW out, roU used, .val x], .val (.int .i64 peer)] [] (Is (.val (.int .i64 (freeI out used peer next)))) := by
 obtain ⟨hK1, hK2, hK3⟩ := freeK_spec (peer := peer) (next := next) hl
 obtain ⟨K, hK⟩ : ∃ K, K = freeK out used peer next := ⟨_, rfl⟩
 have hfI : freeI out used peer next = (next + (K : Int)) % 65536 := by rw [hK]; rfl
 rw [← hK] at hK1 hK2 hK3
 rw [hfI]
 refine Sp.enter Tryz.func55 rfl _ Tryz.ntmps55 rfl (fun w0 R0 => ?_)
 refine AW.seq ?_
 refine AW.region ?_
 refine AO.opB (O.box rfl rfl rfl rfl rfl) rfl rfl rfl ?_
 intro B1
 refine AO.op (O.assign rfl rfl) rfl rfl rfl ?_
 refine AO.nil ?_
 refine AQ.thenN ?_
 refine AW.seq ?_
 refine AW.region ?_
 refine AO.op (O.fieldAddr rfl rfl) rfl rfl rfl ?_
 refine AO.op (O.load rfl rfl (by repeat (exact List.Mem.head _)) (by rfl)) rfl rfl rfl ?_
 refine AO.op (O.assign rfl rfl) rfl rfl rfl ?_
 refine AO.nil ?_
 refine AQ.thenN ?_
 refine AW.block ?_
 refine AW.loopK [(1, _), (2, _)] (fun nn E H => ∃ (k : Nat) (id : Int), (k ≤ K) ∧ (id = (next + (k : Int)) % 65536) ∧ nn = K - k ∧ E = [(5, .val (.int .i64 id))] ∧ H = [.blk B1 56 4 [.val (.int .i64 next), roW out, roU used, .val x]]) _ (⟨0, next, by omega, by omega, rfl, rfl, rfl⟩) (by repeat (first | exact envNil | refine envCons rfl ?_)) (by repeat (first | exact envNil | refine envCons rfl ?_)) (by repeat (first | exact subPnil | refine subPcons 0 rfl ?_)) ?_
 rintro nn E H ⟨k, id, hk, hid, rfl, rfl, rfl⟩
 dsimp only [List.cons_append, List.nil_append]
 have hidb : 0 ≤ id ∧ id ≤ 65535 := by omega
 refine AW.seq ?_
 refine AW.block ?_
 refine AW.seq ?_
 refine AW.region ?_
 refine AO.op (O.assign rfl rfl) rfl rfl rfl ?_
 refine AO.nil ?_
 refine AQ.thenN ?_
 refine AW.seq ?_
 refine AW.seq ?_
 refine AW.region ?_
 refine AO.op (O.fieldAddr rfl rfl) rfl rfl rfl ?_
 refine AO.op (O.load rfl rfl (by repeat (exact List.Mem.head _)) (by rfl)) rfl rfl rfl ?_
 refine AO.op (O.lenR rfl rfl) rfl rfl rfl ?_
 refine AO.op (O.move rfl rfl) rfl rfl rfl ?_
 refine AO.nil ?_
 refine AQ.thenN ?_
 refine AW.block ?_
 refine AW.loopK [(1, _), (2, _), (5, _), (17, _), (18, _)] (fun nn E H => ∃ (j : Nat) (b : Bool), (j ≤ used.length) ∧ (b = (used.take j).any (uB peer id)) ∧ nn = used.length - j ∧ E = [(6, .val (.bool b)), (19, .val (.int .i64 (j : Int)))] ∧ H = [.blk B1 56 4 [.val (.int .i64 next), roW out, roU used, .val x]]) _ (⟨0, false, by omega, rfl, rfl, rfl, rfl⟩) (by repeat (first | exact envNil | refine envCons rfl ?_)) (by repeat (first | exact envNil | refine envCons rfl ?_)) (by repeat (first | exact subPnil | refine subPcons 0 rfl ?_)) ?_
 rintro nn E H ⟨j, b, hj, hb, rfl, rfl, rfl⟩
 dsimp only [List.cons_append, List.nil_append]
 refine AW.seq ?_
 refine AW.region ?_
 refine AO.op (O.lss rfl rfl rfl (by rfl)) rfl rfl rfl ?_
 refine AO.nil ?_
 refine AQ.thenN ?_
 refine AW.seq ?_
 refine AW.split rfl (fun h1 => ?_) (fun h1 => ?_) <;> (try simp only [decide_eq_true_eq, decide_eq_false_iff_not, beq_iff_eq, beq_eq_false_iff_ne, bne_iff_ne, bne_eq_false_iff_eq, Bool.not_eq_true', Bool.not_eq_false', Bool.not_eq_true, Bool.not_eq_false, ne_eq, Int.not_lt, Int.not_le, Bool.and_eq_true, Bool.or_eq_true, Bool.or_eq_false_iff, Bool.and_eq_false_imp, strOf_toList, Decidable.not_not] at h1)
 ·skip
  have hj' : j < used.length := by omega
  refine AW.skip ?_
  refine AQ.thenN ?_
  refine AW.seq ?_
  refine AW.block ?_
  refine AW.seq ?_
  refine AW.region ?_
  refine AO.op (O.idxR rfl rfl rfl ⟨(by omega), (by omega)⟩) rfl rfl rfl ?_
  refine AO.op (O.loadRK rfl rfl (by exact getU (by omega) (by omega)) (by rfl)) rfl rfl rfl ?_
  refine AO.opB (O.alloc rfl (by (dsimp only [zerosA, List.replicate, List.append, List.flatten, AV.cells, Value.cells, List.toList_toArray, List.map]; done)) (by rfl)) rfl rfl rfl ?_
  intro B2
  (refine AO.store (i := 0) rfl rfl rfl rfl rfl rfl (by rfl) (by rfl) (by rfl) (by (dsimp only [List.set, List.cons_append, List.nil_append, List.take, List.drop]; done)) (by (dsimp only [List.set, List.cons_append, List.nil_append, List.take, List.drop]; done)) ?_)
  refine AO.nil ?_
  refine AQ.thenN ?_
  refine AW.region ?_
  refine AO.op (O.move rfl rfl) rfl rfl rfl ?_
  refine AO.op (O.move rfl rfl) rfl rfl rfl ?_
  refine AO.opG rfl rfl rfl (fun hp => O.fieldAddr rfl rfl) ?_
  refine AO.opG rfl rfl rfl (fun hp => OpW.force 25 rfl (by exact hp) (O.load rfl rfl (by repeat (exact List.Mem.head _)) (by rfl))) ?_
  refine AO.opG rfl rfl rfl (fun hp => O.move rfl rfl) ?_
  refine AO.opG rfl rfl rfl (fun hp => OpW.force 26 rfl (by exact hp) (OpW.force 27 rfl (by exact hp) (O.eql rfl rfl rfl (by rfl)))) ?_
  refine AO.opG rfl rfl rfl (fun hp => OpW.force 28 rfl (by exact hp) (O.move rfl rfl)) ?_
  refine AO.opG rfl rfl rfl (fun hp => O.fieldAddr rfl rfl) ?_
  refine AO.opG rfl rfl rfl (fun hp => OpW.force 30 rfl (by exact hp) (O.load rfl rfl (by repeat (exact List.Mem.head _)) (by rfl))) ?_
  refine AO.opG rfl rfl rfl (fun hp => O.move rfl rfl) ?_
  refine AO.opG rfl rfl rfl (fun hp => OpW.force 31 rfl (by exact hp) (OpW.force 32 rfl (by exact hp) (O.eql rfl rfl rfl (by rfl)))) ?_
  refine AO.opG rfl rfl rfl (fun hp => OpW.force 29 rfl (by exact hp) (O.pickAnd rfl rfl rfl rfl (fun h => by simp_all))) ?_
  refine AO.op (O.pickOr rfl rfl rfl rfl (fun h => by exact congrArg (fun b => !b) h)) rfl rfl rfl ?_
  refine AO.op (O.assign rfl rfl) rfl rfl rfl ?_
  refine AO.nil ?_
  refine AQ.blockN ?_
  refine AQ.thenN ?_
  refine AW.region ?_
  refine AO.op (O.add rfl rfl rfl (by exact wI64 (by omega))) rfl rfl rfl ?_
  refine AO.op (O.move rfl rfl) rfl rfl rfl ?_
  refine AO.nil ?_
  refine AQ.loopKN _ _ _ (by omega) (⟨j + 1, _, by omega, (by rw [any_succ _ Us.none hj', ← hb]), rfl, rfl, rfl⟩) (by repeat (first | exact envNil | refine envCons rfl ?_)) (by repeat (first | exact envNil | refine envCons rfl ?_)) (by repeat (first | exact subPnil | refine subPcons 1 rfl ?_))
 ·skip
  obtain rfl : j = used.length := by omega
  rw [List.take_length] at hb
  refine AW.exit ?_
  refine AQ.thenX ?_
  refine AQ.loopX ?_
  refine AQ.blockX rfl ?_
  refine AQ.thenN ?_
  refine AW.seq ?_
  refine AW.seq ?_
  refine AW.region ?_
  refine AO.op (O.fieldAddr rfl rfl) rfl rfl rfl ?_
  refine AO.op (O.load rfl rfl (by repeat (exact List.Mem.head _)) (by rfl)) rfl rfl rfl ?_
  refine AO.op (O.lenR rfl rfl) rfl rfl rfl ?_
  refine AO.op (O.move rfl rfl) rfl rfl rfl ?_
  refine AO.nil ?_
  refine AQ.thenN ?_
  refine AW.block ?_
  refine AW.loopK [(1, _), (2, _), (5, _), (38, _), (39, _)] (fun nn E H => ∃ (j : Nat) (b2 : Bool), (j ≤ out.length) ∧ (b2 = (b || (out.take j).any (wB peer id))) ∧ nn = out.length - j ∧ E = [(6, .val (.bool b2)), (40, .val (.int .i64 (j : Int)))] ∧ H = [.blk B1 56 4 [.val (.int .i64 next), roW out, roU used, .val x]]) _ (⟨0, b, by omega, by simp, rfl, rfl, rfl⟩) (by repeat (first | exact envNil | refine envCons rfl ?_)) (by repeat (first | exact envNil | refine envCons rfl ?_)) (by repeat (first | exact subPnil | refine subPcons 0 rfl ?_)) ?_
  rintro nn E H ⟨j, b2, hj, hb2, rfl, rfl, rfl⟩
  dsimp only [List.cons_append, List.nil_append]
  refine AW.seq ?_
  refine AW.region ?_
  refine AO.op (O.lss rfl rfl rfl (by rfl)) rfl rfl rfl ?_
  refine AO.nil ?_
  refine AQ.thenN ?_
  refine AW.seq ?_
  refine AW.split rfl (fun h2 => ?_) (fun h2 => ?_) <;> (try simp only [decide_eq_true_eq, decide_eq_false_iff_not, beq_iff_eq, beq_eq_false_iff_ne, bne_iff_ne, bne_eq_false_iff_eq, Bool.not_eq_true', Bool.not_eq_false', Bool.not_eq_true, Bool.not_eq_false, ne_eq, Int.not_lt, Int.not_le, Bool.and_eq_true, Bool.or_eq_true, Bool.or_eq_false_iff, Bool.and_eq_false_imp, strOf_toList, Decidable.not_not] at h2)
  ·skip
   have hj' : j < out.length := by omega
   refine AW.skip ?_
   refine AQ.thenN ?_
   refine AW.seq ?_
   refine AW.block ?_
   refine AW.seq ?_
   refine AW.region ?_
   refine AO.op (O.idxR rfl rfl rfl ⟨(by omega), (by omega)⟩) rfl rfl rfl ?_
   refine AO.op (O.loadRK rfl rfl (by exact getW (by omega) (by omega)) (by rfl)) rfl rfl rfl ?_
   refine AO.opB (O.alloc rfl (by (dsimp only [zerosA, List.replicate, List.append, List.flatten, AV.cells, Value.cells, List.toList_toArray, List.map]; done)) (by rfl)) rfl rfl rfl ?_
   intro B3
   (refine AO.store (i := 0) rfl rfl rfl rfl rfl rfl (by rfl) (by rfl) (by rfl) (by (dsimp only [List.set, List.cons_append, List.nil_append, List.take, List.drop]; done)) (by (dsimp only [List.set, List.cons_append, List.nil_append, List.take, List.drop]; done)) ?_)
   refine AO.nil ?_
   refine AQ.thenN ?_
   refine AW.region ?_
   refine AO.op (O.move rfl rfl) rfl rfl rfl ?_
   refine AO.op (O.move rfl rfl) rfl rfl rfl ?_
   refine AO.opG rfl rfl rfl (fun hp => O.fieldAddr rfl rfl) ?_
   refine AO.opG rfl rfl rfl (fun hp => OpW.force 46 rfl (by exact hp) (O.load rfl rfl (by repeat (exact List.Mem.head _)) (by rfl))) ?_
   refine AO.opG rfl rfl rfl (fun hp => O.move rfl rfl) ?_
   refine AO.opG rfl rfl rfl (fun hp => OpW.force 47 rfl (by exact hp) (OpW.force 48 rfl (by exact hp) (O.eql rfl rfl rfl (by rfl)))) ?_
   refine AO.opG rfl rfl rfl (fun hp => OpW.force 49 rfl (by exact hp) (O.move rfl rfl)) ?_
   refine AO.opG rfl rfl rfl (fun hp => O.fieldAddr rfl rfl) ?_
   refine AO.opG rfl rfl rfl (fun hp => OpW.force 51 rfl (by exact hp) (O.fieldAddr rfl rfl)) ?_
   refine AO.opG rfl rfl rfl (fun hp => OpW.force 52 rfl (by exact hp) (O.load rfl rfl (by repeat (exact List.Mem.head _)) (by rfl))) ?_
   refine AO.opG rfl rfl rfl (fun hp => O.move rfl rfl) ?_
   refine AO.opG rfl rfl rfl (fun hp => OpW.force 53 rfl (by exact hp) (OpW.force 54 rfl (by exact hp) (O.eql rfl rfl rfl (by rfl)))) ?_
   refine AO.opG rfl rfl rfl (fun hp => OpW.force 50 rfl (by exact hp) (O.pickAnd rfl rfl rfl rfl (fun h => by simp_all))) ?_
   refine AO.op (O.pickOr rfl rfl rfl rfl (fun h => by exact congrArg (fun b => !b) h)) rfl rfl rfl ?_
   refine AO.op (O.assign rfl rfl) rfl rfl rfl ?_
   refine AO.nil ?_
   refine AQ.blockN ?_
   refine AQ.thenN ?_
   refine AW.region ?_
   refine AO.op (O.add rfl rfl rfl (by exact wI64 (by omega))) rfl rfl rfl ?_
   refine AO.op (O.move rfl rfl) rfl rfl rfl ?_
   refine AO.nil ?_
   refine AQ.loopKN _ _ _ (by omega) (⟨j + 1, _, by omega, (by rw [any_succ _ Wt.none hj', ← Bool.or_assoc, ← hb2]), rfl, rfl, rfl⟩) (by repeat (first | exact envNil | refine envCons rfl ?_)) (by repeat (first | exact envNil | refine envCons rfl ?_)) (by repeat (first | exact subPnil | refine subPcons 1 rfl ?_))
  ·skip
   obtain rfl : j = out.length := by omega
   rw [List.take_length] at hb2
   have hb3 : b2 = takenB out used peer id := by rw [hb2, hb]; rfl
   refine AW.exit ?_
   refine AQ.thenX ?_
   refine AQ.loopX ?_
   refine AQ.blockX rfl ?_
   refine AQ.thenN ?_
   refine AW.seq ?_
   refine AW.region ?_
   refine AO.op (O.move rfl rfl) rfl rfl rfl ?_
   refine AO.op (O.not rfl rfl (by rfl)) rfl rfl rfl ?_
   refine AO.nil ?_
   refine AQ.thenN ?_
   refine AW.split rfl (fun h3 => ?_) (fun h3 => ?_) <;> (try simp only [decide_eq_true_eq, decide_eq_false_iff_not, beq_iff_eq, beq_eq_false_iff_ne, bne_iff_ne, bne_eq_false_iff_eq, Bool.not_eq_true', Bool.not_eq_false', Bool.not_eq_true, Bool.not_eq_false, ne_eq, Int.not_lt, Int.not_le, Bool.and_eq_true, Bool.or_eq_true, Bool.or_eq_false_iff, Bool.and_eq_false_imp, strOf_toList, Decidable.not_not] at h3)
   ·skip
    have : k = K := by
     rcases Nat.lt_or_ge k K with h | h
     ·rw [hb3, hid, hK3 k h] at h3; simp at h3
     ·omega
    refine AW.seq ?_
    refine AW.region ?_
    refine AO.op (O.move rfl rfl) rfl rfl rfl ?_
    refine AO.op (O.assign rfl rfl) rfl rfl rfl ?_
    refine AO.nil ?_
    refine AQ.thenN ?_
    refine AW.ret ?_
    refine AQ.blockR ?_
    refine AQ.thenR ?_
    refine AQ.loopR ?_
    refine AQ.blockR ?_
    refine AQ.ret1 rfl rfl ⟨_, List.nil_sublist _, .nil⟩ (⟨by rw [hid, this], rfl⟩)
   ·skip
    have hlt : k < K := by
     rcases Nat.lt_or_ge k K with h | h
     ·exact h
     ·obtain rfl : k = K := by omega
      rw [hb3, hid, hK2] at h3; simp at h3
    refine AW.skip ?_
    refine AQ.blockN ?_
    refine AQ.thenN ?_
    refine AW.region ?_
    refine AO.op (O.move rfl rfl) rfl rfl rfl ?_
    refine AO.op (O.add rfl rfl rfl (by exact wI64 (by omega))) rfl rfl rfl ?_
    refine AO.op (O.and_ rfl rfl rfl (andI64 16 (by decide) (by decide) (m := 65536) (by decide) (by omega))) rfl rfl rfl ?_
    refine AO.op (O.assign rfl rfl) rfl rfl rfl ?_
    refine AO.nil ?_
    refine AQ.loopKN _ _ _ (by omega) (⟨k + 1, (id + 1) % 65536, by omega, (by omega), rfl, rfl, rfl⟩) (by repeat (first | exact envNil | refine envCons rfl ?_)) (by repeat (first | exact envNil | refine envCons rfl ?_)) (by repeat (first | exact subPnil | refine subPcons 0 rfl ?_))
end Go.Proofs.YtoonnnifelnaiaaGreatDoor.By

namespace Go.Proofs.YtoonnnifelnaiaaGreatDoor.By
open Go.RowKit L A
set_option linter.unusedVariables false
set_option maxRecDepth 20000
set_option linter.unusedSimpArgs false
attribute [local irreducible] AW AQ AO
def CmpW (l : List Wt) : Prop := l.length ≤ 1000000 ∧ ∀ w ∈ l, w.m.opts.length ≤ 140737488355328
structure CmpE (e : Ep) : Prop where
 o : CmpW e.out
 u : e.used.length ≤ 1000000
 i : e.inn.length ≤ 1000000
 m : ∀ h ∈ e.inn, h.m.opts.length ≤ 140737488355328
end Go.Proofs.YtoonnnifelnaiaaGreatDoor.By

namespace Go.Proofs.YtoonnnifelnaiaaGreatDoor.By
open Go.RowKit L A
set_option linter.unusedVariables false
set_option maxRecDepth 20000
set_option linter.unusedSimpArgs false
attribute [local irreducible] AW AQ AO
theorem AscO_val : ∀ {l : Int} {os : List Opt}, AscO l os → ∀ o ∈ os, (o.val.length : Int) ≤ 1034
 | l, [], _, o, ho => by simp at ho
 | l, p :: os, h, o, ho => by
  obtain ⟨k, hk, rfl⟩ := List.getElem_of_mem ho
  have := (AscO_at h hk).2.2
  rw [show oat (p :: os) k = (p :: os)[k] by simp only [oat, List.getD_eq_getElem?_getD, List.getElem?_eq_getElem hk, Option.getD_some]] at this
  exact this
theorem ValM.sm {m : Msg} (h : ValM m) : SmM m := by
 obtain ⟨⟨_, ⟨_, _, h1, h2⟩, h3, _, _, h4⟩, _⟩ := h
 exact ⟨by omega, by omega, by omega, fun o ho => by have := AscO_val h3 o ho; omega⟩
theorem ValM.withId {m : Msg} (h : ValM m) {id : Int} (hi : 0 ≤ id ∧ id ≤ 65535) : ValM { m with id := id } := by
 obtain ⟨⟨h1, ⟨_, _, h2⟩, h3⟩, h4⟩ := h
 refine ⟨⟨h1, ⟨hi.1, hi.2, h2⟩, h3⟩, ?_⟩
 have e : (raw { m with id := id }).length = (raw m).length := by simp only [raw, headM, List.length_append, List.length_cons, List.length_nil]
 rw [e]; exact h4
theorem none_sm : SmM Msg.none := ⟨by simp [Msg.none], by simp [Msg.none], by simp [Msg.none], by simp [Msg.none]⟩
theorem OkH.sm {h : Hd} (hh : OkH h) : SmM h.m := by
 obtain ⟨_, _, _, h1, h2⟩ := hh
 cases ha : h.ans with
 | true => exact (h1 ha).sm
 | false => rw [h2 ha]; exact none_sm
theorem ValE.sm {e : Ep} (h : ValE e) : SmE e := by
 obtain ⟨_, h2, h3, h4, h5, _, _, h8, _⟩ := h
 exact ⟨by omega, by omega, by omega, fun w hw => (h5 w hw).2.2.1.sm, fun x hx => OkH.sm (h8 x hx)⟩
theorem cleanE_out (e : Ep) (now : Int) : (cleanE e now).out = e.out := rfl
theorem clean_used (e : Ep) (now : Int) : (cleanE e now).used.length ≤ e.used.length := List.length_filter_le _ _
theorem clean_inn (e : Ep) (now : Int) : (cleanE e now).inn.length ≤ e.inn.length := List.length_filter_le _ _
abbrev SendOk (e : Ep) (p : Int) (m : Msg) (now : Int) : Prop := ValE e ∧ TimeOk now ∧ PeerOk p ∧ ValM m ∧ (m.ty = 0 ∨ m.ty = 1)
abbrev SendFull (c : Ep) (m : Msg) : Prop := 32 ≤ c.used.length ∨ (m.ty = 0 ∧ 16 ≤ c.out.length)
def sentE (c : Ep) (p : Int) (m : Msg) (now id : Int) : Ep := ⟨(id + 1) % 65536, if m.ty = 0 then c.out ++ [⟨p, { m with id := id }, now + 2, 1⟩] else c.out, c.used ++ [⟨p, id, now + 128⟩], c.inn⟩
def sendR (e : Ep) (p : Int) (m : Msg) (now : Int) : Ep × Msg × Int :=
 if SendOk e p m now then
  if SendFull (cleanE e now) m then (Ep.none, Msg.none, 16)
  else (sentE (cleanE e now) p m now (freeI (cleanE e now).out (cleanE e now).used p e.next), { m with id := freeI (cleanE e now).out (cleanE e now).used p e.next }, 0)
 else (Ep.none, Msg.none, 1)
abbrev resS (r : Ep × Msg × Int) : AV := .tup [aggE r.1, aggM r.2.1, .val (.int .i64 r.2.2)]
theorem ret3S {q : AV} {r : Ep × Msg × Int} {a : Ep} {b : Msg} {c : Int} (h : r = (a, b, c)) (hq : q = .tup [aggE a, aggM b, .val (.int .i64 c)]) : Is (resS r) q [] := by subst h; exact ⟨hq, rfl⟩
theorem aggE_of {e : Ep} {n1 n2 n3 : Nat} {x1 x2 x3 : List AV} (h1 : n1 = e.out.length) (g1 : x1 = wtsA e.out) (h2 : n2 = e.used.length) (g2 : x2 = ussA e.used) (h3 : n3 = e.inn.length) (g3 : x3 = hdsA e.inn) : AV.agg [.val (.int .i64 e.next), .ro false n1 x1, .ro false n2 x2, .ro false n3 x3] = aggE e := by subst h1 g1 h2 g2 h3 g3; rfl
theorem sentE_con {c : Ep} {p : Int} {m : Msg} {now id : Int} (h : m.ty = 0) : sentE c p m now id = ⟨(id + 1) % 65536, c.out ++ [⟨p, { m with id := id }, now + 2, 1⟩], c.used ++ [⟨p, id, now + 128⟩], c.inn⟩ := by rw [sentE, if_pos h]
theorem sentE_non {c : Ep} {p : Int} {m : Msg} {now id : Int} (h : ¬m.ty = 0) : sentE c p m now id = ⟨(id + 1) % 65536, c.out, c.used ++ [⟨p, id, now + 128⟩], c.inn⟩ := by rw [sentE, if_neg h]
theorem snoc_len {α : Type} (l : List α) (a : α) : l.length + 1 = (l ++ [a]).length := by rw [List.length_append]; rfl
theorem aggE_tup {x y : AV} (h : x = y) (r : List AV) : AV.tup (x :: r) = AV.tup (y :: r) := by rw [h]
set_option maxHeartbeats 4000000 in
theorem send_fn (e : Ep) (p : Int) (m : Msg) (now : Int) (hb : BdE e) : Sp Tryz.prog 20 [aggE e, .val (.int .i64 p), aggM m, .val (.int .i64 now)] [] (Is (resS (sendR e p m now))) := by
 refine Sp.enter Tryz.func20 rfl _ Tryz.ntmps20 rfl (fun w0 R0 => ?_)
 refine AW.seq ?_
 refine AW.region ?_
 refine AO.opB (O.box rfl rfl rfl rfl rfl) rfl rfl rfl ?_
 intro B1
 refine AO.opB (O.box rfl rfl rfl rfl rfl) rfl rfl rfl ?_
 intro B2
 refine AO.opB (O.alloc rfl (by (dsimp only [zerosA, List.replicate, List.append, List.flatten, AV.cells, Value.cells, List.toList_toArray, List.map]; done)) (by rfl)) rfl rfl rfl ?_
 intro B3
 refine AO.opB (O.alloc rfl (by (dsimp only [zerosA, List.replicate, List.append, List.flatten, AV.cells, Value.cells, List.toList_toArray, List.map]; done)) (by rfl)) rfl rfl rfl ?_
 intro B4
 refine AO.op (O.assign rfl rfl) rfl rfl rfl ?_
 refine AO.nil ?_
 refine AQ.thenN ?_
 refine AW.seq ?_
 refine AW.seq ?_
 refine AW.region ?_
 (refine AO.op (O.loadK rfl rfl (by repeat (first | exact List.Mem.head _ | refine List.Mem.tail _ ?_)) (by (dsimp only [List.set, List.append, List.cons_append, List.nil_append, AV.cells, splice, List.take, List.drop, Nat.reduceAdd]; done)) (by rfl)) rfl rfl rfl ?_)
 refine AO.op (O.call rfl Tryz.func50 rfl rfl rfl (evalid_fn e hb)) rfl rfl rfl ?_
 refine AO.op (O.not rfl rfl (by rfl)) rfl rfl rfl ?_
 refine AO.op (O.move rfl rfl) rfl rfl rfl ?_
 refine AO.opG rfl rfl rfl (fun hp => O.move rfl rfl) ?_
 refine AO.opG rfl rfl rfl (fun hp => OpW.force 15 rfl (by exact hp) (O.call rfl Tryz.func51 rfl rfl rfl (timeOK_fn _))) ?_
 refine AO.opG rfl rfl rfl (fun hp => OpW.force 16 rfl (by exact hp) (O.not rfl rfl (by rfl))) ?_
 refine AO.op (O.pickOr rfl rfl rfl rfl (fun h => by exact congrArg (fun b => !b) h)) rfl rfl rfl ?_
 refine AO.op (O.move rfl rfl) rfl rfl rfl ?_
 refine AO.opG rfl rfl rfl (fun hp => O.move rfl rfl) ?_
 refine AO.opG rfl rfl rfl (fun hp => OpW.force 20 rfl (by exact hp) (O.call rfl Tryz.func52 rfl rfl rfl (peerOK_fn _))) ?_
 refine AO.opG rfl rfl rfl (fun hp => OpW.force 21 rfl (by exact hp) (O.not rfl rfl (by rfl))) ?_
 refine AO.op (O.pickOr rfl rfl rfl rfl (fun h => by exact congrArg (fun b => !b) h)) rfl rfl rfl ?_
 refine AO.op (O.move rfl rfl) rfl rfl rfl ?_
 (refine AO.opG rfl rfl rfl (fun hp => O.loadK rfl rfl (by repeat (first | exact List.Mem.head _ | refine List.Mem.tail _ ?_)) (by (dsimp only [List.set, List.append, List.cons_append, List.nil_append, AV.cells, splice, List.take, List.drop, Nat.reduceAdd]; done)) (by rfl)) ?_)
 refine AO.opG rfl rfl rfl (fun hp => OpW.force 25 rfl (by exact hp) (O.call rfl Tryz.func53 rfl rfl rfl (valid_fn m))) ?_
 refine AO.opG rfl rfl rfl (fun hp => OpW.force 26 rfl (by exact hp) (O.not rfl rfl (by rfl))) ?_
 refine AO.op (O.pickOr rfl rfl rfl rfl (fun h => by exact congrArg (fun b => !b) h)) rfl rfl rfl ?_
 refine AO.op (O.move rfl rfl) rfl rfl rfl ?_
 refine AO.opG rfl rfl rfl (fun hp => O.fieldAddr rfl rfl) ?_
 refine AO.opG rfl rfl rfl (fun hp => OpW.force 30 rfl (by exact hp) (O.load rfl rfl (by repeat (first | exact List.Mem.head _ | refine List.Mem.tail _ ?_)) (by rfl))) ?_
 refine AO.opG rfl rfl rfl (fun hp => OpW.force 31 rfl (by exact hp) (O.neq rfl rfl rfl (by rfl))) ?_
 refine AO.opG rfl rfl rfl (fun hp => OpW.force 32 rfl (by exact hp) (O.move rfl rfl)) ?_
 refine AO.opG rfl rfl rfl (fun hp => O.fieldAddr rfl rfl) ?_
 refine AO.opG rfl rfl rfl (fun hp => OpW.force 34 rfl (by exact hp) (O.load rfl rfl (by repeat (first | exact List.Mem.head _ | refine List.Mem.tail _ ?_)) (by rfl))) ?_
 refine AO.opG rfl rfl rfl (fun hp => OpW.force 35 rfl (by exact hp) (O.neq rfl rfl rfl (by rfl))) ?_
 refine AO.opG rfl rfl rfl (fun hp => OpW.force 33 rfl (by exact hp) (O.pickAnd rfl rfl rfl rfl (fun h => by simp_all))) ?_
 refine AO.op (O.pickOr rfl rfl rfl rfl (fun h => by exact congrArg (fun b => !b) h)) rfl rfl rfl ?_
 refine AO.nil ?_
 refine AQ.thenN ?_
 refine AW.split rfl (fun h => ?_) (fun h => ?_) <;> (try simp only [decide_eq_true_eq, decide_eq_false_iff_not, beq_iff_eq, beq_eq_false_iff_ne, bne_iff_ne, bne_eq_false_iff_eq, Bool.not_eq_true', Bool.not_eq_false', Bool.not_eq_true, Bool.not_eq_false, ne_eq, Int.not_lt, Int.not_le, Bool.and_eq_true, Bool.or_eq_true, Bool.or_eq_false_iff, Bool.and_eq_false_imp, strOf_toList, Decidable.not_not] at h)
 ·skip
  have e1 : sendR e p m now = (Ep.none, Msg.none, 1) := if_neg (by rintro ⟨h1, h2, h3, h4, h5⟩; rcases h with (((h | h) | h) | h) | h; exact h h1; exact h h2; exact h h3; exact h h4; omega)
  refine AW.seq ?_
  refine AW.region ?_
  refine AO.op (O.build rfl rfl rfl (by rfl)) rfl rfl rfl ?_
  refine AO.op (O.build rfl rfl rfl (by rfl)) rfl rfl rfl ?_
  (refine AO.store (i := 1) rfl rfl rfl rfl rfl rfl (by rfl) (by rfl) (by rfl) (by (dsimp only [List.set, List.append, List.cons_append, List.nil_append, AV.cells, splice, List.take, List.drop, Nat.reduceAdd]; done)) (by (dsimp only [List.set, List.append, List.cons_append, List.nil_append, AV.cells, splice, List.take, List.drop, Nat.reduceAdd]; done)) ?_)
  (refine AO.store (i := 0) rfl rfl rfl rfl rfl rfl (by rfl) (by rfl) (by rfl) (by (dsimp only [List.set, List.append, List.cons_append, List.nil_append, AV.cells, splice, List.take, List.drop, Nat.reduceAdd]; done)) (by (dsimp only [List.set, List.append, List.cons_append, List.nil_append, AV.cells, splice, List.take, List.drop, Nat.reduceAdd]; done)) ?_)
  refine AO.op (O.assign rfl rfl) rfl rfl rfl ?_
  refine AO.nil ?_
  refine AQ.thenN ?_
  refine AW.ret ?_
  refine AQ.thenR ?_
  refine FnQ.coe (AQ.ret3G rfl (by exact ResAt.cell rfl (by repeat (first | exact List.Mem.head _ | refine List.Mem.tail _ ?_)) (by (dsimp only [List.set, List.append, List.cons_append, List.nil_append, AV.cells, splice, List.take, List.drop, Nat.reduceAdd]; done)) (by rfl)) (by exact ResAt.cell rfl (by repeat (exact List.Mem.head _)) (by (dsimp only [List.set, List.append, List.cons_append, List.nil_append, AV.cells, splice, List.take, List.drop, Nat.reduceAdd]; done)) (by rfl)) (by exact ResAt.tmp rfl) ⟨_, List.nil_sublist _, .nil⟩ ⟨rfl, rfl⟩) (Coe.tup (by (repeat (first | exact CoeL.nil | refine CoeL.cons Coe.rfl ?_ | refine CoeL.cons Coe.nil ?_ | refine CoeL.cons (Coe.agg ?_) ?_)); done)) (ret3S e1 rfl)
 ·skip
  have hok : SendOk e p m now := ⟨h.1.1.1.1, h.1.1.1.2, h.1.1.2, h.1.2, by omega⟩
  have hok2 := hok
  obtain ⟨hv, ht, hp, hvm, hty⟩ := hok2
  have hsm := ValE.sm hv
  have hmm := ValM.sm hvm
  have hcu := clean_used e now
  have hv2 := hv.2.2.1
  have hv1 := hv.2.1
  refine AW.skip ?_
  refine AQ.thenN ?_
  refine AW.seq ?_
  refine AW.region ?_
  (refine AO.op (O.loadK rfl rfl (by repeat (first | exact List.Mem.head _ | refine List.Mem.tail _ ?_)) (by (dsimp only [List.set, List.append, List.cons_append, List.nil_append, AV.cells, splice, List.take, List.drop, Nat.reduceAdd]; done)) (by rfl)) rfl rfl rfl ?_)
  refine AO.op (O.move rfl rfl) rfl rfl rfl ?_
  refine AO.opN (O.call rfl Tryz.func54 rfl rfl rfl (cleaned_fn e now hsm)) rfl rfl rfl ?_
  rintro _ _ ⟨V15, V25, V35, hV15, hV25, hV35, rfl, rfl⟩
  simp only [List.cons_append, List.nil_append]
  (refine AO.store (i := 6) rfl rfl rfl rfl rfl rfl (by (simp [AV.cells, AV.one, roB, roI, roO, show ∀ k z, (Value.int k z).oneCell' = true from fun _ _ => rfl, show ∀ k, (Value.bool k).oneCell' = true from fun _ => rfl, *]; done)) (by rfl) (by rfl) (by (dsimp only [List.set, List.append, List.cons_append, List.nil_append, AV.cells, splice, List.take, List.drop, Nat.reduceAdd]; done)) (by (dsimp only [List.set, List.append, List.cons_append, List.nil_append, AV.cells, splice, List.take, List.drop, Nat.reduceAdd]; done)) ?_)
  refine AO.nil ?_
  refine AQ.thenN ?_
  refine AW.seq ?_
  refine AW.seq ?_
  refine AW.region ?_
  refine AO.op (O.fieldAddr rfl rfl) rfl rfl rfl ?_
  refine AO.op (O.load rfl rfl (by repeat (first | exact List.Mem.head _ | refine List.Mem.tail _ ?_)) (by rfl)) rfl rfl rfl ?_
  refine AO.op (O.lenRow rfl rfl (by repeat (first | exact List.Mem.head _ | refine List.Mem.tail _ ?_))) rfl rfl rfl ?_
  refine AO.op (O.geq rfl rfl rfl (by rfl)) rfl rfl rfl ?_
  refine AO.op (O.move rfl rfl) rfl rfl rfl ?_
  refine AO.opG rfl rfl rfl (fun hp => O.fieldAddr rfl rfl) ?_
  refine AO.opG rfl rfl rfl (fun hp => OpW.force 49 rfl (by exact hp) (O.load rfl rfl (by repeat (first | exact List.Mem.head _ | refine List.Mem.tail _ ?_)) (by rfl))) ?_
  refine AO.opG rfl rfl rfl (fun hp => OpW.force 50 rfl (by exact hp) (O.eql rfl rfl rfl (by rfl))) ?_
  refine AO.opG rfl rfl rfl (fun hp => OpW.force 51 rfl (by exact hp) (O.move rfl rfl)) ?_
  refine AO.opG rfl rfl rfl (fun hp => O.fieldAddr rfl rfl) ?_
  refine AO.opG rfl rfl rfl (fun hp => OpW.force 53 rfl (by exact hp) (O.load rfl rfl (by repeat (first | exact List.Mem.head _ | refine List.Mem.tail _ ?_)) (by rfl))) ?_
  refine AO.opG rfl rfl rfl (fun hp => OpW.force 54 rfl (by exact hp) (O.lenRow rfl rfl (by repeat (first | exact List.Mem.head _ | refine List.Mem.tail _ ?_)))) ?_
  refine AO.opG rfl rfl rfl (fun hp => OpW.force 55 rfl (by exact hp) (O.geq rfl rfl rfl (by rfl))) ?_
  refine AO.opG rfl rfl rfl (fun hp => OpW.force 52 rfl (by exact hp) (O.pickAnd rfl rfl rfl rfl (fun h => by simp_all))) ?_
  refine AO.op (O.pickOr rfl rfl rfl rfl (fun h => by exact congrArg (fun b => !b) h)) rfl rfl rfl ?_
  refine AO.nil ?_
  refine AQ.thenN ?_
  refine AW.split rfl (fun h2 => ?_) (fun h2 => ?_) <;> (try simp only [decide_eq_true_eq, decide_eq_false_iff_not, beq_iff_eq, beq_eq_false_iff_ne, bne_iff_ne, bne_eq_false_iff_eq, Bool.not_eq_true', Bool.not_eq_false', Bool.not_eq_true, Bool.not_eq_false, ne_eq, Int.not_lt, Int.not_le, Bool.and_eq_true, Bool.or_eq_true, Bool.or_eq_false_iff, Bool.and_eq_false_imp, strOf_toList, Decidable.not_not] at h2)
  ·skip
   have e1 : sendR e p m now = (Ep.none, Msg.none, 16) := by rw [sendR, if_pos hok, if_pos (by omega)]
   refine AW.seq ?_
   refine AW.region ?_
   refine AO.op (O.build rfl rfl rfl (by rfl)) rfl rfl rfl ?_
   refine AO.op (O.build rfl rfl rfl (by rfl)) rfl rfl rfl ?_
   (refine AO.store (i := 4) rfl rfl rfl rfl rfl rfl (by rfl) (by rfl) (by rfl) (by (dsimp only [List.set, List.append, List.cons_append, List.nil_append, AV.cells, splice, List.take, List.drop, Nat.reduceAdd]; done)) (by (dsimp only [List.set, List.append, List.cons_append, List.nil_append, AV.cells, splice, List.take, List.drop, Nat.reduceAdd]; done)) ?_)
   (refine AO.store (i := 3) rfl rfl rfl rfl rfl rfl (by rfl) (by rfl) (by rfl) (by (dsimp only [List.set, List.append, List.cons_append, List.nil_append, AV.cells, splice, List.take, List.drop, Nat.reduceAdd]; done)) (by (dsimp only [List.set, List.append, List.cons_append, List.nil_append, AV.cells, splice, List.take, List.drop, Nat.reduceAdd]; done)) ?_)
   refine AO.op (O.assign rfl rfl) rfl rfl rfl ?_
   refine AO.nil ?_
   refine AQ.thenN ?_
   refine AW.ret ?_
   refine AQ.thenR ?_
   refine FnQ.coe (AQ.ret3G rfl (by exact ResAt.cell rfl (by repeat (first | exact List.Mem.head _ | refine List.Mem.tail _ ?_)) (by (dsimp only [List.set, List.append, List.cons_append, List.nil_append, AV.cells, splice, List.take, List.drop, Nat.reduceAdd]; done)) (by rfl)) (by exact ResAt.cell rfl (by repeat (first | exact List.Mem.head _ | refine List.Mem.tail _ ?_)) (by (dsimp only [List.set, List.append, List.cons_append, List.nil_append, AV.cells, splice, List.take, List.drop, Nat.reduceAdd]; done)) (by rfl)) (by exact ResAt.tmp rfl) ⟨_, List.nil_sublist _, .nil⟩ ⟨rfl, rfl⟩) (Coe.tup (by (repeat (first | exact CoeL.nil | refine CoeL.cons Coe.rfl ?_ | refine CoeL.cons Coe.nil ?_ | refine CoeL.cons (Coe.agg ?_) ?_)); done)) (ret3S e1 rfl)
  ·skip
   have hfu : ¬SendFull (cleanE e now) m := by omega
   have e1 : sendR e p m now = (sentE (cleanE e now) p m now (freeI (cleanE e now).out (cleanE e now).used p e.next), { m with id := freeI (cleanE e now).out (cleanE e now).used p e.next }, 0) := by rw [sendR, if_pos hok, if_neg hfu]
   have hfl : (cleanE e now).used.length + (cleanE e now).out.length ≤ 48 := by rw [cleanE_out]; omega
   obtain ⟨id, hid⟩ : ∃ id, id = freeI (cleanE e now).out (cleanE e now).used p e.next := ⟨_, rfl⟩
   have hidb : 0 ≤ id ∧ id ≤ 65535 := by rw [hid]; unfold freeI; omega
   rw [← hid] at e1
   have hfree : Sp Tryz.prog 55 [.agg [.val (.int .i64 e.next), roW (cleanE e now).out, roU (cleanE e now).used, .val V35], .val (.int .i64 p)] [] (Is (.val (.int .i64 id))) := by
    rw [hid]; exact free_fn e.next (cleanE e now).out (cleanE e now).used V35 hV35 p hv.1 hfl
   refine AW.skip ?_
   refine AQ.thenN ?_
   refine AW.seq ?_
   refine AW.region ?_
   (refine AO.op (O.loadK rfl rfl (by repeat (first | exact List.Mem.head _ | refine List.Mem.tail _ ?_)) (by (dsimp only [List.set, List.append, List.cons_append, List.nil_append, AV.cells, splice, List.take, List.drop, Nat.reduceAdd]; done)) (by rfl)) rfl rfl rfl ?_)
   refine AO.op (O.move rfl rfl) rfl rfl rfl ?_
   (refine AO.op (O.callX rfl Tryz.func55 rfl rfl rfl (hfree) (by (repeat (first | exact LendX.nil | refine LendX.same ?_ | refine LendX.row 1 rfl ?_ | refine LendX.row 2 rfl ?_ | refine LendX.agg ?_ ?_)); done)) rfl rfl rfl ?_)
   refine AO.op (O.fieldAddr rfl rfl) rfl rfl rfl ?_
   (refine AO.store (i := 5) rfl rfl rfl rfl rfl rfl (by rfl) (by rfl) (by rfl) (by (dsimp only [List.set, List.append, List.cons_append, List.nil_append, AV.cells, splice, List.take, List.drop, Nat.reduceAdd]; done)) (by (dsimp only [List.set, List.append, List.cons_append, List.nil_append, AV.cells, splice, List.take, List.drop, Nat.reduceAdd]; done)) ?_)
   refine AO.nil ?_
   refine AQ.thenN ?_
   refine AW.seq ?_
   refine AW.region ?_
   refine AO.op (O.fieldAddr rfl rfl) rfl rfl rfl ?_
   refine AO.op (O.load rfl rfl (by repeat (first | exact List.Mem.head _ | refine List.Mem.tail _ ?_)) (by rfl)) rfl rfl rfl ?_
   refine AO.op (O.add rfl rfl rfl (by exact wI64 (by omega))) rfl rfl rfl ?_
   refine AO.op (O.and_ rfl rfl rfl (andI64 16 (by decide) (by decide) (m := 65536) (by decide) (by omega))) rfl rfl rfl ?_
   refine AO.op (O.fieldAddr rfl rfl) rfl rfl rfl ?_
   (refine AO.store (i := 6) rfl rfl rfl rfl rfl rfl (by rfl) (by rfl) (by rfl) (by (dsimp only [List.set, List.append, List.cons_append, List.nil_append, AV.cells, splice, List.take, List.drop, Nat.reduceAdd]; done)) (by (dsimp only [List.set, List.append, List.cons_append, List.nil_append, AV.cells, splice, List.take, List.drop, Nat.reduceAdd]; done)) ?_)
   refine AO.nil ?_
   refine AQ.thenN ?_
   refine AW.seq ?_
   refine AW.region ?_
   refine AO.op (O.fieldAddr rfl rfl) rfl rfl rfl ?_
   refine AO.op (O.load rfl rfl (by repeat (first | exact List.Mem.head _ | refine List.Mem.tail _ ?_)) (by rfl)) rfl rfl rfl ?_
   refine AO.op (O.move rfl rfl) rfl rfl rfl ?_
   refine AO.op (O.fieldAddr rfl rfl) rfl rfl rfl ?_
   refine AO.op (O.load rfl rfl (by repeat (first | exact List.Mem.head _ | refine List.Mem.tail _ ?_)) (by rfl)) rfl rfl rfl ?_
   refine AO.op (O.move rfl rfl) rfl rfl rfl ?_
   refine AO.op (O.add rfl rfl rfl (by exact wI64 (by omega))) rfl rfl rfl ?_
   refine AO.op (O.build rfl rfl rfl (by rfl)) rfl rfl rfl ?_
   refine AO.opB (O.buildSlice rfl rfl rfl (by rfl) (by rfl) (by rfl) (by rfl)) rfl rfl rfl ?_
   intro B6
   refine AO.g ?_
   (refine G.freezeSl 0 78 rfl rfl ⟨Nat.le_refl _, by unfold maxLen; omega⟩ ?_)
   refine G.unfull 78 rfl ?_
   refine AO.u ?_
   dsimp only [List.eraseIdx]
   (refine AO.append' (i := 1) rfl rfl rfl rfl (by rfl) (by rfl) rfl rfl rfl (by exact SrcA.ro TyD.ax (by rfl) (Nat.le_of_ble_eq_true rfl)) (by rfl) (by (unfold maxLen; omega)) (by omega) (by (dsimp only [List.set, List.append, List.cons_append, List.nil_append, AV.cells, splice, List.take, List.drop, Nat.reduceAdd]; done)) (fun _ => by (dsimp only [List.set]; done)) ?_)
   intro V7 hV7
   refine AO.op (O.fieldAddr rfl rfl) rfl rfl rfl ?_
   (refine AO.store (i := 6) rfl rfl rfl rfl rfl rfl (by (simp [AV.cells, AV.one, *]; done)) (by rfl) (by rfl) (by (dsimp only [List.set, List.append, List.cons_append, List.nil_append, AV.cells, splice, List.take, List.drop, Nat.reduceAdd]; done)) (by (dsimp only [List.set, List.append, List.cons_append, List.nil_append, AV.cells, splice, List.take, List.drop, Nat.reduceAdd]; done)) ?_)
   refine AO.nil ?_
   refine AQ.thenN ?_
   refine AW.seq ?_
   refine AW.seq ?_
   refine AW.region ?_
   refine AO.op (O.fieldAddr rfl rfl) rfl rfl rfl ?_
   refine AO.op (O.load rfl rfl (by repeat (first | exact List.Mem.head _ | refine List.Mem.tail _ ?_)) (by rfl)) rfl rfl rfl ?_
   refine AO.op (O.eql rfl rfl rfl (by rfl)) rfl rfl rfl ?_
   refine AO.nil ?_
   refine AQ.thenN ?_
   refine AW.split rfl (fun h0 => ?_) (fun h0 => ?_) <;> (try simp only [decide_eq_true_eq, decide_eq_false_iff_not, beq_iff_eq, beq_eq_false_iff_ne, bne_iff_ne, bne_eq_false_iff_eq, Bool.not_eq_true', Bool.not_eq_false', Bool.not_eq_true, Bool.not_eq_false, ne_eq, Int.not_lt, Int.not_le, Bool.and_eq_true, Bool.or_eq_true, Bool.or_eq_false_iff, Bool.and_eq_false_imp, strOf_toList, Decidable.not_not] at h0)
   ·skip
    refine AW.regionD 9 (by kernel_rfl) (by kernel_rfl) ?_
    simp only [List.take_succ_cons, List.take_zero, List.drop_succ_cons, List.drop_zero]
    refine FA.op (O.fieldAddr rfl rfl) rfl rfl rfl rfl ?_
    refine FA.op (O.load rfl rfl (by repeat (first | exact List.Mem.head _ | refine List.Mem.tail _ ?_)) (by rfl)) rfl rfl rfl rfl ?_
    refine FA.op (O.move rfl rfl) rfl rfl rfl rfl ?_
    (refine FA.op (O.loadK rfl rfl (by repeat (first | exact List.Mem.head _ | refine List.Mem.tail _ ?_)) (by (dsimp only [List.set, List.append, List.cons_append, List.nil_append, AV.cells, splice, List.take, List.drop, Nat.reduceAdd]; done)) (by rfl)) rfl rfl rfl rfl ?_)
    refine FA.op (O.call rfl Tryz.func56 rfl rfl rfl (message_fn { m with id := id } hmm)) rfl rfl rfl rfl ?_
    refine FA.op (O.move rfl rfl) rfl rfl rfl rfl ?_
    refine FA.op (O.add rfl rfl rfl (by exact wI64 (by omega))) rfl rfl rfl rfl ?_
    refine FA.op (O.build rfl rfl rfl (by rfl)) rfl rfl rfl rfl ?_
    refine FA.op (OpW.frz (O.buildSlice rfl rfl rfl (by rfl) (by rfl) (by rfl) (by rfl)) (by (unfold maxLen; omega))) rfl rfl rfl rfl ?_
    refine FA.nil ?_
    simp only [chosen, List.nil_append, List.cons_append, List.append_nil]
    (refine AO.append' (i := 2) rfl rfl rfl rfl (by rfl) (by rfl) rfl rfl rfl (by exact SrcA.ro TyD.ax (by rfl) (Nat.le_of_ble_eq_true rfl)) (by rfl) (by (unfold maxLen; omega)) (by omega) (by (dsimp only [List.set, List.append, List.cons_append, List.nil_append, AV.cells, splice, List.take, List.drop, Nat.reduceAdd]; done)) (fun _ => by (dsimp only [List.set]; done)) ?_)
    intro V8 hV8
    refine AO.op (O.fieldAddr rfl rfl) rfl rfl rfl ?_
    (refine AO.store (i := 6) rfl rfl rfl rfl rfl rfl (by (simp [AV.cells, AV.one, *]; done)) (by rfl) (by rfl) (by (dsimp only [List.set, List.append, List.cons_append, List.nil_append, AV.cells, splice, List.take, List.drop, Nat.reduceAdd]; done)) (by (dsimp only [List.set, List.append, List.cons_append, List.nil_append, AV.cells, splice, List.take, List.drop, Nat.reduceAdd]; done)) ?_)
    refine AO.nil ?_
    refine AQ.thenN ?_
    refine AW.seq ?_
    refine AW.regionD 3 (by kernel_rfl) (by kernel_rfl) ?_
    simp only [List.take_succ_cons, List.take_zero, List.drop_succ_cons, List.drop_zero]
    (refine FA.op (O.loadK rfl rfl (by repeat (first | exact List.Mem.head _ | refine List.Mem.tail _ ?_)) (by (dsimp only [List.set, List.append, List.cons_append, List.nil_append, AV.cells, splice, List.take, List.drop, Nat.reduceAdd]; done)) (by rfl)) rfl rfl rfl rfl ?_)
    (refine FA.op (O.loadK rfl rfl (by repeat (first | exact List.Mem.head _ | refine List.Mem.tail _ ?_)) (by (dsimp only [List.set, List.append, List.cons_append, List.nil_append, AV.cells, splice, List.take, List.drop, Nat.reduceAdd]; done)) (by rfl)) rfl rfl rfl rfl ?_)
    refine FA.op (O.call rfl Tryz.func56 rfl rfl rfl (message_fn { m with id := id } hmm)) rfl rfl rfl rfl ?_
    refine FA.nil ?_
    simp only [chosen, List.nil_append, List.cons_append, List.append_nil]
    (refine AO.store (i := 4) rfl rfl rfl rfl rfl rfl (by (simp [AV.cells, AV.one, roB, roI, roO, show ∀ k z, (Value.int k z).oneCell' = true from fun _ _ => rfl, show ∀ k, (Value.bool k).oneCell' = true from fun _ => rfl, *]; done)) (by rfl) (by rfl) (by (dsimp only [List.set, List.append, List.cons_append, List.nil_append, AV.cells, splice, List.take, List.drop, Nat.reduceAdd]; done)) (by (dsimp only [List.set, List.append, List.cons_append, List.nil_append, AV.cells, splice, List.take, List.drop, Nat.reduceAdd]; done)) ?_)
    (refine AO.store (i := 3) rfl rfl rfl rfl rfl rfl (by rfl) (by rfl) (by rfl) (by (dsimp only [List.set, List.append, List.cons_append, List.nil_append, AV.cells, splice, List.take, List.drop, Nat.reduceAdd]; done)) (by (dsimp only [List.set, List.append, List.cons_append, List.nil_append, AV.cells, splice, List.take, List.drop, Nat.reduceAdd]; done)) ?_)
    refine AO.op (O.assign rfl rfl) rfl rfl rfl ?_
    refine AO.nil ?_
    refine AQ.thenN ?_
    refine AW.ret ?_
    refine AQ.g ?_
    refine G.freezeCell 0 3 3 rfl rfl rfl ?_
    refine AQ.u ?_
    dsimp only [List.eraseIdx, List.set]
    refine AQ.g ?_
    refine G.freezeCell 0 2 2 rfl rfl rfl ?_
    refine AQ.u ?_
    dsimp only [List.eraseIdx, List.set]
    refine AQ.g ?_
    refine G.freezeCell 0 1 1 rfl rfl rfl ?_
    refine AQ.u ?_
    dsimp only [List.eraseIdx, List.set]
    rw [sentE_con h0] at e1
    refine FnQ.coe (AQ.ret3G rfl (by exact ResAt.cell rfl (by repeat (first | exact List.Mem.head _ | refine List.Mem.tail _ ?_)) (by (dsimp only [List.set, List.append, List.cons_append, List.nil_append, AV.cells, splice, List.take, List.drop, Nat.reduceAdd]; done)) (by rfl)) (by exact ResAt.cell rfl (by repeat (exact List.Mem.head _)) (by (dsimp only [List.set, List.append, List.cons_append, List.nil_append, AV.cells, splice, List.take, List.drop, Nat.reduceAdd]; done)) (by rfl)) (by exact ResAt.tmp rfl) ⟨_, List.nil_sublist _, .nil⟩ ⟨rfl, rfl⟩) (Coe.tup (by (repeat (first | exact CoeL.nil | refine CoeL.cons Coe.rfl ?_)); done)) (ret3S e1 (aggE_tup (aggE_of (e := ⟨_, _, _, _⟩) (snoc_len _ _) (wtsA_snoc _ _).symm (snoc_len _ _) (ussA_snoc _ _).symm rfl rfl) _))
   ·skip
    refine AW.skip ?_
    refine AQ.thenN ?_
    refine AW.seq ?_
    refine AW.regionD 3 (by kernel_rfl) (by kernel_rfl) ?_
    simp only [List.take_succ_cons, List.take_zero, List.drop_succ_cons, List.drop_zero]
    (refine FA.op (O.loadK rfl rfl (by repeat (first | exact List.Mem.head _ | refine List.Mem.tail _ ?_)) (by (dsimp only [List.set, List.append, List.cons_append, List.nil_append, AV.cells, splice, List.take, List.drop, Nat.reduceAdd]; done)) (by rfl)) rfl rfl rfl rfl ?_)
    (refine FA.op (O.loadK rfl rfl (by repeat (first | exact List.Mem.head _ | refine List.Mem.tail _ ?_)) (by (dsimp only [List.set, List.append, List.cons_append, List.nil_append, AV.cells, splice, List.take, List.drop, Nat.reduceAdd]; done)) (by rfl)) rfl rfl rfl rfl ?_)
    refine FA.op (O.call rfl Tryz.func56 rfl rfl rfl (message_fn { m with id := id } hmm)) rfl rfl rfl rfl ?_
    refine FA.nil ?_
    simp only [chosen, List.nil_append, List.cons_append, List.append_nil]
    (refine AO.store (i := 4) rfl rfl rfl rfl rfl rfl (by (simp [AV.cells, AV.one, roB, roI, roO, show ∀ k z, (Value.int k z).oneCell' = true from fun _ _ => rfl, show ∀ k, (Value.bool k).oneCell' = true from fun _ => rfl, *]; done)) (by rfl) (by rfl) (by (dsimp only [List.set, List.append, List.cons_append, List.nil_append, AV.cells, splice, List.take, List.drop, Nat.reduceAdd]; done)) (by (dsimp only [List.set, List.append, List.cons_append, List.nil_append, AV.cells, splice, List.take, List.drop, Nat.reduceAdd]; done)) ?_)
    (refine AO.store (i := 3) rfl rfl rfl rfl rfl rfl (by rfl) (by rfl) (by rfl) (by (dsimp only [List.set, List.append, List.cons_append, List.nil_append, AV.cells, splice, List.take, List.drop, Nat.reduceAdd]; done)) (by (dsimp only [List.set, List.append, List.cons_append, List.nil_append, AV.cells, splice, List.take, List.drop, Nat.reduceAdd]; done)) ?_)
    refine AO.op (O.assign rfl rfl) rfl rfl rfl ?_
    refine AO.nil ?_
    refine AQ.thenN ?_
    refine AW.ret ?_
    refine AQ.g ?_
    refine G.freezeCell 0 3 3 rfl rfl rfl ?_
    refine AQ.u ?_
    dsimp only [List.eraseIdx, List.set]
    refine AQ.g ?_
    refine G.freezeCell 0 2 2 rfl rfl rfl ?_
    refine AQ.u ?_
    dsimp only [List.eraseIdx, List.set]
    refine AQ.g ?_
    refine G.freezeCell 0 1 1 rfl rfl rfl ?_
    refine AQ.u ?_
    dsimp only [List.eraseIdx, List.set]
    rw [sentE_non h0] at e1
    refine FnQ.coe (AQ.ret3G rfl (by exact ResAt.cell rfl (by repeat (first | exact List.Mem.head _ | refine List.Mem.tail _ ?_)) (by (dsimp only [List.set, List.append, List.cons_append, List.nil_append, AV.cells, splice, List.take, List.drop, Nat.reduceAdd]; done)) (by rfl)) (by exact ResAt.cell rfl (by repeat (exact List.Mem.head _)) (by (dsimp only [List.set, List.append, List.cons_append, List.nil_append, AV.cells, splice, List.take, List.drop, Nat.reduceAdd]; done)) (by rfl)) (by exact ResAt.tmp rfl) ⟨_, List.nil_sublist _, .nil⟩ ⟨rfl, rfl⟩) (Coe.tup (by (repeat (first | exact CoeL.nil | refine CoeL.cons Coe.rfl ?_)); done)) (ret3S e1 (aggE_tup (aggE_of (e := ⟨_, _, _, _⟩) rfl rfl (snoc_len _ _) (ussA_snoc _ _).symm rfl rfl) _))
end Go.Proofs.YtoonnnifelnaiaaGreatDoor.By

namespace Go.Proofs.YtoonnnifelnaiaaGreatDoor.By
open Go.RowKit L A
set_option linter.unusedVariables false
set_option maxRecDepth 20000
set_option linter.unusedSimpArgs false
attribute [local irreducible] AW AQ AO
end Go.Proofs.YtoonnnifelnaiaaGreatDoor.By

namespace Go.Proofs.YtoonnnifelnaiaaGreatDoor.By
open Go.RowKit L A
set_option linter.unusedVariables false
set_option maxRecDepth 20000
set_option linter.unusedSimpArgs false
attribute [local irreducible] AW AQ AO
def pw (s : Int) : Int := 2 * 2 ^ s.toNat
theorem pw_bd {s : Int} (h : 0 ≤ s) (h2 : s ≤ 4) : 2 ≤ pw s ∧ pw s ≤ 32 := by
 obtain ⟨n, rfl⟩ : ∃ n : Nat, s = (n : Int) := ⟨s.toNat, by omega⟩
 have h3 : n < 5 := by omega
 match n, h3 with
 | 0, _ | 1, _ | 2, _ | 3, _ | 4, _ => decide
theorem shl_pw {s : Int} (h : 0 ≤ s) (h2 : s ≤ 4) : IntKind.i64.wrap (2 * 2 ^ (min s.toNat IntKind.i64.bits)) = pw s := by
 obtain ⟨n, rfl⟩ : ∃ n : Nat, s = (n : Int) := ⟨s.toNat, by omega⟩
 have h3 : n < 5 := by omega
 match n, h3 with
 | 0, _ | 1, _ | 2, _ | 3, _ | 4, _ => decide
def bumpW (now : Int) (w : Wt) : Wt := ⟨w.peer, w.m, now + pw w.sent, w.sent + 1⟩
def stayF (now : Int) (w : Wt) : Option Wt := if now < w.due then some w else if w.sent ≤ 4 then some (bumpW now w) else none
def againF (now : Int) (w : Wt) : Option Wt := if now < w.due then none else if w.sent ≤ 4 then some (bumpW now w) else none
def overF (now : Int) (w : Wt) : Option Wt := if now < w.due then none else if w.sent ≤ 4 then none else some w
theorem fm_succ {α β : Type} (f : α → Option β) (d : α) {l : List α} {k : Nat} (h : k < l.length) : (l.take (k + 1)).filterMap f = (l.take k).filterMap f ++ (f (l.getD k d)).toList := by
 rw [take_snoc d h, List.filterMap_append]
 generalize l.getD k d = x
 cases hp : f x <;> simp [hp]
theorem fm_len {α β : Type} (f : α → Option β) (l : List α) (k : Nat) : ((l.take k).filterMap f).length ≤ k := Nat.le_trans (List.length_filterMap_le _ _) (by rw [List.length_take]; omega)
def tickR (e : Ep) (now : Int) : Ep × List Wt × List Wt × Int :=
 if ValE e ∧ TimeOk now then (⟨e.next, e.out.filterMap (stayF now), (cleanE e now).used, (cleanE e now).inn⟩, e.out.filterMap (againF now), e.out.filterMap (overF now), 0) else (Ep.none, [], [], 1)
abbrev resT (r : Ep × List Wt × List Wt × Int) : AV := .tup [aggE r.1, roW r.2.1, roW r.2.2.1, .val (.int .i64 r.2.2.2)]
theorem ret4T {q : AV} {r : Ep × List Wt × List Wt × Int} {a : Ep} {b c : List Wt} {d : Int} (h : r = (a, b, c, d)) (hq : q = .tup [aggE a, roW b, roW c, .val (.int .i64 d)]) : Is (resT r) q [] := by subst h; exact ⟨hq, rfl⟩
set_option maxHeartbeats 4000000 in
theorem tick_fn (e : Ep) (now : Int) (hb : BdE e) : Sp Tryz.prog 26 [aggE e, .val (.int .i64 now)] [] (Is (resT (tickR e now))) := by
 refine Sp.enter Tryz.func26 rfl _ Tryz.ntmps26 rfl (fun w0 R0 => ?_)
 refine AW.seq ?_
 refine AW.region ?_
 refine AO.opB (O.box rfl rfl rfl rfl rfl) rfl rfl rfl ?_
 intro B1
 refine AO.opB (O.alloc rfl (by (dsimp only [zerosA, List.replicate, List.append, List.flatten, AV.cells, Value.cells, List.toList_toArray, List.map]; done)) (by rfl)) rfl rfl rfl ?_
 intro B2
 refine AO.op (O.assign rfl rfl) rfl rfl rfl ?_
 refine AO.op (O.assign rfl rfl) rfl rfl rfl ?_
 refine AO.op (O.assign rfl rfl) rfl rfl rfl ?_
 refine AO.nil ?_
 refine AQ.thenN ?_
 refine AW.seq ?_
 refine AW.seq ?_
 refine AW.region ?_
 refine AO.op (O.loadK rfl rfl (by repeat (first | exact List.Mem.head _ | refine List.Mem.tail _ ?_)) (by rfl) (by rfl)) rfl rfl rfl ?_
 refine AO.op (O.call rfl Tryz.func50 rfl rfl rfl (evalid_fn e hb)) rfl rfl rfl ?_
 refine AO.op (O.not rfl rfl (by rfl)) rfl rfl rfl ?_
 refine AO.op (O.move rfl rfl) rfl rfl rfl ?_
 refine AO.opG rfl rfl rfl (fun hp => O.move rfl rfl) ?_
 refine AO.opG rfl rfl rfl (fun hp => OpW.force 17 rfl (by exact hp) (O.call rfl Tryz.func51 rfl rfl rfl (timeOK_fn _))) ?_
 refine AO.opG rfl rfl rfl (fun hp => OpW.force 18 rfl (by exact hp) (O.not rfl rfl (by rfl))) ?_
 refine AO.op (O.pickOr rfl rfl rfl rfl (fun h => by exact congrArg (fun b => !b) h)) rfl rfl rfl ?_
 refine AO.nil ?_
 refine AQ.thenN ?_
 refine AW.split rfl (fun h => ?_) (fun h => ?_) <;> (try simp only [decide_eq_true_eq, decide_eq_false_iff_not, beq_iff_eq, beq_eq_false_iff_ne, bne_iff_ne, bne_eq_false_iff_eq, Bool.not_eq_true', Bool.not_eq_false', Bool.not_eq_true, Bool.not_eq_false, ne_eq, Int.not_lt, Int.not_le, Bool.and_eq_true, Bool.or_eq_true, Bool.or_eq_false_iff, Bool.and_eq_false_imp, strOf_toList, Decidable.not_not] at h)
 ·skip
  have e1 : tickR e now = (Ep.none, [], [], 1) := if_neg (by rintro ⟨h1, h2⟩; exact h.elim (fun g => g h1) (fun g => g h2))
  refine AW.seq ?_
  refine AW.region ?_
  refine AO.op (O.build rfl rfl rfl (by rfl)) rfl rfl rfl ?_
  (refine AO.store (i := 0) rfl rfl rfl rfl rfl rfl (by rfl) (by rfl) (by rfl) (by (dsimp only [List.set, List.append, List.cons_append, List.nil_append, AV.cells, splice, List.take, List.drop, Nat.reduceAdd]; done)) (by (dsimp only [List.set, List.append, List.cons_append, List.nil_append, AV.cells, splice, List.take, List.drop, Nat.reduceAdd]; done)) ?_)
  refine AO.op (O.assign rfl rfl) rfl rfl rfl ?_
  refine AO.op (O.assign rfl rfl) rfl rfl rfl ?_
  refine AO.op (O.assign rfl rfl) rfl rfl rfl ?_
  refine AO.nil ?_
  refine AQ.thenN ?_
  refine AW.ret ?_
  refine AQ.thenR ?_
  refine FnQ.coe (AQ.ret4G rfl (by exact ResAt.cell rfl (by repeat (exact List.Mem.head _)) (by (dsimp only [List.set, List.append, List.cons_append, List.nil_append, AV.cells, splice, List.take, List.drop, Nat.reduceAdd]; done)) (by rfl)) (by exact ResAt.tmp rfl) (by exact ResAt.tmp rfl) (by exact ResAt.tmp rfl) ⟨_, List.nil_sublist _, .nil⟩ ⟨rfl, rfl⟩) (Coe.tup (by (repeat (first | exact CoeL.nil | refine CoeL.cons Coe.rfl ?_ | refine CoeL.cons Coe.nil ?_ | refine CoeL.cons (Coe.agg ?_) ?_)); done)) (ret4T e1 rfl)
 ·skip
  obtain ⟨hv, ht⟩ := h
  have hsm := ValE.sm hv
  have hv1 := hv.2.1
  have hv5 := hv.2.2.2.2.1
  have e1 : tickR e now = _ := if_pos ⟨hv, ht⟩
  refine AW.skip ?_
  refine AQ.thenN ?_
  refine AW.seq ?_
  refine AW.region ?_
  refine AO.op (O.loadK rfl rfl (by repeat (first | exact List.Mem.head _ | refine List.Mem.tail _ ?_)) (by rfl) (by rfl)) rfl rfl rfl ?_
  refine AO.op (O.move rfl rfl) rfl rfl rfl ?_
  refine AO.opN (O.call rfl Tryz.func54 rfl rfl rfl (cleaned_fn e now hsm)) rfl rfl rfl ?_
  rintro _ _ ⟨V13, V23, V33, hV13, hV23, hV33, rfl, rfl⟩
  simp only [List.cons_append, List.nil_append]
  (refine AO.store (i := 4) rfl rfl rfl rfl rfl rfl (by (simp [AV.cells, AV.one, roB, roI, roO, show ∀ k z, (Value.int k z).oneCell' = true from fun _ _ => rfl, show ∀ k, (Value.bool k).oneCell' = true from fun _ => rfl, *]; done)) (by rfl) (by rfl) (by (dsimp only [List.set, List.append, List.cons_append, List.nil_append, AV.cells, splice, List.take, List.drop, Nat.reduceAdd]; done)) (by (dsimp only [List.set, List.append, List.cons_append, List.nil_append, AV.cells, splice, List.take, List.drop, Nat.reduceAdd]; done)) ?_)
  refine AO.nil ?_
  refine AQ.thenN ?_
  refine AW.seq ?_
  refine AW.region ?_
  refine AO.op (O.assign rfl rfl) rfl rfl rfl ?_
  refine AO.g ?_
  refine G.freezeCell 2 3 1 rfl rfl rfl ?_
  dsimp only [List.eraseIdx, List.set]
  refine AO.u ?_
  refine AO.op (O.assign rfl rfl) rfl rfl rfl ?_
  refine AO.op (O.assign rfl rfl) rfl rfl rfl ?_
  refine AO.nil ?_
  refine AQ.thenN ?_
  refine AW.seq ?_
  refine AW.seq ?_
  refine AW.region ?_
  refine AO.op (O.fieldAddr rfl rfl) rfl rfl rfl ?_
  refine AO.op (O.load rfl rfl (by repeat (first | exact List.Mem.head _ | refine List.Mem.tail _ ?_)) (by rfl)) rfl rfl rfl ?_
  refine AO.op (O.lenR rfl rfl) rfl rfl rfl ?_
  refine AO.op (O.move rfl rfl) rfl rfl rfl ?_
  refine AO.nil ?_
  refine AQ.thenN ?_
  refine AW.block ?_
  refine AW.g ?_
  refine G.re 26 (roW e.out) rfl ?_
  refine AW.u ?_
  refine AW.g ?_
  refine G.re 27 (.val (.int .i64 (e.out.length : Int))) rfl ?_
  refine AW.u ?_
  refine AW.g ?_
  refine G.nilRow 78 9 ?_
  refine AW.u ?_
  refine AW.g ?_
  refine G.nilRow 78 9 ?_
  refine AW.u ?_
  refine AW.g ?_
  refine G.nilRow 78 9 ?_
  refine AW.u ?_
  refine AW.loopK [(1, _), (2, _), (4, _), (26, _), (27, _)] (fun nn E H => ∃ (k : Nat) (Va Vb Vc : Value), (k ≤ e.out.length) ∧ (Va.oneCell' = true) ∧ (Vb.oneCell' = true) ∧ (Vc.oneCell' = true) ∧ nn = e.out.length - k ∧ E = [(8, .val Va), (9, .val Vb), (10, .val Vc), (28, .val (.int .i64 (k : Int)))] ∧ H = [.row Va 78 9 ((e.out.take k).filterMap (stayF now)).length (wtsA ((e.out.take k).filterMap (stayF now))), .row Vb 78 9 ((e.out.take k).filterMap (againF now)).length (wtsA ((e.out.take k).filterMap (againF now))), .row Vc 78 9 ((e.out.take k).filterMap (overF now)).length (wtsA ((e.out.take k).filterMap (overF now))), .row V33 126 10 (cleanE e now).inn.length (hdsA (cleanE e now).inn), .row V23 122 3 (cleanE e now).used.length (ussA (cleanE e now).used), .blk B2 56 4 [.val (.int .i64 0), .val nilS, .val nilS, .val nilS], .blk B1 56 4 [.val (.int .i64 e.next), roW e.out, .val V23, .val V33]]) _ (⟨0, nilS, nilS, nilS, by omega, rfl, rfl, rfl, rfl, rfl, rfl⟩) (by repeat (first | exact envNil | refine envCons rfl ?_)) (by repeat (first | exact envNil | refine envCons rfl ?_)) (by repeat (first | exact subPnil | refine subPcons 0 rfl ?_)) ?_
  rintro nn E H ⟨k, Va, Vb, Vc, hk1, hVa, hVb, hVc, rfl, rfl, rfl⟩
  dsimp only [List.cons_append, List.nil_append]
  have hl1 := fm_len (stayF now) e.out k
  have hl2 := fm_len (againF now) e.out k
  have hl3 := fm_len (overF now) e.out k
  refine AW.seq ?_
  refine AW.region ?_
  refine AO.op (O.lss rfl rfl rfl (by rfl)) rfl rfl rfl ?_
  refine AO.nil ?_
  refine AQ.thenN ?_
  refine AW.seq ?_
  refine AW.split rfl (fun hlt => ?_) (fun hlt => ?_) <;> (try simp only [decide_eq_true_eq, decide_eq_false_iff_not, beq_iff_eq, beq_eq_false_iff_ne, bne_iff_ne, bne_eq_false_iff_eq, Bool.not_eq_true', Bool.not_eq_false', Bool.not_eq_true, Bool.not_eq_false, ne_eq, Int.not_lt, Int.not_le, Bool.and_eq_true, Bool.or_eq_true, Bool.or_eq_false_iff, Bool.and_eq_false_imp, strOf_toList, Decidable.not_not] at hlt)
  ·skip
   have hk : k < e.out.length := by omega
   obtain ⟨w, hw⟩ : ∃ w, w = wt e.out k := ⟨_, rfl⟩
   have hok : OkW w := by rw [hw]; exact hv5 _ (getD_mem _ hk)
   have hmm : SmM w.m := hok.2.2.1.sm
   have hs1 := hok.2.2.2.2.1
   have hs2 : (e.out.take (k + 1)).filterMap (stayF now) = (e.out.take k).filterMap (stayF now) ++ (stayF now (wt e.out k)).toList := fm_succ (stayF now) Wt.none hk
   have hs3 : (e.out.take (k + 1)).filterMap (againF now) = (e.out.take k).filterMap (againF now) ++ (againF now (wt e.out k)).toList := fm_succ (againF now) Wt.none hk
   have hs4 : (e.out.take (k + 1)).filterMap (overF now) = (e.out.take k).filterMap (overF now) ++ (overF now (wt e.out k)).toList := fm_succ (overF now) Wt.none hk
   have hgw := getW hk (j := Int.toNat (k : Int)) (by omega)
   rw [← hw] at hs2 hs3 hs4 hgw
   refine AW.skip ?_
   refine AQ.thenN ?_
   refine AW.seq ?_
   refine AW.block ?_
   refine AW.seq ?_
   refine AW.region ?_
   refine AO.op (O.idxR rfl rfl rfl ⟨(by omega), (by omega)⟩) rfl rfl rfl ?_
   refine AO.op (O.loadRK rfl rfl (by exact hgw) (by rfl)) rfl rfl rfl ?_
   refine AO.opB (O.alloc rfl (by (dsimp only [zerosA, List.replicate, List.append, List.flatten, AV.cells, Value.cells, List.toList_toArray, List.map]; done)) (by rfl)) rfl rfl rfl ?_
   intro B4
   (refine AO.store (i := 0) rfl rfl rfl rfl rfl rfl (by rfl) (by rfl) (by rfl) (by (dsimp only [List.set, List.append, List.cons_append, List.nil_append, AV.cells, splice, List.take, List.drop, Nat.reduceAdd]; done)) (by (dsimp only [List.set, List.append, List.cons_append, List.nil_append, AV.cells, splice, List.take, List.drop, Nat.reduceAdd]; done)) ?_)
   refine AO.nil ?_
   refine AQ.thenN ?_
   refine AW.block ?_
   refine AW.seq ?_
   refine AW.region ?_
   refine AO.op (O.fieldAddr rfl rfl) rfl rfl rfl ?_
   refine AO.op (O.load rfl rfl (by repeat (exact List.Mem.head _)) (by rfl)) rfl rfl rfl ?_
   refine AO.op (O.move rfl rfl) rfl rfl rfl ?_
   refine AO.op (O.gtr rfl rfl rfl (by rfl)) rfl rfl rfl ?_
   refine AO.op (O.assign rfl rfl) rfl rfl rfl ?_
   refine AO.nil ?_
   refine AQ.thenN ?_
   refine AW.split rfl (fun h36 => ?_) (fun h36 => ?_) <;> (try simp only [decide_eq_true_eq, decide_eq_false_iff_not, beq_iff_eq, beq_eq_false_iff_ne, bne_iff_ne, bne_eq_false_iff_eq, Bool.not_eq_true', Bool.not_eq_false', Bool.not_eq_true, Bool.not_eq_false, ne_eq, Int.not_lt, Int.not_le, Bool.and_eq_true, Bool.or_eq_true, Bool.or_eq_false_iff, Bool.and_eq_false_imp, strOf_toList, Decidable.not_not] at h36)
   ·skip
    rw [stayF, if_pos h36, Option.toList_some] at hs2
    rw [againF, if_pos h36, Option.toList_none, List.append_nil] at hs3
    rw [overF, if_pos h36, Option.toList_none, List.append_nil] at hs4
    refine AW.region ?_
    refine AO.op (O.move rfl rfl) rfl rfl rfl ?_
    refine AO.op (O.loadK rfl rfl (by repeat (exact List.Mem.head _)) (by rfl) (by rfl)) rfl rfl rfl ?_
    refine AO.opB (O.buildSlice rfl rfl rfl (by rfl) (by rfl) (by rfl) (by rfl)) rfl rfl rfl ?_
    intro B5
    refine AO.g ?_
    (refine G.freezeSl 0 43 rfl rfl ⟨Nat.le_refl _, by unfold maxLen; omega⟩ ?_)
    refine G.unfull 43 rfl ?_
    refine AO.u ?_
    dsimp only [List.eraseIdx]
    (refine AO.append' (i := 1) rfl rfl rfl rfl (by rfl) (by rfl) rfl rfl rfl (by exact SrcA.ro TyD.ax (by rfl) (Nat.le_of_ble_eq_true rfl)) (by rfl) (by (unfold maxLen; omega)) (by omega) (by (dsimp only [List.set, List.append, List.cons_append, List.nil_append, AV.cells, splice, List.take, List.drop, Nat.reduceAdd]; done)) (fun _ => by (dsimp only [List.set]; done)) ?_)
    intro V6 hV6
    refine AO.op (O.assign rfl rfl) rfl rfl rfl ?_
    refine AO.nil ?_
    refine AQ.blockN ?_
    refine AQ.blockN ?_
    refine AQ.thenN ?_
    refine AW.region ?_
    refine AO.op (O.add rfl rfl rfl (by exact wI64 (by omega))) rfl rfl rfl ?_
    refine AO.op (O.move rfl rfl) rfl rfl rfl ?_
    refine AO.nil ?_
    refine AQ.loopKN _ _ _ (by omega) (⟨k + 1, _, Vb, Vc, by omega, ‹_›, hVb, hVc, rfl, rfl, by rw [hs2, hs3, hs4, wtsA_snoc, List.length_append]⟩) (by repeat (first | exact envNil | refine envCons rfl ?_)) (by repeat (first | exact envNil | refine envCons rfl ?_)) (by repeat (first | exact subPnil | refine subPcons 1 rfl ?_))
   ·skip
    refine AW.seq ?_
    refine AW.region ?_
    refine AO.op (O.fieldAddr rfl rfl) rfl rfl rfl ?_
    refine AO.op (O.load rfl rfl (by repeat (exact List.Mem.head _)) (by rfl)) rfl rfl rfl ?_
    refine AO.op (O.leq rfl rfl rfl (by rfl)) rfl rfl rfl ?_
    refine AO.op (O.assign rfl rfl) rfl rfl rfl ?_
    refine AO.nil ?_
    refine AQ.thenN ?_
    refine AW.split rfl (fun h45 => ?_) (fun h45 => ?_) <;> (try simp only [decide_eq_true_eq, decide_eq_false_iff_not, beq_iff_eq, beq_eq_false_iff_ne, bne_iff_ne, bne_eq_false_iff_eq, Bool.not_eq_true', Bool.not_eq_false', Bool.not_eq_true, Bool.not_eq_false, ne_eq, Int.not_lt, Int.not_le, Bool.and_eq_true, Bool.or_eq_true, Bool.or_eq_false_iff, Bool.and_eq_false_imp, strOf_toList, Decidable.not_not] at h45)
    ·skip
     rw [stayF, if_neg (by omega), if_pos h45, Option.toList_some] at hs2
     rw [againF, if_neg (by omega), if_pos h45, Option.toList_some] at hs3
     rw [overF, if_neg (by omega), if_pos h45, Option.toList_none, List.append_nil] at hs4
     have hpw := pw_bd (s := w.sent) (by omega) h45
     refine AW.seq ?_
     refine AW.region ?_
     refine AO.op (O.move rfl rfl) rfl rfl rfl ?_
     refine AO.op (O.fieldAddr rfl rfl) rfl rfl rfl ?_
     refine AO.op (O.load rfl rfl (by repeat (exact List.Mem.head _)) (by rfl)) rfl rfl rfl ?_
     refine AO.op (O.shl rfl rfl rfl (by omega) (shl_pw (s := w.sent) (by omega) h45)) rfl rfl rfl ?_
     refine AO.op (O.add rfl rfl rfl (by exact wI64 (by omega))) rfl rfl rfl ?_
     refine AO.op (O.fieldAddr rfl rfl) rfl rfl rfl ?_
     (refine AO.store (i := 0) rfl rfl rfl rfl rfl rfl (by rfl) (by rfl) (by rfl) (by (dsimp only [List.set, List.append, List.cons_append, List.nil_append, AV.cells, splice, List.take, List.drop, Nat.reduceAdd]; done)) (by (dsimp only [List.set, List.append, List.cons_append, List.nil_append, AV.cells, splice, List.take, List.drop, Nat.reduceAdd]; done)) ?_)
     refine AO.nil ?_
     refine AQ.thenN ?_
     refine AW.seq ?_
     refine AW.region ?_
     refine AO.op (O.fieldAddr rfl rfl) rfl rfl rfl ?_
     refine AO.op (O.load rfl rfl (by repeat (exact List.Mem.head _)) (by rfl)) rfl rfl rfl ?_
     refine AO.op (O.add rfl rfl rfl (by exact wI64 (by omega))) rfl rfl rfl ?_
     refine AO.op (O.fieldAddr rfl rfl) rfl rfl rfl ?_
     (refine AO.store (i := 0) rfl rfl rfl rfl rfl rfl (by rfl) (by rfl) (by rfl) (by (dsimp only [List.set, List.append, List.cons_append, List.nil_append, AV.cells, splice, List.take, List.drop, Nat.reduceAdd]; done)) (by (dsimp only [List.set, List.append, List.cons_append, List.nil_append, AV.cells, splice, List.take, List.drop, Nat.reduceAdd]; done)) ?_)
     refine AO.nil ?_
     refine AQ.thenN ?_
     refine AW.seq ?_
     refine AW.region ?_
     refine AO.op (O.move rfl rfl) rfl rfl rfl ?_
     refine AO.op (O.loadK rfl rfl (by repeat (exact List.Mem.head _)) (by rfl) (by rfl)) rfl rfl rfl ?_
     refine AO.opB (O.buildSlice rfl rfl rfl (by rfl) (by rfl) (by rfl) (by rfl)) rfl rfl rfl ?_
     intro B7
     refine AO.g ?_
     (refine G.freezeSl 0 61 rfl rfl ⟨Nat.le_refl _, by unfold maxLen; omega⟩ ?_)
     refine G.unfull 61 rfl ?_
     refine AO.u ?_
     dsimp only [List.eraseIdx]
     (refine AO.append' (i := 1) rfl rfl rfl rfl (by rfl) (by rfl) rfl rfl rfl (by exact SrcA.ro TyD.ax (by rfl) (Nat.le_of_ble_eq_true rfl)) (by rfl) (by (unfold maxLen; omega)) (by omega) (by (dsimp only [List.set, List.append, List.cons_append, List.nil_append, AV.cells, splice, List.take, List.drop, Nat.reduceAdd]; done)) (fun _ => by (dsimp only [List.set]; done)) ?_)
     intro V8 hV8
     refine AO.op (O.assign rfl rfl) rfl rfl rfl ?_
     refine AO.nil ?_
     refine AQ.thenN ?_
     refine AW.seq ?_
     refine AW.region ?_
     refine AO.op (O.fieldAddr rfl rfl) rfl rfl rfl ?_
     refine AO.op (O.loadK rfl rfl (by repeat (exact List.Mem.head _)) (by rfl) (by rfl)) rfl rfl rfl ?_
     refine AO.op (O.call rfl Tryz.func56 rfl rfl rfl (message_fn w.m hmm)) rfl rfl rfl ?_
     refine AO.op (O.fieldAddr rfl rfl) rfl rfl rfl ?_
     (refine AO.store (i := 0) rfl rfl rfl rfl rfl rfl (by rfl) (by rfl) (by rfl) (by (dsimp only [List.set, List.append, List.cons_append, List.nil_append, AV.cells, splice, List.take, List.drop, Nat.reduceAdd]; done)) (by (dsimp only [List.set, List.append, List.cons_append, List.nil_append, AV.cells, splice, List.take, List.drop, Nat.reduceAdd]; done)) ?_)
     refine AO.nil ?_
     refine AQ.thenN ?_
     refine AW.region ?_
     refine AO.op (O.move rfl rfl) rfl rfl rfl ?_
     refine AO.op (O.loadK rfl rfl (by repeat (exact List.Mem.head _)) (by rfl) (by rfl)) rfl rfl rfl ?_
     refine AO.opB (O.buildSlice rfl rfl rfl (by rfl) (by rfl) (by rfl) (by rfl)) rfl rfl rfl ?_
     intro B9
     refine AO.g ?_
     (refine G.freezeSl 0 69 rfl rfl ⟨Nat.le_refl _, by unfold maxLen; omega⟩ ?_)
     refine G.unfull 69 rfl ?_
     refine AO.u ?_
     dsimp only [List.eraseIdx]
     (refine AO.append' (i := 2) rfl rfl rfl rfl (by rfl) (by rfl) rfl rfl rfl (by exact SrcA.ro TyD.ax (by rfl) (Nat.le_of_ble_eq_true rfl)) (by rfl) (by (unfold maxLen; omega)) (by omega) (by (dsimp only [List.set, List.append, List.cons_append, List.nil_append, AV.cells, splice, List.take, List.drop, Nat.reduceAdd]; done)) (fun _ => by (dsimp only [List.set]; done)) ?_)
     intro V10 hV10
     refine AO.op (O.assign rfl rfl) rfl rfl rfl ?_
     refine AO.nil ?_
     refine AQ.blockN ?_
     refine AQ.blockN ?_
     refine AQ.thenN ?_
     refine AW.region ?_
     refine AO.op (O.add rfl rfl rfl (by exact wI64 (by omega))) rfl rfl rfl ?_
     refine AO.op (O.move rfl rfl) rfl rfl rfl ?_
     refine AO.nil ?_
     refine AQ.loopKN _ _ _ (by omega) (⟨k + 1, V8, V10, Vc, by omega, hV8, hV10, hVc, rfl, rfl, by rw [hs2, hs3, hs4, wtsA_snoc, wtsA_snoc, List.length_append, List.length_append]⟩) (by repeat (first | exact envNil | refine envCons rfl ?_)) (by repeat (first | exact envNil | refine envCons rfl ?_)) (by repeat (first | exact subPnil | refine subPcons 1 rfl ?_))
    ·skip
     rw [stayF, if_neg (by omega), if_neg (by omega), Option.toList_none, List.append_nil] at hs2
     rw [againF, if_neg (by omega), if_neg (by omega), Option.toList_none, List.append_nil] at hs3
     rw [overF, if_neg (by omega), if_neg (by omega), Option.toList_some] at hs4
     refine AW.region ?_
     refine AO.op (O.move rfl rfl) rfl rfl rfl ?_
     refine AO.op (O.loadK rfl rfl (by repeat (exact List.Mem.head _)) (by rfl) (by rfl)) rfl rfl rfl ?_
     refine AO.opB (O.buildSlice rfl rfl rfl (by rfl) (by rfl) (by rfl) (by rfl)) rfl rfl rfl ?_
     intro B11
     refine AO.g ?_
     (refine G.freezeSl 0 34 rfl rfl ⟨Nat.le_refl _, by unfold maxLen; omega⟩ ?_)
     refine G.unfull 34 rfl ?_
     refine AO.u ?_
     dsimp only [List.eraseIdx]
     (refine AO.append' (i := 3) rfl rfl rfl rfl (by rfl) (by rfl) rfl rfl rfl (by exact SrcA.ro TyD.ax (by rfl) (Nat.le_of_ble_eq_true rfl)) (by rfl) (by (unfold maxLen; omega)) (by omega) (by (dsimp only [List.set, List.append, List.cons_append, List.nil_append, AV.cells, splice, List.take, List.drop, Nat.reduceAdd]; done)) (fun _ => by (dsimp only [List.set]; done)) ?_)
     intro V12 hV12
     refine AO.op (O.assign rfl rfl) rfl rfl rfl ?_
     refine AO.nil ?_
     refine AQ.blockN ?_
     refine AQ.blockN ?_
     refine AQ.thenN ?_
     refine AW.region ?_
     refine AO.op (O.add rfl rfl rfl (by exact wI64 (by omega))) rfl rfl rfl ?_
     refine AO.op (O.move rfl rfl) rfl rfl rfl ?_
     refine AO.nil ?_
     refine AQ.loopKN _ _ _ (by omega) (⟨k + 1, Va, Vb, _, by omega, hVa, hVb, ‹_›, rfl, rfl, by rw [hs2, hs3, hs4, wtsA_snoc, List.length_append]⟩) (by repeat (first | exact envNil | refine envCons rfl ?_)) (by repeat (first | exact envNil | refine envCons rfl ?_)) (by repeat (first | exact subPnil | refine subPcons 1 rfl ?_))
  ·skip
   obtain rfl : k = e.out.length := by omega
   rw [List.take_length]
   refine AW.exit ?_
   refine AQ.thenX ?_
   refine AQ.loopX ?_
   refine AQ.blockX rfl ?_
   refine AQ.thenN ?_
   refine AW.seq ?_
   refine AW.region ?_
   refine AO.op (O.move rfl rfl) rfl rfl rfl ?_
   refine AO.op (O.fieldAddr rfl rfl) rfl rfl rfl ?_
   (refine AO.store (i := 6) rfl rfl rfl rfl rfl rfl (by (simp [AV.cells, AV.one, *]; done)) (by rfl) (by rfl) (by (dsimp only [List.set, List.append, List.cons_append, List.nil_append, AV.cells, splice, List.take, List.drop, Nat.reduceAdd]; done)) (by (dsimp only [List.set, List.append, List.cons_append, List.nil_append, AV.cells, splice, List.take, List.drop, Nat.reduceAdd]; done)) ?_)
   refine AO.nil ?_
   refine AQ.thenN ?_
   refine AW.seq ?_
   refine AW.region ?_
   refine AO.op (O.loadK rfl rfl (by repeat (first | exact List.Mem.head _ | refine List.Mem.tail _ ?_)) (by rfl) (by rfl)) rfl rfl rfl ?_
   refine AO.op (O.move rfl rfl) rfl rfl rfl ?_
   refine AO.op (O.move rfl rfl) rfl rfl rfl ?_
   (refine AO.store (i := 5) rfl rfl rfl rfl rfl rfl (by (simp [AV.cells, AV.one, roB, roI, roO, show ∀ k z, (Value.int k z).oneCell' = true from fun _ _ => rfl, show ∀ k, (Value.bool k).oneCell' = true from fun _ => rfl, *]; done)) (by rfl) (by rfl) (by (dsimp only [List.set, List.append, List.cons_append, List.nil_append, AV.cells, splice, List.take, List.drop, Nat.reduceAdd]; done)) (by (dsimp only [List.set, List.append, List.cons_append, List.nil_append, AV.cells, splice, List.take, List.drop, Nat.reduceAdd]; done)) ?_)
   refine AO.op (O.assign rfl rfl) rfl rfl rfl ?_
   refine AO.op (O.assign rfl rfl) rfl rfl rfl ?_
   refine AO.op (O.assign rfl rfl) rfl rfl rfl ?_
   refine AO.nil ?_
   refine AQ.thenN ?_
   refine AW.ret ?_
   refine AQ.g ?_
   refine G.freezeCell 0 4 1 rfl rfl rfl ?_
   refine AQ.u ?_
   dsimp only [List.eraseIdx, List.set]
   refine AQ.g ?_
   refine G.freezeCell 2 3 3 rfl rfl rfl ?_
   refine AQ.u ?_
   dsimp only [List.eraseIdx, List.set]
   refine AQ.g ?_
   refine G.freezeCell 2 2 2 rfl rfl rfl ?_
   refine AQ.u ?_
   dsimp only [List.eraseIdx, List.set]
   refine AQ.g ?_
   refine G.freezeRow 0 rfl [5] (by repeat (first | exact frNil | refine frCons rfl ?_)) ?_
   refine AQ.u ?_
   dsimp only [List.map, List.eraseIdx, List.cons_append, List.nil_append]
   refine AQ.g ?_
   refine G.freezeRow 0 rfl [6] (by repeat (first | exact frNil | refine frCons rfl ?_)) ?_
   refine AQ.u ?_
   dsimp only [List.map, List.eraseIdx, List.cons_append, List.nil_append]
   refine FnQ.coe (AQ.ret4G rfl (by exact ResAt.cell rfl (by repeat (exact List.Mem.head _)) (by (dsimp only [List.set, List.append, List.cons_append, List.nil_append, AV.cells, splice, List.take, List.drop, Nat.reduceAdd]; done)) (by rfl)) (by exact ResAt.tmp rfl) (by exact ResAt.tmp rfl) (by exact ResAt.tmp rfl) ⟨_, List.nil_sublist _, .nil⟩ ⟨rfl, rfl⟩) (Coe.tup (by (repeat (first | exact CoeL.nil | refine CoeL.cons Coe.rfl ?_)); done)) (ret4T e1 rfl)
end Go.Proofs.YtoonnnifelnaiaaGreatDoor.By

namespace Go.Proofs.YtoonnnifelnaiaaGreatDoor.By
open Go.RowKit L A
set_option linter.unusedVariables false
set_option maxRecDepth 20000
set_option linter.unusedSimpArgs false
attribute [local irreducible] AW AQ AO
theorem fi_some {α : Type} (p : α → Bool) (d : α) {l : List α} {k : Nat} (h : k < l.length) (hp : p (l.getD k d) = true) (hn : ∀ q, q < k → p (l.getD q d) = false) : l.findIdx? p = some k := by
 rw [List.findIdx?_eq_some_iff_getElem]
 have e : ∀ q (hq : q < l.length), l.getD q d = l[q] := fun q hq => by simp [hq]
 refine ⟨h, by rw [← e]; exact hp, fun q hq => ?_⟩
 rw [← e, hn q hq]; simp
theorem fi_none {α : Type} (p : α → Bool) (d : α) {l : List α} (hn : ∀ q, q < l.length → p (l.getD q d) = false) : l.findIdx? p = none := by
 rw [List.findIdx?_eq_none_iff]
 intro x hx
 obtain ⟨q, hq, rfl⟩ := List.getElem_of_mem hx
 have := hn q hq
 simpa [hq] using this
def hB (peer id : Int) (h : Hd) : Bool := h.peer == peer && h.id == id
def endR (c : Ep) (p : Int) (m : Msg) : Ep × Int × Msg × Int := match c.out.findIdx? (wB p m.id) with
 | some i => (⟨c.next, c.out.eraseIdx i, c.used, c.inn⟩, if m.ty = 3 then 4 else 3, Msg.none, 0)
 | none => (c, 5, Msg.none, 0)
theorem wts_cut (l : List Wt) {i n : Nat} (h : i < l.length) (hn : n = l.length - (i + 1)) {a b c : Nat} (ha : a = i * 9) (hb : b = (i + 1) * 9) (hc : c = n * 9) : (wtsA l).take a ++ ((wtsA l).drop b).take c = wtsA (l.eraseIdx i) := by
 subst ha hb hc
 rw [wtsA, flat_take cellsW_len, flat_drop cellsW_len, flat_take cellsW_len, List.take_of_length_le (l := l.drop (i + 1)) (by rw [List.length_drop]; omega), ← List.flatMap_append, ← List.eraseIdx_eq_take_drop_succ]
 rfl
theorem wts_cut0 (l : List Wt) {i : Nat} (h : i + 1 = l.length) {a : Nat} (ha : a = i * 9) : (wtsA l).take a ++ [] = wtsA (l.eraseIdx i) := by
 subst ha
 rw [wtsA, flat_take cellsW_len, List.eraseIdx_eq_take_drop_succ, List.drop_of_length_le (by omega), List.append_nil, List.append_nil]
 rfl
theorem rowEq {V : Value} {T k n n' : Nat} {xs xs' : List AV} (h1 : n = n') (h2 : xs = xs') : [HE.row V T k n xs] = [HE.row V T k n' xs'] := by subst h1 h2; rfl
/-- The caller's row of what waits is given along. -/
def EndP (c : Ep) (p : Int) (m : Msg) (x2 x3 : AV) : AV → List HE → Prop := fun r H' => ∃ V : Value, V.oneCell' = true ∧
 r = .tup [.agg [.val (.int .i64 c.next), .val V, x2, x3], .val (.int .i64 (endR c p m).2.1), aggM Msg.none, .val (.int .i64 0)] ∧ H' = [.row V 78 9 (endR c p m).1.out.length (wtsA (endR c p m).1.out)]
theorem retEnd {c : Ep} {p : Int} {m : Msg} {x2 x3 q : AV} {H' : List HE} {a : Ep} {k : Int} (V : Value) (hV : V.oneCell' = true) (h : endR c p m = (a, k, Msg.none, 0)) (hq : q = .tup [.agg [.val (.int .i64 c.next), .val V, x2, x3], .val (.int .i64 k), aggM Msg.none, .val (.int .i64 0)])
  (hH : H' = [.row V 78 9 a.out.length (wtsA a.out)]) : EndP c p m x2 x3 q H' := ⟨V, hV, by rw [h]; exact hq, by rw [h]; exact hH⟩
theorem one_dt {xs : List AV} (h : xs.all AV.one = true) (a b : Nat) : ((xs.drop a).take b).all AV.one = true := by
 rw [List.all_eq_true] at h ⊢
 exact fun x hx => h x (List.mem_of_mem_drop (List.mem_of_mem_take hx))
set_option maxHeartbeats 4000000 in
theorem ended_fn (c : Ep) (p : Int) (m : Msg) (V1 V2 V3 : Value) (h1 : V1.oneCell' = true) (h2 : V2.oneCell' = true) (h3 : V3.oneCell' = true) (hl : c.out.length ≤ 1000) : Sp Tryz.prog 57 [.agg [.val (.int .i64 c.next), .val V1, .val V2, .val V3], .val (.int .i64 p), aggM m] [.row V1 78 9 c.out.length (wtsA c.out)] (EndP c p m (.val V2) (.val V3)) := by
 refine Sp.enter Tryz.func57 rfl _ Tryz.ntmps57 rfl (fun w0 R0 => ?_)
 refine AW.seq ?_
 refine AW.region ?_
 refine AO.opB (O.box rfl rfl rfl rfl rfl) rfl rfl rfl ?_
 intro B1
 refine AO.opB (O.box rfl rfl rfl rfl rfl) rfl rfl rfl ?_
 intro B2
 refine AO.opB (O.alloc rfl (by (dsimp only [zerosA, List.replicate, List.append, List.flatten, AV.cells, Value.cells, List.toList_toArray, List.map]; done)) (by rfl)) rfl rfl rfl ?_
 intro B3
 refine AO.op (O.assign rfl rfl) rfl rfl rfl ?_
 refine AO.opB (O.alloc rfl (by (dsimp only [zerosA, List.replicate, List.append, List.flatten, AV.cells, Value.cells, List.toList_toArray, List.map]; done)) (by rfl)) rfl rfl rfl ?_
 intro B4
 refine AO.op (O.assign rfl rfl) rfl rfl rfl ?_
 refine AO.nil ?_
 refine AQ.thenN ?_
 refine AW.seq ?_
 refine AW.seq ?_
 refine AW.region ?_
 refine AO.op (O.fieldAddr rfl rfl) rfl rfl rfl ?_
 refine AO.op (O.load rfl rfl (by repeat (first | exact List.Mem.head _ | refine List.Mem.tail _ ?_)) (by rfl)) rfl rfl rfl ?_
 refine AO.op (O.lenRow rfl rfl (by repeat (first | exact List.Mem.head _ | refine List.Mem.tail _ ?_))) rfl rfl rfl ?_
 refine AO.op (O.move rfl rfl) rfl rfl rfl ?_
 refine AO.nil ?_
 refine AQ.thenN ?_
 refine AW.block ?_
 refine AW.loopK [(1, _), (3, _), (5, _), (6, _), (8, _), (13, _), (14, _)] (fun nn E H => ∃ (k : Nat), (k ≤ c.out.length) ∧ (∀ q, q < k → wB p m.id (wt c.out q) = false) ∧ nn = c.out.length - k ∧ E = [(15, .val (.int .i64 (k : Int)))] ∧ H = [.blk B4 41 6 [.val (.int .i64 0), .val (.int .i64 0), .val (.int .i64 0), .val nilS, .val nilS, .val nilS], .blk B3 56 4 [.val (.int .i64 0), .val nilS, .val nilS, .val nilS], .blk B2 41 6 [.val (.int .i64 m.ty), .val (.int .i64 m.code), .val (.int .i64 m.id), roB m.tok, roO m.opts, roB m.pay], .blk B1 56 4 [.val (.int .i64 c.next), .val V1, .val V2, .val V3], .row V1 78 9 c.out.length (wtsA c.out)]) _ (⟨0, by omega, fun q hq => absurd hq (by omega), rfl, rfl, rfl⟩) (by repeat (first | exact envNil | refine envCons rfl ?_)) (by repeat (first | exact envNil | refine envCons rfl ?_)) (by repeat (first | exact subPnil | refine subPcons 0 rfl ?_)) ?_
 rintro nn E H ⟨k, hk1, hn, rfl, rfl, rfl⟩
 dsimp only [List.cons_append, List.nil_append]
 refine AW.seq ?_
 refine AW.region ?_
 refine AO.op (O.lss rfl rfl rfl (by rfl)) rfl rfl rfl ?_
 refine AO.nil ?_
 refine AQ.thenN ?_
 refine AW.seq ?_
 refine AW.split rfl (fun hlt => ?_) (fun hlt => ?_) <;> (try simp only [decide_eq_true_eq, decide_eq_false_iff_not, beq_iff_eq, beq_eq_false_iff_ne, bne_iff_ne, bne_eq_false_iff_eq, Bool.not_eq_true', Bool.not_eq_false', Bool.not_eq_true, Bool.not_eq_false, ne_eq, Int.not_lt, Int.not_le, Bool.and_eq_true, Bool.or_eq_true, Bool.or_eq_false_iff, Bool.and_eq_false_imp, strOf_toList, Decidable.not_not] at hlt)
 ·skip
  have hk : k < c.out.length := by omega
  have hgw : ((wtsA c.out).drop (0 + Int.toNat (k : Int) * 9)).take 9 = cW (wt c.out k) := by rw [Nat.zero_add]; exact getW hk (by omega)
  refine AW.g ?_
  refine G.openRow 4 rfl (by omega) (fun b cap hc1 hc2 hxs hVe => ?_)
  refine AW.u ?_
  subst hVe
  dsimp only [List.set]
  refine AW.skip ?_
  refine AQ.thenN ?_
  refine AW.seq ?_
  refine AW.block ?_
  refine AW.seq ?_
  refine AW.region ?_
  refine AO.op (O.move rfl rfl) rfl rfl rfl ?_
  refine AO.op (O.idxV rfl rfl rfl ⟨(by omega), (by omega)⟩) rfl rfl rfl ?_
  refine AO.op (O.loadK rfl rfl (by repeat (first | exact List.Mem.head _ | refine List.Mem.tail _ ?_)) (by exact hgw) (by rfl)) rfl rfl rfl ?_
  refine AO.opB (O.alloc rfl (by (dsimp only [zerosA, List.replicate, List.append, List.flatten, AV.cells, Value.cells, List.toList_toArray, List.map]; done)) (by rfl)) rfl rfl rfl ?_
  intro B5
  refine AO.op (O.assign rfl rfl) rfl rfl rfl ?_
  (refine AO.store (i := 0) rfl rfl rfl rfl rfl rfl (by rfl) (by rfl) (by rfl) (by (dsimp only [List.set, List.append, List.cons_append, List.nil_append, AV.cells, splice, List.take, List.drop, Nat.reduceAdd]; done)) (by (dsimp only [List.set, List.append, List.cons_append, List.nil_append, AV.cells, splice, List.take, List.drop, Nat.reduceAdd]; done)) ?_)
  refine AO.nil ?_
  refine AQ.thenN ?_
  refine AW.seq ?_
  refine AW.seq ?_
  refine AW.region ?_
  refine AO.op (O.fieldAddr rfl rfl) rfl rfl rfl ?_
  refine AO.op (O.load rfl rfl (by repeat (exact List.Mem.head _)) (by rfl)) rfl rfl rfl ?_
  refine AO.op (O.move rfl rfl) rfl rfl rfl ?_
  refine AO.op (O.neq rfl rfl rfl (by rfl)) rfl rfl rfl ?_
  refine AO.op (O.move rfl rfl) rfl rfl rfl ?_
  refine AO.opG rfl rfl rfl (fun hp => O.fieldAddr rfl rfl) ?_
  refine AO.opG rfl rfl rfl (fun hp => OpW.force 25 rfl (by exact hp) (O.fieldAddr rfl rfl)) ?_
  refine AO.opG rfl rfl rfl (fun hp => OpW.force 26 rfl (by exact hp) (O.load rfl rfl (by repeat (exact List.Mem.head _)) (by rfl))) ?_
  refine AO.opG rfl rfl rfl (fun hp => O.fieldAddr rfl rfl) ?_
  refine AO.opG rfl rfl rfl (fun hp => OpW.force 28 rfl (by exact hp) (O.load rfl rfl (by repeat (first | exact List.Mem.head _ | refine List.Mem.tail _ ?_)) (by rfl))) ?_
  refine AO.opG rfl rfl rfl (fun hp => OpW.force 27 rfl (by exact hp) (OpW.force 29 rfl (by exact hp) (O.neq rfl rfl rfl (by rfl)))) ?_
  refine AO.op (O.pickOr rfl rfl rfl rfl (fun h => by exact congrArg (fun b => !b) h)) rfl rfl rfl ?_
  refine AO.nil ?_
  refine AQ.thenN ?_
  refine AW.split rfl (fun h31 => ?_) (fun h31 => ?_) <;> (try simp only [decide_eq_true_eq, decide_eq_false_iff_not, beq_iff_eq, beq_eq_false_iff_ne, bne_iff_ne, bne_eq_false_iff_eq, Bool.not_eq_true', Bool.not_eq_false', Bool.not_eq_true, Bool.not_eq_false, ne_eq, Int.not_lt, Int.not_le, Bool.and_eq_true, Bool.or_eq_true, Bool.or_eq_false_iff, Bool.and_eq_false_imp, strOf_toList, Decidable.not_not] at h31)
  ·skip
   refine AW.exit ?_
   refine AQ.thenX ?_
   refine AQ.blockX rfl ?_
   refine AQ.thenN ?_
   refine AW.region ?_
   refine AO.op (O.add rfl rfl rfl (by exact wI64 (by omega))) rfl rfl rfl ?_
   refine AO.op (O.move rfl rfl) rfl rfl rfl ?_
   refine AO.nil ?_
   refine AQ.g ?_
   refine G.closeRow (b := b) (sz := 9) (n := c.out.length) (cap := cap) 5 rfl hxs rfl hc1 hc2 ?_
   refine AQ.u ?_
   dsimp only [List.set]
   refine AQ.loopKN _ _ _ (by omega) (⟨k + 1, by omega, fun q hq => (Nat.lt_or_ge q k).elim (hn q) (fun h => by rw [show q = k by omega, wB, Bool.eq_false_iff, ne_eq, Bool.and_eq_true, beq_iff_eq, beq_iff_eq]; exact fun ⟨a, b⟩ => h31.elim (fun f => f a) (fun f => f b)), rfl, rfl, rfl⟩) (by repeat (first | exact envNil | refine envCons rfl ?_)) (by repeat (first | exact envNil | refine envCons rfl ?_)) (by repeat (first | exact subPnil | refine subPcons 1 rfl ?_))
  ·skip
   have e0 := fi_some (wB p m.id) Wt.none hk (by rw [wB, Bool.and_eq_true, beq_iff_eq, beq_iff_eq]; exact h31) hn
   skip
   rcases Nat.lt_or_ge (k + 1) c.out.length with hlast | hlast
   ·skip
    refine AW.skip ?_
    refine AQ.thenN ?_
    refine AW.seq ?_
    refine AW.regionD 9 (by kernel_rfl) (by kernel_rfl) ?_
    simp only [List.take_succ_cons, List.take_zero, List.drop_succ_cons, List.drop_zero]
    refine FA.op (O.fieldAddr rfl rfl) rfl rfl rfl rfl ?_
    refine FA.op (O.load rfl rfl (by repeat (first | exact List.Mem.head _ | refine List.Mem.tail _ ?_)) (by rfl)) rfl rfl rfl rfl ?_
    refine FA.op (O.move rfl rfl) rfl rfl rfl rfl ?_
    refine FA.op (O.sliceV rfl rfl rfl rfl ⟨by omega, by omega, by omega⟩ (by omega)) rfl rfl rfl rfl ?_
    refine FA.op (O.fieldAddr rfl rfl) rfl rfl rfl rfl ?_
    refine FA.op (O.load rfl rfl (by repeat (first | exact List.Mem.head _ | refine List.Mem.tail _ ?_)) (by rfl)) rfl rfl rfl rfl ?_
    refine FA.op (O.move rfl rfl) rfl rfl rfl rfl ?_
    refine FA.op (O.add rfl rfl rfl (by exact wI64 (by omega))) rfl rfl rfl rfl ?_
    refine FA.op (O.sliceV rfl rfl rfl rfl ⟨by omega, by omega, by omega⟩ (by omega)) rfl rfl rfl rfl ?_
    refine FA.nil ?_
    simp only [chosen, List.nil_append, List.cons_append, List.append_nil]
    (refine AO.appendCut (i := 5) rfl rfl rfl rfl (by rfl) (by rfl) rfl rfl rfl (by omega) (by exact SrcA.blk TyD.ax (by repeat (first | exact List.Mem.head _ | refine List.Mem.tail _ ?_)) (by (dsimp only [List.set, List.append, List.cons_append, List.nil_append, AV.cells, splice, List.take, List.drop, Nat.reduceAdd]; done)) (by (simp; omega))) (by exact one_dt (wtsA_one _) _ _) (by (unfold maxLen; omega)) (by omega) ⟨by omega, by assumption⟩ (by (dsimp only [List.set, List.append, List.cons_append, List.nil_append, AV.cells, splice, List.take, List.drop, Nat.reduceAdd]; done)) (fun _ => by (dsimp only [List.set]; done)) ?_)
    intro V6 hV6
    refine AO.op (O.fieldAddr rfl rfl) rfl rfl rfl ?_
    (refine AO.store (i := 4) rfl rfl rfl rfl rfl rfl (by (simp [AV.cells, AV.one, *]; done)) (by rfl) (by rfl) (by (dsimp only [List.set, List.append, List.cons_append, List.nil_append, AV.cells, splice, List.take, List.drop, Nat.reduceAdd]; done)) (by (dsimp only [List.set, List.append, List.cons_append, List.nil_append, AV.cells, splice, List.take, List.drop, Nat.reduceAdd]; done)) ?_)
    refine AO.nil ?_
    refine AQ.thenN ?_
    refine AW.seq ?_
    refine AW.seq ?_
    refine AW.region ?_
    refine AO.op (O.fieldAddr rfl rfl) rfl rfl rfl ?_
    refine AO.op (O.load rfl rfl (by repeat (first | exact List.Mem.head _ | refine List.Mem.tail _ ?_)) (by rfl)) rfl rfl rfl ?_
    refine AO.op (O.eql rfl rfl rfl (by rfl)) rfl rfl rfl ?_
    refine AO.nil ?_
    refine AQ.thenN ?_
    refine AW.split rfl (fun h45 => ?_) (fun h45 => ?_) <;> (try simp only [decide_eq_true_eq, decide_eq_false_iff_not, beq_iff_eq, beq_eq_false_iff_ne, bne_iff_ne, bne_eq_false_iff_eq, Bool.not_eq_true', Bool.not_eq_false', Bool.not_eq_true, Bool.not_eq_false, ne_eq, Int.not_lt, Int.not_le, Bool.and_eq_true, Bool.or_eq_true, Bool.or_eq_false_iff, Bool.and_eq_false_imp, strOf_toList, Decidable.not_not] at h45)
    ·skip
     have e1 : endR c p m = (⟨c.next, c.out.eraseIdx k, c.used, c.inn⟩, 4, Msg.none, 0) := by rw [endR, e0]; show (_, (if m.ty = 3 then (4 : Int) else 3), _, _) = _; rw [if_pos h45]
     refine AW.seq ?_
     refine AW.region ?_
     refine AO.op (O.loadK rfl rfl (by repeat (first | exact List.Mem.head _ | refine List.Mem.tail _ ?_)) (by rfl) (by rfl)) rfl rfl rfl ?_
     refine AO.op (O.build rfl rfl rfl (by rfl)) rfl rfl rfl ?_
     (refine AO.store (i := 2) rfl rfl rfl rfl rfl rfl (by (simp [AV.cells, AV.one, roB, roI, roO, show ∀ k z, (Value.int k z).oneCell' = true from fun _ _ => rfl, show ∀ k, (Value.bool k).oneCell' = true from fun _ => rfl, *]; done)) (by rfl) (by rfl) (by (dsimp only [List.set, List.append, List.cons_append, List.nil_append, AV.cells, splice, List.take, List.drop, Nat.reduceAdd]; done)) (by (dsimp only [List.set, List.append, List.cons_append, List.nil_append, AV.cells, splice, List.take, List.drop, Nat.reduceAdd]; done)) ?_)
     refine AO.op (O.assign rfl rfl) rfl rfl rfl ?_
     (refine AO.store (i := 1) rfl rfl rfl rfl rfl rfl (by rfl) (by rfl) (by rfl) (by (dsimp only [List.set, List.append, List.cons_append, List.nil_append, AV.cells, splice, List.take, List.drop, Nat.reduceAdd]; done)) (by (dsimp only [List.set, List.append, List.cons_append, List.nil_append, AV.cells, splice, List.take, List.drop, Nat.reduceAdd]; done)) ?_)
     refine AO.op (O.assign rfl rfl) rfl rfl rfl ?_
     refine AO.nil ?_
     refine AQ.thenN ?_
     refine AW.ret ?_
     refine AQ.thenR ?_
     refine AQ.blockR ?_
     refine AQ.thenR ?_
     refine AQ.loopR ?_
     refine AQ.blockR ?_
     refine AQ.thenR ?_
     refine FnQ.coe (AQ.ret4G rfl (by exact ResAt.cell rfl (by repeat (first | exact List.Mem.head _ | refine List.Mem.tail _ ?_)) (by (dsimp only [List.set, List.append, List.cons_append, List.nil_append, AV.cells, splice, List.take, List.drop, Nat.reduceAdd]; done)) (by rfl)) (by exact ResAt.tmp rfl) (by exact ResAt.cell rfl (by repeat (first | exact List.Mem.head _ | refine List.Mem.tail _ ?_)) (by (dsimp only [List.set, List.append, List.cons_append, List.nil_append, AV.cells, splice, List.take, List.drop, Nat.reduceAdd]; done)) (by rfl)) (by exact ResAt.tmp rfl) ⟨_, by repeat (first | exact List.Sublist.slnil | refine List.Sublist.cons_cons _ ?_ | refine List.Sublist.cons _ ?_), List.Perm.refl _⟩ ⟨rfl, rfl⟩) (Coe.tup (by (repeat (first | exact CoeL.nil | refine CoeL.cons Coe.rfl ?_ | refine CoeL.cons Coe.nil ?_ | refine CoeL.cons (Coe.agg ?_) ?_)); done)) (retEnd V6 hV6 e1 rfl (rowEq (by simp only [List.length_eraseIdx, if_pos hk]; omega) (wts_cut c.out hk (n := (Int.toNat (c.out.length : Int)) - Int.toNat ((k : Int) + 1)) (by omega) (by omega) (by omega) (by omega))))
    ·skip
     have e1 : endR c p m = (⟨c.next, c.out.eraseIdx k, c.used, c.inn⟩, 3, Msg.none, 0) := by rw [endR, e0]; show (_, (if m.ty = 3 then (4 : Int) else 3), _, _) = _; rw [if_neg h45]
     refine AW.skip ?_
     refine AQ.thenN ?_
     refine AW.seq ?_
     refine AW.region ?_
     refine AO.op (O.loadK rfl rfl (by repeat (first | exact List.Mem.head _ | refine List.Mem.tail _ ?_)) (by rfl) (by rfl)) rfl rfl rfl ?_
     refine AO.op (O.build rfl rfl rfl (by rfl)) rfl rfl rfl ?_
     (refine AO.store (i := 2) rfl rfl rfl rfl rfl rfl (by (simp [AV.cells, AV.one, roB, roI, roO, show ∀ k z, (Value.int k z).oneCell' = true from fun _ _ => rfl, show ∀ k, (Value.bool k).oneCell' = true from fun _ => rfl, *]; done)) (by rfl) (by rfl) (by (dsimp only [List.set, List.append, List.cons_append, List.nil_append, AV.cells, splice, List.take, List.drop, Nat.reduceAdd]; done)) (by (dsimp only [List.set, List.append, List.cons_append, List.nil_append, AV.cells, splice, List.take, List.drop, Nat.reduceAdd]; done)) ?_)
     refine AO.op (O.assign rfl rfl) rfl rfl rfl ?_
     (refine AO.store (i := 1) rfl rfl rfl rfl rfl rfl (by rfl) (by rfl) (by rfl) (by (dsimp only [List.set, List.append, List.cons_append, List.nil_append, AV.cells, splice, List.take, List.drop, Nat.reduceAdd]; done)) (by (dsimp only [List.set, List.append, List.cons_append, List.nil_append, AV.cells, splice, List.take, List.drop, Nat.reduceAdd]; done)) ?_)
     refine AO.op (O.assign rfl rfl) rfl rfl rfl ?_
     refine AO.nil ?_
     refine AQ.thenN ?_
     refine AW.ret ?_
     refine AQ.blockR ?_
     refine AQ.thenR ?_
     refine AQ.loopR ?_
     refine AQ.blockR ?_
     refine AQ.thenR ?_
     refine FnQ.coe (AQ.ret4G rfl (by exact ResAt.cell rfl (by repeat (first | exact List.Mem.head _ | refine List.Mem.tail _ ?_)) (by (dsimp only [List.set, List.append, List.cons_append, List.nil_append, AV.cells, splice, List.take, List.drop, Nat.reduceAdd]; done)) (by rfl)) (by exact ResAt.tmp rfl) (by exact ResAt.cell rfl (by repeat (first | exact List.Mem.head _ | refine List.Mem.tail _ ?_)) (by (dsimp only [List.set, List.append, List.cons_append, List.nil_append, AV.cells, splice, List.take, List.drop, Nat.reduceAdd]; done)) (by rfl)) (by exact ResAt.tmp rfl) ⟨_, by repeat (first | exact List.Sublist.slnil | refine List.Sublist.cons_cons _ ?_ | refine List.Sublist.cons _ ?_), List.Perm.refl _⟩ ⟨rfl, rfl⟩) (Coe.tup (by (repeat (first | exact CoeL.nil | refine CoeL.cons Coe.rfl ?_ | refine CoeL.cons Coe.nil ?_ | refine CoeL.cons (Coe.agg ?_) ?_)); done)) (retEnd V6 hV6 e1 rfl (rowEq (by simp only [List.length_eraseIdx, if_pos hk]; omega) (wts_cut c.out hk (n := (Int.toNat (c.out.length : Int)) - Int.toNat ((k : Int) + 1)) (by omega) (by omega) (by omega) (by omega))))
   ·skip
    refine AW.skip ?_
    refine AQ.thenN ?_
    refine AW.seq ?_
    refine AW.regionD 9 (by kernel_rfl) (by kernel_rfl) ?_
    simp only [List.take_succ_cons, List.take_zero, List.drop_succ_cons, List.drop_zero]
    refine FA.op (O.fieldAddr rfl rfl) rfl rfl rfl rfl ?_
    refine FA.op (O.load rfl rfl (by repeat (first | exact List.Mem.head _ | refine List.Mem.tail _ ?_)) (by rfl)) rfl rfl rfl rfl ?_
    refine FA.op (O.move rfl rfl) rfl rfl rfl rfl ?_
    refine FA.op (O.sliceV rfl rfl rfl rfl ⟨by omega, by omega, by omega⟩ (by omega)) rfl rfl rfl rfl ?_
    refine FA.op (O.fieldAddr rfl rfl) rfl rfl rfl rfl ?_
    refine FA.op (O.load rfl rfl (by repeat (first | exact List.Mem.head _ | refine List.Mem.tail _ ?_)) (by rfl)) rfl rfl rfl rfl ?_
    refine FA.op (O.move rfl rfl) rfl rfl rfl rfl ?_
    refine FA.op (O.add rfl rfl rfl (by exact wI64 (by omega))) rfl rfl rfl rfl ?_
    refine FA.op (O.sliceV0 rfl rfl rfl rfl ⟨by omega, by omega, by omega⟩ (by omega) (by assumption)) rfl rfl rfl rfl ?_
    refine FA.nil ?_
    simp only [chosen, List.nil_append, List.cons_append, List.append_nil]
    (refine AO.appendCut (i := 5) rfl rfl rfl rfl (by rfl) (by rfl) rfl rfl rfl (by omega) (by exact SrcA.ro TyD.ax (by rfl) (Nat.le_of_ble_eq_true rfl)) (by rfl) (by (unfold maxLen; omega)) (by omega) ⟨by omega, by assumption⟩ (by (dsimp only [List.set, List.append, List.cons_append, List.nil_append, AV.cells, splice, List.take, List.drop, Nat.reduceAdd]; done)) (fun _ => by (dsimp only [List.set]; done)) ?_)
    intro V6 hV6
    refine AO.op (O.fieldAddr rfl rfl) rfl rfl rfl ?_
    (refine AO.store (i := 4) rfl rfl rfl rfl rfl rfl (by (simp [AV.cells, AV.one, *]; done)) (by rfl) (by rfl) (by (dsimp only [List.set, List.append, List.cons_append, List.nil_append, AV.cells, splice, List.take, List.drop, Nat.reduceAdd]; done)) (by (dsimp only [List.set, List.append, List.cons_append, List.nil_append, AV.cells, splice, List.take, List.drop, Nat.reduceAdd]; done)) ?_)
    refine AO.nil ?_
    refine AQ.thenN ?_
    refine AW.seq ?_
    refine AW.seq ?_
    refine AW.region ?_
    refine AO.op (O.fieldAddr rfl rfl) rfl rfl rfl ?_
    refine AO.op (O.load rfl rfl (by repeat (first | exact List.Mem.head _ | refine List.Mem.tail _ ?_)) (by rfl)) rfl rfl rfl ?_
    refine AO.op (O.eql rfl rfl rfl (by rfl)) rfl rfl rfl ?_
    refine AO.nil ?_
    refine AQ.thenN ?_
    refine AW.split rfl (fun h45 => ?_) (fun h45 => ?_) <;> (try simp only [decide_eq_true_eq, decide_eq_false_iff_not, beq_iff_eq, beq_eq_false_iff_ne, bne_iff_ne, bne_eq_false_iff_eq, Bool.not_eq_true', Bool.not_eq_false', Bool.not_eq_true, Bool.not_eq_false, ne_eq, Int.not_lt, Int.not_le, Bool.and_eq_true, Bool.or_eq_true, Bool.or_eq_false_iff, Bool.and_eq_false_imp, strOf_toList, Decidable.not_not] at h45)
    ·skip
     have e1 : endR c p m = (⟨c.next, c.out.eraseIdx k, c.used, c.inn⟩, 4, Msg.none, 0) := by rw [endR, e0]; show (_, (if m.ty = 3 then (4 : Int) else 3), _, _) = _; rw [if_pos h45]
     refine AW.seq ?_
     refine AW.region ?_
     refine AO.op (O.loadK rfl rfl (by repeat (first | exact List.Mem.head _ | refine List.Mem.tail _ ?_)) (by rfl) (by rfl)) rfl rfl rfl ?_
     refine AO.op (O.build rfl rfl rfl (by rfl)) rfl rfl rfl ?_
     (refine AO.store (i := 2) rfl rfl rfl rfl rfl rfl (by (simp [AV.cells, AV.one, roB, roI, roO, show ∀ k z, (Value.int k z).oneCell' = true from fun _ _ => rfl, show ∀ k, (Value.bool k).oneCell' = true from fun _ => rfl, *]; done)) (by rfl) (by rfl) (by (dsimp only [List.set, List.append, List.cons_append, List.nil_append, AV.cells, splice, List.take, List.drop, Nat.reduceAdd]; done)) (by (dsimp only [List.set, List.append, List.cons_append, List.nil_append, AV.cells, splice, List.take, List.drop, Nat.reduceAdd]; done)) ?_)
     refine AO.op (O.assign rfl rfl) rfl rfl rfl ?_
     (refine AO.store (i := 1) rfl rfl rfl rfl rfl rfl (by rfl) (by rfl) (by rfl) (by (dsimp only [List.set, List.append, List.cons_append, List.nil_append, AV.cells, splice, List.take, List.drop, Nat.reduceAdd]; done)) (by (dsimp only [List.set, List.append, List.cons_append, List.nil_append, AV.cells, splice, List.take, List.drop, Nat.reduceAdd]; done)) ?_)
     refine AO.op (O.assign rfl rfl) rfl rfl rfl ?_
     refine AO.nil ?_
     refine AQ.thenN ?_
     refine AW.ret ?_
     refine AQ.thenR ?_
     refine AQ.blockR ?_
     refine AQ.thenR ?_
     refine AQ.loopR ?_
     refine AQ.blockR ?_
     refine AQ.thenR ?_
     refine FnQ.coe (AQ.ret4G rfl (by exact ResAt.cell rfl (by repeat (first | exact List.Mem.head _ | refine List.Mem.tail _ ?_)) (by (dsimp only [List.set, List.append, List.cons_append, List.nil_append, AV.cells, splice, List.take, List.drop, Nat.reduceAdd]; done)) (by rfl)) (by exact ResAt.tmp rfl) (by exact ResAt.cell rfl (by repeat (first | exact List.Mem.head _ | refine List.Mem.tail _ ?_)) (by (dsimp only [List.set, List.append, List.cons_append, List.nil_append, AV.cells, splice, List.take, List.drop, Nat.reduceAdd]; done)) (by rfl)) (by exact ResAt.tmp rfl) ⟨_, by repeat (first | exact List.Sublist.slnil | refine List.Sublist.cons_cons _ ?_ | refine List.Sublist.cons _ ?_), List.Perm.refl _⟩ ⟨rfl, rfl⟩) (Coe.tup (by (repeat (first | exact CoeL.nil | refine CoeL.cons Coe.rfl ?_ | refine CoeL.cons Coe.nil ?_ | refine CoeL.cons (Coe.agg ?_) ?_)); done)) (retEnd V6 hV6 e1 rfl (rowEq (by simp only [List.length_eraseIdx, if_pos hk]; omega) (wts_cut0 c.out (by omega) (by omega))))
    ·skip
     have e1 : endR c p m = (⟨c.next, c.out.eraseIdx k, c.used, c.inn⟩, 3, Msg.none, 0) := by rw [endR, e0]; show (_, (if m.ty = 3 then (4 : Int) else 3), _, _) = _; rw [if_neg h45]
     refine AW.skip ?_
     refine AQ.thenN ?_
     refine AW.seq ?_
     refine AW.region ?_
     refine AO.op (O.loadK rfl rfl (by repeat (first | exact List.Mem.head _ | refine List.Mem.tail _ ?_)) (by rfl) (by rfl)) rfl rfl rfl ?_
     refine AO.op (O.build rfl rfl rfl (by rfl)) rfl rfl rfl ?_
     (refine AO.store (i := 2) rfl rfl rfl rfl rfl rfl (by (simp [AV.cells, AV.one, roB, roI, roO, show ∀ k z, (Value.int k z).oneCell' = true from fun _ _ => rfl, show ∀ k, (Value.bool k).oneCell' = true from fun _ => rfl, *]; done)) (by rfl) (by rfl) (by (dsimp only [List.set, List.append, List.cons_append, List.nil_append, AV.cells, splice, List.take, List.drop, Nat.reduceAdd]; done)) (by (dsimp only [List.set, List.append, List.cons_append, List.nil_append, AV.cells, splice, List.take, List.drop, Nat.reduceAdd]; done)) ?_)
     refine AO.op (O.assign rfl rfl) rfl rfl rfl ?_
     (refine AO.store (i := 1) rfl rfl rfl rfl rfl rfl (by rfl) (by rfl) (by rfl) (by (dsimp only [List.set, List.append, List.cons_append, List.nil_append, AV.cells, splice, List.take, List.drop, Nat.reduceAdd]; done)) (by (dsimp only [List.set, List.append, List.cons_append, List.nil_append, AV.cells, splice, List.take, List.drop, Nat.reduceAdd]; done)) ?_)
     refine AO.op (O.assign rfl rfl) rfl rfl rfl ?_
     refine AO.nil ?_
     refine AQ.thenN ?_
     refine AW.ret ?_
     refine AQ.blockR ?_
     refine AQ.thenR ?_
     refine AQ.loopR ?_
     refine AQ.blockR ?_
     refine AQ.thenR ?_
     refine FnQ.coe (AQ.ret4G rfl (by exact ResAt.cell rfl (by repeat (first | exact List.Mem.head _ | refine List.Mem.tail _ ?_)) (by (dsimp only [List.set, List.append, List.cons_append, List.nil_append, AV.cells, splice, List.take, List.drop, Nat.reduceAdd]; done)) (by rfl)) (by exact ResAt.tmp rfl) (by exact ResAt.cell rfl (by repeat (first | exact List.Mem.head _ | refine List.Mem.tail _ ?_)) (by (dsimp only [List.set, List.append, List.cons_append, List.nil_append, AV.cells, splice, List.take, List.drop, Nat.reduceAdd]; done)) (by rfl)) (by exact ResAt.tmp rfl) ⟨_, by repeat (first | exact List.Sublist.slnil | refine List.Sublist.cons_cons _ ?_ | refine List.Sublist.cons _ ?_), List.Perm.refl _⟩ ⟨rfl, rfl⟩) (Coe.tup (by (repeat (first | exact CoeL.nil | refine CoeL.cons Coe.rfl ?_ | refine CoeL.cons Coe.nil ?_ | refine CoeL.cons (Coe.agg ?_) ?_)); done)) (retEnd V6 hV6 e1 rfl (rowEq (by simp only [List.length_eraseIdx, if_pos hk]; omega) (wts_cut0 c.out (by omega) (by omega))))
   skip
 ·skip
  obtain rfl : k = c.out.length := by omega
  have e1 : endR c p m = (c, 5, Msg.none, 0) := by rw [endR, fi_none _ Wt.none hn]
  refine AW.exit ?_
  refine AQ.thenX ?_
  refine AQ.loopX ?_
  refine AQ.blockX rfl ?_
  refine AQ.thenN ?_
  refine AW.seq ?_
  refine AW.region ?_
  refine AO.op (O.loadK rfl rfl (by repeat (first | exact List.Mem.head _ | refine List.Mem.tail _ ?_)) (by rfl) (by rfl)) rfl rfl rfl ?_
  refine AO.op (O.build rfl rfl rfl (by rfl)) rfl rfl rfl ?_
  (refine AO.store (i := 1) rfl rfl rfl rfl rfl rfl (by (simp [AV.cells, AV.one, roB, roI, roO, show ∀ k z, (Value.int k z).oneCell' = true from fun _ _ => rfl, show ∀ k, (Value.bool k).oneCell' = true from fun _ => rfl, *]; done)) (by rfl) (by rfl) (by (dsimp only [List.set, List.append, List.cons_append, List.nil_append, AV.cells, splice, List.take, List.drop, Nat.reduceAdd]; done)) (by (dsimp only [List.set, List.append, List.cons_append, List.nil_append, AV.cells, splice, List.take, List.drop, Nat.reduceAdd]; done)) ?_)
  refine AO.op (O.assign rfl rfl) rfl rfl rfl ?_
  (refine AO.store (i := 0) rfl rfl rfl rfl rfl rfl (by rfl) (by rfl) (by rfl) (by (dsimp only [List.set, List.append, List.cons_append, List.nil_append, AV.cells, splice, List.take, List.drop, Nat.reduceAdd]; done)) (by (dsimp only [List.set, List.append, List.cons_append, List.nil_append, AV.cells, splice, List.take, List.drop, Nat.reduceAdd]; done)) ?_)
  refine AO.op (O.assign rfl rfl) rfl rfl rfl ?_
  refine AO.nil ?_
  refine AQ.thenN ?_
  refine AW.ret ?_
  refine FnQ.coe (AQ.ret4G rfl (by exact ResAt.cell rfl (by repeat (first | exact List.Mem.head _ | refine List.Mem.tail _ ?_)) (by (dsimp only [List.set, List.append, List.cons_append, List.nil_append, AV.cells, splice, List.take, List.drop, Nat.reduceAdd]; done)) (by rfl)) (by exact ResAt.tmp rfl) (by exact ResAt.cell rfl (by repeat (exact List.Mem.head _)) (by (dsimp only [List.set, List.append, List.cons_append, List.nil_append, AV.cells, splice, List.take, List.drop, Nat.reduceAdd]; done)) (by rfl)) (by exact ResAt.tmp rfl) ⟨_, by repeat (first | exact List.Sublist.slnil | refine List.Sublist.cons_cons _ ?_ | refine List.Sublist.cons _ ?_), List.Perm.refl _⟩ ⟨rfl, rfl⟩) (Coe.tup (by (repeat (first | exact CoeL.nil | refine CoeL.cons Coe.rfl ?_ | refine CoeL.cons Coe.nil ?_ | refine CoeL.cons (Coe.agg ?_) ?_)); done)) (retEnd V1 h1 e1 rfl rfl)
end Go.Proofs.YtoonnnifelnaiaaGreatDoor.By
