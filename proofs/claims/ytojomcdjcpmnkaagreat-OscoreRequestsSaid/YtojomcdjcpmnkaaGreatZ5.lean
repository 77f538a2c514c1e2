/-
  OscoreRequests, the statement: for every input the law returns true, and its arguments read as before. No condition.
-/
import Derived.ChangeSame
import Derived.JoinedOf
import Derived.JoinedAt
import Derived.RowKit3
import Derived.ReadAgain
import Derived.Deep.Slices
import Derived.ChangeSlices
import Derived.Test.YtojomcdjcpmnkaaGreatZ4
namespace Go.Proofs.YtojomcdjcpmnkaaGreat.By
open Go.RowKit L A
set_option linter.unusedVariables false
set_option maxRecDepth 20000
set_option linter.unusedSimpArgs false
attribute [local irreducible] AW AQ AO
set_option maxRecDepth 20000 in
set_option maxHeartbeats 4000000 in
theorem raenc_fn (key blk : List UInt8) : Sp Tryz.prog 186 [roB key, roB blk] [] (Is (.tup [roB (encL key blk), .val (.int .i64 (encE key blk))])) := by
 refine yv Tryz.func186 _ Tryz.ntmps186 (fun w0 R0 => ?_)
 refine zx (zm ?_)
 refine zc ?_
 refine zc (zD (zl (zx (zx (zm ?_)))))
 refine za ?_
 refine zZ ?_
 refine yX ?_
 refine za ?_
 refine yu ?_
 refine AO.opG rfl rfl rfl (fun hp => yL 17 rfl (by exact hp)) ?_
 refine AO.opG rfl rfl rfl (fun hp => xO 18 rfl (by exact hp)) ?_
 refine zB (zD (zl ?_))
 refine yn (fun h => ?_) (fun h => ?_) <;> (try simp only [wN] at h)
 ·skip
  have e1 : encL key blk = [] := if_neg (by omega)
  have e2 : encE key blk = 1 := if_neg (by omega)
  rw [e1, e2]
  refine zx (zm ?_)
  refine zc ?_
  refine zc (zD (zl (y1 (xi ?_))))
  refine FnQ.coe yx ye (⟨rfl, rfl⟩)
 have hk : key.length = 16 := by omega
 have hb : blk.length = 16 := by omega
 rw [encL, encE, if_pos ⟨hk, hb⟩, if_pos ⟨hk, hb⟩]
 refine AW.g ?_
 refine G.re 0 (.ro false 16 (arB 16 (kf key))) (congrArg some (roB_kf hk)) ?_
 refine AW.u ?_
 refine AW.g ?_
 refine G.re 1 (.ro false 16 (arB 16 (kf blk))) (congrArg some (roB_kf hb)) ?_
 refine AW.u ?_
 obtain ⟨w, hwd⟩ : ∃ w, w = wS (kf key) := ⟨_, rfl⟩
 have hs0 : (arB 176 (wS (kf key))).take (16 * 1) = arB 16 (fun q => w (0 * 16 + q)) := by
  have := arB_dt (n := 176) (f := w) (j := 0) (k := 16) (by omega)
  rw [hwd] at this ⊢
  simpa using this
 have hseg : ∀ r, r < 11 → ((arB 176 w).drop (16 * r * 1)).take (16 * 1) = arB 16 fun q => w (r * 16 + q) := fun r hr => by
  rw [show 16 * r * 1 = r * 16 by omega]; exact arB_dt (by omega)
 refine yN (zl (zx (zm ?_)))
 refine wI (xl rfl Tryz.func199 rfl rfl rfl rsubs_fn) ?_
 refine xy ?_
 intro B1
 refine zV 0 rfl rfl rfl rfl rfl rfl (zD (zl (zx (zm ?_))))
 refine za ?_
 refine yR ?_
 refine wI (xl rfl Tryz.func200 rfl rfl rfl (rsched_fn _)) ?_
 refine zc (zD (zl (zx ?_)))
 refine yj 7 ?_
 simp only [List.take_succ_cons, List.take_zero, List.drop_succ_cons, List.drop_zero]
 refine zv ?_
 refine wJ (O.toArr rfl rfl (by omega) (by omega)) ?_
 refine wJ (O.loadRK rfl rfl (by exact List.take_of_length_le (Nat.le_of_eq (arB_len _ _))) (by exact arB_len _ _)) ?_
 refine zv ?_
 refine wJ (O.sliceTo (k := 16) rfl rfl rfl (by rfl) (by omega) (by exact hs0)) ?_
 refine wJ (xl rfl Tryz.func201 rfl rfl rfl (rxor_fn _ _)) ?_
 refine y8 ?_
 refine wg ?_
 simp only [chosen, List.nil_append, List.cons_append, List.append_nil]
 rintro _ _ ⟨B2, rfl, rfl⟩
 simp only [List.cons_append, List.nil_append]
 refine y3 0 rfl rfl rfl rfl rfl rfl (zD (zl (zx (zx (zm ?_)))))
 refine zc (zD (zl (yS ?_)))
 rw [← hwd]
 refine zg [(6, _), (7, _), (8, _)] (fun nn E H => ∃ (j : Nat), (j ≤ 10) ∧ nn = 10 - j ∧ E = [(9, .val (.int .i64 ((j + 1 : Nat) : Int)))] ∧ H = [arr16 B2 (encS w (kf blk) j), .blk B1 181 256 (arB 256 RB)]) _ (⟨0, by omega, rfl, rfl, rfl⟩) ?_
 rintro nn E H ⟨j, hj, rfl, rfl, rfl⟩
 dsimp only [List.cons_append, List.nil_append]
 refine zx (zx (zm ?_))
 refine za ?_
 refine wG (zD (zl ?_))
 refine yn (fun hj1 => ?_) (fun hj1 => ?_) <;> (try simp only [wN] at hj1)
 ·skip
  obtain ⟨g, hg⟩ : ∃ g, g = encS w (kf blk) j := ⟨_, rfl⟩
  have hst : ∀ q, encS w (kf blk) (j + 1) q = (if j + 1 < 10 then mixF (shF sb 1 g) m2311 else shF sb 1 g) q ^^^ w ((j + 1) * 16 + q) := fun q => by rw [encS, hg]
  rw [← hg]
  refine yN (zl (zx (yS (zx (zm ?_)))))
  refine zd ?_
  intro B3
  refine zD (zl (zx (zx (zm ?_))))
  refine za (zD (zl (yS ?_)))
  have e0 : arr16 B3 (fun _ => 0) = arr16 B3 (fun q => if q < 4 * 0 + 0 then shF sb 1 g q else 0) := arr_eq1 fun q _ => (if_neg (by omega)).symm
  refine zg [(6, _), (7, _), (8, _), (9, _), (10, _)] (fun nn E H => ∃ (c : Nat), (c ≤ 4) ∧ nn = 4 - c ∧ E = [(35, .val (.int .i64 (c : Int)))] ∧ H = [arr16 B3 (fun q => if q < 4 * c + 0 then shF sb 1 g q else 0), arr16 B2 g, .blk B1 181 256 (arB 256 RB)]) _ (⟨0, by omega, rfl, rfl, congrArg (fun x => [x, arr16 B2 g, .blk B1 181 256 (arB 256 RB)]) e0⟩) ?_
  rintro nn E H ⟨c, hc, rfl, rfl, rfl⟩
  dsimp only [List.cons_append, List.nil_append]
  refine zx (zm ?_)
  refine zH (zD (zl (zx ?_)))
  refine yn (fun hc4 => ?_) (fun hc4 => ?_) <;> (try simp only [wN] at hc4)
  ·skip
   refine yN (zl (zx (yS (zx (zm ?_)))))
   refine za ?_
   refine zc (zD (zl (zx (zm ?_))))
   refine za (zD (zl (yS ?_)))
   refine zg [(6, _), (7, _), (8, _), (9, _), (10, _), (11, _), (35, _)] (fun nn E H => ∃ (r : Nat), (r ≤ 4) ∧ nn = 4 - r ∧ E = [(38, .val (.int .i64 (r : Int)))] ∧ H = [arr16 B3 (fun q => if q < 4 * c + r then shF sb 1 g q else 0), arr16 B2 g, .blk B1 181 256 (arB 256 RB)]) _ (⟨0, by omega, rfl, rfl, rfl⟩) ?_
   rintro nn E H ⟨r, hr, rfl, rfl, rfl⟩
   dsimp only [List.cons_append, List.nil_append]
   refine zx (zm ?_)
   refine zH (zD (zl (zx ?_)))
   refine yn (fun hr4 => ?_) (fun hr4 => ?_) <;> (try simp only [wN] at hr4)
   ·skip
    have hr' : r < 4 := by omega
    have hix : (0 + (4 * (((c : Int) + (r : Int)) % 4) + (r : Int)).toNat * 1) = r + 4 * ((c + r) % 4) := by
     have hi : (4 * (((c : Int) + (r : Int)) % 4) + (r : Int)) = ((r + 4 * ((c + r) % 4) : Nat) : Int) := by push_cast; omega
     rw [hi, Int.toNat_natCast]; omega
    have hgb : (arB 16 g)[0 + (4 * (((c : Int) + (r : Int)) % 4) + (r : Int)).toNat * 1]? = some (by8 (g (r + 4 * ((c + r) % 4)))) := by rw [hix]; exact arB_get (by omega) rfl
    have hsh : shF sb 1 g (4 * c + r) = sb (g (r + 4 * ((c + r) % 4))) := by
     rw [shF, show (4 * c + r) % 4 = r by omega, show (4 * c + r) / 4 = c by omega, Nat.one_mul]
    refine yN (zl (zx (yS (zx (zm ?_)))))
    refine za ?_
    refine zc (zD (zl (zm ?_)))
    refine za ?_
    refine xM ?_
    refine za ?_
    refine zr ?_
    refine za ?_
    refine za ?_
    refine zr ?_
    refine xq ?_
    refine xM ?_
    refine za ?_
    refine zr ?_
    refine xb ?_
    refine wI (O.load rfl rfl (by repeat (first | exact List.Mem.head _ | refine List.Mem.tail _ ?_)) (by exact hgb)) ?_
    refine wI (O.idxL rfl rfl rfl (by exact u8ix _)) ?_
    refine wI (xT rfl rfl) ?_
    refine xb ?_
    refine yf 0 rfl rfl rfl rfl rfl rfl (by rfl) (by rfl) (by exact Nat.ble_eq_true_of_le (by rw [arB_len]; omega)) (by exact arB_set (k := 4 * c + r) (by omega) _ (by omega)) (zD (y5 (zl (zm ?_))))
    refine zr ?_
    refine za (zD ?_)
    have e : arr16 B3 (fun q => if q = 4 * c + r then sb (g (r + 4 * ((c + r) % 4))) else if q < 4 * c + r then shF sb 1 g q else 0) = arr16 B3 (fun q => if q < 4 * c + (r + 1) then shF sb 1 g q else 0) := arr_eq1 fun q _ => by
     rw [← hsh]
     rcases Nat.lt_trichotomy q (4 * c + r) with h1 | h1 | h1
     ·rw [if_neg (by omega), if_pos h1, if_pos (by omega)]
     ·rw [if_pos h1, if_pos (by omega), h1]
     rw [if_neg (by omega), if_neg (by omega), if_neg (by omega)]
    refine zj _ _ _ (by omega) (⟨r + 1, by omega, rfl, rfl, congrArg (fun x => [x, arr16 B2 g, .blk B1 181 256 (arB 256 RB)]) e⟩)
   obtain rfl : r = 4 := by omega
   refine xD ?_
   refine xr ?_
   refine xA ?_
   refine yZ (y5 (zl (zm ?_)))
   refine zr ?_
   refine za (zD ?_)
   refine zj _ _ _ (by omega) (⟨c + 1, by omega, rfl, rfl, rfl⟩)
  obtain rfl : c = 4 := by omega
  have e : arr16 B3 (fun q => if q < 4 * 4 + 0 then shF sb 1 g q else 0) = arr16 B3 (shF sb 1 g) := arr_eq1 fun q hq => if_pos hq
  rw [e]
  refine xD ?_
  refine xr ?_
  refine xA ?_
  refine yZ (zl (zx (zx (zm ?_))))
  refine za ?_
  refine zH (zD (zl ?_))
  refine yn (fun h10 => ?_) (fun h10 => ?_) <;> (try simp only [wN] at h10)
  ·skip
   refine zm ?_
   refine yR ?_
   refine z8 ?_
   refine wI (xl rfl Tryz.func202 rfl rfl rfl (rmix_fn _ m2311)) ?_
   refine zV 0 rfl rfl rfl rfl rfl rfl (zD (zl ?_))
   refine yj 9 ?_
   simp only [List.take_succ_cons, List.take_zero, List.drop_succ_cons, List.drop_zero]
   refine wm ?_
   refine zv ?_
   refine zv ?_
   refine yH ?_
   refine zv ?_
   refine yH ?_
   refine y2 ?_
   refine wJ (O.sliceLHm (m := 16) rfl rfl rfl rfl (l := 16 * (j + 1)) (h := 16 * (j + 1) + 16) (by omega) (by omega) (by omega) (by omega) (by omega) (by exact hseg (j + 1) (by omega))) ?_
   refine wJ (xl rfl Tryz.func201 rfl rfl rfl (rxor_fn _ _)) ?_
   refine wg ?_
   simp only [chosen, List.nil_append, List.cons_append, List.append_nil]
   refine zV 1 rfl rfl rfl rfl rfl rfl (zD (y5 (zl (zm ?_))))
   refine za ?_
   refine zr ?_
   refine zc (zD ?_)
   have e2 : arr16 B2 (fun q => mixF (shF sb 1 g) m2311 q ^^^ w ((j + 1) * 16 + q)) = arr16 B2 (encS w (kf blk) (j + 1)) := arr_eq1 fun q _ => by rw [hst, if_pos (by omega)]
   refine zF _ _ _ (by omega) (⟨j + 1, by omega, rfl, rfl, congrArg (fun x => [x, .blk B1 181 256 (arB 256 RB)]) e2⟩)
  refine yN (zl ?_)
  refine yj 9 ?_
  simp only [List.take_succ_cons, List.take_zero, List.drop_succ_cons, List.drop_zero]
  refine wm ?_
  refine zv ?_
  refine zv ?_
  refine yH ?_
  refine zv ?_
  refine yH ?_
  refine y2 ?_
  refine wJ (O.sliceLHm (m := 16) rfl rfl rfl rfl (l := 16 * (j + 1)) (h := 16 * (j + 1) + 16) (by omega) (by omega) (by omega) (by omega) (by omega) (by exact hseg (j + 1) (by omega))) ?_
  refine wJ (xl rfl Tryz.func201 rfl rfl rfl (rxor_fn _ _)) ?_
  refine wg ?_
  simp only [chosen, List.nil_append, List.cons_append, List.append_nil]
  refine zV 1 rfl rfl rfl rfl rfl rfl (zD (y5 (zl (zm ?_))))
  refine za ?_
  refine zr ?_
  refine zc (zD ?_)
  have e2 : arr16 B2 (fun q => shF sb 1 g q ^^^ w ((j + 1) * 16 + q)) = arr16 B2 (encS w (kf blk) (j + 1)) := arr_eq1 fun q _ => by rw [hst, if_neg (by omega)]
  refine zF _ _ _ (by omega) (⟨j + 1, by omega, rfl, rfl, congrArg (fun x => [x, .blk B1 181 256 (arB 256 RB)]) e2⟩)
 obtain rfl : j = 10 := by omega
 have ef : AV.ro false (16 - 0) (List.take ((16 - 0) * 1) (arB 16 (encS w (kf blk) 10))) = roB (fnB 16 (enc w (kf blk))) := by
  show AV.ro false 16 (List.take 16 (arB 16 (encS w (kf blk) 10))) = _
  rw [List.take_of_length_le (Nat.le_of_eq (arB_len _ _))]
  exact (roB_fnB 16 _).symm
 refine xD ?_
 refine xr ?_
 refine xA ?_
 refine yZ (zl (zx (zm ?_)))
 refine wI (O.sliceArrK (p := 0) rfl rfl rfl rfl (by rfl) (by rfl) ⟨by omega, by omega⟩ (by omega)) ?_
 refine ww (O.appendNil rfl (by rfl) (by rfl) rfl rfl (by exact SrcA.blk TyD.ax (by repeat (exact List.Mem.head _)) (by (dsimp only [List.set, List.cons_append, List.nil_append, List.take, List.drop]; done)) (by rfl)) (by rfl) (by (unfold maxLen; omega)) (by omega)) ?_
 intro V4 hV4
 refine zc ?_
 refine zc (zD (zl (y1 ?_)))
 refine AQ.g ?_
 refine z6 0 [4] ?_
 refine AQ.u ?_
 try dsimp only [List.map, List.eraseIdx, List.cons_append, List.nil_append]
 refine AQ.g ?_
 refine G.re 4 (roB (fnB 16 (enc w (kf blk)))) (congrArg some ef) ?_
 refine AQ.u ?_
 refine FnQ.coe yx xw (⟨rfl, rfl⟩)
def bk (i q : Nat) : UInt8 := if (iv (UInt8.ofNat q)).toNat < i then iv (UInt8.ofNat q) else 0
end Go.Proofs.YtojomcdjcpmnkaaGreat.By

namespace Go.Proofs.YtojomcdjcpmnkaaGreat.A
open Go.RowKit L
set_option linter.unusedVariables false
set_option maxRecDepth 20000
set_option linter.unusedSimpArgs false
section
variable {P : Program}
/-- A new row that the caller only reads. -/
theorem Sp.frozen {f : FuncId} {args : List AV} {T : TypeId} {sz n : Nat} {ys : List AV} (h : Sp P f args [] (NewRow T sz n ys)) : Sp P f args [] (Is (.ro false n ys)) := fun W R us h1 h2 h3 h4 => by
 refine (h W R us h1 h2 h3 h4).mono ?_
 rintro e W' ⟨u, r, H', R', rfl, ⟨v, rfl, hv1, rfl⟩, hs, hv⟩
 have hok := hs.ok _ (List.mem_cons_self ..)
 have hown := hs.own _ (List.mem_cons_self ..)
 have hu := hv.val_inv
 subst hu
 refine ⟨u, .ro false n ys, [], fun b => R' b ∨ (HE.row u T sz n ys).foot b, rfl, ⟨rfl, rfl⟩, ⟨hs.mods, ?_, fun b hb => .inl (hs.rsub b hb), ?_, fun _ h => (by cases h), fun _ h => (by cases h), .nil⟩, row_ro hok⟩
 ·rintro b (hb | hb)
  ·exact hs.rlt b hb
  ·exact HE.ok_lt hok hb
 ·rintro b (hb | hb)
  ·exact hs.rnew b hb
  ·exact .inr (hown b hb).1
end
end Go.Proofs.YtojomcdjcpmnkaaGreat.A
namespace Go.Proofs.YtojomcdjcpmnkaaGreat.By
open Go.RowKit L A
set_option linter.unusedVariables false
set_option maxRecDepth 20000
set_option linter.unusedSimpArgs false
attribute [local irreducible] AW AQ AO
theorem u64_nn (x : Int) : 0 ≤ IntKind.u64.wrap x := by rw [IntKind.wrap_u64]; exact Int.emod_nonneg _ (by decide)
def someF (k : Int) (i : Nat) : UInt8 := u8 (((u8 ((IntKind.u64.wrap k).fdiv (2 ^ min (IntKind.u64.wrap (8 * IntKind.u64.wrap ((i : Int).tmod 8))).toNat IntKind.u64.bits))).toNat : Int) + ((u8 (IntKind.i64.wrap ((i : Int).tdiv 8))).toNat : Int))
def someL (k : Int) (n : Nat) : List UInt8 := fnB n (someF k)
theorem someL_len (k : Int) (n : Nat) : (someL k n).length = n := fnB_len _ _
set_option maxHeartbeats 2000000 in
theorem some_row (k : Int) (n : Nat) (hn : n ≤ 1000000) : Sp Tryz.prog 107 [.val (.int .i64 k), .val (.int .i64 (n : Int))] [] (NewRow 5 1 n (arB n (someF k))) := by
 refine yv Tryz.func107 _ Tryz.ntmps107 (fun w0 R0 => ?_)
 refine zx (zm ?_)
 refine zc (zD (zl (zx (zm ?_))))
 refine zc (zD (zl (zx (zx (zm ?_)))))
 refine za ?_
 refine za (zD (zl (yS ?_)))
 refine AW.g ?_
 refine G.nilRow 5 1 ?_
 refine AW.u ?_
 refine zg [(0, _), (7, _)] (fun nn E H => ∃ (i : Nat) (V : Value), (i ≤ n) ∧ (V.oneCell' = true) ∧ nn = n - i ∧ E = [(5, .val V), (8, .val (.int .i64 (i : Int)))] ∧ H = [.row V 5 1 i (arB i (someF k))]) _ (⟨0, _, by omega, rfl, rfl, rfl, rfl⟩) ?_
 rintro nn E H ⟨i, V, h1, hV, rfl, rfl, rfl⟩
 dsimp only [List.cons_append, List.nil_append]
 have hsh := u64_nn (8 * IntKind.u64.wrap ((i : Int).tmod 8))
 refine zx (zm ?_)
 refine zH (zD (zl (zx ?_)))
 refine yn (fun h => ?_) (fun h => ?_) <;> (try simp only [wN] at h)
 ·skip
  refine yN (zl (zx (yS (zx (zm ?_)))))
  refine za ?_
  refine zc (zD (zl (zm ?_)))
  refine za ?_
  refine za ?_
  refine wI (O.conv rfl rfl (by rfl)) ?_
  refine za ?_
  refine wI (O.rem rfl rfl rfl (by omega) rfl) ?_
  refine wI (O.conv rfl rfl (by rfl)) ?_
  refine wI (O.mul rfl rfl rfl (by rfl)) ?_
  refine wI (O.shr rfl rfl rfl (by omega) rfl) ?_
  refine yA ?_
  refine za ?_
  refine wI (O.quo rfl rfl rfl (by omega) (by rfl)) ?_
  refine yA ?_
  refine wI (O.add rfl rfl rfl (by exact wU8any)) ?_
  refine zK ?_
  intro B1
  refine AO.g ?_
  refine wB 0 24 rfl rfl ⟨Nat.le_refl _, by unfold maxLen; omega⟩ ?_
  refine xF 24 ?_
  refine AO.u ?_
  dsimp only [List.eraseIdx]
  refine zt 0 rfl rfl rfl rfl (by rfl) (by rfl) rfl rfl rfl (by exact SrcA.ro TyD.ax (by rfl) (Nat.le_of_ble_eq_true rfl)) (by rfl) (by (unfold maxLen; omega)) ?_
  intro V2 hV2
  refine zc (zD (y5 (zl (zm ?_))))
  refine zr ?_
  refine za (zD ?_)
  refine zj _ _ _ (by omega) (⟨i + 1, V2, by omega, hV2, rfl, rfl, congrArg (fun xs => [HE.row V2 5 1 (i + 1) xs]) (arB_snoc (f := someF k) (n := i) rfl)⟩)
 obtain rfl : i = n := by omega
 refine xD ?_
 refine xr ?_
 refine xA ?_
 refine yZ (zl (zx (zm ?_)))
 refine za ?_
 refine zc (zD (zl (y1 ?_)))
 refine xK rfl rfl ⟨_, by repeat (first | exact List.Sublist.slnil | refine List.Sublist.cons_cons _ ?_), List.Perm.refl _⟩ (⟨V, rfl, hV, rfl⟩)
theorem some_fn (k z : Int) (hz : 0 ≤ z ∧ z ≤ 1000000) : Sp Tryz.prog 107 [.val (.int .i64 k), .val (.int .i64 z)] [] (Is (roB (someL k z.toNat))) := by
 have h := Sp.frozen (some_row k z.toNat (by omega))
 rw [show ((z.toNat : Nat) : Int) = z by omega] at h
 rw [someL, roB_fnB]
 exact h
end Go.Proofs.YtojomcdjcpmnkaaGreat.By

namespace Go.Proofs.YtojomcdjcpmnkaaGreat.By
open Go.RowKit L A
set_option linter.unusedVariables false
set_option linter.unusedSimpArgs false
set_option maxRecDepth 20000
def DX (b : UInt8) : Prop := ∀ a, dbl (a ^^^ b) = dbl a ^^^ dbl b
theorem DX.xor {b c : UInt8} (h : DX b) (k : DX c) : DX (b ^^^ c) := fun a => by
 rw [← UInt8.xor_assoc, k, h, k, UInt8.xor_assoc]
theorem DX.zero : DX 0 := fun a => by rw [UInt8.xor_zero, show dbl 0 = 0 from rfl, UInt8.xor_zero]
theorem shF_congr {S : UInt8 → UInt8} {d : Nat} {f g : Nat → UInt8} (h : ∀ q, q < 16 → f q = g q) : ∀ q, q < 16 → shF S d f q = shF S d g q := fun q hq => by
 unfold shF
 rw [h _ (by omega)]
theorem mixK_congr {f g m : Nat → UInt8} {i : Nat} (hi : i < 16) (h : ∀ q, q < 16 → f q = g q) : ∀ k, mixK f m i k = mixK g m i k
 | 0 => rfl
 | k + 1 => by rw [mixK, mixK, mixK_congr hi h k, h _ (by omega)]
theorem mixF_congr {f g m : Nat → UInt8} (h : ∀ q, q < 16 → f q = g q) : ∀ q, q < 16 → mixF f m q = mixF g m q := fun q hq => mixK_congr hq h 4
theorem encS_zero (w f : Nat → UInt8) (q : Nat) : encS w f 0 q = f q ^^^ w (0 * 16 + q) := rfl
theorem encS_succ (w f : Nat → UInt8) (j q : Nat) : encS w f (j + 1) q = (if j + 1 < 10 then mixF (shF sb 1 (encS w f j)) m2311 else shF sb 1 (encS w f j)) q ^^^ w ((j + 1) * 16 + q) := rfl
theorem encS_congr {w f g : Nat → UInt8} (h : ∀ q, q < 16 → f q = g q) : ∀ j q, q < 16 → encS w f j q = encS w g j q
 | 0, q, hq => by rw [encS_zero, encS_zero, h q hq]
 | j + 1, q, hq => by
  rw [encS_succ, encS_succ]
  by_cases h9 : j + 1 < 10
  ·rw [if_pos h9, if_pos h9]
   show mixF _ _ q ^^^ _ = mixF _ _ q ^^^ _
   rw [mixF_congr (shF_congr (encS_congr h j)) q hq]
  rw [if_neg h9, if_neg h9]
  show shF _ _ _ q ^^^ _ = shF _ _ _ q ^^^ _
  rw [shF_congr (encS_congr h j) q hq]
theorem enc_congr {w f g : Nat → UInt8} (h : ∀ q, q < 16 → f q = g q) : ∀ q, q < 16 → enc w f q = enc w g q := encS_congr h 10
theorem kf_fnB {n : Nat} {f : Nat → UInt8} {q : Nat} (hq : q < n) : kf (fnB n f) q = f q := by simp [kf, fnB, hq]
/-! Ciphers told by their states. -/
def wStep (WL : List UInt8) (q : Nat) : UInt8 := (if q % 16 < 4 then sb (WL.getD (q - q % 16 - 4 + (q % 16 + 1) % 4) 0) ^^^ (if q % 16 = 0 then rcF (q / 16 - 1) else 0) else WL.getD (q - 4) 0) ^^^ WL.getD (q - 16) 0
theorem wS_lit {key : Nat → UInt8} {WL : List UInt8} (h0 : ∀ q, q < 16 → key q = WL.getD q 0) (h : ∀ q, q < 176 → 16 ≤ q → WL.getD q 0 = wStep WL q) : ∀ q, q < 176 → wS key q = WL.getD q 0 := fun q => by
 induction q using Nat.strongRecOn with
 | ind q ih =>
  intro hq
  by_cases h16 : q < 16
  ·rw [wS_key h16, h0 q h16]
  rw [h q hq (by omega), wS_ge h16, wStep, ih (q - 16) (by omega) (by omega)]
  by_cases h4 : q % 16 < 4
  ·rw [if_pos h4, if_pos h4, ih (q - q % 16 - 4 + (q % 16 + 1) % 4) (by omega) (by omega)]
  rw [if_neg h4, if_neg h4, ih (q - 4) (by omega) (by omega)]
def eStep (WL : List UInt8) (g : List UInt8) (j q : Nat) : UInt8 := (if j + 1 < 10 then mixF (shF sb 1 (kf g)) m2311 else shF sb 1 (kf g)) q ^^^ WL.getD ((j + 1) * 16 + q) 0
theorem enc_lit {w f : Nat → UInt8} {WL : List UInt8} {ST : List (List UInt8)} (hw : ∀ q, q < 176 → w q = WL.getD q 0) (h0 : ∀ q, q < 16 → f q ^^^ WL.getD q 0 = kf (ST.getD 0 []) q) (h : ∀ j, j < 10 → ∀ q, q < 16 → eStep WL (ST.getD j []) j q = kf (ST.getD (j + 1) []) q) :
  ∀ j, j ≤ 10 → ∀ q, q < 16 → encS w f j q = kf (ST.getD j []) q
 | 0, _, q, hq => by rw [encS_zero, ← h0 q hq, hw _ (by omega)]; congr 2; omega
 | j + 1, hj, q, hq => by
  have ih := enc_lit hw h0 h j (by omega)
  rw [← h j (by omega) q hq, encS_succ, eStep, hw _ (by omega)]
  by_cases h9 : j + 1 < 10
  ·rw [if_pos h9, if_pos h9]
   show mixF _ _ q ^^^ _ = mixF _ _ q ^^^ _
   rw [mixF_congr (shF_congr ih) q hq]
  rw [if_neg h9, if_neg h9]
  show shF _ _ _ q ^^^ _ = shF _ _ _ q ^^^ _
  rw [shF_congr ih q hq]
end Go.Proofs.YtojomcdjcpmnkaaGreat.By

namespace Go.Proofs.YtojomcdjcpmnkaaGreat.By
open Go.RowKit L A
set_option linter.unusedVariables false
set_option maxRecDepth 20000
set_option linter.unusedSimpArgs false
attribute [local irreducible] AW AQ AO
def cvB (key nonce : List UInt8) (tag : Int) : Bool := (key.length : Int) == 16 && decide (7 ≤ (nonce.length : Int)) && decide ((nonce.length : Int) ≤ 13) && decide (4 ≤ tag) && decide (tag ≤ 16) && tag.tmod 2 == 0
theorem cvB_bd {key nonce : List UInt8} {tag : Int} (h : cvB key nonce tag = true) : key.length = 16 ∧ 7 ≤ nonce.length ∧ nonce.length ≤ 13 ∧ 4 ≤ tag ∧ tag ≤ 16 ∧ tag % 2 = 0 := by
 unfold cvB at h
 simp only [Bool.and_eq_true, beq_iff_eq, decide_eq_true_eq] at h
 obtain ⟨⟨⟨⟨⟨h1, h2⟩, h3⟩, h4⟩, h5⟩, h6⟩ := h
 rw [Int.tmod_eq_emod_of_nonneg (by omega)] at h6
 omega
theorem ccval_fn (key nonce : List UInt8) (tag : Int) : Sp Tryz.prog 156 [roB key, roB nonce, .val (.int .i64 tag)] [] (Is (.val (.bool (cvB key nonce tag)))) := by
 refine yv Tryz.func156 _ Tryz.ntmps156 (fun w0 R0 => ?_)
 refine zx (zm ?_)
 refine zc (zD (zl (zx (zm ?_))))
 refine za ?_
 refine zZ ?_
 refine yd ?_
 refine za ?_
 refine yu ?_
 refine AO.opG rfl rfl rfl (fun hp => yL 11 rfl (by exact hp)) ?_
 refine AO.opG rfl rfl rfl (fun hp => wL 12 rfl (by exact hp) wy) ?_
 refine zN ?_
 refine za ?_
 refine yu ?_
 refine AO.opG rfl rfl rfl (fun hp => yL 16 rfl (by exact hp)) ?_
 refine AO.opG rfl rfl rfl (fun hp => xn 17 rfl (by exact hp)) ?_
 refine zN ?_
 refine za ?_
 refine yu ?_
 refine AO.opG rfl rfl rfl (fun hp => wL 21 rfl (by exact hp) wy) ?_
 refine zN ?_
 refine za ?_
 refine yu ?_
 refine AO.opG rfl rfl rfl (fun hp => xn 25 rfl (by exact hp)) ?_
 refine zN ?_
 refine za ?_
 refine yu ?_
 refine AO.opG rfl rfl rfl (fun hp => wL 29 rfl (by exact hp) (O.rem rfl rfl rfl (by omega) rfl)) ?_
 refine AO.opG rfl rfl rfl (fun hp => y9 30 rfl (by exact hp)) ?_
 refine zN ?_
 refine zc (zD (zl (y1 ?_)))
 refine xK rfl rfl ⟨_, List.nil_sublist _, .nil⟩ (⟨rfl, rfl⟩)
theorem rccval_fn (key nonce : List UInt8) (tag : Int) : Sp Tryz.prog 169 [roB key, roB nonce, .val (.int .i64 tag)] [] (Is (.val (.bool (cvB key nonce tag)))) := by
 refine yv Tryz.func169 _ Tryz.ntmps169 (fun w0 R0 => ?_)
 refine zx (zm ?_)
 refine zc (zD (zl (zx (zm ?_))))
 refine za ?_
 refine zZ ?_
 refine yd ?_
 refine za ?_
 refine yu ?_
 refine AO.opG rfl rfl rfl (fun hp => yL 11 rfl (by exact hp)) ?_
 refine AO.opG rfl rfl rfl (fun hp => wL 12 rfl (by exact hp) wy) ?_
 refine zN ?_
 refine za ?_
 refine yu ?_
 refine AO.opG rfl rfl rfl (fun hp => yL 16 rfl (by exact hp)) ?_
 refine AO.opG rfl rfl rfl (fun hp => xn 17 rfl (by exact hp)) ?_
 refine zN ?_
 refine za ?_
 refine yu ?_
 refine AO.opG rfl rfl rfl (fun hp => wL 21 rfl (by exact hp) wy) ?_
 refine zN ?_
 refine za ?_
 refine yu ?_
 refine AO.opG rfl rfl rfl (fun hp => xn 25 rfl (by exact hp)) ?_
 refine zN ?_
 refine za ?_
 refine yu ?_
 refine AO.opG rfl rfl rfl (fun hp => wL 29 rfl (by exact hp) (O.rem rfl rfl rfl (by omega) rfl)) ?_
 refine AO.opG rfl rfl rfl (fun hp => y9 30 rfl (by exact hp)) ?_
 refine zN ?_
 refine zc (zD (zl (y1 ?_)))
 refine xK rfl rfl ⟨_, List.nil_sublist _, .nil⟩ (⟨rfl, rfl⟩)
/-! blocks -/
def blkF (first : UInt8) (nonce : List UInt8) (n : Int) (q : Nat) : UInt8 := if q = 0 then first else if q ≤ nonce.length then kf nonce (q - 1) else u8 (n / 256 ^ (15 - q))
def b0F (first : UInt8) (nonce : List UInt8) (q : Nat) : UInt8 := if q = 0 then first else if q ≤ nonce.length then kf nonce (q - 1) else 0
theorem arB_kf (l : List UInt8) : bytesA l = arB l.length (kf l) := by
 have h := fnB_kf (l := l) rfl
 exact (congrArg bytesA h).symm
theorem copyN {first : UInt8} {nonce : List UInt8} (h : nonce.length ≤ 15) : splice (arB 16 fun q => if q = 0 then first else 0) 1 ((bytesA nonce).take (min nonce.length 15)) = arB 16 (b0F first nonce) := by
 rw [Nat.min_eq_left h, List.take_of_length_le (Nat.le_of_eq (bytesA_length _)), arB_kf, arB_splice (by omega)]
 refine arB_congr fun q hq => ?_
 unfold b0F
 by_cases h0 : q = 0
 ·rw [if_neg (by omega), if_pos h0, if_pos h0]
 rw [if_neg h0, if_neg h0]
 by_cases h1 : q ≤ nonce.length
 ·rw [if_pos (by omega), if_pos h1]
 rw [if_neg (by omega), if_neg h1]
def bI (first : UInt8) (nonce : List UInt8) (n : Int) (i q : Nat) : UInt8 := if i < q then blkF first nonce n q else b0F first nonce q
theorem pow_step (n : Int) (k : Nat) : n / 256 ^ k / 256 = n / 256 ^ (k + 1) := by
 rw [Int.ediv_ediv_of_nonneg (Int.pow_nonneg (by decide)), Int.pow_succ]
theorem bI_step {first : UInt8} {nonce : List UInt8} {n : Int} {i : Nat} (hi : i < 15 + 1) (hl : nonce.length < i) (q : Nat) : (if q = i then u8 (n / 256 ^ (15 - i)) else bI first nonce n i q) = bI first nonce n (i - 1) q := by
 unfold bI
 rcases Nat.lt_trichotomy q i with h | h | h
 ·rw [if_neg (by omega), if_neg (by omega), if_neg (by omega)]
 ·rw [if_pos h, if_pos (by omega), blkF, if_neg (by omega), if_neg (by omega), h]
 rw [if_neg (by omega), if_pos h, if_pos (by omega)]
theorem u8_zero : u8 0 = 0 := by decide
theorem bI_end {first : UInt8} {nonce : List UInt8} {n : Int} {i : Nat} (h : i ≤ nonce.length ∨ n / 256 ^ (15 - i) ≤ 0) (hn : 0 ≤ n) (hi : i ≤ 15) (q : Nat) (hq : q < 16) : bI first nonce n i q = blkF first nonce n q := by
 unfold bI
 by_cases h1 : i < q
 ·rw [if_pos h1]
 rw [if_neg h1]
 unfold b0F blkF
 by_cases h0 : q = 0
 ·rw [if_pos h0, if_pos h0]
 rw [if_neg h0, if_neg h0]
 by_cases h2 : q ≤ nonce.length
 ·rw [if_pos h2, if_pos h2]
 rw [if_neg h2, if_neg h2]
 rcases h with h | h
 ·omega
 have hz : n / 256 ^ (15 - i) = 0 := Int.le_antisymm h (Int.ediv_nonneg hn (Int.pow_nonneg (by decide)))
 have hq0 : n / 256 ^ (15 - q) = 0 := by
  rw [show 15 - q = (15 - i) + (i - q) by omega, Int.pow_add, ← Int.ediv_ediv_of_nonneg (Int.pow_nonneg (by decide)), hz, Int.zero_ediv]
 rw [hq0]; exact u8_zero.symm
set_option maxHeartbeats 2000000 in
theorem block_any (first : UInt8) (nonce : List UInt8) (n : Int) (hl : nonce.length ≤ 13) (hn : 0 ≤ n ∧ n ≤ 9223372036854775807) : Sp Tryz.prog 180 [by8 first, roB nonce, .val (.int .i64 n)] [] (Is (.agg (arB 16 (blkF first nonce n)))) := by
 have hl : nonce.length ≤ 15 := by omega
 refine yv Tryz.func180 _ Tryz.ntmps180 (fun w0 R0 => ?_)
 refine zx (zm ?_)
 refine zd ?_
 intro B1
 refine zD (zl (zx (zm ?_)))
 refine za ?_
 refine z8 ?_
 refine zd ?_
 intro B2
 refine AO.store (i := 0) rfl rfl rfl rfl rfl rfl (by rfl) (by rfl) (by rfl) (by rfl) (by (dsimp only [List.set, List.cons_append, List.nil_append, List.take, List.drop]; done)) (zD (zl (zx (zm ?_))))
 refine wI (O.sliceArrK (p := 1) rfl rfl rfl rfl (by rfl) (by rfl) ⟨by omega, by omega⟩ (by omega)) ?_
 refine za ?_
 refine AO.copyIn (i := 0) rfl rfl rfl rfl (by exact bytesA_length _) (by exact bytesA_one _) rfl (by show 0 + 1 * 1 + min nonce.length (16 - 1) ≤ 16; omega) (by exact copyN hl) rfl rfl (fun q h => by cases h; exact Nat.le_of_ble_eq_true rfl) ?_
 rintro _ rfl
 dsimp only [List.set]
 refine zD (zl (zx (zx (zm ?_))))
 refine zc (zD (zl (yS ?_)))
 have e0 : arB 16 (b0F first nonce) = arB 16 (bI first nonce n 15) := arB_congr fun q hq => by unfold bI; rw [if_neg (by omega)]
 rw [e0]
 refine zg [(1, _), (6, _), (7, _)] (fun nn E H => ∃ (i : Nat) (v : Int), (i ≤ 15 ∧ nonce.length ≤ i) ∧ (v = n / 256 ^ (15 - i)) ∧ i = nn ∧ E = [(2, .val (.int .i64 v)), (8, .val (.int .i64 (i : Int)))] ∧ H = [.blk B2 171 16 (arB 16 (bI first nonce n i)), .blk B1 171 16 (arB 16 fun _ => 0)]) _ (⟨15, n, by omega, by simp, rfl, rfl, rfl⟩) ?_
 rintro nn E H ⟨i, v, hi, hv, rfl, rfl, rfl⟩
 dsimp only [List.cons_append, List.nil_append]
 have hv0 : 0 ≤ v := by rw [hv]; exact Int.ediv_nonneg hn.1 (Int.pow_nonneg (by decide))
 have hv1 : v ≤ n := by rw [hv]; exact Int.ediv_le_self _ hn.1
 refine zx (zx (zm ?_))
 refine za ?_
 refine za ?_
 refine zZ ?_
 refine y7 ?_
 refine za ?_
 refine yu ?_
 refine AO.opG rfl rfl rfl (fun hp => yM 19 rfl (by exact hp)) ?_
 refine zN (zD (zl ?_))
 refine yn (fun h => ?_) (fun h => ?_) <;> (try simp only [wN] at h)
 ·skip
  obtain ⟨j, rfl⟩ : ∃ j, i = j + 1 := ⟨i - 1, by omega⟩
  refine yN (zl (zx (yS (zx (zm ?_)))))
  refine za ?_
  refine za ?_
  refine yA ?_
  refine xL ?_
  refine yf 0 rfl rfl rfl rfl rfl rfl (by rfl) (by rfl) (by exact Nat.ble_eq_true_of_le (by rw [arB_len]; omega)) (by exact arB_set (k := j + 1) (by omega) _ (by omega)) (zD (zl (zm ?_)))
  refine za ?_
  refine xZ ?_
  refine zc (zD (y5 (zl (zm ?_))))
  refine za ?_
  refine yl ?_
  refine zc (zD ?_)
  have e1 : arB 16 (fun q => if q = j + 1 then u8 v else bI first nonce n (j + 1) q) = arB 16 (bI first nonce n j) := arB_congr fun q _ => by
   rw [hv]; exact bI_step (by omega) (by omega) q
  rw [e1, show ((j + 1 : Nat) : Int) - 1 = (j : Int) by omega]
  have hv2 : v / 256 = n / 256 ^ (15 - j) := by rw [hv, pow_step]; congr 2; omega
  refine zj _ _ _ (by omega) (⟨j, v / 256, by omega, hv2, rfl, rfl, rfl⟩)
 have e2 : arB 16 (bI first nonce n i) = arB 16 (blkF first nonce n) := arB_congr fun q hq => bI_end (by rw [← hv]; omega) hn.1 hi.1 q hq
 rw [e2]
 refine xD ?_
 refine xr ?_
 refine xA ?_
 refine yZ (zl (zx (zm ?_)))
 refine yR ?_
 refine zV 1 rfl rfl rfl rfl rfl rfl (zD (zl (y1 ?_)))
 refine AQ.retCell (ys := arB 16 (blkF first nonce n)) rfl rfl (by repeat (first | exact List.Mem.head _ | refine List.Mem.tail _ ?_)) (List.take_of_length_le (Nat.le_of_eq (arB_len _ _))) (arB_len _ _) ⟨_, List.nil_sublist _, .nil⟩ ⟨rfl, rfl⟩
end Go.Proofs.YtojomcdjcpmnkaaGreat.By

namespace Go.Proofs.YtojomcdjcpmnkaaGreat.By
open Go.RowKit L A
set_option linter.unusedVariables false
set_option maxRecDepth 20000
set_option linter.unusedSimpArgs false
attribute [local irreducible] AW AQ AO
/-- What a list of bytes makes of a value: sixteen at a time. -/
def absorb (w : Nat → UInt8) (x : Nat → UInt8) (l : List UInt8) : Nat → UInt8 :=
 if h : l = [] then x else absorb w (enc w fun q => x q ^^^ kf l q) (l.drop 16)
termination_by l.length
decreasing_by
 have : 0 < l.length := List.length_pos_iff.2 h
 simp; omega
theorem absorb_nil (w x : Nat → UInt8) : absorb w x [] = x := by rw [absorb, dif_pos rfl]
theorem absorb_cons {w x : Nat → UInt8} {l : List UInt8} (h : l ≠ []) : absorb w x l = absorb w (enc w fun q => x q ^^^ kf l q) (l.drop 16) := by rw [absorb, dif_neg h]
theorem kf_drop (l : List UInt8) {q : Nat} (h : l.length ≤ q) : kf l q = 0 := by simp [kf, h]
set_option maxHeartbeats 4000000 in
theorem chain1_fn (w : Nat → UInt8) (b : Nat) (x : Nat → UInt8) (l : List UInt8) (hl : l.length ≤ 1000000) : Sp Tryz.prog 198 [roB l, pt b, .rp [.rp (cipA w) 0] 0] [.blk b 171 16 (arB 16 x)] (IsM (.agg (arB 16 (absorb w x l))) (.blk b 171 16 (arB 16 (absorb w x l)))) := by
 refine yv Tryz.func198 _ Tryz.ntmps198 (fun w0 R0 => ?_)
 refine zx (zm ?_)
 refine zd ?_
 intro B1
 refine zD (zl (zx (yS ?_)))
 refine zg [(1, _), (2, _), (4, _)] (fun nn E H => ∃ (l' : List UInt8) (x' : Nat → UInt8), (absorb w x' l' = absorb w x l) ∧ (l'.length ≤ 1000000) ∧ nn = l'.length ∧ E = [(0, roB l')] ∧ H = [.blk B1 171 16 (arB 16 fun _ => 0), .blk b 171 16 (arB 16 x')]) _ (⟨l, x, rfl, hl, rfl, rfl, rfl⟩) ?_
 rintro nn E H ⟨l', x', hx, hl', rfl, rfl, rfl⟩
 dsimp only [List.cons_append, List.nil_append]
 refine zx (zx (zm ?_))
 refine za ?_
 refine zZ ?_
 refine y7 (zD (zl ?_))
 refine yn (fun h => ?_) (fun h => ?_) <;> (try simp only [wN] at h)
 ·skip
  obtain ⟨n, hn⟩ : ∃ n : Nat, n = min l'.length 16 := ⟨_, rfl⟩
  have hmin : (if (16 : Int) < (l'.length : Int) then (16 : Int) else (l'.length : Int)) = (n : Int) := by split <;> omega
  have hln : (l'.take n).length = n := by rw [List.length_take]; omega
  have hne : l' ≠ [] := fun e => by rw [e] at h; simp at h
  have hdr : l'.drop n = l'.drop 16 := by
   rcases Nat.lt_or_ge 16 l'.length with h1 | h1
   ·rw [show n = 16 by omega]
   rw [List.drop_eq_nil_of_le (by omega), List.drop_eq_nil_of_le (by omega)]
  refine yN (zl (zx (yS (zx (zx (zm ?_))))))
  refine za ?_
  refine za ?_
  refine zZ ?_
  refine wI (O.minI rfl rfl rfl hmin) ?_
  refine wI (O.sliceToB (k := n) rfl rfl rfl (by rfl) (by omega)) ?_
  refine zZ ?_
  refine za (zD (zl (yS ?_)))
  have e0 : arB 16 x' = arB 16 (fun q => if q < 0 then x' q ^^^ kf l' q else x' q) := arB_congr fun q _ => (if_neg (by omega)).symm
  rw [e0]
  refine zg [(0, _), (1, _), (2, _), (4, _), (19, _), (20, _)] (fun nn E H => ∃ (i : Nat), (i ≤ n) ∧ nn = n - i ∧ E = [(21, .val (.int .i64 (i : Int)))] ∧ H = [.blk B1 171 16 (arB 16 fun _ => 0), .blk b 171 16 (arB 16 fun q => if q < i then x' q ^^^ kf l' q else x' q)]) _ (⟨0, by omega, rfl, rfl, rfl⟩) ?_
  rintro nn E H ⟨i, hi, rfl, rfl, rfl⟩
  dsimp only [List.cons_append, List.nil_append]
  refine zx (zm ?_)
  refine zH (zD (zl (zx ?_)))
  refine yn (fun h2 => ?_) (fun h2 => ?_) <;> (try simp only [wN] at h2)
  ·skip
   have hi' : i < n := by omega
   have hget : (bytesA (l'.take n))[Int.toNat (i : Int) * 1]? = some (by8 (kf l' i)) := by
    rw [bt_at (k := i) (by omega) (by omega)]
    have : bt (l'.take n) i = kf l' i := by
     have h3 : i < l'.length := by omega
     simp [bt, kf, List.getElem?_take, hi', h3]
    rw [this]
   refine yN (zl (zx (yS (zx (zm ?_)))))
   refine za ?_
   refine yh ?_
   refine wI (O.loadR rfl rfl (by exact hget)) ?_
   refine zc ?_
   refine zc (zD (zl (zm ?_)))
   refine za ?_
   refine xL ?_
   refine wI (O.load rfl rfl (by repeat (first | exact List.Mem.head _ | refine List.Mem.tail _ ?_)) (by exact arB_get (k := i) (by omega) (by omega))) ?_
   refine za ?_
   refine wv ?_
   refine xL ?_
   refine yf 1 rfl rfl rfl rfl rfl rfl (by rfl) (by rfl) (by exact Nat.ble_eq_true_of_le (by rw [arB_len]; omega)) (by exact arB_set (k := i) (by omega) _ (by omega)) (zD (y5 (zl (zm ?_))))
   refine zr ?_
   refine za (zD ?_)
   have e1 : arB 16 (fun q => if q = i then (if i < i then x' i ^^^ kf l' i else x' i) ^^^ kf l' i else if q < i then x' q ^^^ kf l' q else x' q) = arB 16 (fun q => if q < i + 1 then x' q ^^^ kf l' q else x' q) := arB_congr fun q _ => by
    rcases Nat.lt_trichotomy q i with h1 | h1 | h1
    ·rw [if_neg (by omega), if_pos h1, if_pos (by omega)]
    ·rw [if_pos h1, if_neg (by omega), if_pos (by omega), h1]
    rw [if_neg (by omega), if_neg (by omega), if_neg (by omega)]
   rw [e1]
   refine zj _ _ _ (by omega) (⟨i + 1, by omega, rfl, rfl, rfl⟩)
  obtain rfl : i = n := by omega
  have e2 : arB 16 (fun q => if q < i then x' q ^^^ kf l' q else x' q) = arB 16 (fun q => x' q ^^^ kf l' q) := arB_congr fun q hq => by
   by_cases h3 : q < i
   ·rw [if_pos h3]
   rw [if_neg h3, kf_drop l' (by omega), xor0]
  rw [e2]
  refine xD ?_
  refine xr ?_
  refine xA ?_
  refine yZ (zl (zm ?_))
  refine wI (O.loadR rfl rfl (by rfl)) ?_
  refine wd ?_
  refine wI (xl rfl Tryz.func179 rfl rfl rfl (block_fn w _)) ?_
  refine zV 1 rfl rfl rfl rfl rfl rfl (zD (y5 (zl (zm ?_))))
  refine za ?_
  refine za ?_
  refine zZ ?_
  refine wI (O.minI rfl rfl rfl hmin) ?_
  refine wI (O.sliceFromB (k := i) rfl rfl rfl (by rfl) (by omega)) ?_
  refine zc (zD ?_)
  rw [hdr]
  refine zj _ _ _ (by rw [List.length_drop]; omega) (⟨l'.drop 16, enc w fun q => x' q ^^^ kf l' q, by rw [← absorb_cons hne]; exact hx, by rw [List.length_drop]; omega, rfl, rfl, rfl⟩)
 obtain rfl : l' = [] := List.eq_nil_of_length_eq_zero (by omega)
 rw [absorb_nil] at hx
 subst hx
 refine xD ?_
 refine xr ?_
 refine xA ?_
 refine yZ (zl (zx (zm ?_)))
 refine wd ?_
 refine zV 0 rfl rfl rfl rfl rfl rfl (zD (zl (y1 ?_)))
 refine AQ.retCell (ys := arB 16 (absorb w x l)) rfl rfl (by repeat (exact List.Mem.head _)) (List.take_of_length_le (Nat.le_of_eq (arB_len _ _))) (arB_len _ _) ⟨_, List.Sublist.cons _ (List.Sublist.cons_cons _ List.Sublist.slnil), .refl _⟩ ⟨rfl, rfl⟩
end Go.Proofs.YtojomcdjcpmnkaaGreat.By

namespace Go.Proofs.YtojomcdjcpmnkaaGreat.By
open Go.RowKit L A
set_option linter.unusedVariables false
set_option maxRecDepth 20000
set_option linter.unusedSimpArgs false
attribute [local irreducible] AW AQ AO
abbrev takeV (w : Nat → UInt8) (b : Nat) : AV := .fn (.func 198) [pt b, .rp [.rp (cipA w) 0] 0]
abbrev xB (b : Nat) (x : Nat → UInt8) : HE := .blk b 171 16 (arB 16 x)
theorem chain_fn (w : Nat → UInt8) : Sp Tryz.prog 181 [.rp (cipA w) 0] [] (fun v Hn => ∃ b, v = takeV w b ∧ Hn = [xB b fun _ => 0]) := by
 refine yv Tryz.func181 _ Tryz.ntmps181 (fun w0 R0 => ?_)
 refine zx (zm ?_)
 refine ya ?_
 intro B1
 refine zc (zD (zl (zx (zm ?_))))
 refine zd ?_
 intro B2
 refine zD (zl (zx (zm ?_)))
 refine AO.g ?_
 refine G.freezePtr 1 1 rfl rfl ?_
 refine AO.u ?_
 dsimp only [List.eraseIdx]
 refine wI (O.fn rfl rfl) ?_
 refine zc (zD (zl (y1 ?_)))
 refine xK rfl rfl ⟨_, by repeat (first | exact List.Sublist.slnil | refine List.Sublist.cons_cons _ ?_), List.Perm.refl _⟩ (⟨B2, rfl, rfl⟩)
def fstB (aad nonce : List UInt8) (tag : Int) : UInt8 := u8 (8 * (tag / 2 - 1) + 14 - (nonce.length : Int) + (if aad = [] then 0 else 64))
def headA (aad : List UInt8) : List UInt8 := u8 ((aad.length : Int) / 256) :: u8 (aad.length : Int) :: aad
def macF (w : Nat → UInt8) (nonce aad plain : List UInt8) (tag : Int) : Nat → UInt8 :=
 absorb w (if aad = [] then absorb w (fun _ => 0) (fnB 16 (blkF (fstB aad nonce tag) nonce plain.length)) else absorb w (absorb w (fun _ => 0) (fnB 16 (blkF (fstB aad nonce tag) nonce plain.length))) (headA aad)) plain
theorem arFull (f : Nat → UInt8) : ((arB 16 f).drop (0 + 0 * 1)).take ((16 - 0) * 1) = arB 16 f := by
 show ((arB 16 f).drop 0).take 16 = _
 rw [List.drop_zero, List.take_of_length_le (Nat.le_of_eq (arB_len _ _))]
set_option maxHeartbeats 4000000 in
theorem auth_fn (w : Nat → UInt8) (nonce aad plain : List UInt8) (tag : Int) (hn13 : nonce.length ≤ 13) (ht : 4 ≤ tag ∧ tag ≤ 16) (ha : aad.length ≤ 10000) (hp : plain.length ≤ 10000) : Sp Tryz.prog 159 [.rp (cipA w) 0, roB nonce, roB aad, roB plain, .val (.int .i64 tag)] [] (Is (.agg (arB 16 (macF w nonce aad plain tag)))) := by
 refine yv Tryz.func159 _ Tryz.ntmps159 (fun w0 R0 => ?_)
 refine zx (zm ?_)
 refine zd ?_
 intro B1
 refine zD (zl (zx (zm ?_)))
 refine za ?_
 refine AO.opN (xl rfl Tryz.func181 rfl rfl rfl (chain_fn w)) rfl rfl rfl ?_
 rintro _ _ ⟨B2, rfl, rfl⟩
 simp only [List.cons_append, List.nil_append]
 refine zc (zD (zl (zx (zm ?_))))
 refine za ?_
 refine xI ?_
 refine yl ?_
 refine xM ?_
 refine zr ?_
 refine za ?_
 refine zZ ?_
 refine yl ?_
 refine yA ?_
 refine zc (zD (zl (zx (zx (zm ?_)))))
 refine za ?_
 refine zZ ?_
 refine y7 (zD (zl ?_))
 obtain ⟨z, hz⟩ : ∃ z, z = 8 * (tag / 2 - 1) + 14 - (nonce.length : Int) := ⟨_, rfl⟩
 have hzb : 0 ≤ z ∧ z ≤ 127 ∧ z + 64 ≤ 255 := by omega
 rw [← hz]
 refine xv True [(1, _), (2, _), (3, _), (10, _), (11, _)] [(12, by8 (fstB aad nonce tag))] [xB B2 (fun _ => 0), xB B1 (fun _ => 0)] (fun h27 => ?_) (fun h27 => ?_) (fun hj => ?_) <;> try (try simp only [wN] at h27)
 ·skip
  have e : u8 (((u8 z).toNat : Int) + 64) = fstB aad nonce tag := by
   have hne : aad ≠ [] := fun e => by rw [e] at h27; simp at h27
   rw [fstB, if_neg hne, ← hz, u8_toNat]
   congr 1; omega
  refine zm ?_
  refine za ?_
  refine wI (O.add rfl rfl rfl (by exact wU8any)) ?_
  refine zc (zD ?_)
  rw [e]
  refine zR
 ·skip
  have e : u8 z = fstB aad nonce tag := by
   have hne : aad = [] := List.eq_nil_of_length_eq_zero (by omega)
   rw [fstB, if_pos hne, ← hz, Int.add_zero]
  refine yN ?_
  rw [e]
  refine zR
 dsimp only [List.cons_append, List.nil_append]
 refine zl ?_
 obtain ⟨x1, hx1⟩ : ∃ x1, x1 = absorb w (fun _ => 0) (fnB 16 (blkF (fstB aad nonce tag) nonce plain.length)) := ⟨_, rfl⟩
 have hc1 := chain1_fn w B2 (fun _ => 0) (fnB 16 (blkF (fstB aad nonce tag) nonce plain.length)) (by rw [fnB_len]; omega)
 rw [← hx1] at hc1
 have hc2 := chain1_fn w B2 x1 (headA aad) (by simp only [headA, List.length_cons]; omega)
 obtain ⟨x2, hx2⟩ : ∃ x2, x2 = if aad = [] then x1 else absorb w x1 (headA aad) := ⟨_, rfl⟩
 have hc3 := chain1_fn w B2 x2 plain (by omega)
 refine zx (zm ?_)
 refine za ?_
 refine za ?_
 refine za ?_
 refine zZ ?_
 refine wI (xl rfl Tryz.func180 rfl rfl rfl (block_any _ nonce _ hn13 ⟨by omega, by omega⟩)) ?_
 refine zd ?_
 intro B3
 refine y3 0 rfl rfl rfl rfl rfl rfl ?_
 refine AO.g ?_
 refine G.freezePtr 0 13 rfl rfl ?_
 refine AO.u ?_
 dsimp only [List.eraseIdx]
 refine zD (zl (zx (zm ?_)))
 refine za ?_
 refine wI (O.sliceArrRK (p := 0) rfl rfl rfl rfl (by rfl) (by rfl) ⟨by omega, by omega⟩ (by omega) (by (unfold maxLen; omega)) (by exact arFull _)) ?_
 refine AO.callMV1 (i := 0) rfl rfl rfl Tryz.func198 rfl rfl rfl rfl rfl rfl hc1 (by (dsimp only [List.set, List.cons_append, List.nil_append, List.take, List.drop]; done)) (zD (zl (zx (zx (zm ?_)))))
 refine za ?_
 refine zZ ?_
 refine y7 (zD (zl ?_))
 refine xv True [(3, _), (10, _), (11, _)] [] [xB B2 x2, xB B1 (fun _ => 0)] (fun h40 => ?_) (fun h40 => ?_) (fun hj => ?_) <;> try (try simp only [wN] at h40)
 ·skip
  have hne : aad ≠ [] := fun e => by rw [e] at h40; simp at h40
  have e2 : absorb w x1 (headA aad) = x2 := by rw [hx2, if_neg hne]
  have er : roB (headA aad) = AV.ro false (2 + aad.length) (AV.val (.int .u8 ((u8 ((aad.length : Int) / 256)).toNat : Int)) :: AV.val (.int .u8 ((u8 (aad.length : Int)).toNat : Int)) :: bytesA aad) := (roB_of (by simp only [headA, List.length_cons]; omega) rfl).symm
  rw [e2, er] at hc2
  refine zm ?_
  refine za ?_
  refine za ?_
  refine zZ ?_
  refine xZ ?_
  refine yA ?_
  refine za ?_
  refine zZ ?_
  refine yA ?_
  refine yD ?_
  intro B4
  refine AO.g ?_
  refine G.closeRow (b := B4) (n := 2) (cap := 2) 0 rfl rfl rfl (Nat.le_refl _) (by (unfold maxLen; omega)) ?_
  refine AO.u ?_
  dsimp only [List.set]
  refine za ?_
  refine zy 0 rfl rfl rfl rfl (by rfl) (by rfl) rfl rfl rfl (by exact SrcA.ro TyD.ax (by (simp; done)) (Nat.le_of_ble_eq_true rfl)) (by (simp [AV.cells, AV.one, *]; done)) (by (unfold maxLen; omega)) ?_
  intro V5 hV5
  refine AO.g ?_
  refine yU 0 [51] ?_
  refine AO.u ?_
  dsimp only [List.map, List.eraseIdx, List.cons_append, List.nil_append]
  refine AO.callMV1 (i := 0) rfl rfl rfl Tryz.func198 rfl rfl rfl rfl rfl rfl hc2 (by (dsimp only [List.set, List.cons_append, List.nil_append, List.take, List.drop]; done)) (zD ?_)
  refine wC
 ·skip
  have hne : aad = [] := List.eq_nil_of_length_eq_zero (by omega)
  have e2 : x1 = x2 := by rw [hx2, if_pos hne]
  refine yN ?_
  rw [e2]
  refine AQ.midK trivial (by repeat (first | exact envNil | refine envCons rfl ?_)) (by repeat (exact envNil)) (by repeat (first | exact subPnil | refine subPcons 0 rfl ?_))
 dsimp only [List.cons_append, List.nil_append]
 refine zl ?_
 have hm : macF w nonce aad plain tag = absorb w x2 plain := by rw [macF, hx2, hx1]
 refine zx (zm ?_)
 refine za ?_
 refine za ?_
 refine AO.callMV1 (i := 0) rfl rfl rfl Tryz.func198 rfl rfl rfl rfl rfl rfl hc3 (by (dsimp only [List.set, List.cons_append, List.nil_append, List.take, List.drop]; done)) ?_
 refine zV 1 rfl rfl rfl rfl rfl rfl (zD (zl (y1 ?_)))
 refine AQ.retCell (ys := arB 16 (absorb w x2 plain)) rfl rfl (by repeat (first | exact List.Mem.head _ | refine List.Mem.tail _ ?_)) (List.take_of_length_le (Nat.le_of_eq (arB_len _ _))) (arB_len _ _) ⟨_, List.nil_sublist _, .nil⟩ ⟨by rw [hm], rfl⟩
end Go.Proofs.YtojomcdjcpmnkaaGreat.By

namespace Go.Proofs.YtojomcdjcpmnkaaGreat.A
open Go.RowKit L
section
variable {Γ : Cx} {P : Program} {E : Env} {H : List HE}
theorem AQ.ret2G {fn : Func} {Post : AV → List HE → Prop} {x y : ResultVar} {p q : AV} {H' : List HE} (hr : fn.results = #[x, y]) (h1 : ResAt Γ P E H x p) (h2 : ResAt Γ P E H y q)
  (hH : ∃ H1, H1.Sublist H ∧ H'.Perm H1) (hp : Post (.tup [p, q]) H') : AQ Γ (FnQ Γ P fn Post) .ret E H := fun R a W hs ha => by
 obtain ⟨H1, k1, k2⟩ := hH
 obtain ⟨u1, e1, g1⟩ := h1 R a W hs ha
 obtain ⟨u2, e2, g2⟩ := h2 R a W hs ha
 refine ⟨ha.defers, .tuple #[u1, u2], ?_, _, _, H', R, rfl, hp, ?_, RelL.toTup (us := [u1, u2]) (RelL.cons g1 (RelL.cons g2 RelL.nil))⟩
 ·rw [results_eq, hr]
  simp [e1, e2]
 have := (hs.sub k1).perm k2
 exact ⟨this.mods, this.rlt, this.rsub, this.rnew, this.ok, this.own, this.disj⟩
end
end Go.Proofs.YtojomcdjcpmnkaaGreat.A
namespace Go.Proofs.YtojomcdjcpmnkaaGreat.By
open Go.RowKit L A
set_option linter.unusedVariables false
set_option maxRecDepth 20000
set_option linter.unusedSimpArgs false
attribute [local irreducible] AW AQ AO
theorem cloneR_fn (l : List UInt8) (hl : l.length ≤ 1000000) : Sp Tryz.prog 138 [roB l] [] (NewRow 5 1 l.length (arB l.length (kf l))) := by
 refine yv Tryz.func138 _ Tryz.ntmps138 (fun w0 R0 => ?_)
 refine zx (zm ?_)
 refine zc (zD (zl (zx (zx (zm ?_)))))
 refine za ?_
 refine AO.opN (O.eqlNil rfl rfl rfl) rfl rfl rfl ?_
 rintro _ _ ⟨c1, rfl, rfl, hnil1⟩
 simp only [List.cons_append, List.nil_append]
 refine zD (zl ?_)
 refine yn (fun h => ?_) (fun h => ?_)
 ·skip
  obtain rfl : l = [] := List.eq_nil_of_length_eq_zero (by exact hnil1 (by simp [h]))
  refine zx (zm ?_)
  refine zc (zD (zl (y1 (xi ?_))))
  refine AQ.g ?_
  refine G.nilRow 5 1 ?_
  refine AQ.u ?_
  refine xK rfl rfl ⟨_, by repeat (first | exact List.Sublist.slnil | refine List.Sublist.cons_cons _ ?_), List.Perm.refl _⟩ (⟨_, rfl, rfl, rfl⟩)
 refine yN (zl (zx (zm ?_)))
 refine ww (O.buildSlice0 rfl) ?_
 intro V2 hV2
 refine za ?_
 refine zy 0 rfl rfl rfl rfl (by rfl) (by rfl) rfl rfl rfl (by exact SrcA.ro TyD.ax (by (simp; done)) (Nat.le_of_ble_eq_true rfl)) (by (simp [AV.cells, AV.one, *]; done)) (by (unfold maxLen; omega)) ?_
 intro V3 hV3
 refine zc (zD (zl (y1 ?_)))
 rw [Nat.zero_add, arB_kf]
 refine xK rfl rfl ⟨_, by repeat (first | exact List.Sublist.slnil | refine List.Sublist.cons_cons _ ?_), List.Perm.refl _⟩ (⟨V3, rfl, hV3, rfl⟩)
def strF (w : Nat → UInt8) (nonce text : List UInt8) (i : Nat) : UInt8 := kf text i ^^^ enc w (blkF (u8 (14 - (nonce.length : Int))) nonce (((i / 16 : Nat) : Int) + 1)) (i % 16)
def strP (w : Nat → UInt8) (nonce text : List UInt8) (k i : Nat) : UInt8 := if i < k then strF w nonce text i else kf text i
def tagF (w : Nat → UInt8) (nonce : List UInt8) (tg : Nat → UInt8) (q : Nat) : UInt8 := tg q ^^^ enc w (blkF (u8 (14 - (nonce.length : Int))) nonce 0) q
theorem strP_zero (w : Nat → UInt8) (nonce text : List UInt8) (i : Nat) : strP w nonce text 0 i = kf text i := if_neg (by omega)
set_option maxHeartbeats 8000000 in
theorem stream_fn (w : Nat → UInt8) (nonce text : List UInt8) (tg : Nat → UInt8) (hn13 : nonce.length ≤ 13) (hp : text.length ≤ 1000000) : Sp Tryz.prog 158 [.rp (cipA w) 0, roB nonce, roB text, .agg (arB 16 tg)] []
  (fun r Hn => ∃ V : Value, V.oneCell' = true ∧ r = .tup [.val V, .agg (arB 16 (tagF w nonce tg))] ∧ Hn = [.row V 5 1 text.length (arB text.length (strF w nonce text))]) := by
 refine yv Tryz.func158 _ Tryz.ntmps158 (fun w0 R0 => ?_)
 refine zx (zm ?_)
 refine ya ?_
 intro B1
 refine zc ?_
 refine zd ?_
 intro B2
 refine zD (zl (zx (zm ?_)))
 refine za ?_
 refine ww (xl rfl Tryz.func138 rfl rfl rfl (cloneR_fn _ hp)) ?_
 intro V3 hV3
 refine zc (zD (zl (zx (zm ?_))))
 refine za ?_
 refine zZ ?_
 refine yl ?_
 refine yA ?_
 refine zc (zD (zl (zx (zx (zm ?_)))))
 refine zc (zD (zl (yS ?_)))
 obtain ⟨n, hn⟩ : ∃ n, n = text.length := ⟨_, rfl⟩
 rw [← hn]
 have e0 : arB n (kf text) = arB n (strP w nonce text 0) := arB_congr fun q _ => (strP_zero w nonce text q).symm
 rw [e0]
 refine zg [(0, _), (1, _), (7, _), (9, _), (11, _)] (fun nn E H => ∃ (j : Nat) (V : Value), (16 * j < n + 16) ∧ (V.oneCell' = true) ∧ nn = n + 16 - 16 * j ∧ E = [(10, .val V), (12, .val (.int .i64 ((16 * j : Nat) : Int)))] ∧ H = [.row V 5 1 n (arB n (strP w nonce text (16 * j))), .blk B2 171 16 (arB 16 fun _ => 0), .blk B1 171 16 (arB 16 tg)]) _ (⟨0, V3, by omega, hV3, rfl, rfl, rfl⟩) ?_
 rintro nn E H ⟨j, V, hj, hV, rfl, rfl, rfl⟩
 dsimp only [List.cons_append, List.nil_append]
 refine zx (zx (zm ?_))
 refine za ?_
 refine za ?_
 refine xN ?_
 refine zH (zD (zl ?_))
 refine yn (fun h => ?_) (fun h => ?_) <;> (try simp only [wN] at h)
 ·skip
  have hj' : 16 * j < n := by omega
  obtain ⟨m, hm⟩ : ∃ m : Nat, m = min n (16 * j + 16) := ⟨_, rfl⟩
  have hmin : (if ((16 * j : Nat) : Int) + 16 < (n : Int) then ((16 * j : Nat) : Int) + 16 else (n : Int)) = (m : Int) := by split <;> omega
  have hq : ((16 * j : Nat) : Int) / 16 + 1 = (j : Int) + 1 := by omega
  refine AW.g ?_
  refine G.openRow 0 rfl (by omega) (fun b' cap hc1 hc2 hxs hVe => ?_)
  refine AW.u ?_
  subst hVe
  dsimp only [List.set]
  refine yN (zl (zx (yS (zx (zm ?_)))))
  refine za ?_
  refine za ?_
  refine za ?_
  refine za ?_
  refine xI ?_
  refine zr ?_
  refine wI (xl rfl Tryz.func180 rfl rfl rfl (block_any _ nonce _ hn13 ⟨by omega, by omega⟩)) ?_
  refine wI (xl rfl Tryz.func179 rfl rfl rfl (block_fn w _)) ?_
  refine zd ?_
  intro B4
  refine y3 0 rfl rfl rfl rfl rfl rfl (zD (zl (zx (zm ?_))))
  refine za ?_
  refine zc (zD (zl (yS ?_)))
  rw [hq]
  obtain ⟨z, hz⟩ : ∃ z, z = enc w (blkF (u8 (14 - (nonce.length : Int))) nonce ((j : Int) + 1)) := ⟨_, rfl⟩
  rw [← hz]
  refine zg [(0, _), (1, _), (7, _), (9, _), (10, _), (11, _), (12, _), (13, _)] (fun nn E H => ∃ (k : Nat), (16 * j ≤ k ∧ k ≤ m) ∧ nn = m - k ∧ E = [(14, .val (.int .i64 (k : Int)))] ∧ H = [.blk B4 171 16 (arB 16 z), .blk b' 5 (cap * 1) (arB n (strP w nonce text k)), .blk B2 171 16 (arB 16 fun _ => 0), .blk B1 171 16 (arB 16 tg)]) _ (⟨16 * j, by omega, rfl, rfl, rfl⟩) ?_
  rintro nn E H ⟨k, hk, rfl, rfl, rfl⟩
  dsimp only [List.cons_append, List.nil_append]
  refine zx (zx (zm ?_))
  refine za ?_
  refine za ?_
  refine wI (O.lenV rfl rfl) ?_
  refine za ?_
  refine zr ?_
  refine wI (O.minI rfl rfl rfl hmin) ?_
  refine zH (zD (zl ?_))
  refine yn (fun h2 => ?_) (fun h2 => ?_) <;> (try simp only [wN] at h2)
  ·skip
   have hk' : k < m := by omega
   refine yN (zl (zx (yS ?_)))
   refine yj 11 ?_
   simp only [List.take_succ_cons, List.take_zero, List.drop_succ_cons, List.drop_zero]
   refine zv ?_
   refine zv ?_
   refine xQ ?_
   refine wJ (O.load rfl rfl (by repeat (first | exact List.Mem.head _ | refine List.Mem.tail _ ?_)) (by exact arB_get (k := k) (by omega) (by omega))) ?_
   refine zv ?_
   refine zv ?_
   refine xc ?_
   refine yi ?_
   refine wJ (O.load rfl rfl (by repeat (exact List.Mem.head _)) (by exact arB_get (k := k - 16 * j) (by omega) (by omega))) ?_
   refine xt ?_
   refine xQ ?_
   refine wg ?_
   simp only [chosen, List.nil_append, List.cons_append, List.append_nil]
   refine yf 1 rfl rfl rfl rfl rfl rfl (by rfl) (by rfl) (by exact Nat.ble_eq_true_of_le (by rw [arB_len]; omega)) (by exact arB_set (k := k) (by omega) _ (by omega)) (zD (y5 (zl (zm ?_))))
   refine za ?_
   refine zr ?_
   refine zc (zD ?_)
   have e1 : arB n (fun q => if q = k then strP w nonce text k k ^^^ z (k - 16 * j) else strP w nonce text k q) = arB n (strP w nonce text (k + 1)) := arB_congr fun q _ => by
    unfold strP
    rcases Nat.lt_trichotomy q k with h1 | h1 | h1
    ·rw [if_neg (by omega), if_pos h1, if_pos (by omega)]
    ·rw [if_pos h1, if_neg (by omega), if_pos (by omega), h1, strF, hz, show k / 16 = j by omega, show k % 16 = k - 16 * j by omega]
    rw [if_neg (by omega), if_neg (by omega), if_neg (by omega)]
   rw [e1]
   refine zj _ _ _ (by omega) (⟨k + 1, by omega, rfl, rfl, rfl⟩)
  obtain rfl : k = m := by omega
  refine xD ?_
  refine xr ?_
  refine xA ?_
  refine yZ (y5 (zl (zm ?_)))
  refine za ?_
  refine zr ?_
  refine zc (zD ?_)
  have e1 : arB n (strP w nonce text k) = arB n (strP w nonce text (16 * (j + 1))) := arB_congr fun q hq => by
   unfold strP
   by_cases h1 : q < k
   ·rw [if_pos h1, if_pos (by omega)]
   rw [if_neg h1, if_neg (by omega)]
  rw [e1]
  refine AQ.g ?_
  refine G.closeRow (b := b') 1 rfl (by rw [arB_len, Nat.mul_one]) rfl hc1 hc2 ?_
  refine AQ.u ?_
  dsimp only [List.set]
  have e2 : ((16 * j : Nat) : Int) + 16 = ((16 * (j + 1) : Nat) : Int) := by omega
  rw [e2]
  refine zF _ _ _ (by omega) (⟨j + 1, _, by omega, hV, rfl, rfl, rfl⟩)
 have e1 : arB n (strP w nonce text (16 * j)) = arB n (strF w nonce text) := arB_congr fun q hq => if_pos (by omega)
 rw [e1]
 refine xD ?_
 refine xr ?_
 refine xA ?_
 refine yZ (zl (zx (zm ?_)))
 refine za ?_
 refine za ?_
 refine za ?_
 refine wI (xl rfl Tryz.func180 rfl rfl rfl (block_any _ nonce _ hn13 ⟨by omega, by omega⟩)) ?_
 refine wI (xl rfl Tryz.func179 rfl rfl rfl (block_fn w _)) ?_
 refine zd ?_
 intro B5
 refine y3 0 rfl rfl rfl rfl rfl rfl (zD (zl (zx (zx (zm ?_)))))
 refine za (zD (zl (yS ?_)))
 have e2 : arB 16 tg = arB 16 (fun q => if q < 0 then tagF w nonce tg q else tg q) := arB_congr fun q _ => (if_neg (by omega)).symm
 rw [e2]
 obtain ⟨z, hz⟩ : ∃ z, z = enc w (blkF (u8 (14 - (nonce.length : Int))) nonce 0) := ⟨_, rfl⟩
 rw [← hz]
 refine zg [(7, _), (9, _), (10, _), (15, _)] (fun nn E H => ∃ (i : Nat), (i ≤ 16) ∧ nn = 16 - i ∧ E = [(63, .val (.int .i64 (i : Int)))] ∧ H = [.blk B5 171 16 (arB 16 z), .row V 5 1 n (arB n (strF w nonce text)), .blk B2 171 16 (arB 16 fun _ => 0), .blk B1 171 16 (arB 16 (fun q => if q < i then tagF w nonce tg q else tg q))]) _ (⟨0, by omega, rfl, rfl, rfl⟩) ?_
 rintro nn E H ⟨i, hi, rfl, rfl, rfl⟩
 dsimp only [List.cons_append, List.nil_append]
 refine zx (zm ?_)
 refine zH (zD (zl (zx ?_)))
 refine yn (fun h3 => ?_) (fun h3 => ?_) <;> (try simp only [wN] at h3)
 ·skip
  have hi' : i < 16 := by omega
  refine yN (zl (zx (yS (zx (zm ?_)))))
  refine za ?_
  refine zc (zD (zl ?_))
  refine yj 8 ?_
  simp only [List.take_succ_cons, List.take_zero, List.drop_succ_cons, List.drop_zero]
  refine zv ?_
  refine yi ?_
  refine wJ (O.load rfl rfl (by repeat (first | exact List.Mem.head _ | refine List.Mem.tail _ ?_)) (by exact arB_get (k := i) (by omega) (by omega))) ?_
  refine zv ?_
  refine yi ?_
  refine wJ (O.load rfl rfl (by repeat (exact List.Mem.head _)) (by exact arB_get (k := i) (by omega) (by omega))) ?_
  refine xt ?_
  refine yi ?_
  refine wg ?_
  simp only [chosen, List.nil_append, List.cons_append, List.append_nil]
  refine yf 3 rfl rfl rfl rfl rfl rfl (by rfl) (by rfl) (by exact Nat.ble_eq_true_of_le (by rw [arB_len]; omega)) (by exact arB_set (k := i) (by omega) _ (by omega)) (zD (y5 (zl (zm ?_))))
  refine zr ?_
  refine za (zD ?_)
  have e3 : arB 16 (fun q => if q = i then (if i < i then tagF w nonce tg i else tg i) ^^^ z i else if q < i then tagF w nonce tg q else tg q) = arB 16 (fun q => if q < i + 1 then tagF w nonce tg q else tg q) := arB_congr fun q _ => by
   rcases Nat.lt_trichotomy q i with h1 | h1 | h1
   ·rw [if_neg (by omega), if_pos h1, if_pos (by omega)]
   ·rw [if_pos h1, if_neg (by omega), if_pos (by omega), h1, tagF, hz]
   rw [if_neg (by omega), if_neg (by omega), if_neg (by omega)]
  rw [e3]
  refine zj _ _ _ (by omega) (⟨i + 1, by omega, rfl, rfl, rfl⟩)
 obtain rfl : i = 16 := by omega
 have e3 : arB 16 (fun q => if q < 16 then tagF w nonce tg q else tg q) = arB 16 (tagF w nonce tg) := arB_congr fun q hq => if_pos hq
 rw [e3]
 refine xD ?_
 refine xr ?_
 refine xA ?_
 refine yZ (zl (zx ?_))
 refine yj 3 ?_
 simp only [List.take_succ_cons, List.take_zero, List.drop_succ_cons, List.drop_zero]
 refine zv ?_
 refine wJ (O.loadK rfl rfl (by repeat (first | exact List.Mem.head _ | refine List.Mem.tail _ ?_)) (by exact arFull _) (by exact arB_len _ _)) ?_
 refine wJ zh ?_
 refine wg ?_
 simp only [chosen, List.nil_append, List.cons_append, List.append_nil]
 refine AO.store (i := 2) rfl rfl rfl rfl rfl rfl (by exact arB_one _ _) (by exact arB_len _ _) (by exact Nat.ble_eq_true_of_le (Nat.le_of_eq (arB_len _ _).symm)) (by exact splice_arB rfl) (by (dsimp only [List.set, List.cons_append, List.nil_append, List.take, List.drop]; done)) (zD (zl (y1 ?_)))
 rw [hn]
 refine AQ.ret2G rfl (ResAt.tmp rfl) (ResAt.cell (ys := arB 16 (tagF w nonce tg)) rfl (by repeat (first | exact List.Mem.head _ | refine List.Mem.tail _ ?_)) (List.take_of_length_le (Nat.le_of_eq (arB_len _ _))) (arB_len _ _)) ⟨_, List.Sublist.cons _ (List.Sublist.cons_cons _ (List.nil_sublist _)), .refl _⟩ ⟨V, hV, rfl, rfl⟩
end Go.Proofs.YtojomcdjcpmnkaaGreat.By

namespace Go.Proofs.YtojomcdjcpmnkaaGreat.By
open Go.RowKit L A
set_option linter.unusedVariables false
set_option maxRecDepth 20000
set_option linter.unusedSimpArgs false
attribute [local irreducible] AW AQ AO
end Go.Proofs.YtojomcdjcpmnkaaGreat.By

namespace Go.Proofs.YtojomcdjcpmnkaaGreat.By
open Go.RowKit L A
set_option linter.unusedVariables false
set_option maxRecDepth 20000
set_option linter.unusedSimpArgs false
attribute [local irreducible] AW AQ AO
end Go.Proofs.YtojomcdjcpmnkaaGreat.By

namespace Go.Proofs.YtojomcdjcpmnkaaGreat.By
open Go.RowKit L A
set_option linter.unusedVariables false
set_option maxRecDepth 20000
set_option linter.unusedSimpArgs false
attribute [local irreducible] AW AQ AO
attribute [local simp] arB_len
abbrev wK (key : List UInt8) : Nat → UInt8 := wS (kf key)
def sealOk (aad plain : List UInt8) : Bool := decide ((aad.length : Int) ≤ 4096) && decide ((plain.length : Int) ≤ 4096)
def sealL (key nonce aad plain : List UInt8) (tag : Int) : List UInt8 :=
 if cvB key nonce tag && sealOk aad plain then fnB plain.length (strF (wK key) nonce plain) ++ fnB tag.toNat (tagF (wK key) nonce (macF (wK key) nonce aad plain tag)) else []
def sealE (key nonce aad plain : List UInt8) (tag : Int) : Int :=
 if cvB key nonce tag then (if sealOk aad plain then 0 else 8) else 1
theorem seal_bad {key nonce aad plain : List UInt8} {tag : Int} (h : cvB key nonce tag = false) : sealL key nonce aad plain tag = [] ∧ sealE key nonce aad plain tag = 1 := by
 simp [sealL, sealE, h]
theorem seal_long {key nonce aad plain : List UInt8} {tag : Int} (h : cvB key nonce tag = true) (h2 : sealOk aad plain = false) : sealL key nonce aad plain tag = [] ∧ sealE key nonce aad plain tag = 8 := by
 simp [sealL, sealE, h, h2]
theorem seal_good {key nonce aad plain : List UInt8} {tag : Int} (h : cvB key nonce tag = true) (h2 : sealOk aad plain = true) : sealL key nonce aad plain tag = fnB plain.length (strF (wK key) nonce plain) ++ fnB tag.toNat (tagF (wK key) nonce (macF (wK key) nonce aad plain tag)) ∧ sealE key nonce aad plain tag = 0 := by
 simp [sealL, sealE, h, h2]
theorem arPre {T : Nat} (h : T ≤ 16) (f : Nat → UInt8) : ((arB 16 f).drop (0 + 0 * 1)).take ((T - 0) * 1) = arB T f := by
 rw [show (T - 0) * 1 = T by omega]
 have := arB_dt (n := 16) (f := f) (j := 0 + 0 * 1) (k := T) (by omega)
 rw [this]
 exact arB_congr fun q _ => by rw [show 0 + 0 * 1 + q = q by omega]
theorem roB_app2 (n T : Nat) (f g : Nat → UInt8) : AV.ro false (n + (T - 0)) (arB n f ++ arB T g) = roB (fnB n f ++ fnB T g) := by
 unfold roB
 rw [List.length_append, fnB_len, fnB_len, Nat.sub_zero]
 show _ = AV.ro false (n + T) (bytesA (fnB n f ++ fnB T g))
 rw [bytesA, List.map_append]; rfl
set_option maxHeartbeats 4000000 in
theorem seal_fn (key nonce aad plain : List UInt8) (tag : Int) (ha : aad.length ≤ 1000000) (hp : plain.length ≤ 1000000) : Sp Tryz.prog 116 [roB key, roB nonce, roB aad, roB plain, .val (.int .i64 tag)] [] (Is (.tup [roB (sealL key nonce aad plain tag), .val (.int .i64 (sealE key nonce aad plain tag))])) := by
 refine yv Tryz.func116 _ Tryz.ntmps116 (fun w0 R0 => ?_)
 refine zx (zm ?_)
 refine zc ?_
 refine zc (zD (zl (zx (yS (zx (zm ?_))))))
 refine za ?_
 refine za ?_
 refine za ?_
 refine wI (xl rfl Tryz.func156 rfl rfl rfl (ccval_fn key nonce _)) ?_
 refine xu ?_
 refine zc (zD (zl ?_))
 refine yn (fun h => ?_) (fun h => ?_) <;> (try simp only [wN] at h)
 ·skip
  have hb : cvB key nonce tag = false := by simpa using h
  obtain ⟨e1, e2⟩ := seal_bad (aad := aad) (plain := plain) hb
  rw [e1, e2]
  refine zx (zm ?_)
  refine zc ?_
  refine zc (zD (zl (y1 ?_)))
  refine wb (xi ?_)
  refine FnQ.coe yx ye (⟨rfl, rfl⟩)
 obtain ⟨hk, hn7, hn13, ht4, ht16, ht2⟩ := cvB_bd h
 refine zx (zm ?_)
 refine za ?_
 refine zZ ?_
 refine y7 ?_
 refine za ?_
 refine yu ?_
 refine AO.opG rfl rfl rfl (fun hp => yL 26 rfl (by exact hp)) ?_
 refine AO.opG rfl rfl rfl (fun hp => yM 27 rfl (by exact hp)) ?_
 refine zB ?_
 refine zc (zD (zl ?_))
 refine yn (fun h2 => ?_) (fun h2 => ?_) <;> (try simp only [wN] at h2)
 ·skip
  have hb : sealOk aad plain = false := by
   simp only [sealOk, Bool.and_eq_false_iff, decide_eq_false_iff_not]
   omega
  obtain ⟨e1, e2⟩ := seal_long h hb
  rw [e1, e2]
  refine zx (zm ?_)
  refine zc ?_
  refine zc (zD (zl (y1 ?_)))
  refine wb (xi ?_)
  refine FnQ.coe yx ye (⟨rfl, rfl⟩)
 have hb : sealOk aad plain = true := by
  simp only [sealOk, Bool.and_eq_true, decide_eq_true_eq]
  omega
 obtain ⟨e1, e2⟩ := seal_good h hb
 rw [e1, e2]
 obtain ⟨T, hT⟩ : ∃ T : Nat, T = tag.toNat := ⟨_, rfl⟩
 rw [← hT]
 have hT' : tag = (T : Int) := by omega
 have ha' : aad.length ≤ 10000 := by omega
 have hp' : plain.length ≤ 10000 := by omega
 refine AW.g ?_
 refine G.re 0 (.ro false 16 (arB 16 (kf key))) (congrArg some (roB_kf hk)) ?_
 refine AW.u (yN (y5 (zl (zx (zm ?_)))))
 refine za ?_
 refine AO.opB (xl rfl Tryz.func157 rfl rfl rfl (aesnew_fn _)) rfl rfl rfl ?_
 intro B1
 refine zc ?_
 refine AO.g ?_
 refine G.freezePtr 0 12 rfl rfl ?_
 refine AO.u ?_
 dsimp only [List.eraseIdx]
 refine zD (zl (zx (zm ?_)))
 refine za ?_
 refine za ?_
 refine za ?_
 refine za ?_
 refine za ?_
 refine za ?_
 refine za ?_
 refine za ?_
 refine wI (xl rfl Tryz.func159 rfl rfl rfl (auth_fn _ nonce aad plain tag hn13 ⟨ht4, ht16⟩ ha' hp')) ?_
 refine AO.opN (xl rfl Tryz.func158 rfl rfl rfl (stream_fn _ nonce plain _ hn13 (by omega))) rfl rfl rfl ?_
 rintro _ _ ⟨V442, hV442, rfl, rfl⟩
 simp only [List.cons_append, List.nil_append]
 refine za ?_
 refine zW ?_
 refine zW ?_
 refine zd ?_
 intro B3
 refine zc ?_
 refine y3 0 rfl rfl rfl rfl rfl rfl ?_
 refine AO.g ?_
 refine G.freezePtr 0 14 rfl rfl ?_
 refine AO.u ?_
 dsimp only [List.eraseIdx]
 refine zD (zl (zx (zm ?_)))
 refine za ?_
 refine za ?_
 refine wI (O.sliceArrRK (p := 0) (q := T) rfl rfl rfl rfl (by rfl) (by omega) ⟨by omega, by omega⟩ (by omega) (by (unfold maxLen; omega)) (by exact arPre (by omega) _)) ?_
 refine zy 0 rfl rfl rfl rfl (by rfl) (by rfl) rfl rfl rfl (by exact SrcA.ro TyD.ax (by (simp; done)) (Nat.le_of_ble_eq_true rfl)) (by exact arB_one _ _) (by (unfold maxLen; omega)) ?_
 intro V4 hV4
 refine AO.g ?_
 refine yU 0 [48] ?_
 refine AO.u ?_
 dsimp only [List.map, List.eraseIdx, List.cons_append, List.nil_append]
 refine zc ?_
 refine zc (zD (zl (y1 ?_)))
 refine AQ.g ?_
 refine G.re 10 (roB (fnB plain.length (strF (wK key) nonce plain) ++ fnB T (tagF (wK key) nonce (macF (wK key) nonce aad plain tag)))) (congrArg some (roB_app2 _ T _ _)) ?_
 refine AQ.u ?_
 refine FnQ.coe yx xw (⟨rfl, rfl⟩)
end Go.Proofs.YtojomcdjcpmnkaaGreat.By

namespace Go.Proofs.YtojomcdjcpmnkaaGreat.By
open Go.RowKit L A
set_option linter.unusedVariables false
set_option maxRecDepth 20000
set_option linter.unusedSimpArgs false
attribute [local irreducible] AW AQ AO
attribute [local simp] arB_len
theorem blkF_hi {first : UInt8} {nonce : List UInt8} {n : Int} {q : Nat} (hq : nonce.length < q) (h8 : 7 < 15 - (q : Int)) (hn : 0 ≤ n ∧ n ≤ 9223372036854775807) : (0 : UInt8) = blkF first nonce n q := by
 rw [blkF, if_neg (by omega), if_neg (by omega)]
 have h1 : (256 : Int) ^ 8 ≤ 256 ^ (15 - q) := by
  obtain ⟨d, hd⟩ : ∃ d, 15 - q = 8 + d := ⟨15 - q - 8, by omega⟩
  rw [hd, Int.pow_add]
  have : (1 : Int) ≤ 256 ^ d := Int.pow_pos (by decide)
  have h2 : (0 : Int) ≤ 256 ^ 8 := by decide
  calc (256 : Int) ^ 8 = 256 ^ 8 * 1 := (Int.mul_one _).symm
   _ ≤ 256 ^ 8 * 256 ^ d := Int.mul_le_mul_of_nonneg_left this h2
 have h3 : n < 256 ^ (15 - q) := by
  have : (9223372036854775807 : Int) < 256 ^ 8 := by decide
  omega
 rw [Int.ediv_eq_zero_of_lt hn.1 h3]; rfl
theorem blkF_lo {first : UInt8} {nonce : List UInt8} {n : Int} {q : Nat} (hq : nonce.length < q) (hq2 : q ≤ 15) (h8 : 15 - (q : Int) ≤ 7) : u8 (n.fdiv (2 ^ min (8 * (15 - (q : Int))).toNat IntKind.i64.bits)) = blkF first nonce n q := by
 rw [blkF, if_neg (by omega), if_neg (by omega)]
 have e : ∃ i : Nat, i ≤ 7 ∧ 15 - q = i ∧ 15 - (q : Int) = i := ⟨15 - q, by omega, rfl, by omega⟩
 obtain ⟨i, hi, e1, e2⟩ := e
 rw [e1, e2]
 have e3 : min (8 * (i : Int)).toNat IntKind.i64.bits = 8 * i := by
  show min (8 * (i : Int)).toNat 64 = _
  omega
 rw [e3, Int.fdiv_eq_ediv_of_nonneg _ (Int.le_of_lt (Int.pow_pos (by decide))), Int.pow_mul]; rfl
set_option maxHeartbeats 4000000 in
theorem counted_fn (first : Int) (nonce : List UInt8) (n : Int) (hn13 : nonce.length ≤ 13) (hn : 0 ≤ n ∧ n ≤ 9223372036854775807) : Sp Tryz.prog 187 [.val (.int .i64 first), roB nonce, .val (.int .i64 n)] [] (Is (roB (fnB 16 (blkF (u8 first) nonce n)))) := by
 refine yv Tryz.func187 _ Tryz.ntmps187 (fun w0 R0 => ?_)
 refine zx (zm ?_)
 refine zc (zD (zl (zx (zm ?_))))
 refine za ?_
 refine yA ?_
 refine zK ?_
 intro B1
 refine AO.g ?_
 refine G.closeRow (b := B1) (n := 1) (cap := 1) 0 rfl rfl rfl (Nat.le_refl _) (by (unfold maxLen; omega)) ?_
 refine AO.u ?_
 dsimp only [List.set]
 refine za ?_
 refine zq 0 rfl rfl rfl rfl (by rfl) (by rfl) rfl rfl rfl (by exact SrcA.ro TyD.ax (by (simp; done)) (Nat.le_of_ble_eq_true rfl)) (by (simp [AV.cells, AV.one, *]; done)) (by (unfold maxLen; omega)) ?_
 intro V2 hV2
 refine zc (zD (zl (zx (zx (zm ?_)))))
 refine za ?_
 refine zZ ?_
 refine yl ?_
 refine zc (zD (zl (yS ?_)))
 obtain ⟨L, hL⟩ : ∃ L, L = nonce.length := ⟨_, rfl⟩
 rw [← hL] at hn13
 have e0 : AV.val (.int .u8 ((u8 first).toNat : Int)) :: bytesA nonce = arB (1 + L) (blkF (u8 first) nonce n) := by
  rw [hL, arB_kf]
  show arB 1 (fun _ => u8 first) ++ arB nonce.length (kf nonce) = _
  rw [arB_app]
  exact arB_congr fun q hq => by
   by_cases h : q < 1
   ·rw [if_pos h, blkF, if_pos (by omega)]
   rw [if_neg h, blkF, if_neg (by omega), if_pos (by omega)]
 have ez : nonce.length = L := hL.symm
 have ey : 14 - (L : Int) = 15 - ((1 + L : Nat) : Int) := by omega
 rw [ez, e0, ey]
 refine zg [(2, _)] (fun nn E H => ∃ (q : Nat) (V : Value), (1 + L ≤ q ∧ q ≤ 16) ∧ (V.oneCell' = true) ∧ nn = 16 - q ∧ E = [(7, .val V), (8, .val (.int .i64 (15 - (q : Int))))] ∧ H = [.row V 5 1 q (arB q (blkF (u8 first) nonce n))]) _ (⟨1 + L, V2, by omega, hV2, rfl, rfl, rfl⟩) ?_
 rintro nn E H ⟨q, V, hq, hV, rfl, rfl, rfl⟩
 dsimp only [List.cons_append, List.nil_append]
 have ex : 15 - (q : Int) - 1 = 15 - ((q + 1 : Nat) : Int) := by omega
 refine zx (zx (zm ?_))
 refine za ?_
 refine xR (zD (zl ?_))
 refine yn (fun h => ?_) (fun h => ?_) <;> (try simp only [wN] at h)
 ·skip
  have hq' : q < 16 := by omega
  refine yN (zl (zx (yS (zx (zx (zm ?_))))))
  refine za ?_
  refine y7 (zD (zl ?_))
  refine yn (fun h2 => ?_) (fun h2 => ?_) <;> (try simp only [wN] at h2)
  ·skip
   refine zx (zm ?_)
   refine za ?_
   refine zK ?_
   intro B3
   refine AO.g ?_
   refine wB 0 24 rfl rfl ⟨Nat.le_refl _, by unfold maxLen; omega⟩ ?_
   refine xF 24 ?_
   refine AO.u ?_
   dsimp only [List.eraseIdx]
   refine zq 0 rfl rfl rfl rfl (by rfl) (by rfl) rfl rfl rfl (by exact SrcA.ro TyD.ax (by rfl) (Nat.le_of_ble_eq_true rfl)) (by rfl) (by (unfold maxLen; omega)) ?_
   intro V4 hV4
   refine zc (zD (zl ?_))
   refine xD ?_
   refine xr ?_
   refine yZ (zl (zm ?_))
   refine za ?_
   refine yl ?_
   refine zc (zD ?_)
   rw [show arB q (blkF (u8 first) nonce n) ++ [AV.val (.int .u8 0)] = arB (q + 1) (blkF (u8 first) nonce n) from arB_snoc (blkF_hi (by omega) h2 hn), ex]
   refine zj _ _ _ (by omega) (⟨q + 1, V4, by omega, hV4, rfl, rfl, rfl⟩)
  refine yN (zl (zm ?_))
  refine za ?_
  refine za ?_
  refine za ?_
  refine xh ?_
  refine wI (O.mul rfl rfl rfl (by exact wU64 (by omega))) ?_
  refine wI (O.shr rfl rfl rfl (by omega) rfl) ?_
  refine yA ?_
  refine zK ?_
  intro B5
  refine AO.g ?_
  refine wB 0 33 rfl rfl ⟨Nat.le_refl _, by unfold maxLen; omega⟩ ?_
  refine xF 33 ?_
  refine AO.u ?_
  dsimp only [List.eraseIdx]
  refine zq 0 rfl rfl rfl rfl (by rfl) (by rfl) rfl rfl rfl (by exact SrcA.ro TyD.ax (by rfl) (Nat.le_of_ble_eq_true rfl)) (by rfl) (by (unfold maxLen; omega)) ?_
  intro V6 hV6
  refine zc (zD (y5 (zl (zm ?_))))
  refine za ?_
  refine yl ?_
  refine zc (zD ?_)
  rw [show arB q (blkF (u8 first) nonce n) ++ [AV.val (.int .u8 ((u8 (n.fdiv (2 ^ min (8 * (15 - (q : Int))).toNat IntKind.i64.bits))).toNat : Int))] = arB (q + 1) (blkF (u8 first) nonce n) from arB_snoc (blkF_lo (by omega) (by omega) h2), ex]
  refine zj _ _ _ (by omega) (⟨q + 1, V6, by omega, hV6, rfl, rfl, rfl⟩)
 obtain rfl : q = 16 := by omega
 refine xD ?_
 refine xr ?_
 refine xA ?_
 refine yZ (zl (zx (zm ?_)))
 refine za ?_
 refine zc (zD (zl (y1 ?_)))
 refine AQ.g ?_
 refine z6 0 [6] ?_
 refine AQ.u ?_
 try dsimp only [List.map, List.eraseIdx, List.cons_append, List.nil_append]
 refine AQ.g ?_
 refine G.re 6 (roB (fnB 16 (blkF (u8 first) nonce n))) (congrArg some (roB_fnB _ _).symm) ?_
 refine AQ.u ?_
 refine xK rfl rfl ⟨_, List.nil_sublist _, .nil⟩ (⟨rfl, rfl⟩)
set_option maxHeartbeats 4000000 in
theorem countedR_fn (first : Int) (nonce : List UInt8) (n : Int) (hn13 : nonce.length ≤ 13) (hn : 0 ≤ n ∧ n ≤ 9223372036854775807) : Sp Tryz.prog 187 [.val (.int .i64 first), roB nonce, .val (.int .i64 n)] [] (NewRow 5 1 16 (arB 16 (blkF (u8 first) nonce n))) := by
 refine yv Tryz.func187 _ Tryz.ntmps187 (fun w0 R0 => ?_)
 refine zx (zm ?_)
 refine zc (zD (zl (zx (zm ?_))))
 refine za ?_
 refine yA ?_
 refine zK ?_
 intro B1
 refine AO.g ?_
 refine G.closeRow (b := B1) (n := 1) (cap := 1) 0 rfl rfl rfl (Nat.le_refl _) (by (unfold maxLen; omega)) ?_
 refine AO.u ?_
 dsimp only [List.set]
 refine za ?_
 refine zq 0 rfl rfl rfl rfl (by rfl) (by rfl) rfl rfl rfl (by exact SrcA.ro TyD.ax (by (simp; done)) (Nat.le_of_ble_eq_true rfl)) (by (simp [AV.cells, AV.one, *]; done)) (by (unfold maxLen; omega)) ?_
 intro V2 hV2
 refine zc (zD (zl (zx (zx (zm ?_)))))
 refine za ?_
 refine zZ ?_
 refine yl ?_
 refine zc (zD (zl (yS ?_)))
 obtain ⟨L, hL⟩ : ∃ L, L = nonce.length := ⟨_, rfl⟩
 rw [← hL] at hn13
 have e0 : AV.val (.int .u8 ((u8 first).toNat : Int)) :: bytesA nonce = arB (1 + L) (blkF (u8 first) nonce n) := by
  rw [hL, arB_kf]
  show arB 1 (fun _ => u8 first) ++ arB nonce.length (kf nonce) = _
  rw [arB_app]
  exact arB_congr fun q hq => by
   by_cases h : q < 1
   ·rw [if_pos h, blkF, if_pos (by omega)]
   rw [if_neg h, blkF, if_neg (by omega), if_pos (by omega)]
 have ez : nonce.length = L := hL.symm
 have ey : 14 - (L : Int) = 15 - ((1 + L : Nat) : Int) := by omega
 rw [ez, e0, ey]
 refine zg [(2, _)] (fun nn E H => ∃ (q : Nat) (V : Value), (1 + L ≤ q ∧ q ≤ 16) ∧ (V.oneCell' = true) ∧ nn = 16 - q ∧ E = [(7, .val V), (8, .val (.int .i64 (15 - (q : Int))))] ∧ H = [.row V 5 1 q (arB q (blkF (u8 first) nonce n))]) _ (⟨1 + L, V2, by omega, hV2, rfl, rfl, rfl⟩) ?_
 rintro nn E H ⟨q, V, hq, hV, rfl, rfl, rfl⟩
 dsimp only [List.cons_append, List.nil_append]
 have ex : 15 - (q : Int) - 1 = 15 - ((q + 1 : Nat) : Int) := by omega
 refine zx (zx (zm ?_))
 refine za ?_
 refine xR (zD (zl ?_))
 refine yn (fun h => ?_) (fun h => ?_) <;> (try simp only [wN] at h)
 ·skip
  have hq' : q < 16 := by omega
  refine yN (zl (zx (yS (zx (zx (zm ?_))))))
  refine za ?_
  refine y7 (zD (zl ?_))
  refine yn (fun h2 => ?_) (fun h2 => ?_) <;> (try simp only [wN] at h2)
  ·skip
   refine zx (zm ?_)
   refine za ?_
   refine zK ?_
   intro B3
   refine AO.g ?_
   refine wB 0 24 rfl rfl ⟨Nat.le_refl _, by unfold maxLen; omega⟩ ?_
   refine xF 24 ?_
   refine AO.u ?_
   dsimp only [List.eraseIdx]
   refine zq 0 rfl rfl rfl rfl (by rfl) (by rfl) rfl rfl rfl (by exact SrcA.ro TyD.ax (by rfl) (Nat.le_of_ble_eq_true rfl)) (by rfl) (by (unfold maxLen; omega)) ?_
   intro V4 hV4
   refine zc (zD (zl ?_))
   refine xD ?_
   refine xr ?_
   refine yZ (zl (zm ?_))
   refine za ?_
   refine yl ?_
   refine zc (zD ?_)
   rw [show arB q (blkF (u8 first) nonce n) ++ [AV.val (.int .u8 0)] = arB (q + 1) (blkF (u8 first) nonce n) from arB_snoc (blkF_hi (by omega) h2 hn), ex]
   refine zj _ _ _ (by omega) (⟨q + 1, V4, by omega, hV4, rfl, rfl, rfl⟩)
  refine yN (zl (zm ?_))
  refine za ?_
  refine za ?_
  refine za ?_
  refine xh ?_
  refine wI (O.mul rfl rfl rfl (by exact wU64 (by omega))) ?_
  refine wI (O.shr rfl rfl rfl (by omega) rfl) ?_
  refine yA ?_
  refine zK ?_
  intro B5
  refine AO.g ?_
  refine wB 0 33 rfl rfl ⟨Nat.le_refl _, by unfold maxLen; omega⟩ ?_
  refine xF 33 ?_
  refine AO.u ?_
  dsimp only [List.eraseIdx]
  refine zq 0 rfl rfl rfl rfl (by rfl) (by rfl) rfl rfl rfl (by exact SrcA.ro TyD.ax (by rfl) (Nat.le_of_ble_eq_true rfl)) (by rfl) (by (unfold maxLen; omega)) ?_
  intro V6 hV6
  refine zc (zD (y5 (zl (zm ?_))))
  refine za ?_
  refine yl ?_
  refine zc (zD ?_)
  rw [show arB q (blkF (u8 first) nonce n) ++ [AV.val (.int .u8 ((u8 (n.fdiv (2 ^ min (8 * (15 - (q : Int))).toNat IntKind.i64.bits))).toNat : Int))] = arB (q + 1) (blkF (u8 first) nonce n) from arB_snoc (blkF_lo (by omega) (by omega) h2), ex]
  refine zj _ _ _ (by omega) (⟨q + 1, V6, by omega, hV6, rfl, rfl, rfl⟩)
 obtain rfl : q = 16 := by omega
 refine xD ?_
 refine xr ?_
 refine xA ?_
 refine yZ (zl (zx (zm ?_)))
 refine za ?_
 refine zc (zD (zl (y1 ?_)))
 refine xK rfl rfl ⟨_, by repeat (first | exact List.Sublist.slnil | refine List.Sublist.cons_cons _ ?_), List.Perm.refl _⟩ (⟨_, rfl, hV, rfl⟩)
def padN (n : Nat) : Nat := (n + 15) / 16 * 16
theorem padded_fn (b : List UInt8) (hl : b.length ≤ 1000000) : Sp Tryz.prog 188 [roB b] [] (Is (roB (fnB (padN b.length) (kf b)))) := by
 refine yv Tryz.func188 _ Tryz.ntmps188 (fun w0 R0 => ?_)
 refine zx (zm ?_)
 refine zc (zD (zl (zx (zm ?_))))
 refine za ?_
 refine ww (O.appendNil rfl (by rfl) (by rfl) rfl rfl (by exact SrcA.ro TyD.ax (by (simp; done)) (Nat.le_of_ble_eq_true rfl)) (by (simp [AV.cells, AV.one, *]; done)) (by (unfold maxLen; omega)) (by omega)) ?_
 intro V1 hV1
 refine zc (zD (zl (zx (yS ?_))))
 rw [arB_kf]
 refine AW.loopK [] (fun nn E H => ∃ (m : Nat) (V : Value), (b.length ≤ m ∧ m ≤ padN b.length) ∧ (V.oneCell' = true) ∧ nn = padN b.length - m ∧ E = [(3, .val V)] ∧ H = [.row V 5 1 m (arB m (kf b))]) _ (⟨b.length, V1, ⟨Nat.le_refl _, by unfold padN; omega⟩, hV1, rfl, rfl, rfl⟩) (by repeat (exact envNil)) (by repeat (first | exact envNil | refine envCons rfl ?_)) (by repeat (first | exact subPnil | refine subPcons 0 rfl ?_)) ?_
 rintro nn E H ⟨m, V, hm, hV, rfl, rfl, rfl⟩
 dsimp only [List.cons_append, List.nil_append]
 have hpn : padN b.length = (b.length + 15) / 16 * 16 := rfl
 refine zx (zx (zm ?_))
 refine za ?_
 refine xN ?_
 refine xq ?_
 refine yX (zD (zl ?_))
 refine yn (fun h => ?_) (fun h => ?_) <;> (try simp only [wN] at h)
 ·skip
  have hm' : m < padN b.length := by omega
  refine yN (zl (yS (zm ?_)))
  refine za ?_
  refine zK ?_
  intro B2
  refine AO.g ?_
  refine wB 0 11 rfl rfl ⟨Nat.le_refl _, by unfold maxLen; omega⟩ ?_
  refine xF 11 ?_
  refine AO.u ?_
  dsimp only [List.eraseIdx]
  refine zq 0 rfl rfl rfl rfl (by rfl) (by rfl) rfl rfl rfl (by exact SrcA.ro TyD.ax (by rfl) (Nat.le_of_ble_eq_true rfl)) (by rfl) (by (unfold maxLen; omega)) ?_
  intro V3 hV3
  refine zc (zD (y5 ?_))
  rw [show arB m (kf b) ++ [AV.val (.int .u8 0)] = arB (m + 1) (kf b) from arB_snoc (kf_drop b hm.1).symm]
  refine AQ.loopKN _ _ _ (by omega) (⟨m + 1, V3, by omega, hV3, rfl, rfl, rfl⟩) (by repeat (exact envNil)) (by repeat (first | exact envNil | refine envCons rfl ?_)) (by repeat (first | exact subPnil | refine subPcons 0 rfl ?_))
 have hm' : m = padN b.length := by omega
 subst hm'
 refine xD ?_
 refine xr ?_
 refine xA ?_
 refine yZ (zl (zx (zm ?_)))
 refine za ?_
 refine zc (zD (zl (y1 ?_)))
 refine AQ.g ?_
 refine z6 0 [2] ?_
 refine AQ.u ?_
 try dsimp only [List.map, List.eraseIdx, List.cons_append, List.nil_append]
 refine AQ.g ?_
 refine G.re 2 (roB (fnB (padN b.length) (kf b))) (congrArg some (roB_fnB _ _).symm) ?_
 refine AQ.u ?_
 refine xK rfl rfl ⟨_, List.nil_sublist _, .nil⟩ (⟨rfl, rfl⟩)
end Go.Proofs.YtojomcdjcpmnkaaGreat.By

namespace Go.Proofs.YtojomcdjcpmnkaaGreat.By
open Go.RowKit L A
set_option linter.unusedVariables false
set_option maxRecDepth 20000
set_option linter.unusedSimpArgs false
attribute [local irreducible] AW AQ AO
abbrev EncRow (w f : Nat → UInt8) : AV → List HE → Prop := fun r Hn => ∃ V : Value, V.oneCell' = true ∧ r = .tup [.val V, .val (.int .i64 0)] ∧ Hn = [.row V 5 1 16 (arB 16 (enc w f))]
theorem encRow_plain (w f : Nat → UInt8) : PlainP (EncRow w f) := by
 rintro r Hn ⟨V, _, rfl, rfl⟩
 refine ⟨fun R R' W u h => h.plainT (fun x hx => ?_), fun e he R R' W h => ?_⟩
 ·simp only [List.mem_cons, List.not_mem_nil, or_false] at hx
  rcases hx with rfl | rfl <;> exact ⟨_, rfl⟩
 obtain rfl : e = _ := List.mem_singleton.1 he
 exact HE.plainRow (vals_arB _ _) h
set_option maxRecDepth 20000 in
set_option maxHeartbeats 4000000 in
theorem rencR_fn (key : List UInt8) (f : Nat → UInt8) (hk : key.length = 16) : Sp Tryz.prog 186 [roB key, .ro false 16 (arB 16 f)] [] (EncRow (wS (kf key)) f) := by
 refine yv Tryz.func186 _ Tryz.ntmps186 (fun w0 R0 => ?_)
 refine zx (zm ?_)
 refine zc ?_
 refine zc (zD (zl (zx (zx (zm ?_)))))
 refine za ?_
 refine zZ ?_
 refine wI (O.neq rfl rfl rfl (by exact bne_eq_false_iff_eq.2 (by omega))) ?_
 refine za ?_
 refine yu ?_
 refine AO.opG rfl rfl rfl (fun hp => yL 17 rfl (by exact hp)) ?_
 refine AO.opG rfl rfl rfl (fun hp => wL 18 rfl (by exact hp) (O.neq rfl rfl rfl (by exact bne_eq_false_iff_eq.2 (by omega)))) ?_
 refine zB (zD (zl ?_))
 refine yn (fun h => ?_) (fun h => ?_) <;> (try simp only [wN] at h)
 ·skip
  exact absurd h (by simp [hk])
 refine AW.g ?_
 refine G.re 0 (.ro false 16 (arB 16 (kf key))) (congrArg some (roB_kf hk)) ?_
 refine AW.u ?_
 obtain ⟨w, hwd⟩ : ∃ w, w = wS (kf key) := ⟨_, rfl⟩
 have hs0 : (arB 176 (wS (kf key))).take (16 * 1) = arB 16 (fun q => w (0 * 16 + q)) := by
  have := arB_dt (n := 176) (f := w) (j := 0) (k := 16) (by omega)
  rw [hwd] at this ⊢
  simpa using this
 have hseg : ∀ r, r < 11 → ((arB 176 w).drop (16 * r * 1)).take (16 * 1) = arB 16 fun q => w (r * 16 + q) := fun r hr => by
  rw [show 16 * r * 1 = r * 16 by omega]; exact arB_dt (by omega)
 refine yN (zl (zx (zm ?_)))
 refine wI (xl rfl Tryz.func199 rfl rfl rfl rsubs_fn) ?_
 refine xy ?_
 intro B1
 refine zV 0 rfl rfl rfl rfl rfl rfl (zD (zl (zx (zm ?_))))
 refine za ?_
 refine yR ?_
 refine wI (xl rfl Tryz.func200 rfl rfl rfl (rsched_fn _)) ?_
 refine zc (zD (zl (zx ?_)))
 refine yj 7 ?_
 simp only [List.take_succ_cons, List.take_zero, List.drop_succ_cons, List.drop_zero]
 refine zv ?_
 refine wJ (O.toArr rfl rfl (by omega) (by omega)) ?_
 refine wJ (O.loadRK rfl rfl (by exact List.take_of_length_le (Nat.le_of_eq (arB_len _ _))) (by exact arB_len _ _)) ?_
 refine zv ?_
 refine wJ (O.sliceTo (k := 16) rfl rfl rfl (by rfl) (by omega) (by exact hs0)) ?_
 refine wJ (xl rfl Tryz.func201 rfl rfl rfl (rxor_fn _ _)) ?_
 refine y8 ?_
 refine wg ?_
 simp only [chosen, List.nil_append, List.cons_append, List.append_nil]
 rintro _ _ ⟨B2, rfl, rfl⟩
 simp only [List.cons_append, List.nil_append]
 refine y3 0 rfl rfl rfl rfl rfl rfl (zD (zl (zx (zx (zm ?_)))))
 refine zc (zD (zl (yS ?_)))
 rw [← hwd]
 refine zg [(6, _), (7, _), (8, _)] (fun nn E H => ∃ (j : Nat), (j ≤ 10) ∧ nn = 10 - j ∧ E = [(9, .val (.int .i64 ((j + 1 : Nat) : Int)))] ∧ H = [arr16 B2 (encS w f j), .blk B1 181 256 (arB 256 RB)]) _ (⟨0, by omega, rfl, rfl, rfl⟩) ?_
 rintro nn E H ⟨j, hj, rfl, rfl, rfl⟩
 dsimp only [List.cons_append, List.nil_append]
 refine zx (zx (zm ?_))
 refine za ?_
 refine wG (zD (zl ?_))
 refine yn (fun hj1 => ?_) (fun hj1 => ?_) <;> (try simp only [wN] at hj1)
 ·skip
  obtain ⟨g, hg⟩ : ∃ g, g = encS w f j := ⟨_, rfl⟩
  have hst : ∀ q, encS w f (j + 1) q = (if j + 1 < 10 then mixF (shF sb 1 g) m2311 else shF sb 1 g) q ^^^ w ((j + 1) * 16 + q) := fun q => by rw [encS, hg]
  rw [← hg]
  refine yN (zl (zx (yS (zx (zm ?_)))))
  refine zd ?_
  intro B3
  refine zD (zl (zx (zx (zm ?_))))
  refine za (zD (zl (yS ?_)))
  have e0 : arr16 B3 (fun _ => 0) = arr16 B3 (fun q => if q < 4 * 0 + 0 then shF sb 1 g q else 0) := arr_eq1 fun q _ => (if_neg (by omega)).symm
  refine zg [(6, _), (7, _), (8, _), (9, _), (10, _)] (fun nn E H => ∃ (c : Nat), (c ≤ 4) ∧ nn = 4 - c ∧ E = [(35, .val (.int .i64 (c : Int)))] ∧ H = [arr16 B3 (fun q => if q < 4 * c + 0 then shF sb 1 g q else 0), arr16 B2 g, .blk B1 181 256 (arB 256 RB)]) _ (⟨0, by omega, rfl, rfl, congrArg (fun x => [x, arr16 B2 g, .blk B1 181 256 (arB 256 RB)]) e0⟩) ?_
  rintro nn E H ⟨c, hc, rfl, rfl, rfl⟩
  dsimp only [List.cons_append, List.nil_append]
  refine zx (zm ?_)
  refine zH (zD (zl (zx ?_)))
  refine yn (fun hc4 => ?_) (fun hc4 => ?_) <;> (try simp only [wN] at hc4)
  ·skip
   refine yN (zl (zx (yS (zx (zm ?_)))))
   refine za ?_
   refine zc (zD (zl (zx (zm ?_))))
   refine za (zD (zl (yS ?_)))
   refine zg [(6, _), (7, _), (8, _), (9, _), (10, _), (11, _), (35, _)] (fun nn E H => ∃ (r : Nat), (r ≤ 4) ∧ nn = 4 - r ∧ E = [(38, .val (.int .i64 (r : Int)))] ∧ H = [arr16 B3 (fun q => if q < 4 * c + r then shF sb 1 g q else 0), arr16 B2 g, .blk B1 181 256 (arB 256 RB)]) _ (⟨0, by omega, rfl, rfl, rfl⟩) ?_
   rintro nn E H ⟨r, hr, rfl, rfl, rfl⟩
   dsimp only [List.cons_append, List.nil_append]
   refine zx (zm ?_)
   refine zH (zD (zl (zx ?_)))
   refine yn (fun hr4 => ?_) (fun hr4 => ?_) <;> (try simp only [wN] at hr4)
   ·skip
    have hr' : r < 4 := by omega
    have hix : (0 + (4 * (((c : Int) + (r : Int)) % 4) + (r : Int)).toNat * 1) = r + 4 * ((c + r) % 4) := by
     have hi : (4 * (((c : Int) + (r : Int)) % 4) + (r : Int)) = ((r + 4 * ((c + r) % 4) : Nat) : Int) := by push_cast; omega
     rw [hi, Int.toNat_natCast]; omega
    have hgb : (arB 16 g)[0 + (4 * (((c : Int) + (r : Int)) % 4) + (r : Int)).toNat * 1]? = some (by8 (g (r + 4 * ((c + r) % 4)))) := by rw [hix]; exact arB_get (by omega) rfl
    have hsh : shF sb 1 g (4 * c + r) = sb (g (r + 4 * ((c + r) % 4))) := by
     rw [shF, show (4 * c + r) % 4 = r by omega, show (4 * c + r) / 4 = c by omega, Nat.one_mul]
    refine yN (zl (zx (yS (zx (zm ?_)))))
    refine za ?_
    refine zc (zD (zl (zm ?_)))
    refine za ?_
    refine xM ?_
    refine za ?_
    refine zr ?_
    refine za ?_
    refine za ?_
    refine zr ?_
    refine xq ?_
    refine xM ?_
    refine za ?_
    refine zr ?_
    refine xb ?_
    refine wI (O.load rfl rfl (by repeat (first | exact List.Mem.head _ | refine List.Mem.tail _ ?_)) (by exact hgb)) ?_
    refine wI (O.idxL rfl rfl rfl (by exact u8ix _)) ?_
    refine wI (xT rfl rfl) ?_
    refine xb ?_
    refine yf 0 rfl rfl rfl rfl rfl rfl (by rfl) (by rfl) (by exact Nat.ble_eq_true_of_le (by rw [arB_len]; omega)) (by exact arB_set (k := 4 * c + r) (by omega) _ (by omega)) (zD (y5 (zl (zm ?_))))
    refine zr ?_
    refine za (zD ?_)
    have e : arr16 B3 (fun q => if q = 4 * c + r then sb (g (r + 4 * ((c + r) % 4))) else if q < 4 * c + r then shF sb 1 g q else 0) = arr16 B3 (fun q => if q < 4 * c + (r + 1) then shF sb 1 g q else 0) := arr_eq1 fun q _ => by
     rw [← hsh]
     rcases Nat.lt_trichotomy q (4 * c + r) with h1 | h1 | h1
     ·rw [if_neg (by omega), if_pos h1, if_pos (by omega)]
     ·rw [if_pos h1, if_pos (by omega), h1]
     rw [if_neg (by omega), if_neg (by omega), if_neg (by omega)]
    refine zj _ _ _ (by omega) (⟨r + 1, by omega, rfl, rfl, congrArg (fun x => [x, arr16 B2 g, .blk B1 181 256 (arB 256 RB)]) e⟩)
   obtain rfl : r = 4 := by omega
   refine xD ?_
   refine xr ?_
   refine xA ?_
   refine yZ (y5 (zl (zm ?_)))
   refine zr ?_
   refine za (zD ?_)
   refine zj _ _ _ (by omega) (⟨c + 1, by omega, rfl, rfl, rfl⟩)
  obtain rfl : c = 4 := by omega
  have e : arr16 B3 (fun q => if q < 4 * 4 + 0 then shF sb 1 g q else 0) = arr16 B3 (shF sb 1 g) := arr_eq1 fun q hq => if_pos hq
  rw [e]
  refine xD ?_
  refine xr ?_
  refine xA ?_
  refine yZ (zl (zx (zx (zm ?_))))
  refine za ?_
  refine zH (zD (zl ?_))
  refine yn (fun h10 => ?_) (fun h10 => ?_) <;> (try simp only [wN] at h10)
  ·skip
   refine zm ?_
   refine yR ?_
   refine z8 ?_
   refine wI (xl rfl Tryz.func202 rfl rfl rfl (rmix_fn _ m2311)) ?_
   refine zV 0 rfl rfl rfl rfl rfl rfl (zD (zl ?_))
   refine yj 9 ?_
   simp only [List.take_succ_cons, List.take_zero, List.drop_succ_cons, List.drop_zero]
   refine wm ?_
   refine zv ?_
   refine zv ?_
   refine yH ?_
   refine zv ?_
   refine yH ?_
   refine y2 ?_
   refine wJ (O.sliceLHm (m := 16) rfl rfl rfl rfl (l := 16 * (j + 1)) (h := 16 * (j + 1) + 16) (by omega) (by omega) (by omega) (by omega) (by omega) (by exact hseg (j + 1) (by omega))) ?_
   refine wJ (xl rfl Tryz.func201 rfl rfl rfl (rxor_fn _ _)) ?_
   refine wg ?_
   simp only [chosen, List.nil_append, List.cons_append, List.append_nil]
   refine zV 1 rfl rfl rfl rfl rfl rfl (zD (y5 (zl (zm ?_))))
   refine za ?_
   refine zr ?_
   refine zc (zD ?_)
   have e2 : arr16 B2 (fun q => mixF (shF sb 1 g) m2311 q ^^^ w ((j + 1) * 16 + q)) = arr16 B2 (encS w f (j + 1)) := arr_eq1 fun q _ => by rw [hst, if_pos (by omega)]
   refine zF _ _ _ (by omega) (⟨j + 1, by omega, rfl, rfl, congrArg (fun x => [x, .blk B1 181 256 (arB 256 RB)]) e2⟩)
  refine yN (zl ?_)
  refine yj 9 ?_
  simp only [List.take_succ_cons, List.take_zero, List.drop_succ_cons, List.drop_zero]
  refine wm ?_
  refine zv ?_
  refine zv ?_
  refine yH ?_
  refine zv ?_
  refine yH ?_
  refine y2 ?_
  refine wJ (O.sliceLHm (m := 16) rfl rfl rfl rfl (l := 16 * (j + 1)) (h := 16 * (j + 1) + 16) (by omega) (by omega) (by omega) (by omega) (by omega) (by exact hseg (j + 1) (by omega))) ?_
  refine wJ (xl rfl Tryz.func201 rfl rfl rfl (rxor_fn _ _)) ?_
  refine wg ?_
  simp only [chosen, List.nil_append, List.cons_append, List.append_nil]
  refine zV 1 rfl rfl rfl rfl rfl rfl (zD (y5 (zl (zm ?_))))
  refine za ?_
  refine zr ?_
  refine zc (zD ?_)
  have e2 : arr16 B2 (fun q => shF sb 1 g q ^^^ w ((j + 1) * 16 + q)) = arr16 B2 (encS w f (j + 1)) := arr_eq1 fun q _ => by rw [hst, if_neg (by omega)]
  refine zF _ _ _ (by omega) (⟨j + 1, by omega, rfl, rfl, congrArg (fun x => [x, .blk B1 181 256 (arB 256 RB)]) e2⟩)
 obtain rfl : j = 10 := by omega
 refine xD ?_
 refine xr ?_
 refine xA ?_
 refine yZ (zl (zx (zm ?_)))
 refine wI (O.sliceArrK (p := 0) rfl rfl rfl rfl (by rfl) (by rfl) ⟨by omega, by omega⟩ (by omega)) ?_
 refine ww (O.appendNil rfl (by rfl) (by rfl) rfl rfl (by exact SrcA.blk TyD.ax (by repeat (exact List.Mem.head _)) (by (dsimp only [List.set, List.cons_append, List.nil_append, List.take, List.drop]; done)) (by rfl)) (by rfl) (by (unfold maxLen; omega)) (by omega)) ?_
 intro V4 hV4
 refine zc ?_
 refine zc (zD (zl (y1 ?_)))
 have em : List.take ((16 - 0) * 1) (arB 16 (encS w f 10)) = arB 16 (enc w f) := by
  show List.take 16 (arB 16 (encS w f 10)) = _
  rw [List.take_of_length_le (Nat.le_of_eq (arB_len _ _))]; rfl
 rw [em]
 refine AQ.ret2G rfl (ResAt.tmp rfl) (ResAt.tmp rfl) ⟨_, List.Sublist.cons_cons _ (List.nil_sublist _), .refl _⟩ ⟨V4, hV4, rfl, rfl⟩
end Go.Proofs.YtojomcdjcpmnkaaGreat.By

namespace Go.Proofs.YtojomcdjcpmnkaaGreat.By
open Go.RowKit L A
set_option linter.unusedVariables false
set_option maxRecDepth 20000
set_option linter.unusedSimpArgs false
attribute [local irreducible] AW AQ AO
attribute [local simp] arB_len
theorem absorb_congr {w : Nat → UInt8} : ∀ (n : Nat) (l : List UInt8) (x y : Nat → UInt8), l.length ≤ n → (∀ q, q < 16 → x q = y q) → ∀ q, q < 16 → absorb w x l q = absorb w y l q
 | 0, l, x, y, hl, h, q, hq => by
  obtain rfl : l = [] := List.eq_nil_of_length_eq_zero (by omega)
  rw [absorb_nil, absorb_nil]; exact h q hq
 | n + 1, l, x, y, hl, h, q, hq => by
  by_cases e : l = []
  ·subst e; rw [absorb_nil, absorb_nil]; exact h q hq
  rw [absorb_cons e, absorb_cons e]
  have h0 : 0 < l.length := List.length_pos_iff.2 e
  exact absorb_congr n _ _ _ (by rw [List.length_drop]; omega) (enc_congr fun q hq => by rw [h q hq]) q hq
theorem absorb_app {w : Nat → UInt8} : ∀ (n : Nat) (A B : List UInt8) (x : Nat → UInt8), A.length ≤ n → A.length % 16 = 0 → ∀ q, q < 16 → absorb w x (A ++ B) q = absorb w (absorb w x A) B q
 | 0, A, B, x, hl, h, q, hq => by
  obtain rfl : A = [] := List.eq_nil_of_length_eq_zero (by omega)
  rw [absorb_nil, List.nil_append]
 | n + 1, A, B, x, hl, h, q, hq => by
  by_cases e : A = []
  ·subst e; rw [absorb_nil, List.nil_append]
  have h0 : 0 < A.length := List.length_pos_iff.2 e
  rw [absorb_cons e, absorb_cons (by simp [e]), List.drop_append_of_le_length (by omega)]
  rw [absorb_congr _ _ _ (enc w fun q => x q ^^^ kf A q) (Nat.le_refl _) (enc_congr fun q hq => by
   have : kf (A ++ B) q = kf A q := by simp only [kf, List.getD_eq_getElem?_getD]; rw [List.getElem?_append_left (by omega)]
   rw [this]) q hq]
  exact absorb_app n _ B _ (by rw [List.length_drop]; omega) (by rw [List.length_drop]; omega) q hq
theorem kf_pad (l : List UInt8) (N : Nat) (h : l.length ≤ N) : kf (fnB N (kf l)) = kf l := by
 funext q
 by_cases e : q < N
 ·exact kf_fnB e
 rw [kf_drop _ (by rw [fnB_len]; omega), kf_drop _ (by omega)]
theorem padN_le (n : Nat) : n ≤ padN n := by unfold padN; omega
theorem absorb_pad {w : Nat → UInt8} : ∀ (n : Nat) (l : List UInt8) (x : Nat → UInt8), l.length ≤ n → absorb w x (fnB (padN l.length) (kf l)) = absorb w x l
 | 0, l, x, hl => by
  obtain rfl : l = [] := List.eq_nil_of_length_eq_zero (by omega)
  rfl
 | n + 1, l, x, hl => by
  by_cases e : l = []
  ·subst e; rfl
  have h0 : 0 < l.length := List.length_pos_iff.2 e
  have h1 := padN_le l.length
  have e2 : fnB (padN l.length) (kf l) ≠ [] := fun h => by
   have := congrArg List.length h
   rw [fnB_len] at this; simp at this; omega
  have e3 : (fnB (padN l.length) (kf l)).drop 16 = fnB (padN (l.drop 16).length) (kf (l.drop 16)) := by
   have hp : padN (l.drop 16).length = padN l.length - 16 := by rw [List.length_drop]; unfold padN; omega
   rw [hp]
   apply List.ext_getElem
   ·rw [List.length_drop, fnB_len, fnB_len]
   intro q h2 h3
   rw [List.getElem_drop]
   rw [fnB_len] at h3
   have g : ∀ (N : Nat) (f : Nat → UInt8) (q : Nat) (h : q < (fnB N f).length), (fnB N f)[q] = f q := fun N f q h => by simp [fnB]
   rw [g, g]
   simp [kf, List.getElem?_drop]
  rw [absorb_cons e2, absorb_cons e, kf_pad _ _ h1, e3]
  exact absorb_pad n _ _ (by rw [List.length_drop]; omega)
/-- What the reference puts together. -/
def macA (aad : List UInt8) : List UInt8 := if aad = [] then [] else fnB (padN (headA aad).length) (kf (headA aad))
def macD (nonce aad plain : List UInt8) (tag : Int) : List UInt8 := fnB 16 (blkF (fstB aad nonce tag) nonce plain.length) ++ macA aad ++ fnB (padN plain.length) (kf plain)
theorem padN_mod (n : Nat) : padN n % 16 = 0 := by unfold padN; omega
theorem macA_mod (aad : List UInt8) : (macA aad).length % 16 = 0 := by
 unfold macA; split
 ·rfl
 rw [fnB_len]; exact padN_mod _
theorem macD_abs {w : Nat → UInt8} (nonce aad plain : List UInt8) (tag : Int) : ∀ q, q < 16 → absorb w (fun _ => 0) (macD nonce aad plain tag) q = macF w nonce aad plain tag q := fun q hq => by
 rw [macD, absorb_app _ _ _ _ (Nat.le_refl _) (by rw [List.length_append, fnB_len]; have := macA_mod aad; omega) q hq, absorb_pad _ _ _ (Nat.le_refl _), macF]
 refine absorb_congr _ _ _ _ (Nat.le_refl _) (fun q hq => ?_) q hq
 rw [absorb_app _ _ _ _ (Nat.le_refl _) (by rw [fnB_len]) q hq]
 by_cases e : aad = []
 ·rw [if_pos e, macA, if_pos e, absorb_nil]
 rw [if_neg e, macA, if_neg e, absorb_pad _ _ _ (Nat.le_refl _)]
theorem macD_len (nonce aad plain : List UInt8) (tag : Int) : (macD nonce aad plain tag).length = 16 + (macA aad).length + padN plain.length := by
 rw [macD, List.length_append, List.length_append, fnB_len, fnB_len]
end Go.Proofs.YtojomcdjcpmnkaaGreat.By

namespace Go.Proofs.YtojomcdjcpmnkaaGreat.By
open Go.RowKit L A
set_option linter.unusedVariables false
set_option maxRecDepth 20000
set_option linter.unusedSimpArgs false
attribute [local irreducible] AW AQ AO
attribute [local simp] arB_len
set_option maxHeartbeats 4000000 in
theorem mac_fn (key nonce aad plain : List UInt8) (tag : Int) (hk : key.length = 16) (hn13 : nonce.length ≤ 13) (ht : 4 ≤ tag ∧ tag ≤ 16) (ha : aad.length ≤ 10000) (hp : plain.length ≤ 10000) : Sp Tryz.prog 171 [roB key, roB nonce, roB aad, roB plain, .val (.int .i64 tag)] [] (Is (roB (fnB 16 (macF (wS (kf key)) nonce aad plain tag)))) := by
 refine yv Tryz.func171 _ Tryz.ntmps171 (fun w0 R0 => ?_)
 refine zx (zm ?_)
 refine zc (zD (zl (zx (zm ?_))))
 refine za ?_
 refine xI ?_
 refine yl ?_
 refine xM ?_
 refine zr ?_
 refine za ?_
 refine zZ ?_
 refine yl ?_
 refine zc (zD (zl (zx (zm ?_))))
 refine zc (zD (zl (zx (zx (zm ?_)))))
 refine za ?_
 refine zZ ?_
 refine y7 (zD (zl ?_))
 obtain ⟨z, hz⟩ : ∃ z, z = 8 * (tag / 2 - 1) + 14 - (nonce.length : Int) := ⟨_, rfl⟩
 have hzb : 0 ≤ z ∧ z ≤ 127 ∧ z + 64 ≤ 255 := by omega
 rw [← hz]
 refine xv True [(0, _), (1, _), (3, _)] [(11, .val (.int .i64 (z + if aad = [] then 0 else 64))), (12, roB (macA aad))] [] (fun h26 => ?_) (fun h26 => ?_) (fun hj => ?_) <;> try (try simp only [wN] at h26)
 ·skip
  have hne : aad ≠ [] := fun e => by rw [e] at h26; simp at h26
  have hpl := padded_fn (headA aad) (by simp only [headA, List.length_cons]; omega)
  have em : fnB (padN (headA aad).length) (kf (headA aad)) = macA aad := by rw [macA, if_neg hne]
  have er : roB (headA aad) = AV.ro false (2 + aad.length) (AV.val (.int .u8 ((u8 ((aad.length : Int) / 256)).toNat : Int)) :: AV.val (.int .u8 ((u8 (aad.length : Int)).toNat : Int)) :: bytesA aad) := (roB_of (by simp only [headA, List.length_cons]; omega) rfl).symm
  rw [em, er] at hpl
  refine zx (zm ?_)
  refine za ?_
  refine zr ?_
  refine zc (zD (zl (zm ?_)))
  refine za ?_
  refine zZ ?_
  refine xZ ?_
  refine yA ?_
  refine za ?_
  refine zZ ?_
  refine yA ?_
  refine yD ?_
  intro B1
  refine AO.g ?_
  refine G.closeRow (b := B1) (n := 2) (cap := 2) 0 rfl rfl rfl (Nat.le_refl _) (by (unfold maxLen; omega)) ?_
  refine AO.u ?_
  dsimp only [List.set]
  refine za ?_
  refine zy 0 rfl rfl rfl rfl (by rfl) (by rfl) rfl rfl rfl (by exact SrcA.ro TyD.ax (by (simp; done)) (Nat.le_of_ble_eq_true rfl)) (by (simp [AV.cells, AV.one, *]; done)) (by (unfold maxLen; omega)) ?_
  intro V2 hV2
  refine AO.g ?_
  refine yU 0 [38] ?_
  refine AO.u ?_
  dsimp only [List.map, List.eraseIdx, List.cons_append, List.nil_append]
  refine wI (xl rfl Tryz.func188 rfl rfl rfl hpl) ?_
  refine zc (zD ?_)
  have e11 : z + 64 = z + (if aad = [] then 0 else 64) := by rw [if_neg hne]
  rw [e11]
  refine AQ.midK0 trivial (by repeat (first | exact envNil | refine envCons rfl ?_)) (by repeat (exact subPnil))
 ·skip
  have hne : aad = [] := List.eq_nil_of_length_eq_zero (by omega)
  have e11 : z + (if aad = [] then 0 else 64) = z := by rw [if_pos hne, Int.add_zero]
  have e12 : roB (macA aad) = .ro false 0 [] := by rw [macA, if_pos hne]; rfl
  rw [e11, e12]
  refine yN ?_
  refine AQ.g ?_
  refine G.nilRo 12 rfl ?_
  refine AQ.u ?_
  refine AQ.midK trivial (by repeat (first | exact envNil | refine envCons rfl ?_)) (by repeat (first | exact envNil | refine envCons rfl ?_)) (by repeat (exact subPnil))
 dsimp only [List.cons_append, List.nil_append]
 refine zl ?_
 have hal : (macA aad).length ≤ 10020 := by
  unfold macA; split
  ·simp
  rw [fnB_len, headA, List.length_cons, List.length_cons]; unfold padN; omega
 have hpl : (fnB (padN plain.length) (kf plain)).length ≤ 10020 := by rw [fnB_len]; unfold padN; omega
 have hfs : u8 (z + if aad = [] then 0 else 64) = fstB aad nonce tag := by rw [fstB, hz]
 refine zx (zm ?_)
 refine za ?_
 refine za ?_
 refine za ?_
 refine zZ ?_
 refine ww (xl rfl Tryz.func187 rfl rfl rfl (countedR_fn _ nonce _ hn13 ⟨by omega, by omega⟩)) ?_
 intro V3 hV3
 refine za ?_
 refine zy 0 rfl rfl rfl rfl (by rfl) (by rfl) rfl rfl rfl (by exact SrcA.ro TyD.ax (by (simp; done)) (Nat.le_of_ble_eq_true rfl)) (by (simp [AV.cells, AV.one, *]; done)) (by (unfold maxLen; omega)) ?_
 intro V4 hV4
 refine za ?_
 refine wI (xl rfl Tryz.func188 rfl rfl rfl (padded_fn plain (by omega))) ?_
 refine zy 0 rfl rfl rfl rfl (by rfl) (by rfl) rfl rfl rfl (by exact SrcA.ro TyD.ax (by (simp; done)) (Nat.le_of_ble_eq_true rfl)) (by exact arB_one _ _) (by (unfold maxLen; omega)) ?_
 intro V5 hV5
 refine AO.g ?_
 refine yU 0 [49] ?_
 refine AO.u ?_
 dsimp only [List.map, List.eraseIdx, List.cons_append, List.nil_append]
 refine zc (zD (zl (zx (zm ?_))))
 refine AO.opB (O.makeSlice rfl rfl rfl (by rfl) (by rfl) (by decide) (by decide) (by rfl)) rfl rfl rfl ?_
 intro B6
 refine zc (zD (zl (zx (zx (zm ?_)))))
 refine zc (zD (zl (yS ?_)))
 rw [hfs]
 obtain ⟨N, hN⟩ : ∃ N, N = (macD nonce aad plain tag).length := ⟨_, rfl⟩
 have hNe : N = 16 + (macA aad).length + padN plain.length := by rw [hN, macD_len]
 have hN16 : N % 16 = 0 := by have := macA_mod aad; have := padN_mod plain.length; omega
 have hNl : N ≤ 100000 := by rw [fnB_len] at hpl; omega
 have e12 : AV.ro false (16 + (macA aad).length + (fnB (padN plain.length) (kf plain)).length) (arB 16 (blkF (fstB aad nonce tag) nonce plain.length) ++ bytesA (macA aad) ++ bytesA (fnB (padN plain.length) (kf plain))) = .ro false N (arB N (kf (macD nonce aad plain tag))) := by
  have e : arB 16 (blkF (fstB aad nonce tag) nonce plain.length) ++ bytesA (macA aad) ++ bytesA (fnB (padN plain.length) (kf plain)) = bytesA (macD nonce aad plain tag) := by
   simp only [macD, bytesA, List.map_append]; rfl
  rw [e, arB_kf, ← hN, fnB_len, ← hNe]
 rw [e12]
 have e13 : zerosA 16 (.int .u8 0) = arB 16 (fun _ => 0) := rfl
 rw [e13]
 refine AW.g ?_
 refine G.closeRow (b := B6) (n := 16) (cap := 16) 0 rfl (arB_len _ _) rfl (Nat.le_refl _) (by (unfold maxLen; omega)) ?_
 refine AW.u ?_
 dsimp only [List.set]
 have hfin := macD_abs (w := wS (kf key)) nonce aad plain tag
 obtain ⟨D, hD⟩ : ∃ D, D = macD nonce aad plain tag := ⟨_, rfl⟩
 rw [← hD] at hN hfin ⊢
 obtain ⟨M, hM⟩ : ∃ M, M = macF (wS (kf key)) nonce aad plain tag := ⟨_, rfl⟩
 rw [← hM] at hfin ⊢
 obtain ⟨w, hw⟩ : ∃ w, w = wS (kf key) := ⟨_, rfl⟩
 rw [← hw] at hfin
 refine zg [(0, _), (12, _)] (fun nn E H => ∃ (j : Nat) (V : Value) (x : Nat → UInt8), (16 * j ≤ N) ∧ (V.oneCell' = true) ∧ (absorb w x (D.drop (16 * j)) = absorb w (fun _ => 0) D) ∧ nn = N - 16 * j ∧ E = [(13, .val V), (14, .val (.int .i64 ((16 * j : Nat) : Int)))] ∧ H = [.row V 5 1 16 (arB 16 x)]) _ (⟨0, _, fun _ => 0, by omega, rfl, rfl, rfl, rfl, rfl⟩) ?_
 rintro nn E H ⟨j, V, x, hj, hV, hx, rfl, rfl, rfl⟩
 dsimp only [List.cons_append, List.nil_append]
 refine zx (zx (zm ?_))
 refine za ?_
 refine za ?_
 refine zZ ?_
 refine zH (zD (zl ?_))
 refine yn (fun h => ?_) (fun h => ?_) <;> (try simp only [wN] at h)
 ·skip
  have hj' : 16 * j + 16 ≤ N := by omega
  refine AW.g ?_
  refine G.openRow 0 rfl (by omega) (fun b' cap hc1 hc2 hxs hVe => ?_)
  refine AW.u ?_
  subst hVe
  dsimp only [List.set]
  refine yN (zl (zx (yS (zx (zx (zm ?_))))))
  refine za (zD (zl (yS ?_)))
  have e0 : arB 16 x = arB 16 (fun q => if q < 0 then x q ^^^ kf D (16 * j + q) else x q) := arB_congr fun q _ => (if_neg (by omega)).symm
  rw [e0]
  refine zg [(0, _), (12, _), (13, _), (14, _)] (fun nn E H => ∃ (k : Nat), (k ≤ 16) ∧ nn = 16 - k ∧ E = [(57, .val (.int .i64 (k : Int)))] ∧ H = [.blk b' 5 (cap * 1) (arB 16 (fun q => if q < k then x q ^^^ kf D (16 * j + q) else x q))]) _ (⟨0, by omega, rfl, rfl, rfl⟩) ?_
  rintro nn E H ⟨k, hk2, rfl, rfl, rfl⟩
  dsimp only [List.cons_append, List.nil_append]
  refine zx (zm ?_)
  refine zH (zD (zl (zx ?_)))
  refine yn (fun h2 => ?_) (fun h2 => ?_) <;> (try simp only [wN] at h2)
  ·skip
   have hk' : k < 16 := by omega
   refine yN (zl (zx (yS (zx (zm ?_)))))
   refine za ?_
   refine zc (zD (zl ?_))
   refine yj 12 ?_
   simp only [List.take_succ_cons, List.take_zero, List.drop_succ_cons, List.drop_zero]
   refine zv ?_
   refine zv ?_
   refine xQ ?_
   refine wJ (O.load rfl rfl (by repeat (exact List.Mem.head _)) (by exact arB_get (k := k) (by omega) (by omega))) ?_
   refine zv ?_
   refine zv ?_
   refine zv ?_
   refine y2 ?_
   refine xx ?_
   refine wJ (O.loadR rfl rfl (by exact arB_get (k := 16 * j + k) (by omega) (by omega))) ?_
   refine xt ?_
   refine xQ ?_
   refine wg ?_
   simp only [chosen, List.nil_append, List.cons_append, List.append_nil]
   refine yf 0 rfl rfl rfl rfl rfl rfl (by rfl) (by rfl) (by exact Nat.ble_eq_true_of_le (by rw [arB_len]; omega)) (by exact arB_set (k := k) (by omega) _ (by omega)) (zD (y5 (zl (zm ?_))))
   refine zr ?_
   refine za (zD ?_)
   have e1 : arB 16 (fun q => if q = k then (if k < k then x k ^^^ kf D (16 * j + k) else x k) ^^^ kf D (16 * j + k) else if q < k then x q ^^^ kf D (16 * j + q) else x q) = arB 16 (fun q => if q < k + 1 then x q ^^^ kf D (16 * j + q) else x q) := arB_congr fun q _ => by
    rcases Nat.lt_trichotomy q k with h1 | h1 | h1
    ·rw [if_neg (by omega), if_pos h1, if_pos (by omega)]
    ·rw [if_pos h1, if_neg (by omega), if_pos (by omega), h1]
    rw [if_neg (by omega), if_neg (by omega), if_neg (by omega)]
   rw [e1]
   refine zj _ _ _ (by omega) (⟨k + 1, by omega, rfl, rfl, rfl⟩)
  obtain rfl : k = 16 := by omega
  have e1 : arB 16 (fun q => if q < 16 then x q ^^^ kf D (16 * j + q) else x q) = arB 16 (fun q => x q ^^^ kf D (16 * j + q)) := arB_congr fun q hq => if_pos hq
  rw [e1]
  refine AW.g ?_
  refine G.closeRow (b := b') (n := 16) (cap := cap) 0 rfl (arB_len _ _) rfl hc1 hc2 ?_
  refine AW.u ?_
  dsimp only [List.set]
  refine xD ?_
  refine xr ?_
  refine xA ?_
  refine yZ (zl (zm ?_))
  refine za ?_
  refine za ?_
  refine AO.opN (O.callLP rfl Tryz.func186 rfl rfl rfl (by repeat (exact List.Mem.head _)) (rencR_fn key _ hk) (encRow_plain _ _) (by (repeat (first | exact LendL.nil | refine LendL.same ?_ | refine LendL.lend ?_)); done)) rfl rfl rfl ?_
  rintro _ _ ⟨V97, hV97, rfl, rfl⟩
  simp only [List.cons_append, List.nil_append]
  refine za ?_
  refine zW ?_
  refine zW ?_
  refine zc (zD (y5 (zl (zm ?_))))
  refine za ?_
  refine zr ?_
  refine zc (zD ?_)
  have hne : D.drop (16 * j) ≠ [] := fun e => by
   have := congrArg List.length e
   rw [List.length_drop, List.length_nil] at this; omega
  have hx2 : absorb w (enc w fun q => x q ^^^ kf D (16 * j + q)) (D.drop (16 * (j + 1))) = absorb w (fun _ => 0) D := by
   rw [← hx, absorb_cons hne, List.drop_drop]
   have ek : (fun q => x q ^^^ kf (D.drop (16 * j)) q) = fun q => x q ^^^ kf D (16 * j + q) := by
    funext q; simp [kf, List.getElem?_drop]
   rw [ek, show 16 * j + 16 = 16 * (j + 1) by omega]
  have e2 : ((16 * j : Nat) : Int) + 16 = ((16 * (j + 1) : Nat) : Int) := by omega
  rw [e2, ← hw]
  refine zj _ _ _ (by omega) (⟨j + 1, _, _, by omega, hV97, hx2, rfl, rfl, rfl⟩)
 have hj' : 16 * j = N := by omega
 refine xD ?_
 refine xr ?_
 refine xA ?_
 refine yZ (zl (zx (zm ?_)))
 refine za ?_
 refine zc (zD (zl (y1 ?_)))
 refine AQ.g ?_
 refine z6 0 [10] ?_
 refine AQ.u ?_
 try dsimp only [List.map, List.eraseIdx, List.cons_append, List.nil_append]
 have ed : D.drop (16 * j) = [] := List.drop_eq_nil_of_le (by omega)
 rw [ed, absorb_nil] at hx
 have ef : arB 16 x = arB 16 M := arB_congr fun q hq => by rw [hx]; exact hfin q hq
 rw [ef]
 refine AQ.g ?_
 refine G.re 10 (roB (fnB 16 M)) (congrArg some (roB_fnB _ _).symm) ?_
 refine AQ.u ?_
 refine xK rfl rfl ⟨_, List.nil_sublist _, .nil⟩ (⟨rfl, rfl⟩)
end Go.Proofs.YtojomcdjcpmnkaaGreat.By

namespace Go.Proofs.YtojomcdjcpmnkaaGreat.By
open Go.RowKit L A
set_option linter.unusedVariables false
set_option maxRecDepth 20000
set_option linter.unusedSimpArgs false
attribute [local irreducible] AW AQ AO
attribute [local simp] arB_len
def sF (w : Nat → UInt8) (nonce b : List UInt8) (c : Int) (i : Nat) : UInt8 := kf b i ^^^ enc w (blkF (u8 (14 - (nonce.length : Int))) nonce (c + ((i / 16 : Nat) : Int))) (i % 16)
theorem counted2_fn (first : Int) (nonce : List UInt8) (n : Int) (hn13 : nonce.length ≤ 13) (hn : 0 ≤ n ∧ n ≤ 9223372036854775807) : Sp Tryz.prog 187 [.val (.int .i64 first), roB nonce, .val (.int .i64 n)] [] (Is (.ro false 16 (arB 16 (blkF (u8 first) nonce n)))) := by
 rw [← roB_fnB]; exact counted_fn first nonce n hn13 hn
theorem renc2_fn (key : List UInt8) (f : Nat → UInt8) (hk : key.length = 16) : Sp Tryz.prog 186 [roB key, .ro false 16 (arB 16 f)] [] (Is (.tup [.ro false 16 (arB 16 (enc (wS (kf key)) f)), .val (.int .i64 0)])) := by
 have h := raenc_fn key (fnB 16 f)
 have e1 : encL key (fnB 16 f) = fnB 16 (enc (wS (kf key)) f) := by
  rw [encL, if_pos ⟨hk, fnB_len _ _⟩]
  exact fnB_congr (enc_congr fun q hq => kf_fnB hq)
 have e2 : encE key (fnB 16 f) = 0 := if_pos ⟨hk, fnB_len _ _⟩
 rw [e1, e2, roB_fnB, roB_fnB] at h
 exact h
set_option maxHeartbeats 4000000 in
theorem rstream_fn (key nonce b : List UInt8) (c : Int) (hk : key.length = 16) (hn13 : nonce.length ≤ 13) (hc : 0 ≤ c ∧ c ≤ 1) (hb : b.length ≤ 10000) : Sp Tryz.prog 170 [roB key, roB nonce, roB b, .val (.int .i64 c)] [] (NewRow 5 1 b.length (arB b.length (sF (wS (kf key)) nonce b c))) := by
 refine yv Tryz.func170 _ Tryz.ntmps170 (fun w0 R0 => ?_)
 refine zx (zm ?_)
 refine zc (zD (zl (zx (zm ?_))))
 refine zc ?_
 refine zc (zD (zl (zx (zx (zm ?_)))))
 refine za ?_
 refine zZ ?_
 refine za (zD (zl (yS ?_)))
 refine AW.g ?_
 refine G.nilRow 5 1 ?_
 refine AW.u ?_
 refine zg [(0, _), (1, _), (3, _), (13, _), (14, _)] (fun nn E H => ∃ (i : Nat) (V : Value) (S : AV), (i ≤ b.length) ∧ (V.oneCell' = true) ∧ (i % 16 ≠ 0 → S = .ro false 16 (arB 16 (enc (wS (kf key)) (blkF (u8 (14 - (nonce.length : Int))) nonce (c + ((i / 16 : Nat) : Int)))))) ∧ nn = b.length - i ∧ E = [(9, .val V), (10, S), (15, .val (.int .i64 (i : Int)))] ∧ H = [.row V 5 1 i (arB i (sF (wS (kf key)) nonce b c))]) _ (⟨0, .slice none 0 0, .val (.slice none 0 0), by omega, rfl, fun h => absurd rfl h, rfl, rfl, rfl⟩) ?_
 rintro nn E H ⟨i, V, S, hi, hV, hS, rfl, rfl, rfl⟩
 dsimp only [List.cons_append, List.nil_append]
 refine zx (zm ?_)
 refine zH (zD (zl (zx ?_)))
 refine yn (fun h => ?_) (fun h => ?_) <;> (try simp only [wN] at h)
 ·skip
  have hi' : i < b.length := by omega
  have hget : (bytesA b)[(i : Int).toNat * 1]? = some (by8 (kf b i)) := by
   rw [arB_kf]; exact arB_get (by omega) (by omega)
  refine yN (zl (zx (yS (zx (zm ?_)))))
  refine za ?_
  refine yh ?_
  refine wI (O.loadR rfl rfl (by exact hget)) ?_
  refine zc ?_
  refine zc (zD (zl (zx (zx (zm ?_)))))
  refine za ?_
  refine xq ?_
  refine yd (zD (zl ?_))
  obtain ⟨z, hz⟩ : ∃ z, z = enc (wS (kf key)) (blkF (u8 (14 - (nonce.length : Int))) nonce (c + ((i / 16 : Nat) : Int))) := ⟨_, rfl⟩
  have ei : (i : Int) / 16 = ((i / 16 : Nat) : Int) := by omega
  refine xv True [(0, _), (1, _), (3, _), (9, _), (11, _), (12, _), (13, _), (14, _), (15, _)] [(10, .ro false 16 (arB 16 z))] [.row V 5 1 i (arB i (sF (wS (kf key)) nonce b c))] (fun h22 => ?_) (fun h22 => ?_) (fun hj => ?_) <;> try (try simp only [wN] at h22)
  ·skip
   refine zm ?_
   refine za ?_
   refine za ?_
   refine zZ ?_
   refine yl ?_
   refine za ?_
   refine za ?_
   refine za ?_
   refine xI ?_
   refine zr ?_
   refine wI (xl rfl Tryz.func187 rfl rfl rfl (counted2_fn _ nonce _ hn13 ⟨by omega, by omega⟩)) ?_
   refine wI (xl rfl Tryz.func186 rfl rfl rfl (renc2_fn key _ hk)) ?_
   refine za ?_
   refine zW ?_
   refine zW ?_
   refine zc (zD ?_)
   rw [ei, ← hz]
   refine zR
  ·skip
   have := hS (by omega)
   subst this
   rw [← hz]
   refine yN ?_
   refine zR
  dsimp only [List.cons_append, List.nil_append]
  refine zl (zm ?_)
  refine za ?_
  refine za ?_
  refine za ?_
  refine za ?_
  refine xq ?_
  refine yh ?_
  refine wI (O.loadR rfl rfl (by exact arB_get (k := i % 16) (by omega) (by omega))) ?_
  refine wv ?_
  refine zK ?_
  intro B1
  refine AO.g ?_
  refine wB 0 45 rfl rfl ⟨Nat.le_refl _, by unfold maxLen; omega⟩ ?_
  refine xF 45 ?_
  refine AO.u ?_
  dsimp only [List.eraseIdx]
  refine zq 0 rfl rfl rfl rfl (by rfl) (by rfl) rfl rfl rfl (by exact SrcA.ro TyD.ax (by rfl) (Nat.le_of_ble_eq_true rfl)) (by rfl) (by (unfold maxLen; omega)) ?_
  intro V2 hV2
  refine zc (zD (y5 (zl (zm ?_))))
  refine zr ?_
  refine za (zD ?_)
  have e1 : arB i (sF (wS (kf key)) nonce b c) ++ [AV.val (.int .u8 ((kf b i ^^^ z (i % 16)).toNat : Int))] = arB (i + 1) (sF (wS (kf key)) nonce b c) := arB_snoc (by rw [sF, hz])
  rw [e1]
  refine zj _ _ _ (by omega) (⟨i + 1, V2, .ro false 16 (arB 16 z), by omega, hV2, fun h => by rw [hz, show (i + 1) / 16 = i / 16 by omega], rfl, rfl, rfl⟩)
 obtain rfl : i = b.length := by omega
 refine xD ?_
 refine xr ?_
 refine xA ?_
 refine yZ (zl (zx (zm ?_)))
 refine za ?_
 refine zc (zD (zl (y1 ?_)))
 refine xK rfl rfl ⟨_, by repeat (first | exact List.Sublist.slnil | refine List.Sublist.cons_cons _ ?_), List.Perm.refl _⟩ (⟨_, rfl, hV, rfl⟩)
theorem rstr1_fn (key nonce b : List UInt8) (hk : key.length = 16) (hn13 : nonce.length ≤ 13) (hb : b.length ≤ 10000) : Sp Tryz.prog 170 [roB key, roB nonce, roB b, .val (.int .i64 1)] [] (NewRow 5 1 b.length (arB b.length (strF (wS (kf key)) nonce b))) := by
 have h := rstream_fn key nonce b 1 hk hn13 (by omega) hb
 have e : sF (wS (kf key)) nonce b 1 = strF (wS (kf key)) nonce b := by
  funext i; rw [sF, strF, Int.add_comm]
 rw [e] at h; exact h
theorem rstr0_fn (key nonce : List UInt8) (M : Nat → UInt8) (hk : key.length = 16) (hn13 : nonce.length ≤ 13) : Sp Tryz.prog 170 [roB key, roB nonce, roB (fnB 16 M), .val (.int .i64 0)] [] (NewRow 5 1 16 (arB 16 (tagF (wS (kf key)) nonce M))) := by
 have h := rstream_fn key nonce (fnB 16 M) 0 hk hn13 (by omega) (by rw [fnB_len]; omega)
 rw [fnB_len] at h
 have e : arB 16 (sF (wS (kf key)) nonce (fnB 16 M) 0) = arB 16 (tagF (wS (kf key)) nonce M) := arB_congr fun q hq => by
  rw [sF, tagF, kf_fnB hq, show q / 16 = 0 by omega, show q % 16 = q by omega]; rfl
 rw [e] at h; exact h
theorem arTk {T : Nat} (h : T ≤ 16) (f : Nat → UInt8) : (arB 16 f).take (T * 1) = arB T f := by
 have := arPre h f
 rw [show (T - 0) * 1 = T * 1 by omega] at this
 exact this
set_option maxHeartbeats 4000000 in
theorem rseal_fn (key nonce aad plain : List UInt8) (tag : Int) (ha : aad.length ≤ 1000000) (hp : plain.length ≤ 1000000) : Sp Tryz.prog 128 [roB key, roB nonce, roB aad, roB plain, .val (.int .i64 tag)] [] (Is (.tup [roB (sealL key nonce aad plain tag), .val (.int .i64 (sealE key nonce aad plain tag))])) := by
 refine yv Tryz.func128 _ Tryz.ntmps128 (fun w0 R0 => ?_)
 refine zx (zm ?_)
 refine zc ?_
 refine zc (zD (zl (zx (yS (zx (zm ?_))))))
 refine za ?_
 refine za ?_
 refine za ?_
 refine wI (xl rfl Tryz.func169 rfl rfl rfl (rccval_fn key nonce _)) ?_
 refine xu ?_
 refine zc (zD (zl ?_))
 refine yn (fun h => ?_) (fun h => ?_) <;> (try simp only [wN] at h)
 ·skip
  have hb : cvB key nonce tag = false := by simpa using h
  obtain ⟨e1, e2⟩ := seal_bad (aad := aad) (plain := plain) hb
  rw [e1, e2]
  refine zx (zm ?_)
  refine zc ?_
  refine zc (zD (zl (y1 ?_)))
  refine wb (xi ?_)
  refine FnQ.coe yx ye (⟨rfl, rfl⟩)
 obtain ⟨hk, hn7, hn13, ht4, ht16, ht2⟩ := cvB_bd h
 refine zx (zm ?_)
 refine za ?_
 refine zZ ?_
 refine y7 ?_
 refine za ?_
 refine yu ?_
 refine AO.opG rfl rfl rfl (fun hp => yL 23 rfl (by exact hp)) ?_
 refine AO.opG rfl rfl rfl (fun hp => yM 24 rfl (by exact hp)) ?_
 refine zB ?_
 refine zc (zD (zl ?_))
 refine yn (fun h2 => ?_) (fun h2 => ?_) <;> (try simp only [wN] at h2)
 ·skip
  have hb : sealOk aad plain = false := by
   simp only [sealOk, Bool.and_eq_false_iff, decide_eq_false_iff_not]
   omega
  obtain ⟨e1, e2⟩ := seal_long h hb
  rw [e1, e2]
  refine zx (zm ?_)
  refine zc ?_
  refine zc (zD (zl (y1 ?_)))
  refine wb (xi ?_)
  refine FnQ.coe yx ye (⟨rfl, rfl⟩)
 have hb : sealOk aad plain = true := by
  simp only [sealOk, Bool.and_eq_true, decide_eq_true_eq]
  omega
 obtain ⟨e1, e2⟩ := seal_good h hb
 rw [e1, e2]
 obtain ⟨T, hT⟩ : ∃ T : Nat, T = tag.toNat := ⟨_, rfl⟩
 rw [← hT]
 have hT' : tag = (T : Int) := by omega
 have ha' : aad.length ≤ 10000 := by omega
 have hp' : plain.length ≤ 10000 := by omega
 obtain ⟨M, hM⟩ : ∃ M, M = macF (wS (kf key)) nonce aad plain tag := ⟨_, rfl⟩
 have hmac := mac_fn key nonce aad plain tag hk hn13 ⟨ht4, ht16⟩ ha' hp'
 rw [← hM] at hmac ⊢
 refine yN (y5 (zl (zx (zm ?_))))
 refine za ?_
 refine za ?_
 refine za ?_
 refine ww (xl rfl Tryz.func170 rfl rfl rfl (rstr1_fn key nonce plain hk hn13 hp')) ?_
 intro V1 hV1
 refine za ?_
 refine za ?_
 refine za ?_
 refine za ?_
 refine za ?_
 refine za ?_
 refine za ?_
 refine wI (xl rfl Tryz.func171 rfl rfl rfl hmac) ?_
 refine ww (xl rfl Tryz.func170 rfl rfl rfl (rstr0_fn key nonce M hk hn13)) ?_
 intro V2 hV2
 refine AO.g ?_
 refine yU 0 [39] ?_
 refine AO.u ?_
 dsimp only [List.map, List.eraseIdx, List.cons_append, List.nil_append]
 refine za ?_
 refine wI (O.sliceTo (k := T) rfl rfl rfl (by omega) (by omega) (by exact arTk (by omega) _)) ?_
 refine zy 0 rfl rfl rfl rfl (by rfl) (by rfl) rfl rfl rfl (by exact SrcA.ro TyD.ax (by (simp; done)) (Nat.le_of_ble_eq_true rfl)) (by exact arB_one _ _) (by (unfold maxLen; omega)) ?_
 intro V3 hV3
 refine AO.g ?_
 refine yU 0 [42] ?_
 refine AO.u ?_
 dsimp only [List.map, List.eraseIdx, List.cons_append, List.nil_append]
 refine zc ?_
 refine zc (zD (zl (y1 ?_)))
 refine AQ.g ?_
 refine G.re 10 (roB (fnB plain.length (strF (wK key) nonce plain) ++ fnB T (tagF (wK key) nonce M))) (congrArg some (roB_app2 _ T _ _)) ?_
 refine AQ.u ?_
 refine FnQ.coe yx xw (⟨rfl, rfl⟩)
end Go.Proofs.YtojomcdjcpmnkaaGreat.By

namespace Go.Proofs.YtojomcdjcpmnkaaGreat.By
open Go.RowKit L A
set_option linter.unusedVariables false
set_option maxRecDepth 20000
end Go.Proofs.YtojomcdjcpmnkaaGreat.By

namespace Go.Proofs.YtojomcdjcpmnkaaGreat.By
open Go.RowKit L A
set_option linter.unusedVariables false
set_option maxRecDepth 20000
set_option linter.unusedSimpArgs false
attribute [local irreducible] AW AQ AO
attribute [local simp] arB_len
end Go.Proofs.YtojomcdjcpmnkaaGreat.By

namespace Go.Proofs.YtojomcdjcpmnkaaGreat.By
open Go.RowKit L A
set_option linter.unusedVariables false
set_option maxRecDepth 20000
set_option linter.unusedSimpArgs false
attribute [local irreducible] AW AQ AO
attribute [local simp] arB_len
end Go.Proofs.YtojomcdjcpmnkaaGreat.By

namespace Go.Proofs.YtojomcdjcpmnkaaGreat.By
open Go.RowKit L A
set_option linter.unusedVariables false
set_option maxRecDepth 20000
set_option linter.unusedSimpArgs false
attribute [local irreducible] AW AQ AO
attribute [local simp] arB_len
end Go.Proofs.YtojomcdjcpmnkaaGreat.By

namespace Go.Proofs.YtojomcdjcpmnkaaGreat.By
open Go.RowKit L A
set_option linter.unusedVariables false
set_option maxRecDepth 20000
set_option linter.unusedSimpArgs false
attribute [local irreducible] AW AQ AO
def outS (outer inner : Msg) (v : Cmp) (key nonce aad : List UInt8) : Msg := ⟨outer.ty, outer.code, outer.id, outer.tok, setO outer.opts 9 [(encC v).1], sealL key nonce aad (packR inner).1 8⟩
def sealM (outer inner : Msg) (v : Cmp) (key nonce aad : List UInt8) : Msg × Int :=
 if (packR inner).2 ≠ 0 then (Msg.none, (packR inner).2) else
 if sealE key nonce aad (packR inner).1 8 ≠ 0 then (Msg.none, sealE key nonce aad (packR inner).1 8) else
 if (encR (outS outer inner v key nonce aad)).2 ≠ 0 then (Msg.none, 8) else (outS outer inner v key nonce aad, 0)
theorem sealM_1 {outer inner : Msg} {v : Cmp} {key nonce aad : List UInt8} (h : (packR inner).2 ≠ 0) : sealM outer inner v key nonce aad = (Msg.none, (packR inner).2) := if_pos h
theorem sealM_2 {outer inner : Msg} {v : Cmp} {key nonce aad : List UInt8} (h : (packR inner).2 = 0) (h2 : sealE key nonce aad (packR inner).1 8 ≠ 0) : sealM outer inner v key nonce aad = (Msg.none, sealE key nonce aad (packR inner).1 8) := (if_neg (fun g => g h)).trans (if_pos h2)
theorem sealM_3 {outer inner : Msg} {v : Cmp} {key nonce aad : List UInt8} (h : (packR inner).2 = 0) (h2 : sealE key nonce aad (packR inner).1 8 = 0) (h3 : (encR (outS outer inner v key nonce aad)).2 ≠ 0) : sealM outer inner v key nonce aad = (Msg.none, 8) := (if_neg (fun g => g h)).trans ((if_neg (fun g => g h2)).trans (if_pos h3))
theorem sealM_4 {outer inner : Msg} {v : Cmp} {key nonce aad : List UInt8} (h : (packR inner).2 = 0) (h2 : sealE key nonce aad (packR inner).1 8 = 0) (h3 : (encR (outS outer inner v key nonce aad)).2 = 0) : sealM outer inner v key nonce aad = (outS outer inner v key nonce aad, 0) := (if_neg (fun g => g h)).trans ((if_neg (fun g => g h2)).trans (if_neg (fun g => g h3)))
theorem packR_len (m : Msg) : (packR m).1.length ≤ 5000 := by
 unfold packR
 split
 ·split
  ·rename_i h
   have := encR_len4 h
   simp only [List.length_cons, List.length_drop]; omega
  simp
 simp
theorem encC_len (c : Cmp) : (encC c).1.length ≤ 100 := by
 unfold encC
 split
 ·simp
 rename_i h
 have hv := Decidable.not_not.1 h
 have hp := pivB_len c.piv
 obtain ⟨⟨-, -, h1, h2⟩, -⟩ := hv
 split
 ·simp
 unfold encB
 cases c.hasCtx <;> simp <;> omega
abbrev SmS (m : Msg) : Prop := m.tok.length ≤ 1000000 ∧ m.pay.length ≤ 1000000 ∧ m.opts.length ≤ 100000 ∧ ∀ o ∈ m.opts, o.val.length ≤ 1000000
theorem sm_none : SmS Msg.none := ⟨by simp [Msg.none], by simp [Msg.none], by simp [Msg.none], fun o ho => by cases ho⟩
theorem sm_val {m : Msg} (h : ValM m) : SmS m := by
 obtain ⟨h1, h2, h3, h4⟩ := ValM.sm h
 refine ⟨by omega, by omega, by omega, fun o ho => ?_⟩
 obtain ⟨k, hk, rfl⟩ := List.getElem_of_mem ho
 have := h4 k hk
 have e : oat m.opts k = m.opts[k] := by simp [hk]
 rw [e] at this; omega
theorem split_sm (m : Msg) : SmS (splitR m).2.1 := by
 unfold splitR
 split
 ·rename_i h
  split
  ·exact sm_none
  obtain ⟨h1, h2, h3, h4⟩ := sm_val h.1
  have hl := outL_len m.opts
  exact ⟨h1, by show ([] : List UInt8).length ≤ _; simp, by show (outL m.opts).length ≤ _; omega, fun o ho => h4 o (List.mem_filter.1 ho).1⟩
 exact sm_none
theorem sm_seal {outer inner : Msg} {v : Cmp} {key nonce aad : List UInt8} (h : SmS outer) : outer.tok.length ≤ 140737488355328 ∧ outer.pay.length ≤ 140737488355328 ∧ (∀ o ∈ outer.opts, o.val.length ≤ 140737488355328) ∧ (∀ w ∈ [(encC v).1], w.length ≤ 140737488355328) := by
 refine ⟨by have := h.1; omega, by have := h.2.1; omega, fun o ho => by have := h.2.2.2 o ho; omega, fun w hw => ?_⟩
 obtain rfl := List.mem_singleton.1 hw
 have := encC_len v; omega
abbrev roB1 (l : List UInt8) : AV := .ro false 1 [roB l]
set_option maxHeartbeats 4000000 in
theorem sealed_fn (outer inner : Msg) (v : Cmp) (key nonce aad : List UInt8) (ho : SmS outer) (ha : aad.length ≤ 1000000) :
  Sp Tryz.prog 68 [aggM outer, aggM inner, aggC v, roB key, roB nonce, roB aad] [] (Is (resM (sealM outer inner v key nonce aad))) := by
 have hpl := packR_len inner
 obtain ⟨g1, g2, g3, g4⟩ := sm_seal (inner := inner) (v := v) (key := key) (nonce := nonce) (aad := aad) ho
 have hset : Sp Tryz.prog 25 [aggM outer, .val (.int .i64 9), roB1 (encC v).1] [] (Is (aggM ⟨outer.ty, outer.code, outer.id, outer.tok, setO outer.opts 9 [(encC v).1], outer.pay⟩)) := set_fn outer 9 [(encC v).1] g1 g2 ho.2.2.1 (by simp) g3 g4
 refine yv Tryz.func68 _ Tryz.ntmps68 (fun w0 R0 => ?_)
 refine zx (zm ?_)
 refine ya ?_
 intro B1
 refine ya ?_
 intro B2
 refine ya ?_
 intro B3
 refine zd ?_
 intro B4
 refine zc (zD (zl (zx (zm ?_))))
 refine zG ?_
 refine wI (xl rfl Tryz.func127 rfl rfl rfl (rpack_fn inner)) ?_
 refine za ?_
 refine zW ?_
 refine zW ?_
 refine zc ?_
 refine zc (zD (zl (zx (zx (zm ?_)))))
 refine za ?_
 refine yX (zD (zl ?_))
 refine yn (fun h1 => ?_) (fun h1 => ?_) <;> (try simp only [wN] at h1)
 ·skip
  rw [sealM_1 h1]
  refine zx (zm ?_)
  refine z8 ?_
  refine za ?_
  refine zb 0 rfl rfl rfl rfl rfl rfl ?_
  refine zc (zD (zl (y1 (xi ?_))))
  refine FnQ.coe (AQ.retCT rfl rfl rfl (by repeat (exact List.Mem.head _)) (by (dsimp only [List.set, List.cons_append, List.nil_append, List.take, List.drop]; done)) (by rfl) ⟨_, List.nil_sublist _, .nil⟩ ⟨rfl, rfl⟩) zI (⟨rfl, rfl⟩)
 refine yN (zl (zx (zm ?_)))
 refine za ?_
 refine za ?_
 refine za ?_
 refine za ?_
 refine wI (xl rfl Tryz.func128 rfl rfl rfl (rseal_fn key nonce aad (packR inner).1 8 ha (by omega))) ?_
 refine za ?_
 refine zW ?_
 refine zW ?_
 refine zc ?_
 refine zc (zD (zl (zx (zx (zm ?_)))))
 refine za ?_
 refine yX (zD (zl ?_))
 refine yn (fun h2 => ?_) (fun h2 => ?_) <;> (try simp only [wN] at h2)
 ·skip
  rw [sealM_2 h1 h2]
  refine zx (zm ?_)
  refine z8 ?_
  refine za ?_
  refine zb 0 rfl rfl rfl rfl rfl rfl ?_
  refine zc (zD (zl (y1 (xi ?_))))
  refine FnQ.coe (AQ.retCT rfl rfl rfl (by repeat (exact List.Mem.head _)) (by (dsimp only [List.set, List.cons_append, List.nil_append, List.take, List.drop]; done)) (by rfl) ⟨_, List.nil_sublist _, .nil⟩ ⟨rfl, rfl⟩) zI (⟨rfl, rfl⟩)
 refine yN (zl (zx (zm ?_)))
 refine zG ?_
 refine wI (xl rfl Tryz.func23 rfl rfl rfl (rcencode_fn v)) ?_
 refine za ?_
 refine zW ?_
 refine zW ?_
 refine zc ?_
 refine zc (zD (zl (zx (zm ?_))))
 refine zG ?_
 refine za ?_
 refine zK ?_
 intro B5
 refine AO.g ?_
 refine wB 0 50 rfl rfl ⟨Nat.le_refl _, by unfold maxLen; omega⟩ ?_
 refine xF 50 ?_
 refine AO.u ?_
 dsimp only [List.eraseIdx]
 refine wI (xl rfl Tryz.func25 rfl rfl rfl hset) ?_
 refine zd ?_
 intro B6
 refine zb 0 rfl rfl rfl rfl rfl rfl (zD (zl (zx (zm ?_))))
 refine za ?_
 refine zn ?_
 refine zb 0 rfl rfl rfl rfl rfl rfl (zD (zl (zx (zx (zm ?_)))))
 refine zM ?_
 refine wI (xl rfl Tryz.func120 rfl rfl rfl (renc_fn (outS outer inner v key nonce aad))) ?_
 refine za ?_
 refine zW ?_
 refine zW ?_
 refine zc ?_
 refine zc (zD (zl (zx (zm ?_))))
 refine za ?_
 refine yX (zD (zl ?_))
 refine yn (fun h3 => ?_) (fun h3 => ?_) <;> (try simp only [wN] at h3)
 ·skip
  rw [sealM_3 h1 h2 h3]
  refine zx (zm ?_)
  refine z8 ?_
  refine zb 1 rfl rfl rfl rfl rfl rfl ?_
  refine zc (zD (zl (y1 (xi ?_))))
  refine FnQ.coe (xj rfl rfl rfl) zI (⟨rfl, rfl⟩)
 rw [sealM_4 h1 h2 h3]
 refine yN (zl (zx (zm ?_)))
 refine zM ?_
 refine zb 1 rfl rfl rfl rfl rfl rfl ?_
 refine zc (zD (zl (y1 ?_)))
 refine AQ.retCT rfl rfl rfl (by repeat (first | exact List.Mem.head _ | refine List.Mem.tail _ ?_)) (by (dsimp only [List.set, List.cons_append, List.nil_append, List.take, List.drop]; rfl)) rfl ⟨_, List.nil_sublist _, .nil⟩ (⟨rfl, rfl⟩)
/-! ### protect -/
def protR (m : Msg) (v : Cmp) (key nonce aad : List UInt8) : Msg × Int := if (splitR m).2.2 ≠ 0 then (Msg.none, (splitR m).2.2) else sealM (splitR m).2.1 (splitR m).1 v key nonce aad
theorem protR_1 {m : Msg} {v : Cmp} {key nonce aad : List UInt8} (h : (splitR m).2.2 ≠ 0) : protR m v key nonce aad = (Msg.none, (splitR m).2.2) := if_pos h
theorem protR_2 {m : Msg} {v : Cmp} {key nonce aad : List UInt8} (h : (splitR m).2.2 = 0) : protR m v key nonce aad = sealM (splitR m).2.1 (splitR m).1 v key nonce aad := if_neg (fun g => g h)
set_option maxHeartbeats 4000000 in
theorem protect_fn (c : Cx) (m : Msg) (v : Cmp) (nonce aad : List UInt8) (hv : (encC v).2 = 0) (ha : aad.length ≤ 1000000) :
  Sp Tryz.prog 61 [aggX c, aggM m, aggC v, roB nonce, roB aad] [] (Is (resM (protR m v c.sk nonce aad))) := by
 have ho := split_sm m
 have hpl := packR_len (splitR m).1
 obtain ⟨g1, g2, g3, g4⟩ := sm_seal (inner := m) (v := v) (key := c.sk) (nonce := nonce) (aad := aad) ho
 have hset : Sp Tryz.prog 118 [aggM (splitR m).2.1, .val (.int .i64 9), roB1 (encC v).1] [] (Is (aggM ⟨(splitR m).2.1.ty, (splitR m).2.1.code, (splitR m).2.1.id, (splitR m).2.1.tok, setO (splitR m).2.1.opts 9 [(encC v).1], (splitR m).2.1.pay⟩)) := oset_fn (splitR m).2.1 9 [(encC v).1] g1 g2 ho.2.2.1 (by simp) g3 g4
 refine yv Tryz.func61 _ Tryz.ntmps61 (fun w0 R0 => ?_)
 refine zx (zm ?_)
 refine ya ?_
 intro B1
 refine ya ?_
 intro B2
 refine ya ?_
 intro B3
 refine zd ?_
 intro B4
 refine zc (zD (zl (zx (zm ?_))))
 refine zG ?_
 refine wI (xl rfl Tryz.func114 rfl rfl rfl (split_fn m)) ?_
 refine za ?_
 refine zW ?_
 refine zW ?_
 refine zW ?_
 refine zd ?_
 intro B5
 refine zd ?_
 intro B6
 refine zb 1 rfl rfl rfl rfl rfl rfl ?_
 refine zb 0 rfl rfl rfl rfl rfl rfl ?_
 refine zc (zD (zl (zx (zx (zm ?_)))))
 refine za ?_
 refine yX (zD (zl ?_))
 refine yn (fun h0 => ?_) (fun h0 => ?_) <;> (try simp only [wN] at h0)
 ·skip
  rw [protR_1 h0]
  refine zx (zm ?_)
  refine z8 ?_
  refine za ?_
  refine zb 2 rfl rfl rfl rfl rfl rfl ?_
  refine zc (zD (zl (y1 (xi ?_))))
  refine FnQ.coe (xj rfl rfl rfl) zI (⟨rfl, rfl⟩)
 rw [protR_2 h0]
 refine yN (zl (zx (zm ?_)))
 refine zG ?_
 refine wI (xl rfl Tryz.func115 rfl rfl rfl (pack_fn (splitR m).1)) ?_
 refine za ?_
 refine zW ?_
 refine zW ?_
 refine zc ?_
 refine zc (zD (zl (zx (zx (zm ?_)))))
 refine za ?_
 refine yX (zD (zl ?_))
 refine yn (fun h1 => ?_) (fun h1 => ?_) <;> (try simp only [wN] at h1)
 ·skip
  rw [sealM_1 h1]
  refine zx (zm ?_)
  refine z8 ?_
  refine za ?_
  refine zb 2 rfl rfl rfl rfl rfl rfl ?_
  refine zc (zD (zl (y1 (xi ?_))))
  refine FnQ.coe (xj rfl rfl rfl) zI (⟨rfl, rfl⟩)
 refine yN (zl (zx (zm ?_)))
 refine zn ?_
 refine zp ?_
 refine za ?_
 refine za ?_
 refine za ?_
 refine wI (xl rfl Tryz.func116 rfl rfl rfl (seal_fn c.sk nonce aad (packR (splitR m).1).1 8 ha (by omega))) ?_
 refine za ?_
 refine zW ?_
 refine zW ?_
 refine zc ?_
 refine zc (zD (zl (zx (zx (zm ?_)))))
 refine za ?_
 refine yX (zD (zl ?_))
 refine yn (fun h2 => ?_) (fun h2 => ?_) <;> (try simp only [wN] at h2)
 ·skip
  rw [sealM_2 h1 h2]
  refine zx (zm ?_)
  refine z8 ?_
  refine za ?_
  refine zb 2 rfl rfl rfl rfl rfl rfl ?_
  refine zc (zD (zl (y1 (xi ?_))))
  refine FnQ.coe (xj rfl rfl rfl) zI (⟨rfl, rfl⟩)
 refine yN (zl (zx (zm ?_)))
 refine zG ?_
 refine wI (xl rfl Tryz.func117 rfl rfl rfl (cencode_fn v)) ?_
 refine za ?_
 refine zW ?_
 refine zW ?_
 refine zc ?_
 refine zc (zD (zl (zx (zx (zm ?_)))))
 refine za ?_
 refine wI (O.neq rfl rfl rfl (by exact bne_eq_false_iff_eq.2 (by omega))) (zD (zl ?_))
 refine yn (fun h3 => ?_) (fun h3 => ?_) <;> (try simp only [wN] at h3)
 ·skip
  exact absurd h3 (by simp)
 refine yN (zl (zx (zm ?_)))
 refine zM ?_
 refine za ?_
 refine zK ?_
 intro B7
 refine AO.g ?_
 refine wB 0 62 rfl rfl ⟨Nat.le_refl _, by unfold maxLen; omega⟩ ?_
 refine xF 62 ?_
 refine AO.u ?_
 dsimp only [List.eraseIdx]
 refine wI (xl rfl Tryz.func118 rfl rfl rfl hset) ?_
 refine zd ?_
 intro B8
 refine zb 0 rfl rfl rfl rfl rfl rfl (zD (zl (zx (zm ?_))))
 refine za ?_
 refine zn ?_
 refine zb 0 rfl rfl rfl rfl rfl rfl (zD (zl (zx (zx (zm ?_)))))
 refine zM ?_
 refine wI (xl rfl Tryz.func119 rfl rfl rfl (enc_fn (outS (splitR m).2.1 (splitR m).1 v c.sk nonce aad))) ?_
 refine za ?_
 refine zW ?_
 refine zW ?_
 refine zc (zD (zl (zx (zm ?_))))
 refine za ?_
 refine yX (zD (zl ?_))
 refine yn (fun h4 => ?_) (fun h4 => ?_) <;> (try simp only [wN] at h4)
 ·skip
  rw [sealM_3 h1 h2 h4]
  refine zx (zm ?_)
  refine z8 ?_
  refine zb 3 rfl rfl rfl rfl rfl rfl ?_
  refine zc (zD (zl (y1 (xi ?_))))
  refine FnQ.coe (xj rfl rfl rfl) zI (⟨rfl, rfl⟩)
 rw [sealM_4 h1 h2 h4]
 refine yN (zl (zx (zm ?_)))
 refine zM ?_
 refine zb 3 rfl rfl rfl rfl rfl rfl ?_
 refine zc (zD (zl (y1 ?_)))
 refine AQ.retCT rfl rfl rfl (by repeat (first | exact List.Mem.head _ | refine List.Mem.tail _ ?_)) (by (dsimp only [List.set, List.cons_append, List.nil_append, List.take, List.drop]; rfl)) rfl ⟨_, List.nil_sublist _, .nil⟩ (⟨rfl, rfl⟩)
end Go.Proofs.YtojomcdjcpmnkaaGreat.By

namespace Go.Proofs.YtojomcdjcpmnkaaGreat.By
open Go.RowKit L A
set_option linter.unusedVariables false
set_option maxRecDepth 20000
set_option linter.unusedSimpArgs false
attribute [local irreducible] AW AQ AO
theorem encC_ok {c : Cmp} (h : ValC c) : (encC c).2 = 0 := by
 unfold encC
 rw [if_neg (fun g => g h)]
 split <;> rfl
theorem aadR_len (kid : List UInt8) (piv : Int) : (aadR kid piv).1.length ≤ 1000 := by
 unfold aadR
 split
 ·simp
 rename_i h
 split
 ·simp
 have hpl := pivB_len piv
 have hxl := aadX_len (kid := kid) (pb := pivB piv) (by omega) hpl
 show (arrB [txtB encT, strB [], strB (aadX kid (pivB piv))]).length ≤ 1000
 have hsl : (strB (aadX kid (pivB piv))).length = 1 + (aadX kid (pivB piv)).length := by rw [strB, head_lt hxl, List.length_append]; rfl
 have h4 : (txtB encT).length = 9 := rfl
 have h5 : (strB []).length = 1 := rfl
 rw [arrB, head_lt (by show 3 < 24; omega), List.length_append]
 simp only [List.flatten_cons, List.flatten_nil, List.append_nil, List.length_append, List.length_cons, List.length_nil]
 omega
abbrev valQ (c : Cx) (piv : Int) : Cmp := ⟨piv, true, c.inp.snd, c.inp.has, c.inp.ctx, false⟩
theorem valQ_ok {c : Cx} {piv : Int} (h : CxOk c) (h2 : NumOk piv) : (encC (valQ c piv)).2 = 0 := by
 obtain ⟨⟨⟨h3, h4, h5, h6, h7⟩, h8, h9, h10⟩, -⟩ := h
 refine encC_ok ⟨⟨by show -1 ≤ piv; omega, by show piv ≤ _; omega, by show (c.inp.snd.length : Int) ≤ 7; omega, by show (c.inp.ctx.length : Int) ≤ 16; omega⟩, .inl rfl, ?_⟩
 rcases h7 with h7 | h7
 ·exact .inl h7
 exact .inr (by show (c.inp.ctx.length : Int) = 0; omega)
def reqP (c : Cx) (m : Msg) (piv : Int) : Msg × Int := protR m (valQ c piv) c.sk (nonceR c.com c.inp.snd piv).1 (aadR c.inp.snd piv).1
def reqR (c : Cx) (m : Msg) (piv : Int) : Msg × Bd × Int :=
 if ¬(CxOk c ∧ ReqC m.code) then (Msg.none, Bd.none, 1) else if ¬NumOk piv then (Msg.none, Bd.none, 8) else
 if (reqP c m piv).2 ≠ 0 then (Msg.none, Bd.none, (reqP c m piv).2) else ((reqP c m piv).1, ⟨c.inp.ctx, c.inp.snd, piv⟩, 0)
abbrev resQ (r : Msg × Bd × Int) : AV := .tup [aggM r.1, aggBd r.2.1, .val (.int .i64 r.2.2)]
theorem reqR_1 {c : Cx} {m : Msg} {piv : Int} (h : ¬(CxOk c ∧ ReqC m.code)) : reqR c m piv = (Msg.none, Bd.none, 1) := if_pos h
theorem reqR_2 {c : Cx} {m : Msg} {piv : Int} (h : CxOk c ∧ ReqC m.code) (h2 : ¬NumOk piv) : reqR c m piv = (Msg.none, Bd.none, 8) := (if_neg (fun g => g h)).trans (if_pos h2)
theorem reqR_3 {c : Cx} {m : Msg} {piv : Int} (h : CxOk c ∧ ReqC m.code) (h2 : NumOk piv) (h3 : (reqP c m piv).2 ≠ 0) : reqR c m piv = (Msg.none, Bd.none, (reqP c m piv).2) := (if_neg (fun g => g h)).trans ((if_neg (fun g => g h2)).trans (if_pos h3))
theorem reqR_4 {c : Cx} {m : Msg} {piv : Int} (h : CxOk c ∧ ReqC m.code) (h2 : NumOk piv) (h3 : (reqP c m piv).2 = 0) : reqR c m piv = ((reqP c m piv).1, ⟨c.inp.ctx, c.inp.snd, piv⟩, 0) := (if_neg (fun g => g h)).trans ((if_neg (fun g => g h2)).trans (if_neg (fun g => g h3)))
set_option maxHeartbeats 4000000 in
theorem orequest_fn (c : Cx) (m : Msg) (piv : Int) : Sp Tryz.prog 16 [aggX c, aggM m, .val (.int .i64 piv)] [] (Is (resQ (reqR c m piv))) := by
 refine yv Tryz.func16 _ Tryz.ntmps16 (fun w0 R0 => ?_)
 refine zx (zm ?_)
 refine ya ?_
 intro B1
 refine ya ?_
 intro B2
 refine zd ?_
 intro B3
 refine zd ?_
 intro B4
 refine zc (zD (zl (zx (zx (zm ?_)))))
 refine zG ?_
 refine wI (xl rfl Tryz.func27 rfl rfl rfl (ovalid_fn c)) ?_
 refine xu ?_
 refine za ?_
 refine zE ?_
 refine AO.opG rfl rfl rfl (fun hp => yy 20 rfl (by exact hp)) ?_
 refine AO.opG rfl rfl rfl (fun hp => wL 21 rfl (by exact hp) (xl rfl Tryz.func57 rfl rfl rfl (oreq_fn _))) ?_
 refine AO.opG rfl rfl rfl (fun hp => xX 22 rfl (by exact hp)) ?_
 refine zB (zD (zl ?_))
 refine yn (fun h1 => ?_) (fun h1 => ?_) <;> (try simp only [wN] at h1)
 ·skip
  rw [reqR_1 (fun g => by rcases h1 with h | h; exact h g.1; exact h g.2)]
  refine zx (zm ?_)
  refine z8 ?_
  refine z8 ?_
  refine zb 1 rfl rfl rfl rfl rfl rfl ?_
  refine zb 0 rfl rfl rfl rfl rfl rfl ?_
  refine zc (zD (zl (y1 (xi ?_))))
  refine FnQ.coe z9 zI (⟨rfl, rfl⟩)
 have h1' : CxOk c ∧ ReqC m.code := h1
 obtain ⟨⟨⟨k1, k2, k3, k4, k5⟩, k6, k7, k8⟩, k9, k10, k11⟩ := h1'.1
 refine yN (zl (zx (zx (zm ?_))))
 refine za ?_
 refine wI (xl rfl Tryz.func58 rfl rfl rfl (onum_fn _)) ?_
 refine xu (zD (zl ?_))
 refine yn (fun h2 => ?_) (fun h2 => ?_) <;> (try simp only [wN] at h2)
 ·skip
  rw [reqR_2 h1' h2]
  refine zx (zm ?_)
  refine z8 ?_
  refine z8 ?_
  refine zb 1 rfl rfl rfl rfl rfl rfl ?_
  refine zb 0 rfl rfl rfl rfl rfl rfl ?_
  refine zc (zD (zl (y1 (xi ?_))))
  refine FnQ.coe z9 zI (⟨rfl, rfl⟩)
 have h2' : NumOk piv := h2
 have hal := aadR_len c.inp.snd piv
 have hpr : Sp Tryz.prog 61 [aggX c, aggM m, aggC (valQ c piv), roB (nonceR c.com c.inp.snd piv).1, roB (aadR c.inp.snd piv).1] [] (Is (resM (reqP c m piv))) := protect_fn c m _ _ _ (valQ_ok h1'.1 h2') (by omega)
 refine yN (zl (zx (zm ?_)))
 refine zn ?_
 refine zp ?_
 refine zn ?_
 refine zn ?_
 refine zp ?_
 refine za ?_
 refine wI (xl rfl Tryz.func59 rfl rfl rfl (nonce_fn _ _ _ (by omega))) ?_
 refine za ?_
 refine zW ?_
 refine zW ?_
 refine zc ?_
 refine zc (zD (zl (zx (zm ?_))))
 refine zn ?_
 refine zn ?_
 refine zp ?_
 refine za ?_
 refine wI (xl rfl Tryz.func60 rfl rfl rfl (caad_fn _ _)) ?_
 refine za ?_
 refine zW ?_
 refine zW ?_
 refine zc ?_
 refine zc (zD (zl (zx (zm ?_))))
 refine za ?_
 refine zn ?_
 refine zn ?_
 refine zp ?_
 refine zn ?_
 refine zn ?_
 refine zp ?_
 refine zn ?_
 refine zn ?_
 refine zp ?_
 refine z8 ?_
 refine zd ?_
 intro B5
 refine zb 0 rfl rfl rfl rfl rfl rfl (zD (zl (zx (zm ?_))))
 refine zG ?_
 refine zG ?_
 refine zM ?_
 refine za ?_
 refine za ?_
 refine wI (xl rfl Tryz.func61 rfl rfl rfl hpr) ?_
 refine za ?_
 refine zW ?_
 refine zW ?_
 refine zd ?_
 intro B6
 refine zb 0 rfl rfl rfl rfl rfl rfl ?_
 refine zc (zD (zl (zx (zx (zm ?_)))))
 refine za ?_
 refine yX (zD (zl ?_))
 refine yn (fun h3 => ?_) (fun h3 => ?_) <;> (try simp only [wN] at h3)
 ·skip
  rw [reqR_3 h1' h2' h3]
  refine zx (zm ?_)
  refine z8 ?_
  refine z8 ?_
  refine za ?_
  refine zb 3 rfl rfl rfl rfl rfl rfl ?_
  refine zb 2 rfl rfl rfl rfl rfl rfl ?_
  refine zc (zD (zl (y1 (xi ?_))))
  refine FnQ.coe yr zI (⟨rfl, rfl⟩)
 rw [reqR_4 h1' h2' h3]
 refine yN (zl (zx ?_))
 refine AW.regionM [(0, false), (1, false), (2, false), (3, false), (4, false), (5, false), (6, false), (7, false), (8, false), (9, false), (10, false), (11, true), (12, true), (13, false)] (by kernel_rfl) (by kernel_rfl) (by exact (by exact splitBlk 6 3 rfl rfl (by exact splitBlk 7 2 rfl rfl splitNil))) ?_
 dsimp only [List.eraseIdx]
 refine yF ?_
 refine xP ?_
 refine xP ?_
 refine wM rfl (zk rfl rfl) ?_
 refine wM rfl (xl rfl Tryz.func62 rfl rfl rfl (ocopied_fn _ (by omega))) ?_
 refine xP ?_
 refine xP ?_
 refine wM rfl (zk rfl rfl) ?_
 refine wM rfl (xl rfl Tryz.func62 rfl rfl rfl (ocopied_fn _ (by omega))) ?_
 refine xo ?_
 refine wM rfl (y4 rfl rfl rfl) ?_
 refine wk _ (fun w0 R0 => ?_)
 refine zb 0 rfl rfl rfl rfl rfl rfl (AM.okN ?_)
 dsimp only [putE]
 refine wk _ (fun w0 R0 => ?_)
 refine zb 1 rfl rfl rfl rfl rfl rfl (AM.okN ?_)
 dsimp only [putE]
 refine wM rfl zh ?_
 refine AM.nil ?_
 dsimp only [List.cons_append, List.nil_append]
 refine zl (y1 ?_)
 refine FnQ.coe zL xw (⟨rfl, rfl⟩)
theorem rq_dec (n : Int) : rq n = decide (ReqC n) := by unfold rq; rw [Bool.eq_iff_iff]; simp
set_option maxHeartbeats 4000000 in
theorem rrequest_fn (c : Cx) (m : Msg) (piv : Int) (hrq : Sp Tryz.prog 63 [.val (.int .i64 m.code)] [] (Is (.val (.bool (decide (ReqC m.code)))))) : Sp Tryz.prog 17 [aggX c, aggM m, .val (.int .i64 piv)] [] (Is (resQ (reqR c m piv))) := by
 refine yv Tryz.func17 _ Tryz.ntmps17 (fun w0 R0 => ?_)
 refine zx (zm ?_)
 refine ya ?_
 intro B1
 refine ya ?_
 intro B2
 refine zd ?_
 intro B3
 refine zd ?_
 intro B4
 refine zc (zD (zl (zx (zx (zm ?_)))))
 refine zG ?_
 refine wI (xl rfl Tryz.func28 rfl rfl rfl (rovalid_fn c)) ?_
 refine xu ?_
 refine za ?_
 refine zE ?_
 refine AO.opG rfl rfl rfl (fun hp => yy 21 rfl (by exact hp)) ?_
 refine AO.opG rfl rfl rfl (fun hp => wL 22 rfl (by exact hp) (xl rfl Tryz.func63 rfl rfl rfl hrq)) ?_
 refine AO.opG rfl rfl rfl (fun hp => xX 23 rfl (by exact hp)) ?_
 refine zB (zD (zl ?_))
 refine yn (fun h1 => ?_) (fun h1 => ?_) <;> (try simp only [wN] at h1)
 ·skip
  rw [reqR_1 (fun g => by rcases h1 with h | h; exact h g.1; exact h g.2)]
  refine zx (zm ?_)
  refine z8 ?_
  refine z8 ?_
  refine zb 1 rfl rfl rfl rfl rfl rfl ?_
  refine zb 0 rfl rfl rfl rfl rfl rfl ?_
  refine zc (zD (zl (y1 (xi ?_))))
  refine FnQ.coe z9 zI (⟨rfl, rfl⟩)
 have h1' : CxOk c ∧ ReqC m.code := h1
 obtain ⟨⟨⟨k1, k2, k3, k4, k5⟩, k6, k7, k8⟩, k9, k10, k11⟩ := h1'.1
 refine yN (zl (zx (zx (zm ?_))))
 refine za ?_
 refine wI (xl rfl Tryz.func64 rfl rfl rfl (rbad_fn _)) (zD (zl ?_))
 refine yn (fun h2 => ?_) (fun h2 => ?_) <;> (try simp only [wN] at h2)
 ·skip
  rw [reqR_2 h1' h2]
  refine zx (zm ?_)
  refine z8 ?_
  refine z8 ?_
  refine zb 1 rfl rfl rfl rfl rfl rfl ?_
  refine zb 0 rfl rfl rfl rfl rfl rfl ?_
  refine zc (zD (zl (y1 (xi ?_))))
  refine FnQ.coe z9 zI (⟨rfl, rfl⟩)
 have h2' : NumOk piv := by exact h2
 have hal := aadR_len c.inp.snd piv
 refine yN (zl (zx (zm ?_)))
 refine zG ?_
 refine wI (xl rfl Tryz.func65 rfl rfl rfl (rsplit_fn m)) ?_
 refine za ?_
 refine zW ?_
 refine zW ?_
 refine zW ?_
 refine zd ?_
 intro B5
 refine zd ?_
 intro B6
 refine zb 1 rfl rfl rfl rfl rfl rfl ?_
 refine zb 0 rfl rfl rfl rfl rfl rfl ?_
 refine zc (zD (zl (zx (zx (zm ?_)))))
 refine za ?_
 refine yX (zD (zl ?_))
 refine yn (fun h0 => ?_) (fun h0 => ?_) <;> (try simp only [wN] at h0)
 ·skip
  have e : reqP c m piv = (Msg.none, (splitR m).2.2) := protR_1 h0
  rw [reqR_3 h1' h2' (by rw [e]; exact h0), e]
  refine zx (zm ?_)
  refine z8 ?_
  refine z8 ?_
  refine za ?_
  refine zb 3 rfl rfl rfl rfl rfl rfl ?_
  refine zb 2 rfl rfl rfl rfl rfl rfl ?_
  refine zc (zD (zl (y1 (xi ?_))))
  refine FnQ.coe yr zI (⟨rfl, rfl⟩)
 have e : reqP c m piv = sealM (splitR m).2.1 (splitR m).1 (valQ c piv) c.sk (nonceR c.com c.inp.snd piv).1 (aadR c.inp.snd piv).1 := protR_2 h0
 have hsl : Sp Tryz.prog 68 [aggM (splitR m).2.1, aggM (splitR m).1, aggC (valQ c piv), roB c.sk, roB (nonceR c.com c.inp.snd piv).1, roB (aadR c.inp.snd piv).1] [] (Is (resM (reqP c m piv))) := by
  rw [e]; exact sealed_fn _ _ _ _ _ _ (split_sm m) (by omega)
 refine yN (zl (zx (zm ?_)))
 refine zn ?_
 refine zp ?_
 refine zn ?_
 refine zn ?_
 refine zp ?_
 refine za ?_
 refine wI (xl rfl Tryz.func66 rfl rfl rfl (rnonce_fn _ _ _ (by omega))) ?_
 refine za ?_
 refine zW ?_
 refine zW ?_
 refine zc ?_
 refine zc (zD (zl (zx (zm ?_))))
 refine zn ?_
 refine zn ?_
 refine zp ?_
 refine za ?_
 refine wI (xl rfl Tryz.func67 rfl rfl rfl (raad_fn _ _)) ?_
 refine za ?_
 refine zW ?_
 refine zW ?_
 refine zc ?_
 refine zc (zD (zl (zx (zm ?_))))
 refine zM ?_
 refine zG ?_
 refine za ?_
 refine zn ?_
 refine zn ?_
 refine zp ?_
 refine zn ?_
 refine zn ?_
 refine zp ?_
 refine zn ?_
 refine zn ?_
 refine zp ?_
 refine z8 ?_
 refine zn ?_
 refine zp ?_
 refine za ?_
 refine za ?_
 refine wI (xl rfl Tryz.func68 rfl rfl rfl hsl) ?_
 refine za ?_
 refine zW ?_
 refine zW ?_
 refine zd ?_
 intro B7
 refine zb 0 rfl rfl rfl rfl rfl rfl ?_
 refine zc (zD (zl (zx (zx (zm ?_)))))
 refine za ?_
 refine yX (zD (zl ?_))
 refine yn (fun h3 => ?_) (fun h3 => ?_) <;> (try simp only [wN] at h3)
 ·skip
  rw [reqR_3 h1' h2' h3]
  refine zx (zm ?_)
  refine z8 ?_
  refine z8 ?_
  refine za ?_
  refine zb 4 rfl rfl rfl rfl rfl rfl ?_
  refine zb 3 rfl rfl rfl rfl rfl rfl ?_
  refine zc (zD (zl (y1 (xi ?_))))
  refine FnQ.coe yr zI (⟨rfl, rfl⟩)
 rw [reqR_4 h1' h2' h3]
 refine yN (zl (zx ?_))
 refine AW.regionM [(0, false), (1, false), (2, false), (3, false), (4, false), (5, false), (6, false), (7, false), (8, false), (9, false), (10, false), (11, true), (12, true), (13, false)] (by kernel_rfl) (by kernel_rfl) (by exact (by exact splitBlk 6 4 rfl rfl (by exact splitBlk 7 3 rfl rfl splitNil))) ?_
 dsimp only [List.eraseIdx]
 refine yF ?_
 refine xP ?_
 refine xP ?_
 refine wM rfl (zk rfl rfl) ?_
 refine wM rfl (xl rfl Tryz.func69 rfl rfl rfl (copy26_fn _ (by omega))) ?_
 refine xP ?_
 refine xP ?_
 refine wM rfl (zk rfl rfl) ?_
 refine wM rfl (xl rfl Tryz.func69 rfl rfl rfl (copy26_fn _ (by omega))) ?_
 refine xo ?_
 refine wM rfl (y4 rfl rfl rfl) ?_
 refine wk _ (fun w0 R0 => ?_)
 refine zb 0 rfl rfl rfl rfl rfl rfl (AM.okN ?_)
 dsimp only [putE]
 refine wk _ (fun w0 R0 => ?_)
 refine zb 1 rfl rfl rfl rfl rfl rfl (AM.okN ?_)
 dsimp only [putE]
 refine wM rfl zh ?_
 refine AM.nil ?_
 dsimp only [List.cons_append, List.nil_append]
 refine zl (y1 ?_)
 refine FnQ.coe zL xw (⟨rfl, rfl⟩)
end Go.Proofs.YtojomcdjcpmnkaaGreat.By

namespace Go.Proofs.YtojomcdjcpmnkaaGreat.By
open Go.RowKit L A
set_option linter.unusedVariables false
set_option maxRecDepth 20000
def oxK : List UInt8 := [240, 145, 14, 215, 41, 94, 106, 212, 181, 79, 199, 147, 21, 67, 2, 255]
def oxN : List UInt8 := [70, 34, 212, 221, 109, 148, 65, 104, 238, 251, 84, 152, 104]
def oxA : List UInt8 := [131, 104, 69, 110, 99, 114, 121, 112, 116, 48, 64, 72, 133, 1, 129, 10, 64, 65, 20, 64]
def oxP : List UInt8 := [1, 179, 116, 118, 49]
def oxW : List UInt8 := [240, 145, 14, 215, 41, 94, 106, 212, 181, 79, 199, 147, 21, 67, 2, 255, 235, 230, 24, 142, 194, 184, 114, 90, 119, 247, 181, 201, 98, 180, 183, 54, 100, 79, 29, 36, 166, 247, 111, 126, 209, 0, 218, 183, 179, 180, 109, 129, 237, 115, 17, 73, 75, 132, 126, 55, 154, 132, 164, 128, 41, 48, 201, 1, 225, 174, 109, 236, 170, 42, 19, 219, 48, 174, 183, 91, 25, 158, 126, 90, 250, 93, 211, 56, 80, 119, 192, 227, 96, 217, 119, 184, 121, 71, 9, 226, 122, 92, 75, 142, 42, 43, 139, 109, 74, 242, 252, 213, 51, 181, 245, 55, 239, 186, 209, 77, 197, 145, 90, 32, 143, 99, 166, 245, 188, 214, 83, 194, 153, 87, 244, 40, 92, 198, 174, 8, 211, 165, 8, 253, 111, 115, 91, 63, 13, 110, 129, 128, 81, 168, 47, 136, 130, 13, 39, 117, 237, 126, 124, 74, 200, 126, 87, 213, 153, 214, 120, 93, 27, 219, 95, 40, 246, 165, 35, 98]
def oxA1 : List (List UInt8) := [[241, 215, 44, 3, 244, 51, 254, 149, 221, 161, 60, 199, 141, 43, 2, 254], [188, 71, 97, 51, 253, 129, 156, 51, 189, 118, 25, 69, 183, 229, 216, 243], [99, 88, 208, 73, 228, 179, 159, 70, 121, 58, 226, 146, 177, 81, 113, 195], [1, 207, 222, 246, 154, 51, 135, 217, 175, 65, 205, 84, 136, 21, 23, 109], [198, 175, 247, 110, 237, 198, 21, 255, 1, 119, 242, 254, 56, 76, 126, 208], [183, 106, 74, 34, 146, 66, 39, 63, 157, 89, 200, 81, 30, 226, 19, 166], [139, 170, 105, 226, 28, 253, 91, 55, 230, 147, 18, 147, 204, 93, 110, 214], [86, 153, 48, 96, 158, 140, 140, 247, 63, 255, 56, 230, 32, 73, 185, 41], [238, 130, 219, 210, 246, 203, 116, 238, 24, 194, 246, 141, 217, 33, 67, 112], [111, 239, 193, 7, 21, 59, 184, 0, 78, 185, 102, 141, 125, 157, 130, 46], [96, 156, 100, 228, 192, 128, 107, 152, 52, 133, 39, 75, 9, 122, 79, 63]]
def oxA0 : List (List UInt8) := [[241, 215, 44, 3, 244, 51, 254, 149, 221, 161, 60, 199, 141, 43, 2, 255], [17, 234, 141, 114, 253, 129, 156, 51, 189, 118, 25, 69, 183, 229, 216, 243], [182, 191, 55, 123, 103, 48, 1, 91, 203, 247, 157, 32, 216, 31, 86, 228], [74, 190, 92, 19, 114, 56, 137, 56, 92, 140, 31, 137, 56, 114, 154, 163], [149, 39, 57, 94, 67, 12, 219, 61, 41, 189, 32, 129, 254, 139, 112, 15], [118, 36, 232, 227, 227, 50, 234, 86, 67, 23, 162, 45, 238, 163, 3, 89], [158, 167, 98, 82, 105, 93, 175, 247, 74, 251, 9, 19, 102, 187, 141, 85], [208, 214, 139, 254, 96, 145, 22, 98, 223, 247, 109, 4, 58, 171, 73, 72], [143, 40, 139, 161, 223, 48, 182, 93, 197, 18, 107, 84, 192, 63, 174, 234], [31, 19, 154, 123, 224, 186, 253, 120, 59, 74, 90, 84, 176, 94, 14, 165], [8, 138, 233, 211, 120, 0, 211, 124, 249, 131, 231, 148, 17, 216, 119, 66]]
def oxB0 : List (List UInt8) := [[169, 215, 44, 3, 244, 51, 254, 149, 221, 161, 60, 199, 141, 43, 2, 250], [206, 163, 178, 146, 253, 129, 156, 51, 189, 118, 25, 69, 183, 229, 216, 243], [164, 182, 62, 96, 104, 63, 16, 69, 161, 73, 73, 74, 84, 30, 219, 105], [34, 100, 75, 53, 229, 183, 2, 193, 180, 241, 41, 202, 167, 31, 73, 82], [153, 128, 6, 78, 86, 113, 188, 6, 161, 14, 15, 84, 103, 169, 19, 98], [31, 222, 151, 139, 157, 35, 81, 163, 106, 136, 249, 140, 97, 204, 235, 158], [25, 107, 153, 124, 21, 251, 159, 216, 17, 239, 160, 4, 100, 108, 18, 25], [121, 159, 182, 118, 212, 61, 101, 253, 239, 9, 16, 20, 146, 239, 207, 92], [7, 160, 52, 144, 125, 49, 160, 43, 22, 89, 104, 190, 48, 188, 64, 151], [3, 121, 138, 93, 155, 161, 169, 144, 74, 89, 61, 56, 144, 52, 170, 1], [179, 76, 112, 169, 141, 29, 212, 17, 205, 195, 33, 72, 150, 19, 240, 101]]
def oxS2 : List (List UInt8) := [[67, 201, 253, 22, 225, 45, 221, 183, 1, 252, 146, 235, 195, 24, 119, 155], [247, 146, 120, 31, 80, 120, 2, 130, 158, 159, 44, 253, 106, 138, 253, 145], [155, 86, 179, 72, 226, 53, 20, 159, 234, 59, 249, 78, 69, 229, 50, 23], [13, 16, 177, 129, 44, 244, 180, 225, 73, 198, 86, 11, 232, 29, 136, 166], [27, 240, 16, 200, 71, 115, 81, 32, 129, 125, 176, 145, 215, 45, 83, 253], [134, 145, 218, 18, 20, 246, 125, 193, 118, 140, 238, 203, 186, 163, 170, 180], [145, 105, 145, 41, 12, 63, 22, 57, 11, 95, 232, 48, 184, 93, 68, 112], [163, 54, 251, 153, 214, 98, 169, 188, 158, 90, 238, 97, 55, 158, 68, 192], [250, 208, 209, 219, 135, 148, 249, 107, 178, 204, 185, 46, 115, 98, 83, 153], [137, 19, 11, 68, 246, 188, 98, 126, 72, 72, 71, 70, 208, 144, 249, 75], [111, 27, 247, 102, 219, 132, 225, 70, 73, 187, 116, 219, 134, 216, 137, 56]]
def oxS3 : List (List UInt8) := [[30, 128, 185, 240, 230, 154, 139, 146, 252, 244, 179, 72, 147, 155, 139, 199], [119, 142, 89, 90, 174, 152, 182, 82, 41, 218, 108, 222, 226, 252, 42, 29], [171, 98, 249, 101, 215, 55, 212, 156, 128, 152, 66, 56, 224, 209, 87, 95], [127, 133, 251, 220, 139, 166, 87, 162, 30, 91, 7, 204, 90, 65, 27, 213], [244, 99, 15, 102, 178, 9, 195, 29, 127, 234, 22, 53, 204, 179, 60, 217], [238, 28, 188, 206, 116, 64, 232, 176, 186, 239, 211, 157, 65, 5, 68, 221], [150, 13, 254, 0, 255, 186, 118, 9, 134, 152, 155, 9, 84, 253, 37, 18], [14, 44, 221, 143, 127, 41, 209, 165, 65, 88, 216, 212, 167, 10, 215, 79], [197, 138, 175, 25, 32, 161, 159, 231, 160, 182, 127, 201, 50, 199, 210, 4], [44, 51, 167, 110, 151, 147, 192, 2, 229, 101, 84, 194, 47, 10, 240, 43], [185, 162, 119, 36, 17, 155, 244, 194, 194, 188, 3, 95, 227, 102, 153, 71]]
def oxS4 : List (List UInt8) := [[72, 128, 13, 133, 9, 197, 158, 22, 119, 243, 196, 204, 246, 37, 155, 184], [206, 171, 96, 26, 84, 8, 244, 117, 87, 89, 3, 171, 234, 33, 243, 160], [162, 201, 107, 50, 15, 239, 99, 135, 54, 76, 123, 86, 221, 79, 75, 10], [165, 232, 31, 55, 76, 77, 57, 113, 111, 4, 226, 90, 134, 247, 240, 6], [36, 169, 18, 67, 227, 233, 126, 241, 160, 46, 18, 77, 139, 127, 92, 120], [193, 171, 173, 214, 113, 192, 90, 159, 190, 103, 52, 193, 125, 42, 36, 88], [45, 9, 7, 112, 35, 53, 192, 215, 119, 242, 240, 225, 182, 47, 135, 1], [21, 166, 24, 220, 79, 214, 40, 118, 138, 230, 197, 61, 97, 183, 96, 64], [133, 1, 23, 129, 144, 168, 142, 214, 90, 70, 214, 11, 213, 175, 145, 75], [32, 212, 237, 107, 242, 232, 24, 235, 104, 188, 26, 210, 93, 133, 76, 124], [127, 229, 245, 197, 16, 179, 81, 34, 94, 76, 10, 193, 186, 237, 142, 215]]
def oxOut : List UInt8 := [97, 47, 16, 146, 241, 119, 111, 28, 22, 104, 179, 130, 94]
theorem ox_w : ∀ q, q < 176 → wK oxK q = oxW.getD q 0 := wS_lit (by decide +kernel) (by decide +kernel)
theorem ox_enc {f : Nat → UInt8} {ST : List (List UInt8)} (h0 : ∀ q, q < 16 → f q ^^^ oxW.getD q 0 = kf (ST.getD 0 []) q) (h : ∀ j, j < 10 → ∀ q, q < 16 → eStep oxW (ST.getD j []) j q = kf (ST.getD (j + 1) []) q) : ∀ q, q < 16 → enc (wK oxK) f q = kf (ST.getD 10 []) q :=
 enc_lit ox_w h0 h 10 (Nat.le_refl _)
theorem ox_abs {x : Nat → UInt8} {l X : List UInt8} {ST : List (List UInt8)} (hx : ∀ q, q < 16 → x q = kf X q) (hl : l ≠ []) (h0 : ∀ q, q < 16 → (kf X q ^^^ kf l q) ^^^ oxW.getD q 0 = kf (ST.getD 0 []) q) (h : ∀ j, j < 10 → ∀ q, q < 16 → eStep oxW (ST.getD j []) j q = kf (ST.getD (j + 1) []) q) :
  ∀ q, q < 16 → absorb (wK oxK) x l q = absorb (wK oxK) (kf (ST.getD 10 [])) (l.drop 16) q := fun q hq => by
 rw [absorb_cons hl]
 exact absorb_congr _ _ _ _ (Nat.le_refl _) (ox_enc (f := fun q => x q ^^^ kf l q) (fun q hq => by rw [hx q hq]; exact h0 q hq) h) q hq
def oxB : List UInt8 := fnB 16 (blkF (fstB oxA oxN 8) oxN oxP.length)
theorem ox_m1 : ∀ q, q < 16 → absorb (wK oxK) (fun _ => 0) oxB q = kf (oxB0.getD 10 []) q := fun q hq => by
 rw [ox_abs (x := fun _ => 0) (X := []) (ST := oxB0) (fun q _ => rfl) (by decide +kernel) (by decide +kernel) (by decide +kernel) q hq, show oxB.drop 16 = [] by decide +kernel, absorb_nil]
theorem ox_m2 : ∀ q, q < 16 → absorb (wK oxK) (absorb (wK oxK) (fun _ => 0) oxB) (headA oxA) q = kf (oxS3.getD 10 []) q := fun q hq => by
 rw [ox_abs (X := oxB0.getD 10 []) (ST := oxS2) ox_m1 (by decide +kernel) (by decide +kernel) (by decide +kernel) q hq]
 rw [ox_abs (X := oxS2.getD 10 []) (l := (headA oxA).drop 16) (ST := oxS3) (fun q _ => rfl) (by decide +kernel) (by decide +kernel) (by decide +kernel) q hq, show ((headA oxA).drop 16).drop 16 = [] by decide +kernel, absorb_nil]
theorem ox_m3 : ∀ q, q < 16 → absorb (wK oxK) (absorb (wK oxK) (absorb (wK oxK) (fun _ => 0) oxB) (headA oxA)) oxP q = kf (oxS4.getD 10 []) q := fun q hq => by
 rw [ox_abs (X := oxS3.getD 10 []) (ST := oxS4) ox_m2 (by decide +kernel) (by decide +kernel) (by decide +kernel) q hq, show oxP.drop 16 = [] by decide +kernel, absorb_nil]
theorem ox_mac : ∀ q, q < 16 → macF (wK oxK) oxN oxA oxP 8 q = kf (oxS4.getD 10 []) q := fun q hq => by
 rw [macF, if_neg (by decide)]; exact ox_m3 q hq
theorem ox_tag : ∀ q, q < 16 → tagF (wK oxK) oxN (macF (wK oxK) oxN oxA oxP 8) q = kf (oxS4.getD 10 []) q ^^^ kf (oxA0.getD 10 []) q := fun q hq => by
 rw [tagF, ox_mac q hq, ox_enc (ST := oxA0) (by decide +kernel) (by decide +kernel) q hq]
theorem ox_str : ∀ q, q < 5 → strF (wK oxK) oxN oxP q = kf oxP q ^^^ kf (oxA1.getD 10 []) q := fun q hq => by
 rw [strF, show q / 16 = 0 by omega, show q % 16 = q by omega, ox_enc (ST := oxA1) (by decide +kernel) (by decide +kernel) q (by omega)]
theorem ox_seal : sealL oxK oxN oxA oxP 8 = oxOut := by
 rw [(seal_good (by decide +kernel) (by decide +kernel)).1]
 rw [show oxP.length = 5 from rfl, fnB_congr ox_str, show (8 : Int).toNat = 8 from rfl, fnB_congr fun q hq => ox_tag q (by omega)]
 decide +kernel
theorem ox_err : sealE oxK oxN oxA oxP 8 = 0 := (seal_good (by decide +kernel) (by decide +kernel)).2
end Go.Proofs.YtojomcdjcpmnkaaGreat.By

namespace Go.Proofs.YtojomcdjcpmnkaaGreat.By
open Go.RowKit L A
set_option linter.unusedVariables false
set_option maxRecDepth 20000
set_option linter.unusedSimpArgs false
attribute [local irreducible] AW AQ AO
def oexI : Inp := ⟨exSecret, exSalt, false, [], [], [1]⟩
def oexR : List UInt8 := [0xff, 0xb1, 0x4e, 0x09, 0x3c, 0x94, 0xc9, 0xca, 0xc9, 0x47, 0x16, 0x48, 0xb4, 0xf9, 0x87, 0x10]
def oexV : List UInt8 := [0x46, 0x22, 0xd4, 0xdd, 0x6d, 0x94, 0x41, 0x68, 0xee, 0xfb, 0x54, 0x98, 0x7c]
def oexC : Cx := ⟨oexI, oxK, oexR, oexV⟩
theorem oexI_ok : InpOk oexI := of_decide_eq_true rfl
theorem oex_der : derR oexI = (oexC, 0) := by
 rw [derR, if_pos oexI_ok]
 have e1 : infoB oexI.snd oexI.ctx oexI.has keyT 16 = [0x85, 0x40, 0xf6, 0x0a, 0x63, 0x4b, 0x65, 0x79, 0x10] := by decide +kernel
 have e2 : infoB oexI.rcp oexI.ctx oexI.has keyT 16 = [0x85, 0x41, 0x01, 0xf6, 0x0a, 0x63, 0x4b, 0x65, 0x79, 0x10] := by decide +kernel
 have e3 : infoB [] oexI.ctx oexI.has ivT 13 = [0x85, 0x40, 0xf6, 0x0a, 0x62, 0x49, 0x56, 0x0d] := by decide +kernel
 have e0 : hmac oexI.salt oexI.sec = exPrk := ex_prk
 unfold derX
 rw [e0, e1, e2, e3, ex_key, ex_rkey, ex_iv]
 rfl
def oexM : Msg := ⟨0, 1, 23839, [0, 0, 57, 116], [⟨3, [108, 111, 99, 97, 108, 104, 111, 115, 116]⟩, ⟨11, [116, 118, 49]⟩], []⟩
def oexO : Msg := ⟨0, 2, 23839, [0, 0, 57, 116], [⟨3, [108, 111, 99, 97, 108, 104, 111, 115, 116]⟩, ⟨9, [9, 20]⟩], oxOut⟩
theorem oexM_val : ValM oexM := of_decide_eq_true (by decide +kernel)
theorem oexO_val : ValM oexO := of_decide_eq_true (by decide +kernel)
theorem oex_split : splitR oexM = (⟨0, 1, 0, [], [⟨11, [116, 118, 49]⟩], []⟩, ⟨0, 2, 23839, [0, 0, 57, 116], [⟨3, [108, 111, 99, 97, 108, 104, 111, 115, 116]⟩], []⟩, 0) := by
 rw [splitR, if_pos ⟨oexM_val, .inl (by decide +kernel)⟩, if_neg (by decide +kernel)]
 decide +kernel
theorem oex_pack : packR ⟨0, 1, 0, [], [⟨11, [116, 118, 49]⟩], []⟩ = (oxP, 0) := by decide +kernel
theorem oex_nonce : (nonceR oexC.com oexC.inp.snd 20).1 = oxN := by decide +kernel
theorem oex_aad : (aadR oexC.inp.snd 20).1 = oxA := by decide +kernel
theorem oex_enc : (encC (valQ oexC 20)).1 = [9, 20] := by decide +kernel
theorem oex_reqP : reqP oexC oexM 20 = (oexO, 0) := by
 have e : outS ⟨0, 2, 23839, [0, 0, 57, 116], [⟨3, [108, 111, 99, 97, 108, 104, 111, 115, 116]⟩], []⟩ ⟨0, 1, 0, [], [⟨11, [116, 118, 49]⟩], []⟩ (valQ oexC 20) oexC.sk (nonceR oexC.com oexC.inp.snd 20).1 (aadR oexC.inp.snd 20).1 = oexO := by
  unfold outS
  rw [oex_pack, oex_nonce, oex_aad, oex_enc, show oexC.sk = oxK from rfl, ox_seal]
  decide +kernel
 unfold reqP
 rw [protR_2 (by rw [oex_split]), oex_split]
 rw [sealM_4 (by rw [oex_pack]) (by rw [oex_pack, oex_nonce, oex_aad]; exact ox_err) (by rw [e, encR, if_pos oexO_val])]
 rw [e]
theorem oex_req : reqR oexC oexM 20 = (oexO, ⟨[], [], 20⟩, 0) := by
 have hok : CxOk oexC := of_decide_eq_true (by decide +kernel)
 rw [reqR_4 ⟨hok, by decide⟩ (by decide) (by rw [oex_reqP]), oex_reqP]
 rfl
set_option maxHeartbeats 4000000 in
theorem awake31_fn : Sp Tryz.prog 10 [] [] (Is (.val (.bool true))) := by
 have hder := derive_fn oexI
 rw [oex_der] at hder
 have hreq : Sp Tryz.prog 16 [aggX oexC, aggM oexM, .val (.int .i64 20)] [] (Is (.tup [aggM oexO, aggBd ⟨[], [], 20⟩, .val (.int .i64 0)])) := by
  have h := orequest_fn oexC oexM 20
  rw [oex_req] at h
  exact h
 have hpl : oexO.pay.length = 13 := rfl
 have hcd : oexO.code = 2 := rfl
 refine yv Tryz.func10 _ Tryz.ntmps10 (fun w0 R0 => ?_)
 refine zx (zm ?_)
 refine zc (zD (zl (zx (zm ?_))))
 refine yD ?_
 intro B1
 refine AO.g ?_
 refine wB 0 7 rfl rfl ⟨Nat.le_refl _, by unfold maxLen; omega⟩ ?_
 refine xF 7 ?_
 refine AO.u ?_
 dsimp only [List.eraseIdx]
 refine yD ?_
 intro B2
 refine AO.g ?_
 refine wB 0 8 rfl rfl ⟨Nat.le_refl _, by unfold maxLen; omega⟩ ?_
 refine xF 8 ?_
 refine AO.u ?_
 dsimp only [List.eraseIdx]
 refine zK ?_
 intro B3
 refine AO.g ?_
 refine wB 0 9 rfl rfl ⟨Nat.le_refl _, by unfold maxLen; omega⟩ ?_
 refine xF 9 ?_
 refine AO.u ?_
 dsimp only [List.eraseIdx]
 refine z8 ?_
 refine wI (we rfl Tryz.func54 rfl rfl rfl hder) ?_
 refine za ?_
 refine zW ?_
 refine zW ?_
 refine zd ?_
 intro B4
 refine yp 0 rfl rfl rfl rfl rfl rfl ?_
 refine zc (zD (zl (zx (zm ?_))))
 refine wI (O.loadK rfl rfl (by repeat (exact List.Mem.head _)) (by (dsimp only [List.set, List.append, List.cons_append, List.nil_append, AV.cells, splice, List.take, List.drop, Nat.reduceAdd]; done)) (by rfl)) ?_
 refine yD ?_
 intro B5
 refine AO.g ?_
 refine wB 0 16 rfl rfl ⟨Nat.le_refl _, by unfold maxLen; omega⟩ ?_
 refine xF 16 ?_
 refine AO.u ?_
 dsimp only [List.eraseIdx]
 refine yD ?_
 intro B6
 refine AO.constBytes (i := 0) (l := [108, 111, 99, 97, 108, 104, 111, 115, 116]) rfl rfl rfl (Nat.le_of_ble_eq_true rfl) rfl rfl (by rfl) (by rfl) ⟨Nat.le_refl _, by unfold maxLen; omega⟩ ?_
 dsimp only [List.eraseIdx]
 refine z8 ?_
 refine yD ?_
 intro B7
 refine AO.constBytes (i := 0) (l := [116, 118, 49]) rfl rfl rfl (Nat.le_of_ble_eq_true rfl) rfl rfl (by rfl) (by rfl) ⟨Nat.le_refl _, by unfold maxLen; omega⟩ ?_
 dsimp only [List.eraseIdx]
 refine z8 ?_
 refine yD ?_
 intro B8
 refine AO.g ?_
 refine wB 0 23 rfl rfl ⟨Nat.le_refl _, by unfold maxLen; omega⟩ ?_
 refine xF 23 ?_
 refine AO.u ?_
 dsimp only [List.eraseIdx]
 refine z8 ?_
 refine wI (we rfl Tryz.func16 rfl rfl rfl hreq) ?_
 refine za ?_
 refine zW ?_
 refine zW ?_
 refine zW ?_
 refine zd ?_
 intro B9
 refine zd ?_
 intro B10
 refine yp 1 rfl rfl rfl rfl rfl rfl ?_
 refine yp 0 rfl rfl rfl rfl rfl rfl ?_
 refine zc (zD (zl (zx (zm ?_))))
 refine za ?_
 refine wI (O.eql rfl rfl rfl (by exact beq_iff_eq.2 (by omega))) ?_
 refine za ?_
 refine zn ?_
 refine zo ?_
 refine wI (O.eql rfl rfl rfl (by exact beq_iff_eq.2 (by omega))) ?_
 refine wI (O.pickT rfl rfl rfl) ?_
 refine za ?_
 refine zn ?_
 refine zp ?_
 refine zZ ?_
 refine wI (O.eql rfl rfl rfl (by exact beq_iff_eq.2 (by omega))) ?_
 refine wI (O.pickT rfl rfl rfl) ?_
 refine za ?_
 refine zn ?_
 refine zp ?_
 refine yh ?_
 refine wI (O.loadR rfl rfl (by rfl)) ?_
 refine yd ?_
 refine wI (O.pickT rfl rfl rfl) ?_
 refine za ?_
 refine zn ?_
 refine zp ?_
 refine yh ?_
 refine wI (O.loadR rfl rfl (by rfl)) ?_
 refine yd ?_
 refine wI (O.pickT rfl rfl rfl) ?_
 refine za ?_
 refine zn ?_
 refine zp ?_
 refine wI (O.eql rfl rfl rfl (by exact beq_iff_eq.2 (by omega))) ?_
 refine wI (O.pickT rfl rfl rfl) ?_
 refine zc (zD (zl (y1 ?_)))
 refine xK rfl rfl ⟨_, List.nil_sublist _, .nil⟩ (⟨rfl, rfl⟩)
end Go.Proofs.YtojomcdjcpmnkaaGreat.By

namespace Go.Proofs.YtojomcdjcpmnkaaGreat.By
open Go.RowKit L A Dk
set_option linter.unusedVariables false
set_option maxRecDepth 20000
set_option linter.unusedSimpArgs false
attribute [local irreducible] AW AQ AO
def GenR (b : Nat) (l : List Int) (n : Nat) : AV → List HE → Prop := fun r H' => ∃ (V : Value) (x : List UInt8) (k' : Nat), x.length ≤ n ∧ V.oneCell' = true ∧ k' ≤ l.length ∧ r = .val V ∧ H' = [.row V 5 1 x.length (bytesA x), deck b l k']
set_option maxHeartbeats 1000000 in
theorem bytesR_any (b : Nat) (l : List Int) (k : Nat) (n : Nat) (hl : l.length ≤ maxLen) (hk : k ≤ l.length) (hn : n ≤ 1000000) :
  Sp Tryz.prog 24 [ptr b, .val (.int .i64 (n : Int))] [deck b l k] (GenR b l n) := by
 refine yv Tryz.func24 _ Tryz.ntmps24 (fun w0 R0 => ?_)
 refine zx (zm ?_)
 refine zc (zD (zl (zx (zm ?_))))
 refine zc (zD (zl (zx (zx (zm ?_)))))
 refine za ?_
 refine za ?_
 refine zr ?_
 refine AO.callMG 0 rfl rfl Tryz.func33 rfl rfl rfl rfl rfl rfl (next_any _ l _ _ hl (by assumption) (by omega) (by omega)) ?_
 rintro _ _ ⟨⟨z1, hz01, hz11, rfl⟩, kd1, hkd1, rfl⟩
 dsimp only [List.cons_append, List.nil_append, List.eraseIdx]
 refine zc (zD (zl (yS ?_)))
 obtain ⟨c, rfl⟩ : ∃ c : Nat, z1 = (c : Int) := ⟨z1.toNat, by omega⟩
 refine AW.g ?_
 refine G.nilRow 5 1 ?_
 refine AW.u ?_
 refine AW.loopK [(0, _)] (fun nn E H => ∃ (c' : Nat) (out : List UInt8) (V : Value) (kk : Nat), (out.length + c' ≤ n) ∧ (V.oneCell' = true) ∧ (kk ≤ l.length) ∧ c' = nn ∧ E = [(5, .val V), (6, .val (.int .i64 (c' : Int)))] ∧ H = [.row V 5 1 out.length (bytesA out), deck b l kk]) _ (⟨c, [], .slice none 0 0, _, by simp <;> omega, rfl, ‹_›, rfl, rfl, rfl⟩) (by repeat (first | exact envNil | refine envCons rfl ?_)) (by repeat (first | exact envNil | refine envCons rfl ?_)) (by repeat (first | exact subPnil | refine subPcons 0 rfl ?_)) ?_
 rintro nn E H ⟨c', out, V, kk, h1, hV, h3, rfl, rfl, rfl⟩
 dsimp only [List.cons_append, List.nil_append]
 refine zx (zx (zm ?_))
 refine za ?_
 refine y7 (zD (zl ?_))
 refine yn (fun h => ?_) (fun h => ?_) <;> (try simp only [wN] at h)
 ·skip
  obtain ⟨j, rfl⟩ : ∃ j, c' = j + 1 := ⟨c' - 1, by omega⟩
  refine yN (zl (zx (yS (zm ?_))))
  refine za ?_
  refine za ?_
  refine AO.callMG 1 rfl rfl Tryz.func33 rfl rfl rfl rfl rfl rfl (next_any _ l _ _ hl (by assumption) (by omega) (by omega)) ?_
  rintro _ _ ⟨⟨z2, hz02, hz12, rfl⟩, kd2, hkd2, rfl⟩
  dsimp only [List.cons_append, List.nil_append, List.eraseIdx]
  refine yA ?_
  refine zK ?_
  intro B3
  refine AO.g ?_
  refine wB 0 19 rfl rfl ⟨Nat.le_refl _, by unfold maxLen; omega⟩ ?_
  refine xF 19 ?_
  refine AO.u ?_
  dsimp only [List.eraseIdx]
  refine zy 1 rfl rfl rfl rfl (by rfl) (by rfl) rfl rfl rfl (by exact SrcA.ro TyD.ax (by rfl) (Nat.le_of_ble_eq_true rfl)) (by rfl) (by (unfold maxLen; omega)) ?_
  intro V4 hV4
  refine zc (zD (y5 (zl (zm ?_))))
  refine za ?_
  refine yl ?_
  refine zc (zD ?_)
  rw [show ((j + 1 : Nat) : Int) - 1 = (j : Int) by omega]
  refine AQ.loopKN _ _ _ (by omega) (⟨j, out ++ [u8 z2], V4, kd2, by simp; omega, hV4, hkd2, rfl, rfl, by rw [bytesA_app, List.length_append] <;> rfl⟩) (by repeat (first | exact envNil | refine envCons rfl ?_)) (by repeat (first | exact envNil | refine envCons rfl ?_)) (by repeat (first | exact subPnil | refine subPcons 0 rfl ?_ | refine subPcons 1 rfl ?_))
 refine xD ?_
 refine xr ?_
 refine xA ?_
 refine yZ (zl (zx (zm ?_)))
 refine za ?_
 refine zc (zD (zl (y1 ?_)))
 refine xK rfl rfl ⟨_, by repeat (first | exact List.Sublist.slnil | refine List.Sublist.cons_cons _ ?_), List.Perm.refl _⟩ (⟨V, out, _, by omega, hV, h3, rfl, rfl⟩)
def pivL : List Int := [0, 1, 5, 255, 256, 65535, 16777216, 1099511627775, 1099511627774, 4294967296]
theorem piv_at {z : Int} (h0 : 0 ≤ z) (h1 : z < 10) {j : Nat} (hj : j = z.toNat * 1) : ([.val (.int .i64 0), .val (.int .i64 1), .val (.int .i64 5), .val (.int .i64 255), .val (.int .i64 256), .val (.int .i64 65535), .val (.int .i64 16777216), .val (.int .i64 1099511627775), .val (.int .i64 1099511627774), .val (.int .i64 4294967296)] : List AV)[j]? = some (.val (.int .i64 (pivL.getD z.toNat 0))) := by
 subst hj
 obtain ⟨n, rfl⟩ : ∃ n : Nat, z = (n : Int) := ⟨z.toNat, by omega⟩
 have hn : n < 10 := by omega
 have hc : n = 0 ∨ n = 1 ∨ n = 2 ∨ n = 3 ∨ n = 4 ∨ n = 5 ∨ n = 6 ∨ n = 7 ∨ n = 8 ∨ n = 9 := by omega
 rcases hc with rfl | rfl | rfl | rfl | rfl | rfl | rfl | rfl | rfl | rfl <;> rfl
theorem piv_ok {z : Int} (h0 : 0 ≤ z) (h1 : z < 10) : NumOk (pivL.getD z.toNat 0) := by
 have key : ∀ n, n < 10 → NumOk (pivL.getD n 0) := by decide
 exact key _ (by omega)
def IsPiv (r : AV) : Prop := ∃ n : Int, NumOk n ∧ r = .val (.int .i64 n)
theorem piv_any (b : Nat) (l : List Int) (k : Nat) (hl : l.length ≤ maxLen) (hk : k ≤ l.length) : Sp Tryz.prog 14 [ptr b] [deck b l k] (Gen b l IsPiv) := by
 refine yv Tryz.func14 _ Tryz.ntmps14 (fun w0 R0 => ?_)
 refine zx (zm ?_)
 refine zc (zD (zl (zx (zm ?_))))
 refine yD ?_
 intro B1
 refine AO.g ?_
 refine wB 0 3 rfl rfl ⟨Nat.le_refl _, by unfold maxLen; omega⟩ ?_
 refine xF 3 ?_
 refine AO.u ?_
 dsimp only [List.eraseIdx]
 refine za ?_
 refine AO.callMG 0 rfl rfl Tryz.func33 rfl rfl rfl rfl rfl rfl (next_any _ l _ _ hl (by assumption) (by omega) (by omega)) ?_
 rintro _ _ ⟨⟨z2, hz02, hz12, rfl⟩, kd2, hkd2, rfl⟩
 dsimp only [List.cons_append, List.nil_append, List.eraseIdx]
 refine yh ?_
 refine wI (O.loadR rfl rfl (by exact piv_at (by assumption) (by assumption) rfl)) ?_
 refine zc (zD (zl (y1 ?_)))
 refine xK rfl rfl ⟨_, by repeat (first | exact List.Sublist.slnil | refine List.Sublist.cons_cons _ ?_), List.Perm.refl _⟩ (⟨⟨_, piv_ok hz02 hz12, rfl⟩, _, hkd2, rfl⟩)
/-! ### Inputs -/
def IsInp (r : AV) : Prop := ∃ x, InpOk x ∧ r = aggI x
set_option maxHeartbeats 4000000 in
theorem input_any (b : Nat) (l : List Int) (k : Nat) (hl : l.length ≤ maxLen) (hk : k ≤ l.length) : Sp Tryz.prog 55 [ptr b, .val (.bool true)] [deck b l k] (Gen b l IsInp) := by
 refine yv Tryz.func55 _ Tryz.ntmps55 (fun w0 R0 => ?_)
 refine zx (zm ?_)
 refine yV ?_
 intro B1
 refine zD (zl (zx (zm ?_)))
 refine za ?_
 refine AO.callMG 1 rfl rfl Tryz.func33 rfl rfl rfl rfl rfl rfl (next_any _ l _ _ hl (by assumption) (by omega) (by omega)) ?_
 rintro _ _ ⟨⟨z2, hz02, hz12, rfl⟩, kd2, hkd2, rfl⟩
 dsimp only [List.cons_append, List.nil_append, List.eraseIdx]
 refine za ?_
 refine AO.callMG 0 rfl rfl Tryz.func33 rfl rfl rfl rfl rfl rfl (next_any _ l _ _ hl (by assumption) (by omega) (by omega)) ?_
 rintro _ _ ⟨⟨z3, hz03, hz13, rfl⟩, kd3, hkd3, rfl⟩
 dsimp only [List.cons_append, List.nil_append, List.eraseIdx]
 refine zr ?_
 refine wI (xl rfl Tryz.func107 rfl rfl rfl (some_fn _ _ ⟨by omega, by omega⟩)) ?_
 refine za ?_
 refine AO.callMG 0 rfl rfl Tryz.func24 rfl rfl rfl rfl rfl rfl (bytesR_any _ l _ 8 hl (by assumption) (by omega)) ?_
 rintro _ _ ⟨V4, x4, kd4, hx4, hV4, hkd4, rfl, rfl⟩
 dsimp only [List.cons_append, List.nil_append, List.eraseIdx]
 refine za ?_
 refine AO.callMG 1 rfl rfl Tryz.func24 rfl rfl rfl rfl rfl rfl (bytesR_any _ l _ 3 hl (by assumption) (by omega)) ?_
 rintro _ _ ⟨V5, x5, kd5, hx5, hV5, hkd5, rfl, rfl⟩
 dsimp only [List.cons_append, List.nil_append, List.eraseIdx]
 refine za ?_
 refine AO.callMG 1 rfl rfl Tryz.func24 rfl rfl rfl rfl rfl rfl (bytesR_any _ l _ 3 hl (by assumption) (by omega)) ?_
 rintro _ _ ⟨V6, x6, kd6, hx6, hV6, hkd6, rfl, rfl⟩
 dsimp only [List.cons_append, List.nil_append, List.eraseIdx]
 refine wI (y4 rfl rfl (by (show (V4.oneCell' && (V5.oneCell' && (V6.oneCell' && true))) = true; rw [hV4, hV5, hV6]; rfl))) ?_
 refine yV ?_
 intro B7
 refine AO.store (i := 0) rfl rfl rfl rfl rfl rfl (by (show (true && (V4.oneCell' && (true && (true && (V5.oneCell' && (V6.oneCell' && true)))))) = true; rw [hV4, hV5, hV6]; rfl)) (by rfl) (by rfl) (by (dsimp only [List.set, List.append, List.cons_append, List.nil_append, roB_cells, roI_cells, roO_cells, splice, ofConst, AV.cells, List.map, List.map_cons, List.map_nil, List.take, List.drop, Nat.zero_add, Nat.add_zero, Nat.reduceAdd, Nat.reduceMul, Nat.zero_mul, Value.cells, List.toList_toArray, zerosA, List.replicate, List.flatten, List.append_nil]; done)) (by (dsimp only [List.set, List.append, List.cons_append, List.nil_append, roB_cells, roI_cells, roO_cells, splice, ofConst, AV.cells, List.map, List.map_cons, List.map_nil, List.take, List.drop, Nat.zero_add, Nat.add_zero, Nat.reduceAdd, Nat.reduceMul, Nat.zero_mul, Value.cells, List.toList_toArray, zerosA, List.replicate, List.flatten, List.append_nil]; done)) (zD (zl (zx (zx (zm ?_)))))
 refine zn ?_
 refine AO.g ?_
 refine G.freezeCell 3 0 4 rfl rfl rfl ?_
 dsimp only [List.eraseIdx, List.set]
 refine G.freezeCell 3 0 1 rfl rfl rfl ?_
 dsimp only [List.eraseIdx, List.set]
 refine G.coeCell 0 3 rfl rfl Coe.nil ?_
 dsimp only [List.set]
 refine AO.u ?_
 refine zo ?_
 refine zn ?_
 refine zo ?_
 refine wI (O.callL rfl Tryz.func31 rfl rfl rfl (by repeat (first | exact List.Mem.head _ | refine List.Mem.tail _ ?_)) (equal26_fn _ _) (by (repeat (first | exact LendL.nil | refine LendL.same ?_ | refine LendL.lend ?_)); done)) ?_
 refine zD (zl ?_)
 have hse : (someL z2 (1 + z3).toNat).length = (1 + z3).toNat := someL_len _ _
 generalize someL z2 (1 + z3).toNat = sec at *
 refine xd [(0, _), (1, _), (4, _), (5, _)] (fun E H => ∃ (V : Value) (rc : List UInt8), (V.oneCell' = true) ∧ (rc.length ≤ 4) ∧ (¬x5 = rc) ∧ E = [] ∧ H = [.blk B7 24 6 [roB sec, roB x4, .val (.bool false), roB [], roB x5, .val V], .row V 5 1 rc.length (bytesA rc), deck b l kd6, .blk B1 24 6 [.val (.slice none 0 0), .val (.slice none 0 0), .val (.bool false), .val (.slice none 0 0), .val (.slice none 0 0), .val (.slice none 0 0)]]) (fun heq => ?_) (fun heq => ?_) ?_ <;> try (try simp only [wN] at heq)
 ·skip
  have hgu : bytesA (x6 ++ [9]) = bytesA x6 ++ [.val (.int .u8 9)] := bytes_snoc0 x6 9
  refine zm ?_
  refine zn ?_
  refine zo ?_
  refine zK ?_
  intro B8
  refine AO.g ?_
  refine wB 0 26 rfl rfl ⟨Nat.le_refl _, by unfold maxLen; omega⟩ ?_
  refine xF 26 ?_
  refine AO.u ?_
  dsimp only [List.eraseIdx]
  refine zt 1 rfl rfl rfl rfl (by rfl) (by rfl) rfl rfl rfl (by exact SrcA.ro TyD.ax (by rfl) (Nat.le_of_ble_eq_true rfl)) (by rfl) (by (unfold maxLen; omega)) ?_
  intro V9 hV9
  refine zn ?_
  refine AO.store (i := 0) rfl rfl rfl rfl rfl rfl (by (simp [AV.cells, AV.one, *]; done)) (by rfl) (by rfl) (by (dsimp only [List.set, List.append, List.cons_append, List.nil_append, roB_cells, roI_cells, roO_cells, splice, ofConst, AV.cells, List.map, List.map_cons, List.map_nil, List.take, List.drop, Nat.zero_add, Nat.add_zero, Nat.reduceAdd, Nat.reduceMul, Nat.zero_mul, Value.cells, List.toList_toArray, zerosA, List.replicate, List.flatten, List.append_nil]; done)) (by (dsimp only [List.set, List.append, List.cons_append, List.nil_append, roB_cells, roI_cells, roO_cells, splice, ofConst, AV.cells, List.map, List.map_cons, List.map_nil, List.take, List.drop, Nat.zero_add, Nat.add_zero, Nat.reduceAdd, Nat.reduceMul, Nat.zero_mul, Value.cells, List.toList_toArray, zerosA, List.replicate, List.flatten, List.append_nil]; done)) (zD ?_)
  rw [← hgu, show x6.length + 1 = (x6 ++ [9]).length by simp]
  refine yI _ _ (⟨_, x6 ++ [9], ‹_›, by simp; omega, (fun e => by have := congrArg List.length e; simp at this; rw [heq] at this; omega), rfl, rfl⟩)
 ·skip
  refine yN ?_
  refine yI _ _ (⟨V6, x6, hV6, by omega, heq, rfl, rfl⟩)
 rintro E1 H1 ⟨V, rc, hV, hrl, hne, rfl, rfl⟩
 dsimp only [List.cons_append, List.nil_append]
 refine zl ?_
 refine AW.g ?_
 refine G.freezeCell 1 0 5 rfl rfl rfl ?_
 refine AW.u ?_
 refine AW.g ?_
 dsimp only [List.eraseIdx, List.set]
 refine AW.u (zx (zx (zm ?_)))
 refine za ?_
 refine za ?_
 refine za ?_
 refine AO.callMGw 1 rfl rfl Tryz.func33 rfl rfl rfl rfl rfl rfl (next_any _ l _ _ hl (by assumption) (by omega) (by omega)) ?_; rintro _ _ ⟨⟨z10, hz010, hz110, rfl⟩, kd10, hkd10, rfl⟩; dsimp only [List.cons_append, List.nil_append, List.eraseIdx]
 refine yd ?_
 refine wI (O.pickT rfl rfl rfl) (zD (zl ?_))
 refine yn (fun hz => ?_) (fun hz => ?_) <;> (try simp only [wN] at hz)
 ·skip
  refine zm ?_
  refine za ?_
  refine AO.callMG 0 rfl rfl Tryz.func24 rfl rfl rfl rfl rfl rfl (bytesR_any _ l _ 5 hl (by assumption) (by omega)) ?_
  rintro _ _ ⟨V11, x11, kd11, hx11, hV11, hkd11, rfl, rfl⟩
  dsimp only [List.cons_append, List.nil_append, List.eraseIdx]
  refine zn ?_
  refine zP 2 rfl rfl rfl rfl rfl rfl ?_
  refine zn ?_
  refine AO.g ?_
  refine z6 0 [36] ?_
  dsimp only [List.map, List.eraseIdx, List.cons_append, List.nil_append]
  refine AO.u ?_
  refine zP 1 rfl rfl rfl rfl rfl rfl (zD (zl (zx (zm ?_))))
  refine xS ?_
  refine zP 2 rfl rfl rfl rfl rfl rfl (zD (zl (y1 ?_)))
  refine AQ.retCell rfl rfl (by repeat (first | exact List.Mem.head _ | refine List.Mem.tail _ ?_)) (by rfl) rfl ⟨_, by repeat (first | exact List.Sublist.slnil | refine List.Sublist.cons_cons _ ?_ | refine List.Sublist.cons _ ?_), List.Perm.refl _⟩ (⟨⟨⟨sec, x4, true, x11, x5, rc⟩, ⟨⟨by show 1 ≤ sec.length; omega, by show sec.length ≤ 64; omega, by show x4.length ≤ 64; omega, by show x11.length ≤ 16; omega, .inl rfl⟩, by show x5.length ≤ 7; omega, by show rc.length ≤ 7; omega, hne⟩, rfl⟩, _, hkd11, rfl⟩)
 refine yN (zl (zx (zm ?_)))
 refine xS ?_
 refine zP 2 rfl rfl rfl rfl rfl rfl (zD (zl (y1 ?_)))
 refine AQ.retCell rfl rfl (by repeat (first | exact List.Mem.head _ | refine List.Mem.tail _ ?_)) (by rfl) rfl ⟨_, by repeat (first | exact List.Sublist.slnil | refine List.Sublist.cons_cons _ ?_ | refine List.Sublist.cons _ ?_), List.Perm.refl _⟩ (⟨⟨⟨sec, x4, false, [], x5, rc⟩, ⟨⟨by show 1 ≤ sec.length; omega, by show sec.length ≤ 64; omega, by show x4.length ≤ 64; omega, by show ([] : List UInt8).length ≤ 16; simp, .inr rfl⟩, by show x5.length ≤ 7; omega, by show rc.length ≤ 7; omega, hne⟩, rfl⟩, _, hkd10, rfl⟩)
def IsCx (r : AV) : Prop := ∃ c, CxOk c ∧ r = aggX c
set_option maxHeartbeats 4000000 in
theorem context_any (b : Nat) (l : List Int) (k : Nat) (hl : l.length ≤ maxLen) (hk : k ≤ l.length) : Sp Tryz.prog 12 [ptr b, .val (.bool true)] [deck b l k] (Gen b l IsCx) := by
 have hder : ∀ x, InpOk x → Sp Tryz.prog 54 [aggI x] [] (Is (.tup [aggX (derX x), .val (.int .i64 0)])) := fun x hx => by
  have h := derive_fn x
  rw [show derR x = (derX x, 0) from if_pos hx] at h
  exact h
 refine yv Tryz.func12 _ Tryz.ntmps12 (fun w0 R0 => ?_)
 refine zx (zm ?_)
 refine zd ?_
 intro B1
 refine zD (zl (zx (zm ?_)))
 refine za ?_
 refine za ?_
 refine AO.callMG 1 rfl rfl Tryz.func55 rfl rfl rfl rfl rfl rfl (input_any _ l _ hl hk) ?_
 rintro _ _ ⟨⟨x2, hx2, rfl⟩, kd2, hkd2, rfl⟩
 dsimp only [List.cons_append, List.nil_append, List.eraseIdx]
 refine wI (xl rfl Tryz.func54 rfl rfl rfl (hder _ (by assumption))) ?_
 refine za ?_
 refine zW ?_
 refine zW ?_
 refine zd ?_
 intro B3
 refine zb 0 rfl rfl rfl rfl rfl rfl ?_
 refine zc (zD (zl (zx (zm ?_))))
 refine zM ?_
 refine zb 2 rfl rfl rfl rfl rfl rfl (zD (zl (y1 ?_)))
 refine AQ.retCell rfl rfl (by repeat (first | exact List.Mem.head _ | refine List.Mem.tail _ ?_)) (by rfl) rfl ⟨_, by repeat (first | exact List.Sublist.slnil | refine List.Sublist.cons_cons _ ?_ | refine List.Sublist.cons _ ?_), List.Perm.refl _⟩ (⟨⟨_, derX_ok hx2, rfl⟩, _, hkd2, rfl⟩)
end Go.Proofs.YtojomcdjcpmnkaaGreat.By

namespace Go.Proofs.YtojomcdjcpmnkaaGreat.By
open Go.RowKit L A Dk
set_option linter.unusedVariables false
set_option maxRecDepth 20000
set_option linter.unusedSimpArgs false
attribute [local irreducible] AW AQ AO
theorem sealM_len (outer inner : Msg) (v : Cmp) (key nonce aad : List UInt8) : (sealM outer inner v key nonce aad).1.opts.length ≤ 32 := by
 by_cases h1 : (packR inner).2 ≠ 0
 ·rw [sealM_1 h1]; exact Nat.zero_le _
 have h1 := Decidable.not_not.1 h1
 by_cases h2 : sealE key nonce aad (packR inner).1 8 ≠ 0
 ·rw [sealM_2 h1 h2]; exact Nat.zero_le _
 have h2 := Decidable.not_not.1 h2
 by_cases h3 : (encR (outS outer inner v key nonce aad)).2 ≠ 0
 ·rw [sealM_3 h1 h2 h3]; exact Nat.zero_le _
 have h3 := Decidable.not_not.1 h3
 rw [sealM_4 h1 h2 h3]
 by_cases hv : ValM (outS outer inner v key nonce aad)
 ·exact (ValM.sm hv).2.2.1
 rw [encR, if_neg hv] at h3; cases h3
theorem protR_len (m : Msg) (v : Cmp) (key nonce aad : List UInt8) : (protR m v key nonce aad).1.opts.length ≤ 32 := by
 by_cases h : (splitR m).2.2 ≠ 0
 ·rw [protR_1 h]; exact Nat.zero_le _
 rw [protR_2 (Decidable.not_not.1 h)]; exact sealM_len ..
theorem reqR_len (c : Cx) (m : Msg) (piv : Int) : (reqR c m piv).1.opts.length ≤ 140737488355328 := by
 unfold reqR
 split
 ·exact Nat.zero_le _
 split
 ·exact Nat.zero_le _
 split
 ·exact Nat.zero_le _
 have := protR_len m (valQ c piv) c.sk (nonceR c.com c.inp.snd piv).1 (aadR c.inp.snd piv).1
 show (reqP c m piv).1.opts.length ≤ _
 unfold reqP; omega
theorem bind_same (b : Bd) : Sp Tryz.prog 19 [aggBd b, aggBd b] [] (Is (.val (.bool true))) := by
 refine yv Tryz.func19 _ Tryz.ntmps19 (fun w0 R0 => ?_)
 refine zx (zm ?_)
 refine ya ?_
 intro B1
 refine ya ?_
 intro B2
 refine zc (zD (zl (zx (zm ?_))))
 refine zn ?_
 refine zp ?_
 refine zn ?_
 refine zo ?_
 refine wI (xl rfl Tryz.func31 rfl rfl rfl (equal26_fn _ _)) ?_
 refine za ?_
 refine zE ?_
 refine AO.opG rfl rfl rfl (fun hp => yy 11 rfl (by exact hp)) ?_
 refine zE ?_
 refine AO.opG rfl rfl rfl (fun hp => zu 13 rfl (by exact hp)) ?_
 refine AO.opG rfl rfl rfl (fun hp => wL 12 rfl (by exact hp) (wL 14 rfl (by exact hp) (xl rfl Tryz.func31 rfl rfl rfl (equal26_fn _ _)))) ?_
 refine zN ?_
 refine za ?_
 refine zE ?_
 refine AO.opG rfl rfl rfl (fun hp => yy 18 rfl (by exact hp)) ?_
 refine zE ?_
 refine AO.opG rfl rfl rfl (fun hp => zu 20 rfl (by exact hp)) ?_
 refine AO.opG rfl rfl rfl (fun hp => wL 19 rfl (by exact hp) (wL 21 rfl (by exact hp) (O.eql rfl rfl rfl (by exact beq_iff_eq.2 (by omega))))) ?_
 refine zN ?_
 refine zc (zD (zl (y1 ?_)))
 refine xK rfl rfl ⟨_, List.nil_sublist _, .nil⟩ (⟨by simp, rfl⟩)
/-! ### What is light -/
def AllX (bs : List (List UInt8)) (k : Nat) : Prop := ∀ i, i < k → (bs.getD i []).length ≤ 900
instance (bs : List (List UInt8)) (k : Nat) : Decidable (AllX bs k) := by unfold AllX; infer_instance
theorem AllX.succ {bs : List (List UInt8)} {k : Nat} (h : AllX bs k) (h2 : (bs.getD k []).length ≤ 900) : AllX bs (k + 1) := by
 intro i hi
 by_cases e : i = k
 ·subst e; exact h2
 exact h i (by omega)
def allX (bs : List (List UInt8)) : Bool := decide (AllX bs bs.length ∧ bs.length ≤ 20)
theorem allx_fn (bs : List (List UInt8)) : Sp Tryz.prog 20 [roBs bs] [] (Is (.val (.bool (allX bs)))) := by
 refine yv Tryz.func20 _ Tryz.ntmps20 (fun w0 R0 => ?_)
 refine AW.g ?_
 refine G.lenRo (t := 0) rfl (fun hm1 => ?_)
 refine AW.u ?_
 unfold maxLen at hm1
 refine zx (zm ?_)
 refine zc (zD (zl (zx (zx (zm ?_)))))
 refine za ?_
 refine zZ ?_
 refine za (zD (zl (yS ?_)))
 refine AW.loopK [(0, _), (5, _), (6, _)] (fun nn E H => ∃ (k : Nat), (k ≤ bs.length) ∧ (AllX bs k) ∧ nn = bs.length - k ∧ E = [(7, .val (.int .i64 (k : Int)))] ∧ H = []) _ (⟨0, by omega, (fun i hi => absurd hi (by omega)), rfl, rfl, rfl⟩) (by repeat (first | exact envNil | refine envCons rfl ?_)) (by repeat (first | exact envNil | refine envCons rfl ?_)) (by repeat (exact subPnil)) ?_
 rintro nn E H ⟨k, h1, hA, rfl, rfl, rfl⟩
 dsimp only [List.cons_append, List.nil_append]
 refine zx (zm ?_)
 refine zH (zD (zl (zx ?_)))
 refine yn (fun h => ?_) (fun h => ?_) <;> (try simp only [wN] at h)
 ·skip
  have hk : k < bs.length := by omega
  refine yN (zl (zx (yS (zx (zm ?_)))))
  refine yh ?_
  refine wI (O.loadR rfl rfl (by exact bsA_at (by assumption) (by omega))) ?_
  refine zc (zD (zl (zx (zm ?_))))
  refine za ?_
  refine wI (xl rfl Tryz.func53 rfl rfl rfl (small_fn _)) ?_
  refine xu (zD (zl ?_))
  refine yn (fun h2 => ?_) (fun h2 => ?_) <;> (try simp only [wN] at h2)
  ·skip
   have e : allX bs = false := decide_eq_false (fun hh => by have h4 : (vat bs k).length ≤ 900 := hh.1 k hk; omega)
   refine zx (zm ?_)
   refine zc (zD (zl (y1 ?_)))
   refine wb (xi ?_)
   refine AQ.loopR ?_
   refine wb (xi ?_)
   refine xK rfl rfl ⟨_, List.nil_sublist _, .nil⟩ (⟨by rw [e]; rfl, rfl⟩)
  have hA2 := hA.succ (show (vat bs k).length ≤ 900 by omega)
  refine yN (y5 (zl (zm ?_)))
  refine zr ?_
  refine za (zD ?_)
  refine AQ.loopKN _ _ _ (by omega) (⟨k + 1, by omega, hA2, rfl, rfl, rfl⟩) (by repeat (first | exact envNil | refine envCons rfl ?_)) (by repeat (first | exact envNil | refine envCons rfl ?_)) (by repeat (exact subPnil))
 obtain rfl : k = bs.length := by omega
 refine xD ?_
 refine xr ?_
 refine xA ?_
 refine yZ (zl (zx (zm ?_)))
 refine za ?_
 refine zZ ?_
 refine wG ?_
 refine zc (zD (zl (y1 ?_)))
 refine xK rfl rfl ⟨_, List.nil_sublist _, .nil⟩ (⟨by rw [allX]; simp [hA]; omega, rfl⟩)
def lightX (c : Cx) : Bool := allX [c.inp.sec, c.inp.salt, c.inp.ctx, c.inp.snd, c.inp.rcp, c.sk, c.rk, c.com]
theorem light31_fn (c : Cx) : Sp Tryz.prog 8 [aggX c] [] (Is (.val (.bool (lightX c)))) := by
 have hall : Sp Tryz.prog 20 [.ro false 8 [roB c.inp.sec, roB c.inp.salt, roB c.inp.ctx, roB c.inp.snd, roB c.inp.rcp, roB c.sk, roB c.rk, roB c.com]] [] (Is (.val (.bool (lightX c)))) := allx_fn [c.inp.sec, c.inp.salt, c.inp.ctx, c.inp.snd, c.inp.rcp, c.sk, c.rk, c.com]
 refine yv Tryz.func8 _ Tryz.ntmps8 (fun w0 R0 => ?_)
 refine zx (zm ?_)
 refine ya ?_
 intro B1
 refine zc (zD (zl (zx (zm ?_))))
 refine zn ?_
 refine zn ?_
 refine zo ?_
 refine zn ?_
 refine zn ?_
 refine zo ?_
 refine zn ?_
 refine zn ?_
 refine zo ?_
 refine zn ?_
 refine zn ?_
 refine zo ?_
 refine zn ?_
 refine zn ?_
 refine zo ?_
 refine zn ?_
 refine zo ?_
 refine zn ?_
 refine zo ?_
 refine zn ?_
 refine zo ?_
 refine yD ?_
 intro B2
 refine AO.g ?_
 refine wB 0 24 rfl rfl ⟨Nat.le_refl _, by unfold maxLen; omega⟩ ?_
 refine xF 24 ?_
 refine AO.u ?_
 dsimp only [List.eraseIdx]
 refine wI (xl rfl Tryz.func20 rfl rfl rfl hall) ?_
 refine zc (zD (zl (y1 ?_)))
 refine xK rfl rfl ⟨_, List.nil_sublist _, .nil⟩ (⟨rfl, rfl⟩)
/-! ### Lists of contexts and messages -/
def cellsX (c : Cx) : List AV := cX c
theorem cellsX_len (c : Cx) : (cellsX c).length = 9 := rfl
def cxsA (l : List Cx) : List AV := l.flatMap cellsX
def roXs (l : List Cx) : AV := .ro false l.length (cxsA l)
abbrev cxat (l : List Cx) (k : Nat) : Cx := l.getD k Cx.none
theorem getXs {l : List Cx} {k : Nat} (h : k < l.length) {j : Nat} (hj : j = k) : ((cxsA l).drop (j * 9)).take 9 = cX (cxat l k) := flat_at cellsX_len Cx.none h hj
def cells6 (m : Msg) : List AV := [.val (.int .i64 m.ty), .val (.int .i64 m.code), .val (.int .i64 m.id), roB m.tok, roO m.opts, roB m.pay]
theorem cells6_len (m : Msg) : (cells6 m).length = 6 := rfl
def ms6 (ms : List Msg) : List AV := ms.flatMap cells6
def roM6 (ms : List Msg) : AV := .ro false ms.length (ms6 ms)
abbrev m6at (ms : List Msg) (k : Nat) : Msg := ms.getD k Msg.none
theorem getM6 {ms : List Msg} {k : Nat} (h : k < ms.length) {j : Nat} (hj : j = k) : ((ms6 ms).drop (j * 6)).take 6 = [.val (.int .i64 (m6at ms k).ty), .val (.int .i64 (m6at ms k).code), .val (.int .i64 (m6at ms k).id), roB (m6at ms k).tok, roO (m6at ms k).opts, roB (m6at ms k).pay] := flat_at cells6_len Msg.none h hj
set_option maxHeartbeats 8000000 in
theorem lawRequests_fn (raw : Cx) (m : Msg) (l : List Int) (piv : Int) (hop : m.opts.length ≤ maxLen) (hl : l.length ≤ maxLen) : Sp Tryz.prog 3 [aggX raw, aggM m, roI l, .val (.int .i64 piv)] [] (Is (.val (.bool true))) := by
 refine yv Tryz.func3 _ Tryz.ntmps3 (fun w0 R0 => ?_)
 refine zx (zm ?_)
 refine ya ?_
 intro B1
 refine ya ?_
 intro B2
 refine zc (zD (zl (zx (zx (zm ?_)))))
 refine zG ?_
 refine wI (xl rfl Tryz.func8 rfl rfl rfl (light31_fn raw)) ?_
 refine xu ?_
 refine za ?_
 refine AO.opG rfl rfl rfl (fun hp => zC rfl rfl) ?_
 refine AO.opG rfl rfl rfl (fun hp => wL 28 rfl (by exact hp) (xl rfl Tryz.func9 rfl rfl rfl (smallM_fn m hop))) ?_
 refine AO.opG rfl rfl rfl (fun hp => xX 29 rfl (by exact hp)) ?_
 refine zB (zD (zl ?_))
 refine yn (fun h => ?_) (fun h => ?_) <;> (try simp only [wN] at h)
 ·skip
  refine zx (zm ?_)
  refine wI (xl rfl Tryz.func10 rfl rfl rfl awake31_fn) ?_
  refine zc (zD (zl (y1 (xi ?_))))
  refine xK rfl rfl ⟨_, List.nil_sublist _, .nil⟩ (⟨rfl, rfl⟩)
 refine yN (zl (zx (zm ?_)))
 refine za ?_
 refine AO.opB (xl rfl Tryz.func11 rfl rfl rfl (new_fn _)) rfl rfl rfl ?_
 intro B3
 refine zc (zD (zl (zx (zm ?_))))
 refine za ?_
 refine AO.callMG 0 rfl rfl Tryz.func12 rfl rfl rfl rfl rfl rfl (context_any _ l _ hl (by exact Nat.zero_le _)) ?_
 rintro _ _ ⟨⟨c4, hc4, rfl⟩, kd4, hkd4, rfl⟩
 dsimp only [List.cons_append, List.nil_append, List.eraseIdx]
 refine za ?_
 refine AO.callMG 0 rfl rfl Tryz.func13 rfl rfl rfl rfl rfl rfl (request_any _ l _ hl (by assumption)) ?_
 rintro _ _ ⟨⟨m5, hm5, rfl⟩, kd5, hkd5, rfl⟩
 dsimp only [List.cons_append, List.nil_append, List.eraseIdx]
 refine zd ?_
 intro B6
 refine zd ?_
 intro B7
 refine zb 1 rfl rfl rfl rfl rfl rfl ?_
 refine zb 0 rfl rfl rfl rfl rfl rfl (zD (zl (zx (zx (zm ?_)))))
 refine za ?_
 refine za ?_
 refine AO.callMG 2 rfl rfl Tryz.func14 rfl rfl rfl rfl rfl rfl (piv_any _ l _ hl (by assumption)) ?_
 rintro _ _ ⟨⟨n8, hn8, rfl⟩, kd8, hkd8, rfl⟩
 dsimp only [List.cons_append, List.nil_append, List.eraseIdx]
 refine yD ?_
 intro B9
 refine AO.g ?_
 refine wB 0 42 rfl rfl ⟨Nat.le_refl _, by unfold maxLen; omega⟩ ?_
 refine xF 42 ?_
 refine AO.u ?_
 dsimp only [List.eraseIdx]
 refine zZ ?_
 refine za (zD (zl (yS ?_)))
 refine AW.g ?_
 refine G.freezePtr 4 4 rfl rfl ?_
 refine AW.u ?_
 dsimp only [List.eraseIdx]
 refine AW.g ?_
 refine G.freezePtr 3 5 rfl rfl ?_
 refine AW.u ?_
 dsimp only [List.eraseIdx]
 refine AW.g ?_
 refine G.freezePtr 2 10 rfl rfl ?_
 refine AW.u ?_
 dsimp only [List.eraseIdx]
 refine AW.g ?_
 refine G.freezePtr 1 11 rfl rfl ?_
 refine AW.u ?_
 dsimp only [List.eraseIdx]
 obtain ⟨ps, hps⟩ : ∃ ps : List Int, ps = [piv, n8] := ⟨_, rfl⟩
 have hpl : ps.length = 2 := by rw [hps]; rfl
 refine AW.g ?_
 refine G.re 42 (roI ps) (by rw [hps]; rfl) ?_
 refine AW.u ?_
 refine zg [(4, _), (5, _), (9, _), (10, _), (11, _), (42, _), (43, _)] (fun nn E H => ∃ (i : Nat) (kd : Nat), (i ≤ 2) ∧ (kd ≤ l.length) ∧ nn = 2 - i ∧ E = [(44, .val (.int .i64 (i : Int)))] ∧ H = [deck B3 l kd]) _ (⟨0, _, by omega, hkd8, rfl, rfl, rfl⟩) ?_
 rintro nn E H ⟨i, kd, hi, hkd, rfl, rfl, rfl⟩
 dsimp only [List.cons_append, List.nil_append]
 refine zx (zm ?_)
 refine zH (zD (zl (zx ?_)))
 refine yn (fun h1 => ?_) (fun h1 => ?_) <;> (try simp only [wN] at h1)
 ·skip
  have hip : i < ps.length := by omega
  refine yN (zl (zx (yS (zx (zm ?_)))))
  refine yh ?_
  refine wI (O.loadR rfl rfl (by exact roI_at hip (by omega))) ?_
  refine zc (zD (zl (zx (zm ?_))))
  refine wI (O.loadRK rfl rfl (by (dsimp only [List.set, List.cons_append, List.nil_append, List.take, List.drop]; done)) (by rfl)) ?_
  refine wI (O.loadRK rfl rfl (by (dsimp only [List.set, List.cons_append, List.nil_append, List.take, List.drop]; done)) (by rfl)) ?_
  refine yD ?_
  intro B10
  refine AO.g ?_
  refine wB 0 50 rfl rfl ⟨Nat.le_refl _, by unfold maxLen; omega⟩ ?_
  refine xF 50 ?_
  refine AO.u ?_
  dsimp only [List.eraseIdx]
  refine zZ ?_
  refine za (zD (zl (yS ?_)))
  generalize ps.getD i 0 = n at *
  obtain ⟨cs, hcs⟩ : ∃ cs : List Cx, cs = [c4, raw] := ⟨_, rfl⟩
  have hcl : cs.length = 2 := by rw [hcs]; rfl
  refine AW.g ?_
  refine G.re 50 (roXs cs) (by rw [hcs]; rfl) ?_
  refine AW.u ?_
  refine zg [(4, _), (5, _), (9, _), (10, _), (11, _), (13, _), (42, _), (43, _), (44, _), (50, _), (51, _)] (fun nn E H => ∃ (j : Nat) (kdj : Nat), (j ≤ 2) ∧ (kdj ≤ l.length) ∧ nn = 2 - j ∧ E = [(52, .val (.int .i64 (j : Int)))] ∧ H = [deck B3 l kdj]) _ (⟨0, _, by omega, hkd, rfl, rfl, rfl⟩) ?_
  rintro nn E H ⟨j, kdj, hj, hkdj, rfl, rfl, rfl⟩
  dsimp only [List.cons_append, List.nil_append]
  refine zx (zm ?_)
  refine zH (zD (zl (zx ?_)))
  refine yn (fun h2 => ?_) (fun h2 => ?_) <;> (try simp only [wN] at h2)
  ·skip
   obtain ⟨x, hx⟩ : ∃ x, x = cxat cs j := ⟨_, rfl⟩
   have hg : ((cxsA cs).drop (Int.toNat (j : Int) * 9)).take 9 = cX x := by rw [getXs (k := j) (by omega) (by omega), hx]
   refine yN (zl (zx (yS (zx (zm ?_)))))
   refine yh ?_
   refine wI (O.loadRK rfl rfl (by exact hg) (by rfl)) ?_
   refine zd ?_
   intro B11
   refine zb 0 rfl rfl rfl rfl rfl rfl (zD (zl (zx ?_)))
   refine AW.regionM [(0, false), (1, false), (2, false), (6, false), (3, true), (4, false), (5, false)] (by kernel_rfl) (by kernel_rfl) (by exact (by exact splitBlk 9 1 rfl rfl splitNil)) ?_
   dsimp only [List.eraseIdx]
   refine wM rfl (O.loadRK rfl rfl (by rfl) (by rfl)) ?_
   refine wM rfl (O.loadRK rfl rfl (by rfl) (by rfl)) ?_
   refine xo ?_
   refine xo ?_
   refine wk _ (fun w0 R0 => ?_)
   refine AO.callMG 0 rfl rfl Tryz.func15 rfl rfl rfl rfl rfl rfl (response_any _ l _ hl (by assumption)) ?_
   rintro _ _ ⟨⟨m12, hm12, rfl⟩, kd12, hkd12, rfl⟩
   dsimp only [List.cons_append, List.nil_append, List.eraseIdx]
   refine AM.ok ?_
   dsimp only [putE]
   refine wM rfl (OpW.frz (xa rfl rfl rfl) (by (unfold maxLen; omega))) ?_
   refine wM rfl (xH rfl rfl) ?_
   refine AM.nil ?_
   dsimp only [List.cons_append, List.nil_append]
   refine zl (yS ?_)
   refine AW.g ?_
   refine G.freezePtr 1 15 rfl rfl ?_
   refine AW.u ?_
   dsimp only [List.eraseIdx]
   obtain ⟨ms, hms⟩ : ∃ ms : List Msg, ms = [m5, m, m12] := ⟨_, rfl⟩
   have hml : ms.length = 3 := by rw [hms]; rfl
   refine AW.g ?_
   refine G.re 60 (roM6 ms) (by rw [hms]; rfl) ?_
   refine AW.u ?_
   refine zg [(4, _), (5, _), (9, _), (10, _), (11, _), (13, _), (15, _), (42, _), (43, _), (44, _), (50, _), (51, _), (52, _), (60, _), (61, _)] (fun nn E H => ∃ (q' : Nat), (q' ≤ 3) ∧ nn = 3 - q' ∧ E = [(62, .val (.int .i64 (q' : Int)))] ∧ H = [deck B3 l kd12]) _ (⟨0, by omega, rfl, rfl, rfl⟩) ?_
   rintro nn E H ⟨q', hq', rfl, rfl, rfl⟩
   dsimp only [List.cons_append, List.nil_append]
   refine zx (zm ?_)
   refine zH (zD (zl (zx ?_)))
   refine yn (fun h3 => ?_) (fun h3 => ?_) <;> (try simp only [wN] at h3)
   ·skip
    obtain ⟨q, hq⟩ : ∃ q, q = m6at ms q' := ⟨_, rfl⟩
    have hg6 : ((ms6 ms).drop (Int.toNat (q' : Int) * 6)).take 6 = [.val (.int .i64 q.ty), .val (.int .i64 q.code), .val (.int .i64 q.id), roB q.tok, roO q.opts, roB q.pay] := by rw [getM6 (k := q') (by omega) (by omega), hq]
    have hrq := rsreq_fn q.code
    rw [rq_dec] at hrq
    have hrr := rrequest_fn x q n hrq
    refine yN (zl (zx (yS (zx (zm ?_)))))
    refine yh ?_
    refine wI (O.loadRK rfl rfl (by exact hg6) (by rfl)) ?_
    refine zd ?_
    intro B13
    refine zb 0 rfl rfl rfl rfl rfl rfl (zD (zl (zx (zm ?_))))
    refine wI (O.loadRK rfl rfl (by rfl) (by rfl)) ?_
    refine wI (O.loadK rfl rfl (by repeat (exact List.Mem.head _)) (by rfl) (by rfl)) ?_
    refine za ?_
    refine wI (xl rfl Tryz.func16 rfl rfl rfl (orequest_fn x q n)) ?_
    refine za ?_
    refine zW ?_
    refine zW ?_
    refine zW ?_
    refine zd ?_
    intro B14
    refine zd ?_
    intro B15
    refine zb 1 rfl rfl rfl rfl rfl rfl ?_
    refine zb 0 rfl rfl rfl rfl rfl rfl ?_
    refine zc (zD (zl (zx (zm ?_))))
    refine wI (O.loadRK rfl rfl (by rfl) (by rfl)) ?_
    refine wI (O.loadK rfl rfl (by repeat (first | exact List.Mem.head _ | refine List.Mem.tail _ ?_)) (by rfl) (by rfl)) ?_
    refine za ?_
    refine wI (xl rfl Tryz.func17 rfl rfl rfl hrr) ?_
    refine za ?_
    refine zW ?_
    refine zW ?_
    refine zW ?_
    refine zd ?_
    intro B16
    refine zd ?_
    intro B17
    refine zb 1 rfl rfl rfl rfl rfl rfl ?_
    refine zb 0 rfl rfl rfl rfl rfl rfl ?_
    refine zc (zD (zl (zx (zm ?_))))
    refine za ?_
    refine za ?_
    refine wI (O.neq rfl rfl rfl (by exact bne_eq_false_iff_eq.2 (by omega))) ?_
    refine za ?_
    refine wI (O.loadK rfl rfl (by repeat (first | exact List.Mem.head _ | refine List.Mem.tail _ ?_)) (by rfl) (by rfl)) ?_
    refine wI (O.loadK rfl rfl (by repeat (first | exact List.Mem.head _ | refine List.Mem.tail _ ?_)) (by rfl) (by rfl)) ?_
    refine wI (xl rfl Tryz.func18 rfl rfl rfl (same_fn (reqR x q n).1 (reqR x q n).1 (reqR_len x q n))) ?_
    refine xu ?_
    refine wI (O.pickF rfl rfl rfl) ?_
    refine za ?_
    refine AO.opG rfl rfl rfl (fun hp => O.loadK rfl rfl (by repeat (first | exact List.Mem.head _ | refine List.Mem.tail _ ?_)) (by rfl) (by rfl)) ?_
    refine AO.opG rfl rfl rfl (fun hp => O.loadK rfl rfl (by repeat (exact List.Mem.head _)) (by rfl) (by rfl)) ?_
    refine AO.opG rfl rfl rfl (fun hp => wL 92 rfl (by exact hp) (wL 93 rfl (by exact hp) (xl rfl Tryz.func19 rfl rfl rfl (bind_same _)))) ?_
    refine AO.opG rfl rfl rfl (fun hp => xX 94 rfl (by exact hp)) ?_
    refine zB (zD (zl ?_))
    refine yn (fun h96 => ?_) (fun h96 => ?_) <;> (try simp only [wN] at h96)
    ·skip
     exact absurd h96 (by simp)
    refine yN (y5 (zl (zm ?_)))
    refine zr ?_
    refine za (zD ?_)
    refine AQ.loopKN _ _ _ (by omega) (⟨q' + 1, by omega, rfl, rfl, rfl⟩) (by repeat (first | exact envNil | refine envCons rfl ?_)) (by repeat (first | exact envNil | refine envCons rfl ?_)) (by repeat (first | exact subPnil | refine subPcons 5 rfl ?_))
   refine xD ?_
   refine xr ?_
   refine xA ?_
   refine yZ (y5 (zl (zm ?_)))
   refine zr ?_
   refine za (zD ?_)
   refine zj _ _ _ (by omega) (⟨j + 1, _, by omega, hkd12, rfl, rfl, rfl⟩)
  refine xD ?_
  refine xr ?_
  refine xA ?_
  refine yZ (y5 (zl (zm ?_)))
  refine zr ?_
  refine za (zD ?_)
  refine zj _ _ _ (by omega) (⟨i + 1, _, by omega, hkdj, rfl, rfl, rfl⟩)
 refine xD ?_
 refine xr ?_
 refine xA ?_
 refine yZ (zl (zx (zm ?_)))
 refine wI (xl rfl Tryz.func10 rfl rfl rfl awake31_fn) ?_
 refine zc (zD (zl (y1 ?_)))
 refine xK rfl rfl ⟨_, List.nil_sublist _, .nil⟩ (⟨rfl, rfl⟩)
end Go.Proofs.YtojomcdjcpmnkaaGreat.By

namespace Go.Proofs.YtojomcdjcpmnkaaGreat.A
open Go.ChangeShapes Go.WideShapes Go.ChangeAt Go.RowKit Go.Deep L
set_option linter.unusedVariables false
set_option maxRecDepth 20000
set_option linter.unusedSimpArgs false
theorem own : ownKnob Tryz.prog.godebug = none := by kernel_rfl
theorem kids : Kids Tryz.prog (· < Tryz.prog.types.size) := kids_rows (by kernel_rfl) (by kernel_rfl)
theorem full : ∀ t e, t < Tryz.prog.types.size → Tryz.prog.underlying t = some (.slice e) → 0 < Tryz.prog.cellsOf e := slices_full_of Tryz.prog (by kernel_rfl)
theorem sameAt_ext {W W' : World} (h : Ext W W') (p : MemPlace) (hp : p.block < W.heap.size) : W.sameAt W' p := by
 have hb : W'.heap[p.block]? = W.heap[p.block]? := h.block _ hp (fun hh => hh)
 cases p with
 | cell b off => exact World.cell?_of_block (w := W) (a := ⟨b, off, none⟩) hb
 | map b => exact hb
section
variable {H : Type} {enc : TypeId × Value → H}
theorem trodAll_carry {P : Program} {W W' : World} {base : Nat} {spare : Nat → Bool} {held : Bool} : ∀ {ts : List TypeId} {vs : List Value} {ds : List (DataW H)} {ps : List MemPlace},
  DataW.TrodAll enc P W base spare held ts vs ds ps → (∀ p ∈ ps, W.sameAt W' p) → DataW.TrodAll enc P W' base spare held ts vs ds ps
 | [], [], [], _, h, _ => h
 | _ :: _, _ :: _, _ :: _, _, ⟨p, q, ⟨n, h1⟩, h2, e⟩, hs => ⟨p, q, ⟨n, DataW.trod_carry n _ _ _ h1 (fun x hx => hs x (by rw [e]; exact List.mem_append_left _ hx))⟩, trodAll_carry h2 (fun x hx => hs x (by rw [e]; exact List.mem_append_right _ hx)), e⟩
/-- A law: it returned true, and nothing that was there has turned. -/
theorem lawPost {fn : Func} {s : ChangeSpec} {W W' : World} {args : Array Value} {ds gs : List (DataW H)} {before : List MemPlace} {bt : TypeId}
  (hW : DataW.Whole enc Tryz.prog fn.params.toList s.vars false W args.toList ds gs before) (hv : s.vars = []) (hfn : s.fn H (ds ++ gs) = { results := [.lit (.bool true)], args := ds }) (hres : fn.resultTypes = #[bt]) (hbt : Tryz.prog.underlying bt = some .bool)
  (hpar : ∀ t ∈ fn.params.toList, t < Tryz.prog.types.size) (hE : Ext W W') : s.post enc Tryz.prog fn false true false false W args (.bool true) W' := by
 have hold : ∀ p ∈ before, (fun b => decide (b < W.heap.size)) p.block = true := fun p hp => by simpa using hW.lt p hp
 have hlt := hW.lt
 have hW' := hW
 obtain ⟨pa, pv, hA, hV, rfl, hz, hn⟩ := hW
 rw [hv] at hV
 obtain ⟨rfl, rfl⟩ := trodVars_none hV
 have hA' : DataW.TrodAll enc Tryz.prog W' 0 (fun _ => true) true fn.params.toList args.toList ds pa := trodAll_carry hA fun p hp => sameAt_ext hE p (hlt p (List.mem_append_left _ hp))
 have hargs : ∀ sp : Nat → Bool, (∀ p ∈ pa ++ [], sp p.block = true) → DataW.TrodAll enc Tryz.prog W' 0 sp true fn.params.toList args.toList ds pa := fun sp hsp =>
  DataW.TrodAll.respare kids full hpar hA' fun p hp => hsp p (by simpa using hp)
 have hres' : ∀ (b : Nat) (sp : Nat → Bool) (hd : Bool), DataW.TrodAll enc Tryz.prog W' b sp hd fn.resultTypes.toList ((Value.bool true).resultList fn.resultTypes.size) [.lit (.bool true)] [] := fun b sp hd => by
  rw [hres]; exact trodAll_cons_mk (shut_bool hbt true) trodAll_mk0
 refine ⟨ds, [], pa ++ [], [], pa, [], hW', by rw [hfn]; exact hres' _ _ _, by rw [hfn]; exact hargs _ hold, by rw [hfn, hv]; rfl, World.keptBut_mono (fun p hp => ⟨hp, ?_⟩) ((hE.toBelow).frame (· ∈ pa ++ [])), fun h => by cases h⟩
 exact Or.inr (by simpa using hp)
/-! ### How arguments read -/
def Old (W : World) : Nat → Prop := fun b => b < W.heap.size
variable {P : Program} {W : World}
/-- A reading of cells of a type as these. -/
theorem rd_int {base : Nat} {spare : Nat → Bool} {held : Bool} {t : TypeId} {k : IntKind} (ht : P.underlying t = some (.int k)) {n : Nat} {cs : List Value} {x : DataW H × List MemPlace} (h : DataW.trod enc P W base spare held n t cs = some x) :
  ∃ z : Int, (Lit.int k z).wf = true ∧ RelL (Old W) W [.val (.int k z)] cs := by
 cases n with
 | zero => simp [DataW.trod] at h
 | succ n =>
  obtain ⟨z, rfl, _, hw⟩ := DataW.trod_int ht h
  exact ⟨z, hw, RelL.cons (.val _) RelL.nil⟩
theorem rd_slice {α : Type} {enc' : α → List AV} {good : α → Prop} {base : Nat} {spare : Nat → Bool} {held : Bool} {t e : TypeId} (ht : P.underlying t = some (.slice e)) (hsz : ∀ a, (enc' a).length = P.cellsOf e) (hpos : 0 < P.cellsOf e)
  (he : ∀ (n : Nat) (cs : List Value) (x : DataW H × List MemPlace), cs.length = P.cellsOf e → DataW.trod enc P W base spare held n e cs = some x → ∃ a, good a ∧ RelL (Old W) W (enc' a) cs)
  {n : Nat} {cs : List Value} {x : DataW H × List MemPlace} (h : DataW.trod enc P W base spare held n t cs = some x) :
  ∃ l : List α, (∀ a ∈ l, good a) ∧ l.length ≤ maxLen ∧ RelL (Old W) W [.ro false l.length (l.flatMap enc')] cs := by
 rcases open_slice ht h with ⟨rfl, -⟩ | ⟨ad, len, cap, m, n', D, Pl, rfl, hb, hl, hm, hmm, hx, hi⟩
 ·exact ⟨[], fun _ h => (by cases h), Nat.zero_le _, RelL.cons (.emp _ _ _ (fun h => by cases h) (Nat.zero_le _)) RelL.nil⟩
 ·have hlm : len ≤ m := by rw [hmm]; split <;> omega
  have hex : ∀ i : Nat, ∃ a : Option α, i < len → ∃ a', a = some a' ∧ good a' ∧ ∃ cs', W.cells? base (ad.add (i * P.cellsOf e)) (P.cellsOf e) = some cs' ∧ RelL (Old W) W (enc' a') cs' := fun i => by
   by_cases hil : i < len
   ·obtain ⟨cs', hc, htr⟩ := hi i (by omega)
    obtain ⟨_, hcl, _⟩ := World.cells?_some hc
    obtain ⟨a, hg, hr⟩ := he _ _ _ hcl htr
    exact ⟨some a, fun _ => ⟨a, rfl, hg, cs', hc, hr⟩⟩
   ·exact ⟨none, fun h => absurd h hil⟩
  obtain ⟨f, hf⟩ := Classical.axiomOfChoice hex
  by_cases hlen0 : len = 0
  ·subst hlen0
   exact ⟨[], fun _ h => (by cases h), Nat.zero_le _, RelL.cons (.emp _ _ _ (fun h => by cases h) hm) RelL.nil⟩
  ·obtain ⟨a0, _, _⟩ := hf 0 (by omega)
   let g : Nat → α := fun i => (f i).getD a0
   have hg : ∀ i, i < len → good (g i) ∧ ∃ cs', W.cells? base (ad.add (i * P.cellsOf e)) (P.cellsOf e) = some cs' ∧ RelL (Old W) W (enc' (g i)) cs' := fun i hi' => by
    obtain ⟨a', ha', h1, h2⟩ := hf i hi'
    have : g i = a' := by simp [g, ha']
    rw [this]; exact ⟨h1, h2⟩
   have hflat : ∀ (len : Nat), (((List.range len).map g).flatMap enc').length = len * P.cellsOf e := by
    intro len
    induction len with
    | zero => simp
    | succ k ih => rw [List.range_succ, List.map_append, List.flatMap_append, List.length_append, ih]; simp [hsz, Nat.add_mul]
   have hflatget : ∀ (len i j : Nat), i < len → j < P.cellsOf e → (((List.range len).map g).flatMap enc')[i * P.cellsOf e + j]? = (enc' (g i))[j]? := by
    intro len
    induction len with
    | zero => intro i j h; omega
    | succ k ih =>
     intro i j h hj
     rw [List.range_succ, List.map_append, List.flatMap_append, List.getElem?_append]
     by_cases hik : i < k
     ·have h1 : (i + 1) * P.cellsOf e ≤ k * P.cellsOf e := Nat.mul_le_mul_right _ (by omega)
      rw [Nat.add_mul] at h1
      rw [if_pos (by rw [hflat]; omega)]
      exact ih i j hik hj
     ·have : i = k := by omega
      subst this
      rw [if_neg (by rw [hflat]; omega), hflat]
      simp
   have hblk : ad.spot = none ∧ ad.block < W.heap.size := by
    obtain ⟨_, cs', hc, _⟩ := hg 0 (by omega)
    obtain ⟨_, hcl, hat⟩ := World.cells?_some hc
    have h0 := hat 0 hpos
    simp only [Nat.zero_mul] at h0
    have h1 : W.cell? ad ≠ none := by
     intro hn
     rw [show (ad.add 0).add 0 = ad by simp [Addr.add]] at h0
     rw [hn] at h0
     have := (List.getElem?_eq_none_iff.1 h0.symm)
     omega
    refine ⟨?_, ?_⟩
    ·cases hsp : ad.spot with
     | none => rfl
     | some _ => exfalso; apply h1; unfold World.cell?; split <;> simp [hsp]
    ·cases hc : W.cell? ad with
     | none => exact absurd hc h1
     | some u => exact World.block_lt_of_cell? W ad hc
   obtain ⟨b, off, sp⟩ := ad
   obtain ⟨rfl, hblt⟩ := hblk
   have hcell : ∀ i j, i < len → j < P.cellsOf e → ∃ u, W.cell? ⟨b, off + (i * P.cellsOf e + j), none⟩ = some u ∧ ∃ x, (enc' (g i))[j]? = some x ∧ RelV (Old W) W x u := fun i j hi' hj => by
    obtain ⟨_, cs', hc, hr⟩ := hg i hi'
    obtain ⟨_, hcl, hat⟩ := World.cells?_some hc
    have h0 := hat j hj
    rw [addr_add, addr_add] at h0
    have hjl : j < cs'.length := by omega
    have hjx : j < (enc' (g i)).length := by rw [hsz]; exact hj
    refine ⟨cs'[j], by rw [← Nat.add_assoc, h0]; simp [hjl], (enc' (g i))[j], by simp [hjx], ?_⟩
    have := hr.2 j hjx
    simpa [hjl] using this
   refine ⟨(List.range len).map g, fun a ha => ?_, by simp; omega, RelL.cons ?_ RelL.nil⟩
   ·obtain ⟨i, hi', rfl⟩ := List.mem_map.1 ha
    exact (hg i (List.mem_range.1 hi')).1
   ·rw [List.length_map, List.length_range]
    have hq : ∀ j, j < (((List.range len).map g).flatMap enc').length → ∃ u, W.cell? ⟨b, off + j, none⟩ = some u ∧ ∃ x, (((List.range len).map g).flatMap enc')[j]? = some x ∧ RelV (Old W) W x u := fun j hj => by
     rw [hflat] at hj
     have h1 : j / P.cellsOf e < len := (Nat.div_lt_iff_lt_mul hpos).2 hj
     have h2 := Nat.mod_lt j hpos
     have h3 : j / P.cellsOf e * P.cellsOf e + j % P.cellsOf e = j := by rw [Nat.mul_comm]; exact Nat.div_add_mod j _
     obtain ⟨u, hu, x, hx', hr⟩ := hcell (j / P.cellsOf e) (j % P.cellsOf e) h1 h2
     rw [h3] at hu
     refine ⟨u, hu, x, ?_, hr⟩
     have := hflatget len _ _ h1 h2
     rw [h3] at this
     rw [this, hx']
    refine .ro false len _ b off cap (fun j => (W.cell? ⟨b, off + j, none⟩).getD undef) hblt (fun j hj => ?_) (fun j hj => ?_) hl hm (fun h => by cases h)
    ·obtain ⟨u, hu, _⟩ := hq j hj
     rw [hu]; rfl
    ·obtain ⟨u, hu, x, hx', hr⟩ := hq j hj
     rw [hu]
     simp only [Option.getD_some]
     have : x = (((List.range len).map g).flatMap enc')[j] := by
      rw [List.getElem?_eq_getElem hj] at hx'; exact (Option.some.inj hx').symm
     rw [← this]; exact hr
theorem flatMap_one {α : Type} (f : α → AV) (l : List α) : l.flatMap (fun a => [f a]) = l.map f := by
 induction l with
 | nil => rfl
 | cons a l ih => simp [List.flatMap_cons, ih]
theorem rd_ints {base : Nat} {spare : Nat → Bool} {held : Bool} {t e : TypeId} {k : IntKind} (ht : P.underlying t = some (.slice e)) (he : P.underlying e = some (.int k)) (h1 : P.cellsOf e = 1) {n : Nat} {cs : List Value} {x : DataW H × List MemPlace} (h : DataW.trod enc P W base spare held n t cs = some x) :
  ∃ l : List Int, (∀ z ∈ l, (Lit.int k z).wf = true) ∧ l.length ≤ maxLen ∧ RelL (Old W) W [.ro false l.length (intsA k l)] cs := by
 obtain ⟨l, h2, h3, h4⟩ := rd_slice (enc' := fun z : Int => [.val (.int k z)]) (good := fun z => (Lit.int k z).wf = true) ht (fun _ => h1.symm) (by omega) (fun n cs x _ h => rd_int he h) h
 rw [flatMap_one] at h4
 exact ⟨l, h2, h3, h4⟩
theorem rd_bytes {base : Nat} {spare : Nat → Bool} {held : Bool} {t e : TypeId} (ht : P.underlying t = some (.slice e)) (he : P.underlying e = some (.int .u8)) (h1 : P.cellsOf e = 1) {n : Nat} {cs : List Value} {x : DataW H × List MemPlace} (h : DataW.trod enc P W base spare held n t cs = some x) :
  ∃ l : List UInt8, l.length ≤ maxLen ∧ RelL (Old W) W [roB l] cs := by
 obtain ⟨l, h2, h3, h4⟩ := rd_ints ht he h1 h
 have hb : ∃ m : List UInt8, l = m.map fun b => ((b.toNat : Nat) : Int) := by
  clear h h3 h4
  induction l with
  | nil => exact ⟨[], rfl⟩
  | cons z l ih =>
   obtain ⟨m, rfl⟩ := ih fun z hz => h2 z (List.mem_cons_of_mem _ hz)
   have hz := h2 z (List.mem_cons_self ..)
   have hz' : 0 ≤ z ∧ z ≤ 255 := by simpa [Lit.wf, IntKind.min, IntKind.max, IntKind.signed, IntKind.bits] using hz
   refine ⟨UInt8.ofNat z.toNat :: m, ?_⟩
   simp only [List.map_cons, List.cons.injEq, and_true]
   rw [UInt8.toNat_ofNat_of_lt' (by simp [UInt8.size]; omega)]
   omega
 obtain ⟨m, rfl⟩ := hb
 refine ⟨m, by simpa using h3, ?_⟩
 simpa [roB, bytesA, intsA, Function.comp_def] using h4
theorem relV_of_one {R : Nat → Prop} {a : AV} {v : Value} (hc : v.cells.toList = [v]) (h : RelL R W [a] v.cells.toList) : RelV R W a v := by
 rw [hc] at h
 obtain ⟨u, r, he, h1, _⟩ := h.uncons
 cases he
 exact h1
theorem relV_of_agg {R : Nat → Prop} {xs : List AV} {cs : Array Value} (h : RelL R W xs (Value.agg cs).cells.toList) : RelV R W (.agg xs) (.agg cs) := by
 have := h.toAgg
 simpa [Value.cells] using this
end
end Go.Proofs.YtojomcdjcpmnkaaGreat.A
namespace Go.Proofs.YtojomcdjcpmnkaaGreat.A
open Go.ChangeShapes Go.WideShapes Go.ChangeAt Go.RowKit L
set_option linter.unusedVariables false
set_option maxRecDepth 20000
set_option linter.unusedSimpArgs false
section
variable {P : Program}
/-- Arguments of this type read as one of these. -/
def Reads (P : Program) (t : TypeId) (φ : AV → Prop) : Prop :=
 ∀ (H : Type) (enc : TypeId × Value → H) (W : World) (base b0 : Nat) (spare : Nat → Bool) (held : Bool) (v : Value) (d : DataW H) (p : List MemPlace),
  Value.okWide P W .any b0 t v → DataW.Trod enc P W base spare held t v d p → ∃ x, φ x ∧ RelV (Old W) W x v
/-- Cells of this type read as one of these. -/
structure RdC (P : Program) (t : TypeId) {α : Type} (f : α → List AV) (good : α → Prop) : Prop where
 len : ∀ a, (f a).length = P.cellsOf t
 rd : ∀ (H : Type) (enc : TypeId × Value → H) (W : World) (base : Nat) (spare : Nat → Bool) (held : Bool) (n : Nat) (cs : List Value) (x : DataW H × List MemPlace),
  DataW.trod enc P W base spare held n t cs = some x → ∃ a, good a ∧ RelL (Old W) W (f a) cs
theorem okw_int {W : World} {r : Reach} {b : Nat} {t : TypeId} {k : IntKind} (ht : P.underlying t = some (.int k)) {v : Value} (h : Value.okWide P W r b t v) : v.cells.toList = [v] := by
 cases v <;> simp [Value.okWide, ht, Cell.okWide, Cell.ok] at h <;> rfl
theorem okw_slice {W : World} {r : Reach} {b : Nat} {t e : TypeId} (ht : P.underlying t = some (.slice e)) {v : Value} (h : Value.okWide P W r b t v) : v.cells.toList = [v] := by
 cases v <;> simp [Value.okWide, ht, Cell.okWide, Cell.ok] at h <;> rfl
theorem okw_bool {W : World} {r : Reach} {b : Nat} {t : TypeId} (ht : P.underlying t = some .bool) {v : Value} (h : Value.okWide P W r b t v) : v.cells.toList = [v] := by
 cases v <;> simp [Value.okWide, ht, Cell.okWide, Cell.ok] at h <;> rfl
theorem RelL.glue {R : Nat → Prop} {W : World} {xs ys : List AV} {cs : List Value} {o k : Nat} (h1 : RelL R W xs ((cs.drop o).take k)) (h2 : RelL R W ys (cs.drop (o + k))) : RelL R W (xs ++ ys) (cs.drop o) := by
 have := h1.app h2
 rwa [show (cs.drop o).take k ++ cs.drop (o + k) = cs.drop o by rw [← List.drop_drop, List.take_append_drop]] at this
theorem RdC.int {t : TypeId} {k : IntKind} (ht : P.underlying t = some (.int k)) (h1 : P.cellsOf t = 1) : RdC P t (fun z : Int => [.val (.int k z)]) (fun z => (Lit.int k z).wf = true) :=
 ⟨fun _ => h1.symm, fun H enc W base spare held n cs x h => rd_int ht h⟩
theorem RdC.bool {t : TypeId} (ht : P.underlying t = some .bool) (h1 : P.cellsOf t = 1) : RdC P t (fun z : Bool => [.val (.bool z)]) (fun _ => True) :=
 ⟨fun _ => h1.symm, fun H enc W base spare held n cs x h => by
  obtain ⟨b, rfl, _⟩ := DataW.trod_bool ht h
  exact ⟨b, trivial, RelL.cons (.val _) RelL.nil⟩⟩
theorem RdC.string {t : TypeId} (ht : P.underlying t = some .string) (h1 : P.cellsOf t = 1) : RdC P t (fun s : ByteArray => [.val (.string s)]) (fun s => s.size ≤ maxLen) :=
 ⟨fun _ => h1.symm, fun H enc W base spare held n cs x h => by
  obtain ⟨b, rfl, _, hs⟩ := DataW.trod_string ht h
  exact ⟨b, hs, RelL.cons (.val _) RelL.nil⟩⟩
theorem RdC.slice {t e : TypeId} {α : Type} {f : α → List AV} {good : α → Prop} (ht : P.underlying t = some (.slice e)) (h1 : P.cellsOf t = 1) (hpos : 0 < P.cellsOf e) (h : RdC P e f good) :
  RdC P t (fun l : List α => [.ro false l.length (l.flatMap f)]) (fun l => (∀ a ∈ l, good a) ∧ l.length ≤ maxLen) :=
 ⟨fun _ => h1.symm, fun H enc W base spare held n cs x hx => by
  obtain ⟨l, h2, h3, h4⟩ := rd_slice ht h.len hpos (fun n cs x _ hx => h.rd H enc W base spare held n cs x hx) hx
  exact ⟨l, ⟨h2, h3⟩, h4⟩⟩
theorem RdC.bytes {t e : TypeId} (ht : P.underlying t = some (.slice e)) (he : P.underlying e = some (.int .u8)) (h1 : P.cellsOf t = 1) (h2 : P.cellsOf e = 1) : RdC P t (fun l : List UInt8 => [roB l]) (fun l => l.length ≤ maxLen) :=
 ⟨fun _ => h1.symm, fun H enc W base spare held n cs x hx => rd_bytes ht he h2 hx⟩
theorem RdC.ints {t e : TypeId} {k : IntKind} (ht : P.underlying t = some (.slice e)) (he : P.underlying e = some (.int k)) (h1 : P.cellsOf t = 1) (h2 : P.cellsOf e = 1) :
  RdC P t (fun l : List Int => [.ro false l.length (intsA k l)]) (fun l => (∀ z ∈ l, (Lit.int k z).wf = true) ∧ l.length ≤ maxLen) :=
 ⟨fun _ => h1.symm, fun H enc W base spare held n cs x hx => by
  obtain ⟨l, h3, h4, h5⟩ := rd_ints ht he h2 hx
  exact ⟨l, ⟨h3, h4⟩, h5⟩⟩
/-- Fields, one after the other, from cell o on. -/
structure FR (P : Program) (fs : List Field) (o m : Nat) {α : Type} (f : α → List AV) (good : α → Prop) : Prop where
 len : ∀ a, (f a).length = m
 rd : ∀ (H : Type) (enc : TypeId × Value → H) (W : World) (base : Nat) (spare : Nat → Bool) (held : Bool) (cs : List Value), cs.length = o + m →
  (∀ fd ∈ fs, ∃ (n : Nat) (y : DataW H × List MemPlace), DataW.trod enc P W base spare held n fd.type ((cs.drop fd.offset).take (P.cellsOf fd.type)) = some y) → ∃ a, good a ∧ RelL (Old W) W (f a) (cs.drop o)
theorem FR.nil {o : Nat} : FR P [] o 0 (fun _ : Unit => []) (fun _ => True) :=
 ⟨fun _ => rfl, fun H enc W base spare held cs hl _ => ⟨(), trivial, by rw [List.drop_of_length_le (by omega)]; exact RelL.nil⟩⟩
theorem FR.cons {fd : Field} {fs : List Field} {o k m : Nat} {α β : Type} {f : α → List AV} {good : α → Prop} {g : β → List AV} {good' : β → Prop} (h : RdC P fd.type f good) (ho : fd.offset = o) (hk : P.cellsOf fd.type = k) (hs : FR P fs (o + k) m g good') :
  FR P (fd :: fs) o (k + m) (fun p : α × β => f p.1 ++ g p.2) (fun p => good p.1 ∧ good' p.2) :=
 ⟨fun p => by rw [List.length_append, h.len, hs.len, hk], fun H enc W base spare held cs hl hall => by
  obtain ⟨n, y, h1⟩ := hall fd (List.mem_cons_self ..)
  rw [ho, hk] at h1
  obtain ⟨a, h2, h3⟩ := h.rd H enc W base spare held _ _ _ h1
  obtain ⟨b, h4, h5⟩ := hs.rd H enc W base spare held cs (by omega) (fun fd hfd => hall fd (List.mem_cons_of_mem _ hfd))
  exact ⟨(a, b), ⟨h2, h4⟩, RelL.glue h3 h5⟩⟩
theorem RdC.struct {t : TypeId} {fs : List Field} {m : Nat} {α : Type} {f : α → List AV} {good : α → Prop} (ht : P.underlying t = some (.struct fs.toArray)) (hm : P.cellsOf t = m) (h : FR P fs 0 m f good) : RdC P t f good :=
 ⟨fun a => by rw [h.len, hm], fun H enc W base spare held n cs x hx => by
  obtain ⟨xs, n', _, _, hl, hlen, hf⟩ := DataW.trod_struct ht hx
  obtain ⟨a, h1, h2⟩ := h.rd H enc W base spare held cs (by omega) (fun fd hfd => by
   obtain ⟨i, hi, rfl⟩ := List.getElem_of_mem hfd
   have h0 := hf i fs[i] (by simp [hi])
   have hxi : i < xs.length := by rw [hlen]; simpa using hi
   rw [List.getElem?_eq_getElem hxi] at h0
   exact ⟨n', _, h0⟩)
  exact ⟨a, h1, by simpa using h2⟩⟩
theorem RdC.map {t : TypeId} {α β : Type} {f : α → List AV} {good : α → Prop} {g : β → List AV} {good' : β → Prop} (h : RdC P t f good) (φ : α → β) (hφ : ∀ a, good a → good' (φ a) ∧ f a = g (φ a)) (hl : ∀ b, (g b).length = P.cellsOf t) : RdC P t g good' :=
 ⟨hl, fun H enc W base spare held n cs x hx => by
  obtain ⟨a, h1, h2⟩ := h.rd H enc W base spare held n cs x hx
  exact ⟨φ a, (hφ a h1).1, (hφ a h1).2 ▸ h2⟩⟩
theorem RdC.reads {t : TypeId} {α : Type} {f : α → List AV} {good : α → Prop} (h : RdC P t f good) (g : α → AV) (hg : ∀ a, f a = [g a]) (hw : ∀ (W : World) (b : Nat) (v : Value), Value.okWide P W .any b t v → v.cells.toList = [v]) : Reads P t (fun x => ∃ a, good a ∧ x = g a) :=
 fun H enc W base b0 spare held v d p hv ⟨n, hx⟩ => by
  obtain ⟨a, h1, h2⟩ := h.rd H enc W base spare held n _ _ hx
  rw [hg] at h2
  exact ⟨g a, ⟨a, h1, rfl⟩, relV_of_one (hw _ _ _ hv) h2⟩
theorem RdC.readsAgg {t : TypeId} {α : Type} {f : α → List AV} {good : α → Prop} (h : RdC P t f good) (hw : ∀ (W : World) (b : Nat) (v : Value), Value.okWide P W .any b t v → ∃ cs, v = .agg cs) : Reads P t (fun x => ∃ a, good a ∧ x = .agg (f a)) :=
 fun H enc W base b0 spare held v d p hv ⟨n, hx⟩ => by
  obtain ⟨cs, rfl⟩ := hw _ _ _ hv
  obtain ⟨a, h1, h2⟩ := h.rd H enc W base spare held n _ _ hx
  exact ⟨.agg (f a), ⟨a, h1, rfl⟩, relV_of_agg h2⟩
theorem Reads.int {t : TypeId} {k : IntKind} (ht : P.underlying t = some (.int k)) (h1 : P.cellsOf t = 1) : Reads P t (fun x => ∃ z : Int, (Lit.int k z).wf = true ∧ x = .val (.int k z)) := (RdC.int ht h1).reads (fun z => .val (.int k z)) (fun _ => rfl) (fun _ _ _ h => okw_int ht h)
theorem Reads.bool {t : TypeId} (ht : P.underlying t = some .bool) (h1 : P.cellsOf t = 1) : Reads P t (fun x => ∃ z : Bool, True ∧ x = .val (.bool z)) := (RdC.bool ht h1).reads (fun z => .val (.bool z)) (fun _ => rfl) (fun _ _ _ h => okw_bool ht h)
theorem Reads.bytes {t e : TypeId} (ht : P.underlying t = some (.slice e)) (he : P.underlying e = some (.int .u8)) (h1 : P.cellsOf t = 1) (h2 : P.cellsOf e = 1) : Reads P t (fun x => ∃ l : List UInt8, l.length ≤ maxLen ∧ x = roB l) := (RdC.bytes ht he h1 h2).reads roB (fun _ => rfl) (fun _ _ _ h => okw_slice ht h)
theorem Reads.ints {t e : TypeId} {k : IntKind} (ht : P.underlying t = some (.slice e)) (he : P.underlying e = some (.int k)) (h1 : P.cellsOf t = 1) (h2 : P.cellsOf e = 1) :
  Reads P t (fun x => ∃ l : List Int, ((∀ z ∈ l, (Lit.int k z).wf = true) ∧ l.length ≤ maxLen) ∧ x = .ro false l.length (intsA k l)) := (RdC.ints ht he h1 h2).reads (fun l => .ro false l.length (intsA k l)) (fun _ => rfl) (fun _ _ _ h => okw_slice ht h)
theorem Reads.slice {t e : TypeId} {α : Type} {f : α → List AV} {good : α → Prop} (ht : P.underlying t = some (.slice e)) (h1 : P.cellsOf t = 1) (hpos : 0 < P.cellsOf e) (h : RdC P e f good) :
  Reads P t (fun x => ∃ l : List α, ((∀ a ∈ l, good a) ∧ l.length ≤ maxLen) ∧ x = .ro false l.length (l.flatMap f)) := (RdC.slice ht h1 hpos h).reads (fun l => .ro false l.length (l.flatMap f)) (fun _ => rfl) (fun _ _ _ h => okw_slice ht h)
/-- All arguments. -/
def ReadsL (P : Program) : List TypeId → List (AV → Prop) → Prop
 | [], [] => True
 | t :: ts, φ :: φs => Reads P t φ ∧ ReadsL P ts φs
 | _, _ => False
theorem ReadsL.nil : ReadsL P [] [] := trivial
theorem ReadsL.cons {t : TypeId} {ts : List TypeId} {φ : AV → Prop} {φs : List (AV → Prop)} (h : Reads P t φ) (hs : ReadsL P ts φs) : ReadsL P (t :: ts) (φ :: φs) := ⟨h, hs⟩
def AllOf : List (AV → Prop) → (List AV → Prop) → Prop
 | [], K => K []
 | φ :: φs, K => ∀ x, φ x → AllOf φs (fun xs => K (x :: xs))
theorem readAll {H : Type} {enc : TypeId × Value → H} {W : World} {base b0 : Nat} {spare : Nat → Bool} {held : Bool} : ∀ {ts : List TypeId} {φs : List (AV → Prop)} {K : List AV → Prop} {vs : List Value} {ds : List (DataW H)} {ps : List MemPlace},
  ReadsL P ts φs → AllOf φs K → (∀ (j : Nat) t v, ts[j]? = some t → vs[j]? = some v → Value.okWide P W .any b0 t v) → DataW.TrodAll enc P W base spare held ts vs ds ps → ∃ xs, K xs ∧ RelL (Old W) W xs vs
 | [], [], K, vs, ds, ps, _, hK, _, hT => by
  obtain ⟨rfl, _, _⟩ := trodAll_nil hT
  exact ⟨[], hK, RelL.nil⟩
 | [], _ :: _, _, _, _, _, h, _, _, _ => h.elim
 | _ :: _, [], _, _, _, _, h, _, _, _ => h.elim
 | t :: ts, φ :: φs, K, vs, ds, ps, h, hK, hv, hT => by
  obtain ⟨v0, vs0, d0, ds0, p0, q0, rfl, rfl, rfl, h0, r0⟩ := trodAll_cons hT
  obtain ⟨x, h1, h2⟩ := h.1 H enc W base b0 spare held v0 d0 p0 (hv 0 t v0 rfl rfl) h0
  obtain ⟨xs, h3, h4⟩ := readAll h.2 (hK x h1) (fun j t v a b => hv (j + 1) t v a b) r0
  exact ⟨x :: xs, h3, RelL.cons h2 h4⟩
end
theorem law_contract {f : FuncId} {fn : Func} {s : ChangeSpec} {H : Type} (enc : TypeId × Value → H) {ts : List TypeId} {φs : List (AV → Prop)} (hp : fn.params.toList = ts) (hr : ReadsL Tryz.prog ts φs)
  (h : AllOf φs fun xs => Sp Tryz.prog f xs [] (Is (.val (.bool true)))) {W : World} {base : Nat} {args : Array Value} {ds gs : List (DataW H)} {before : List MemPlace}
  (hval : ∀ (j : Nat) t v, fn.params[j]? = some t → args[j]? = some v → Value.okWide Tryz.prog W .any base t v)
  (hW : DataW.Whole enc Tryz.prog fn.params.toList s.vars false W args.toList ds gs before)
  (post : ∀ W', Ext W W' → s.post enc Tryz.prog fn false true false false W args (.bool true) W') :
  Calls Tryz.prog f args W fun e W' => ∃ v, e = .returned v ∧ s.post enc Tryz.prog fn false true false false W args v W' := by
 obtain ⟨p, q, hA, hV, rfl, hfz, hnd⟩ := hW
 rw [hp] at hA
 obtain ⟨xs, hS, hR⟩ := readAll (b0 := base) hr h (fun j t v h1 h2 => hval j t v (by rw [← Array.getElem?_toList, hp]; exact h1) (by rw [← Array.getElem?_toList]; exact h2)) hA
 have hc := hS W (Old W) args.toList (fun b hb => hb) (fun e he => by cases he) .nil hR
 rw [Array.toArray_toList] at hc
 refine hc.mono ?_
 rintro e W' ⟨u, r, H', R', rfl, ⟨rfl, rfl⟩, hs, hv⟩
 obtain rfl := hv.val_inv
 exact ⟨_, rfl, post W' (hs.mods.mono fun b _ ⟨e, he, _⟩ => by cases he)⟩
end Go.Proofs.YtojomcdjcpmnkaaGreat.A
namespace Go.Proofs.YtojomcdjcpmnkaaGreat.By
open Go.RowKit L A
set_option linter.unusedVariables false
set_option maxRecDepth 20000
theorem i64_in {z : Int} (h : (Lit.int .i64 z).wf = true) : -9223372036854775808 ≤ z ∧ z ≤ 9223372036854775807 := by
 simpa [Lit.wf, IntKind.min, IntKind.max, IntKind.signed, IntKind.bits] using h
def GoodO (o : Opt) : Prop := (Lit.int .i64 o.num).wf = true ∧ o.val.length ≤ maxLen
def GoodM (m : Msg) : Prop := ((Lit.int .i64 m.ty).wf = true ∧ (Lit.int .i64 m.code).wf = true ∧ (Lit.int .i64 m.id).wf = true) ∧ m.tok.length ≤ maxLen ∧ ((∀ o ∈ m.opts, GoodO o) ∧ m.opts.length ≤ maxLen) ∧ m.pay.length ≤ maxLen
theorem rdOpt : RdC Tryz.prog 96 cellsO GoodO :=
 (RdC.struct Tryz.underlying96 (by kernel_rfl)
  (.cons (k := 1) (RdC.int Tryz.underlying3 (by kernel_rfl)) rfl (by kernel_rfl)
  (.cons (k := 1) (RdC.bytes Tryz.underlying22 Tryz.underlying5 (by kernel_rfl) (by kernel_rfl)) rfl (by kernel_rfl) .nil))).map
  (fun p => ⟨p.1, p.2.1⟩) (fun p h => ⟨⟨h.1, h.2.1⟩, rfl⟩) (fun _ => by show 2 = _; kernel_rfl)
theorem rdMsg : RdC Tryz.prog 29 cellsM GoodM :=
 (RdC.struct Tryz.underlying29 (by kernel_rfl)
  (.cons (k := 1) (RdC.int Tryz.underlying3 (by kernel_rfl)) rfl (by kernel_rfl)
  (.cons (k := 1) (RdC.int Tryz.underlying3 (by kernel_rfl)) rfl (by kernel_rfl)
  (.cons (k := 1) (RdC.int Tryz.underlying3 (by kernel_rfl)) rfl (by kernel_rfl)
  (.cons (k := 1) (RdC.bytes Tryz.underlying22 Tryz.underlying5 (by kernel_rfl) (by kernel_rfl)) rfl (by kernel_rfl)
  (.cons (k := 1) (RdC.slice Tryz.underlying27 (by kernel_rfl) (of_decide_eq_true (by kernel_rfl)) rdOpt) rfl (by kernel_rfl)
  (.cons (k := 1) (RdC.bytes Tryz.underlying22 Tryz.underlying5 (by kernel_rfl) (by kernel_rfl)) rfl (by kernel_rfl) .nil))))))).map
  (fun p => ⟨p.1, p.2.1, p.2.2.1, p.2.2.2.1, p.2.2.2.2.1, p.2.2.2.2.2.1⟩) (fun p h => ⟨⟨⟨h.1, h.2.1, h.2.2.1⟩, h.2.2.2.1, h.2.2.2.2.1, h.2.2.2.2.2.1⟩, rfl⟩) (fun _ => by show 6 = _; kernel_rfl)
end Go.Proofs.YtojomcdjcpmnkaaGreat.By

namespace Go.Proofs.YtojomcdjcpmnkaaGreat.By
open Go.RowKit Go.Deep L A
set_option linter.unusedVariables false
set_option maxRecDepth 20000
set_option linter.unusedSimpArgs false
abbrev GoodI (x : Inp) : Prop := x.sec.length ≤ maxLen ∧ x.salt.length ≤ maxLen ∧ x.ctx.length ≤ maxLen ∧ x.snd.length ≤ maxLen ∧ x.rcp.length ≤ maxLen
abbrev GoodX (c : Cx) : Prop := GoodI c.inp ∧ c.sk.length ≤ maxLen ∧ c.rk.length ≤ maxLen ∧ c.com.length ≤ maxLen
theorem rdInp : RdC Tryz.prog 24 cI GoodI :=
 (RdC.struct Tryz.underlying24 (by kernel_rfl)
  (.cons (k := 1) (RdC.bytes Tryz.underlying22 Tryz.underlying5 (by kernel_rfl) (by kernel_rfl)) rfl (by kernel_rfl)
  (.cons (k := 1) (RdC.bytes Tryz.underlying22 Tryz.underlying5 (by kernel_rfl) (by kernel_rfl)) rfl (by kernel_rfl)
  (.cons (k := 1) (RdC.bool Tryz.underlying4 (by kernel_rfl)) rfl (by kernel_rfl)
  (.cons (k := 1) (RdC.bytes Tryz.underlying22 Tryz.underlying5 (by kernel_rfl) (by kernel_rfl)) rfl (by kernel_rfl)
  (.cons (k := 1) (RdC.bytes Tryz.underlying22 Tryz.underlying5 (by kernel_rfl) (by kernel_rfl)) rfl (by kernel_rfl)
  (.cons (k := 1) (RdC.bytes Tryz.underlying22 Tryz.underlying5 (by kernel_rfl) (by kernel_rfl)) rfl (by kernel_rfl) .nil))))))).map
  (fun p => ⟨p.1, p.2.1, p.2.2.1, p.2.2.2.1, p.2.2.2.2.1, p.2.2.2.2.2.1⟩) (fun p h => ⟨⟨h.1, h.2.1, h.2.2.2.1, h.2.2.2.2.1, h.2.2.2.2.2.1⟩, rfl⟩) (fun _ => by show 6 = _; kernel_rfl)
theorem rdCx : RdC Tryz.prog 26 cX GoodX :=
 (RdC.struct Tryz.underlying26 (by kernel_rfl)
  (.cons (k := 6) rdInp rfl (by kernel_rfl)
  (.cons (k := 1) (RdC.bytes Tryz.underlying22 Tryz.underlying5 (by kernel_rfl) (by kernel_rfl)) rfl (by kernel_rfl)
  (.cons (k := 1) (RdC.bytes Tryz.underlying22 Tryz.underlying5 (by kernel_rfl) (by kernel_rfl)) rfl (by kernel_rfl)
  (.cons (k := 1) (RdC.bytes Tryz.underlying22 Tryz.underlying5 (by kernel_rfl) (by kernel_rfl)) rfl (by kernel_rfl) .nil))))).map
  (fun p => ⟨p.1, p.2.1, p.2.2.1, p.2.2.2.1⟩) (fun p h => ⟨⟨h.1, h.2.1, h.2.2.1, h.2.2.2.1⟩, rfl⟩) (fun _ => by show 9 = _; kernel_rfl)
end Go.Proofs.YtojomcdjcpmnkaaGreat.By
