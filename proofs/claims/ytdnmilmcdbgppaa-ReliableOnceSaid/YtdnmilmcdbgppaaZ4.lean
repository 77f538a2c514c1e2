/-
  ReliableOnce, the statement: for every input the law returns true, and its arguments read as before. No condition.
-/
import Derived.Test.YtdnmilmcdbgppaaZ3
namespace Go.Proofs.Ytdnmilmcdbgppaa.By
open Go.RowKit L A
set_option linter.unusedVariables false
set_option maxRecDepth 20000
set_option linter.unusedSimpArgs false
theorem stayF_key {now : Int} {w w' : Wt} (h : stayF now w = some w') : w'.peer = w.peer ∧ w'.m = w.m := by
  unfold stayF at h
  split at h
  · cases h; exact ⟨rfl, rfl⟩
  · split at h
    · cases h; exact ⟨rfl, rfl⟩
    · cases h
theorem stay_keys (now : Int) : ∀ l : List Wt, ((l.filterMap (stayF now)).map kWt).Sublist (l.map kWt)
  | [] => by simp
  | w :: l => by
    rw [List.filterMap_cons]
    cases hs : stayF now w with
    | none => exact (stay_keys now l).cons _
    | some w' =>
      obtain ⟨h1, h2⟩ := stayF_key hs
      simp only [List.map_cons, kWt, h1, h2]
      exact (stay_keys now l).cons_cons _
theorem clean_val {e : Ep} (h : ValE e) (now : Int) : ValE (cleanE e now) := by
  obtain ⟨h1, h2, h3, h4, h5, h6, h7, h8, h9⟩ := h
  refine ⟨h1, h2, Nat.le_trans (clean_used e now) h3, Nat.le_trans (clean_inn e now) h4, h5, h6, fun u hu => h7 u (List.mem_filter.1 hu).1, fun x hx => h8 x (List.mem_filter.1 hx).1, ?_⟩
  exact h9.sublist (List.Sublist.map _ (List.filter_sublist))
theorem tick_val {e : Ep} (h : ValE e) {now : Int} (ht : TimeOk now) : (tickR e now).2.2.2 = 0 ∧ ValE (tickR e now).1 ∧ (tickR e now).1.next = e.next ∧ (tickR e now).1.used = (cleanE e now).used := by
  rw [tickR, if_pos ⟨h, ht⟩]
  refine ⟨rfl, ?_, rfl, rfl⟩
  obtain ⟨h1, h2, h3, h4, h5, h6, h7, h8, h9⟩ := h
  have hc := clean_val ⟨h1, h2, h3, h4, h5, h6, h7, h8, h9⟩ now
  refine ⟨h1, Nat.le_trans (List.length_filterMap_le _ _) h2, hc.2.2.1, hc.2.2.2.1, ?_, h6.sublist (stay_keys now e.out), hc.2.2.2.2.2.2.1, hc.2.2.2.2.2.2.2.1, hc.2.2.2.2.2.2.2.2⟩
  intro w hw
  obtain ⟨w0, hw0, hs⟩ := List.mem_filterMap.1 hw
  obtain ⟨g1, g2, g3, g4, g5, g6⟩ := h5 w0 hw0
  unfold stayF at hs
  split at hs
  · cases hs; exact ⟨g1, g2, g3, g4, g5, g6⟩
  · split at hs
    · cases hs
      have := pw_bd (s := w0.sent) (by omega) (by omega)
      exact ⟨g1, g2, g3, by show 0 ≤ now + pw w0.sent; have := ht.1; omega, by show 1 ≤ w0.sent + 1; omega, by show w0.sent + 1 ≤ 5; omega⟩
    · cases hs
theorem free_in (out : List Wt) (used : List Us) (p next : Int) : 0 ≤ freeI out used p next ∧ freeI out used p next ≤ 65535 := by
  unfold freeI; omega
theorem freeI_spec {out : List Wt} {used : List Us} {p next : Int} (h : used.length + out.length ≤ 48) : takenB out used p (freeI out used p next) = false := (freeK_spec h).2.1
theorem nodup_snoc_map {l : List Wt} {w : Wt} (h : (l.map kWt).Nodup) (hw : ∀ x ∈ l, kWt x ≠ kWt w) : ((l ++ [w]).map kWt).Nodup := by
  rw [List.map_append, List.map_singleton, nodup_snoc]
  refine ⟨h, fun hm => ?_⟩
  obtain ⟨x, hx, he⟩ := List.mem_map.1 hm
  exact hw x hx he
theorem sent_val {c : Ep} (h : ValE c) {p now : Int} {m : Msg} (hp : PeerOk p) (hn : TimeOk now) (hm : ValM m) (hf : ¬SendFull c m) : ValE (sentE c p m now (freeI c.out c.used p c.next)) := by
  obtain ⟨h1, h2, h3, h4, h5, h6, h7, h8, h9⟩ := h
  have hid := free_in c.out c.used p c.next
  have htk := freeI_spec (p := p) (next := c.next) (out := c.out) (used := c.used) (by omega)
  generalize freeI c.out c.used p c.next = id at *
  have hfu : c.used.length < 32 := by by_cases g : c.used.length < 32; exact g; exact absurd (.inl (by omega)) hf
  have hn2 : 0 ≤ (id + 1) % 65536 ∧ (id + 1) % 65536 ≤ 65535 := by omega
  have hus : ∀ u ∈ c.used ++ [(⟨p, id, now + 128⟩ : Us)], OkU u := by
    intro u hu
    rcases List.mem_append.1 hu with hu | hu
    · exact h7 u hu
    · obtain rfl := List.mem_singleton.1 hu
      exact ⟨hp, hid, by show 0 ≤ now + 128; have := hn.1; omega⟩
  have hul : (c.used ++ [(⟨p, id, now + 128⟩ : Us)]).length ≤ 32 := by rw [List.length_append, List.length_singleton]; omega
  by_cases hty : m.ty = 0
  · rw [sentE_con hty]
    have hfo : c.out.length < 16 := by by_cases g : c.out.length < 16; exact g; exact absurd (.inr ⟨hty, by omega⟩) hf
    refine ⟨hn2, by rw [List.length_append, List.length_singleton]; omega, hul, h4, ?_, ?_, hus, h8, h9⟩
    · intro w hw
      rcases List.mem_append.1 hw with hw | hw
      · exact h5 w hw
      · obtain rfl := List.mem_singleton.1 hw
        exact ⟨hp, hty, hm.withId hid, by show 0 ≤ now + 2; have := hn.1; omega, by show (1 : Int) ≤ 1; omega, by show (1 : Int) ≤ 5; omega⟩
    · refine nodup_snoc_map h6 fun x hx he => ?_
      have he1 : x.peer = p := congrArg Prod.fst he
      have he2 : x.m.id = id := congrArg Prod.snd he
      unfold takenB at htk
      rw [Bool.or_eq_false_iff, List.any_eq_false, List.any_eq_false] at htk
      have := htk.2 x hx
      simp [wB, he1, he2] at this
  · rw [sentE_non hty]
    exact ⟨hn2, h2, hul, h4, h5, h6, hus, h8, h9⟩
/-- What was given out and still lives is known to the endpoint. -/
def Knows (e : Ep) (now : Int) (g : List Us) : Prop := ∀ u ∈ g, now < u.till → u ∈ e.used
theorem Knows.later {e : Ep} {now now' : Int} {g : List Us} (h : Knows e now g) (hle : now ≤ now') : Knows e now' g := fun u hu hl => h u hu (by omega)
theorem Knows.clean {e e' : Ep} {now : Int} {g : List Us} (h : Knows e now g) (hu : e'.used = (cleanE e now).used) : Knows e' now g := by
  intro u hg hl
  rw [hu]
  exact List.mem_filter.2 ⟨h u hg hl, by simp [liveU]; omega⟩
theorem Knows.next {e : Ep} {now : Int} {g : List Us} (h : Knows e now g) (n : Int) : Knows { e with next := n } now g := h
theorem val_new {n : Int} (hn : IdOk n) : ValE ⟨n, [], [], []⟩ := ⟨hn, by simp, by simp, by simp, by simp, by simp, by simp, by simp, by simp⟩
end Go.Proofs.Ytdnmilmcdbgppaa.By

namespace Go.Proofs.Ytdnmilmcdbgppaa.By
open Go.RowKit L A
set_option linter.unusedVariables false
set_option maxRecDepth 20000
set_option linter.unusedSimpArgs false
/-- What is sent: the id tells the payload. -/
abbrev payM (t i : Int) : Msg := ⟨t, 2, i, [], [], [u8 (i + 1)]⟩
abbrev ansM (i : Int) : Msg := ⟨2, 68, i, [], [], [u8 (i + 1)]⟩
structure Pk where
  m : Msg
  at_ : Int
def Pk.none : Pk := ⟨Msg.none, 0⟩
abbrev cP (q : Pk) : List AV := [.val (.int .i64 q.m.ty), .val (.int .i64 q.m.code), .val (.int .i64 q.m.id), roB q.m.tok, roO q.m.opts, roB q.m.pay, .val (.int .i64 q.at_)]
def cellsP (q : Pk) : List AV := cP q
theorem cellsP_len (q : Pk) : (cellsP q).length = 7 := rfl
def pksA (l : List Pk) : List AV := l.flatMap cellsP
abbrev pk (l : List Pk) (k : Nat) : Pk := l.getD k Pk.none
@[simp] theorem pksA_len (l : List Pk) : (pksA l).length = l.length * 7 := flat_len cellsP_len l
theorem pksA_snoc (a : List Pk) (w : Pk) : pksA (a ++ [w]) = pksA a ++ cP w := flat_snoc a w
theorem getP {l : List Pk} {k : Nat} (h : k < l.length) {j : Nat} (hj : j = k) : ((pksA l).drop (0 + j * 7)).take 7 = cP (pk l k) := by rw [Nat.zero_add]; exact flat_at cellsP_len Pk.none h hj
theorem byte_val (t : Int) (ht : t = 0 ∨ t = 1) (b : UInt8) : ValM ⟨t, 2, 0, [], [], [b]⟩ := by
  rcases ht with rfl | rfl <;> exact of_decide_eq_true rfl
theorem ansB_val (b : UInt8) : ValM ⟨2, 68, 0, [], [], [b]⟩ := of_decide_eq_true rfl
theorem pay_val {t i : Int} (ht : t = 0 ∨ t = 1) (hi : 0 ≤ i ∧ i ≤ 65535) : ValM (payM t i) := (byte_val t ht _).withId (id := i) hi
theorem ans_val {i : Int} (hi : 0 ≤ i ∧ i ≤ 65535) : ValM (ansM i) := (ansB_val _).withId (id := i) hi
theorem u8_val {i : Int} (hi : 0 ≤ i ∧ i < 255) : ((u8 i).toNat : Int) = i := by
  simp only [u8, UInt8.toNat_ofNat']
  omega
/-! ### The sender -/
structure SideA (a : Ep) (n : Nat) : Prop where
  v : ValE a
  nx : a.next = (n : Int)
  us : ∀ u ∈ a.used, u.id < (n : Int)
  ou : ∀ w ∈ a.out, w.m.id < (n : Int) ∧ w.m = payM 0 w.m.id
theorem sideA_new : SideA ⟨0, [], [], []⟩ 0 := ⟨val_new ⟨by omega, by omega⟩, rfl, by simp, by simp⟩
theorem free_next {out : List Wt} {used : List Us} {p : Int} {n : Nat} (hn : n ≤ 65535) (hu : ∀ u ∈ used, u.id < (n : Int)) (ho : ∀ w ∈ out, w.m.id < (n : Int)) : freeI out used p (n : Int) = (n : Int) := by
  have hk : freeK out used p (n : Int) = 0 := by
    unfold freeK
    rw [show List.range 64 = 0 :: (List.range 63).map (· + 1) by decide +kernel, List.find?_cons_of_pos]
    · rfl
    · have e : ((n : Int) + ((0 : Nat) : Int)) % 65536 = (n : Int) := by omega
      rw [e]
      unfold takenB
      rw [Bool.not_eq_true', Bool.or_eq_false_iff, List.any_eq_false, List.any_eq_false]
      constructor
      · intro u h; have := hu u h; simp [uB]; omega
      · intro w h; have := ho w h; simp [wB]; omega
  rw [freeI, hk]; omega
theorem once_send {a : Ep} {n : Nat} {t now : Int} (h : SideA a n) (hn : n < 200) (ht : t = 0 ∨ t = 1) (hto : TimeOk now) :
    (sendR a 2 ⟨t, 2, 0, [], [], [u8 ((n : Int) + 1)]⟩ now).2.2 = 16 ∨ ((sendR a 2 ⟨t, 2, 0, [], [], [u8 ((n : Int) + 1)]⟩ now).2.2 = 0 ∧ (sendR a 2 ⟨t, 2, 0, [], [], [u8 ((n : Int) + 1)]⟩ now).2.1 = payM t n ∧ SideA (sendR a 2 ⟨t, 2, 0, [], [], [u8 ((n : Int) + 1)]⟩ now).1 (n + 1)) := by
  have hm := byte_val t ht (u8 ((n : Int) + 1))
  have hp : PeerOk 2 := ⟨by omega, by omega⟩
  rw [sendR, if_pos ⟨h.v, hto, hp, hm, by show t = 0 ∨ t = 1; exact ht⟩]
  have hcv := clean_val h.v now
  have hcu : ∀ u ∈ (cleanE a now).used, u.id < (n : Int) := fun u hu => h.us u (List.mem_filter.1 hu).1
  have hco : ∀ w ∈ (cleanE a now).out, w.m.id < (n : Int) := fun w hw => (h.ou w hw).1
  by_cases hf : SendFull (cleanE a now) ⟨t, 2, 0, [], [], [u8 ((n : Int) + 1)]⟩
  · rw [if_pos hf]; exact .inl rfl
  · rw [if_neg hf]
    right
    have hsv := sent_val hcv hp hto hm hf
    have hcn : (cleanE a now).next = (n : Int) := h.nx
    have hfr := free_next (p := 2) (n := n) (by omega) hcu hco
    rw [hcn, hfr] at hsv
    rw [h.nx, hfr]
    refine ⟨rfl, rfl, hsv, ?_, ?_, ?_⟩
    · show ((n : Int) + 1) % 65536 = ((n + 1 : Nat) : Int)
      omega
    · intro u hu
      have hu' : u ∈ (cleanE a now).used ++ [(⟨2, (n : Int), now + 128⟩ : Us)] := hu
      rcases List.mem_append.1 hu' with hu' | hu'
      · have := hcu u hu'; omega
      · obtain rfl := List.mem_singleton.1 hu'
        show (n : Int) < _; omega
    · intro w hw
      by_cases h0 : t = 0
      · subst h0
        rw [sentE_con rfl] at hw
        rcases List.mem_append.1 hw with hw | hw
        · have := h.ou w hw; exact ⟨by omega, this.2⟩
        · obtain rfl := List.mem_singleton.1 hw
          exact ⟨by show (n : Int) < _; omega, rfl⟩
      · rw [sentE_non h0] at hw
        have := h.ou w hw; exact ⟨by omega, this.2⟩
theorem again_mem {now : Int} {l : List Wt} {w : Wt} (h : w ∈ l.filterMap (againF now)) : ∃ x ∈ l, w.m = x.m := by
  obtain ⟨x, hx, hs⟩ := List.mem_filterMap.1 h
  refine ⟨x, hx, ?_⟩
  unfold againF at hs
  split at hs
  · cases hs
  · split at hs
    · cases hs; rfl
    · cases hs
theorem once_tick {a : Ep} {n : Nat} {now : Int} (h : SideA a n) (hto : TimeOk now) :
    (tickR a now).2.2.2 = 0 ∧ SideA (tickR a now).1 n ∧ (tickR a now).2.1.length ≤ 16 ∧ ∀ w ∈ (tickR a now).2.1, ∃ i : Int, 0 ≤ i ∧ i < (n : Int) ∧ w.m = payM 0 i := by
  have ht := tick_val h.v hto
  refine ⟨ht.1, ⟨ht.2.1, ht.2.2.1.trans h.nx, ?_, ?_⟩, ?_, ?_⟩
  · rw [ht.2.2.2]
    exact fun u hu => h.us u (List.mem_filter.1 hu).1
  · rw [tickR, if_pos ⟨h.v, hto⟩]
    intro w hw
    obtain ⟨x, hx, hs⟩ := List.mem_filterMap.1 hw
    have e := (stayF_key hs).2
    rw [e]; exact h.ou x hx
  · rw [tickR, if_pos ⟨h.v, hto⟩]
    exact Nat.le_trans (List.length_filterMap_le _ _) h.v.2.1
  · rw [tickR, if_pos ⟨h.v, hto⟩]
    intro w hw
    obtain ⟨x, hx, hm⟩ := again_mem hw
    have h1 := h.ou x hx
    have h2 := ValM.id (h.v.2.2.2.2.1 x hx).2.2.1
    exact ⟨x.m.id, h2.1, h1.1, hm.trans h1.2⟩
/-! ### The net -/
def NetOk (net : List Pk) (n : Nat) (now : Int) : Prop := ∀ q ∈ net, ∃ t i : Int, (t = 0 ∨ t = 1) ∧ 0 ≤ i ∧ i < (n : Int) ∧ q.m = payM t i ∧ 0 ≤ q.at_ ∧ q.at_ ≤ now
theorem NetOk.later {net : List Pk} {n n' : Nat} {now now' : Int} (h : NetOk net n now) (hn : n ≤ n') (hnow : now ≤ now') : NetOk net n' now' := fun q hq => by
  obtain ⟨t, i, h1, h2, h3, h4, h5, h6⟩ := h q hq
  exact ⟨t, i, h1, h2, by omega, h4, h5, by omega⟩
theorem NetOk.snoc {net : List Pk} {n : Nat} {now : Int} (h : NetOk net n now) {q : Pk} {t i : Int} (ht : t = 0 ∨ t = 1) (hi : 0 ≤ i ∧ i < (n : Int)) (hm : q.m = payM t i) (ha : 0 ≤ q.at_ ∧ q.at_ ≤ now) : NetOk (net ++ [q]) n now := fun x hx => by
  rcases List.mem_append.1 hx with hx | hx
  · exact h x hx
  · obtain rfl := List.mem_singleton.1 hx
    exact ⟨t, i, ht, hi.1, hi.2, hm, ha.1, ha.2⟩
/-! ### The receiver -/
def SideB (b : Ep) (D : List Int) : Prop := ∀ h ∈ b.inn, h.peer = 1 ∧ h.ans = true ∧ h.m = ansM h.id ∧ h.id ∈ D
/-- What was done and may still come is remembered. -/
def Kept (b : Ep) (D : List Int) (net : List Pk) (now : Int) : Prop := ∀ q ∈ net, q.m.id ∈ D → now < q.at_ + 128 → ∃ h ∈ b.inn, h.id = q.m.id ∧ q.at_ + 128 ≤ h.till
theorem Kept.later {b : Ep} {D : List Int} {net : List Pk} {now now' : Int} (h : Kept b D net now) (hn : now ≤ now') : Kept b D net now' := fun q hq hd hl => h q hq hd (by omega)
theorem Kept.snoc {b : Ep} {D : List Int} {net : List Pk} {now : Int} (h : Kept b D net now) {q : Pk} (hq : q.m.id ∈ D → now < q.at_ + 128 → ∃ x ∈ b.inn, x.id = q.m.id ∧ q.at_ + 128 ≤ x.till) : Kept b D (net ++ [q]) now := fun x hx hd hl => by
  rcases List.mem_append.1 hx with hx | hx
  · exact h x hx hd hl
  · obtain rfl := List.mem_singleton.1 hx
    exact hq hd hl
theorem Kept.clean {b : Ep} {D : List Int} {net : List Pk} {now : Int} (h : Kept b D net now) : Kept (cleanE b now) D net now := fun q hq hd hl => by
  obtain ⟨x, hx, h1, h2⟩ := h q hq hd hl
  exact ⟨x, List.mem_filter.2 ⟨hx, by simp [liveH]; omega⟩, h1, h2⟩
theorem SideB.clean {b : Ep} {D : List Int} (h : SideB b D) (now : Int) : SideB (cleanE b now) D := fun x hx => h x (List.mem_filter.1 hx).1
end Go.Proofs.Ytdnmilmcdbgppaa.By

namespace Go.Proofs.Ytdnmilmcdbgppaa.By
open Go.RowKit L A
set_option linter.unusedVariables false
set_option maxRecDepth 20000
set_option linter.unusedSimpArgs false
theorem hB_iff {i : Int} {h : Hd} : hB 1 i h = true ↔ h.peer = 1 ∧ h.id = i := by
  unfold hB; rw [Bool.and_eq_true, beq_iff_eq, beq_iff_eq]
theorem clean_clean (b : Ep) (now : Int) : cleanE (cleanE b now) now = cleanE b now := by
  simp only [cleanE, List.filter_filter, Bool.and_self]
abbrev gotE (c : Ep) (h : Hd) : Ep := ⟨c.next, c.out, c.used, c.inn ++ [h]⟩
theorem clean_got {c : Ep} {now : Int} (hc : cleanE c now = c) {h : Hd} (hl : liveH now h = true) : cleanE (gotE c h) now = gotE c h := by
  have h1 : c.used.filter (liveU now) = c.used := congrArg Ep.used hc
  have h2 : c.inn.filter (liveH now) = c.inn := congrArg Ep.inn hc
  simp only [cleanE, gotE, h1, List.filter_append, h2, List.filter_cons_of_pos hl, List.filter_nil]
theorem got_val {c : Ep} (h : ValE c) {x : Hd} (hx : OkH x) (hl : c.inn.length < 16) (hn : ∀ y ∈ c.inn, kHd y ≠ kHd x) : ValE (gotE c x) := by
  obtain ⟨h1, h2, h3, h4, h5, h6, h7, h8, h9⟩ := h
  refine ⟨h1, h2, h3, by show (c.inn ++ [x]).length ≤ 16; rw [List.length_append, List.length_singleton]; omega, h5, h6, h7, ?_, ?_⟩
  · intro y hy
    have hy' : y ∈ c.inn ++ [x] := hy
    rcases List.mem_append.1 hy' with hy' | hy'
    · exact h8 y hy'
    · obtain rfl := List.mem_singleton.1 hy'
      exact hx
  · show ((c.inn ++ [x]).map kHd).Nodup
    rw [List.map_append, List.map_singleton, nodup_snoc]
    refine ⟨h9, fun hm => ?_⟩
    obtain ⟨y, hy, he⟩ := List.mem_map.1 hm
    exact hn y hy he
theorem find_snoc {p : Hd → Bool} {l : List Hd} {x : Hd} (hl : l.findIdx? p = none) (hx : p x = true) : (l ++ [x]).findIdx? p = some l.length := by
  rw [List.findIdx?_append, hl]
  simp [List.findIdx?_cons, hx]
theorem once_recv {b : Ep} {D : List Int} {net : List Pk} {n : Nat} {now : Int} {q : Pk} {t i : Int} (hv : ValE b) (hB : SideB b D) (hk : Kept b D net now) (hnet : NetOk net n now) (hq : q ∈ net) (hm : q.m = payM t i) (ht : t = 0 ∨ t = 1) (hi : 0 ≤ i ∧ i < 200) (hto : TimeOk now) (hal : now < q.at_ + 128) :
    (recvR b 1 (payM t i) now).2.2.2 = 0 ∧ ValE (recvR b 1 (payM t i) now).1 ∧
      (((recvR b 1 (payM t i) now).2.1 = 2 ∧ SideB (recvR b 1 (payM t i) now).1 D ∧ Kept (recvR b 1 (payM t i) now).1 D net now ∧ i ∈ D ∧ (recvR b 1 (payM t i) now).2.2.1 = ansM i) ∨
       ((recvR b 1 (payM t i) now).2.1 = 6 ∧ SideB (recvR b 1 (payM t i) now).1 D ∧ Kept (recvR b 1 (payM t i) now).1 D net now ∧ i ∉ D) ∨
       ((recvR b 1 (payM t i) now).2.1 = 1 ∧ i ∉ D ∧ (answerR (recvR b 1 (payM t i) now).1 1 i ⟨0, 68, 0, [], [], [u8 (i + 1)]⟩ now).2.2 = 0 ∧ ValE (answerR (recvR b 1 (payM t i) now).1 1 i ⟨0, 68, 0, [], [], [u8 (i + 1)]⟩ now).1 ∧
         SideB (answerR (recvR b 1 (payM t i) now).1 1 i ⟨0, 68, 0, [], [], [u8 (i + 1)]⟩ now).1 (i :: D) ∧ Kept (answerR (recvR b 1 (payM t i) now).1 1 i ⟨0, 68, 0, [], [], [u8 (i + 1)]⟩ now).1 (i :: D) net now)) := by
  have hp : PeerOk 1 := ⟨by omega, by omega⟩
  have hi2 : 0 ≤ i ∧ i ≤ 65535 := by omega
  have e0 : recvR b 1 (payM t i) now = gotR (cleanE b now) 1 (payM t i) now := by
    rw [recvR, if_pos ⟨hv, hto, hp, pay_val ht hi2⟩, if_neg (by show ¬(t = 2 ∨ t = 3); omega), if_neg (by show ¬(2 : Int) = 0; omega)]
  have hcv := clean_val hv now
  have hcB := hB.clean now
  have hck := hk.clean
  have hcc := clean_clean b now
  rw [e0]
  generalize cleanE b now = c at *
  have hno : c.inn.findIdx? (By.hB 1 i) = none → i ∉ D := by
    intro hf hd
    obtain ⟨x, hx, h1, h2⟩ := hck q hq (by rw [hm]; exact hd) hal
    have := List.findIdx?_eq_none_iff.1 hf x hx
    have h3 : By.hB 1 i x = true := hB_iff.2 ⟨(hcB x hx).1, by rw [h1, hm]⟩
    rw [h3] at this; cases this
  cases hf : c.inn.findIdx? (By.hB 1 i) with
  | some j =>
    have e1 : gotR c 1 (payM t i) now = (c, 2, (hd c.inn j).m, 0) := by
      unfold gotR
      rw [show c.inn.findIdx? (By.hB 1 (payM t i).id) = some j from hf]
    rw [e1]
    refine ⟨rfl, hcv, .inl ⟨rfl, hcB, hck, ?_⟩⟩
    rw [List.findIdx?_eq_some_iff_getElem] at hf
    obtain ⟨hj, hp', -⟩ := hf
    have hx : hd c.inn j ∈ c.inn := getD_mem Hd.none hj
    have he : hd c.inn j = c.inn[j] := by simp [hj]
    rw [← he] at hp'
    have h1 := hcB _ hx
    have h2 := (hB_iff.1 hp').2
    rw [h2] at h1
    exact ⟨h1.2.2.2, h1.2.2.1⟩
  | none =>
    have hnd := hno hf
    by_cases hfull : 16 ≤ c.inn.length
    · have e1 : gotR c 1 (payM t i) now = (c, 6, Msg.none, 0) := by
        unfold gotR
        rw [show c.inn.findIdx? (By.hB 1 (payM t i).id) = none from hf]
        exact if_pos hfull
      rw [e1]
      exact ⟨rfl, hcv, .inr (.inl ⟨rfl, hcB, hck, hnd⟩)⟩
    · have e1 : gotR c 1 (payM t i) now = (gotE c ⟨1, i, now + 128, false, Msg.none⟩, 1, Msg.none, 0) := by
        unfold gotR
        rw [show c.inn.findIdx? (By.hB 1 (payM t i).id) = none from hf]
        exact if_neg hfull
      rw [e1]
      have hkey : ∀ y ∈ c.inn, ∀ a m, kHd y ≠ kHd ⟨1, i, now + 128, a, m⟩ := by
        intro y hy a m he
        have := List.findIdx?_eq_none_iff.1 hf y hy
        have h3 : By.hB 1 i y = true := hB_iff.2 ⟨congrArg Prod.fst he, congrArg Prod.snd he⟩
        rw [h3] at this; cases this
      have hn0 := hto.1
      have hv1 : ValE (gotE c ⟨1, i, now + 128, false, Msg.none⟩) := got_val hcv ⟨hp, hi2, (by show 0 ≤ now + 128; omega), (by intro h; cases h), (fun _ => rfl)⟩ (by omega) (fun y hy => hkey y hy _ _)
      have hv2 : ValE (gotE c ⟨1, i, now + 128, true, ansM i⟩) := got_val hcv ⟨hp, hi2, (by show 0 ≤ now + 128; omega), (fun _ => ans_val hi2), (by intro h; cases h)⟩ (by omega) (fun y hy => hkey y hy _ _)
      have e2 : cleanE (gotE c ⟨1, i, now + 128, false, Msg.none⟩) now = gotE c ⟨1, i, now + 128, false, Msg.none⟩ := clean_got hcc (by simp [liveH]; omega)
      have e3 : answerR (gotE c ⟨1, i, now + 128, false, Msg.none⟩) 1 i ⟨0, 68, 0, [], [], [u8 (i + 1)]⟩ now = (gotE c ⟨1, i, now + 128, true, ansM i⟩, ansM i, 0) := by
        rw [answerR, if_pos ⟨hv1, hto, hp, ans_val hi2⟩, e2]
        have hfs : (gotE c ⟨1, i, now + 128, false, Msg.none⟩).inn.findIdx? (By.hB 1 i) = some c.inn.length := find_snoc hf (hB_iff.2 ⟨rfl, rfl⟩)
        rw [hfs]
        have hg : hd (gotE c ⟨1, i, now + 128, false, Msg.none⟩).inn c.inn.length = ⟨1, i, now + 128, false, Msg.none⟩ := by simp [gotE]
        show (if (hd (gotE c ⟨1, i, now + 128, false, Msg.none⟩).inn c.inn.length).ans = true then _ else _) = _
        rw [hg, if_neg (by simp)]
        simp [gotE]
      rw [e3]
      refine ⟨rfl, hv1, .inr (.inr ⟨rfl, hnd, rfl, hv2, ?_, ?_⟩)⟩
      · intro x hx
        have hx' : x ∈ c.inn ++ [(⟨1, i, now + 128, true, ansM i⟩ : Hd)] := hx
        rcases List.mem_append.1 hx' with hx' | hx'
        · have := hcB x hx'
          exact ⟨this.1, this.2.1, this.2.2.1, List.mem_cons_of_mem _ this.2.2.2⟩
        · obtain rfl := List.mem_singleton.1 hx'
          exact ⟨rfl, rfl, rfl, List.mem_cons_self ..⟩
      · intro q' hq' hd' hl'
        rcases List.mem_cons.1 hd' with h1 | h1
        · refine ⟨⟨1, i, now + 128, true, ansM i⟩, List.mem_append_right _ (List.mem_singleton.2 rfl), h1.symm, ?_⟩
          obtain ⟨_, _, _, _, _, _, _, h6⟩ := hnet q' hq'
          show q'.at_ + 128 ≤ now + 128
          omega
        · obtain ⟨x, hx, h2, h3⟩ := hck q' hq' h1 hl'
          exact ⟨x, List.mem_append_left _ hx, h2, h3⟩
/-! ### The map of what was done -/
abbrev kU (i : Int) : Lit := .int .u8 ((u8 (i + 1)).toNat : Int)
structure DoneM (M : Ents) (D : List Int) : Prop where
  has : ∀ i : Int, 0 ≤ i → i < 200 → mBool (mGet M (kU i) (.bool false)) = decide (i ∈ D)
  len : M.length ≤ D.length
theorem DoneM.nil : DoneM [] [] := ⟨fun i _ _ => rfl, Nat.le_refl _⟩
theorem isKeyU (i : Int) : WideAt.IsKeyLit (kU i) := trivial
theorem DoneM.put {M : Ents} {D : List Int} (h : DoneM M D) {i : Int} (hi : 0 ≤ i ∧ i < 200) : DoneM (mPut M (kU i) (.bool true)) (i :: D) := by
  refine ⟨fun j hj1 hj2 => ?_, ?_⟩
  · by_cases he : j = i
    · subst he
      rw [mGet_same (isKeyU _)]; simp [mBool]
    · rw [mGet_other (isKeyU _) (isKeyU _) (by
        intro hh
        apply he
        have h1 : ((u8 (i + 1)).toNat : Int) = ((u8 (j + 1)).toNat : Int) := by injection hh
        rw [u8_val (by omega), u8_val (by omega)] at h1
        omega), h.has j hj1 hj2]
      refine decide_eq_decide.2 ?_
      rw [List.mem_cons]
      exact ⟨.inr, fun hh => hh.resolve_left he⟩
  · have := mPut_len M (kU i) (.bool true)
    have := h.len
    rw [List.length_cons]; omega
theorem wfU8 (b : UInt8) : (Lit.int .u8 (b.toNat : Int)).wf = true := by
  have := b.toNat_lt
  simp [Lit.wf, IntKind.min, IntKind.max, IntKind.signed, IntKind.bits]
  omega
end Go.Proofs.Ytdnmilmcdbgppaa.By

namespace Go.Proofs.Ytdnmilmcdbgppaa.By
open Go.RowKit L A Dk
set_option linter.unusedVariables false
set_option maxRecDepth 20000
set_option linter.unusedSimpArgs false
attribute [local irreducible] AW AQ AO
abbrev LightTo (l : List Wt) (k : Nat) : Prop := ∀ w ∈ l.take k, w.m.opts.length ≤ 20
def LightE (e : Ep) : Prop := (e.out.length ≤ 40 ∧ e.used.length ≤ 80 ∧ e.inn.length ≤ 40) ∧ LightTo e.out e.out.length
instance (e : Ep) : Decidable (LightE e) := by unfold LightE; infer_instance
theorem LightTo.succ {l : List Wt} {k : Nat} (h : k < l.length) : LightTo l (k + 1) ↔ LightTo l k ∧ (wt l k).m.opts.length ≤ 20 := mem_take_snoc Wt.none h (fun w => w.m.opts.length ≤ 20)
def IsEp (Φ : Ep → Prop) (r : AV) : Prop := ∃ e, Φ e ∧ r = aggE e
end Go.Proofs.Ytdnmilmcdbgppaa.By

namespace Go.Proofs.Ytdnmilmcdbgppaa.By
open Go.RowKit L A Dk
set_option linter.unusedVariables false
set_option maxRecDepth 20000
set_option linter.unusedSimpArgs false
attribute [local irreducible] AW AQ AO
def c3n : List Int := [0, 65534, 9]
end Go.Proofs.Ytdnmilmcdbgppaa.By

namespace Go.Proofs.Ytdnmilmcdbgppaa.By
open Go.RowKit L A Dk
set_option linter.unusedVariables false
set_option maxRecDepth 20000
set_option linter.unusedSimpArgs false
attribute [local irreducible] AW AQ AO
end Go.Proofs.Ytdnmilmcdbgppaa.By

namespace Go.Proofs.Ytdnmilmcdbgppaa.By
open Go.RowKit L A Dk
set_option linter.unusedVariables false
set_option maxRecDepth 20000
set_option linter.unusedSimpArgs false
attribute [local irreducible] AW AQ AO
abbrev cE (e : Ep) : List AV := [.val (.int .i64 e.next), roW e.out, roU e.used, roH e.inn]
def cellsE (e : Ep) : List AV := cE e
def epsA (l : List Ep) : List AV := l.flatMap cellsE
def roE (l : List Ep) : AV := .ro false l.length (epsA l)
abbrev ep (l : List Ep) (k : Nat) : Ep := l.getD k Ep.none
def IsAll (r : AV) : Prop := ∃ (es : List Ep) (ts : List Int), es.length = 5 ∧ ts.length = 5 ∧ (∀ e ∈ es, BdE e ∧ e.out.length ≤ 1000 ∧ e.inn.length ≤ 1000) ∧ r = .tup [roE es, roI ts]
end Go.Proofs.Ytdnmilmcdbgppaa.By

namespace Go.Proofs.Ytdnmilmcdbgppaa.A
open Go.RowKit L
set_option linter.unusedVariables false
set_option maxRecDepth 20000
set_option linter.unusedSimpArgs false

section
variable {P : Program} {ops : Array Oper} {N : Nat}
def alAt (als : List Al) (i : Nat) : Option Al := als.find? fun al => Nat.beq al.i i
def isAl (als : List Al) (i : Nat) : Bool := (alAt als i).isSome
theorem alAt_some {als : List Al} {i : Nat} {al : Al} (h : alAt als i = some al) : al ∈ als ∧ al.i = i := ⟨List.mem_of_find?_eq_some h, Nat.eq_of_beq_eq_true (List.find?_some (p := fun al : Al => Nat.beq al.i i) h)⟩
theorem alAt_mem {als : List Al} (hn : (als.map Al.i).Nodup) {al : Al} (h : al ∈ als) : alAt als al.i = some al := by
  induction als with
  | nil => cases h
  | cons a r ih =>
    rw [List.map_cons, List.nodup_cons] at hn
    unfold alAt
    rw [List.find?_cons]
    rcases List.mem_cons.1 h with rfl | h
    · simp
    · have hne : Nat.beq a.i al.i = false := by
        cases hb : Nat.beq a.i al.i with
        | false => rfl
        | true => exact absurd (List.mem_map.2 ⟨al, h, (Nat.eq_of_beq_eq_true hb).symm⟩) hn.1
      rw [hne]; exact ih hn.2 h
def upd (ea : Nat → Option Nat) (i : Nat) (v : Option Nat) : Nat → Option Nat := fun k => if k = i then v else ea k
theorem upd_same (ea : Nat → Option Nat) (i : Nat) (v : Option Nat) : upd ea i v i = v := if_pos rfl
theorem upd_other (ea : Nat → Option Nat) {i k : Nat} (v : Option Nat) (h : k ≠ i) : upd ea i v k = ea k := if_neg h
def early (als : List Al) (ea : Nat → Option Nat) : List HE := als.flatMap fun al => al.hs (ea al.i)
theorem early_congr {als : List Al} {ea ea' : Nat → Option Nat} (h : ∀ al ∈ als, ea al.i = ea' al.i) : early als ea = early als ea' := by
  induction als with
  | nil => rfl
  | cons a r ih =>
    unfold early at ih ⊢
    rw [List.flatMap_cons, List.flatMap_cons, h a (List.mem_cons_self ..), ih fun al hal => h al (List.mem_cons_of_mem _ hal)]
theorem early_set {als : List Al} (hn : (als.map Al.i).Nodup) {al : Al} (hm : al ∈ als) {ea : Nat → Option Nat} (b : Nat) (h : ea al.i = none) : (early als (upd ea al.i (some b))).Perm (al.he b :: early als ea) := by
  induction als with
  | nil => cases hm
  | cons a r ih =>
    rw [List.map_cons, List.nodup_cons] at hn
    rcases List.mem_cons.1 hm with rfl | hm
    · have e : early r (upd ea al.i (some b)) = early r ea := early_congr fun x hx => upd_other _ _ fun e => hn.1 (List.mem_map.2 ⟨x, hx, e⟩)
      show (al.hs (upd ea al.i (some b) al.i) ++ early r (upd ea al.i (some b))).Perm (al.he b :: (al.hs (ea al.i) ++ early r ea))
      rw [upd_same, h, e]; exact .refl _
    · have hne : a.i ≠ al.i := fun e => hn.1 (List.mem_map.2 ⟨al, hm, e.symm⟩)
      show (a.hs (upd ea al.i (some b) a.i) ++ early r (upd ea al.i (some b))).Perm (al.he b :: (a.hs (ea a.i) ++ early r ea))
      rw [upd_other _ _ hne]
      exact ((ih hn.2 hm).append_left _).trans List.perm_middle
theorem early_clear {als : List Al} (hn : (als.map Al.i).Nodup) {al : Al} (hm : al ∈ als) {ea : Nat → Option Nat} {b : Nat} (h : ea al.i = some b) : (early als ea).Perm (al.he b :: early als (upd ea al.i none)) := by
  have e : ea = upd (upd ea al.i none) al.i (some b) := by
    funext k
    by_cases hk : k = al.i
    · subst hk; rw [upd_same]; exact h
    · rw [upd_other _ _ hk, upd_other _ _ hk]
  have := early_set hn hm (ea := upd ea al.i none) b (upd_same _ _ _)
  rwa [← e] at this
theorem early_none {als : List Al} {ea : Nat → Option Nat} (h : ∀ i, ea i = none) : early als ea = [] := by
  induction als with
  | nil => rfl
  | cons a r ih =>
    show a.hs (ea a.i) ++ early r ea = []
    rw [h, ih]; rfl
def AB (P : Program) (N : Nat) (ops : Array Oper) (als : List Al) (Hs : List HE) (K : Env → List HE → Prop) : List (Nat × Bool) → Env → List HE → Prop
  | [], E, H => K E H
  | (i, true) :: r, E, H => match alAt als i with
    | some al => ∀ b, AB P N ops als Hs K r ((al.d, .val (.pointer (some ⟨b, 0, none⟩))) :: E) (al.he b :: H)
    | none => ∃ o, ops[i]? = some o ∧ ∀ w0 R0, AO ⟨w0, footOf H, R0, N⟩ P ops (QS ⟨w0, footOf H, R0, N⟩ o.dst (fun v H' => AB P N ops als Hs K r (putE o.dst v E) H')) [o] (rst E (o.looksAt ops)) H
  | (i, false) :: r, E, H => ∃ o d v, ops[i]? = some o ∧ o.dst = some d ∧ d < N ∧ OpF P N ops o (rst E (o.looksAt ops)) Hs (Is v) ∧ AB P N ops als Hs K r ((d, v) :: E) H

/-- One operation ahead of another. -/
def ordPairB (ops : Array Oper) (ia : Nat → Bool) (an : List (List Nat)) (i : Nat) (b : Bool) (j : Nat) (c : Bool) : Bool :=
  match ops[i]?, ops[j]? with
  | some oi, some oj =>
    let waits := oj.after.any fun e => Region.binds .any e && e.on == i
    let anc := (an.getD j []).contains i
    (i != j) && (!b || anc || ia j) &&
    (match oj.dst with
      | some d => bif c && !ia j then (!((oi.looksAt ops).contains d || oi.dst == some d)) || anc else !(oi.looksAt ops).contains d && oi.dst != some d
      | none => c && !ia j) &&
    (match oi.dst with
      | some d => !(oj.looksAt ops).contains d || waits
      | none => true)
  | _, _ => false
def ordPairsB (ops : Array Oper) (ia : Nat → Bool) (an : List (List Nat)) : List (Nat × Bool) → Bool
  | [] => true
  | (i, b) :: r => (b || (match ops[i]? with | some o => (match o.dst with | some d => !(o.looksAt ops).contains d | none => false) | none => false)) && r.all (fun q => ordPairB ops ia an i b q.1 q.2) && ordPairsB ops ia an r
def ordOkB (ops : Array Oper) (ia : Nat → Bool) (ord : List (Nat × Bool)) : Bool :=
  ((List.range ops.size).all fun i => (ord.map Prod.fst).contains i) && (ord.all fun q => decide (q.1 < ops.size)) &&
  ((List.range ops.size).all fun i => (ops[i]?).all fun o => o.after.all fun e => !Region.binds .any e || decide (e.on < i)) && (ord.all fun q => !ia q.1 || q.2) && ordPairsB ops ia (ancs ops.toList []) ord

theorem ordPairsB_app {ia : Nat → Bool} {an : List (List Nat)} : ∀ {pre r : List (Nat × Bool)}, ordPairsB ops ia an (pre ++ r) = true → ordPairsB ops ia an r = true ∧ ∀ q ∈ pre, ∀ s ∈ r, ordPairB ops ia an q.1 q.2 s.1 s.2 = true
  | [], r, h => ⟨h, fun q hq => by cases hq⟩
  | (i, b) :: pre, r, h => by
    rw [List.cons_append, ordPairsB] at h
    simp only [Bool.and_eq_true, List.all_eq_true] at h
    obtain ⟨h1, h2⟩ := ordPairsB_app h.2
    refine ⟨h1, fun q hq s hs => ?_⟩
    rcases List.mem_cons.1 hq with rfl | hq
    · exact h.1.2 s (List.mem_append_right _ hs)
    · exact h2 q hq s hs

structure PairOkB (ops : Array Oper) (ia : Nat → Bool) (an : List (List Nat)) (i : Nat) (b : Bool) (oi : Oper) (j : Nat) (c : Bool) (oj : Oper) : Prop where
  ne : i ≠ j
  main : b = true → ia j = false → i ∈ an.getD j []
  flt : c = false ∨ ia j = true → ∃ d, oj.dst = some d ∧ d ∉ oi.looksAt ops ∧ oi.dst ≠ some d
  mn : c = true → ia j = false → ∀ d, oj.dst = some d → (d ∈ oi.looksAt ops ∨ oi.dst = some d) → i ∈ an.getD j []
  reads : ∀ d, oi.dst = some d → d ∈ oj.looksAt ops → ∃ e ∈ oj.after, Region.binds .any e = true ∧ e.on = i
theorem pairOkB {ia : Nat → Bool} {an : List (List Nat)} {i j : Nat} {b c : Bool} {oi oj : Oper} (h : ordPairB ops ia an i b j c = true) (hi : ops[i]? = some oi) (hj : ops[j]? = some oj) : PairOkB ops ia an i b oi j c oj := by
  unfold ordPairB at h
  rw [hi, hj] at h
  simp only [Bool.and_eq_true, bne_iff_ne, ne_eq] at h
  obtain ⟨⟨⟨h1, h2⟩, h3⟩, h4⟩ := h
  refine ⟨h1, fun hb hj => ?_, fun hc => ?_, fun hc hj d hd hm => ?_, fun d hd hm => ?_⟩
  · subst hb; simpa [hj] using h2
  · have hcj : (c && !ia j) = false := by rcases hc with hc | hc <;> simp [hc]
    cases hd : oj.dst with
    | none => rw [hd] at h3; simp only [hcj] at h3; cases h3
    | some d =>
      rw [hd] at h3
      simp only [hcj, cond_false] at h3
      simp at h3
      exact ⟨d, rfl, h3.1, h3.2⟩
  · subst hc
    have hcj : (true && !ia j) = true := by simp [hj]
    rw [hd] at h3
    simp only [hcj, cond_true] at h3
    simp at h3
    rcases h3 with h3 | h3
    · rcases hm with hm | hm
      · exact absurd hm h3.1
      · exact absurd hm h3.2
    · exact h3
  · rw [hd] at h4
    simp only [Bool.or_eq_true, Bool.not_eq_true', List.contains_eq_mem, decide_eq_false_iff_not] at h4
    rcases h4 with h4 | h4
    · exact absurd hm h4
    · obtain ⟨x, hx, hx2⟩ := any_mem h4
      simp only [Bool.and_eq_true, beq_iff_eq] at hx2
      exact ⟨x, hx, hx2.1, hx2.2⟩

/-- The state on the way. -/
structure NB (P : Program) (Γ : Cx) (ops : Array Oper) (als : List Al) (Hs : List HE) (K : Env → List HE → Prop) (ord : List (Nat × Bool)) (listed : Array Bool) (A : Act) (W : World) (pre ms : List (Nat × Bool)) (Pd : List Nat) (ea : Nat → Option Nat) (E : Env) (H : List HE) (R : Nat → Prop) : Prop where
  size : listed.size = ops.size
  closed : Closed ops listed
  part : ∀ i, i < ops.size → (listed.getD i false = false ↔ (i ∈ Pd ∨ i ∈ ms.map Prod.fst) ∧ ea i = none)
  ord : ord = pre ++ ms
  pdp : ∀ i ∈ Pd, (i, false) ∈ pre
  am : AB P Γ.N ops als Hs K ms E H
  pend : ∀ i ∈ Pd, ∃ o d v, ops[i]? = some o ∧ o.dst = some d ∧ d < Γ.N ∧ look E d = some v ∧ OpF P Γ.N ops o (rst E (o.looksAt ops)) Hs (Is v)
  rels : RelS Γ R (H ++ (early als ea ++ Hs)) W
  eal : ∀ i b, ea i = some b → ∃ al ∈ als, al.i = i ∧ (i, true) ∈ ms ∧ A.eval (.tmp al.d) = .pointer (some ⟨b, 0, none⟩)
  defers : A.defers = []
  tmps : A.tmps.size = Γ.N
  act : ∀ t v, look E t = some v → (∀ i ∈ Pd, ∀ o, ops[i]? = some o → o.dst ≠ some t) → (∀ al ∈ als, ea al.i ≠ none → t ≠ al.d) → RelV R W v (A.eval (.tmp t))

variable {Γ : Cx} {als : List Al} {Hs : List HE} {K : Env → List HE → Prop} {ord : List (Nat × Bool)}
def alsOk (P : Program) (N : Nat) (ops : Array Oper) (als : List Al) : Prop := (als.map Al.i).Nodup ∧ ∀ al ∈ als, al.ok P N ops

/-- What reads is pending as soon as it may run. -/
theorem NB.absorb {listed : Array Bool} {A : Act} {W : World} {R : Nat → Prop} (hok : ordPairsB ops (isAl als) (ancs ops.toList []) ord = true) (hals : alsOk P Γ.N ops als) : ∀ (ms pre : List (Nat × Bool)) (Pd : List Nat) (ea : Nat → Option Nat) (E : Env) (H : List HE), NB P Γ ops als Hs K ord listed A W pre ms Pd ea E H R →
    ∃ pre' ms' Pd' ea' E' H', NB P Γ ops als Hs K ord listed A W pre' ms' Pd' ea' E' H' R ∧ (ms' = [] ∨ ∃ m r, ms' = (m, true) :: r ∧ ea' m = none)
  | [], pre, Pd, ea, E, H, h => ⟨pre, [], Pd, ea, E, H, h, .inl rfl⟩
  | (m, true) :: r, pre, Pd, ea, E, H, h => by
    cases hea : ea m with
    | none => exact ⟨pre, _, Pd, ea, E, H, h, .inr ⟨m, r, rfl, hea⟩⟩
    | some b =>
      obtain ⟨al, halm, rfl, -, hpt⟩ := h.eal m b hea
      have hfa : alAt als al.i = some al := alAt_mem hals.1 halm
      have hisal : isAl als al.i = true := by unfold isAl; rw [hfa]; rfl
      obtain ⟨oa, ho, hd, hN, hg, hop⟩ := hals.2 al halm
      have ham := h.am
      rw [AB, hfa] at ham
      have hord := h.ord
      have hq := ordPairsB_app (pre := pre) (r := (al.i, true) :: r) (by rw [← hord]; exact hok)
      have hself : ∀ i ∈ Pd, i ≠ al.i := fun i hi e => by
        have := pairOkB (hq.2 _ (h.pdp i hi) (al.i, true) (List.mem_cons_self ..)) (by rw [e]; exact ho) ho
        exact this.ne e
      have hp : ∀ i ∈ Pd, ∀ oi, ops[i]? = some oi → al.d ∉ oi.looksAt ops ∧ oi.dst ≠ some al.d := fun i hi oi hoi => by
        have := pairOkB (hq.2 _ (h.pdp i hi) (al.i, true) (List.mem_cons_self ..)) hoi ho
        obtain ⟨d', h1, h2, h3⟩ := this.flt (.inr hisal)
        rw [hd] at h1
        cases h1
        exact ⟨h2, h3⟩
      have hnr : al.i ∉ r.map Prod.fst := fun hm => by
        obtain ⟨⟨j, c⟩, hq3, hji⟩ := List.mem_map.1 hm
        have h9 := (ordPairsB_app (pre := pre ++ [(al.i, true)]) (r := r) (by rw [List.append_assoc, List.singleton_append, ← hord]; exact hok)).2 (al.i, true) (by simp) _ hq3
        simp only at hji
        subst hji
        exact (pairOkB h9 ho ho).ne rfl
      refine NB.absorb hok hals r (pre ++ [(al.i, true)]) Pd (upd ea al.i none) ((al.d, .val (.pointer (some ⟨b, 0, none⟩))) :: E) (al.he b :: H) ⟨h.size, h.closed, fun i hi => ?_, by rw [hord]; simp, fun i hi => List.mem_append_left _ (h.pdp i hi), ham b, fun i hi => ?_, ?_, fun i b' hb' => ?_, h.defers, h.tmps, fun t x ht hpd hne => ?_⟩
      · rw [h.part i hi]
        simp only [List.map_cons, List.mem_cons]
        by_cases hia : i = al.i
        · subst hia
          rw [upd_same, hea]
          constructor
          · rintro ⟨_, h2⟩; cases h2
          · rintro ⟨h1 | h1, _⟩
            · exact absurd rfl (hself _ h1)
            · exact absurd h1 hnr
        · rw [upd_other _ _ hia]
          refine and_congr_left fun _ => ?_
          constructor
          · rintro (h1 | h1 | h1)
            · exact .inl h1
            · exact absurd h1 hia
            · exact .inr h1
          · rintro (h1 | h1)
            · exact .inl h1
            · exact .inr (.inr h1)
      · obtain ⟨oi, di, vi, h1, h2, h3, h4, h5⟩ := h.pend i hi
        obtain ⟨h6, h7⟩ := hp i hi oi h1
        refine ⟨oi, di, vi, h1, h2, h3, ?_, by rw [rst_skip h6]; exact h5⟩
        rw [look_skip (fun e => h7 (by rw [h2, e]))]; exact h4
      · refine h.rels.perm ?_
        have h1 := early_clear hals.1 halm hea
        show (al.he b :: (H ++ (early als (upd ea al.i none) ++ Hs))).Perm (H ++ (early als ea ++ Hs))
        refine (List.perm_middle (a := al.he b) (l₁ := H)).symm.trans ?_
        exact ((h1.symm.append_right Hs).append_left H)
      · by_cases hia : i = al.i
        · subst hia; rw [upd_same] at hb'; cases hb'
        · rw [upd_other _ _ hia] at hb'
          obtain ⟨al', h1, h2, h3, h4⟩ := h.eal i b' hb'
          refine ⟨al', h1, h2, ?_, h4⟩
          rcases List.mem_cons.1 h3 with h3 | h3
          · cases h3; exact absurd rfl hia
          · exact h3
      · by_cases hdt : al.d = t
        · subst hdt
          rw [look_here] at ht
          cases ht
          rw [hpt]; exact .val _
        · rw [look_skip hdt] at ht
          refine h.act t x ht hpd fun al' hal' hne' e => ?_
          by_cases hia : al'.i = al.i
          · have h1 := alAt_mem hals.1 hal'
            rw [hia, hfa] at h1
            cases h1
            exact hdt e.symm
          · exact hne al' hal' (by rw [upd_other _ _ hia]; exact hne') e
  | (j, false) :: r, pre, Pd, ea, E, H, h => by
    obtain ⟨o, d, v, ho, hd, hN, hop, ham⟩ := h.am
    have hord := h.ord
    have hq := ordPairsB_app (pre := pre) (r := (j, false) :: r) (by rw [← hord]; exact hok)
    have hself : d ∉ o.looksAt ops := by
      have := hq.1
      rw [ordPairsB] at this
      simp only [Bool.and_eq_true, ho, hd, Bool.false_or] at this
      simpa using this.1.1
    have hp : ∀ i ∈ Pd, ∀ oi, ops[i]? = some oi → d ∉ oi.looksAt ops ∧ oi.dst ≠ some d := fun i hi oi hoi => by
      have := pairOkB (hq.2 _ (h.pdp i hi) (j, false) (List.mem_cons_self ..)) hoi ho
      obtain ⟨d', h1, h2, h3⟩ := this.flt (.inl rfl)
      rw [hd] at h1
      cases h1
      exact ⟨h2, h3⟩
    refine NB.absorb hok hals r (pre ++ [(j, false)]) (j :: Pd) ea ((d, v) :: E) H ⟨h.size, h.closed, fun i hi => ?_, by rw [hord]; simp, fun i hi => ?_, ham, fun i hi => ?_, h.rels, fun i b hb => ?_, h.defers, h.tmps, fun t x ht hpd hea => ?_⟩
    · rw [h.part i hi]
      simp only [List.map_cons, List.mem_cons]
      refine and_congr_left fun _ => ?_
      constructor
      · rintro (h | h | h)
        · exact .inl (.inr h)
        · exact .inl (.inl h)
        · exact .inr h
      · rintro ((h | h) | h)
        · exact .inr (.inl h)
        · exact .inl h
        · exact .inr (.inr h)
    · rcases List.mem_cons.1 hi with rfl | hi
      · simp
      · exact List.mem_append_left _ (h.pdp i hi)
    · rcases List.mem_cons.1 hi with rfl | hi
      · exact ⟨o, d, v, ho, hd, hN, look_here, by rw [rst_skip hself]; exact hop⟩
      · obtain ⟨oi, di, vi, h1, h2, h3, h4, h5⟩ := h.pend i hi
        obtain ⟨h6, h7⟩ := hp i hi oi h1
        refine ⟨oi, di, vi, h1, h2, h3, ?_, by rw [rst_skip h6]; exact h5⟩
        rw [look_skip (fun e => h7 (by rw [h2, e]))]; exact h4
    · obtain ⟨al, h0, h9, h1, h2⟩ := h.eal i b hb
      refine ⟨al, h0, h9, ?_, h2⟩
      rcases List.mem_cons.1 h1 with h1 | h1
      · cases h1
      · exact h1
    · have hne : d ≠ t := fun e => hpd j (List.mem_cons_self ..) o ho (by rw [hd, e])
      rw [look_skip hne] at ht
      exact h.act t x ht (fun i hi => hpd i (List.mem_cons_of_mem _ hi)) hea

theorem NB.reads {listed : Array Bool} {A : Act} {W : World} {R : Nat → Prop} {pre ms : List (Nat × Bool)} {Pd : List Nat} {ea : Nat → Option Nat} {E : Env} {H : List HE} (hok : ordPairsB ops (isAl als) (ancs ops.toList []) ord = true) (hals : alsOk P Γ.N ops als) (h : NB P Γ ops als Hs K ord listed A W pre ms Pd ea E H R)
    {i : Nat} {b : Bool} {o : Oper} (ho : ops[i]? = some o) (hdeps : ∀ e ∈ o.after, Region.binds .any e = true → listed.getD e.on false = true) (hi : (i, b) ∈ pre ∧ i ∈ Pd ∧ b = false ∨ ∃ r, ms = (i, b) :: r ∧ isAl als i = false) : RelA Γ.N R W (rst E (o.looksAt ops)) A := by
  refine ⟨h.defers, h.tmps, fun t v ht => ?_⟩
  obtain ⟨htl, ht⟩ := look_rst ht
  have hnal : ∀ al ∈ als, ea al.i ≠ none → t ≠ al.d := fun al halm hea e => by
    obtain ⟨oa, hoa, hda, -⟩ := hals.2 al halm
    have hisal : isAl als al.i = true := by unfold isAl; rw [alAt_mem hals.1 halm]; rfl
    obtain ⟨b', hb'⟩ := Option.ne_none_iff_exists'.1 hea
    obtain ⟨_, -, -, hmem, -⟩ := h.eal _ b' hb'
    have key : ordPairB ops (isAl als) (ancs ops.toList []) i b al.i true = true → False := fun hp => by
      obtain ⟨d', h1, h2, -⟩ := (pairOkB hp ho hoa).flt (.inr hisal)
      rw [hda] at h1; cases h1
      exact h2 (e ▸ htl)
    rcases hi with ⟨hip, -, -⟩ | ⟨r, hms, hne⟩
    · exact key ((ordPairsB_app (pre := pre) (r := ms) (by rw [← h.ord]; exact hok)).2 _ hip _ hmem)
    · rw [hms] at hmem
      rcases List.mem_cons.1 hmem with h9 | h9
      · cases h9; rw [hisal] at hne; cases hne
      · exact key ((ordPairsB_app (pre := pre ++ [(i, b)]) (r := r) (by have := h.ord; rw [List.append_assoc, List.singleton_append, ← hms, ← this]; exact hok)).2 (i, b) (by simp) _ h9)
  refine h.act t v ht (fun k hk ok hok' hdk => ?_) hnal
  have hkp := h.pdp k hk
  have hkn : ea k = none := Classical.byContradiction fun hne => by
    obtain ⟨b', hb'⟩ := Option.ne_none_iff_exists'.1 hne
    obtain ⟨al, halm, rfl, hmem, -⟩ := h.eal _ b' hb'
    obtain ⟨oa, hoa, hda, -⟩ := hals.2 al halm
    exact (pairOkB ((ordPairsB_app (pre := pre) (r := ms) (by rw [← h.ord]; exact hok)).2 _ hkp _ hmem) hok' hoa).ne rfl
  have hkf : listed.getD k false = false := (h.part k (Array.getElem?_eq_some_iff.1 hok').1).2 ⟨.inl hk, hkn⟩
  have direct : ordPairB ops (isAl als) (ancs ops.toList []) k false i b = true → False := fun hp => by
    obtain ⟨e, he, hb, hon⟩ := (pairOkB hp hok' ho).reads t hdk htl
    have := hdeps e he hb
    rw [hon, hkf] at this; cases this
  rcases hi with ⟨hip, hiP, rfl⟩ | ⟨r, hms, -⟩
  · -- both ahead
    obtain ⟨p1, p2, hp12⟩ := List.append_of_mem hkp
    have hord := h.ord
    rw [hp12, List.append_assoc] at hord
    rw [hp12] at hip
    rcases List.mem_append.1 hip with hip | hip
    · -- i ahead of k
      have hq := ordPairsB_app (pre := p1) (by rw [← hord]; exact hok)
      have := pairOkB (hq.2 _ hip (k, false) (List.mem_cons_self ..)) ho hok'
      obtain ⟨d', h1, h2, -⟩ := this.flt (.inl rfl)
      rw [hdk] at h1; cases h1
      exact h2 htl
    · rcases List.mem_cons.1 hip with he | hip
      · cases he
        -- itself
        have hq := (ordPairsB_app (pre := p1) (by rw [← hord]; exact hok)).1
        rw [List.cons_append, ordPairsB] at hq
        simp only [Bool.and_eq_true] at hq
        obtain rfl : o = ok := by rw [ho] at hok'; exact Option.some.inj hok'
        have := hq.1.1
        rw [ho] at this
        simp only [hdk, Bool.false_or] at this
        simp at this
        exact this htl
      · rw [show p1 ++ ((k, false) :: p2 ++ ms) = (p1 ++ [(k, false)]) ++ (p2 ++ ms) by simp] at hord
        have hq := ordPairsB_app (pre := p1 ++ [(k, false)]) (by rw [← hord]; exact hok)
        exact direct (hq.2 (k, false) (by simp) (i, false) (List.mem_append_left _ hip))
  · have hq := ordPairsB_app (pre := pre) (r := ms) (by rw [← h.ord]; exact hok)
    exact direct (hq.2 _ hkp (i, b) (by rw [hms]; exact List.mem_cons_self ..))

theorem AW.regionB {Q : Exit → Act → World → Prop} {E : Env} {H : List HE} {id : Nat} {l : List Oper} (als : List Al) (hals0 : alsOk P Γ.N l.toArray als) (ord : List (Nat × Bool)) {Hm Hs : List HE} (hm : P.follows .mixedOrders = true) (hok : ordOkB l.toArray (isAl als) ord = true) (hH : SplitH E H Hm Hs)
    (h : AB P Γ.N l.toArray als Hs (fun E' H' => AQ Γ Q .normal E' (H' ++ Hs)) ord E Hm) : AW Γ P Q (.region id l.toArray true) E H := fun R a W hs0 ha0 => by
  obtain ⟨ops, hops⟩ : ∃ ops, ops = l.toArray := ⟨_, rfl⟩
  rw [← hops] at h hok hals0
  have hals := hals0
  simp only [ordOkB, Bool.and_eq_true, List.all_eq_true, List.mem_range] at hok
  obtain ⟨⟨⟨⟨hall, hlt⟩, hbk⟩, hkind⟩, hpairs⟩ := hok
  have hkd : ∀ i b, (i, b) ∈ ord → isAl als i = true → b = true := fun i b hib e => by have := hkind _ hib; simpa [e] using this
  have hback : ∀ i o, ops[i]? = some o → ∀ e ∈ o.after, Region.binds .any e = true → e.on < i := fun i o ho e he hb => by
    have hi : i < ops.size := (Array.getElem?_eq_some_iff.1 ho).1
    have := hbk i hi
    rw [ho] at this
    simp only [Option.all_some] at this
    have := Array.all_eq_true_iff_forall_mem.1 this e he
    simpa [hb] using this
  have main : ∀ (fuel : Nat) (listed : Array Bool) (A : Act) (W : World) (pre ms : List (Nat × Bool)) (Pd : List Nat) (ea : Nat → Option Nat) (E : Env) (H : List HE) (R : Nat → Prop), fuel = listed.toList.count false →
      NB P Γ ops als Hs (fun E' H' => AQ Γ Q .normal E' (H' ++ Hs)) ord listed A W pre ms Pd ea E H R → (ms = [] ∨ ∃ m r, ms = (m, true) :: r ∧ ea m = none) → wpAny P .any ops Q fuel listed A W := by
    intro fuel
    induction fuel with
    | zero =>
      intro listed A W pre ms Pd ea E H R hc hI hhd
      have hlist : ∀ i, i < ops.size → listed.getD i false = true := by
        intro i hi
        have hi' : i < listed.size := by rw [hI.size]; exact hi
        cases hb : listed.getD i false with
        | true => rfl
        | false =>
          exfalso
          have hm : false ∈ listed.toList := by
            rw [← hb]; simp [Array.getD, hi']
          have := List.count_pos_iff.2 hm
          omega
      have hin : ∀ i b, (i, b) ∈ ord → i < ops.size := fun i b hib => by have := hlt _ hib; simpa using this
      have hms : ms = [] := by
        rcases hhd with h | ⟨m, r, h, hm0⟩
        · exact h
        · have h1 := hin m true (by rw [hI.ord, h]; simp)
          have := (hI.part m h1).2 ⟨.inr (by rw [h]; simp), hm0⟩
          rw [hlist m h1] at this; cases this
      have hea : ∀ i, ea i = none := fun i => by
        cases hea : ea i with
        | none => rfl
        | some b => obtain ⟨_, -, -, this, -⟩ := hI.eal i b hea; rw [hms] at this; cases this
      have hPd : Pd = [] := by
        rw [List.eq_nil_iff_forall_not_mem]
        intro i hi
        have h1 := hin i false (by rw [hI.ord]; exact List.mem_append_left _ (hI.pdp i hi))
        have := (hI.part i h1).2 ⟨.inl hi, hea i⟩
        rw [hlist i h1] at this; cases this
      subst hms
      subst hPd
      refine ⟨?_, hI.am R A W (by have := hI.rels; rw [early_none hea] at this; exact this) ⟨hI.defers, hI.tmps, fun t v ht => hI.act t v ht (fun i hi => (by cases hi)) fun al _ hne => absurd (hea _) hne⟩⟩
      rw [List.eq_nil_iff_forall_not_mem]
      intro i hi
      obtain ⟨h0, o, ho, _⟩ := mem_ready.1 hi
      have hi' : i < ops.size := (Array.getElem?_eq_some_iff.1 ho).1
      have := hlist i hi'
      rw [← getD_tf (by rw [hI.size]; exact hi')] at this
      rw [this] at h0; cases h0
    | succ fuel ih =>
      intro listed A W pre ms Pd ea E H R hc hI hhd
      have hne : ∃ i, i ∈ Region.ready .any ops listed := by
        have hex : ∃ i, i < ops.size ∧ listed.getD i false = false := by
          have hpos : 0 < listed.toList.count false := by omega
          obtain ⟨i, hi, hf⟩ := List.getElem_of_mem (List.count_pos_iff.1 hpos)
          have hi' : i < listed.size := by simpa using hi
          exact ⟨i, by rw [← hI.size]; exact hi', by simpa [Array.getD, hi'] using hf⟩
        obtain ⟨i, ⟨hi, hf⟩, hmin⟩ : ∃ i, (i < ops.size ∧ listed.getD i false = false) ∧ ∀ j, j < i → ¬ (j < ops.size ∧ listed.getD j false = false) := by
          obtain ⟨i, h⟩ := hex
          exact least ⟨i, h⟩
        have hio : ops[i]? = some ops[i] := by simp [hi]
        refine ⟨i, mem_ready.2 ⟨by rw [getD_tf (by rw [hI.size]; exact hi)]; exact hf, _, hio, fun e he hb => ?_⟩⟩
        have := hback i _ hio e he hb
        cases hb2 : listed.getD e.on false with
        | true => rfl
        | false => exact absurd ⟨by omega, hb2⟩ (hmin e.on this)
      refine ⟨fun e => (by obtain ⟨i, hi⟩ := hne; rw [e] at hi; cases hi), fun i hi => ?_⟩
      obtain ⟨h0, o, ho, hdeps⟩ := mem_ready.1 hi
      have hio : i < ops.size := (Array.getElem?_eq_some_iff.1 ho).1
      have hf : listed.getD i false = false := by rw [← getD_tf (by rw [hI.size]; exact hio)]; exact h0
      have hil : i < listed.size := by rw [hI.size]; exact hio
      have hanc : ∀ j, j ∈ (ancs ops.toList []).getD i [] → listed.getD j false = true := fun j hj => anc_listed hI.closed hback i o ho hdeps j hj
      have hcl := closed_set hI.closed ho hil hdeps
      have hcnt : fuel = (listed.setIfInBounds i true).toList.count false := by
        have hcs := count_set_true listed.toList i (by simpa using hil) (by simpa [Array.getD, hil] using hf)
        simp only [Array.toList_setIfInBounds]
        omega
      have hgd : ∀ k, k ≠ i → (listed.setIfInBounds i true).getD k false = listed.getD k false := fun k hk => getD_set_ne false (Ne.symm hk)
      have hgi : (listed.setIfInBounds i true).getD i false = true := by simp [Array.getD, hil]
      have hsz : (listed.setIfInBounds i true).size = ops.size := by simpa using hI.size
      obtain ⟨hPm, hni⟩ := (hI.part i hio).1 hf
      cases hfa : alAt als i with
      | some al =>
        -- a box
        obtain ⟨halm, hia0⟩ := alAt_some hfa
        have hia : i = al.i := hia0.symm
        have hisal : isAl als al.i = true := by rw [← hia]; unfold isAl; rw [hfa]; rfl
        obtain ⟨oa, hoa, hda, hNa, hga, hopa⟩ := hals.2 al halm
        obtain rfl : o = oa := by rw [hia, hoa] at ho; exact (Option.some.inj ho).symm
        have hnP : al.i ∉ Pd := fun hp => by
          have := hkd _ _ (by rw [hI.ord]; exact List.mem_append_left _ (hI.pdp _ hp)) hisal
          cases this
        have hmm : (al.i, true) ∈ ms := by
          rcases hPm with h1 | h1
          · exact absurd (hia ▸ h1) hnP
          · obtain ⟨⟨j, c⟩, hq, hji⟩ := List.mem_map.1 h1
            simp only at hji
            have hji' : j = al.i := hji.trans hia
            have := hkd j c (by rw [hI.ord]; exact List.mem_append_right _ hq) (by rw [hji']; exact hisal)
            rw [← hji', ← this]; exact hq
        have hdd : ∀ al' ∈ als, (al'.i, true) ∈ ms → al'.i ≠ al.i → al'.d ≠ al.d := fun al' h1 h3 hne e => by
          obtain ⟨oa', hoa', hda', -⟩ := hals.2 al' h1
          have hisal' : isAl als al'.i = true := by unfold isAl; rw [alAt_mem hals.1 h1]; rfl
          obtain ⟨p, q, hpq⟩ := List.append_of_mem hmm
          have hord : ord = (pre ++ p) ++ (al.i, true) :: q := by rw [hI.ord, hpq, List.append_assoc]
          have h4 := ordPairsB_app (pre := pre ++ p) (r := (al.i, true) :: q) (by rw [← hord]; exact hpairs)
          rw [hpq] at h3
          rcases List.mem_append.1 h3 with h3 | h3
          · obtain ⟨d', g1, g2, g3⟩ := (pairOkB (h4.2 _ (List.mem_append_right _ h3) _ (List.mem_cons_self ..)) hoa' hoa).flt (.inr hisal)
            rw [hda] at g1; cases g1
            exact g3 (by rw [hda', e])
          · rcases List.mem_cons.1 h3 with h3 | h3
            · exact hne (congrArg Prod.fst h3)
            · have h5 := ordPairsB_app (pre := pre ++ p ++ [(al.i, true)]) (r := q) (by have := hord; rw [List.append_assoc _ [(al.i, true)] q, List.singleton_append, ← this]; exact hpairs)
              obtain ⟨d', g1, g2, g3⟩ := (pairOkB (h5.2 (al.i, true) (by simp) _ h3) hoa hoa').flt (.inr hisal')
              rw [hda'] at g1; cases g1
              exact g3 (by rw [hda, e])
        have hs := hopa R A W hI.rels.rlt (fun e he => (by cases he)) (fun e he => (by cases he)) ⟨hI.defers, hI.tmps, fun t v ht => (by cases ht)⟩
        have hnext : ∀ u W', (∃ v' Hn R', NewBlk (fun b => .val (.pointer (some ⟨b, 0, none⟩))) al.T al.room al.xs v' Hn ∧ Post1 R W v' Hn u W' R') → wpAny P .any ops Q fuel (listed.setIfInBounds i true) (A.put o.dst u) W' := by
          rintro u W' ⟨v', Hn, R', ⟨b, rfl, rfl⟩, hp⟩
          have hu := hp.val.val_inv
          subst hu
          have hrel : RelS Γ R' (H ++ (early als (upd ea al.i (some b)) ++ Hs)) W' := by
            refine (hI.rels.step hp).perm ?_
            show (H ++ (early als (upd ea al.i (some b)) ++ Hs)).Perm (al.he b :: (H ++ (early als ea ++ Hs)))
            refine (((early_set hals.1 halm b (by rw [← hia]; exact hni)).append_right Hs).append_left H).trans ?_
            exact List.perm_middle (a := al.he b) (l₁ := H)
          have hI' : NB P Γ ops als Hs (fun E' H' => AQ Γ Q .normal E' (H' ++ Hs)) ord (listed.setIfInBounds i true) (A.put o.dst (.pointer (some ⟨b, 0, none⟩))) W' pre ms Pd (upd ea al.i (some b)) E H R' := by
            refine ⟨hsz, hcl, fun k hk => ?_, hI.ord, hI.pdp, hI.am, hI.pend, hrel, fun k b' hb' => ?_, ?_, ?_, fun t x ht hpd hne => ?_⟩
            · by_cases hki : k = i
              · rw [hki, hgi, hia, upd_same]
                simp
              · rw [hgd k hki, hI.part k hk, upd_other _ _ (fun e => hki (e.trans hia.symm))]
            · by_cases hki : k = al.i
              · subst hki
                rw [upd_same] at hb'
                cases hb'
                refine ⟨al, halm, rfl, hmm, ?_⟩
                rw [hda, eval_put_same (by rw [hI.tmps]; exact hNa)]
              · rw [upd_other _ _ hki] at hb'
                obtain ⟨al', h1, h2, h3, h4⟩ := hI.eal k b' hb'
                refine ⟨al', h1, h2, h3, ?_⟩
                rw [hda, eval_put_other (fun e => hdd al' h1 (by rw [h2]; exact h3) (fun e2 => hki (h2.symm.trans e2)) e.symm)]; exact h4
            · rw [hda]; exact hI.defers
            · rw [hda]; simp [Act.put, hI.tmps]
            · have hdt : al.d ≠ t := fun e => hne al halm (by rw [upd_same]; simp) e.symm
              rw [hda, eval_put_other hdt]
              refine (hI.act t x ht hpd fun al' hal' hne' e => ?_).mono hp.sub (extSame hp.ext hI.rels.rlt)
              by_cases hki : al'.i = al.i
              · have h9 := alAt_mem hals.1 hal'
                rw [hki, ← hia, hfa] at h9
                cases h9
                exact hdt e.symm
              · exact hne al' hal' (by rw [upd_other _ _ hki]; exact hne') e
          obtain ⟨pre', ms', Pd', ea', E', H', hI2, hh2⟩ := hI'.absorb hpairs hals
          exact ih _ _ _ pre' ms' Pd' ea' E' H' R' hcnt hI2 hh2
        unfold wpOp
        rw [ho]
        show if Region.wanted o (yielded ops A.tmps) = true then _ else _
        rw [if_pos (by unfold Region.wanted; rw [hga])]
        refine .inl (Oper.wp_mono ?_ (wp_of_noQ hs))
        rintro A' W' ⟨u, v', Hn, R', rfl, hn, hp⟩
        exact hnext u W' ⟨v', Hn, R', hn, hp⟩
      | none =>
      have hia : isAl als i = false := by unfold isAl; rw [hfa]; rfl
      rcases hPm with hPd | hms
      · -- one that reads
        obtain ⟨o', d, v, ho', hd, hN, hlk, hop⟩ := hI.pend i hPd
        obtain rfl : o = o' := by rw [ho] at ho'; exact Option.some.inj ho'
        have hA := hI.reads hpairs hals ho hdeps (b := false) (.inl ⟨hI.pdp i hPd, hPd, rfl⟩)
        have hs := hop R A W hI.rels.rlt (fun e he => hI.rels.ok e (List.mem_append_right _ (List.mem_append_right _ he))) (fun e he b hb => (hI.rels.own e (List.mem_append_right _ (List.mem_append_right _ he)) b hb).2) hA
        have hnext : ∀ u W', (∃ v' Hn R', Is v v' Hn ∧ Post1 R W v' Hn u W' R') → wpAny P .any ops Q fuel (listed.setIfInBounds i true) (A.put o.dst u) W' := by
          rintro u W' ⟨v', Hn, R', ⟨rfl, rfl⟩, hp⟩
          have hnm : i ∉ ms.map Prod.fst := fun hm => by
            obtain ⟨⟨j, c⟩, hq, hji⟩ := List.mem_map.1 hm
            have hq2 := (ordPairsB_app (pre := pre) (r := ms) (by rw [← hI.ord]; exact hpairs)).2 _ (hI.pdp i hPd) _ hq
            simp only at hji
            subst hji
            exact (pairOkB hq2 ho ho).ne rfl
          have hdne : ∀ al ∈ als, ea al.i ≠ none → d ≠ al.d := fun al halm hne e => by
            obtain ⟨oa, hoa, hda, -⟩ := hals.2 al halm
            obtain ⟨b', hb'⟩ := Option.ne_none_iff_exists'.1 hne
            obtain ⟨_, -, -, hmem, -⟩ := hI.eal _ b' hb'
            have hq2 := (ordPairsB_app (pre := pre) (r := ms) (by rw [← hI.ord]; exact hpairs)).2 _ (hI.pdp i hPd) _ hmem
            obtain ⟨d', h1, h2, h3⟩ := (pairOkB hq2 ho hoa).flt (.inr (by unfold isAl; rw [alAt_mem hals.1 halm]; rfl))
            rw [hda] at h1; cases h1
            exact h3 (by rw [hd, e])
          refine ih _ _ _ pre ms (Pd.filter (· ≠ i)) ea E H R' hcnt ⟨hsz, hcl, fun k hk => ?_, hI.ord, fun k hk => hI.pdp k (List.mem_filter.1 hk).1, hI.am, fun k hk => hI.pend k (List.mem_filter.1 hk).1, by simpa using hI.rels.step hp, fun k b' hb' => ?_, ?_, ?_, fun t x ht hpd hne => ?_⟩ hhd
          · by_cases hki : k = i
            · subst hki
              rw [hgi]
              simp [hnm]
            · rw [hgd k hki, hI.part k hk]
              simp [hki]
          · obtain ⟨al, h0, h9, h1, h2⟩ := hI.eal k b' hb'
            refine ⟨al, h0, h9, h1, ?_⟩
            rw [hd, eval_put_other (hdne al h0 (by rw [h9, hb']; simp))]; exact h2
          · rw [hd]; exact hI.defers
          · rw [hd]; simp [Act.put, hI.tmps]
          · rw [hd]
            by_cases hdt : d = t
            · subst hdt
              rw [hlk] at ht
              cases ht
              rw [eval_put_same (by rw [hI.tmps]; exact hN)]; exact hp.val
            · rw [eval_put_other hdt]
              refine (hI.act t x ht (fun k hk ok hok hdk => ?_) ?_).mono hp.sub (extSame hp.ext hI.rels.rlt)
              by_cases hki : k = i
              · subst hki
                rw [ho] at hok
                cases hok
                rw [hd] at hdk
                cases hdk
                exact hdt rfl
              · exact hpd k (List.mem_filter.2 ⟨hk, by simpa using hki⟩) ok hok hdk
              · exact hne
        unfold wpOp
        rw [ho]
        unfold FStep at hs
        show if Region.wanted o (yielded ops A.tmps) = true then _ else _
        split
        · rename_i hw
          rw [if_pos hw] at hs
          refine .inl (Oper.wp_mono ?_ (wp_of_noQ hs))
          rintro A' W' ⟨u, rfl, hp⟩
          exact hnext u W' hp
        · rename_i hw
          rw [if_neg hw] at hs
          exact hnext _ _ hs
      · -- the next that writes
        rcases hhd with rfl | ⟨m, r, rfl, hm0⟩
        · cases hms
        have hmlt : m < ops.size := by have := hlt (m, true) (by rw [hI.ord]; simp); simpa using this
        have hmf : listed.getD m false = false := (hI.part m hmlt).2 ⟨.inr (by simp), hm0⟩
        have him : i = m := by
          rcases List.mem_cons.1 hms with h | h
          · exact h
          · exfalso
            obtain ⟨⟨j, c⟩, hq, hji⟩ := List.mem_map.1 h
            simp only at hji
            subst hji
            have h9 := (ordPairsB_app (pre := pre ++ [(m, true)]) (r := r) (by have := hI.ord; rw [List.append_assoc, List.singleton_append, ← this]; exact hpairs)).2 (m, true) (by simp) _ hq
            have hom : ops[m]? = some ops[m] := by simp [hmlt]
            have := hanc m ((pairOkB h9 hom ho).main rfl hia)
            rw [hmf] at this; cases this
        subst him
        have ham0 := hI.am
        rw [AB, hfa] at ham0
        obtain ⟨o', ho', hAO⟩ := ham0
        obtain rfl : o = o' := by rw [ho] at ho'; exact Option.some.inj ho'
        have hA := hI.reads hpairs hals ho hdeps (b := true) (.inr ⟨r, rfl, hia⟩)
        have hs := hAO W R R A W ⟨Mods.refl _ _, hI.rels.rlt, fun _ h => h, fun _ h => .inl h, fun e he => hI.rels.ok e (List.mem_append_left _ he), fun e he b hb => ⟨.inr ⟨e, he, hb⟩, (hI.rels.own e (List.mem_append_left _ he) b hb).2⟩, (List.pairwise_append.1 hI.rels.disj).1⟩ hA
        have hnext : ∀ u W', QS ⟨W, footOf H, R, Γ.N⟩ o.dst (fun v H' => AB P Γ.N ops als Hs (fun E' H' => AQ Γ Q .normal E' (H' ++ Hs)) r (putE o.dst v E) H') .normal (A.put o.dst u) W' → wpAny P .any ops Q fuel (listed.setIfInBounds i true) (A.put o.dst u) W' := by
          rintro u W' ⟨hdf, v, H', R', ham, hsr, hvr⟩
          obtain ⟨hrel, hRW⟩ := RelS.part hI.rels hsr
          have hpe : ∀ k ∈ Pd, ea k = none := fun k hk => Classical.byContradiction fun hne => by
            obtain ⟨b', hb'⟩ := Option.ne_none_iff_exists'.1 hne
            obtain ⟨al, halm, rfl, -, -⟩ := hI.eal _ b' hb'
            have := hkd _ _ (by rw [hI.ord]; exact List.mem_append_left _ (hI.pdp _ hk)) (by unfold isAl; rw [alAt_mem hals.1 halm]; rfl)
            cases this
          have hpd : ∀ k ∈ Pd, ∀ ok, ops[k]? = some ok → ∀ d, o.dst = some d → d ∉ ok.looksAt ops ∧ ok.dst ≠ some d := fun k hk ok hok d hd => by
            have h9 := (ordPairsB_app (pre := pre) (r := (i, true) :: r) (by rw [← hI.ord]; exact hpairs)).2 _ (hI.pdp k hk) (i, true) (List.mem_cons_self ..)
            have hkf : listed.getD k false = false := (hI.part k (Array.getElem?_eq_some_iff.1 hok).1).2 ⟨.inl hk, hpe k hk⟩
            have hno : k ∉ (ancs ops.toList []).getD i [] := fun hm => by
              have := hanc k hm
              rw [hkf] at this; cases this
            exact ⟨fun hm => hno ((pairOkB h9 hok ho).mn rfl hia d hd (.inl hm)), fun he => hno ((pairOkB h9 hok ho).mn rfl hia d hd (.inr he))⟩
          have hnr : i ∉ r.map Prod.fst := fun hm => by
            obtain ⟨⟨j, c⟩, hq, hji⟩ := List.mem_map.1 hm
            have h9 := (ordPairsB_app (pre := pre ++ [(i, true)]) (r := r) (by have := hI.ord; rw [List.append_assoc, List.singleton_append, ← this]; exact hpairs)).2 (i, true) (by simp) _ hq
            simp only at hji
            subst hji
            exact (pairOkB h9 ho ho).ne rfl
          have hnp : i ∉ Pd := fun hk => by
            have h9 := (ordPairsB_app (pre := pre) (r := (i, true) :: r) (by rw [← hI.ord]; exact hpairs)).2 _ (hI.pdp i hk) (i, true) (List.mem_cons_self ..)
            exact (pairOkB h9 ho ho).ne rfl
          have hdne : ∀ al ∈ als, ea al.i ≠ none → o.dst ≠ some al.d := fun al halm hne => by
            obtain ⟨oa, hoa, hda, -⟩ := hals.2 al halm
            have hisal : isAl als al.i = true := by unfold isAl; rw [alAt_mem hals.1 halm]; rfl
            obtain ⟨b', hb'⟩ := Option.ne_none_iff_exists'.1 hne
            obtain ⟨_, -, -, hmem, -⟩ := hI.eal _ b' hb'
            rcases List.mem_cons.1 hmem with h1 | h1
            · cases h1; rw [hisal] at hia; cases hia
            · have h9 := (ordPairsB_app (pre := pre ++ [(i, true)]) (r := r) (by have := hI.ord; rw [List.append_assoc, List.singleton_append, ← this]; exact hpairs)).2 (i, true) (by simp) _ h1
              obtain ⟨d', h1, h2, h3⟩ := (pairOkB h9 ho hoa).flt (.inr hisal)
              rw [hda] at h1; cases h1
              exact h3
          have hI' : NB P Γ ops als Hs (fun E' H' => AQ Γ Q .normal E' (H' ++ Hs)) ord (listed.setIfInBounds i true) (A.put o.dst u) W' (pre ++ [(i, true)]) r Pd ea (putE o.dst v E) H' R' := by
            refine ⟨hsz, hcl, fun k hk => ?_, by rw [hI.ord]; simp, fun k hk => List.mem_append_left _ (hI.pdp k hk), ham, fun k hk => ?_, hrel, fun k b' hb' => ?_, hdf, ?_, fun t x ht hp hne => ?_⟩
            · by_cases hki : k = i
              · subst hki
                rw [hgi]
                simp [hnr, hnp]
              · rw [hgd k hki, hI.part k hk]
                simp [hki]
            · obtain ⟨ok, dk, vk, h1, h2, h3, h4, h5⟩ := hI.pend k hk
              refine ⟨ok, dk, vk, h1, h2, h3, ?_, ?_⟩
              · cases hd : o.dst with
                | none => exact h4
                | some d => rw [putE, look_skip (fun e => (hpd k hk ok h1 d hd).2 (by rw [h2, e]))]; exact h4
              · cases hd : o.dst with
                | none => exact h5
                | some d => rw [putE, rst_skip (hpd k hk ok h1 d hd).1]; exact h5
            · obtain ⟨al, h0, h9, h1, h2⟩ := hI.eal k b' hb'
              refine ⟨al, h0, h9, (List.mem_cons.1 h1).resolve_left fun e => (by cases e; rw [hb'] at hni; cases hni), ?_⟩
              cases hd : o.dst with
              | none => exact h2
              | some d => rw [eval_put_other (fun e => hdne al h0 (by rw [h9, hb']; simp) (by rw [hd, e]))]; exact h2
            · cases hd : o.dst <;> simp [Act.put, hI.tmps]
            · cases hd : o.dst with
              | none =>
                rw [hd] at ht
                exact (hI.act t x ht hp hne).mono hsr.rsub hRW
              | some d =>
                rw [hd, putE] at ht
                by_cases hdt : d = t
                · subst hdt
                  rw [look_here] at ht
                  cases ht
                  have := hvr d hd
                  rwa [hd] at this
                · rw [look_skip hdt] at ht
                  rw [eval_put_other hdt]
                  exact (hI.act t x ht hp hne).mono hsr.rsub hRW
          obtain ⟨pre', ms', Pd', ea', E', H'', hI2, hh2⟩ := hI'.absorb hpairs hals
          exact ih _ _ _ pre' ms' Pd' ea' E' H'' R' hcnt hI2 hh2
        unfold wpOp
        rw [ho]
        unfold wpList at hs
        show if Region.wanted o (yielded ops A.tmps) = true then _ else _
        split
        · rename_i hw
          rw [if_pos hw] at hs
          refine .inl ?_
          rcases hs with hs | ⟨-, a', w', hl⟩
          · have hs2 : o.wp P A W (wpList P ops (QS ⟨W, footOf H, R, Γ.N⟩ o.dst (fun v H' => AB P Γ.N ops als Hs (fun E' H' => AQ Γ Q .normal E' (H' ++ Hs)) r (putE o.dst v E) H')) []) NoQ := by
              unfold Oper.wp at hs ⊢
              revert hs
              cases (execOp A.eval o).run P W with
              | ok n w' =>
                cases n with
                | enter f args =>
                  intro hs
                  refine Calls.mono hs ?_
                  intro e w'' he
                  cases e with
                  | returned v => exact he
                  | outgrown => obtain ⟨a', w', hl⟩ := he; exact hl.elim
                  | _ => exact he.elim
                | _ => exact fun h => h
              | halt x w' => cases x <;> exact fun h => h
            refine Oper.wp_mono ?_ (wp_of_noQ (Oper.wp_put hs2))
            rintro A' W' ⟨hq, hA'⟩
            have hq' : QS ⟨W, footOf H, R, Γ.N⟩ o.dst (fun v H' => AB P Γ.N ops als Hs (fun E' H' => AQ Γ Q .normal E' (H' ++ Hs)) r (putE o.dst v E) H') .normal A' W' := hq
            rcases hA' with ⟨u, rfl⟩ | hnd
            · exact hnext u W' hq'
            · exact absurd hq'.1 hnd
          · exact hl.elim
        · rename_i hw
          rw [if_neg hw] at hs
          exact hnext _ _ hs
  have hs : RelS Γ R (Hm ++ Hs) W.drew := (RelS.perm ⟨hs0.mods.drew, hs0.rlt, hs0.rsub, hs0.rnew, fun e he => HE.ok_mono (W := W) (W' := W.drew) (fun _ h => h) (fun _ _ => rfl) (Nat.le_refl _) (fun _ _ => rfl) (hs0.ok e he), hs0.own, hs0.disj⟩ hH.symm)
  have ha : RelA Γ.N R W.drew E a := ha0.mono (fun _ h => h) (fun _ _ => rfl)
  refine wp_region_any hm ?_
  rw [← hops]
  have hI : NB P Γ ops als Hs (fun E' H' => AQ Γ Q .normal E' (H' ++ Hs)) ord (Array.replicate ops.size false) a W.drew [] ord [] (fun _ => none) E Hm R := by
    refine ⟨by simp, fun i o hl => ?_, fun i hi => ?_, rfl, fun i hi => (by cases hi), h, fun i hi => (by cases hi), by rw [early_none fun _ => rfl]; exact hs, fun _ _ h => (by cases h), ha.defers, ha.size, fun t v ht _ _ => ha.slots t v ht⟩
    · exfalso
      by_cases h : i < ops.size <;> simp [Array.getD, h] at hl
    · have := hall i hi
      simp only [List.contains_eq_mem, decide_eq_true_eq] at this
      simp [Array.getD, hi, this]
  obtain ⟨pre', ms', Pd', ea', E', H'', hI2, hh2⟩ := hI.absorb hpairs hals
  exact main _ _ _ _ pre' ms' Pd' ea' E' H'' R (by simp) hI2 hh2

/-! One operation. -/
theorem AB.op {i d : Nat} {r : List (Nat × Bool)} {E : Env} {H : List HE} {o : Oper} {v : AV} (ho : ops[i]? = some o) (h : OpW P N o (rst E (o.looksAt ops)) Hs (Is v)) (hw : wantedIs ops (rst E (o.looksAt ops)) o = some true) (hd : o.dst = some d) (hN : Nat.ble (d + 1) N = true) (k : AB P N ops als Hs K r ((d, v) :: E) H) :
    AB P N ops als Hs K ((i, false) :: r) E H := ⟨o, d, v, ho, hd, Nat.le_of_ble_eq_true hN, .run hw h, k⟩
theorem AB.opG {i d : Nat} {r : List (Nat × Bool)} {E : Env} {H : List HE} {o : Oper} {c : Bool} {v : AV} (ho : ops[i]? = some o) (hw : guardIs ops (rst E (o.looksAt ops)) o = some c) (hd : o.dst = some d) (hN : Nat.ble (d + 1) N = true) (h : c = true → OpW P N o (rst E (o.looksAt ops)) Hs (Is v)) (k : AB P N ops als Hs K r ((d, .opt c v) :: E) H) :
    AB P N ops als Hs K ((i, false) :: r) E H := ⟨o, d, _, ho, hd, Nat.le_of_ble_eq_true hN, .opt hw h, k⟩
theorem AB.no {i d : Nat} {r : List (Nat × Bool)} {E : Env} {H : List HE} {o : Oper} (ho : ops[i]? = some o) (hw : wantedIs ops (rst E (o.looksAt ops)) o = some false) (hd : o.dst = some d) (hN : Nat.ble (d + 1) N = true) (k : AB P N ops als Hs K r ((d, .val undef) :: E) H) :
    AB P N ops als Hs K ((i, false) :: r) E H := ⟨o, d, _, ho, hd, Nat.le_of_ble_eq_true hN, .no hw, k⟩
theorem AB.main {i : Nat} {r : List (Nat × Bool)} {E : Env} {H : List HE} (o : Oper) (ho : ops[i]? = some o) (hne : isAl als i = false) (h : ∀ w0 R0, AO ⟨w0, footOf H, R0, N⟩ P ops (QS ⟨w0, footOf H, R0, N⟩ o.dst (fun v H' => AB P N ops als Hs K r (putE o.dst v E) H')) [o] (rst E (o.looksAt ops)) H) :
    AB P N ops als Hs K ((i, true) :: r) E H := by
  have : alAt als i = none := by unfold isAl at hne; exact Option.not_isSome_iff_eq_none.1 (by rw [hne]; simp)
  rw [AB, this]; exact ⟨o, ho, h⟩
theorem AB.box {i : Nat} {r : List (Nat × Bool)} {E : Env} {H : List HE} (al : Al) (he : alAt als i = some al) (k : ∀ b, AB P N ops als Hs K r ((al.d, .val (.pointer (some ⟨b, 0, none⟩))) :: E) (al.he b :: H)) : AB P N ops als Hs K ((i, true) :: r) E H := by rw [AB, he]; exact k
theorem alsOk.nil {P : Program} {N : Nat} {ops : Array Oper} : alsOk P N ops [] := ⟨.nil, fun _ h => by cases h⟩
theorem alsOk.cons {P : Program} {N : Nat} {ops : Array Oper} {al : Al} {als : List Al} (h : al.ok P N ops) (hn : (als.map Al.i).contains al.i = false) (hs : alsOk P N ops als) : alsOk P N ops (al :: als) := by
  refine ⟨?_, fun x hx => ?_⟩
  · rw [List.map_cons, List.nodup_cons]
    exact ⟨fun hm => (by rw [List.contains_iff_mem.2 hm] at hn; cases hn), hs.1⟩
  · rcases List.mem_cons.1 hx with e | hx
    · rw [e]; exact h
    · exact hs.2 x hx
theorem AB.nil {E : Env} {H : List HE} (h : K E H) : AB P N ops als Hs K [] E H := h
end
end Go.Proofs.Ytdnmilmcdbgppaa.A

namespace Go.Proofs.Ytdnmilmcdbgppaa.By
open Go.RowKit L A Dk
set_option linter.unusedVariables false
set_option maxRecDepth 20000
set_option linter.unusedSimpArgs false
attribute [local irreducible] AW AQ AO
def msgsA (ms : List Msg) : List AV := ms.flatMap cellsM
def roMs (ms : List Msg) : AV := .ro false ms.length (msgsA ms)
abbrev mat (ms : List Msg) (k : Nat) : Msg := ms.getD k Msg.none
end Go.Proofs.Ytdnmilmcdbgppaa.By

namespace Go.Proofs.Ytdnmilmcdbgppaa.Dk
open Go.RowKit L A
set_option linter.unusedVariables false
set_option maxRecDepth 20000
set_option linter.unusedSimpArgs false
attribute [local irreducible] AW AQ AO

theorem left_fn (b : Nat) (l : List Int) (k : Nat) :
    Sp Try.prog 29 [ptr b] [deck b l k] (IsM (.val (.bool (decide (k < l.length)))) (deck b l k)) := by
  refine Sp.enter Try.func29 rfl _ Try.ntmps29 rfl (fun w0 R0 => ?_)
  refine AW.seq ?_
  refine AW.region ?_
  refine AO.op (O.assign rfl rfl) rfl rfl rfl ?_
  refine AO.nil ?_
  refine AQ.thenN ?_
  refine AW.seq ?_
  refine AW.regionD 11 (by kernel_rfl) (by kernel_rfl) ?_
  simp only [List.take_succ_cons, List.take_zero, List.drop_succ_cons, List.drop_zero]
  refine FA.op (O.move rfl rfl) rfl rfl rfl rfl ?_
  first | (refine FA.op (O.nilCheck rfl rfl) rfl rfl rfl rfl ?_) | (refine FA.op (O.nilCheckR rfl rfl) rfl rfl rfl rfl ?_)
  first | (refine FA.op (O.fieldAddrR rfl rfl) rfl rfl rfl rfl ?_) | (refine FA.op (O.fieldAddr rfl rfl) rfl rfl rfl rfl ?_)
  first | (refine FA.op (O.loadR rfl rfl (by first | rfl | assumption)) rfl rfl rfl rfl ?_) | (refine FA.op (O.load rfl rfl (by repeat (first | exact List.Mem.head _ | refine List.Mem.tail _ ?_)) (by first | rfl | assumption)) rfl rfl rfl rfl ?_)
  refine FA.op (O.move rfl rfl) rfl rfl rfl rfl ?_
  first | (refine FA.op (O.nilCheck rfl rfl) rfl rfl rfl rfl ?_) | (refine FA.op (O.nilCheckR rfl rfl) rfl rfl rfl rfl ?_)
  first | (refine FA.op (O.fieldAddrR rfl rfl) rfl rfl rfl rfl ?_) | (refine FA.op (O.fieldAddr rfl rfl) rfl rfl rfl rfl ?_)
  first | (refine FA.op (O.loadR rfl rfl (by first | rfl | assumption)) rfl rfl rfl rfl ?_) | (refine FA.op (O.load rfl rfl (by repeat (first | exact List.Mem.head _ | refine List.Mem.tail _ ?_)) (by first | rfl | assumption)) rfl rfl rfl rfl ?_)
  first | (refine FA.op (O.lenR rfl rfl) rfl rfl rfl rfl ?_) | (refine FA.op (O.lenV rfl rfl) rfl rfl rfl rfl ?_) | (refine FA.op (O.lenRow rfl rfl (by repeat (first | exact List.Mem.head _ | refine List.Mem.tail _ ?_))) rfl rfl rfl rfl ?_) | (refine FA.op (O.lenS rfl rfl) rfl rfl rfl rfl ?_)
  refine FA.op (O.lss rfl rfl rfl (by first | exact bTrue (by omega) | exact bFalse (by omega) | assumption | rfl)) rfl rfl rfl rfl ?_
  refine FA.op (O.assign rfl rfl) rfl rfl rfl rfl ?_
  refine FA.nil ?_
  simp only [chosen, List.nil_append, List.cons_append, List.append_nil]
  refine AO.nil ?_
  refine AQ.thenN ?_
  refine AW.ret ?_
  have e1 : decide ((k : Int) < (l.length : Int)) = decide (k < l.length) := by simp
  refine AQ.ret1 rfl rfl ⟨_, by repeat (first | exact List.Sublist.slnil | refine List.Sublist.cons_cons _ ?_ | refine List.Sublist.cons _ ?_), List.Perm.refl _⟩ (⟨congrArg (fun z => AV.val (.bool z)) e1, rfl⟩)
end Go.Proofs.Ytdnmilmcdbgppaa.Dk

namespace Go.Proofs.Ytdnmilmcdbgppaa.By
open Go.RowKit L A Dk
set_option linter.unusedVariables false
set_option maxRecDepth 20000
set_option linter.unusedSimpArgs false
attribute [local irreducible] AW AQ AO
theorem adv_in {l : List Int} {k : Nat} (h : k < l.length) : adv l k = k + 1 := if_pos h
theorem adv_ge (l : List Int) (k : Nat) : k ≤ adv l k := by unfold adv; split <;> omega
theorem few_fn (l : List Int) : Sp Try.prog 28 [roI l] [] (Is (.val (.bool (decide ((l.length : Int) ≤ 300))))) := by
  refine Sp.enter Try.func28 rfl _ Try.ntmps28 rfl (fun w0 R0 => ?_)
  refine AW.seq ?_
  refine AW.region ?_
  refine AO.op (O.assign rfl rfl) rfl rfl rfl ?_
  refine AO.nil ?_
  refine AQ.thenN ?_
  refine AW.seq ?_
  refine AW.region ?_
  refine AO.op (O.move rfl rfl) rfl rfl rfl ?_
  refine AO.op (O.lenR rfl rfl) rfl rfl rfl ?_
  refine AO.op (O.leq rfl rfl rfl (by rfl)) rfl rfl rfl ?_
  refine AO.op (O.assign rfl rfl) rfl rfl rfl ?_
  refine AO.nil ?_
  refine AQ.thenN ?_
  refine AW.ret ?_
  refine AQ.ret1 rfl rfl ⟨_, List.nil_sublist _, .nil⟩ (⟨rfl, rfl⟩)
def GenF (b : Nat) (l : List Int) (k : Nat) (Φ : AV → Prop) : AV → List HE → Prop := fun r H' => Φ r ∧ ∃ kd, (k ≤ kd ∧ kd ≤ l.length) ∧ H' = [deck b l kd]
end Go.Proofs.Ytdnmilmcdbgppaa.By

namespace Go.Proofs.Ytdnmilmcdbgppaa.By
open Go.RowKit L A Dk
set_option linter.unusedVariables false
set_option maxRecDepth 20000
set_option linter.unusedSimpArgs false
attribute [local irreducible] AW AQ AO
instance : KeyT Try.prog 5 := ⟨Go.Maps.int_keyed Try.underlying5⟩
abbrev mapU (b : Nat) (M : Ents) : HE := mapHE Try.prog 5 4 b M
def Lt200 (n : Nat) : Prop := n < 200
set_option maxHeartbeats 8000000 in
theorem lawOnce_fn (l : List Int) (hl : l.length ≤ maxLen) : Sp Try.prog 9 [roI l] [] (Is (.val (.bool true))) := by
  refine Sp.enter Try.func9 rfl _ Try.ntmps9 rfl (fun w0 R0 => ?_)
  refine AW.seq ?_
  refine AW.region ?_
  refine AO.op (O.assign rfl rfl) rfl rfl rfl ?_
  refine AO.nil ?_
  refine AQ.thenN ?_
  refine AW.seq ?_
  refine AW.seq ?_
  refine AW.region ?_
  refine AO.op (O.move rfl rfl) rfl rfl rfl ?_
  refine AO.op (O.call rfl Try.func28 rfl rfl rfl (few_fn _)) rfl rfl rfl ?_
  refine AO.op (O.not rfl rfl (by rfl)) rfl rfl rfl ?_
  refine AO.nil ?_
  refine AQ.thenN ?_
  refine AW.split rfl (fun hfew => ?_) (fun hfew => ?_) <;> (try simp only [decide_eq_true_eq, decide_eq_false_iff_not, beq_iff_eq, beq_eq_false_iff_ne, bne_iff_ne, bne_eq_false_iff_eq, Bool.not_eq_true', Bool.not_eq_false', Bool.not_eq_true, Bool.not_eq_false, ne_eq, Int.not_lt, Int.not_le, Bool.and_eq_true, Bool.or_eq_true, Bool.or_eq_false_iff, Bool.and_eq_false_imp, strOf_toList, Decidable.not_not] at hfew)
  · skip
    refine AW.seq ?_
    refine AW.region ?_
    refine AO.op (O.call rfl Try.func11 rfl rfl rfl (awake17_fn)) rfl rfl rfl ?_
    refine AO.op (O.assign rfl rfl) rfl rfl rfl ?_
    refine AO.nil ?_
    refine AQ.thenN ?_
    refine AW.ret ?_
    refine AQ.thenR ?_
    refine AQ.ret1 rfl rfl ⟨_, List.nil_sublist _, .nil⟩ (⟨rfl, rfl⟩)
  · skip
    refine AW.skip ?_
    refine AQ.thenN ?_
    refine AW.seq ?_
    refine AW.region ?_
    refine AO.op (O.move rfl rfl) rfl rfl rfl ?_
    refine AO.opB (O.call rfl Try.func12 rfl rfl rfl (new_fn _)) rfl rfl rfl ?_
    intro B1
    refine AO.op (O.assign rfl rfl) rfl rfl rfl ?_
    refine AO.nil ?_
    refine AQ.thenN ?_
    refine AW.seq ?_
    refine AW.region ?_
    refine AO.opB (O.alloc rfl (by (dsimp only [List.set, List.append, List.cons_append, List.nil_append, roB_cells, roI_cells, roO_cells, roW_cells, roU_cells, roH_cells, splice, ofConst, AV.cells, List.map, List.map_cons, List.map_nil, List.take, List.drop, Nat.zero_add, Nat.add_zero, Nat.reduceAdd, Nat.reduceMul, Nat.zero_mul, Value.cells, List.toList_toArray, zerosA, List.replicate, List.flatten, List.append_nil]; done)) (by rfl)) rfl rfl rfl ?_
    intro B2
    refine AO.opB (O.alloc rfl (by (dsimp only [List.set, List.append, List.cons_append, List.nil_append, roB_cells, roI_cells, roO_cells, roW_cells, roU_cells, roH_cells, splice, ofConst, AV.cells, List.map, List.map_cons, List.map_nil, List.take, List.drop, Nat.zero_add, Nat.add_zero, Nat.reduceAdd, Nat.reduceMul, Nat.zero_mul, Value.cells, List.toList_toArray, zerosA, List.replicate, List.flatten, List.append_nil]; done)) (by rfl)) rfl rfl rfl ?_
    intro B3
    refine AO.nil ?_
    refine AQ.thenN ?_
    refine AW.seq ?_
    refine AW.region ?_
    refine AO.op (O.assign rfl rfl) rfl rfl rfl ?_
    refine AO.nil ?_
    refine AQ.thenN ?_
    refine AW.seq ?_
    refine AW.region ?_
    refine AO.opN (O.makeMap rfl) rfl rfl rfl ?_
    rintro _ _ ⟨B4, rfl, rfl⟩
    simp only [List.cons_append, List.nil_append]
    refine AO.op (O.assign rfl rfl) rfl rfl rfl ?_
    refine AO.nil ?_
    refine AQ.thenN ?_
    refine AW.seq ?_
    refine AW.region ?_
    refine AO.op (O.assign rfl rfl) rfl rfl rfl ?_
    refine AO.op (O.assign rfl rfl) rfl rfl rfl ?_
    refine AO.nil ?_
    refine AQ.thenN ?_
    refine AW.seq ?_
    refine AW.block ?_
    refine AW.g ?_
    refine G.nilRow 71 9 ?_
    refine AW.u ?_
    refine AW.g ?_
    refine G.freezeCell 0 1 1 rfl rfl rfl ?_
    refine AW.u ?_
    dsimp only [List.eraseIdx, List.set]
    refine AW.g ?_
    refine G.nilRow 60 3 ?_
    refine AW.u ?_
    refine AW.g ?_
    refine G.freezeCell 0 1 2 rfl rfl rfl ?_
    refine AW.u ?_
    dsimp only [List.eraseIdx, List.set]
    refine AW.g ?_
    refine G.nilRow 63 10 ?_
    refine AW.u ?_
    refine AW.g ?_
    refine G.freezeCell 0 1 3 rfl rfl rfl ?_
    refine AW.u ?_
    dsimp only [List.eraseIdx, List.set]
    refine AW.g ?_
    refine G.nilRow 71 9 ?_
    refine AW.u ?_
    refine AW.g ?_
    refine G.freezeCell 0 2 1 rfl rfl rfl ?_
    refine AW.u ?_
    dsimp only [List.eraseIdx, List.set]
    refine AW.g ?_
    refine G.nilRow 60 3 ?_
    refine AW.u ?_
    refine AW.g ?_
    refine G.freezeCell 0 2 2 rfl rfl rfl ?_
    refine AW.u ?_
    dsimp only [List.eraseIdx, List.set]
    refine AW.g ?_
    refine G.nilRow 63 10 ?_
    refine AW.u ?_
    refine AW.g ?_
    refine G.freezeCell 0 2 3 rfl rfl rfl ?_
    refine AW.u ?_
    dsimp only [List.eraseIdx, List.set]
    refine AW.g ?_
    refine G.nilRow 69 7 ?_
    refine AW.u ?_
    refine AW.loopK [(3, _), (4, _), (5, _), (7, _)] (fun nn E H => ∃ (kk : Nat) (now : Int) (n : Nat) (a b : Ep) (net : List Pk) (D : List Int) (M : Ents) (V : Value), (kk ≤ l.length) ∧ (SideA a n) ∧ (Lt200 n) ∧ (ValE b) ∧ (SideB b D) ∧ (Kept b D net now) ∧ (NetOk net n now) ∧ ((∀ i ∈ D, i < (n : Int))) ∧ (DoneM M D) ∧ (D.length ≤ kk) ∧ (net.length ≤ 20 * kk) ∧ (0 ≤ now ∧ now ≤ 6 * (kk : Int)) ∧ (V.oneCell' = true) ∧ nn = l.length - kk ∧ E = [(6, .val V), (8, .val (.int .i64 now)), (9, .val (.int .u8 (n : Int)))] ∧ H = [.row V 69 7 net.length (pksA net), mapU B4 M, .blk B3 26 4 [.val (.int .i64 b.next), roW b.out, roU b.used, roH b.inn], .blk B2 26 4 [.val (.int .i64 a.next), roW a.out, roU a.used, roH a.inn], deck B1 l kk]) _ (⟨0, 0, 0, ⟨0, [], [], []⟩, ⟨0, [], [], []⟩, [], [], [], .slice none 0 0, by omega, sideA_new, (by show 0 < 200; omega), val_new ⟨by omega, by omega⟩, (fun h hh => by cases hh), (fun q hq => by cases hq), (fun q hq => by cases hq), (fun i hi => by cases hi), DoneM.nil, by simp, by simp, ⟨by omega, by omega⟩, rfl, rfl, rfl, rfl⟩) (by repeat (first | exact envNil | refine envCons rfl ?_)) (by repeat (first | exact envNil | refine envCons rfl ?_)) (by repeat (first | exact subPnil | refine subPcons 0 rfl ?_)) ?_
    rintro nn E H ⟨kk, now, n, a, b, net, D, M, V, hk, hA, hn2, hvb, hB, hkp, hnet, hD, hM, hdl, hnl, hn, hV, rfl, rfl, rfl⟩
    dsimp only [List.cons_append, List.nil_append]
    have hbdA := (ValE.sm hA.v).bd
    have hbdB := (ValE.sm hvb).bd
    have hMl := hM.len
    refine AW.seq ?_
    refine AW.seq ?_
    refine AW.region ?_
    refine AO.op (O.move rfl rfl) rfl rfl rfl ?_
    (refine AO.callM1 (i := 4) rfl rfl Try.func29 rfl rfl rfl rfl rfl rfl (left_fn _ _ _) (by (dsimp only [List.set, List.append, List.cons_append, List.nil_append, roB_cells, roI_cells, roO_cells, roW_cells, roU_cells, roH_cells, splice, ofConst, AV.cells, List.map, List.map_cons, List.map_nil, List.take, List.drop, Nat.zero_add, Nat.add_zero, Nat.reduceAdd, Nat.reduceMul, Nat.zero_mul, Value.cells, List.toList_toArray, zerosA, List.replicate, List.flatten, List.append_nil]; done)) ?_)
    refine AO.nil ?_
    refine AQ.thenN ?_
    refine AW.split rfl (fun hleft => ?_) (fun hleft => ?_) <;> (try simp only [decide_eq_true_eq, decide_eq_false_iff_not, beq_iff_eq, beq_eq_false_iff_ne, bne_iff_ne, bne_eq_false_iff_eq, Bool.not_eq_true', Bool.not_eq_false', Bool.not_eq_true, Bool.not_eq_false, ne_eq, Int.not_lt, Int.not_le, Bool.and_eq_true, Bool.or_eq_true, Bool.or_eq_false_iff, Bool.and_eq_false_imp, strOf_toList, Decidable.not_not] at hleft)
    · skip
      have ha1 := adv_in hleft
      have ha2 := adv_ge l (adv l kk)
      have ha2' : adv l (adv l kk) ≤ l.length := adv_le' (adv_le' hk)
      have hz1 := nxt_in l kk (n := 6) (by omega)
      have hz2 := nxt_in l (adv l kk) (n := 4) (by omega)
      refine AW.skip ?_
      refine AQ.thenN ?_
      refine AW.block ?_
      refine AW.seq ?_
      refine AW.region ?_
      refine AO.op (O.move rfl rfl) rfl rfl rfl ?_
      refine AO.op (O.move rfl rfl) rfl rfl rfl ?_
      (refine AO.callM1 (i := 4) rfl rfl Try.func30 rfl rfl rfl rfl rfl rfl (next_fn _ _ _ _ hl (by repeat (assumption)) (by omega) (by omega)) (by (dsimp only [List.set, List.append, List.cons_append, List.nil_append, roB_cells, roI_cells, roO_cells, roW_cells, roU_cells, roH_cells, splice, ofConst, AV.cells, List.map, List.map_cons, List.map_nil, List.take, List.drop, Nat.zero_add, Nat.add_zero, Nat.reduceAdd, Nat.reduceMul, Nat.zero_mul, Value.cells, List.toList_toArray, zerosA, List.replicate, List.flatten, List.append_nil]; done)) ?_)
      refine AO.op (O.add rfl rfl rfl (by exact wI64 (by omega))) rfl rfl rfl ?_
      refine AO.op (O.assign rfl rfl) rfl rfl rfl ?_
      refine AO.nil ?_
      refine AQ.thenN ?_
      refine AW.seq ?_
      refine AW.region ?_
      refine AO.op (O.move rfl rfl) rfl rfl rfl ?_
      (refine AO.callM1 (i := 4) rfl rfl Try.func30 rfl rfl rfl rfl rfl rfl (next_fn _ _ _ _ hl (by repeat (first | assumption | refine adv_le' ?_)) (by omega) (by omega)) (by (dsimp only [List.set, List.append, List.cons_append, List.nil_append, roB_cells, roI_cells, roO_cells, roW_cells, roU_cells, roH_cells, splice, ofConst, AV.cells, List.map, List.map_cons, List.map_nil, List.take, List.drop, Nat.zero_add, Nat.add_zero, Nat.reduceAdd, Nat.reduceMul, Nat.zero_mul, Value.cells, List.toList_toArray, zerosA, List.replicate, List.flatten, List.append_nil]; done)) ?_)
      refine AO.nil ?_
      refine AQ.thenN ?_
      refine AW.block ?_
      refine AW.seq ?_
      refine AW.region ?_
      refine AO.op (O.eql rfl rfl rfl (by rfl)) rfl rfl rfl ?_
      refine AO.op (O.assign rfl rfl) rfl rfl rfl ?_
      refine AO.nil ?_
      refine AQ.thenN ?_
      generalize hzz : nxt l (adv l kk) 4 = z4 at *
      generalize hne : now + nxt l kk 6 = now2 at *
      have hn3 : now ≤ now2 ∧ 0 ≤ now2 ∧ now2 ≤ 6 * (kk : Int) + 6 := by omega
      have hto : TimeOk now2 := ⟨by omega, by omega⟩
      have hnet2 := hnet.later (Nat.le_refl n) hn3.1
      have hkp2 := hkp.later hn3.1
      refine AW.split rfl (fun h138 => ?_) (fun h138 => ?_) <;> (try simp only [decide_eq_true_eq, decide_eq_false_iff_not, beq_iff_eq, beq_eq_false_iff_ne, bne_iff_ne, bne_eq_false_iff_eq, Bool.not_eq_true', Bool.not_eq_false', Bool.not_eq_true, Bool.not_eq_false, ne_eq, Int.not_lt, Int.not_le, Bool.and_eq_true, Bool.or_eq_true, Bool.or_eq_false_iff, Bool.and_eq_false_imp, strOf_toList, Decidable.not_not] at h138)
      · skip
        have ha3 := adv_ge l (adv l (adv l kk))
        have ha3' : adv l (adv l (adv l kk)) ≤ l.length := adv_le' ha2'
        have ha3g := adv_ge l (adv l kk)
        have ha4 := adv_ge l (adv l (adv l kk))
        have hz3 := nxt_in l (adv l (adv l kk)) (n := 2) (by omega)
        obtain ⟨tt, htt⟩ : ∃ tt, tt = nxt l (adv l (adv l kk)) 2 := ⟨_, rfl⟩
        have htt2 : tt = 0 ∨ tt = 1 := by omega
        have hsd := once_send (t := tt) hA hn2 htt2 hto
        subst htt
        refine AW.seq ?_
        refine AW.regionB [_, _] (alsOk.cons (Al.mk' (i := 13) (d := 10) (T := 26) _ rfl rfl rfl rfl rfl (by (dsimp only [List.set, List.append, List.cons_append, List.nil_append, roB_cells, roI_cells, roO_cells, roW_cells, roU_cells, roH_cells, splice, ofConst, AV.cells, List.map, List.map_cons, List.map_nil, List.take, List.drop, Nat.zero_add, Nat.add_zero, Nat.reduceAdd, Nat.reduceMul, Nat.zero_mul, Value.cells, List.toList_toArray, zerosA, List.replicate, List.flatten, List.append_nil]; done)) (by rfl)) (by rfl) (alsOk.cons (Al.mk' (i := 14) (d := 11) (T := 31) _ rfl rfl rfl rfl rfl (by (dsimp only [List.set, List.append, List.cons_append, List.nil_append, roB_cells, roI_cells, roO_cells, roW_cells, roU_cells, roH_cells, splice, ofConst, AV.cells, List.map, List.map_cons, List.map_nil, List.take, List.drop, Nat.zero_add, Nat.add_zero, Nat.reduceAdd, Nat.reduceMul, Nat.zero_mul, Value.cells, List.toList_toArray, zerosA, List.replicate, List.flatten, List.append_nil]; done)) (by rfl)) (by rfl) alsOk.nil)) [(0, false), (1, false), (3, false), (4, false), (5, false), (7, false), (2, true), (6, false), (8, false), (9, false), (10, false), (11, false), (12, false), (13, true), (14, true), (15, true), (16, true), (17, false)] (by kernel_rfl) (by kernel_rfl) (by exact (by exact splitBlk 3 4 rfl rfl splitNil)) ?_
        dsimp only [List.eraseIdx]
        (refine AB.op rfl (O.loadK rfl rfl (by repeat (first | exact List.Mem.head _ | refine List.Mem.tail _ ?_)) (by (dsimp only [List.set, List.append, List.cons_append, List.nil_append, roB_cells, roI_cells, roO_cells, roW_cells, roU_cells, roH_cells, splice, ofConst, AV.cells, List.map, List.map_cons, List.map_nil, List.take, List.drop, Nat.zero_add, Nat.add_zero, Nat.reduceAdd, Nat.reduceMul, Nat.zero_mul, Value.cells, List.toList_toArray, zerosA, List.replicate, List.flatten, List.append_nil]; done)) (by rfl)) rfl rfl rfl ?_)
        refine AB.op rfl (O.move rfl rfl) rfl rfl rfl ?_
        refine AB.op rfl (O.move rfl rfl) rfl rfl rfl ?_
        refine AB.op rfl (O.add rfl rfl rfl (by exact wU8any)) rfl rfl rfl ?_
        refine AB.op rfl (OpW.frz (O.buildSlice rfl rfl rfl (by rfl) (by rfl) (by rfl) (by rfl)) (by (unfold maxLen; omega))) rfl rfl rfl ?_
        refine AB.op rfl (O.move rfl rfl) rfl rfl rfl ?_
        refine AB.main _ rfl rfl (fun w0 R0 => ?_)
        (refine AO.callM1 (i := 0) rfl rfl Try.func30 rfl rfl rfl rfl rfl rfl (next_fn _ _ _ _ hl (by repeat (assumption)) (by omega) (by omega)) (by (dsimp only [List.set, List.append, List.cons_append, List.nil_append, roB_cells, roI_cells, roO_cells, roW_cells, roU_cells, roH_cells, splice, ofConst, AV.cells, List.map, List.map_cons, List.map_nil, List.take, List.drop, Nat.zero_add, Nat.add_zero, Nat.reduceAdd, Nat.reduceMul, Nat.zero_mul, Value.cells, List.toList_toArray, zerosA, List.replicate, List.flatten, List.append_nil]; done)) ?_)
        refine AM.ok ?_
        dsimp only [putE]
        refine AB.op rfl (O.build rfl rfl rfl (by rfl)) rfl rfl rfl ?_
        (refine AB.op rfl (O.callC rfl Try.func18 rfl rfl rfl (send_fn a _ ⟨nxt l (adv l (adv l kk)) 2, 2, 0, [], [], [u8 ((n : Int) + 1)]⟩ _ hbdA) (by (repeat (first | exact CoeL.nil | refine CoeL.cons Coe.rfl ?_ | refine CoeL.cons Coe.nil ?_ | refine CoeL.cons (Coe.agg ?_) ?_)); done)) rfl rfl rfl ?_)
        refine AB.op rfl (O.move rfl rfl) rfl rfl rfl ?_
        refine AB.op rfl (O.extract rfl rfl rfl) rfl rfl rfl ?_
        refine AB.op rfl (O.extract rfl rfl rfl) rfl rfl rfl ?_
        refine AB.op rfl (O.extract rfl rfl rfl) rfl rfl rfl ?_
        refine AB.box _ rfl ?_
        intro B5
        dsimp only [Al.he]
        refine AB.box _ rfl ?_
        intro B6
        dsimp only [Al.he]
        refine AB.main _ rfl rfl (fun w0 R0 => ?_)
        (refine AO.store (i := 1) rfl rfl rfl rfl rfl rfl (by rfl) (by rfl) (by rfl) (by (dsimp only [List.set, List.append, List.cons_append, List.nil_append, roB_cells, roI_cells, roO_cells, roW_cells, roU_cells, roH_cells, splice, ofConst, AV.cells, List.map, List.map_cons, List.map_nil, List.take, List.drop, Nat.zero_add, Nat.add_zero, Nat.reduceAdd, Nat.reduceMul, Nat.zero_mul, Value.cells, List.toList_toArray, zerosA, List.replicate, List.flatten, List.append_nil]; done)) (by (dsimp only [List.set, List.append, List.cons_append, List.nil_append, roB_cells, roI_cells, roO_cells, roW_cells, roU_cells, roH_cells, splice, ofConst, AV.cells, List.map, List.map_cons, List.map_nil, List.take, List.drop, Nat.zero_add, Nat.add_zero, Nat.reduceAdd, Nat.reduceMul, Nat.zero_mul, Value.cells, List.toList_toArray, zerosA, List.replicate, List.flatten, List.append_nil]; done)) ?_)
        refine AM.okN ?_
        dsimp only [putE]
        refine AB.main _ rfl rfl (fun w0 R0 => ?_)
        (refine AO.store (i := 0) rfl rfl rfl rfl rfl rfl (by rfl) (by rfl) (by rfl) (by (dsimp only [List.set, List.append, List.cons_append, List.nil_append, roB_cells, roI_cells, roO_cells, roW_cells, roU_cells, roH_cells, splice, ofConst, AV.cells, List.map, List.map_cons, List.map_nil, List.take, List.drop, Nat.zero_add, Nat.add_zero, Nat.reduceAdd, Nat.reduceMul, Nat.zero_mul, Value.cells, List.toList_toArray, zerosA, List.replicate, List.flatten, List.append_nil]; done)) (by (dsimp only [List.set, List.append, List.cons_append, List.nil_append, roB_cells, roI_cells, roO_cells, roW_cells, roU_cells, roH_cells, splice, ofConst, AV.cells, List.map, List.map_cons, List.map_nil, List.take, List.drop, Nat.zero_add, Nat.add_zero, Nat.reduceAdd, Nat.reduceMul, Nat.zero_mul, Value.cells, List.toList_toArray, zerosA, List.replicate, List.flatten, List.append_nil]; done)) ?_)
        refine AM.okN ?_
        dsimp only [putE]
        refine AB.op rfl (O.assign rfl rfl) rfl rfl rfl ?_
        refine AB.nil ?_
        dsimp only [List.cons_append, List.nil_append]
        refine AQ.thenN ?_
        refine AW.seq ?_
        refine AW.seq ?_
        refine AW.region ?_
        refine AO.op (O.move rfl rfl) rfl rfl rfl ?_
        refine AO.op (O.eql rfl rfl rfl (by rfl)) rfl rfl rfl ?_
        refine AO.nil ?_
        refine AQ.thenN ?_
        generalize sendR a 2 ⟨nxt l (adv l (adv l kk)) 2, 2, 0, [], [], [u8 ((n : Int) + 1)]⟩ now2 = s at *
        refine AW.split rfl (fun h154 => ?_) (fun h154 => ?_) <;> (try simp only [decide_eq_true_eq, decide_eq_false_iff_not, beq_iff_eq, beq_eq_false_iff_ne, bne_iff_ne, bne_eq_false_iff_eq, Bool.not_eq_true', Bool.not_eq_false', Bool.not_eq_true, Bool.not_eq_false, ne_eq, Int.not_lt, Int.not_le, Bool.and_eq_true, Bool.or_eq_true, Bool.or_eq_false_iff, Bool.and_eq_false_imp, strOf_toList, Decidable.not_not] at h154)
        · skip
          refine AW.exit ?_
          refine AQ.thenX ?_
          refine AQ.blockY rfl ?_
          refine AQ.blockX rfl ?_
          refine AQ.loopKN _ _ _ (by omega) (⟨_, now2, n, a, b, net, D, M, V, ha3', hA, hn2, hvb, hB, hkp2, hnet2, hD, hM, by omega, by omega, by omega, hV, rfl, rfl, rfl⟩) (by repeat (first | exact envNil | refine envCons rfl ?_)) (by repeat (first | exact envNil | refine envCons rfl ?_)) (by repeat (first | exact subPnil | refine subPcons 2 rfl ?_ | refine subPcons 3 rfl ?_))
        · skip
          obtain ⟨hs0, hsm, hsA⟩ := hsd.resolve_left h154
          refine AW.skip ?_
          refine AQ.thenN ?_
          refine AW.seq ?_
          refine AW.seq ?_
          refine AW.region ?_
          refine AO.op (O.move rfl rfl) rfl rfl rfl ?_
          refine AO.op (O.neq rfl rfl rfl (by exact bne_eq_false_iff_eq.2 (by omega))) rfl rfl rfl ?_
          refine AO.nil ?_
          refine AQ.thenN ?_
          refine AW.split rfl (fun h156 => ?_) (fun h156 => ?_) <;> (try simp only [decide_eq_true_eq, decide_eq_false_iff_not, beq_iff_eq, beq_eq_false_iff_ne, bne_iff_ne, bne_eq_false_iff_eq, Bool.not_eq_true', Bool.not_eq_false', Bool.not_eq_true, Bool.not_eq_false, ne_eq, Int.not_lt, Int.not_le, Bool.and_eq_true, Bool.or_eq_true, Bool.or_eq_false_iff, Bool.and_eq_false_imp, strOf_toList, Decidable.not_not] at h156)
          · skip
            exact absurd h156 (by simp [hs0])
          · skip
            refine AW.skip ?_
            refine AQ.thenN ?_
            refine AW.seq ?_
            refine AW.region ?_
            refine AO.op (O.move rfl rfl) rfl rfl rfl ?_
            refine AO.op (O.add rfl rfl rfl (by exact wU8any)) rfl rfl rfl ?_
            refine AO.op (O.assign rfl rfl) rfl rfl rfl ?_
            refine AO.nil ?_
            refine AQ.thenN ?_
            refine AW.seq ?_
            refine AW.regionM [(0, false), (1, false), (2, false), (3, false), (4, false), (5, false), (6, true), (7, true), (8, true)] (by kernel_rfl) (by kernel_rfl) (by exact (by exact splitRow 6 3 rfl rfl (by exact splitBlk 4 5 rfl rfl splitNil))) ?_
            dsimp only [List.eraseIdx]
            (refine AM.op rfl (O.loadK rfl rfl (by repeat (first | exact List.Mem.head _ | refine List.Mem.tail _ ?_)) (by (dsimp only [List.set, List.append, List.cons_append, List.nil_append, roB_cells, roI_cells, roO_cells, roW_cells, roU_cells, roH_cells, splice, ofConst, AV.cells, List.map, List.map_cons, List.map_nil, List.take, List.drop, Nat.zero_add, Nat.add_zero, Nat.reduceAdd, Nat.reduceMul, Nat.zero_mul, Value.cells, List.toList_toArray, zerosA, List.replicate, List.flatten, List.append_nil]; done)) (by rfl)) rfl rfl rfl ?_)
            refine AM.op rfl (O.move rfl rfl) rfl rfl rfl ?_
            (refine AM.op rfl (O.loadK rfl rfl (by repeat (exact List.Mem.head _)) (by (dsimp only [List.set, List.append, List.cons_append, List.nil_append, roB_cells, roI_cells, roO_cells, roW_cells, roU_cells, roH_cells, splice, ofConst, AV.cells, List.map, List.map_cons, List.map_nil, List.take, List.drop, Nat.zero_add, Nat.add_zero, Nat.reduceAdd, Nat.reduceMul, Nat.zero_mul, Value.cells, List.toList_toArray, zerosA, List.replicate, List.flatten, List.append_nil]; done)) (by rfl)) rfl rfl rfl ?_)
            refine AM.op rfl (O.move rfl rfl) rfl rfl rfl ?_
            refine AM.op rfl (O.build rfl rfl rfl (by rfl)) rfl rfl rfl ?_
            refine AM.op rfl (OpW.frz (O.buildSlice rfl rfl rfl (by rfl) (by rfl) (by rfl) (by rfl)) (by (unfold maxLen; omega))) rfl rfl rfl ?_
            refine AM.main _ rfl (fun w0 R0 => ?_)
            (refine AO.append' (i := 0) rfl rfl rfl rfl (by rfl) (by rfl) rfl rfl rfl (by exact SrcA.ro TyD.ax (by rfl) (Nat.le_of_ble_eq_true rfl)) (by rfl) (by (unfold maxLen; omega)) (by omega) (by (dsimp only [List.set, List.append, List.cons_append, List.nil_append, roB_cells, roI_cells, roO_cells, roW_cells, roU_cells, roH_cells, splice, ofConst, AV.cells, List.map, List.map_cons, List.map_nil, List.take, List.drop, Nat.zero_add, Nat.add_zero, Nat.reduceAdd, Nat.reduceMul, Nat.zero_mul, Value.cells, List.toList_toArray, zerosA, List.replicate, List.flatten, List.append_nil]; done)) (fun _ => by (dsimp only [List.set]; done)) ?_)
            intro V7 hV7
            refine AM.ok ?_
            dsimp only [putE]
            refine AM.main _ rfl (fun w0 R0 => ?_)
            (refine AO.store (i := 1) rfl rfl rfl rfl rfl rfl (by rfl) (by rfl) (by rfl) (by (dsimp only [List.set, List.append, List.cons_append, List.nil_append, roB_cells, roI_cells, roO_cells, roW_cells, roU_cells, roH_cells, splice, ofConst, AV.cells, List.map, List.map_cons, List.map_nil, List.take, List.drop, Nat.zero_add, Nat.add_zero, Nat.reduceAdd, Nat.reduceMul, Nat.zero_mul, Value.cells, List.toList_toArray, zerosA, List.replicate, List.flatten, List.append_nil]; done)) (by (dsimp only [List.set, List.append, List.cons_append, List.nil_append, roB_cells, roI_cells, roO_cells, roW_cells, roU_cells, roH_cells, splice, ofConst, AV.cells, List.map, List.map_cons, List.map_nil, List.take, List.drop, Nat.zero_add, Nat.add_zero, Nat.reduceAdd, Nat.reduceMul, Nat.zero_mul, Value.cells, List.toList_toArray, zerosA, List.replicate, List.flatten, List.append_nil]; done)) ?_)
            refine AM.okN ?_
            dsimp only [putE]
            refine AM.main _ rfl (fun w0 R0 => ?_)
            refine AO.op (O.assign rfl rfl) rfl rfl rfl ?_
            refine AM.ok ?_
            dsimp only [putE]
            refine AM.nil ?_
            dsimp only [List.cons_append, List.nil_append]
            refine AQ.thenN ?_
            refine AW.seq ?_
            refine AW.region ?_
            refine AO.op (O.move rfl rfl) rfl rfl rfl ?_
            refine AO.op (O.eql rfl rfl rfl (by rfl)) rfl rfl rfl ?_
            refine AO.nil ?_
            refine AQ.thenN ?_
            have hn200 : n < 200 := hn2
            have e8 : ((u8 ((n : Int) + 1)).toNat : Int) = ((n + 1 : Nat) : Int) := by rw [u8_val ⟨by omega, by omega⟩]; omega
            obtain ⟨net2, hnet2e⟩ : ∃ g2, g2 = net ++ [(⟨s.2.1, now2⟩ : Pk)] := ⟨_, rfl⟩
            have hgl : net2.length = net.length + 1 := by rw [hnet2e, List.length_append]; rfl
            have hgu : pksA net2 = pksA net ++ [.val (.int .i64 s.2.1.ty), .val (.int .i64 s.2.1.code), .val (.int .i64 s.2.1.id), roB s.2.1.tok, roO s.2.1.opts, roB s.2.1.pay, .val (.int .i64 now2)] := by rw [hnet2e, pksA_snoc]
            have hid : s.2.1.id = (n : Int) := congrArg Msg.id hsm
            have hnet3 : NetOk net2 (n + 1) now2 := by
              rw [hnet2e]
              exact (hnet2.later (Nat.le_succ n) (Int.le_refl _)).snoc htt2 (i := (n : Int)) ⟨by omega, by omega⟩ hsm ⟨hn3.2.1, Int.le_refl _⟩
            have hkp3 : Kept b D net2 now2 := by
              rw [hnet2e]
              exact hkp2.snoc (fun hd _ => by
                have h1 := hD _ hd
                have h2 : (⟨s.2.1, now2⟩ : Pk).m.id = (n : Int) := hid
                omega)
            have hD2 : ∀ i ∈ D, i < ((n + 1 : Nat) : Int) := fun i hi => by have := hD i hi; omega
            rw [← hgu, ← hgl, e8]
            refine AW.split rfl (fun h167 => ?_) (fun h167 => ?_) <;> (try simp only [decide_eq_true_eq, decide_eq_false_iff_not, beq_iff_eq, beq_eq_false_iff_ne, bne_iff_ne, bne_eq_false_iff_eq, Bool.not_eq_true', Bool.not_eq_false', Bool.not_eq_true, Bool.not_eq_false, ne_eq, Int.not_lt, Int.not_le, Bool.and_eq_true, Bool.or_eq_true, Bool.or_eq_false_iff, Bool.and_eq_false_imp, strOf_toList, Decidable.not_not] at h167)
            · skip
              refine AW.seq ?_
              refine AW.region ?_
              refine AO.op (O.call rfl Try.func11 rfl rfl rfl (awake17_fn)) rfl rfl rfl ?_
              refine AO.op (O.assign rfl rfl) rfl rfl rfl ?_
              refine AO.nil ?_
              refine AQ.thenN ?_
              refine AW.ret ?_
              refine AQ.blockR ?_
              refine AQ.blockR ?_
              refine AQ.loopR ?_
              refine AQ.blockR ?_
              refine AQ.thenR ?_
              refine AQ.ret1 rfl rfl ⟨_, List.nil_sublist _, .nil⟩ (⟨rfl, rfl⟩)
            · skip
              refine AW.skip ?_
              refine AQ.blockN ?_
              refine AQ.blockN ?_
              refine AQ.loopKN _ _ _ (by omega) (⟨_, now2, n + 1, s.1, b, net2, D, M, _, ha3', hsA, (by show n + 1 < 200; omega), hvb, hB, hkp3, hnet3, hD2, hM, by omega, by omega, by omega, ‹_›, rfl, rfl, rfl⟩) (by repeat (first | exact envNil | refine envCons rfl ?_)) (by repeat (first | exact envNil | refine envCons rfl ?_)) (by repeat (first | exact subPnil | refine subPcons 0 rfl ?_ | refine subPcons 2 rfl ?_ | refine subPcons 4 rfl ?_))
      · skip
        refine AW.seq ?_
        refine AW.region ?_
        refine AO.op (O.eql rfl rfl rfl (by rfl)) rfl rfl rfl ?_
        refine AO.op (O.assign rfl rfl) rfl rfl rfl ?_
        refine AO.nil ?_
        refine AQ.thenN ?_
        refine AW.split rfl (fun h169 => ?_) (fun h169 => ?_) <;> (try simp only [decide_eq_true_eq, decide_eq_false_iff_not, beq_iff_eq, beq_eq_false_iff_ne, bne_iff_ne, bne_eq_false_iff_eq, Bool.not_eq_true', Bool.not_eq_false', Bool.not_eq_true, Bool.not_eq_false, ne_eq, Int.not_lt, Int.not_le, Bool.and_eq_true, Bool.or_eq_true, Bool.or_eq_false_iff, Bool.and_eq_false_imp, strOf_toList, Decidable.not_not] at h169)
        · skip
          have htk := once_tick hA hto
          refine AW.seq ?_
          refine AW.region ?_
          (refine AO.op (O.loadK rfl rfl (by repeat (first | exact List.Mem.head _ | refine List.Mem.tail _ ?_)) (by (dsimp only [List.set, List.append, List.cons_append, List.nil_append, roB_cells, roI_cells, roO_cells, roW_cells, roU_cells, roH_cells, splice, ofConst, AV.cells, List.map, List.map_cons, List.map_nil, List.take, List.drop, Nat.zero_add, Nat.add_zero, Nat.reduceAdd, Nat.reduceMul, Nat.zero_mul, Value.cells, List.toList_toArray, zerosA, List.replicate, List.flatten, List.append_nil]; done)) (by rfl)) rfl rfl rfl ?_)
          refine AO.op (O.move rfl rfl) rfl rfl rfl ?_
          refine AO.op (O.call rfl Try.func22 rfl rfl rfl (tick_fn a _ hbdA)) rfl rfl rfl ?_
          refine AO.op (O.move rfl rfl) rfl rfl rfl ?_
          refine AO.op (O.extract rfl rfl rfl) rfl rfl rfl ?_
          refine AO.op (O.extract rfl rfl rfl) rfl rfl rfl ?_
          refine AO.op (O.extract rfl rfl rfl) rfl rfl rfl ?_
          refine AO.op (O.extract rfl rfl rfl) rfl rfl rfl ?_
          refine AO.opB (O.alloc rfl (by (dsimp only [List.set, List.append, List.cons_append, List.nil_append, roB_cells, roI_cells, roO_cells, roW_cells, roU_cells, roH_cells, splice, ofConst, AV.cells, List.map, List.map_cons, List.map_nil, List.take, List.drop, Nat.zero_add, Nat.add_zero, Nat.reduceAdd, Nat.reduceMul, Nat.zero_mul, Value.cells, List.toList_toArray, zerosA, List.replicate, List.flatten, List.append_nil]; done)) (by rfl)) rfl rfl rfl ?_
          intro B8
          (refine AO.store (i := 0) rfl rfl rfl rfl rfl rfl (by rfl) (by rfl) (by rfl) (by (dsimp only [List.set, List.append, List.cons_append, List.nil_append, roB_cells, roI_cells, roO_cells, roW_cells, roU_cells, roH_cells, splice, ofConst, AV.cells, List.map, List.map_cons, List.map_nil, List.take, List.drop, Nat.zero_add, Nat.add_zero, Nat.reduceAdd, Nat.reduceMul, Nat.zero_mul, Value.cells, List.toList_toArray, zerosA, List.replicate, List.flatten, List.append_nil]; done)) (by (dsimp only [List.set, List.append, List.cons_append, List.nil_append, roB_cells, roI_cells, roO_cells, roW_cells, roU_cells, roH_cells, splice, ofConst, AV.cells, List.map, List.map_cons, List.map_nil, List.take, List.drop, Nat.zero_add, Nat.add_zero, Nat.reduceAdd, Nat.reduceMul, Nat.zero_mul, Value.cells, List.toList_toArray, zerosA, List.replicate, List.flatten, List.append_nil]; done)) ?_)
          refine AO.op (O.assign rfl rfl) rfl rfl rfl ?_
          refine AO.op (O.assign rfl rfl) rfl rfl rfl ?_
          refine AO.op (O.assign rfl rfl) rfl rfl rfl ?_
          refine AO.nil ?_
          refine AQ.thenN ?_
          refine AW.seq ?_
          refine AW.seq ?_
          refine AW.region ?_
          refine AO.op (O.move rfl rfl) rfl rfl rfl ?_
          refine AO.op (O.neq rfl rfl rfl (by exact bne_eq_false_iff_eq.2 (by omega))) rfl rfl rfl ?_
          refine AO.nil ?_
          refine AQ.thenN ?_
          generalize tickR a now2 = r at *
          refine AW.split rfl (fun h180 => ?_) (fun h180 => ?_) <;> (try simp only [decide_eq_true_eq, decide_eq_false_iff_not, beq_iff_eq, beq_eq_false_iff_ne, bne_iff_ne, bne_eq_false_iff_eq, Bool.not_eq_true', Bool.not_eq_false', Bool.not_eq_true, Bool.not_eq_false, ne_eq, Int.not_lt, Int.not_le, Bool.and_eq_true, Bool.or_eq_true, Bool.or_eq_false_iff, Bool.and_eq_false_imp, strOf_toList, Decidable.not_not] at h180)
          · skip
            exact absurd htk.1 (by simp at h180)
          · skip
            obtain ⟨-, hrA, hrl, hrw⟩ := htk
            refine AW.skip ?_
            refine AQ.thenN ?_
            refine AW.seq ?_
            refine AW.region ?_
            (refine AO.op (O.loadK rfl rfl (by repeat (exact List.Mem.head _)) (by (dsimp only [List.set, List.append, List.cons_append, List.nil_append, roB_cells, roI_cells, roO_cells, roW_cells, roU_cells, roH_cells, splice, ofConst, AV.cells, List.map, List.map_cons, List.map_nil, List.take, List.drop, Nat.zero_add, Nat.add_zero, Nat.reduceAdd, Nat.reduceMul, Nat.zero_mul, Value.cells, List.toList_toArray, zerosA, List.replicate, List.flatten, List.append_nil]; done)) (by rfl)) rfl rfl rfl ?_)
            (refine AO.store (i := 4) rfl rfl rfl rfl rfl rfl (by rfl) (by rfl) (by rfl) (by (dsimp only [List.set, List.append, List.cons_append, List.nil_append, roB_cells, roI_cells, roO_cells, roW_cells, roU_cells, roH_cells, splice, ofConst, AV.cells, List.map, List.map_cons, List.map_nil, List.take, List.drop, Nat.zero_add, Nat.add_zero, Nat.reduceAdd, Nat.reduceMul, Nat.zero_mul, Value.cells, List.toList_toArray, zerosA, List.replicate, List.flatten, List.append_nil]; done)) (by (dsimp only [List.set, List.append, List.cons_append, List.nil_append, roB_cells, roI_cells, roO_cells, roW_cells, roU_cells, roH_cells, splice, ofConst, AV.cells, List.map, List.map_cons, List.map_nil, List.take, List.drop, Nat.zero_add, Nat.add_zero, Nat.reduceAdd, Nat.reduceMul, Nat.zero_mul, Value.cells, List.toList_toArray, zerosA, List.replicate, List.flatten, List.append_nil]; done)) ?_)
            refine AO.nil ?_
            refine AQ.thenN ?_
            refine AW.seq ?_
            refine AW.region ?_
            refine AO.op (O.move rfl rfl) rfl rfl rfl ?_
            refine AO.op (O.lenR rfl rfl) rfl rfl rfl ?_
            refine AO.op (O.move rfl rfl) rfl rfl rfl ?_
            refine AO.nil ?_
            refine AQ.thenN ?_
            refine AW.block ?_
            refine AW.loopK [(3, _), (4, _), (5, _), (7, _), (8, _), (9, _), (182, _), (183, _)] (fun nn E H => ∃ (j : Nat) (net3 : List Pk) (V3 : Value), (j ≤ r.2.1.length) ∧ (NetOk net3 n now2) ∧ (Kept b D net3 now2) ∧ (net3.length ≤ net.length + j) ∧ (V3.oneCell' = true) ∧ nn = r.2.1.length - j ∧ E = [(6, .val V3), (184, .val (.int .i64 (j : Int)))] ∧ H = [.row V3 69 7 net3.length (pksA net3), mapU B4 M, .blk B3 26 4 [.val (.int .i64 b.next), roW b.out, roU b.used, roH b.inn], .blk B2 26 4 [.val (.int .i64 r.1.next), roW r.1.out, roU r.1.used, roH r.1.inn], deck B1 l (adv l (adv l kk))]) _ (⟨0, net, V, by omega, hnet2, hkp2, by omega, hV, rfl, rfl, rfl⟩) (by repeat (first | exact envNil | refine envCons rfl ?_)) (by repeat (first | exact envNil | refine envCons rfl ?_)) (by repeat (first | exact subPnil | refine subPcons 1 rfl ?_)) ?_
            rintro nn E H ⟨j, net3, V3, hj, hnet3, hkp3, hnl3, hV3, rfl, rfl, rfl⟩
            dsimp only [List.cons_append, List.nil_append]
            refine AW.seq ?_
            refine AW.region ?_
            refine AO.op (O.lss rfl rfl rfl (by rfl)) rfl rfl rfl ?_
            refine AO.nil ?_
            refine AQ.thenN ?_
            refine AW.seq ?_
            refine AW.split rfl (fun hlt => ?_) (fun hlt => ?_) <;> (try simp only [decide_eq_true_eq, decide_eq_false_iff_not, beq_iff_eq, beq_eq_false_iff_ne, bne_iff_ne, bne_eq_false_iff_eq, Bool.not_eq_true', Bool.not_eq_false', Bool.not_eq_true, Bool.not_eq_false, ne_eq, Int.not_lt, Int.not_le, Bool.and_eq_true, Bool.or_eq_true, Bool.or_eq_false_iff, Bool.and_eq_false_imp, strOf_toList, Decidable.not_not] at hlt)
            · skip
              have hjw : j < r.2.1.length := by omega
              obtain ⟨i, hi0, hin, hwm⟩ := hrw _ (getD_mem Wt.none hjw)
              have hwm' : (wt r.2.1 j).m = payM 0 i := hwm
              obtain ⟨w, hwe⟩ : ∃ w, w = wt r.2.1 j := ⟨_, rfl⟩
              have hgw : ((wtsA r.2.1).drop (Int.toNat (j : Int) * 9)).take 9 = [.val (.int .i64 w.peer), .val (.int .i64 0), .val (.int .i64 2), .val (.int .i64 i), roB [], roO [], roB [u8 (i + 1)], .val (.int .i64 w.due), .val (.int .i64 w.sent)] := by
                rw [getW hjw (by omega), hwe]; simp only [cW, hwm']
              refine AW.skip ?_
              refine AQ.thenN ?_
              refine AW.seq ?_
              refine AW.block ?_
              refine AW.seq ?_
              refine AW.region ?_
              refine AO.op (O.idxR rfl rfl rfl ⟨(by omega), (by omega)⟩) rfl rfl rfl ?_
              refine AO.op (O.loadRK rfl rfl (by exact hgw) (by rfl)) rfl rfl rfl ?_
              refine AO.opB (O.alloc rfl (by (dsimp only [List.set, List.append, List.cons_append, List.nil_append, roB_cells, roI_cells, roO_cells, roW_cells, roU_cells, roH_cells, splice, ofConst, AV.cells, List.map, List.map_cons, List.map_nil, List.take, List.drop, Nat.zero_add, Nat.add_zero, Nat.reduceAdd, Nat.reduceMul, Nat.zero_mul, Value.cells, List.toList_toArray, zerosA, List.replicate, List.flatten, List.append_nil]; done)) (by rfl)) rfl rfl rfl ?_
              intro B9
              (refine AO.store (i := 0) rfl rfl rfl rfl rfl rfl (by rfl) (by rfl) (by rfl) (by (dsimp only [List.set, List.append, List.cons_append, List.nil_append, roB_cells, roI_cells, roO_cells, roW_cells, roU_cells, roH_cells, splice, ofConst, AV.cells, List.map, List.map_cons, List.map_nil, List.take, List.drop, Nat.zero_add, Nat.add_zero, Nat.reduceAdd, Nat.reduceMul, Nat.zero_mul, Value.cells, List.toList_toArray, zerosA, List.replicate, List.flatten, List.append_nil]; done)) (by (dsimp only [List.set, List.append, List.cons_append, List.nil_append, roB_cells, roI_cells, roO_cells, roW_cells, roU_cells, roH_cells, splice, ofConst, AV.cells, List.map, List.map_cons, List.map_nil, List.take, List.drop, Nat.zero_add, Nat.add_zero, Nat.reduceAdd, Nat.reduceMul, Nat.zero_mul, Value.cells, List.toList_toArray, zerosA, List.replicate, List.flatten, List.append_nil]; done)) ?_)
              refine AO.nil ?_
              refine AQ.thenN ?_
              refine AW.seq ?_
              refine AW.region ?_
              refine AO.op (O.move rfl rfl) rfl rfl rfl ?_
              refine AO.op (O.lenRow rfl rfl (by repeat (first | exact List.Mem.head _ | refine List.Mem.tail _ ?_))) rfl rfl rfl ?_
              refine AO.op (O.move rfl rfl) rfl rfl rfl ?_
              refine AO.nil ?_
              refine AQ.thenN ?_
              refine AW.block ?_
              refine AW.loopK [(3, _), (4, _), (5, _), (7, _), (8, _), (9, _), (18, _), (182, _), (183, _), (184, _), (188, _), (189, _)] (fun nn E H => ∃ (q : Nat), (q ≤ net3.length) ∧ nn = net3.length - q ∧ E = [(6, .val V3), (190, .val (.int .i64 (q : Int)))] ∧ H = [.blk B9 71 9 [.val (.int .i64 w.peer), .val (.int .i64 0), .val (.int .i64 2), .val (.int .i64 i), roB [], roO [], roB [u8 (i + 1)], .val (.int .i64 w.due), .val (.int .i64 w.sent)], .row V3 69 7 net3.length (pksA net3), mapU B4 M, .blk B3 26 4 [.val (.int .i64 b.next), roW b.out, roU b.used, roH b.inn], .blk B2 26 4 [.val (.int .i64 r.1.next), roW r.1.out, roU r.1.used, roH r.1.inn], deck B1 l (adv l (adv l kk))]) _ (⟨0, by omega, rfl, rfl, rfl⟩) (by repeat (first | exact envNil | refine envCons rfl ?_)) (by repeat (first | exact envNil | refine envCons rfl ?_)) (by repeat (first | exact subPnil | refine subPcons 0 rfl ?_)) ?_
              rintro nn E H ⟨q, hq, rfl, rfl, rfl⟩
              dsimp only [List.cons_append, List.nil_append]
              refine AW.seq ?_
              refine AW.region ?_
              refine AO.op (O.lss rfl rfl rfl (by rfl)) rfl rfl rfl ?_
              refine AO.nil ?_
              refine AQ.thenN ?_
              refine AW.seq ?_
              refine AW.split rfl (fun hlt2 => ?_) (fun hlt2 => ?_) <;> (try simp only [decide_eq_true_eq, decide_eq_false_iff_not, beq_iff_eq, beq_eq_false_iff_ne, bne_iff_ne, bne_eq_false_iff_eq, Bool.not_eq_true', Bool.not_eq_false', Bool.not_eq_true, Bool.not_eq_false, ne_eq, Int.not_lt, Int.not_le, Bool.and_eq_true, Bool.or_eq_true, Bool.or_eq_false_iff, Bool.and_eq_false_imp, strOf_toList, Decidable.not_not] at hlt2)
              · skip
                have hql : q < net3.length := by omega
                obtain ⟨t', i', ht', hi0', hin', hqm, hqa, hqn⟩ := hnet3 _ (getD_mem Pk.none hql)
                have hqm' : (pk net3 q).m = payM t' i' := hqm
                obtain ⟨at_, hat⟩ : ∃ at_, at_ = (pk net3 q).at_ := ⟨_, rfl⟩
                have hgp : ((pksA net3).drop (0 + Int.toNat (q : Int) * 7)).take 7 = [.val (.int .i64 t'), .val (.int .i64 2), .val (.int .i64 i'), roB [], roO [], roB [u8 (i' + 1)], .val (.int .i64 at_)] := by
                  rw [getP hql (by omega), hat]; simp only [cP, hqm']
                have hqa' : 0 ≤ at_ ∧ at_ ≤ now2 := by rw [hat]; exact ⟨hqa, hqn⟩
                refine AW.g ?_
                refine G.openRow 1 rfl (by omega) (fun b' cap hc1 hc2 hxs hVe => ?_)
                refine AW.u ?_
                subst hVe
                refine AW.g ?_
                dsimp only [List.set]
                refine AW.u ?_
                refine AW.skip ?_
                refine AQ.thenN ?_
                refine AW.seq ?_
                refine AW.block ?_
                refine AW.seq ?_
                refine AW.region ?_
                refine AO.op (O.idxV rfl rfl rfl ⟨(by omega), (by omega)⟩) rfl rfl rfl ?_
                refine AO.op (O.loadK rfl rfl (by repeat (first | exact List.Mem.head _ | refine List.Mem.tail _ ?_)) (by exact hgp) (by rfl)) rfl rfl rfl ?_
                refine AO.opB (O.alloc rfl (by (dsimp only [List.set, List.append, List.cons_append, List.nil_append, roB_cells, roI_cells, roO_cells, roW_cells, roU_cells, roH_cells, splice, ofConst, AV.cells, List.map, List.map_cons, List.map_nil, List.take, List.drop, Nat.zero_add, Nat.add_zero, Nat.reduceAdd, Nat.reduceMul, Nat.zero_mul, Value.cells, List.toList_toArray, zerosA, List.replicate, List.flatten, List.append_nil]; done)) (by rfl)) rfl rfl rfl ?_
                intro B10
                (refine AO.store (i := 0) rfl rfl rfl rfl rfl rfl (by rfl) (by rfl) (by rfl) (by (dsimp only [List.set, List.append, List.cons_append, List.nil_append, roB_cells, roI_cells, roO_cells, roW_cells, roU_cells, roH_cells, splice, ofConst, AV.cells, List.map, List.map_cons, List.map_nil, List.take, List.drop, Nat.zero_add, Nat.add_zero, Nat.reduceAdd, Nat.reduceMul, Nat.zero_mul, Value.cells, List.toList_toArray, zerosA, List.replicate, List.flatten, List.append_nil]; done)) (by (dsimp only [List.set, List.append, List.cons_append, List.nil_append, roB_cells, roI_cells, roO_cells, roW_cells, roU_cells, roH_cells, splice, ofConst, AV.cells, List.map, List.map_cons, List.map_nil, List.take, List.drop, Nat.zero_add, Nat.add_zero, Nat.reduceAdd, Nat.reduceMul, Nat.zero_mul, Value.cells, List.toList_toArray, zerosA, List.replicate, List.flatten, List.append_nil]; done)) ?_)
                refine AO.nil ?_
                refine AQ.thenN ?_
                refine AW.seq ?_
                refine AW.region ?_
                refine AO.op (O.fieldAddr rfl rfl) rfl rfl rfl ?_
                refine AO.op (O.fieldAddr rfl rfl) rfl rfl rfl ?_
                refine AO.op (O.load rfl rfl (by repeat (exact List.Mem.head _)) (by rfl)) rfl rfl rfl ?_
                refine AO.op (O.fieldAddr rfl rfl) rfl rfl rfl ?_
                refine AO.op (O.fieldAddr rfl rfl) rfl rfl rfl ?_
                refine AO.op (O.load rfl rfl (by repeat (first | exact List.Mem.head _ | refine List.Mem.tail _ ?_)) (by rfl)) rfl rfl rfl ?_
                refine AO.op (O.eql rfl rfl rfl (by rfl)) rfl rfl rfl ?_
                refine AO.op (O.move rfl rfl) rfl rfl rfl ?_
                refine AO.opG rfl rfl rfl (fun hp => O.fieldAddr rfl rfl) ?_
                refine AO.opG rfl rfl rfl (fun hp => OpW.force 202 rfl (by exact hp) (O.fieldAddr rfl rfl)) ?_
                refine AO.opG rfl rfl rfl (fun hp => OpW.force 203 rfl (by exact hp) (O.load rfl rfl (by repeat (exact List.Mem.head _)) (by rfl))) ?_
                refine AO.opG rfl rfl rfl (fun hp => OpW.force 204 rfl (by exact hp) (O.convS rfl rfl (by rfl))) ?_
                refine AO.opG rfl rfl rfl (fun hp => O.fieldAddr rfl rfl) ?_
                refine AO.opG rfl rfl rfl (fun hp => OpW.force 206 rfl (by exact hp) (O.fieldAddr rfl rfl)) ?_
                refine AO.opG rfl rfl rfl (fun hp => OpW.force 207 rfl (by exact hp) (O.load rfl rfl (by repeat (first | exact List.Mem.head _ | refine List.Mem.tail _ ?_)) (by rfl))) ?_
                refine AO.opG rfl rfl rfl (fun hp => OpW.force 208 rfl (by exact hp) (O.convS rfl rfl (by rfl))) ?_
                refine AO.opG rfl rfl rfl (fun hp => OpW.force 205 rfl (by exact hp) (OpW.force 209 rfl (by exact hp) (O.eqlS rfl rfl rfl (by rfl)))) ?_
                refine AO.op (O.pickAnd rfl rfl rfl rfl (fun h => by exact h)) rfl rfl rfl ?_
                refine AO.nil ?_
                refine AQ.thenN ?_
                refine AW.g ?_
                refine G.closeRow (b := b') 2 rfl hxs rfl hc1 hc2 ?_
                refine AW.u ?_
                refine AW.g ?_
                dsimp only [List.set]
                refine AW.u ?_
                refine AW.split rfl (fun h211 => ?_) (fun h211 => ?_) <;> (try simp only [decide_eq_true_eq, decide_eq_false_iff_not, beq_iff_eq, beq_eq_false_iff_ne, bne_iff_ne, bne_eq_false_iff_eq, Bool.not_eq_true', Bool.not_eq_false', Bool.not_eq_true, Bool.not_eq_false, ne_eq, Int.not_lt, Int.not_le, Bool.and_eq_true, Bool.or_eq_true, Bool.or_eq_false_iff, Bool.and_eq_false_imp, strOf_toList, Decidable.not_not] at h211)
                · skip
                  have hii : i' = i := h211.1
                  subst hii
                  have hkp4 : Kept b D (net3 ++ [(⟨payM 0 i', at_⟩ : Pk)]) now2 := hkp3.snoc (fun hd hl => by
                    obtain ⟨x, hx, h1, h2⟩ := hkp3 _ (getD_mem Pk.none hql) (by rw [hqm]; exact hd) (by rw [show (net3.getD q Pk.none).at_ = at_ from hat.symm]; exact hl)
                    rw [hqm] at h1
                    rw [show (net3.getD q Pk.none).at_ = at_ from hat.symm] at h2
                    exact ⟨x, hx, h1, h2⟩)
                  have hnet4 : NetOk (net3 ++ [(⟨payM 0 i', at_⟩ : Pk)]) n now2 := hnet3.snoc (.inl rfl) ⟨hi0, hin⟩ rfl hqa'
                  refine AW.seq ?_
                  refine AW.region ?_
                  refine AO.op (O.move rfl rfl) rfl rfl rfl ?_
                  refine AO.op (O.fieldAddr rfl rfl) rfl rfl rfl ?_
                  (refine AO.op (O.loadK rfl rfl (by repeat (first | exact List.Mem.head _ | refine List.Mem.tail _ ?_)) (by (dsimp only [List.set, List.append, List.cons_append, List.nil_append, roB_cells, roI_cells, roO_cells, roW_cells, roU_cells, roH_cells, splice, ofConst, AV.cells, List.map, List.map_cons, List.map_nil, List.take, List.drop, Nat.zero_add, Nat.add_zero, Nat.reduceAdd, Nat.reduceMul, Nat.zero_mul, Value.cells, List.toList_toArray, zerosA, List.replicate, List.flatten, List.append_nil]; done)) (by rfl)) rfl rfl rfl ?_)
                  refine AO.op (O.fieldAddr rfl rfl) rfl rfl rfl ?_
                  refine AO.op (O.load rfl rfl (by repeat (exact List.Mem.head _)) (by rfl)) rfl rfl rfl ?_
                  refine AO.op (O.build rfl rfl rfl (by rfl)) rfl rfl rfl ?_
                  refine AO.opB (O.buildSlice rfl rfl rfl (by rfl) (by rfl) (by rfl) (by rfl)) rfl rfl rfl ?_
                  intro B11
                  refine AO.g ?_
                  (refine G.freezeSl 0 218 rfl rfl ⟨Nat.le_refl _, by unfold maxLen; omega⟩ ?_)
                  refine G.unfull 218 rfl ?_
                  refine AO.u ?_
                  dsimp only [List.eraseIdx]
                  (refine AO.append' (i := 2) rfl rfl rfl rfl (by rfl) (by rfl) rfl rfl rfl (by exact SrcA.ro TyD.ax (by rfl) (Nat.le_of_ble_eq_true rfl)) (by rfl) (by (unfold maxLen; omega)) (by omega) (by (dsimp only [List.set, List.append, List.cons_append, List.nil_append, roB_cells, roI_cells, roO_cells, roW_cells, roU_cells, roH_cells, splice, ofConst, AV.cells, List.map, List.map_cons, List.map_nil, List.take, List.drop, Nat.zero_add, Nat.add_zero, Nat.reduceAdd, Nat.reduceMul, Nat.zero_mul, Value.cells, List.toList_toArray, zerosA, List.replicate, List.flatten, List.append_nil]; done)) (fun _ => by (dsimp only [List.set]; done)) ?_)
                  intro V12 hV12
                  refine AO.op (O.assign rfl rfl) rfl rfl rfl ?_
                  refine AO.nil ?_
                  refine AQ.thenN ?_
                  refine AW.exit ?_
                  refine AQ.blockY rfl ?_
                  refine AQ.thenX ?_
                  refine AQ.loopX ?_
                  refine AQ.blockX rfl ?_
                  refine AQ.blockN ?_
                  refine AQ.thenN ?_
                  refine AW.region ?_
                  refine AO.op (O.add rfl rfl rfl (by exact wI64 (by omega))) rfl rfl rfl ?_
                  refine AO.op (O.move rfl rfl) rfl rfl rfl ?_
                  refine AO.nil ?_
                  refine AQ.loopKN _ _ _ (by omega) (⟨j + 1, net3 ++ [(⟨payM 0 i', at_⟩ : Pk)], _, by omega, hnet4, hkp4, (by rw [List.length_append, List.length_singleton]; omega), ‹_›, rfl, rfl, by rw [pksA_snoc, List.length_append]⟩) (by repeat (first | exact envNil | refine envCons rfl ?_)) (by repeat (first | exact envNil | refine envCons rfl ?_)) (by repeat (first | exact subPnil | refine subPcons 2 rfl ?_))
                · skip
                  refine AW.skip ?_
                  refine AQ.blockN ?_
                  refine AQ.thenN ?_
                  refine AW.region ?_
                  refine AO.op (O.add rfl rfl rfl (by exact wI64 (by omega))) rfl rfl rfl ?_
                  refine AO.op (O.move rfl rfl) rfl rfl rfl ?_
                  refine AO.nil ?_
                  refine AQ.loopKN _ _ _ (by omega) (⟨q + 1, by omega, rfl, rfl, rfl⟩) (by repeat (first | exact envNil | refine envCons rfl ?_)) (by repeat (first | exact envNil | refine envCons rfl ?_)) (by repeat (first | exact subPnil | refine subPcons 1 rfl ?_))
              · skip
                refine AW.exit ?_
                refine AQ.thenX ?_
                refine AQ.loopX ?_
                refine AQ.blockX rfl ?_
                refine AQ.blockN ?_
                refine AQ.thenN ?_
                refine AW.region ?_
                refine AO.op (O.add rfl rfl rfl (by exact wI64 (by omega))) rfl rfl rfl ?_
                refine AO.op (O.move rfl rfl) rfl rfl rfl ?_
                refine AO.nil ?_
                refine AQ.loopKN _ _ _ (by omega) (⟨j + 1, net3, V3, by omega, hnet3, hkp3, by omega, hV3, rfl, rfl, rfl⟩) (by repeat (first | exact envNil | refine envCons rfl ?_)) (by repeat (first | exact envNil | refine envCons rfl ?_)) (by repeat (first | exact subPnil | refine subPcons 1 rfl ?_))
            · skip
              refine AW.exit ?_
              refine AQ.thenX ?_
              refine AQ.loopX ?_
              refine AQ.blockX rfl ?_
              refine AQ.blockN ?_
              refine AQ.blockN ?_
              refine AQ.loopKN _ _ _ (by omega) (⟨_, now2, n, r.1, b, net3, D, M, V3, ha2', hrA, hn2, hvb, hB, hkp3, hnet3, hD, hM, by omega, by omega, by omega, hV3, rfl, rfl, rfl⟩) (by repeat (first | exact envNil | refine envCons rfl ?_)) (by repeat (first | exact envNil | refine envCons rfl ?_)) (by repeat (first | exact subPnil | refine subPcons 0 rfl ?_))
        · skip
          refine AW.seq ?_
          refine AW.seq ?_
          refine AW.region ?_
          refine AO.op (O.move rfl rfl) rfl rfl rfl ?_
          refine AO.op (O.lenRow rfl rfl (by repeat (exact List.Mem.head _))) rfl rfl rfl ?_
          refine AO.op (O.eql rfl rfl rfl (by rfl)) rfl rfl rfl ?_
          refine AO.nil ?_
          refine AQ.thenN ?_
          refine AW.split rfl (fun h44 => ?_) (fun h44 => ?_) <;> (try simp only [decide_eq_true_eq, decide_eq_false_iff_not, beq_iff_eq, beq_eq_false_iff_ne, bne_iff_ne, bne_eq_false_iff_eq, Bool.not_eq_true', Bool.not_eq_false', Bool.not_eq_true, Bool.not_eq_false, ne_eq, Int.not_lt, Int.not_le, Bool.and_eq_true, Bool.or_eq_true, Bool.or_eq_false_iff, Bool.and_eq_false_imp, strOf_toList, Decidable.not_not] at h44)
          · skip
            refine AW.exit ?_
            refine AQ.thenX ?_
            refine AQ.blockY rfl ?_
            refine AQ.blockX rfl ?_
            refine AQ.loopKN _ _ _ (by omega) (⟨_, now2, n, a, b, net, D, M, V, ha2', hA, hn2, hvb, hB, hkp2, hnet2, hD, hM, by omega, by omega, by omega, hV, rfl, rfl, rfl⟩) (by repeat (first | exact envNil | refine envCons rfl ?_)) (by repeat (first | exact envNil | refine envCons rfl ?_)) (by repeat (first | exact subPnil | refine subPcons 0 rfl ?_))
          · skip
            have hnl0 : 0 < net.length := by omega
            have hz3 := nxt_in l (adv l (adv l kk)) (n := (net.length : Int)) (by omega)
            have ha3 := adv_ge l (adv l (adv l kk))
            have ha3' : adv l (adv l (adv l kk)) ≤ l.length := adv_le' ha2'
            obtain ⟨j, hj⟩ : ∃ j : Nat, nxt l (adv l (adv l kk)) (net.length : Int) = (j : Int) := ⟨(nxt l (adv l (adv l kk)) (net.length : Int)).toNat, by omega⟩
            rw [hj] at hz3
            have hjl : j < net.length := by omega
            obtain ⟨t, i, ht, hi0, hin, hqm, hqa, hqn⟩ := hnet2 _ (getD_mem Pk.none hjl)
            have hqm' : (pk net j).m = payM t i := hqm
            obtain ⟨at_, hat⟩ : ∃ at_, at_ = (pk net j).at_ := ⟨_, rfl⟩
            have hgp : ((pksA net).drop (0 + (nxt l (adv l (adv l kk)) (net.length : Int)).toNat * 7)).take 7 = [.val (.int .i64 t), .val (.int .i64 2), .val (.int .i64 i), roB [], roO [], roB [u8 (i + 1)], .val (.int .i64 at_)] := by
              rw [getP hjl (by omega), hat]; simp only [cP, hqm']
            have hqa' : 0 ≤ at_ ∧ at_ ≤ now2 := by rw [hat]; exact ⟨hqa, hqn⟩
            refine AW.g ?_
            refine G.openRow 0 rfl (by omega) (fun b' cap hc1 hc2 hxs hVe => ?_)
            refine AW.u ?_
            subst hVe
            refine AW.g ?_
            dsimp only [List.set]
            refine AW.u ?_
            refine AW.skip ?_
            refine AQ.thenN ?_
            refine AW.seq ?_
            refine AW.region ?_
            refine AO.op (O.move rfl rfl) rfl rfl rfl ?_
            refine AO.op (O.move rfl rfl) rfl rfl rfl ?_
            refine AO.op (O.move rfl rfl) rfl rfl rfl ?_
            refine AO.op (O.lenV rfl rfl) rfl rfl rfl ?_
            (refine AO.callM1 (i := 4) rfl rfl Try.func30 rfl rfl rfl rfl rfl rfl (next_fn _ _ _ _ hl (by repeat (assumption)) (by omega) (by omega)) (by (dsimp only [List.set, List.append, List.cons_append, List.nil_append, roB_cells, roI_cells, roO_cells, roW_cells, roU_cells, roH_cells, splice, ofConst, AV.cells, List.map, List.map_cons, List.map_nil, List.take, List.drop, Nat.zero_add, Nat.add_zero, Nat.reduceAdd, Nat.reduceMul, Nat.zero_mul, Value.cells, List.toList_toArray, zerosA, List.replicate, List.flatten, List.append_nil]; done)) ?_)
            refine AO.op (O.idxV rfl rfl rfl ⟨(by omega), (by omega)⟩) rfl rfl rfl ?_
            refine AO.op (O.loadK rfl rfl (by repeat (exact List.Mem.head _)) (by exact hgp) (by rfl)) rfl rfl rfl ?_
            refine AO.opB (O.alloc rfl (by (dsimp only [List.set, List.append, List.cons_append, List.nil_append, roB_cells, roI_cells, roO_cells, roW_cells, roU_cells, roH_cells, splice, ofConst, AV.cells, List.map, List.map_cons, List.map_nil, List.take, List.drop, Nat.zero_add, Nat.add_zero, Nat.reduceAdd, Nat.reduceMul, Nat.zero_mul, Value.cells, List.toList_toArray, zerosA, List.replicate, List.flatten, List.append_nil]; done)) (by rfl)) rfl rfl rfl ?_
            intro B13
            (refine AO.store (i := 0) rfl rfl rfl rfl rfl rfl (by rfl) (by rfl) (by rfl) (by (dsimp only [List.set, List.append, List.cons_append, List.nil_append, roB_cells, roI_cells, roO_cells, roW_cells, roU_cells, roH_cells, splice, ofConst, AV.cells, List.map, List.map_cons, List.map_nil, List.take, List.drop, Nat.zero_add, Nat.add_zero, Nat.reduceAdd, Nat.reduceMul, Nat.zero_mul, Value.cells, List.toList_toArray, zerosA, List.replicate, List.flatten, List.append_nil]; done)) (by (dsimp only [List.set, List.append, List.cons_append, List.nil_append, roB_cells, roI_cells, roO_cells, roW_cells, roU_cells, roH_cells, splice, ofConst, AV.cells, List.map, List.map_cons, List.map_nil, List.take, List.drop, Nat.zero_add, Nat.add_zero, Nat.reduceAdd, Nat.reduceMul, Nat.zero_mul, Value.cells, List.toList_toArray, zerosA, List.replicate, List.flatten, List.append_nil]; done)) ?_)
            refine AO.nil ?_
            refine AQ.thenN ?_
            refine AW.seq ?_
            refine AW.seq ?_
            refine AW.region ?_
            refine AO.op (O.move rfl rfl) rfl rfl rfl ?_
            refine AO.op (O.fieldAddr rfl rfl) rfl rfl rfl ?_
            refine AO.op (O.load rfl rfl (by repeat (exact List.Mem.head _)) (by rfl)) rfl rfl rfl ?_
            refine AO.op (O.sub rfl rfl rfl (by exact wI64 (by omega))) rfl rfl rfl ?_
            refine AO.op (O.geq rfl rfl rfl (by rfl)) rfl rfl rfl ?_
            refine AO.nil ?_
            refine AQ.thenN ?_
            refine AW.g ?_
            refine G.closeRow (b := b') 1 rfl hxs rfl hc1 hc2 ?_
            refine AW.u ?_
            refine AW.g ?_
            dsimp only [List.set]
            refine AW.u ?_
            refine AW.split rfl (fun h56 => ?_) (fun h56 => ?_) <;> (try simp only [decide_eq_true_eq, decide_eq_false_iff_not, beq_iff_eq, beq_eq_false_iff_ne, bne_iff_ne, bne_eq_false_iff_eq, Bool.not_eq_true', Bool.not_eq_false', Bool.not_eq_true, Bool.not_eq_false, ne_eq, Int.not_lt, Int.not_le, Bool.and_eq_true, Bool.or_eq_true, Bool.or_eq_false_iff, Bool.and_eq_false_imp, strOf_toList, Decidable.not_not] at h56)
            · skip
              refine AW.exit ?_
              refine AQ.thenX ?_
              refine AQ.blockY rfl ?_
              refine AQ.blockX rfl ?_
              refine AQ.loopKN _ _ _ (by omega) (⟨_, now2, n, a, b, net, D, M, _, ha3', hA, hn2, hvb, hB, hkp2, hnet2, hD, hM, by omega, by omega, by omega, hV, rfl, rfl, rfl⟩) (by repeat (first | exact envNil | refine envCons rfl ?_)) (by repeat (first | exact envNil | refine envCons rfl ?_)) (by repeat (first | exact subPnil | refine subPcons 1 rfl ?_))
            · skip
              have hn200 : n < 200 := hn2
              have hrec := once_recv hvb hB hkp2 hnet2 (getD_mem Pk.none hjl) hqm' ht ⟨hi0, by omega⟩ hto (by have : (net.getD j Pk.none).at_ = at_ := hat.symm; omega)
              refine AW.skip ?_
              refine AQ.thenN ?_
              refine AW.seq ?_
              refine AW.region ?_
              (refine AO.op (O.loadK rfl rfl (by repeat (first | exact List.Mem.head _ | refine List.Mem.tail _ ?_)) (by (dsimp only [List.set, List.append, List.cons_append, List.nil_append, roB_cells, roI_cells, roO_cells, roW_cells, roU_cells, roH_cells, splice, ofConst, AV.cells, List.map, List.map_cons, List.map_nil, List.take, List.drop, Nat.zero_add, Nat.add_zero, Nat.reduceAdd, Nat.reduceMul, Nat.zero_mul, Value.cells, List.toList_toArray, zerosA, List.replicate, List.flatten, List.append_nil]; done)) (by rfl)) rfl rfl rfl ?_)
              refine AO.op (O.fieldAddr rfl rfl) rfl rfl rfl ?_
              (refine AO.op (O.loadK rfl rfl (by repeat (exact List.Mem.head _)) (by (dsimp only [List.set, List.append, List.cons_append, List.nil_append, roB_cells, roI_cells, roO_cells, roW_cells, roU_cells, roH_cells, splice, ofConst, AV.cells, List.map, List.map_cons, List.map_nil, List.take, List.drop, Nat.zero_add, Nat.add_zero, Nat.reduceAdd, Nat.reduceMul, Nat.zero_mul, Value.cells, List.toList_toArray, zerosA, List.replicate, List.flatten, List.append_nil]; done)) (by rfl)) rfl rfl rfl ?_)
              refine AO.op (O.move rfl rfl) rfl rfl rfl ?_
              refine AO.op (O.call rfl Try.func26 rfl rfl rfl (recv_fn b _ (payM t i) _ hbdB)) rfl rfl rfl ?_
              refine AO.op (O.move rfl rfl) rfl rfl rfl ?_
              refine AO.op (O.extract rfl rfl rfl) rfl rfl rfl ?_
              refine AO.op (O.extract rfl rfl rfl) rfl rfl rfl ?_
              refine AO.op (O.extract rfl rfl rfl) rfl rfl rfl ?_
              refine AO.op (O.extract rfl rfl rfl) rfl rfl rfl ?_
              refine AO.opB (O.alloc rfl (by (dsimp only [List.set, List.append, List.cons_append, List.nil_append, roB_cells, roI_cells, roO_cells, roW_cells, roU_cells, roH_cells, splice, ofConst, AV.cells, List.map, List.map_cons, List.map_nil, List.take, List.drop, Nat.zero_add, Nat.add_zero, Nat.reduceAdd, Nat.reduceMul, Nat.zero_mul, Value.cells, List.toList_toArray, zerosA, List.replicate, List.flatten, List.append_nil]; done)) (by rfl)) rfl rfl rfl ?_
              intro B14
              refine AO.opB (O.alloc rfl (by (dsimp only [List.set, List.append, List.cons_append, List.nil_append, roB_cells, roI_cells, roO_cells, roW_cells, roU_cells, roH_cells, splice, ofConst, AV.cells, List.map, List.map_cons, List.map_nil, List.take, List.drop, Nat.zero_add, Nat.add_zero, Nat.reduceAdd, Nat.reduceMul, Nat.zero_mul, Value.cells, List.toList_toArray, zerosA, List.replicate, List.flatten, List.append_nil]; done)) (by rfl)) rfl rfl rfl ?_
              intro B15
              (refine AO.store (i := 1) rfl rfl rfl rfl rfl rfl (by rfl) (by rfl) (by rfl) (by (dsimp only [List.set, List.append, List.cons_append, List.nil_append, roB_cells, roI_cells, roO_cells, roW_cells, roU_cells, roH_cells, splice, ofConst, AV.cells, List.map, List.map_cons, List.map_nil, List.take, List.drop, Nat.zero_add, Nat.add_zero, Nat.reduceAdd, Nat.reduceMul, Nat.zero_mul, Value.cells, List.toList_toArray, zerosA, List.replicate, List.flatten, List.append_nil]; done)) (by (dsimp only [List.set, List.append, List.cons_append, List.nil_append, roB_cells, roI_cells, roO_cells, roW_cells, roU_cells, roH_cells, splice, ofConst, AV.cells, List.map, List.map_cons, List.map_nil, List.take, List.drop, Nat.zero_add, Nat.add_zero, Nat.reduceAdd, Nat.reduceMul, Nat.zero_mul, Value.cells, List.toList_toArray, zerosA, List.replicate, List.flatten, List.append_nil]; done)) ?_)
              refine AO.op (O.assign rfl rfl) rfl rfl rfl ?_
              (refine AO.store (i := 0) rfl rfl rfl rfl rfl rfl (by rfl) (by rfl) (by rfl) (by (dsimp only [List.set, List.append, List.cons_append, List.nil_append, roB_cells, roI_cells, roO_cells, roW_cells, roU_cells, roH_cells, splice, ofConst, AV.cells, List.map, List.map_cons, List.map_nil, List.take, List.drop, Nat.zero_add, Nat.add_zero, Nat.reduceAdd, Nat.reduceMul, Nat.zero_mul, Value.cells, List.toList_toArray, zerosA, List.replicate, List.flatten, List.append_nil]; done)) (by (dsimp only [List.set, List.append, List.cons_append, List.nil_append, roB_cells, roI_cells, roO_cells, roW_cells, roU_cells, roH_cells, splice, ofConst, AV.cells, List.map, List.map_cons, List.map_nil, List.take, List.drop, Nat.zero_add, Nat.add_zero, Nat.reduceAdd, Nat.reduceMul, Nat.zero_mul, Value.cells, List.toList_toArray, zerosA, List.replicate, List.flatten, List.append_nil]; done)) ?_)
              refine AO.op (O.assign rfl rfl) rfl rfl rfl ?_
              refine AO.nil ?_
              refine AQ.thenN ?_
              refine AW.seq ?_
              refine AW.seq ?_
              refine AW.region ?_
              refine AO.op (O.move rfl rfl) rfl rfl rfl ?_
              refine AO.op (O.neq rfl rfl rfl (by exact bne_eq_false_iff_eq.2 (by omega))) rfl rfl rfl ?_
              refine AO.op (O.move rfl rfl) rfl rfl rfl ?_
              refine AO.opG rfl rfl rfl (fun hp => O.fieldAddr rfl rfl) ?_
              refine AO.opG rfl rfl rfl (fun hp => OpW.force 70 rfl (by exact hp) (O.fieldAddr rfl rfl)) ?_
              refine AO.opG rfl rfl rfl (fun hp => OpW.force 71 rfl (by exact hp) (O.load rfl rfl (by repeat (first | exact List.Mem.head _ | refine List.Mem.tail _ ?_)) (by rfl))) ?_
              refine AO.opG rfl rfl rfl (fun hp => OpW.force 72 rfl (by exact hp) (O.lenR rfl rfl)) ?_
              refine AO.opG rfl rfl rfl (fun hp => OpW.force 73 rfl (by exact hp) (O.neq rfl rfl rfl (by rfl))) ?_
              refine AO.op (O.pickOr rfl rfl rfl rfl (fun h => by exact congrArg (fun b => !b) h)) rfl rfl rfl ?_
              refine AO.nil ?_
              refine AQ.thenN ?_
              generalize recvR b 1 (payM t i) now2 = r at *
              obtain ⟨r1, r2, r3, r4⟩ := r
              dsimp only at hrec
              obtain ⟨rfl, hvr, hrec⟩ := hrec
              have hbdR := (ValE.sm hvr).bd
              dsimp only
              refine AW.split rfl (fun h75 => ?_) (fun h75 => ?_) <;> (try simp only [decide_eq_true_eq, decide_eq_false_iff_not, beq_iff_eq, beq_eq_false_iff_ne, bne_iff_ne, bne_eq_false_iff_eq, Bool.not_eq_true', Bool.not_eq_false', Bool.not_eq_true, Bool.not_eq_false, ne_eq, Int.not_lt, Int.not_le, Bool.and_eq_true, Bool.or_eq_true, Bool.or_eq_false_iff, Bool.and_eq_false_imp, strOf_toList, Decidable.not_not] at h75)
              · skip
                exact absurd h75 (by simp)
              · skip
                refine AW.skip ?_
                refine AQ.thenN ?_
                refine AW.seq ?_
                refine AW.region ?_
                refine AO.op (O.fieldAddr rfl rfl) rfl rfl rfl ?_
                refine AO.op (O.fieldAddr rfl rfl) rfl rfl rfl ?_
                refine AO.op (O.load rfl rfl (by repeat (first | exact List.Mem.head _ | refine List.Mem.tail _ ?_)) (by rfl)) rfl rfl rfl ?_
                refine AO.op (O.idxR rfl rfl rfl ⟨(by omega), (by omega)⟩) rfl rfl rfl ?_
                refine AO.op (O.loadR rfl rfl (by rfl)) rfl rfl rfl ?_
                refine AO.op (O.assign rfl rfl) rfl rfl rfl ?_
                refine AO.nil ?_
                refine AQ.thenN ?_
                refine AW.seq ?_
                refine AW.seq ?_
                refine AW.region ?_
                refine AO.op (O.move rfl rfl) rfl rfl rfl ?_
                refine AO.nil ?_
                refine AQ.thenN ?_
                refine AW.block ?_
                refine AW.seq ?_
                refine AW.region ?_
                refine AO.op (O.eql rfl rfl rfl (by rfl)) rfl rfl rfl ?_
                refine AO.op (O.assign rfl rfl) rfl rfl rfl ?_
                refine AO.nil ?_
                refine AQ.thenN ?_
                rcases hrec with ⟨rfl, hB', hk', hid, rfl⟩ | ⟨rfl, hB', hk', hnd⟩ | ⟨rfl, hnd, ha0, hva, hBa, hka⟩
                · skip
                  refine AW.split rfl (fun h82 => ?_) (fun h82 => ?_) <;> (try simp only [decide_eq_true_eq, decide_eq_false_iff_not, beq_iff_eq, beq_eq_false_iff_ne, bne_iff_ne, bne_eq_false_iff_eq, Bool.not_eq_true', Bool.not_eq_false', Bool.not_eq_true, Bool.not_eq_false, ne_eq, Int.not_lt, Int.not_le, Bool.and_eq_true, Bool.or_eq_true, Bool.or_eq_false_iff, Bool.and_eq_false_imp, strOf_toList, Decidable.not_not] at h82)
                  · skip
                    exact absurd h82 (by simp)
                  · skip
                    refine AW.seq ?_
                    refine AW.region ?_
                    refine AO.op (O.eql rfl rfl rfl (by exact beq_iff_eq.2 (by omega))) rfl rfl rfl ?_
                    refine AO.op (O.assign rfl rfl) rfl rfl rfl ?_
                    refine AO.nil ?_
                    refine AQ.thenN ?_
                    refine AW.split rfl (fun h104 => ?_) (fun h104 => ?_) <;> (try simp only [decide_eq_true_eq, decide_eq_false_iff_not, beq_iff_eq, beq_eq_false_iff_ne, bne_iff_ne, bne_eq_false_iff_eq, Bool.not_eq_true', Bool.not_eq_false', Bool.not_eq_true, Bool.not_eq_false, ne_eq, Int.not_lt, Int.not_le, Bool.and_eq_true, Bool.or_eq_true, Bool.or_eq_false_iff, Bool.and_eq_false_imp, strOf_toList, Decidable.not_not] at h104)
                    · skip
                      have hdn := (hM.has i hi0 (by omega)).trans (decide_eq_true hid)
                      refine AW.seq ?_
                      refine AW.region ?_
                      refine AO.op (O.move rfl rfl) rfl rfl rfl ?_
                      refine AO.op (O.move rfl rfl) rfl rfl rfl ?_
                      refine AO.op (O.lookB rfl rfl rfl (by repeat (first | exact List.Mem.head _ | refine List.Mem.tail _ ?_)) (by exact KeyA.int Try.underlying5 (wfU8 _))) rfl rfl rfl ?_
                      refine AO.op (O.not rfl rfl (by rfl)) rfl rfl rfl ?_
                      refine AO.op (O.move rfl rfl) rfl rfl rfl ?_
                      refine AO.opG rfl rfl rfl (fun hp => O.fieldAddr rfl rfl) ?_
                      refine AO.opG rfl rfl rfl (fun hp => OpW.force 111 rfl (by exact hp) (O.load rfl rfl (by repeat (exact List.Mem.head _)) (by rfl))) ?_
                      refine AO.opG rfl rfl rfl (fun hp => OpW.force 112 rfl (by exact hp) (O.lenR rfl rfl)) ?_
                      refine AO.opG rfl rfl rfl (fun hp => OpW.force 113 rfl (by exact hp) (O.neq rfl rfl rfl (by rfl))) ?_
                      refine AO.op (O.pickOr rfl rfl rfl rfl (fun h => by exact congrArg (fun b => !b) h)) rfl rfl rfl ?_
                      refine AO.op (O.move rfl rfl) rfl rfl rfl ?_
                      refine AO.opG rfl rfl rfl (fun hp => O.fieldAddr rfl rfl) ?_
                      refine AO.opG rfl rfl rfl (fun hp => OpW.force 117 rfl (by exact hp) (O.load rfl rfl (by repeat (exact List.Mem.head _)) (by rfl))) ?_
                      (refine AO.opG rfl rfl rfl (fun hp => OpW.force 118 rfl (by exact hp) (O.idxR rfl rfl rfl ⟨(by omega), (by (simp only [List.length_take, List.length_drop, List.length_append, List.length_cons, List.length_nil, List.length_set, Nat.zero_add]; omega))⟩)) ?_)
                      refine AO.opG rfl rfl rfl (fun hp => OpW.force 119 rfl (by exact hp) (O.loadR rfl rfl (by rfl))) ?_
                      refine AO.opG rfl rfl rfl (fun hp => O.move rfl rfl) ?_
                      refine AO.opG rfl rfl rfl (fun hp => OpW.force 120 rfl (by exact hp) (OpW.force 121 rfl (by exact hp) (O.neq rfl rfl rfl (by exact bne_eq_false_iff_eq.2 (by omega))))) ?_
                      refine AO.op (O.pickOr rfl rfl rfl rfl (fun h => by exact congrArg (fun b => !b) h)) rfl rfl rfl ?_
                      refine AO.op (O.move rfl rfl) rfl rfl rfl ?_
                      refine AO.opG rfl rfl rfl (fun hp => O.fieldAddr rfl rfl) ?_
                      refine AO.opG rfl rfl rfl (fun hp => OpW.force 125 rfl (by exact hp) (O.load rfl rfl (by repeat (exact List.Mem.head _)) (by rfl))) ?_
                      refine AO.opG rfl rfl rfl (fun hp => O.fieldAddr rfl rfl) ?_
                      refine AO.opG rfl rfl rfl (fun hp => OpW.force 127 rfl (by exact hp) (O.fieldAddr rfl rfl)) ?_
                      refine AO.opG rfl rfl rfl (fun hp => OpW.force 128 rfl (by exact hp) (O.load rfl rfl (by repeat (first | exact List.Mem.head _ | refine List.Mem.tail _ ?_)) (by rfl))) ?_
                      refine AO.opG rfl rfl rfl (fun hp => OpW.force 126 rfl (by exact hp) (OpW.force 129 rfl (by exact hp) (O.neq rfl rfl rfl (by rfl)))) ?_
                      refine AO.op (O.pickOr rfl rfl rfl rfl (fun h => by exact congrArg (fun b => !b) h)) rfl rfl rfl ?_
                      refine AO.nil ?_
                      refine AQ.thenN ?_
                      refine AW.split rfl (fun h131 => ?_) (fun h131 => ?_) <;> (try simp only [decide_eq_true_eq, decide_eq_false_iff_not, beq_iff_eq, beq_eq_false_iff_ne, bne_iff_ne, bne_eq_false_iff_eq, Bool.not_eq_true', Bool.not_eq_false', Bool.not_eq_true, Bool.not_eq_false, ne_eq, Int.not_lt, Int.not_le, Bool.and_eq_true, Bool.or_eq_true, Bool.or_eq_false_iff, Bool.and_eq_false_imp, strOf_toList, Decidable.not_not] at h131)
                      · skip
                        have hdn' : mBool (mGet M (Lit.int .u8 ((u8 (i + 1)).toNat : Int)) (.bool false)) = true := hdn
                        rw [hdn'] at h131
                        simp at h131
                      · skip
                        refine AW.skip ?_
                        refine AQ.blockN ?_
                        refine AQ.thenN ?_
                        refine AW.region ?_
                        (refine AO.op (O.loadK rfl rfl (by repeat (first | exact List.Mem.head _ | refine List.Mem.tail _ ?_)) (by (dsimp only [List.set, List.append, List.cons_append, List.nil_append, roB_cells, roI_cells, roO_cells, roW_cells, roU_cells, roH_cells, splice, ofConst, AV.cells, List.map, List.map_cons, List.map_nil, List.take, List.drop, Nat.zero_add, Nat.add_zero, Nat.reduceAdd, Nat.reduceMul, Nat.zero_mul, Value.cells, List.toList_toArray, zerosA, List.replicate, List.flatten, List.append_nil]; done)) (by rfl)) rfl rfl rfl ?_)
                        (refine AO.store (i := 5) rfl rfl rfl rfl rfl rfl (by rfl) (by rfl) (by rfl) (by (dsimp only [List.set, List.append, List.cons_append, List.nil_append, roB_cells, roI_cells, roO_cells, roW_cells, roU_cells, roH_cells, splice, ofConst, AV.cells, List.map, List.map_cons, List.map_nil, List.take, List.drop, Nat.zero_add, Nat.add_zero, Nat.reduceAdd, Nat.reduceMul, Nat.zero_mul, Value.cells, List.toList_toArray, zerosA, List.replicate, List.flatten, List.append_nil]; done)) (by (dsimp only [List.set, List.append, List.cons_append, List.nil_append, roB_cells, roI_cells, roO_cells, roW_cells, roU_cells, roH_cells, splice, ofConst, AV.cells, List.map, List.map_cons, List.map_nil, List.take, List.drop, Nat.zero_add, Nat.add_zero, Nat.reduceAdd, Nat.reduceMul, Nat.zero_mul, Value.cells, List.toList_toArray, zerosA, List.replicate, List.flatten, List.append_nil]; done)) ?_)
                        refine AO.nil ?_
                        refine AQ.blockN ?_
                        refine AQ.blockN ?_
                        refine AQ.loopKN _ _ _ (by omega) (⟨_, now2, n, a, r1, net, D, M, _, ha3', hA, hn2, hvr, hB', hk', hnet2, hD, hM, by omega, by omega, by omega, hV, rfl, rfl, rfl⟩) (by repeat (first | exact envNil | refine envCons rfl ?_)) (by repeat (first | exact envNil | refine envCons rfl ?_)) (by repeat (first | exact subPnil | refine subPcons 3 rfl ?_))
                    · skip
                      exact absurd h104 (by simp)
                · skip
                  refine AW.split rfl (fun h82 => ?_) (fun h82 => ?_) <;> (try simp only [decide_eq_true_eq, decide_eq_false_iff_not, beq_iff_eq, beq_eq_false_iff_ne, bne_iff_ne, bne_eq_false_iff_eq, Bool.not_eq_true', Bool.not_eq_false', Bool.not_eq_true, Bool.not_eq_false, ne_eq, Int.not_lt, Int.not_le, Bool.and_eq_true, Bool.or_eq_true, Bool.or_eq_false_iff, Bool.and_eq_false_imp, strOf_toList, Decidable.not_not] at h82)
                  · skip
                    exact absurd h82 (by simp)
                  · skip
                    refine AW.seq ?_
                    refine AW.region ?_
                    refine AO.op (O.eql rfl rfl rfl (by exact beq_eq_false_iff_ne.2 (by omega))) rfl rfl rfl ?_
                    refine AO.op (O.assign rfl rfl) rfl rfl rfl ?_
                    refine AO.nil ?_
                    refine AQ.thenN ?_
                    refine AW.split rfl (fun h104 => ?_) (fun h104 => ?_) <;> (try simp only [decide_eq_true_eq, decide_eq_false_iff_not, beq_iff_eq, beq_eq_false_iff_ne, bne_iff_ne, bne_eq_false_iff_eq, Bool.not_eq_true', Bool.not_eq_false', Bool.not_eq_true, Bool.not_eq_false, ne_eq, Int.not_lt, Int.not_le, Bool.and_eq_true, Bool.or_eq_true, Bool.or_eq_false_iff, Bool.and_eq_false_imp, strOf_toList, Decidable.not_not] at h104)
                    · skip
                      exact absurd h104 (by simp)
                    · skip
                      refine AW.seq ?_
                      refine AW.region ?_
                      refine AO.op (O.eql rfl rfl rfl (by exact beq_iff_eq.2 (by omega))) rfl rfl rfl ?_
                      refine AO.op (O.assign rfl rfl) rfl rfl rfl ?_
                      refine AO.nil ?_
                      refine AQ.thenN ?_
                      refine AW.split rfl (fun h132 => ?_) (fun h132 => ?_) <;> (try simp only [decide_eq_true_eq, decide_eq_false_iff_not, beq_iff_eq, beq_eq_false_iff_ne, bne_iff_ne, bne_eq_false_iff_eq, Bool.not_eq_true', Bool.not_eq_false', Bool.not_eq_true, Bool.not_eq_false, ne_eq, Int.not_lt, Int.not_le, Bool.and_eq_true, Bool.or_eq_true, Bool.or_eq_false_iff, Bool.and_eq_false_imp, strOf_toList, Decidable.not_not] at h132)
                      · skip
                        have hdn := (hM.has i hi0 (by omega)).trans (decide_eq_false hnd)
                        refine AW.seq ?_
                        refine AW.region ?_
                        refine AO.op (O.move rfl rfl) rfl rfl rfl ?_
                        refine AO.op (O.move rfl rfl) rfl rfl rfl ?_
                        refine AO.op (O.lookB rfl rfl rfl (by repeat (first | exact List.Mem.head _ | refine List.Mem.tail _ ?_)) (by exact KeyA.int Try.underlying5 (wfU8 _))) rfl rfl rfl ?_
                        refine AO.nil ?_
                        refine AQ.thenN ?_
                        refine AW.split rfl (fun h136 => ?_) (fun h136 => ?_) <;> (try simp only [decide_eq_true_eq, decide_eq_false_iff_not, beq_iff_eq, beq_eq_false_iff_ne, bne_iff_ne, bne_eq_false_iff_eq, Bool.not_eq_true', Bool.not_eq_false', Bool.not_eq_true, Bool.not_eq_false, ne_eq, Int.not_lt, Int.not_le, Bool.and_eq_true, Bool.or_eq_true, Bool.or_eq_false_iff, Bool.and_eq_false_imp, strOf_toList, Decidable.not_not] at h136)
                        · skip
                          exact absurd (hdn.symm.trans h136) (by simp)
                        · skip
                          refine AW.skip ?_
                          refine AQ.blockN ?_
                          refine AQ.thenN ?_
                          refine AW.region ?_
                          (refine AO.op (O.loadK rfl rfl (by repeat (first | exact List.Mem.head _ | refine List.Mem.tail _ ?_)) (by (dsimp only [List.set, List.append, List.cons_append, List.nil_append, roB_cells, roI_cells, roO_cells, roW_cells, roU_cells, roH_cells, splice, ofConst, AV.cells, List.map, List.map_cons, List.map_nil, List.take, List.drop, Nat.zero_add, Nat.add_zero, Nat.reduceAdd, Nat.reduceMul, Nat.zero_mul, Value.cells, List.toList_toArray, zerosA, List.replicate, List.flatten, List.append_nil]; done)) (by rfl)) rfl rfl rfl ?_)
                          (refine AO.store (i := 5) rfl rfl rfl rfl rfl rfl (by rfl) (by rfl) (by rfl) (by (dsimp only [List.set, List.append, List.cons_append, List.nil_append, roB_cells, roI_cells, roO_cells, roW_cells, roU_cells, roH_cells, splice, ofConst, AV.cells, List.map, List.map_cons, List.map_nil, List.take, List.drop, Nat.zero_add, Nat.add_zero, Nat.reduceAdd, Nat.reduceMul, Nat.zero_mul, Value.cells, List.toList_toArray, zerosA, List.replicate, List.flatten, List.append_nil]; done)) (by (dsimp only [List.set, List.append, List.cons_append, List.nil_append, roB_cells, roI_cells, roO_cells, roW_cells, roU_cells, roH_cells, splice, ofConst, AV.cells, List.map, List.map_cons, List.map_nil, List.take, List.drop, Nat.zero_add, Nat.add_zero, Nat.reduceAdd, Nat.reduceMul, Nat.zero_mul, Value.cells, List.toList_toArray, zerosA, List.replicate, List.flatten, List.append_nil]; done)) ?_)
                          refine AO.nil ?_
                          refine AQ.blockN ?_
                          refine AQ.blockN ?_
                          refine AQ.loopKN _ _ _ (by omega) (⟨_, now2, n, a, r1, net, D, M, _, ha3', hA, hn2, hvr, hB', hk', hnet2, hD, hM, by omega, by omega, by omega, hV, rfl, rfl, rfl⟩) (by repeat (first | exact envNil | refine envCons rfl ?_)) (by repeat (first | exact envNil | refine envCons rfl ?_)) (by repeat (first | exact subPnil | refine subPcons 3 rfl ?_))
                      · skip
                        exact absurd h132 (by simp)
                · skip
                  refine AW.split rfl (fun h82 => ?_) (fun h82 => ?_) <;> (try simp only [decide_eq_true_eq, decide_eq_false_iff_not, beq_iff_eq, beq_eq_false_iff_ne, bne_iff_ne, bne_eq_false_iff_eq, Bool.not_eq_true', Bool.not_eq_false', Bool.not_eq_true, Bool.not_eq_false, ne_eq, Int.not_lt, Int.not_le, Bool.and_eq_true, Bool.or_eq_true, Bool.or_eq_false_iff, Bool.and_eq_false_imp, strOf_toList, Decidable.not_not] at h82)
                  · skip
                    have hdn := (hM.has i hi0 (by omega)).trans (decide_eq_false hnd)
                    refine AW.seq ?_
                    refine AW.seq ?_
                    refine AW.region ?_
                    refine AO.op (O.move rfl rfl) rfl rfl rfl ?_
                    refine AO.op (O.move rfl rfl) rfl rfl rfl ?_
                    refine AO.op (O.lookB rfl rfl rfl (by repeat (first | exact List.Mem.head _ | refine List.Mem.tail _ ?_)) (by exact KeyA.int Try.underlying5 (wfU8 _))) rfl rfl rfl ?_
                    refine AO.nil ?_
                    refine AQ.thenN ?_
                    refine AW.split rfl (fun h86 => ?_) (fun h86 => ?_) <;> (try simp only [decide_eq_true_eq, decide_eq_false_iff_not, beq_iff_eq, beq_eq_false_iff_ne, bne_iff_ne, bne_eq_false_iff_eq, Bool.not_eq_true', Bool.not_eq_false', Bool.not_eq_true, Bool.not_eq_false, ne_eq, Int.not_lt, Int.not_le, Bool.and_eq_true, Bool.or_eq_true, Bool.or_eq_false_iff, Bool.and_eq_false_imp, strOf_toList, Decidable.not_not] at h86)
                    · skip
                      exact absurd (hdn.symm.trans h86) (by simp)
                    · skip
                      refine AW.skip ?_
                      refine AQ.thenN ?_
                      refine AW.seq ?_
                      refine AW.region ?_
                      refine AO.op (O.move rfl rfl) rfl rfl rfl ?_
                      refine AO.op (O.move rfl rfl) rfl rfl rfl ?_
                      (refine AO.mapPut (i := 4) rfl rfl rfl rfl rfl rfl rfl (by exact KeyA.int Try.underlying5 (wfU8 _)) (by exact plainElem_bool TyD.ax _) (by ( unfold maxLen; omega)) (by (dsimp only [List.set, List.append, List.cons_append, List.nil_append, roB_cells, roI_cells, roO_cells, roW_cells, roU_cells, roH_cells, splice, ofConst, AV.cells, List.map, List.map_cons, List.map_nil, List.take, List.drop, Nat.zero_add, Nat.add_zero, Nat.reduceAdd, Nat.reduceMul, Nat.zero_mul, Value.cells, List.toList_toArray, zerosA, List.replicate, List.flatten, List.append_nil]; done)) ?_)
                      refine AO.nil ?_
                      refine AQ.thenN ?_
                      refine AW.seq ?_
                      refine AW.region ?_
                      (refine AO.op (O.loadK rfl rfl (by repeat (first | exact List.Mem.head _ | refine List.Mem.tail _ ?_)) (by (dsimp only [List.set, List.append, List.cons_append, List.nil_append, roB_cells, roI_cells, roO_cells, roW_cells, roU_cells, roH_cells, splice, ofConst, AV.cells, List.map, List.map_cons, List.map_nil, List.take, List.drop, Nat.zero_add, Nat.add_zero, Nat.reduceAdd, Nat.reduceMul, Nat.zero_mul, Value.cells, List.toList_toArray, zerosA, List.replicate, List.flatten, List.append_nil]; done)) (by rfl)) rfl rfl rfl ?_)
                      refine AO.op (O.fieldAddr rfl rfl) rfl rfl rfl ?_
                      refine AO.op (O.fieldAddr rfl rfl) rfl rfl rfl ?_
                      refine AO.op (O.load rfl rfl (by repeat (first | exact List.Mem.head _ | refine List.Mem.tail _ ?_)) (by rfl)) rfl rfl rfl ?_
                      refine AO.op (O.move rfl rfl) rfl rfl rfl ?_
                      refine AO.opB (O.buildSlice rfl rfl rfl (by rfl) (by rfl) (by rfl) (by rfl)) rfl rfl rfl ?_
                      intro B16
                      refine AO.g ?_
                      (refine G.freezeSl 0 95 rfl rfl ⟨Nat.le_refl _, by unfold maxLen; omega⟩ ?_)
                      refine G.unfull 95 rfl ?_
                      refine AO.u ?_
                      dsimp only [List.eraseIdx]
                      refine AO.op (O.build rfl rfl rfl (by rfl)) rfl rfl rfl ?_
                      refine AO.op (O.move rfl rfl) rfl rfl rfl ?_
                      (refine AO.op (O.callC rfl Try.func31 rfl rfl rfl (answer_fn r1 _ _ ⟨0, 68, 0, [], [], [u8 (i + 1)]⟩ _ hbdR) (by (repeat (first | exact CoeL.nil | refine CoeL.cons Coe.rfl ?_ | refine CoeL.cons Coe.nil ?_ | refine CoeL.cons (Coe.agg ?_) ?_)); done)) rfl rfl rfl ?_)
                      refine AO.op (O.move rfl rfl) rfl rfl rfl ?_
                      refine AO.op (O.extract rfl rfl rfl) rfl rfl rfl ?_
                      refine AO.op (O.extract rfl rfl rfl) rfl rfl rfl ?_
                      refine AO.op (O.extract rfl rfl rfl) rfl rfl rfl ?_
                      (refine AO.store (i := 1) rfl rfl rfl rfl rfl rfl (by rfl) (by rfl) (by rfl) (by (dsimp only [List.set, List.append, List.cons_append, List.nil_append, roB_cells, roI_cells, roO_cells, roW_cells, roU_cells, roH_cells, splice, ofConst, AV.cells, List.map, List.map_cons, List.map_nil, List.take, List.drop, Nat.zero_add, Nat.add_zero, Nat.reduceAdd, Nat.reduceMul, Nat.zero_mul, Value.cells, List.toList_toArray, zerosA, List.replicate, List.flatten, List.append_nil]; done)) (by (dsimp only [List.set, List.append, List.cons_append, List.nil_append, roB_cells, roI_cells, roO_cells, roW_cells, roU_cells, roH_cells, splice, ofConst, AV.cells, List.map, List.map_cons, List.map_nil, List.take, List.drop, Nat.zero_add, Nat.add_zero, Nat.reduceAdd, Nat.reduceMul, Nat.zero_mul, Value.cells, List.toList_toArray, zerosA, List.replicate, List.flatten, List.append_nil]; done)) ?_)
                      refine AO.op (O.assign rfl rfl) rfl rfl rfl ?_
                      refine AO.nil ?_
                      refine AQ.thenN ?_
                      refine AW.seq ?_
                      refine AW.region ?_
                      refine AO.op (O.move rfl rfl) rfl rfl rfl ?_
                      refine AO.op (O.neq rfl rfl rfl (by exact bne_eq_false_iff_eq.2 (by omega))) rfl rfl rfl ?_
                      refine AO.nil ?_
                      refine AQ.thenN ?_
                      generalize answerR r1 1 i ⟨0, 68, 0, [], [], [u8 (i + 1)]⟩ now2 = s at *
                      refine AW.split rfl (fun h103 => ?_) (fun h103 => ?_) <;> (try simp only [decide_eq_true_eq, decide_eq_false_iff_not, beq_iff_eq, beq_eq_false_iff_ne, bne_iff_ne, bne_eq_false_iff_eq, Bool.not_eq_true', Bool.not_eq_false', Bool.not_eq_true, Bool.not_eq_false, ne_eq, Int.not_lt, Int.not_le, Bool.and_eq_true, Bool.or_eq_true, Bool.or_eq_false_iff, Bool.and_eq_false_imp, strOf_toList, Decidable.not_not] at h103)
                      · skip
                        exact absurd h103 (by simp)
                      · skip
                        have hD2 : ∀ j ∈ i :: D, j < (n : Int) := fun j hj => by
                          rcases List.mem_cons.1 hj with rfl | hj
                          · exact hin
                          · exact hD j hj
                        have hM2 := hM.put (i := i) ⟨hi0, by omega⟩
                        refine AW.skip ?_
                        refine AQ.blockN ?_
                        refine AQ.thenN ?_
                        refine AW.region ?_
                        (refine AO.op (O.loadK rfl rfl (by repeat (first | exact List.Mem.head _ | refine List.Mem.tail _ ?_)) (by (dsimp only [List.set, List.append, List.cons_append, List.nil_append, roB_cells, roI_cells, roO_cells, roW_cells, roU_cells, roH_cells, splice, ofConst, AV.cells, List.map, List.map_cons, List.map_nil, List.take, List.drop, Nat.zero_add, Nat.add_zero, Nat.reduceAdd, Nat.reduceMul, Nat.zero_mul, Value.cells, List.toList_toArray, zerosA, List.replicate, List.flatten, List.append_nil]; done)) (by rfl)) rfl rfl rfl ?_)
                        (refine AO.store (i := 5) rfl rfl rfl rfl rfl rfl (by rfl) (by rfl) (by rfl) (by (dsimp only [List.set, List.append, List.cons_append, List.nil_append, roB_cells, roI_cells, roO_cells, roW_cells, roU_cells, roH_cells, splice, ofConst, AV.cells, List.map, List.map_cons, List.map_nil, List.take, List.drop, Nat.zero_add, Nat.add_zero, Nat.reduceAdd, Nat.reduceMul, Nat.zero_mul, Value.cells, List.toList_toArray, zerosA, List.replicate, List.flatten, List.append_nil]; done)) (by (dsimp only [List.set, List.append, List.cons_append, List.nil_append, roB_cells, roI_cells, roO_cells, roW_cells, roU_cells, roH_cells, splice, ofConst, AV.cells, List.map, List.map_cons, List.map_nil, List.take, List.drop, Nat.zero_add, Nat.add_zero, Nat.reduceAdd, Nat.reduceMul, Nat.zero_mul, Value.cells, List.toList_toArray, zerosA, List.replicate, List.flatten, List.append_nil]; done)) ?_)
                        refine AO.nil ?_
                        refine AQ.blockN ?_
                        refine AQ.blockN ?_
                        refine AQ.loopKN _ _ _ (by omega) (⟨_, now2, n, a, s.1, net, i :: D, _, _, ha3', hA, hn2, hva, hBa, hka, hnet2, hD2, hM2, (by rw [List.length_cons]; omega), by omega, by omega, hV, rfl, rfl, rfl⟩) (by repeat (first | exact envNil | refine envCons rfl ?_)) (by repeat (first | exact envNil | refine envCons rfl ?_)) (by repeat (first | exact subPnil | refine subPcons 3 rfl ?_))
                  · skip
                    exact absurd h82 (by simp)
                skip
    · skip
      refine AW.exit ?_
      refine AQ.thenX ?_
      refine AQ.loopX ?_
      refine AQ.blockX rfl ?_
      refine AQ.thenN ?_
      refine AW.seq ?_
      refine AW.region ?_
      refine AO.op (O.call rfl Try.func11 rfl rfl rfl (awake17_fn)) rfl rfl rfl ?_
      refine AO.op (O.assign rfl rfl) rfl rfl rfl ?_
      refine AO.nil ?_
      refine AQ.thenN ?_
      refine AW.ret ?_
      refine AQ.ret1 rfl rfl ⟨_, List.nil_sublist _, .nil⟩ (⟨rfl, rfl⟩)
end Go.Proofs.Ytdnmilmcdbgppaa.By
