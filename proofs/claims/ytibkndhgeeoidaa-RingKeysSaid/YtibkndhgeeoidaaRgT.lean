/- Contracts of functions of the program, each proved by a walk through its code; conditions stand in the statements. -/
import Derived.Test.YtibkndhgeeoidaaRgJ
import Derived.Test.YtibkndhgeeoidaaRgS
namespace Go.Proofs.Ytibkndhgeeoidaa
set_option linter.unusedSimpArgs false
set_option linter.unusedVariables false
set_option linter.unusedSectionVars false
open Go Go.RowKit Go.Tw
set_option linter.unusedVariables false
set_option maxRecDepth 20000
/-! ### the owners by their ways -/
theorem hashU_span (s : Int) (f : FlowV) : 0 ≤ hashU s f ∧ hashU s f ≤ 18446744073709551615 := by
  unfold hashU Go.bits; exact wrap_u64_span _
def wayP (key a : Int) : Int := IntKind.u64.wrap (a - key)
theorem wayP_eq {key a : Int} (h0 : 0 ≤ key) (h1 : key ≤ 18446744073709551615) (a0 : 0 ≤ a) (a1 : a ≤ 18446744073709551615) : wayP key a = if key ≤ a then a - key else a - key + 18446744073709551616 := by
  unfold wayP; rw [IntKind.wrap_u64]; split <;> omega
def lexW (x y : Int × Int) : Prop := x.1 < y.1 ∨ x.1 = y.1 ∧ x.2 ≤ y.2
def wq (key : Int) (p : Int × Int) : Int × Int := (wayP key p.1, p.2)
theorem lexW_anti {x y : Int × Int} (h : lexW x y) (h2 : lexW y x) : x.2 = y.2 := by unfold lexW at *; omega
theorem rot_lex {key : Int} {pts : List (Int × Int)} (h0 : 0 ≤ key) (h1 : key ≤ 18446744073709551615) (hr : ∀ p ∈ pts, 0 ≤ p.1 ∧ p.1 ≤ 18446744073709551615) (hp : pts.Pairwise (fun a b => leP a b = true)) : (rotP (fromP key pts) pts).Pairwise (fun p q => lexW (wq key p) (wq key q)) := by
  rw [rot_split (hp.imp fun h => leP_fst h)]
  have key2 : ∀ p ∈ pts, ∀ q ∈ pts, leP p q = true → (key ≤ p.1 ↔ key ≤ q.1) → lexW (wq key p) (wq key q) := by
    intro p hpm q hqm hl hiff
    have h2 := hr p hpm; have h3 := hr q hqm
    rw [leP_iff] at hl; unfold ltP at hl
    unfold lexW wq
    rw [wayP_eq h0 h1 h2.1 h2.2, wayP_eq h0 h1 h3.1 h3.2]
    simp only
    split <;> split <;> omega
  have gen : ∀ (f : Int × Int → Bool), (∀ p q, f p = true → f q = true → (key ≤ p.1 ↔ key ≤ q.1)) → (pts.filter f).Pairwise (fun p q => lexW (wq key p) (wq key q)) := by
    intro f hf
    have : (pts.filter f).Pairwise (fun a b => leP a b = true) := hp.filter _
    refine List.Pairwise.imp_of_mem (fun {a b} ha hb hab => ?_) this
    rw [List.mem_filter] at ha hb
    exact key2 a ha.1 b hb.1 hab (hf a b ha.2 hb.2)
  refine List.pairwise_append.2 ⟨gen _ (fun p q h2 h3 => by simp at h2 h3; omega), gen _ (fun p q h2 h3 => by simp at h2 h3; omega), fun p hpm q hqm => ?_⟩
  rw [List.mem_filter] at hpm hqm
  have h2 := hr p hpm.1; have h3 := hr q hqm.1
  have h4 : key ≤ p.1 := by simpa using hpm.2
  have h5 : q.1 < key := by simpa using hqm.2
  unfold lexW wq
  rw [wayP_eq h0 h1 h2.1 h2.2, wayP_eq h0 h1 h3.1 h3.2, if_pos h4, if_neg (by omega)]
  simp only
  omega
theorem uq_at : ∀ {L : List Int} {k : Nat} {x : Int}, (uqF L)[k]? = some x → ∃ t : Nat, L[t]? = some x ∧ ∀ s : Nat, s < t → ∀ y, L[s]? = some y → y ∈ (uqF L).take k := by
  intro L
  induction h : L.length generalizing L with
  | zero => rw [List.length_eq_zero_iff] at h; subst h; intro k x hx; simp [uqF] at hx
  | succ n ih =>
    rcases List.eq_nil_or_concat L with rfl | ⟨L', m, rfl⟩
    · simp at h
    · rw [List.concat_eq_append] at h ⊢
      intro k x hx
      have hl : L'.length = n := by simpa using h
      have old : ∀ {k : Nat} {x : Int}, (uqF L')[k]? = some x → ∃ t : Nat, (L' ++ [m])[t]? = some x ∧ ∀ s : Nat, s < t → ∀ y, (L' ++ [m])[s]? = some y → y ∈ (uqF L').take k := by
        intro k x hx
        obtain ⟨t, ht, hs⟩ := ih hl hx
        have htl := (List.getElem?_eq_some_iff.1 ht).1
        refine ⟨t, by rw [List.getElem?_append_left htl]; exact ht, fun s hst y hy => ?_⟩
        rw [List.getElem?_append_left (by omega)] at hy
        exact hs s hst y hy
      rw [uqF_snoc] at hx ⊢
      unfold uqS at hx ⊢
      split at hx
      · rename_i hc; rw [if_pos hc]; exact old hx
      · rename_i hc; rw [if_neg hc]
        by_cases hk : k < (uqF L').length
        · rw [List.getElem?_append_left hk] at hx
          obtain ⟨t, ht, hs⟩ := old hx
          refine ⟨t, ht, fun s hst y hy => ?_⟩
          rw [List.take_append_of_le_length (by omega)]
          exact hs s hst y hy
        · have hkl := (List.getElem?_eq_some_iff.1 hx).1
          simp at hkl
          have hk2 : k = (uqF L').length := by omega
          subst hk2
          rw [List.getElem?_append_right (Nat.le_refl _), Nat.sub_self] at hx
          simp at hx; subst hx
          refine ⟨L'.length, by simp, fun s hst y hy => ?_⟩
          rw [List.getElem?_append_left hst] at hy
          rw [List.take_left]
          exact mem_uqF.2 (List.mem_of_getElem? hy)
def candM (key m : Int) (j : Nat) : List (Int × Int) := (List.range j).map fun q => (wayP key (ptAt m q).1, m)
def candL (key per : Int) (out M : List Int) (i : Nat) : List (Int × Int) := (M.take i).flatMap fun m => if out.contains m then [] else candM key m per.toNat
def bestS (S : List (Int × Int)) (b w : Int) : Prop := (S = [] ∧ b = -1) ∨ (S ≠ [] ∧ 0 ≤ b ∧ (w, b) ∈ S ∧ ∀ q ∈ S, lexW (w, b) q)
theorem candM_0 (key m : Int) : candM key m 0 = [] := rfl
theorem candM_succ (key m : Int) (j : Nat) : candM key m (j + 1) = candM key m j ++ [(wayP key (ptAt m j).1, m)] := by simp [candM, List.range_succ]
theorem candL_has {key per : Int} {out M : List Int} {i : Nat} {m : Int} (h : M[i]? = some m) (hc : out.contains m = true) : candL key per out M (i + 1) = candL key per out M i := by
  obtain ⟨hi, rfl⟩ := List.getElem?_eq_some_iff.1 h
  unfold candL
  rw [List.take_succ_eq_append_getElem hi, List.flatMap_append, List.flatMap_cons, List.flatMap_nil, if_pos hc]; simp
theorem candL_no {key per : Int} {out M : List Int} {i : Nat} {m : Int} (h : M[i]? = some m) (hc : out.contains m = false) : candL key per out M (i + 1) = candL key per out M i ++ candM key m per.toNat := by
  obtain ⟨hi, rfl⟩ := List.getElem?_eq_some_iff.1 h
  unfold candL
  rw [List.take_succ_eq_append_getElem hi, List.flatMap_append, List.flatMap_cons, List.flatMap_nil, if_neg (by rw [hc]; simp), List.append_nil]
theorem best_new {S : List (Int × Int)} {b w w' e : Int} (h : bestS S b w) (he : 0 ≤ e) (hc : b < 0 ∨ w' < w ∨ w' = w ∧ e < b) : bestS (S ++ [(w', e)]) e w' := by
  refine .inr ⟨by simp, he, by simp, fun q hq => ?_⟩
  rcases List.mem_append.1 hq with hq | hq
  · rcases h with ⟨rfl, _⟩ | ⟨_, h2, _, h4⟩
    · cases hq
    · have := h4 q hq
      unfold lexW at this ⊢
      simp only at this ⊢
      omega
  · simp at hq; subst hq; exact .inr ⟨rfl, Int.le_refl _⟩
theorem best_keep {S : List (Int × Int)} {b w w' e : Int} (h : bestS S b w) (h1 : ¬ b < 0) (h2 : ¬ w' < w) (h3 : ¬ (w' = w ∧ e < b)) : bestS (S ++ [(w', e)]) b w := by
  rcases h with ⟨_, h⟩ | ⟨_, h5, h6, h7⟩
  · omega
  · refine .inr ⟨by simp, h5, List.mem_append_left _ h6, fun q hq => ?_⟩
    rcases List.mem_append.1 hq with hq | hq
    · exact h7 q hq
    · simp at hq; subst hq; unfold lexW; simp only; omega
theorem mem_candL {key per : Int} {out M : List Int} {q : Int × Int} : q ∈ candL key per out M M.length ↔ ∃ m, m ∈ M ∧ out.contains m = false ∧ ∃ j, j < per.toNat ∧ q = (wayP key (ptAt m j).1, m) := by
  unfold candL
  rw [List.take_of_length_le (Nat.le_refl _), List.mem_flatMap]
  constructor
  · rintro ⟨m, hm, hq⟩
    split at hq
    · cases hq
    · rename_i hc
      obtain ⟨j, hj, rfl⟩ := List.mem_map.1 hq
      exact ⟨m, hm, by simpa using hc, j, List.mem_range.1 hj, rfl⟩
  · rintro ⟨m, hm, hc, j, hj, rfl⟩
    exact ⟨m, hm, by rw [if_neg (by rw [hc]; simp)]; exact List.mem_map.2 ⟨j, List.mem_range.2 hj, rfl⟩⟩
theorem pick_own {key per : Int} {M : List Int} {k : Nat} {b w : Int} (h0 : goodR per M = 0) (k0 : 0 ≤ key) (k1 : key ≤ 18446744073709551615) (hk : k < (allP key per M).length) (hb : bestS (candL key per ((allP key per M).take k) M M.length) b w) : (allP key per M)[k]? = some b := by
  obtain ⟨hp, hg1, hg2, hg3⟩ := good0 h0
  obtain ⟨x, hx⟩ : ∃ x, (allP key per M)[k]? = some x := ⟨_, List.getElem?_eq_getElem hk⟩
  obtain ⟨t, ht, hs⟩ := uq_at hx
  have hxM : x ∈ M := (all_perm h0).mem_iff.1 (List.mem_of_getElem? hx)
  have hxn : ((allP key per M).take k).contains x = false := by
    rw [← Bool.not_eq_true, List.contains_iff_mem]
    intro hm
    obtain ⟨j, hj⟩ := List.mem_iff_getElem?.1 hm
    rw [List.getElem?_take] at hj
    split at hj
    · rename_i hjk
      obtain ⟨q1, q2⟩ := List.getElem?_eq_some_iff.1 hj
      obtain ⟨q3, q4⟩ := List.getElem?_eq_some_iff.1 hx
      exact List.pairwise_iff_getElem.1 (uqF_nodup (rotM key (ringP per M))) j k q1 q3 hjk (q2.trans q4.symm)
    · cases hj
  have hpr : ∀ p ∈ ringP per M, 0 ≤ p.1 ∧ p.1 ≤ 18446744073709551615 := by
    intro p hp
    obtain ⟨_, j, _, e⟩ := mem_ringP.1 hp
    rw [e]; exact hashU_span _ _
  have hpw := rot_lex k0 k1 hpr (ringP_pw per M)
  have hlen : (rotP (fromP key (ringP per M)) (ringP per M)).length = (ringP per M).length := rotP_len
  unfold rotM at ht
  rw [List.getElem?_map] at ht
  obtain ⟨P, hP, rfl⟩ := Option.map_eq_some_iff.1 ht
  obtain ⟨htl, hPe⟩ := List.getElem?_eq_some_iff.1 hP
  have hmemr : ∀ p, p ∈ rotP (fromP key (ringP per M)) (ringP per M) ↔ p ∈ ringP per M := by
    intro p
    unfold rotP
    rw [List.mem_append]
    constructor
    · rintro (h | h)
      · exact List.mem_of_mem_drop h
      · exact List.mem_of_mem_take h
    · intro h
      rw [← List.take_append_drop (fromP key (ringP per M)) (ringP per M)] at h
      exact (List.mem_append.1 h).symm
  have hPm : P ∈ ringP per M := (hmemr P).1 (List.mem_of_getElem? hP)
  obtain ⟨_, jP, hjP, eP⟩ := mem_ringP.1 hPm
  have hPc : wq key P ∈ candL key per ((allP key per M).take k) M M.length := mem_candL.2 ⟨P.2, hxM, hxn, jP, hjP, by unfold wq; rw [← eP]⟩
  rcases hb with ⟨he, _⟩ | ⟨_, _, hm, hmin⟩
  · rw [he] at hPc; cases hPc
  · obtain ⟨m, hmM, hmn, j, hj, e⟩ := mem_candL.1 hm
    obtain ⟨rfl, rfl⟩ := Prod.mk.inj e
    have hQ : ptAt b j ∈ rotP (fromP key (ringP per M)) (ringP per M) := (hmemr _).2 (mem_ringP.2 ⟨hmM, j, hj, rfl⟩)
    obtain ⟨s, hsl, hse⟩ := List.getElem_of_mem hQ
    have hst : t ≤ s := by
      refine Nat.le_of_not_lt fun hlt => ?_
      have hb2 : (rotM key (ringP per M))[s]? = some b := by
        unfold rotM; rw [List.getElem?_map, List.getElem?_eq_getElem hsl, hse]; rfl
      have := hs s hlt b hb2
      rw [← List.contains_iff_mem] at this
      exact absurd (hmn.symm.trans this) (by simp)
    have hle : lexW (wq key P) (wayP key (ptAt b j).1, b) := by
      by_cases e2 : t = s
      · subst e2; rw [hPe] at hse; rw [hse]; exact .inr ⟨rfl, Int.le_refl _⟩
      · have := List.pairwise_iff_getElem.1 hpw t s htl hsl (by omega)
        rw [hPe, hse] at this; exact this
    have := lexW_anti hle (hmin _ hPc)
    exact hx.trans (congrArg some this)
theorem take_pick {key per : Int} {M : List Int} {k : Nat} {b w : Int} (h0 : goodR per M = 0) (k0 : 0 ≤ key) (k1 : key ≤ 18446744073709551615) (hk : k < M.length) (hb : bestS (candL key per ((allP key per M).take k) M M.length) b w) : (allP key per M).take (k + 1) = (allP key per M).take k ++ [b] := by
  rw [List.take_add_one, pick_own h0 k0 k1 (by rw [all_len h0]; exact hk) hb]; rfl
theorem take_min64 {key per : Int} {M : List Int} (h0 : goodR per M = 0) (n : Int) : (allP key per M).take n.toNat = (allP key per M).take (min n 64).toNat := by
  have := all_len (key := key) h0; have := good_len h0
  rw [List.take_eq_take_iff]; omega
theorem wfF_pt {m : Int} (h0 : 0 ≤ m) (h1 : m ≤ 65535) : wfF ⟨0, m, 0, 0, 0⟩ := by constructor <;> constructor <;> dsimp only <;> omega
theorem At_ct (m : Int) (j : Nat) (w : World) (h0 : 0 ≤ m) (h1 : m ≤ 65535) (hj : j ≤ 64) : Calls Try.prog 61 #[.int .i64 m, .int .i64 (j : Int)] w fun e w' => e = .returned (.int .u64 (ptAt m j).1) ∧ Fr w w' [] := by
 refine enterD (n := 11) Try.func61 rfl rfl (Nat.le_of_ble_eq_true rfl) ?_
 intro Q0 hN hret hret'
 have hC := Cx.start w
 refine WCs (fun K1 hK2 => ?_)
 refine WCg (WLq 1 [(4, .int .u64 0)] (WLd rfl (QXn (hK2 _ _ ?_))))
 refine WCs (fun K3 hK4 => ?_)
 refine WCg (WLq 2 [(6, .int .u64 (IntKind.u64.wrap ((j : Int)))), (5, .int .i64 (j : Int))] ?_)
 refine WLt (show (.int .u64 (IntKind.u64.wrap ((j : Int))) : Value) = .int .u64 (j : Int) from by rw [wrap_in_u64 _ (by omega) (by omega)]) ?_
 refine WLq 2 [(8, .int .u32 (IntKind.u32.wrap (m))), (7, .int .i64 m)] ?_
 refine WLt (show (.int .u32 (IntKind.u32.wrap (m)) : Value) = .int .u32 m from by rw [wrap_in_u32 _ (by omega) (by omega)]) ?_
 refine WLq 1 [(9, .agg #[.int .i64 0, .int .u32 m, .int .i64 0, .int .u32 0, .int .i64 0])] ?_
 refine WLc rfl rfl rfl rfl rfl (by kernel_rfl) (RHash_ct (j : Int) (⟨0, m, 0, 0, 0⟩ : FlowV) w (wfF_pt h0 h1)) ?_
 rintro _ w6 ⟨rfl, hF5⟩
 refine ⟨_, rfl, ?_⟩
 have hC7 := hC.call hF5
 refine WLq 1 [(4, .int .u64 ((ptAt m j).1))] (WLd rfl (QXn (hK4 _ _ ?_)))
 refine WC.ret ?_
 refine (hret _ _ _ rfl ?_).1
 exact ⟨rfl, hC7.fr⟩

set_option maxHeartbeats 2000000 in
theorem ROwners_ct (per : Int) (A : Option Addr) (c : Nat) (M : List Int) (key n : Int) (w : World) (h0 : goodR per M = 0) (k0 : 0 ≤ key) (k1 : key ≤ 18446744073709551615) (hr : Rd w 1 (Go.Tw.encI .i64) A M) : Calls Try.prog 41 #[.int .i64 per, .slice A M.length c, .int .u64 key, .int .i64 n] w fun e w' => ∃ v, e = .returned v ∧ Fr w w' [] ∧ w'.ownsRow w.heap.size 3 1 v ((allP key per M).take n.toNat).length (((allP key per M).take n.toNat).flatMap (Go.Tw.encI .i64)) := by
 refine enterD (n := 81) Try.func41 rfl rfl (Nat.le_of_ble_eq_true rfl) ?_
 intro Q0 hN hret hret'
 obtain ⟨⟨hp0_, hp1_⟩, hg1_, hg2_, hg3_⟩ := good0 h0
 have hal_ := all_len (key := key) h0
 have hC := Cx.start w
 refine WCs (fun K1 hK2 => ?_)
 refine WCg (WLq 1 [(8, .slice none 0 0)] (WLd rfl (QXn (hK2 _ _ ?_))))
 refine WCs (fun K3 hK4 => ?_)
 refine WCg (WLq 1 [(9, .slice none 0 0)] (WLd rfl (QXn (hK4 _ _ ?_))))
 refine WCs (fun K5 hK6 => ?_)
 refine WC.block ?_
 have hC7 := hC.addNil
 refine WC.loop (fun m_ E_ w_ => ∃ (n5 : Nat) (A5 : Option Addr) (c5 : Nat), m_ = M.length - n5 ∧ E_ = [(0, .int .i64 per), (1, .slice A M.length c), (2, .int .u64 key), (3, .int .i64 n), (8, .slice none 0 0), (9, .slice A5 n5 c5)] ∧ Cx w [] w_ [] [blk (.slice A5 n5 c5)] ∧ World.ownsRow w_ 0 3 1 (.slice A5 n5 c5) n5 (((allP key per M).take n5).flatMap (Go.Tw.encI .i64)) ∧ (n5 ≤ M.length ∧ (n5 = 0 ∨ (n5 : Int) ≤ n))) ⟨_, _, ⟨0, none, 0, rfl, rfl, hC7, own_nil _ _ _ _, Nat.zero_le _, .inl rfl⟩, sub_of ⟨rfl, rfl, rfl, rfl, rfl, rfl, trivial⟩⟩ (fun m11 E_ bD K8 hK9 a0 => ?_)
 obtain ⟨n5, A5, c5, rfl, rfl, ae, hout, hn5, hnn⟩ := a0
 refine WCs (fun bE ar => ?_)
 refine WCs (fun bF ak => ?_)
 refine WCg (WLq 5 [(19, .bool (decide ((n5 : Int) < n))), (18, .bool (decide ((n5 : Int) < n))), (17, .int .i64 n), (16, .int .i64 (n5 : Int)), (15, .slice A5 n5 c5)] ?_)
 refine WLa 19 (decide ((n5 : Int) < n)) rfl (fun au => ?_) (fun au => ?_)
 ·
  have bo : (n5 : Int) < n := by have q_ := of_decide_eq_true au; omega
  refine WLq 6 [(25, .bool (decide ((n5 : Int) < (M.length : Int)))), (24, .bool (decide ((n5 : Int) < (M.length : Int)))), (23, .int .i64 (M.length : Int)), (22, .slice A M.length c), (21, .int .i64 (n5 : Int)), (20, .slice A5 n5 c5)] (WLd rfl (QXn (ak _ _ ?_)))
  refine WCa 25 (decide ((n5 : Int) < (M.length : Int))) rfl (fun av => ?_) (fun av => ?_)
  ·
   have bp : (n5 : Int) < (M.length : Int) := by have q_ := of_decide_eq_true av; omega
   refine WCt rfl ?_
   refine WC.skip ?_
   refine QXn (ar _ _ ?_)
   refine WC.block ?_
   refine WCs (fun bG a1 => ?_)
   refine WCg (WLq 1 [(10, .int .i64 (-1))] (WLd rfl (QXn (a1 _ _ ?_))))
   refine WCs (fun bH a2 => ?_)
   refine WCg (WLq 1 [(11, .int .u64 0)] (WLd rfl (QXn (a2 _ _ ?_))))
   refine WCs (fun bI a3 => ?_)
   refine WCs (fun bJ a4 => ?_)
   refine WCg (WLq 1 [(12, .int .i64 0)] (WLd rfl (QXn (a4 _ _ ?_))))
   refine WC.block ?_
   refine WC.loop (fun m_ E_ w_ => ∃ (i : Nat) (b wy : Int), m_ = M.length - i ∧ E_ = [(0, .int .i64 per), (1, .slice A M.length c), (2, .int .u64 key), (3, .int .i64 n), (8, .slice none 0 0), (9, .slice A5 n5 c5), (10, .int .i64 b), (11, .int .u64 wy), (12, .int .i64 (i : Int))] ∧ Cx w [] w_ [] [blk (.slice A5 n5 c5)] ∧ World.ownsRow w_ 0 3 1 (.slice A5 n5 c5) n5 (((allP key per M).take n5).flatMap (Go.Tw.encI .i64)) ∧ (i ≤ M.length ∧ bestS (candL key per ((allP key per M).take n5) M i) b wy)) ⟨_, _, ⟨0, -1, 0, rfl, rfl, ae, hout, Nat.zero_le _, .inl ⟨rfl, rfl⟩⟩, sub_of ⟨rfl, rfl, rfl, rfl, rfl, rfl, rfl, rfl, rfl, trivial⟩⟩ (fun m31 E_ bq bK aF a5 => ?_)
   obtain ⟨i, b, wy, rfl, rfl, aw, out_m31, hi, hbs⟩ := a5
   refine WCs (fun bL a6 => ?_)
   refine WCs (fun bM a7 => ?_)
   refine WCg (WLq 4 [(29, .bool (decide ((i : Int) < (M.length : Int)))), (28, .int .i64 (M.length : Int)), (27, .slice A M.length c), (26, .int .i64 (i : Int))] (WLd rfl (QXn (a7 _ _ ?_))))
   refine WCa 29 (decide ((i : Int) < (M.length : Int))) rfl (fun ax => ?_) (fun ax => ?_)
   ·
    have br : (i : Int) < (M.length : Int) := by have q_ := of_decide_eq_true ax; omega
    refine WCt rfl ?_
    refine WC.skip ?_
    refine QXn (a6 _ _ ?_)
    refine WCs (fun bN aG => ?_)
    refine WC.block ?_
    refine WCs (fun bO a8 => ?_)
    refine WCs (fun bP a9 => ?_)
    refine WCg (WLq 3 [(34, .int .i64 (i : Int)), (33, .slice A M.length c), (32, .slice A5 n5 c5)] ?_)
    obtain ⟨aa, al⟩ := get_some (xs := M) (i := i) (by omega)
    obtain ⟨b47, o49, ac, ad⟩ := hr.at_ _ _ al
    obtain ⟨hm0_e45, hm1_e45⟩ := hg2_ _ (List.mem_of_getElem? al)
    refine WLi A M.length c 35 .i64 (i : Int) b47 o49 i 1 (by kernel_rfl) ac (by omega) (by omega) (o49 + i) (by first | (simp; done) | omega) ?_
    refine WLo 3 (.pointer (some ⟨b47, o49 + i, none⟩)) (.int .i64 aa) 36 (run_load1 rfl (by simpa [Nat.add_assoc] using aw.fr.cell (ad 0 _ rfl) (by simp))) ?_
    refine WLc rfl rfl rfl rfl rfl (by kernel_rfl) (has_n A5 n5 c5 ((allP key per M).take n5) aa bq (own_rd out_m31 (Go.Tw.encI_len _) (by decide)) (own_count (Go.Tw.encI_len _) (by decide) out_m31) (by first | omega | (simp; done) | (simp; omega))) ?_
    rintro _ bQ ⟨rfl, aH⟩
    refine ⟨_, rfl, ?_⟩
    have aI := aw.call aH
    have aJ := own_fr out_m31 aH (by simp)
    refine WLd rfl (QXn (a9 _ _ ?_))
    refine WCa 37 (((allP key per M).take n5).contains aa) rfl (fun ay => ?_) (fun ay => ?_)
    ·
     refine WCt rfl ?_
     refine WC.exit ?_
     refine QXe ?_
     refine QX.block_hit ?_
     refine QXn (aG _ _ ?_)
     refine WCg (WLq 2 [(31, .int .i64 (IntKind.i64.wrap ((i : Int) + 1))), (30, .int .i64 (i : Int))] ?_)
     refine WLt (show (.int .i64 (IntKind.i64.wrap ((i : Int) + 1)) : Value) = .int .i64 ((i : Int) + 1) from by rw [wrap_in_i64 ((i : Int) + 1) (by omega) (by omega)]) ?_
     refine WLq 1 [(12, .int .i64 ((i : Int) + 1))] ?_
     refine WLd rfl ?_
     refine QXn ?_
     have ba := aI.pick [] [0] rfl rfl
     refine fun a_ ha_ => aF _ _ _ ?_ ⟨i + 1, b, wy, rfl, rfl, ba, aJ, by omega, by rw [candL_has al ay]; exact hbs⟩ a_ (ha_.weaken (sub_of ⟨rfl, rfl, rfl, rfl, rfl, rfl, rfl, rfl, rfl, trivial⟩))
     omega
    ·
     refine WCf rfl (WC.skip (QXn (a8 _ _ ?_)))
     refine WCs (fun bR bb => ?_)
     refine WCg (WLq 1 [(13, .int .i64 0)] (WLd rfl (QXn (bb _ _ ?_))))
     refine WC.block ?_
     refine WC.loop (fun m_ E_ w_ => ∃ (j : Nat) (b2 wy2 : Int), m_ = per.toNat - j ∧ E_ = [(0, .int .i64 per), (1, .slice A M.length c), (2, .int .u64 key), (3, .int .i64 n), (8, .slice none 0 0), (9, .slice A5 n5 c5), (10, .int .i64 b2), (11, .int .u64 wy2), (12, .int .i64 (i : Int)), (13, .int .i64 (j : Int))] ∧ Cx w [] w_ [] [blk (.slice A5 n5 c5)] ∧ World.ownsRow w_ 0 3 1 (.slice A5 n5 c5) n5 (((allP key per M).take n5).flatMap (Go.Tw.encI .i64)) ∧ (j ≤ per.toNat ∧ bestS ((candL key per ((allP key per M).take n5) M i) ++ candM key aa j) b2 wy2)) ⟨_, _, ⟨0, b, wy, rfl, rfl, aI, aJ, Nat.zero_le _, by rw [candM_0, List.append_nil]; exact hbs⟩, sub_of ⟨rfl, rfl, rfl, rfl, rfl, rfl, rfl, rfl, rfl, rfl, trivial⟩⟩ (fun m66 E_ bs bS af bc => ?_)
     obtain ⟨j, b2, wy2, rfl, rfl, az, out_m66, hj, hb3⟩ := bc
     refine WCs (fun bT bd => ?_)
     refine WCs (fun bU be => ?_)
     refine WCg (WLq 3 [(40, .bool (decide ((j : Int) < per))), (39, .int .i64 per), (38, .int .i64 (j : Int))] (WLd rfl (QXn (be _ _ ?_))))
     refine WCa 40 (decide ((j : Int) < per)) rfl (fun aA => ?_) (fun aA => ?_)
     ·
      have bt : (j : Int) < per := by have q_ := of_decide_eq_true aA; omega
      refine WCt rfl ?_
      refine WC.skip ?_
      refine QXn (bd _ _ ?_)
      refine WCs (fun bV ag => ?_)
      refine WC.block ?_
      refine WCs (fun bW bf => ?_)
      refine WCg (WLq 2 [(44, .int .i64 (i : Int)), (43, .slice A M.length c)] ?_)
      refine WLi A M.length c 45 .i64 (i : Int) b47 o49 i 1 (by kernel_rfl) ac (by omega) (by omega) (o49 + i) (by first | (simp; done) | omega) ?_
      refine WLo 3 (.pointer (some ⟨b47, o49 + i, none⟩)) (.int .i64 aa) 46 (run_load1 rfl (by simpa [Nat.add_assoc] using az.fr.cell (ad 0 _ rfl) (by simp))) ?_
      refine WLq 1 [(47, .int .i64 (j : Int))] ?_
      refine WLc rfl rfl rfl rfl rfl (by kernel_rfl) (At_ct aa j bs (by omega) (by omega) (by omega)) ?_
      rintro _ bX ⟨rfl, aK⟩
      refine ⟨_, rfl, ?_⟩
      have ab := az.call aK
      have ah := own_fr out_m66 aK (by simp)
      refine WLq 2 [(50, .int .u64 (IntKind.u64.wrap (((ptAt aa j).1) - key))), (49, .int .u64 key)] ?_
      refine WLt (show (.int .u64 (IntKind.u64.wrap (((ptAt aa j).1) - key)) : Value) = .int .u64 (wayP key (ptAt aa j).1) from rfl) ?_
      refine WLq 1 [(14, .int .u64 (wayP key (ptAt aa j).1))] (WLd rfl (QXn (bf _ _ ?_)))
      refine WCs (fun bY am => ?_)
      refine WCg (WLq 3 [(53, .bool (decide (b2 < 0))), (52, .bool (decide (b2 < 0))), (51, .int .i64 b2)] ?_)
      refine WLa 53 (decide (b2 < 0)) rfl (fun aB => ?_) (fun aB => ?_)
      ·
       have bu : b2 < 0 := by have q_ := of_decide_eq_true aB; omega
       refine WLq 17 [(70, .bool true), (69, undef), (68, undef), (67, undef), (66, undef), (65, undef), (64, undef), (63, undef), (62, undef), (61, undef), (60, undef), (59, undef), (58, .bool true), (57, .bool true), (56, undef), (55, undef), (54, undef)] (WLd rfl (QXn (am _ _ ?_)))
       refine WCt rfl ?_
       refine WCs (fun bZ bg => ?_)
       refine WCg (WLq 2 [(72, .int .i64 (i : Int)), (71, .slice A M.length c)] ?_)
       refine WLi A M.length c 73 .i64 (i : Int) b47 o49 i 1 (by kernel_rfl) ac (by omega) (by omega) (o49 + i) (by first | (simp; done) | omega) ?_
       refine WLo 3 (.pointer (some ⟨b47, o49 + i, none⟩)) (.int .i64 aa) 74 (run_load1 rfl (by simpa [Nat.add_assoc] using ab.fr.cell (ad 0 _ rfl) (by simp))) ?_
       refine WLq 1 [(10, .int .i64 aa)] (WLd rfl (QXn (bg _ _ ?_)))
       refine WCg (WLq 2 [(11, .int .u64 (wayP key (ptAt aa j).1)), (75, .int .u64 (wayP key (ptAt aa j).1))] ?_)
       refine WLd rfl ?_
       refine QXb ?_
       refine QXn (ag _ _ ?_)
       refine WCg (WLq 2 [(42, .int .i64 (IntKind.i64.wrap ((j : Int) + 1))), (41, .int .i64 (j : Int))] ?_)
       refine WLt (show (.int .i64 (IntKind.i64.wrap ((j : Int) + 1)) : Value) = .int .i64 ((j : Int) + 1) from by rw [wrap_in_i64 ((j : Int) + 1) (by omega) (by omega)]) ?_
       refine WLq 1 [(13, .int .i64 ((j : Int) + 1))] ?_
       refine WLd rfl ?_
       refine QXn ?_
       have bh := ab.pick [] [0] rfl rfl
       refine fun a_ ha_ => af _ _ _ ?_ ⟨j + 1, aa, (wayP key (ptAt aa j).1), rfl, rfl, bh, ah, by omega, by rw [candM_succ, ← List.append_assoc]; exact best_new hb3 (by omega) (by omega)⟩ a_ (ha_.weaken (sub_of ⟨rfl, rfl, rfl, rfl, rfl, rfl, rfl, rfl, rfl, rfl, trivial⟩))
       omega
      ·
       have bu : (0 : Int) ≤ b2 := by have q_ := of_decide_eq_false aB; omega
       refine WLq 5 [(58, .bool (decide ((wayP key (ptAt aa j).1) < wy2))), (57, .bool (decide ((wayP key (ptAt aa j).1) < wy2))), (56, .bool (decide ((wayP key (ptAt aa j).1) < wy2))), (55, .int .u64 wy2), (54, .int .u64 (wayP key (ptAt aa j).1))] ?_
       refine WLa 58 (decide ((wayP key (ptAt aa j).1) < wy2)) rfl (fun aC => ?_) (fun aC => ?_)
       ·
        have bv : (wayP key (ptAt aa j).1) < wy2 := by have q_ := of_decide_eq_true aC; omega
        refine WLq 12 [(70, .bool true), (69, undef), (68, undef), (67, undef), (66, undef), (65, undef), (64, undef), (63, undef), (62, undef), (61, undef), (60, undef), (59, undef)] (WLd rfl (QXn (am _ _ ?_)))
        refine WCt rfl ?_
        refine WCs (fun b0 bi => ?_)
        refine WCg (WLq 2 [(72, .int .i64 (i : Int)), (71, .slice A M.length c)] ?_)
        refine WLi A M.length c 73 .i64 (i : Int) b47 o49 i 1 (by kernel_rfl) ac (by omega) (by omega) (o49 + i) (by first | (simp; done) | omega) ?_
        refine WLo 3 (.pointer (some ⟨b47, o49 + i, none⟩)) (.int .i64 aa) 74 (run_load1 rfl (by simpa [Nat.add_assoc] using ab.fr.cell (ad 0 _ rfl) (by simp))) ?_
        refine WLq 1 [(10, .int .i64 aa)] (WLd rfl (QXn (bi _ _ ?_)))
        refine WCg (WLq 2 [(11, .int .u64 (wayP key (ptAt aa j).1)), (75, .int .u64 (wayP key (ptAt aa j).1))] ?_)
        refine WLd rfl ?_
        refine QXb ?_
        refine QXn (ag _ _ ?_)
        refine WCg (WLq 2 [(42, .int .i64 (IntKind.i64.wrap ((j : Int) + 1))), (41, .int .i64 (j : Int))] ?_)
        refine WLt (show (.int .i64 (IntKind.i64.wrap ((j : Int) + 1)) : Value) = .int .i64 ((j : Int) + 1) from by rw [wrap_in_i64 ((j : Int) + 1) (by omega) (by omega)]) ?_
        refine WLq 1 [(13, .int .i64 ((j : Int) + 1))] ?_
        refine WLd rfl ?_
        refine QXn ?_
        have aL := ab.pick [] [0] rfl rfl
        refine fun a_ ha_ => af _ _ _ ?_ ⟨j + 1, aa, (wayP key (ptAt aa j).1), rfl, rfl, aL, ah, by omega, by rw [candM_succ, ← List.append_assoc]; exact best_new hb3 (by omega) (by omega)⟩ a_ (ha_.weaken (sub_of ⟨rfl, rfl, rfl, rfl, rfl, rfl, rfl, rfl, rfl, rfl, trivial⟩))
        omega
       ·
        have bv : wy2 ≤ (wayP key (ptAt aa j).1) := by have q_ := of_decide_eq_false aC; omega
        refine WLq 4 [(62, .bool ((wayP key (ptAt aa j).1) == wy2)), (61, .bool ((wayP key (ptAt aa j).1) == wy2)), (60, .int .u64 wy2), (59, .int .u64 (wayP key (ptAt aa j).1))] ?_
        refine WLa 62 ((wayP key (ptAt aa j).1) == wy2) rfl (fun ai => ?_) (fun ai => ?_)
        ·
         have bj : (wayP key (ptAt aa j).1) = wy2 := by simpa using ai
         refine WLq 2 [(64, .int .i64 (i : Int)), (63, .slice A M.length c)] ?_
         refine WLi A M.length c 65 .i64 (i : Int) b47 o49 i 1 (by kernel_rfl) ac (by omega) (by omega) (o49 + i) (by first | (simp; done) | omega) ?_
         refine WLo 3 (.pointer (some ⟨b47, o49 + i, none⟩)) (.int .i64 aa) 66 (run_load1 rfl (by simpa [Nat.add_assoc] using ab.fr.cell (ad 0 _ rfl) (by simp))) ?_
         refine WLq 4 [(70, .bool (decide (aa < b2))), (69, .bool (decide (aa < b2))), (68, .bool (decide (aa < b2))), (67, .int .i64 b2)] (WLd rfl (QXn (am _ _ ?_)))
         refine WCa 70 (decide (aa < b2)) rfl (fun aj => ?_) (fun aj => ?_)
         ·
          have bk : aa < b2 := by have q_ := of_decide_eq_true aj; omega
          refine WCt rfl ?_
          refine WCs (fun bw aM => ?_)
          refine WCg (WLq 2 [(72, .int .i64 (i : Int)), (71, .slice A M.length c)] ?_)
          refine WLi A M.length c 73 .i64 (i : Int) b47 o49 i 1 (by kernel_rfl) ac (by omega) (by omega) (o49 + i) (by first | (simp; done) | omega) ?_
          refine WLo 3 (.pointer (some ⟨b47, o49 + i, none⟩)) (.int .i64 aa) 74 (run_load1 rfl (by simpa [Nat.add_assoc] using ab.fr.cell (ad 0 _ rfl) (by simp))) ?_
          refine WLq 1 [(10, .int .i64 aa)] (WLd rfl (QXn (aM _ _ ?_)))
          refine WCg (WLq 2 [(11, .int .u64 (wayP key (ptAt aa j).1)), (75, .int .u64 (wayP key (ptAt aa j).1))] ?_)
          refine WLd rfl ?_
          refine QXb ?_
          refine QXn (ag _ _ ?_)
          refine WCg (WLq 2 [(42, .int .i64 (IntKind.i64.wrap ((j : Int) + 1))), (41, .int .i64 (j : Int))] ?_)
          refine WLt (show (.int .i64 (IntKind.i64.wrap ((j : Int) + 1)) : Value) = .int .i64 ((j : Int) + 1) from by rw [wrap_in_i64 ((j : Int) + 1) (by omega) (by omega)]) ?_
          refine WLq 1 [(13, .int .i64 ((j : Int) + 1))] ?_
          refine WLd rfl ?_
          refine QXn ?_
          have aN := ab.pick [] [0] rfl rfl
          refine fun a_ ha_ => af _ _ _ ?_ ⟨j + 1, aa, (wayP key (ptAt aa j).1), rfl, rfl, aN, ah, by omega, by rw [candM_succ, ← List.append_assoc]; exact best_new hb3 (by omega) (by omega)⟩ a_ (ha_.weaken (sub_of ⟨rfl, rfl, rfl, rfl, rfl, rfl, rfl, rfl, rfl, rfl, trivial⟩))
          omega
         ·
          have bk : b2 ≤ aa := by have q_ := of_decide_eq_false aj; omega
          refine WCf rfl (WC.skip ?_)
          refine QXb ?_
          refine QXn (ag _ _ ?_)
          refine WCg (WLq 2 [(42, .int .i64 (IntKind.i64.wrap ((j : Int) + 1))), (41, .int .i64 (j : Int))] ?_)
          refine WLt (show (.int .i64 (IntKind.i64.wrap ((j : Int) + 1)) : Value) = .int .i64 ((j : Int) + 1) from by rw [wrap_in_i64 ((j : Int) + 1) (by omega) (by omega)]) ?_
          refine WLq 1 [(13, .int .i64 ((j : Int) + 1))] ?_
          refine WLd rfl ?_
          refine QXn ?_
          have aO := ab.pick [] [0] rfl rfl
          refine fun a_ ha_ => af _ _ _ ?_ ⟨j + 1, b2, wy2, rfl, rfl, aO, ah, by omega, by rw [candM_succ, ← List.append_assoc]; exact best_keep hb3 (by omega) (by omega) (by omega)⟩ a_ (ha_.weaken (sub_of ⟨rfl, rfl, rfl, rfl, rfl, rfl, rfl, rfl, rfl, rfl, trivial⟩))
          omega
        ·
         have bj : ¬ ((wayP key (ptAt aa j).1) = wy2) := by simpa using ai
         refine WLq 8 [(70, .bool false), (69, .bool false), (68, undef), (67, undef), (66, undef), (65, undef), (64, undef), (63, undef)] (WLd rfl (QXn (am _ _ ?_)))
         refine WCf rfl (WC.skip ?_)
         refine QXb ?_
         refine QXn (ag _ _ ?_)
         refine WCg (WLq 2 [(42, .int .i64 (IntKind.i64.wrap ((j : Int) + 1))), (41, .int .i64 (j : Int))] ?_)
         refine WLt (show (.int .i64 (IntKind.i64.wrap ((j : Int) + 1)) : Value) = .int .i64 ((j : Int) + 1) from by rw [wrap_in_i64 ((j : Int) + 1) (by omega) (by omega)]) ?_
         refine WLq 1 [(13, .int .i64 ((j : Int) + 1))] ?_
         refine WLd rfl ?_
         refine QXn ?_
         have aP := ab.pick [] [0] rfl rfl
         refine fun a_ ha_ => af _ _ _ ?_ ⟨j + 1, b2, wy2, rfl, rfl, aP, ah, by omega, by rw [candM_succ, ← List.append_assoc]; exact best_keep hb3 (by omega) (by omega) (by omega)⟩ a_ (ha_.weaken (sub_of ⟨rfl, rfl, rfl, rfl, rfl, rfl, rfl, rfl, rfl, rfl, trivial⟩))
         omega
     ·
      have bt : per ≤ (j : Int) := by have q_ := of_decide_eq_false aA; omega
      refine WCf rfl ?_
      refine WC.exit ?_
      refine QXe ?_
      refine QXe ?_
      refine QX.block_hit ?_
      refine QXb ?_
      refine QXn (aG _ _ ?_)
      refine WCg (WLq 2 [(31, .int .i64 (IntKind.i64.wrap ((i : Int) + 1))), (30, .int .i64 (i : Int))] ?_)
      refine WLt (show (.int .i64 (IntKind.i64.wrap ((i : Int) + 1)) : Value) = .int .i64 ((i : Int) + 1) from by rw [wrap_in_i64 ((i : Int) + 1) (by omega) (by omega)]) ?_
      refine WLq 1 [(12, .int .i64 ((i : Int) + 1))] ?_
      refine WLd rfl ?_
      refine QXn ?_
      have aQ := az.pick [] [0] rfl rfl
      refine fun a_ ha_ => aF _ _ _ ?_ ⟨i + 1, b2, wy2, rfl, rfl, aQ, out_m66, by omega, by rw [candL_no al ay, show per.toNat = j from by omega]; exact hb3⟩ a_ (ha_.weaken (sub_of ⟨rfl, rfl, rfl, rfl, rfl, rfl, rfl, rfl, rfl, trivial⟩))
      omega
   ·
    have br : (M.length : Int) ≤ (i : Int) := by have q_ := of_decide_eq_false ax; omega
    refine WCf rfl ?_
    refine WC.exit ?_
    refine QXe ?_
    refine QXe ?_
    refine QX.block_hit ?_
    refine QXn (a3 _ _ ?_)
    refine WCg (WLq 2 [(77, .int .i64 b), (76, .slice A5 n5 c5)] ?_)
    refine WL.newM aw (fun b => .slice (some ⟨b, 0, none⟩) 1 1) (.cells #[.int .i64 b] 3) 78 (fun _ => by kernel_rfl) (fun aR bx bm aS an => ?_)
    have aT := own_fr out_m31 aS (by simp)
    obtain ⟨bz, bA, aU, aV, bn, aW, aY, aZ⟩ := app_run Try.prog an 0 (v := .slice A5 n5 c5) rfl 31 31 3 1 8 n5 1 1 (some ⟨aR, 0, none⟩) rfl aT [.int .i64 b] rfl (srcOk.blk 1 (an.get 0 rfl)) rfl (by simp only [maxLen]; omega) (by omega)
    have ao := own_snoc (enc := (Go.Tw.encI .i64)) (ys := ((allP key per M).take n5)) b aV
    obtain ⟨aD, aE, rfl, bl⟩ := own_form ao
    refine WL.sem (Builtin.append_ #[31, 31] 31 #[.slice A5 n5 c5, .slice (some ⟨aR, 0, none⟩) 1 1]) 79 (.slice aD (n5 + 1) aE) (by kernel_rfl) aU ?_
    refine WLq 1 [(9, .slice aD (n5 + 1) aE)] ?_
    refine WLd rfl ?_
    refine QXb ?_
    refine QXn ?_
    have aX := aW.pick [] [0] rfl rfl
    refine fun a_ ha_ => hK9 _ _ _ ?_ ⟨n5 + 1, aD, aE, rfl, rfl, aX, (by rw [take_pick h0 k0 k1 (by omega) (by have q_ := hbs; rw [show i = M.length from by omega] at q_; exact q_)]; exact ao), by omega, .inr (by omega)⟩ a_ (ha_.weaken (sub_of ⟨rfl, rfl, rfl, rfl, rfl, rfl, trivial⟩))
    omega
  ·
   have bp : (M.length : Int) ≤ (n5 : Int) := by have q_ := of_decide_eq_false av; omega
   refine WCf rfl ?_
   refine WC.exit ?_
   refine QXe ?_
   refine QXe ?_
   refine QX.block_hit ?_
   refine QXn (hK6 _ _ ?_)
   refine WCs (fun bB ap => ?_)
   refine WCg (WLq 2 [(8, .slice A5 n5 c5), (80, .slice A5 n5 c5)] (WLd rfl (QXn (ap _ _ ?_))))
   refine WC.ret ?_
   refine (hret _ _ _ rfl ?_).1
   clear hN hret hret' ap ak ar hK6 hK4 hK2
   have hcn_ := own_count (Go.Tw.encI_len _) (by decide) hout
   have hx_ : ((allP key per M).take n5) = (allP key per M).take n.toNat := by rw [List.take_eq_take_iff]; omega
   have ho_ := hout
   rw [hx_] at ho_ hcn_
   rw [hcn_]
   exact ⟨_, rfl, ae.fr, own_base ho_ (ae.geF 0 rfl)⟩
 ·
  have bo : n ≤ (n5 : Int) := by have q_ := of_decide_eq_false au; omega
  refine WLq 6 [(25, .bool false), (24, undef), (23, undef), (22, undef), (21, undef), (20, undef)] (WLd rfl (QXn (ak _ _ ?_)))
  refine WCf rfl ?_
  refine WC.exit ?_
  refine QXe ?_
  refine QXe ?_
  refine QX.block_hit ?_
  refine QXn (hK6 _ _ ?_)
  refine WCs (fun bC aq => ?_)
  refine WCg (WLq 2 [(8, .slice A5 n5 c5), (80, .slice A5 n5 c5)] (WLd rfl (QXn (aq _ _ ?_))))
  refine WC.ret ?_
  refine (hret _ _ _ rfl ?_).1
  clear hN hret hret' aq ak ar hK6 hK4 hK2
  have hcn_ := own_count (Go.Tw.encI_len _) (by decide) hout
  have hx_ : ((allP key per M).take n5) = (allP key per M).take n.toNat := by rw [List.take_eq_take_iff]; omega
  have ho_ := hout
  rw [hx_] at ho_ hcn_
  rw [hcn_]
  exact ⟨_, rfl, ae.fr, own_base ho_ (ae.geF 0 rfl)⟩

theorem ROwners_n (per : Int) (A : Option Addr) (n2 c : Nat) (M : List Int) (key n : Int) (w : World) (h0 : goodR per M = 0) (k0 : 0 ≤ key) (k1 : key ≤ 18446744073709551615) (hr : Rd w 1 (Go.Tw.encI .i64) A M) (hn : M.length = n2) : Calls Try.prog 41 #[.int .i64 per, .slice A n2 c, .int .u64 key, .int .i64 n] w fun e w' => ∃ v, e = .returned v ∧ Fr w w' [] ∧ w'.ownsRow w.heap.size 3 1 v ((allP key per M).take n.toNat).length (((allP key per M).take n.toNat).flatMap (Go.Tw.encI .i64)) := by subst hn; exact ROwners_ct per A c M key n w h0 k0 k1 hr
set_option maxHeartbeats 1000000 in
theorem owners_ct (per : Int) (A : Option Addr) (c : Nat) (M : List Int) (key n : Int) (w : World) (hr : Rd w 1 (Go.Tw.encI .i64) A M) (k0 : 0 ≤ key) (k1 : key ≤ 18446744073709551615) (hl : M.length ≤ 9223372036854775807) : Calls Try.prog 17 #[.int .i64 per, .slice A M.length c, .int .u64 key, .int .i64 n] w fun e w' => e = .returned (.bool true) ∧ Fr w w' [] := by
 refine enterD (n := 72) Try.func17 rfl rfl (Nat.le_of_ble_eq_true rfl) ?_
 intro Q0 hN hret hret'
 have hC := Cx.start w
 refine WCs (fun K1 hK2 => ?_)
 refine WCg (WLq 1 [(8, .bool false)] (WLd rfl (QXn (hK2 _ _ ?_))))
 refine WCs (fun K3 hK4 => ?_)
 refine WCs (fun K5 hK6 => ?_)
 refine WCg ?_
 refine WLc rfl rfl rfl rfl rfl (by kernel_rfl) (alive_ct w) ?_
 rintro _ w8 ⟨rfl, hF7⟩
 refine ⟨_, rfl, ?_⟩
 have hC9 := hC.call hF7
 refine WLq 1 [(14, .bool false)] (WLd rfl (QXn (hK6 _ _ ?_)))
 refine WCf rfl (WC.skip (QXn (hK4 _ _ ?_)))
 refine WCs (fun cf ba => ?_)
 refine WCs (fun cg bb => ?_)
 refine WCg (WLq 3 [(17, .bool (decide ((M.length : Int) > 200))), (16, .int .i64 (M.length : Int)), (15, .slice A M.length c)] (WLd rfl (QXn (bb _ _ ?_))))
 refine WCa 17 (decide ((M.length : Int) > 200)) rfl (fun aE => ?_) (fun aE => ?_)
 ·
  have bY : (200 : Int) < (M.length : Int) := by have q_ := of_decide_eq_true aE; omega
  refine WCt rfl ?_
  refine WCs (fun ch bc => ?_)
  refine WCg (WLq 1 [(8, .bool true)] (WLd rfl (QXn (bc _ _ ?_))))
  refine WC.ret ?_
  refine QXr ?_
  refine (hret _ _ _ rfl ?_).1
  exact ⟨rfl, hC9.fr⟩
 ·
  have bY : (M.length : Int) ≤ 200 := by have q_ := of_decide_eq_false aE; omega
  refine WCf rfl (WC.skip (QXn (ba _ _ ?_)))
  refine WCs (fun ci bd => ?_)
  refine WCg (WLq 1 [(18, .slice A M.length c)] ?_)
  refine WLc rfl rfl rfl rfl rfl (by kernel_rfl) (mine_n A M.length c M w8 (Rd.fr hr hC9.fr) rfl (by omega)) ?_
  rintro _ bZ ⟨av, ap, rfl, be, aF⟩
  have aG := hC9.callN be (own_ge aF) (own_lt aF)
  refine ⟨_, rfl, ?_⟩
  rw [blk_n av (M.length + 1) ap (M.length) ap] at aG
  have aq := own_base (b' := 0) aF (fun _ _ => Nat.zero_le _)
  have ag := own_takeE (m := M.length) (Go.Tw.encI_len _) aq (by omega)
  have bV := own_le aq
  rw [show List.take M.length (M ++ [(-77 : Int)]) = M from by simp] at ag
  refine WLq 1 [(9, .slice av M.length ap)] (WLd rfl (QXn (bd _ _ ?_)))
  refine WCs (fun cj aJ => ?_)
  refine WCg (WLq 2 [(22, .slice av M.length ap), (21, .int .i64 per)] ?_)
  refine WLc rfl rfl rfl rfl rfl (by kernel_rfl) (New_n per av M.length ap M bZ (own_rd ag (Go.Tw.encI_len _) (by decide)) (own_count (Go.Tw.encI_len _) (by decide) ag) (by first | omega | (simp; done) | (simp; omega))) ?_
  rintro _ bW ⟨a36, b37, rfl, af, (⟨aa, rfl, rfl⟩ | ⟨aa, p39, G40, AP41, cP42, AM43, cM44, rfl, rfl, aK, bf⟩)⟩
  ·
   have ah := aG.call af
   refine ⟨_, rfl, ?_⟩
   have bg := own_fr ag af (by simp)
   have bh := own_fr aq af (by simp)
   refine WLq 5 [(11, errV 62 (goodR per M)), (10, .pointer none), (25, errV 62 (goodR per M)), (24, .pointer none), (20, .tuple #[.pointer none, errV 62 (goodR per M)])] (WLd rfl (QXn (aJ _ _ ?_)))
   refine WCs (fun ck bi => ?_)
   refine WCg (WLq 2 [(27, .slice A M.length c), (26, .int .i64 per)] ?_)
   refine WLc rfl rfl rfl rfl rfl (by kernel_rfl) (Good_n per A M.length c M bW (Rd.fr hr ah.fr) (by first | rfl | assumption | omega) (by first | omega | (simp; done) | (simp; omega))) ?_
   rintro _ b0 ⟨rfl, aH⟩
   refine ⟨_, rfl, ?_⟩
   have bj := ah.call aH
   have bk := own_fr bg aH (by simp)
   have bl := own_fr bh aH (by simp)
   refine WLt (show (.int .i64 (goodR per M) : Value) = .int .i64 (goodR per M) from rfl) ?_
   refine WLq 1 [(12, .int .i64 (goodR per M))] (WLd rfl (QXn (bi _ _ ?_)))
   refine WCs (fun cl bm => ?_)
   refine WCs (fun cm bn => ?_)
   refine WCg (WLq 1 [(29, errV 62 (goodR per M))] ?_)
   refine WLc rfl rfl rfl rfl rfl (by kernel_rfl) (Num_er (goodR per M) b0 aa) ?_
   rintro _ b1 ⟨rfl, aI⟩
   refine ⟨_, rfl, ?_⟩
   have aL := bj.call aI
   have aM := own_fr bk aI (by simp)
   have aN := own_fr bl aI (by simp)
   refine WLq 3 [(33, .bool ((goodR per M) != (goodR per M))), (32, .bool ((goodR per M) != (goodR per M))), (31, .int .i64 (goodR per M))] ?_
   refine WL.know 33 (.bool ((goodR per M) != (goodR per M))) (.bool false) rfl (congrArg Value.bool (by simp)) ?_
   refine WLq 2 [(35, .slice A M.length c), (34, .slice av M.length ap)] ?_
   have hle_ := own_le aN
   refine WLc rfl rfl rfl rfl rfl (by kernel_rfl) (kept_n av A M.length ap M.length c M b1 (own_rd aM (Go.Tw.encI_len _) (by decide)) (own_rd aN (Go.Tw.encI_len _) (by decide)) (own_count (Go.Tw.encI_len _) (by decide) aM) (Rd.fr hr aL.fr) (by first | rfl | assumption | omega) (by omega) (by omega)) ?_
   rintro _ cn ⟨rfl, bo⟩
   refine ⟨_, rfl, ?_⟩
   have bp := aL.call bo
   refine WLq 2 [(38, .bool false), (37, .bool false)] (WLd rfl (QXn (bn _ _ ?_)))
   refine WCf rfl (WC.skip (QXn (bm _ _ ?_)))
   refine WCs (fun co b2 => ?_)
   refine WCs (fun cp bq => ?_)
   refine WCg (WLq 2 [(40, .bool ((goodR per M) != 0)), (39, .int .i64 (goodR per M))] (WLd rfl (QXn (bq _ _ ?_))))
   refine WC.know 40 (.bool ((goodR per M) != 0)) (.bool true) rfl (congrArg Value.bool (by simpa using aa)) ?_
   refine WCt rfl ?_
   refine WCs (fun cq br => ?_)
   refine WCg (WLq 3 [(8, .bool true), (42, .bool true), (41, .pointer none)] (WLd rfl (QXn (br _ _ ?_))))
   refine WC.ret ?_
   refine QXr ?_
   refine (hret _ _ _ rfl ?_).1
   exact ⟨rfl, bp.fr⟩
  ·
   have ah := aG.callN af bf (RingR.lt aK)
   refine ⟨_, rfl, ?_⟩
   have bs := own_fr ag af (by simp)
   have bt := own_fr aq af (by simp)
   refine WLq 5 [(11, .nilIface), (10, .pointer (some ⟨p39, 0, none⟩)), (25, .nilIface), (24, .pointer (some ⟨p39, 0, none⟩)), (20, .tuple #[.pointer (some ⟨p39, 0, none⟩), .nilIface])] (WLd rfl (QXn (aJ _ _ ?_)))
   refine WCs (fun cr bu => ?_)
   refine WCg (WLq 2 [(27, .slice A M.length c), (26, .int .i64 per)] ?_)
   refine WLc rfl rfl rfl rfl rfl (by kernel_rfl) (Good_n per A M.length c M bW (Rd.fr hr ah.fr) (by first | rfl | assumption | omega) (by first | omega | (simp; done) | (simp; omega))) ?_
   rintro _ b3 ⟨rfl, ar⟩
   refine ⟨_, rfl, ?_⟩
   have bv := ah.call ar
   have bw := own_fr bs ar (by simp)
   have bx := own_fr bt ar (by simp)
   have bz := RingR.fr aK ar (by simp)
   refine WLt (show (.int .i64 (goodR per M) : Value) = .int .i64 (0) from congrArg (Value.int .i64) aa) ?_
   refine WLq 1 [(12, .int .i64 0)] (WLd rfl (QXn (bu _ _ ?_)))
   refine WCs (fun cs bA => ?_)
   refine WCs (fun ct bB => ?_)
   refine WCg (WLq 1 [(29, .nilIface)] ?_)
   refine WLc rfl rfl rfl rfl rfl (by kernel_rfl) (Num_nil b3) ?_
   rintro _ b5 ⟨rfl, au⟩
   refine ⟨_, rfl, ?_⟩
   have aO := bv.call au
   have aP := own_fr bw au (by simp)
   have aQ := own_fr bx au (by simp)
   have bC := RingR.fr bz au (by simp)
   refine WLq 5 [(35, .slice A M.length c), (34, .slice av M.length ap), (33, .bool false), (32, .bool false), (31, .int .i64 0)] ?_
   have hle_ := own_le aQ
   refine WLc rfl rfl rfl rfl rfl (by kernel_rfl) (kept_n av A M.length ap M.length c M b5 (own_rd aP (Go.Tw.encI_len _) (by decide)) (own_rd aQ (Go.Tw.encI_len _) (by decide)) (own_count (Go.Tw.encI_len _) (by decide) aP) (Rd.fr hr aO.fr) (by first | rfl | assumption | omega) (by omega) (by omega)) ?_
   rintro _ b6 ⟨rfl, aR⟩
   refine ⟨_, rfl, ?_⟩
   have aS := aO.call aR
   have aw := RingR.fr bC aR (by simp)
   refine WLq 2 [(38, .bool false), (37, .bool false)] (WLd rfl (QXn (bB _ _ ?_)))
   refine WCf rfl (WC.skip (QXn (bA _ _ ?_)))
   refine WCs (fun b7 aT => ?_)
   refine WCs (fun b9 aU => ?_)
   refine WCg (WLq 2 [(40, .bool false), (39, .int .i64 0)] (WLd rfl (QXn (aU _ _ ?_))))
   refine WCf rfl (WC.skip (QXn (aT _ _ ?_)))
   refine WCs (fun ca aV => ?_)
   refine WCs (fun cb aW => ?_)
   refine WCg ?_
   have hgl_ := good_len aa
   have hgp_ := (good0 aa).1
   have hmu0_ : (0 : Int) ≤ (M.length : Int) * per := Int.mul_nonneg (by omega) (by omega)
   have hmu1_ : (M.length : Int) * per ≤ 64 * 64 := Int.mul_le_mul (by omega) (by omega) (by omega) (by omega)
   refine WLq 7 [(49, .int .i64 (IntKind.i64.wrap ((M.length : Int) * per))), (48, .int .i64 per), (47, .int .i64 (M.length : Int)), (46, .slice A M.length c), (45, .bool false), (44, .bool false), (43, .pointer (some ⟨p39, 0, none⟩))] ?_
   refine WLt (show (.int .i64 (IntKind.i64.wrap ((M.length : Int) * per)) : Value) = .int .i64 ((M.length : Int) * per) from by rw [wrap_in_i64 _ (by omega) (by omega)]) ?_
   refine WLq 2 [(51, .bool (decide (((M.length : Int) * per) > 600))), (50, .bool (decide (((M.length : Int) * per) > 600)))] (WLd rfl (QXn (aW _ _ ?_)))
   refine WCa 51 (decide (((M.length : Int) * per) > 600)) rfl (fun ai => ?_) (fun ai => ?_)
   ·
    have bD : (600 : Int) < ((M.length : Int) * per) := by have q_ := of_decide_eq_true ai; omega
    refine WCt rfl ?_
    refine WCs (fun cc aX => ?_)
    refine WCg (WLq 3 [(8, .bool true), (53, .bool true), (52, .pointer (some ⟨p39, 0, none⟩))] (WLd rfl (QXn (aX _ _ ?_))))
    refine WC.ret ?_
    refine QXr ?_
    refine (hret _ _ _ rfl ?_).1
    exact ⟨rfl, aS.fr⟩
   ·
    have bD : ((M.length : Int) * per) ≤ 600 := by have q_ := of_decide_eq_false ai; omega
    refine WCf rfl (WC.skip (QXn (aV _ _ ?_)))
    refine WCs (fun cd aY => ?_)
    refine WCg (WLq 3 [(56, .int .i64 n), (55, .int .u64 key), (54, .pointer (some ⟨p39, 0, none⟩))] ?_)
    have hal_ := all_len (key := key) aa
    have hgl_ := good_len aa
    refine WLc rfl rfl rfl rfl rfl (by kernel_rfl) (Owners_take G40 p39 per AP41 cP42 M AM43 cM44 key n b6 aw aa) ?_
    rintro _ bE ⟨v_, rfl, ax, ab⟩
    have ay := aS.callN ax (own_ge ab) (own_lt ab)
    obtain ⟨bF, bG, rfl, bH⟩ := own_form ab
    have aZ := own_base (b' := 0) ab (fun _ _ => Nat.zero_le _)
    refine ⟨_, rfl, ?_⟩
    have a0 := RingR.fr aw ax (by simp)
    refine WLq 4 [(61, .int .i64 n), (60, .int .u64 key), (59, .slice A M.length c), (58, .int .i64 per)] ?_
    have a1 : ∀ w_, Sem.run Try.prog (Builtin.min_ #[3, 3] 3 #[.int .i64 n, .int .i64 64]) w_ = .ok (.int .i64 (min n (64 : Int))) w_ := fun w_ => run_minI
    refine WL.sem (Builtin.min_ #[3, 3] 3 #[.int .i64 n, .int .i64 64]) 62 (.int .i64 (min n (64 : Int))) (by kernel_rfl) (a1 _) ?_
    refine WLc rfl rfl rfl rfl rfl (by kernel_rfl) (ROwners_n per A M.length c M key (min n (64 : Int)) bE aa k0 k1 (Rd.fr hr ay.fr) (by first | rfl | assumption | omega)) ?_
    rintro _ bI ⟨v_, rfl, aj, ac⟩
    have a2 := ay.callN aj (own_ge ac) (own_lt ac)
    obtain ⟨bJ, bK, rfl, bL⟩ := own_form ac
    have ak := own_base (b' := 0) ac (fun _ _ => Nat.zero_le _)
    refine ⟨_, rfl, ?_⟩
    have a3 := RingR.fr a0 aj (by simp)
    have al := own_fr aZ aj (by simp)
    refine WLc rfl rfl rfl rfl rfl (by kernel_rfl) (Ints_n bF bJ (((allP key per M).take n.toNat).length) bG (((allP key per M).take (min n (64 : Int)).toNat).length) bK ((allP key per M).take n.toNat) ((allP key per M).take (min n (64 : Int)).toNat) bI (own_rd al (Go.Tw.encI_len _) (by decide)) (own_count (Go.Tw.encI_len _) (by decide) al) (own_rd ak (Go.Tw.encI_len _) (by decide)) (own_count (Go.Tw.encI_len _) (by decide) ak) (own_max al) (own_max ak)) ?_
    rintro _ bM ⟨rfl, az⟩
    refine ⟨_, rfl, ?_⟩
    have a4 := a2.call az
    have aA := RingR.fr a3 az (by simp)
    refine WLq 1 [(65, .bool (decide (((allP key per M).take n.toNat) = ((allP key per M).take (min n (64 : Int)).toNat))))] ?_
    refine WL.know 65 (.bool (decide (((allP key per M).take n.toNat) = ((allP key per M).take (min n (64 : Int)).toNat)))) (.bool true) rfl (congrArg Value.bool (by exact decide_eq_true (take_min64 aa _))) ?_
    refine WLq 1 [(66, .pointer (some ⟨p39, 0, none⟩))] ?_
    have hgl_ := good_len aa
    refine WLc rfl rfl rfl rfl rfl (by kernel_rfl) (Members_ct G40 p39 per AP41 cP42 (ringP per M) AM43 cM44 (sortI M) bM aA (by rw [sortI_len]; omega)) ?_
    rintro _ bN ⟨v_, rfl, aB, ad⟩
    have aC := a4.callN aB (own_ge ad) (own_lt ad)
    obtain ⟨bO, bP, rfl, bQ⟩ := own_form ad
    have a5 := own_base (b' := 0) ad (fun _ _ => Nat.zero_le _)
    refine ⟨_, rfl, ?_⟩
    have a6 := RingR.fr aA aB (by simp)
    refine WLq 1 [(68, .slice A M.length c)] ?_
    refine WLc rfl rfl rfl rfl rfl (by kernel_rfl) (RSorted_n A M.length c M bN (Rd.fr hr aC.fr) (by first | rfl | assumption | omega) (by first | omega | (simp; done) | (simp; omega))) ?_
    rintro _ bR ⟨v_, rfl, am, ae⟩
    have a7 := aC.callN am (own_ge ae) (own_lt ae)
    obtain ⟨bS, bT, rfl, bU⟩ := own_form ae
    have an := own_base (b' := 0) ae (fun _ _ => Nat.zero_le _)
    refine ⟨_, rfl, ?_⟩
    have a8 := RingR.fr a6 am (by simp)
    have ao := own_fr a5 am (by simp)
    refine WLc rfl rfl rfl rfl rfl (by kernel_rfl) (Ints_n bO bS ((sortI M).length) bP M.length bT (sortI M) (sortI M) bR (own_rd ao (Go.Tw.encI_len _) (by decide)) (own_count (Go.Tw.encI_len _) (by decide) ao) (own_rd an (Go.Tw.encI_len _) (by decide)) (own_count (Go.Tw.encI_len _) (by decide) an) (own_max ao) (own_max an)) ?_
    rintro _ ce ⟨rfl, aD⟩
    refine ⟨_, rfl, ?_⟩
    have a9 := a7.call aD
    have bX := RingR.fr a8 aD (by simp)
    refine WLq 2 [(8, .bool (decide ((sortI M) = (sortI M)))), (71, .bool (decide ((sortI M) = (sortI M))))] (WLd rfl (QXn (aY _ _ ?_)))
    refine WC.ret ?_
    refine (hret _ _ _ rfl ?_).1
    exact ⟨congrArg (fun b_ => Ending.returned (Value.bool b_)) (show ((decide ((sortI M) = (sortI M)))) = true from by simp), a9.fr⟩

theorem RingKeys_ct (per : Int) (A : Option Addr) (c : Nat) (M : List Int) (key n : Int) (w : World) (hr : Rd w 1 (Go.Tw.encI .i64) A M) (k0 : 0 ≤ key) (k1 : key ≤ 18446744073709551615) (hl : M.length ≤ 9223372036854775807) : Calls Try.prog 5 #[.agg #[.int .i64 per, .slice A M.length c, .int .u64 key, .int .i64 n]] w fun e w' => e = .returned (.bool true) ∧ Fr w w' [] := by
 refine enterD (n := 12) Try.func5 rfl rfl (Nat.le_of_ble_eq_true rfl) ?_
 intro Q0 hN hret hret'
 have hC := Cx.start w
 refine WCs (fun K1 hK2 => ?_)
 refine WCg ?_
 refine WL.newM hC (fun b => .pointer (some ⟨b, 0, none⟩)) (.cells #[.int .i64 per, .slice A M.length c, .int .u64 key, .int .i64 n] 34) 1 (fun _ => by kernel_rfl) (fun g3 w4 hb7 hF5 hC6 => ?_)
 refine WLq 1 [(2, .bool false)] (WLd rfl (QXn (hK2 _ _ ?_)))
 refine WCs (fun K8 hK9 => ?_)
 refine WCg (WLq 1 [(3, .pointer (some ⟨g3, 0, none⟩))] ?_)
 refine WLo 3 (.pointer (some ⟨g3, 0, none⟩)) (.int .i64 per) 4 (run_ld (hC6.get 0 rfl) rfl) ?_
 refine WLq 1 [(5, .pointer (some ⟨g3, 1, none⟩))] ?_
 refine WLo 31 (.pointer (some ⟨g3, 1, none⟩)) (.slice A M.length c) 6 (run_ld (hC6.get 0 rfl) rfl) ?_
 refine WLq 1 [(7, .pointer (some ⟨g3, 2, none⟩))] ?_
 refine WLo 32 (.pointer (some ⟨g3, 2, none⟩)) (.int .u64 key) 8 (run_ld (hC6.get 0 rfl) rfl) ?_
 refine WLq 1 [(9, .pointer (some ⟨g3, 3, none⟩))] ?_
 refine WLo 3 (.pointer (some ⟨g3, 3, none⟩)) (.int .i64 n) 10 (run_ld (hC6.get 0 rfl) rfl) ?_
 refine WLc rfl rfl rfl rfl rfl (by kernel_rfl) (owners_ct per A c M key n w4 (Rd.fr hr hC6.fr) k0 k1 hl) ?_
 rintro _ ac ⟨rfl, aa⟩
 refine ⟨_, rfl, ?_⟩
 have ab := hC6.call aa
 refine WLq 1 [(2, .bool true)] (WLd rfl (QXn (hK9 _ _ ?_)))
 refine WC.ret ?_
 refine (hret _ _ _ rfl ?_).1
 exact ⟨rfl, ab.fr⟩

end Go.Proofs.Ytibkndhgeeoidaa
