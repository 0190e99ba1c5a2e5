/- Contracts of functions of the program, each proved by a walk through its code; conditions stand in the statements. -/
import Derived.Test.YtmahghppojbeoaaSeAB
namespace Go.Proofs.Ytmahghppojbeoaa
set_option linter.unusedSimpArgs false
set_option linter.unusedVariables false
set_option linter.unusedSectionVars false
open Go Go.RowKit Go.Tw
set_option linter.unusedVariables false
set_option maxRecDepth 20000
open Go.Sort
/-- tracked blocks and footprints in another order -/
theorem Cx.pickX {w0 w : World} {F0 : List Nat} {M : List (Nat × Obj)} {Fs : List (List Nat)} (h : Cx w0 F0 w M Fs) (is js : List Nat) (hn : is.Nodup) (hj : js.Nodup) {M' : List (Nat × Obj)} {Fs' : List (List Nat)} (hM : is.filterMap (fun i => M[i]?) = M') (hF : js.filterMap (fun i => Fs[i]?) = Fs') : Cx w0 F0 w M' Fs' := by
  have h2 : Cx w0 F0 w M' Fs := by
    have z := h.pickM is (List.range Fs.length) hn hM rfl
    have e : ∀ l : List (List Nat), Tw.pick (List.range l.length) l = l := fun l => by
      induction l with
      | nil => rfl
      | cons a r ih =>
        rw [List.length_cons, List.range_succ_eq_map]
        simp only [Tw.pick, List.map_map]
        refine congrArg (List.cons a) ?_
        refine Eq.trans (congrArg (fun q => Tw.pick q r) ?_) ih
        exact (List.map_congr_left fun x _ => by simp).trans (List.map_id _)
    rw [e] at z; exact z
  subst hF
  have hmem : ∀ F ∈ js.filterMap (fun i => Fs[i]?), F ∈ Fs := by
    intro p hp
    obtain ⟨i, _, hi⟩ := List.mem_filterMap.1 hp
    exact List.mem_of_getElem? hi
  refine ⟨h2.fr, h2.has, h2.nodup, ?_, fun F hF p hp => h2.apart F (hmem F hF) p hp, fun F hF => h2.bound F (hmem F hF), h2.ownM, fun F hF => h2.ownF F (hmem F hF)⟩
  rw [List.pairwise_filterMap]
  refine List.Pairwise.imp ?_ hj
  intro i j hij a ha b hb
  exact h2.disj i j ha hb hij
/-! ### the document's rising list of vips is the program's -/
theorem cptN_spec {xs : List Int} (hs : xs.Pairwise (· ≤ ·)) : ∀ j, j ≤ xs.length → (cptN xs j).Pairwise (· < ·) ∧ ∀ x, x ∈ cptN xs j ↔ x ∈ xs.take j
  | 0, _ => by simp [cptN]
  | j + 1, hj => by
    have hlt : j < xs.length := by omega
    obtain ⟨h1, h2⟩ := cptN_spec hs j (by omega)
    have ej : xs[j]? = some xs[j] := List.getElem?_eq_getElem hlt
    unfold cptN
    split
    · rename_i hq
      refine ⟨h1, fun x => ?_⟩
      rw [h2, List.take_succ_eq_append_getElem hlt, List.mem_append, List.mem_singleton]
      refine ⟨.inl, fun h => h.elim id fun e => ?_⟩
      rw [ej] at hq
      subst e
      have h3 : xs[j] ∈ xs.take j := List.mem_iff_getElem?.2 ⟨j - 1, by rw [List.getElem?_take, if_pos (by omega)]; exact hq.2.symm⟩
      exact h3
    · rename_i hq
      rw [ej, Option.toList_some]
      refine ⟨?_, fun x => by rw [List.mem_append, h2, List.take_succ_eq_append_getElem hlt, List.mem_append]⟩
      rw [List.pairwise_append]
      refine ⟨h1, by simp, fun a ha c hc => ?_⟩
      rw [List.mem_singleton] at hc; subst hc
      obtain ⟨k, hk⟩ := List.mem_iff_getElem?.1 ((h2 a).1 ha)
      rw [List.getElem?_take] at hk
      split at hk
      · rename_i hkj
        obtain ⟨hk2, rfl⟩ := List.getElem?_eq_some_iff.1 hk
        have h3 : xs[k] ≤ xs[j - 1] := by
          by_cases e : k = j - 1
          · subst e; exact Int.le_refl _
          · exact List.pairwise_iff_getElem.1 hs k (j - 1) hk2 (by omega) (by omega)
        have h4 : xs[j - 1] ≤ xs[j] := List.pairwise_iff_getElem.1 hs (j - 1) j (by omega) hlt (by omega)
        have h5 : xs[j] ≠ xs[j - 1] := fun e => hq ⟨by omega, by rw [ej, List.getElem?_eq_getElem (by omega : j - 1 < xs.length), e]⟩
        omega
      · cases hk
theorem sortU_le (X : List Int) : (sortU X).Pairwise (· ≤ ·) := by
  have h := List.pairwise_mergeSort (le := fun x y : Int => decide (x ≤ y)) (fun a b c h1 h2 => by simp at *; omega) (fun a b => by simp; omega) X
  exact h.imp (fun h => by simpa using h)
def dV (X : List Int) : List Int := cpt (outV (sortU X))
theorem dV_lt (X : List Int) : (dV X).Pairwise (· < ·) := (cptN_spec ((sortU_le X).filter _) _ (Nat.le_refl _)).1
theorem dV_mem {X : List Int} {x : Int} : x ∈ dV X ↔ x ∈ X ∧ isVip x = true := by
  unfold dV cpt
  have h := (cptN_spec (xs := outV (sortU X)) ((sortU_le X).filter _) _ (Nat.le_refl _)).2 x
  rw [h, List.take_length]
  unfold outV
  rw [List.mem_filter, sortU_mem]
  unfold nVip
  simp
structure selL (X : List Int) (i : Nat) (last : Int) : Prop where
  le : i ≤ (dV X).length
  pre : ∀ k x, k < i → (dV X)[k]? = some x → x ≤ last
  post : ∀ k x, i ≤ k → (dV X)[k]? = some x → last < x
  sp : 0 ≤ last ∧ last ≤ 4294967295
theorem selL_0 (X : List Int) : selL X 0 0 := by
  refine ⟨Nat.zero_le _, fun k x h => absurd h (Nat.not_lt_zero _), fun k x _ h => ?_, by decide⟩
  have h2 := (dV_mem.1 (List.mem_of_getElem? h)).2
  unfold isVip at h2
  simp only [decide_eq_true_eq] at h2
  omega
structure selB (X : List Int) (last : Int) (j : Nat) (best : Int) : Prop where
  alt : best = 1099511627776 ∨ (best ∈ X ∧ isVip best = true ∧ last < best ∧ best ≤ 4294967295)
  all : ∀ k x, k < j → X[k]? = some x → isVip x = true → last < x → best ≤ x
theorem selB_0 (X : List Int) (last : Int) : selB X last 0 1099511627776 := ⟨.inl rfl, fun _ _ h => absurd h (Nat.not_lt_zero _)⟩
theorem selB_sp {X : List Int} {last best : Int} {j : Nat} (h : selB X last j best) (h0 : 0 ≤ last) : 0 ≤ best ∧ best ≤ 1099511627776 := by
  rcases h.alt with h | h <;> omega
theorem selB_no {X : List Int} {last best x : Int} {j : Nat} (h : selB X last j best) (hx : X[j]? = some x) (hn : ¬ (isVip x = true ∧ last < x ∧ x < best)) : selB X last (j + 1) best :=
  ⟨h.alt, fun k y hk hy h1 h2 => by
    by_cases e : k = j
    · subst e; rw [hx] at hy; cases hy
      exact Int.not_lt.1 fun h3 => hn ⟨h1, h2, h3⟩
    · exact h.all k y (by omega) hy h1 h2⟩
theorem selB_yes {X : List Int} {last best x : Int} {j : Nat} (h : selB X last j best) (hx : X[j]? = some x) (h1 : isVip x = true) (h2 : last < x) (h3 : x < best) (hs : x ≤ 4294967295) : selB X last (j + 1) x :=
  ⟨.inr ⟨List.mem_of_getElem? hx, h1, h2, hs⟩, fun k y hk hy h4 h5 => by
    by_cases e : k = j
    · subst e; rw [hx] at hy; cases hy; exact Int.le_refl _
    · have := h.all k y (by omega) hy h4 h5; omega⟩
theorem sel_end {X : List Int} {i j : Nat} {last best : Int} (h : selL X i last) (hb : selB X last j best) (hj : ¬ j < X.length) (h32 : ∀ x ∈ X, 0 ≤ x ∧ x ≤ 4294967295) (he : best = 1099511627776) : (dV X).length = i := by
  subst he
  by_cases e : i < (dV X).length
  · have h1 := h.post i _ (Nat.le_refl _) (List.getElem?_eq_getElem e)
    obtain ⟨h2, h3⟩ := dV_mem.1 (List.getElem_mem e)
    obtain ⟨k, hk⟩ := List.mem_iff_getElem?.1 h2
    have h4 := hb.all k _ (by have := (List.getElem?_eq_some_iff.1 hk).1; omega) hk h3 h1
    have := (h32 _ h2).2
    omega
  · have := h.le; omega
theorem sel_step {X : List Int} {i j : Nat} {last best : Int} (h : selL X i last) (hb : selB X last j best) (hj : ¬ j < X.length) (he : best ≠ 1099511627776) : (dV X)[i]? = some best ∧ selL X (i + 1) best := by
  obtain ⟨h1, h2, h3, h4⟩ := hb.alt.resolve_left he
  obtain ⟨m, hm⟩ := List.mem_iff_getElem?.1 (dV_mem.2 ⟨h1, h2⟩)
  obtain ⟨hml, hme⟩ := List.getElem?_eq_some_iff.1 hm
  have hP := List.pairwise_iff_getElem.1 (dV_lt X)
  have him : i ≤ m := Nat.not_lt.1 fun q => by have := h.pre m _ q hm; omega
  have hil : i < (dV X).length := by omega
  have h5 := h.post i _ (Nat.le_refl _) (List.getElem?_eq_getElem hil)
  obtain ⟨h6, h7⟩ := dV_mem.1 (List.getElem_mem hil)
  obtain ⟨k, hk⟩ := List.mem_iff_getElem?.1 h6
  have h8 := hb.all k _ (by have := (List.getElem?_eq_some_iff.1 hk).1; omega) hk h7 h5
  have e : i = m := by
    by_cases e : i = m
    · exact e
    · have := hP i m hil hml (by omega); omega
  subst e
  refine ⟨hm, ⟨by omega, fun k x hk hx => ?_, fun k x hk hx => ?_, by have := h.sp; omega⟩⟩
  · obtain ⟨hkl, rfl⟩ := List.getElem?_eq_some_iff.1 hx
    by_cases e : k = i
    · subst e; omega
    · have := hP k i hkl hml (by omega); omega
  · obtain ⟨hkl, rfl⟩ := List.getElem?_eq_some_iff.1 hx
    have := hP i k hml hkl (by omega); omega
theorem ann_full {X : List Int} {i : Nat} (h : i = 39) : (dV X).take i = annV X := by subst h; rfl
theorem ann_short {X : List Int} {i : Nat} (h : (dV X).length = i) (hi : i ≤ 39) : (dV X).take i = annV X := by
  show (dV X).take i = (dV X).take 39
  rw [List.take_of_length_le (by omega), List.take_of_length_le (by omega)]
theorem Byte0_ct (a : Int) (w : World) (h0 : 0 ≤ a) (h1 : a ≤ 4294967295) : Calls Try.prog 58 #[.int .u32 a, .int .i64 0] w fun e w' => e = .returned (.int .i64 (a / 16777216)) ∧ Fr w w' [] := by
 refine enterD (n := 13) Try.func58 rfl rfl (Nat.le_of_ble_eq_true rfl) ?_
 intro Q0 hN hret hret'
 have hC := Cx.start w
 refine WCs (fun K1 hK2 => ?_)
 refine WCg (WLq 1 [(4, .int .i64 0)] (WLd rfl (QXn (hK2 _ _ ?_))))
 refine WCs (fun K3 hK4 => ?_)
 refine WCg (WLq 3 [(7, .int .i64 (IntKind.i64.wrap (8 * 0))), (6, .int .i64 0), (5, .int .u32 a)] ?_)
 refine WLt (show (.int .i64 (IntKind.i64.wrap (8 * 0)) : Value) = .int .i64 0 from by rw [wrap_in_i64 _ (by omega) (by omega)]; rfl) ?_
 refine WLq 1 [(8, .int .i64 (IntKind.i64.wrap (24 - 0)))] ?_
 refine WLt (show (.int .i64 (IntKind.i64.wrap (24 - 0)) : Value) = .int .i64 24 from by rw [wrap_in_i64 _ (by omega) (by omega)]; rfl) ?_
 refine WLq 1 [(9, .int .u64 (IntKind.u64.wrap (24)))] ?_
 refine WLt (show (.int .u64 (IntKind.u64.wrap (24)) : Value) = .int .u64 24 from by rw [wrap_in_u64 _ (by omega) (by omega)]) ?_
 refine WLq 1 [(10, .int .u32 ((a : Int).fdiv (2 ^ 24)))] ?_
 refine WLt (show (.int .u32 ((a : Int).fdiv (2 ^ 24)) : Value) = .int .u32 ((a : Int) / 16777216) from by rw [Int.fdiv_eq_ediv_of_nonneg (a : Int) (by decide)]; rfl) ?_
 refine WLq 1 [(11, .int .i64 (IntKind.i64.wrap ((a : Int) / 16777216)))] ?_
 refine WLt (show (.int .i64 (IntKind.i64.wrap ((a : Int) / 16777216)) : Value) = .int .i64 ((a : Int) / 16777216) from by rw [wrap_in_i64 ((a : Int) / 16777216) (by omega) (by omega)]) ?_
 refine WLq 1 [(12, .int .i64 (Int.tmod ((a : Int) / 16777216) 256))] ?_
 refine WLt (show (.int .i64 (Int.tmod ((a : Int) / 16777216) 256) : Value) = .int .i64 (a / 16777216) from by rw [Int.tmod_eq_emod_of_nonneg (by omega)]; congr 1; omega) ?_
 refine WLq 1 [(4, .int .i64 (a / 16777216))] (WLd rfl (QXn (hK4 _ _ ?_)))
 refine WC.ret ?_
 refine (hret _ _ _ rfl ?_).1
 exact ⟨rfl, hC.fr⟩

theorem IsVip2_ct (a : Int) (w : World) (h0 : 0 ≤ a) (h1 : a ≤ 4294967295) : Calls Try.prog 47 #[.int .u32 a] w fun e w' => e = .returned (.bool (isVip a)) ∧ Fr w w' [] := by
 refine enterD (n := 20) Try.func47 rfl rfl (Nat.le_of_ble_eq_true rfl) ?_
 intro Q0 hN hret hret'
 have hC := Cx.start w
 refine WCs (fun K1 hK2 => ?_)
 refine WCg (WLq 1 [(2, .bool false)] (WLd rfl (QXn (hK2 _ _ ?_))))
 refine WCs (fun K3 hK4 => ?_)
 refine WCg (WLq 1 [(4, .int .u32 a)] ?_)
 refine WLc rfl rfl rfl rfl rfl (by kernel_rfl) (Byte0_ct a w (by omega) (by omega)) ?_
 rintro _ w6 ⟨rfl, hF5⟩
 refine ⟨_, rfl, ?_⟩
 have hC7 := hC.call hF5
 refine WLq 1 [(3, .int .i64 (a / 16777216))] (WLd rfl (QXn (hK4 _ _ ?_)))
 refine WCs (fun K8 hK9 => ?_)
 refine WCg (WLq 3 [(8, .bool (decide ((a / 16777216) ≥ 1))), (7, .bool (decide ((a / 16777216) ≥ 1))), (6, .int .i64 (a / 16777216))] ?_)
 refine WLa 8 (decide ((a / 16777216) ≥ 1)) rfl (fun aa => ?_) (fun aa => ?_)
 ·
  have ad : (1 : Int) ≤ (a / 16777216) := by have q_ := of_decide_eq_true aa; omega
  refine WLq 4 [(12, .bool (decide ((a / 16777216) ≤ 223))), (11, .bool (decide ((a / 16777216) ≤ 223))), (10, .bool (decide ((a / 16777216) ≤ 223))), (9, .int .i64 (a / 16777216))] ?_
  refine WLa 12 (decide ((a / 16777216) ≤ 223)) rfl (fun ab => ?_) (fun ab => ?_)
  ·
   have ae : (a / 16777216) ≤ 223 := by have q_ := of_decide_eq_true ab; omega
   refine WLq 4 [(16, .bool ((a / 16777216) != 10)), (15, .bool ((a / 16777216) != 10)), (14, .bool ((a / 16777216) != 10)), (13, .int .i64 (a / 16777216))] ?_
   refine WLa 16 ((a / 16777216) != 10) rfl (fun ac => ?_) (fun ac => ?_)
   ·
    have af : (a / 16777216) ≠ 10 := by simpa using ac
    refine WLq 4 [(2, .bool ((a / 16777216) != 127)), (19, .bool ((a / 16777216) != 127)), (18, .bool ((a / 16777216) != 127)), (17, .int .i64 (a / 16777216))] (WLd rfl (QXn (hK9 _ _ ?_)))
    refine WC.ret ?_
    refine (hret _ _ _ rfl ?_).1
    clear hN hret hret' hK9 hK4 hK2
    exact ⟨by simp [shut, isVip]; grind, hC7.fr⟩
   ·
    have af : (a / 16777216) = 10 := by simpa using ac
    refine WLq 4 [(2, .bool false), (19, .bool false), (18, undef), (17, undef)] (WLd rfl (QXn (hK9 _ _ ?_)))
    refine WC.ret ?_
    refine (hret _ _ _ rfl ?_).1
    clear hN hret hret' hK9 hK4 hK2
    exact ⟨by simp [shut, isVip]; grind, hC7.fr⟩
  ·
   have ae : (223 : Int) < (a / 16777216) := by have q_ := of_decide_eq_false ab; omega
   refine WLq 8 [(2, .bool false), (19, .bool false), (18, undef), (17, undef), (16, .bool false), (15, .bool false), (14, undef), (13, undef)] (WLd rfl (QXn (hK9 _ _ ?_)))
   refine WC.ret ?_
   refine (hret _ _ _ rfl ?_).1
   clear hN hret hret' hK9 hK4 hK2
   exact ⟨by simp [shut, isVip]; grind, hC7.fr⟩
 ·
  have ad : (a / 16777216) < 1 := by have q_ := of_decide_eq_false aa; omega
  refine WLq 12 [(2, .bool false), (19, .bool false), (18, undef), (17, undef), (16, .bool false), (15, .bool false), (14, undef), (13, undef), (12, .bool false), (11, .bool false), (10, undef), (9, undef)] (WLd rfl (QXn (hK9 _ _ ?_)))
  refine WC.ret ?_
  refine (hret _ _ _ rfl ?_).1
  clear hN hret hret' hK9 hK4 hK2
  exact ⟨by simp [shut, isVip]; grind, hC7.fr⟩

set_option maxHeartbeats 1000000 in
theorem RSorted_ct (A : Option Addr) (c : Nat) (xs : List Int) (w : World) (hr : Rd w 1 (Go.Tw.encI .u32) A xs) (hlen : xs.length ≤ 1099511627776) (ag : ∀ x ∈ xs, 0 ≤ x ∧ x ≤ 4294967295) : Calls Try.prog 25 #[.slice A xs.length c] w fun e w' => ∃ v, e = .returned v ∧ Fr w w' [] ∧ w'.ownsRow w.heap.size 44 1 v (annV xs).length ((annV xs).flatMap (Go.Tw.encI .u32)) := by
 refine enterD (n := 48) Try.func25 rfl rfl (Nat.le_of_ble_eq_true rfl) ?_
 intro Q0 hN hret hret'
 have hC := Cx.start w
 refine WCs (fun K1 hK2 => ?_)
 refine WCg (WLq 1 [(2, .slice none 0 0)] (WLd rfl (QXn (hK2 _ _ ?_))))
 refine WCs (fun K3 hK4 => ?_)
 refine WCg (WLq 1 [(3, .slice none 0 0)] (WLd rfl (QXn (hK4 _ _ ?_))))
 refine WCs (fun K5 hK6 => ?_)
 refine WCg (WLq 1 [(4, .int .u64 0)] (WLd rfl (QXn (hK6 _ _ ?_))))
 refine WCs (fun K7 hK8 => ?_)
 refine WC.block ?_
 have hC9 := hC.addNil
 refine WC.loop (fun m_ E_ w_ => ∃ (i : Nat) (last : Int) (A5 : Option Addr) (n5 c5 : Nat), m_ = 39 - i ∧ E_ = [(0, .slice A xs.length c), (3, .slice A5 n5 c5), (4, .int .u64 last)] ∧ Cx w [] w_ [] [blk (.slice A5 n5 c5)] ∧ World.ownsRow w_ 0 44 1 (.slice A5 n5 c5) n5 (((dV xs).take i).flatMap (Go.Tw.encI .u32)) ∧ (i ≤ 39 ∧ selL xs i last)) ⟨_, _, ⟨0, 0, none, 0, 0, rfl, rfl, hC9, own_nil _ _ _ _, Nat.zero_le _, selL_0 xs⟩, sub_of ⟨rfl, rfl, rfl, trivial⟩⟩ (fun m13 E_ bc bd aJ aK => ?_)
 obtain ⟨i, last, A5, n5, c5, rfl, rfl, al, hrow, hi, hsel⟩ := aK
 have hcn_ := own_count (Go.Tw.encI_len _) (by decide) hrow
 obtain ⟨hl0_, hl1_⟩ := hsel.sp
 have hle_ := hsel.le
 rw [List.length_take, Nat.min_eq_left hle_] at hcn_
 refine WCs (fun be am => ?_)
 refine WCs (fun bf an => ?_)
 refine WCg (WLq 3 [(10, .bool (decide ((n5 : Int) < 39))), (9, .int .i64 (n5 : Int)), (8, .slice A5 n5 c5)] (WLd rfl (QXn (an _ _ ?_))))
 refine WCa 10 (decide ((n5 : Int) < 39)) rfl (fun ao => ?_) (fun ao => ?_)
 ·
  have a4 : (n5 : Int) < 39 := by have q_ := of_decide_eq_true ao; omega
  refine WCt rfl ?_
  refine WC.skip ?_
  refine QXn (am _ _ ?_)
  refine WC.block ?_
  refine WCs (fun bg au => ?_)
  refine WCg (WLq 1 [(5, .int .u64 1099511627776)] (WLd rfl (QXn (au _ _ ?_))))
  refine WCs (fun bh av => ?_)
  refine WCs (fun bi aw => ?_)
  refine WCg (WLq 1 [(6, .int .i64 0)] (WLd rfl (QXn (aw _ _ ?_))))
  refine WC.block ?_
  refine WC.loop (fun m_ E_ w_ => ∃ (j : Nat) (best : Int), m_ = xs.length - j ∧ E_ = [(0, .slice A xs.length c), (3, .slice A5 n5 c5), (4, .int .u64 last), (5, .int .u64 best), (6, .int .i64 (j : Int))] ∧ Cx w [] w_ [] [blk (.slice A5 n5 c5)] ∧ World.ownsRow w_ 0 44 1 (.slice A5 n5 c5) n5 (((dV xs).take i).flatMap (Go.Tw.encI .u32)) ∧ (j ≤ xs.length ∧ selB xs last j best)) ⟨_, _, ⟨0, 1099511627776, rfl, rfl, al, hrow, Nat.zero_le _, selB_0 xs last⟩, sub_of ⟨rfl, rfl, rfl, rfl, rfl, trivial⟩⟩ (fun m30 E_ a5 bj ah aL => ?_)
  obtain ⟨j, best, rfl, rfl, ac, row_m30, hj, hsb⟩ := aL
  obtain ⟨hb0_, hb1_⟩ := selB_sp hsb hl0_
  refine WCs (fun bk ax => ?_)
  refine WCs (fun bl ay => ?_)
  refine WCg (WLq 4 [(14, .bool (decide ((j : Int) < (xs.length : Int)))), (13, .int .i64 (xs.length : Int)), (12, .slice A xs.length c), (11, .int .i64 (j : Int))] (WLd rfl (QXn (ay _ _ ?_))))
  refine WCa 14 (decide ((j : Int) < (xs.length : Int))) rfl (fun ap => ?_) (fun ap => ?_)
  ·
   have a6 : (j : Int) < (xs.length : Int) := by have q_ := of_decide_eq_true ap; omega
   refine WCt rfl ?_
   refine WC.skip ?_
   refine QXn (ax _ _ ?_)
   refine WCs (fun bm ai => ?_)
   refine WC.block ?_
   refine WCs (fun bn aM => ?_)
   refine WCg (WLq 2 [(18, .int .i64 (j : Int)), (17, .slice A xs.length c)] ?_)
   obtain ⟨aa, ab⟩ := get_some (xs := xs) (i := j) (by omega)
   obtain ⟨b44, o46, az, aA⟩ := hr.at_ _ _ ab
   refine WLi A xs.length c 19 .i64 (j : Int) b44 o46 j 1 (by kernel_rfl) az (by omega) (by omega) (o46 + j) (by first | (simp; done) | omega) ?_
   refine WLo 44 (.pointer (some ⟨b44, o46 + j, none⟩)) (.int .u32 aa) 20 (run_load1 rfl (by simpa [Nat.add_assoc] using ac.fr.cell (aA 0 _ rfl) (by simp))) ?_
   obtain ⟨hx0_, hx1_⟩ := ag _ (List.mem_of_getElem? ab)
   refine WLq 1 [(21, .int .u64 (IntKind.u64.wrap (aa)))] ?_
   refine WLt (show (.int .u64 (IntKind.u64.wrap (aa)) : Value) = .int .u64 aa from by rw [wrap_in_u64 _ (by omega) (by omega)]) ?_
   refine WLq 1 [(7, .int .u64 aa)] (WLd rfl (QXn (aM _ _ ?_)))
   refine WCs (fun bo aq => ?_)
   refine WCg (WLq 2 [(23, .int .i64 (j : Int)), (22, .slice A xs.length c)] ?_)
   refine WLi A xs.length c 24 .i64 (j : Int) b44 o46 j 1 (by kernel_rfl) az (by omega) (by omega) (o46 + j) (by first | (simp; done) | omega) ?_
   refine WLo 44 (.pointer (some ⟨b44, o46 + j, none⟩)) (.int .u32 aa) 25 (run_load1 rfl (by simpa [Nat.add_assoc] using ac.fr.cell (aA 0 _ rfl) (by simp))) ?_
   refine WLc rfl rfl rfl rfl rfl (by kernel_rfl) (IsVip2_ct aa a5 (ag _ (List.mem_of_getElem? ab)).1 (ag _ (List.mem_of_getElem? ab)).2) ?_
   rintro _ bp ⟨rfl, aB⟩
   refine ⟨_, rfl, ?_⟩
   have aj := ac.call aB
   have ak := own_fr row_m30 aB (by simp)
   refine WLq 1 [(27, .bool (isVip aa))] ?_
   refine WLa 27 (isVip aa) rfl (fun ar => ?_) (fun ar => ?_)
   ·
    refine WLq 5 [(32, .bool (decide (aa > last))), (31, .bool (decide (aa > last))), (30, .bool (decide (aa > last))), (29, .int .u64 last), (28, .int .u64 aa)] ?_
    refine WLa 32 (decide (aa > last)) rfl (fun ad => ?_) (fun ad => ?_)
    ·
     have a7 : last < aa := by have q_ := of_decide_eq_true ad; omega
     refine WLq 4 [(36, .bool (decide (aa < best))), (35, .bool (decide (aa < best))), (34, .int .u64 best), (33, .int .u64 aa)] (WLd rfl (QXn (aq _ _ ?_)))
     refine WCa 36 (decide (aa < best)) rfl (fun ae => ?_) (fun ae => ?_)
     ·
      have a8 : aa < best := by have q_ := of_decide_eq_true ae; omega
      refine WCt rfl ?_
      refine WCg (WLq 2 [(5, .int .u64 aa), (37, .int .u64 aa)] ?_)
      refine WLd rfl ?_
      refine QXb ?_
      refine QXn (ai _ _ ?_)
      refine WCg (WLq 2 [(16, .int .i64 (IntKind.i64.wrap ((j : Int) + 1))), (15, .int .i64 (j : Int))] ?_)
      refine WLt (show (.int .i64 (IntKind.i64.wrap ((j : Int) + 1)) : Value) = .int .i64 ((j : Int) + 1) from by rw [wrap_in_i64 ((j : Int) + 1) (by omega) (by omega)]) ?_
      refine WLq 1 [(6, .int .i64 ((j : Int) + 1))] ?_
      refine WLd rfl ?_
      refine QXn ?_
      have aN := aj.pick [] [0] rfl rfl
      refine fun a_ ha_ => ah _ _ _ ?_ ⟨j + 1, aa, rfl, rfl, aN, ak, by omega, selB_yes hsb ab ar (by have z_ := ad; simp at z_; omega) (by have z_ := ae; simp at z_; omega) (by omega)⟩ a_ (ha_.weaken (sub_of ⟨rfl, rfl, rfl, rfl, rfl, trivial⟩))
      omega
     ·
      have a8 : best ≤ aa := by have q_ := of_decide_eq_false ae; omega
      refine WCf rfl (WC.skip ?_)
      refine QXb ?_
      refine QXn (ai _ _ ?_)
      refine WCg (WLq 2 [(16, .int .i64 (IntKind.i64.wrap ((j : Int) + 1))), (15, .int .i64 (j : Int))] ?_)
      refine WLt (show (.int .i64 (IntKind.i64.wrap ((j : Int) + 1)) : Value) = .int .i64 ((j : Int) + 1) from by rw [wrap_in_i64 ((j : Int) + 1) (by omega) (by omega)]) ?_
      refine WLq 1 [(6, .int .i64 ((j : Int) + 1))] ?_
      refine WLd rfl ?_
      refine QXn ?_
      have aO := aj.pick [] [0] rfl rfl
      refine fun a_ ha_ => ah _ _ _ ?_ ⟨j + 1, best, rfl, rfl, aO, ak, by omega, selB_no hsb ab (fun q_ => by have z_ := ae; simp at z_; omega)⟩ a_ (ha_.weaken (sub_of ⟨rfl, rfl, rfl, rfl, rfl, trivial⟩))
      omega
    ·
     have a7 : aa ≤ last := by have q_ := of_decide_eq_false ad; omega
     refine WLq 4 [(36, .bool false), (35, undef), (34, undef), (33, undef)] (WLd rfl (QXn (aq _ _ ?_)))
     refine WCf rfl (WC.skip ?_)
     refine QXb ?_
     refine QXn (ai _ _ ?_)
     refine WCg (WLq 2 [(16, .int .i64 (IntKind.i64.wrap ((j : Int) + 1))), (15, .int .i64 (j : Int))] ?_)
     refine WLt (show (.int .i64 (IntKind.i64.wrap ((j : Int) + 1)) : Value) = .int .i64 ((j : Int) + 1) from by rw [wrap_in_i64 ((j : Int) + 1) (by omega) (by omega)]) ?_
     refine WLq 1 [(6, .int .i64 ((j : Int) + 1))] ?_
     refine WLd rfl ?_
     refine QXn ?_
     have aP := aj.pick [] [0] rfl rfl
     refine fun a_ ha_ => ah _ _ _ ?_ ⟨j + 1, best, rfl, rfl, aP, ak, by omega, selB_no hsb ab (fun q_ => by have z_ := ad; simp at z_; omega)⟩ a_ (ha_.weaken (sub_of ⟨rfl, rfl, rfl, rfl, rfl, trivial⟩))
     omega
   ·
    refine WLq 9 [(36, .bool false), (35, undef), (34, undef), (33, undef), (32, .bool false), (31, .bool false), (30, undef), (29, undef), (28, undef)] (WLd rfl (QXn (aq _ _ ?_)))
    refine WCf rfl (WC.skip ?_)
    refine QXb ?_
    refine QXn (ai _ _ ?_)
    refine WCg (WLq 2 [(16, .int .i64 (IntKind.i64.wrap ((j : Int) + 1))), (15, .int .i64 (j : Int))] ?_)
    refine WLt (show (.int .i64 (IntKind.i64.wrap ((j : Int) + 1)) : Value) = .int .i64 ((j : Int) + 1) from by rw [wrap_in_i64 ((j : Int) + 1) (by omega) (by omega)]) ?_
    refine WLq 1 [(6, .int .i64 ((j : Int) + 1))] ?_
    refine WLd rfl ?_
    refine QXn ?_
    have aQ := aj.pick [] [0] rfl rfl
    refine fun a_ ha_ => ah _ _ _ ?_ ⟨j + 1, best, rfl, rfl, aQ, ak, by omega, selB_no hsb ab (fun q_ => by rw [ar] at q_; cases q_.1)⟩ a_ (ha_.weaken (sub_of ⟨rfl, rfl, rfl, rfl, rfl, trivial⟩))
    omega
  ·
   have a6 : (xs.length : Int) ≤ (j : Int) := by have q_ := of_decide_eq_false ap; omega
   refine WCf rfl ?_
   refine WC.exit ?_
   refine QXe ?_
   refine QXe ?_
   refine QX.block_hit ?_
   refine QXn (av _ _ ?_)
   refine WCs (fun bq aC => ?_)
   refine WCs (fun br aD => ?_)
   refine WCg (WLq 2 [(39, .bool (best == 1099511627776)), (38, .int .u64 best)] (WLd rfl (QXn (aD _ _ ?_))))
   refine WCa 39 (best == 1099511627776) rfl (fun af => ?_) (fun af => ?_)
   ·
    have a9 : best = 1099511627776 := by simpa using af
    refine WCt rfl ?_
    refine WCs (fun bs aE => ?_)
    refine WCg (WLq 2 [(2, .slice A5 n5 c5), (40, .slice A5 n5 c5)] (WLd rfl (QXn (aE _ _ ?_))))
    refine WC.ret ?_
    refine QXr ?_
    refine QXk ?_
    refine QXr ?_
    refine QXk ?_
    refine QXr ?_
    refine (hret _ _ _ rfl ?_).1
    clear hN hret hret' aE aD aC ay ax aw av au an am hK8 hK6 hK4 hK2
    have hend_ := sel_end hsel hsb (by omega) ag (by have z_ := af; simpa using z_)
    have hea_ := ann_short hend_ (by omega)
    have ho_ := row_m30
    have hnl_ : (annV xs).length = n5 := by rw [← hea_, List.length_take]; omega
    exact ⟨_, rfl, ac.fr, own_base (show World.ownsRow _ 0 44 1 _ (annV xs).length ((annV xs).flatMap (Go.Tw.encI .u32)) from by rw [hnl_, ← hea_]; exact ho_) (ac.geF 0 rfl)⟩
   ·
    have a9 : ¬ (best = 1099511627776) := by simpa using af
    refine WCf rfl (WC.skip (QXn (aC _ _ ?_)))
    refine WCs (fun bt aR => ?_)
    refine WCg ?_
    have hne_ : best ≠ 1099511627776 := by have z_ := af; simpa using z_
    have hstep_ := sel_step hsel hsb (by omega) hne_
    obtain ⟨hs0_, hs1_⟩ := hstep_.2.sp
    refine WLq 3 [(43, .int .u32 (IntKind.u32.wrap (best))), (42, .int .u64 best), (41, .slice A5 n5 c5)] ?_
    refine WLt (show (.int .u32 (IntKind.u32.wrap (best)) : Value) = .int .u32 best from by rw [wrap_in_u32 _ (by omega) (by omega)]) ?_
    refine WL.newM ac (fun b => .slice (some ⟨b, 0, none⟩) 1 1) (.cells #[.int .u32 best] 44) 44 (fun _ => by kernel_rfl) (fun a2 bu ba aS aF => ?_)
    have aT := own_fr row_m30 aS (by simp)
    obtain ⟨bv, bw, aU, aV, bb, aW, aX, aY⟩ := app_run Try.prog aF 0 (v := .slice A5 n5 c5) rfl 33 33 44 1 4 n5 1 1 (some ⟨a2, 0, none⟩) rfl aT [.int .u32 best] rfl (srcOk.blk 1 (aF.get 0 rfl)) rfl (by simp only [maxLen]; omega) (by omega)
    have aG := own_snoc (enc := (Go.Tw.encI .u32)) (ys := ((dV xs).take i)) best aV
    obtain ⟨aZ, a0, rfl, a3⟩ := own_form aG
    refine WL.sem (Builtin.append_ #[33, 33] 33 #[.slice A5 n5 c5, .slice (some ⟨a2, 0, none⟩) 1 1]) 45 (.slice aZ (n5 + 1) a0) (by kernel_rfl) aU ?_
    refine WLq 1 [(3, .slice aZ (n5 + 1) a0)] (WLd rfl (QXn (aR _ _ ?_)))
    refine WCg (WLq 2 [(4, .int .u64 best), (46, .int .u64 best)] ?_)
    refine WLd rfl ?_
    refine QXb ?_
    refine QXn ?_
    have a1 := aW.pick [] [0] rfl rfl
    refine fun a_ ha_ => aJ _ _ _ ?_ ⟨i + 1, best, aZ, n5 + 1, a0, rfl, rfl, a1, (by rw [take_snocI hstep_.1]; exact aG), by omega, hstep_.2⟩ a_ (ha_.weaken (sub_of ⟨rfl, rfl, rfl, trivial⟩))
    omega
 ·
  have a4 : (39 : Int) ≤ (n5 : Int) := by have q_ := of_decide_eq_false ao; omega
  refine WCf rfl ?_
  refine WC.exit ?_
  refine QXe ?_
  refine QXe ?_
  refine QX.block_hit ?_
  refine QXn (hK8 _ _ ?_)
  refine WCs (fun bx aH => ?_)
  refine WCg (WLq 2 [(2, .slice A5 n5 c5), (47, .slice A5 n5 c5)] (WLd rfl (QXn (aH _ _ ?_))))
  refine WC.ret ?_
  refine (hret _ _ _ rfl ?_).1
  clear hN hret hret' aH an am hK8 hK6 hK4 hK2
  have aI : i = 39 := by omega
  have hea_ := ann_full (X := xs) aI
  have ho_ := hrow
  have hnl_ : (annV xs).length = n5 := by rw [← hea_, List.length_take]; omega
  exact ⟨_, rfl, al.fr, own_base (show World.ownsRow _ 0 44 1 _ (annV xs).length ((annV xs).flatMap (Go.Tw.encI .u32)) from by rw [hnl_, ← hea_]; exact ho_) (al.geF 0 rfl)⟩

theorem RSorted_n (A : Option Addr) (n c : Nat) (xs : List Int) (hn : xs.length = n) (w : World) (hr : Rd w 1 (Go.Tw.encI .u32) A xs) (hlen : n ≤ 1099511627776) (hx32 : ∀ x ∈ xs, 0 ≤ x ∧ x ≤ 4294967295) : Calls Try.prog 25 #[.slice A n c] w fun e w' => ∃ v, e = .returned v ∧ Fr w w' [] ∧ w'.ownsRow w.heap.size 44 1 v (annV xs).length ((annV xs).flatMap (Go.Tw.encI .u32)) := by subst hn; exact RSorted_ct A c xs w hr hlen hx32
end Go.Proofs.Ytmahghppojbeoaa
