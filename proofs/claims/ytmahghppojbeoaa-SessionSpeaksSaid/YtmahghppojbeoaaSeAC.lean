/- Contracts of functions of the program, each proved by a walk through its code; conditions stand in the statements. -/
import Derived.Test.YtmahghppojbeoaaSeAB
namespace Go.Proofs.Ytmahghppojbeoaa
set_option linter.unusedSimpArgs false
set_option linter.unusedVariables false
set_option linter.unusedSectionVars false
open Go Go.RowKit Go.Tw
set_option linter.unusedVariables false
set_option maxRecDepth 20000
open Go.Sort
/-- a block that is known and three footprints become one footprint -/
theorem Cx.fuse3 {w0 w : World} {F0 : List Nat} {M : List (Nat × Obj)} {A B C : List Nat} (h : Cx w0 F0 w M [A, B, C]) : Cx w0 F0 w M [A ++ (B ++ C)] := by
  have mem : ∀ x, x ∈ A ++ (B ++ C) → ∃ F ∈ [A, B, C], x ∈ F := fun x hx => by
    simp only [List.mem_append] at hx
    rcases hx with hx | hx | hx
    · exact ⟨A, by simp, hx⟩
    · exact ⟨B, by simp, hx⟩
    · exact ⟨C, by simp, hx⟩
  refine ⟨h.fr, h.has, h.nodup, by simp, fun F hF p hp hx => ?_, fun F hF x hx => ?_, h.ownM, fun F hF x hx => ?_⟩ <;> rw [List.mem_singleton] at hF <;> subst hF <;> obtain ⟨G, hG, hx⟩ := mem _ hx
  · exact h.apart G hG p hp hx
  · exact h.bound G hG x hx
  · exact h.ownF G hG x hx
theorem Cx.shut3 {w0 w : World} {F0 : List Nat} {p : Nat} {o : Obj} {M : List (Nat × Obj)} {A B C : List Nat} (h : Cx w0 F0 w ((p, o) :: M) [A, B, C]) : Cx w0 F0 w M [p :: (A ++ (B ++ C))] := Cx.fuse3 (A := p :: A) (h.toF1 0 0 rfl rfl)
/-- tracked blocks and footprints in another order -/
theorem Cx.pickX {w0 w : World} {F0 : List Nat} {M : List (Nat × Obj)} {Fs : List (List Nat)} (h : Cx w0 F0 w M Fs) (is js : List Nat) (hn : is.Nodup) (hj : js.Nodup) {M' : List (Nat × Obj)} {Fs' : List (List Nat)} (hM : is.filterMap (fun i => M[i]?) = M') (hF : js.filterMap (fun i => Fs[i]?) = Fs') : Cx w0 F0 w M' Fs' := by
  have h2 : Cx w0 F0 w M' Fs := by
    have z := h.pickM is (List.range Fs.length) hn hM rfl
    have e : ∀ l : List (List Nat), Tw.pick (List.range l.length) l = l := fun l => by
      induction l with
      | nil => rfl
      | cons a r ih =>
        rw [List.length_cons, List.range_succ_eq_map]
        simp only [Tw.pick, List.map_map]
        refine congrArg (List.cons a) ?_
        refine Eq.trans (congrArg (fun q => Tw.pick q r) ?_) ih
        exact (List.map_congr_left fun x _ => by simp).trans (List.map_id _)
    rw [e] at z; exact z
  subst hF
  have hmem : ∀ F ∈ js.filterMap (fun i => Fs[i]?), F ∈ Fs := by
    intro p hp
    obtain ⟨i, _, hi⟩ := List.mem_filterMap.1 hp
    exact List.mem_of_getElem? hi
  refine ⟨h2.fr, h2.has, h2.nodup, ?_, fun F hF p hp => h2.apart F (hmem F hF) p hp, fun F hF => h2.bound F (hmem F hF), h2.ownM, fun F hF => h2.ownF F (hmem F hF)⟩
  rw [List.pairwise_filterMap]
  refine List.Pairwise.imp ?_ hj
  intro i j hij a ha b hb
  exact h2.disj i j ha hb hij
theorem sp_tell {T : TypeId} {w0 w : World} {F0 : List Nat} {M : List (Nat × Obj)} {p : Nat} {b : Int} {o : Bool} {Av Am : Option Addr} {cv cm n m : Nat} {vs : List Int} {ms : List Mg} {R : List Nat} {V : List (Int × List Int)}
    (hC : Cx w0 F0 w ((p, .cells #[.int .i64 b, .bool o, .slice Av n cv, .slice Am m cm] T (0, 0)) :: M) [blk (.slice Av n cv), blk (.slice Am m cm), R])
    (hv : w.ownsRow 0 44 1 (.slice Av n cv) n (vs.flatMap (Go.Tw.encI .u32))) (hs : w.ownsRow 0 40 3 (.slice Am m cm) m (ms.flatMap cellsM)) (hg : mgsIn w R ms) (hV : ms.map mgV = V) :
    ∃ F', spAt T w F' p b o vs V ∧ Cx w0 F0 w M [F'] := by
  have hn : vs.length = n := own_count (Go.Tw.encI_len _) (by decide) hv
  have hm : ms.length = m := own_count cellsM_len (by decide) hs
  subst hn hm
  exact ⟨_, ⟨Av, cv, Am, cm, ms, R, hC.get 0 rfl, hv, hs, hg, hV, rfl, hC.notin 0 0 rfl rfl, hC.notin 1 0 rfl rfl, hC.notin 2 0 rfl rfl, hC.disj 0 1 rfl rfl (by decide), hC.disj 0 2 rfl rfl (by decide), hC.disj 1 2 rfl rfl (by decide)⟩, Cx.shut3 hC⟩
/-! ### the document's rising list of vips is the program's -/
theorem cptN_spec {xs : List Int} (hs : xs.Pairwise (· ≤ ·)) : ∀ j, j ≤ xs.length → (cptN xs j).Pairwise (· < ·) ∧ ∀ x, x ∈ cptN xs j ↔ x ∈ xs.take j
  | 0, _ => by simp [cptN]
  | j + 1, hj => by
    have hlt : j < xs.length := by omega
    obtain ⟨h1, h2⟩ := cptN_spec hs j (by omega)
    have ej : xs[j]? = some xs[j] := List.getElem?_eq_getElem hlt
    unfold cptN
    split
    · rename_i hq
      refine ⟨h1, fun x => ?_⟩
      rw [h2, List.take_succ_eq_append_getElem hlt, List.mem_append, List.mem_singleton]
      refine ⟨.inl, fun h => h.elim id fun e => ?_⟩
      rw [ej] at hq
      subst e
      have h3 : xs[j] ∈ xs.take j := List.mem_iff_getElem?.2 ⟨j - 1, by rw [List.getElem?_take, if_pos (by omega)]; exact hq.2.symm⟩
      exact h3
    · rename_i hq
      rw [ej, Option.toList_some]
      refine ⟨?_, fun x => by rw [List.mem_append, h2, List.take_succ_eq_append_getElem hlt, List.mem_append]⟩
      rw [List.pairwise_append]
      refine ⟨h1, by simp, fun a ha c hc => ?_⟩
      rw [List.mem_singleton] at hc; subst hc
      obtain ⟨k, hk⟩ := List.mem_iff_getElem?.1 ((h2 a).1 ha)
      rw [List.getElem?_take] at hk
      split at hk
      · rename_i hkj
        obtain ⟨hk2, rfl⟩ := List.getElem?_eq_some_iff.1 hk
        have h3 : xs[k] ≤ xs[j - 1] := by
          by_cases e : k = j - 1
          · subst e; exact Int.le_refl _
          · exact List.pairwise_iff_getElem.1 hs k (j - 1) hk2 (by omega) (by omega)
        have h4 : xs[j - 1] ≤ xs[j] := List.pairwise_iff_getElem.1 hs (j - 1) j (by omega) hlt (by omega)
        have h5 : xs[j] ≠ xs[j - 1] := fun e => hq ⟨by omega, by rw [ej, List.getElem?_eq_getElem (by omega : j - 1 < xs.length), e]⟩
        omega
      · cases hk
theorem sortU_le (X : List Int) : (sortU X).Pairwise (· ≤ ·) := by
  have h := List.pairwise_mergeSort (le := fun x y : Int => decide (x ≤ y)) (fun a b c h1 h2 => by simp at *; omega) (fun a b => by simp; omega) X
  exact h.imp (fun h => by simpa using h)
def dV (X : List Int) : List Int := cpt (outV (sortU X))
theorem dV_lt (X : List Int) : (dV X).Pairwise (· < ·) := (cptN_spec ((sortU_le X).filter _) _ (Nat.le_refl _)).1
theorem dV_mem {X : List Int} {x : Int} : x ∈ dV X ↔ x ∈ X ∧ isVip x = true := by
  unfold dV cpt
  have h := (cptN_spec (xs := outV (sortU X)) ((sortU_le X).filter _) _ (Nat.le_refl _)).2 x
  rw [h, List.take_length]
  unfold outV
  rw [List.mem_filter, sortU_mem]
  unfold nVip
  simp
structure selL (X : List Int) (i : Nat) (last : Int) : Prop where
  le : i ≤ (dV X).length
  pre : ∀ k x, k < i → (dV X)[k]? = some x → x ≤ last
  post : ∀ k x, i ≤ k → (dV X)[k]? = some x → last < x
  sp : 0 ≤ last ∧ last ≤ 4294967295
theorem selL_0 (X : List Int) : selL X 0 0 := by
  refine ⟨Nat.zero_le _, fun k x h => absurd h (Nat.not_lt_zero _), fun k x _ h => ?_, by decide⟩
  have h2 := (dV_mem.1 (List.mem_of_getElem? h)).2
  unfold isVip at h2
  simp only [decide_eq_true_eq] at h2
  omega
structure selB (X : List Int) (last : Int) (j : Nat) (best : Int) : Prop where
  alt : best = 1099511627776 ∨ (best ∈ X ∧ isVip best = true ∧ last < best ∧ best ≤ 4294967295)
  all : ∀ k x, k < j → X[k]? = some x → isVip x = true → last < x → best ≤ x
theorem selB_0 (X : List Int) (last : Int) : selB X last 0 1099511627776 := ⟨.inl rfl, fun _ _ h => absurd h (Nat.not_lt_zero _)⟩
theorem selB_sp {X : List Int} {last best : Int} {j : Nat} (h : selB X last j best) (h0 : 0 ≤ last) : 0 ≤ best ∧ best ≤ 1099511627776 := by
  rcases h.alt with h | h <;> omega
theorem selB_no {X : List Int} {last best x : Int} {j : Nat} (h : selB X last j best) (hx : X[j]? = some x) (hn : ¬ (isVip x = true ∧ last < x ∧ x < best)) : selB X last (j + 1) best :=
  ⟨h.alt, fun k y hk hy h1 h2 => by
    by_cases e : k = j
    · subst e; rw [hx] at hy; cases hy
      exact Int.not_lt.1 fun h3 => hn ⟨h1, h2, h3⟩
    · exact h.all k y (by omega) hy h1 h2⟩
theorem selB_yes {X : List Int} {last best x : Int} {j : Nat} (h : selB X last j best) (hx : X[j]? = some x) (h1 : isVip x = true) (h2 : last < x) (h3 : x < best) (hs : x ≤ 4294967295) : selB X last (j + 1) x :=
  ⟨.inr ⟨List.mem_of_getElem? hx, h1, h2, hs⟩, fun k y hk hy h4 h5 => by
    by_cases e : k = j
    · subst e; rw [hx] at hy; cases hy; exact Int.le_refl _
    · have := h.all k y (by omega) hy h4 h5; omega⟩
theorem sel_end {X : List Int} {i j : Nat} {last best : Int} (h : selL X i last) (hb : selB X last j best) (hj : ¬ j < X.length) (h32 : ∀ x ∈ X, 0 ≤ x ∧ x ≤ 4294967295) (he : best = 1099511627776) : (dV X).length = i := by
  subst he
  by_cases e : i < (dV X).length
  · have h1 := h.post i _ (Nat.le_refl _) (List.getElem?_eq_getElem e)
    obtain ⟨h2, h3⟩ := dV_mem.1 (List.getElem_mem e)
    obtain ⟨k, hk⟩ := List.mem_iff_getElem?.1 h2
    have h4 := hb.all k _ (by have := (List.getElem?_eq_some_iff.1 hk).1; omega) hk h3 h1
    have := (h32 _ h2).2
    omega
  · have := h.le; omega
theorem sel_step {X : List Int} {i j : Nat} {last best : Int} (h : selL X i last) (hb : selB X last j best) (hj : ¬ j < X.length) (he : best ≠ 1099511627776) : (dV X)[i]? = some best ∧ selL X (i + 1) best := by
  obtain ⟨h1, h2, h3, h4⟩ := hb.alt.resolve_left he
  obtain ⟨m, hm⟩ := List.mem_iff_getElem?.1 (dV_mem.2 ⟨h1, h2⟩)
  obtain ⟨hml, hme⟩ := List.getElem?_eq_some_iff.1 hm
  have hP := List.pairwise_iff_getElem.1 (dV_lt X)
  have him : i ≤ m := Nat.not_lt.1 fun q => by have := h.pre m _ q hm; omega
  have hil : i < (dV X).length := by omega
  have h5 := h.post i _ (Nat.le_refl _) (List.getElem?_eq_getElem hil)
  obtain ⟨h6, h7⟩ := dV_mem.1 (List.getElem_mem hil)
  obtain ⟨k, hk⟩ := List.mem_iff_getElem?.1 h6
  have h8 := hb.all k _ (by have := (List.getElem?_eq_some_iff.1 hk).1; omega) hk h7 h5
  have e : i = m := by
    by_cases e : i = m
    · exact e
    · have := hP i m hil hml (by omega); omega
  subst e
  refine ⟨hm, ⟨by omega, fun k x hk hx => ?_, fun k x hk hx => ?_, by have := h.sp; omega⟩⟩
  · obtain ⟨hkl, rfl⟩ := List.getElem?_eq_some_iff.1 hx
    by_cases e : k = i
    · subst e; omega
    · have := hP k i hkl hml (by omega); omega
  · obtain ⟨hkl, rfl⟩ := List.getElem?_eq_some_iff.1 hx
    have := hP i k hml hkl (by omega); omega
theorem ann_full {X : List Int} {i : Nat} (h : i = 39) : (dV X).take i = annV X := by subst h; rfl
theorem ann_short {X : List Int} {i : Nat} (h : (dV X).length = i) (hi : i ≤ 39) : (dV X).take i = annV X := by
  show (dV X).take i = (dV X).take 39
  rw [List.take_of_length_le (by omega), List.take_of_length_le (by omega)]
theorem Byte0_ct (a : Int) (w : World) (h0 : 0 ≤ a) (h1 : a ≤ 4294967295) : Calls Try.prog 58 #[.int .u32 a, .int .i64 0] w fun e w' => e = .returned (.int .i64 (a / 16777216)) ∧ Fr w w' [] := by
 refine enterD (n := 13) Try.func58 rfl rfl (Nat.le_of_ble_eq_true rfl) ?_
 intro Q0 hN hret hret'
 have hC := Cx.start w
 refine WCs (fun K1 hK2 => ?_)
 refine WCg (WLq 1 [(4, .int .i64 0)] (WLd rfl (QXn (hK2 _ _ ?_))))
 refine WCs (fun K3 hK4 => ?_)
 refine WCg (WLq 3 [(7, .int .i64 (IntKind.i64.wrap (8 * 0))), (6, .int .i64 0), (5, .int .u32 a)] ?_)
 refine WLt (show (.int .i64 (IntKind.i64.wrap (8 * 0)) : Value) = .int .i64 0 from by rw [wrap_in_i64 _ (by omega) (by omega)]; rfl) ?_
 refine WLq 1 [(8, .int .i64 (IntKind.i64.wrap (24 - 0)))] ?_
 refine WLt (show (.int .i64 (IntKind.i64.wrap (24 - 0)) : Value) = .int .i64 24 from by rw [wrap_in_i64 _ (by omega) (by omega)]; rfl) ?_
 refine WLq 1 [(9, .int .u64 (IntKind.u64.wrap (24)))] ?_
 refine WLt (show (.int .u64 (IntKind.u64.wrap (24)) : Value) = .int .u64 24 from by rw [wrap_in_u64 _ (by omega) (by omega)]) ?_
 refine WLq 1 [(10, .int .u32 ((a : Int).fdiv (2 ^ 24)))] ?_
 refine WLt (show (.int .u32 ((a : Int).fdiv (2 ^ 24)) : Value) = .int .u32 ((a : Int) / 16777216) from by rw [Int.fdiv_eq_ediv_of_nonneg (a : Int) (by decide)]; rfl) ?_
 refine WLq 1 [(11, .int .i64 (IntKind.i64.wrap ((a : Int) / 16777216)))] ?_
 refine WLt (show (.int .i64 (IntKind.i64.wrap ((a : Int) / 16777216)) : Value) = .int .i64 ((a : Int) / 16777216) from by rw [wrap_in_i64 ((a : Int) / 16777216) (by omega) (by omega)]) ?_
 refine WLq 1 [(12, .int .i64 (Int.tmod ((a : Int) / 16777216) 256))] ?_
 refine WLt (show (.int .i64 (Int.tmod ((a : Int) / 16777216) 256) : Value) = .int .i64 (a / 16777216) from by rw [Int.tmod_eq_emod_of_nonneg (by omega)]; congr 1; omega) ?_
 refine WLq 1 [(4, .int .i64 (a / 16777216))] (WLd rfl (QXn (hK4 _ _ ?_)))
 refine WC.ret ?_
 refine (hret _ _ _ rfl ?_).1
 exact ⟨rfl, hC.fr⟩

theorem IsVip2_ct (a : Int) (w : World) (h0 : 0 ≤ a) (h1 : a ≤ 4294967295) : Calls Try.prog 47 #[.int .u32 a] w fun e w' => e = .returned (.bool (isVip a)) ∧ Fr w w' [] := by
 refine enterD (n := 20) Try.func47 rfl rfl (Nat.le_of_ble_eq_true rfl) ?_
 intro Q0 hN hret hret'
 have hC := Cx.start w
 refine WCs (fun K1 hK2 => ?_)
 refine WCg (WLq 1 [(2, .bool false)] (WLd rfl (QXn (hK2 _ _ ?_))))
 refine WCs (fun K3 hK4 => ?_)
 refine WCg (WLq 1 [(4, .int .u32 a)] ?_)
 refine WLc rfl rfl rfl rfl rfl (by kernel_rfl) (Byte0_ct a w (by omega) (by omega)) ?_
 rintro _ w6 ⟨rfl, hF5⟩
 refine ⟨_, rfl, ?_⟩
 have hC7 := hC.call hF5
 refine WLq 1 [(3, .int .i64 (a / 16777216))] (WLd rfl (QXn (hK4 _ _ ?_)))
 refine WCs (fun K8 hK9 => ?_)
 refine WCg (WLq 3 [(8, .bool (decide ((a / 16777216) ≥ 1))), (7, .bool (decide ((a / 16777216) ≥ 1))), (6, .int .i64 (a / 16777216))] ?_)
 refine WLa 8 (decide ((a / 16777216) ≥ 1)) rfl (fun aa => ?_) (fun aa => ?_)
 ·
  have ad : (1 : Int) ≤ (a / 16777216) := by have q_ := of_decide_eq_true aa; omega
  refine WLq 4 [(12, .bool (decide ((a / 16777216) ≤ 223))), (11, .bool (decide ((a / 16777216) ≤ 223))), (10, .bool (decide ((a / 16777216) ≤ 223))), (9, .int .i64 (a / 16777216))] ?_
  refine WLa 12 (decide ((a / 16777216) ≤ 223)) rfl (fun ab => ?_) (fun ab => ?_)
  ·
   have ae : (a / 16777216) ≤ 223 := by have q_ := of_decide_eq_true ab; omega
   refine WLq 4 [(16, .bool ((a / 16777216) != 10)), (15, .bool ((a / 16777216) != 10)), (14, .bool ((a / 16777216) != 10)), (13, .int .i64 (a / 16777216))] ?_
   refine WLa 16 ((a / 16777216) != 10) rfl (fun ac => ?_) (fun ac => ?_)
   ·
    have af : (a / 16777216) ≠ 10 := by simpa using ac
    refine WLq 4 [(2, .bool ((a / 16777216) != 127)), (19, .bool ((a / 16777216) != 127)), (18, .bool ((a / 16777216) != 127)), (17, .int .i64 (a / 16777216))] (WLd rfl (QXn (hK9 _ _ ?_)))
    refine WC.ret ?_
    refine (hret _ _ _ rfl ?_).1
    clear hN hret hret' hK9 hK4 hK2
    exact ⟨by simp [shut, isVip]; grind, hC7.fr⟩
   ·
    have af : (a / 16777216) = 10 := by simpa using ac
    refine WLq 4 [(2, .bool false), (19, .bool false), (18, undef), (17, undef)] (WLd rfl (QXn (hK9 _ _ ?_)))
    refine WC.ret ?_
    refine (hret _ _ _ rfl ?_).1
    clear hN hret hret' hK9 hK4 hK2
    exact ⟨by simp [shut, isVip]; grind, hC7.fr⟩
  ·
   have ae : (223 : Int) < (a / 16777216) := by have q_ := of_decide_eq_false ab; omega
   refine WLq 8 [(2, .bool false), (19, .bool false), (18, undef), (17, undef), (16, .bool false), (15, .bool false), (14, undef), (13, undef)] (WLd rfl (QXn (hK9 _ _ ?_)))
   refine WC.ret ?_
   refine (hret _ _ _ rfl ?_).1
   clear hN hret hret' hK9 hK4 hK2
   exact ⟨by simp [shut, isVip]; grind, hC7.fr⟩
 ·
  have ad : (a / 16777216) < 1 := by have q_ := of_decide_eq_false aa; omega
  refine WLq 12 [(2, .bool false), (19, .bool false), (18, undef), (17, undef), (16, .bool false), (15, .bool false), (14, undef), (13, undef), (12, .bool false), (11, .bool false), (10, undef), (9, undef)] (WLd rfl (QXn (hK9 _ _ ?_)))
  refine WC.ret ?_
  refine (hret _ _ _ rfl ?_).1
  clear hN hret hret' hK9 hK4 hK2
  exact ⟨by simp [shut, isVip]; grind, hC7.fr⟩

theorem RMux_ct (n : Int) (w : World) : Calls Try.prog 10 #[.int .i64 n] w fun e w' => e = .returned (.bool (muxB n)) ∧ Fr w w' [] := by
 refine enterD (n := 9) Try.func10 rfl rfl (Nat.le_of_ble_eq_true rfl) ?_
 intro Q0 hN hret hret'
 have hC := Cx.start w
 refine WCs (fun K1 hK2 => ?_)
 refine WCg (WLq 1 [(2, .bool false)] (WLd rfl (QXn (hK2 _ _ ?_))))
 refine WCs (fun K3 hK4 => ?_)
 refine WCg (WLq 3 [(5, .bool (decide (n ≥ 32))), (4, .bool (decide (n ≥ 32))), (3, .int .i64 n)] ?_)
 refine WLa 5 (decide (n ≥ 32)) rfl (fun t5b => ?_) (fun t5b => ?_)
 ·
  have t5 : (32 : Int) ≤ n := by have q_ := of_decide_eq_true t5b; omega
  refine WLq 4 [(2, .bool (decide (n ≤ 39))), (8, .bool (decide (n ≤ 39))), (7, .bool (decide (n ≤ 39))), (6, .int .i64 n)] (WLd rfl (QXn (hK4 _ _ ?_)))
  refine WC.ret ?_
  refine (hret _ _ _ rfl ?_).1
  clear hN hret hret' hK4 hK2
  have hg_ : ((decide (n ≤ 39)) : Bool) = muxB n := by unfold muxB; first | rfl | (rw [Bool.eq_iff_iff]; simp; omega) | (simp; omega)
  exact ⟨congrArg (fun b_ => Ending.returned (Value.bool b_)) hg_, hC.fr⟩
 ·
  have t5 : n < 32 := by have q_ := of_decide_eq_false t5b; omega
  refine WLq 4 [(2, .bool false), (8, .bool false), (7, undef), (6, undef)] (WLd rfl (QXn (hK4 _ _ ?_)))
  refine WC.ret ?_
  refine (hret _ _ _ rfl ?_).1
  clear hN hret hret' hK4 hK2
  have hg_ : (false : Bool) = muxB n := by unfold muxB; first | rfl | (rw [Bool.eq_iff_iff]; simp; omega) | (simp; omega)
  exact ⟨congrArg (fun b_ => Ending.returned (Value.bool b_)) hg_, hC.fr⟩

theorem Rtime_ct (n : Int) (w : World) : Calls Try.prog 46 #[.int .i64 n] w fun e w' => e = .returned (.bool (timB n)) ∧ Fr w w' [] := by
 refine enterD (n := 9) Try.func46 rfl rfl (Nat.le_of_ble_eq_true rfl) ?_
 intro Q0 hN hret hret'
 have hC := Cx.start w
 refine WCs (fun K1 hK2 => ?_)
 refine WCg (WLq 1 [(2, .bool false)] (WLd rfl (QXn (hK2 _ _ ?_))))
 refine WCs (fun K3 hK4 => ?_)
 refine WCg (WLq 3 [(5, .bool (decide (n ≥ 0))), (4, .bool (decide (n ≥ 0))), (3, .int .i64 n)] ?_)
 refine WLa 5 (decide (n ≥ 0)) rfl (fun t5b => ?_) (fun t5b => ?_)
 ·
  have t5 : (0 : Int) ≤ n := by have q_ := of_decide_eq_true t5b; omega
  refine WLq 4 [(2, .bool (decide (n ≤ 1099511627776))), (8, .bool (decide (n ≤ 1099511627776))), (7, .bool (decide (n ≤ 1099511627776))), (6, .int .i64 n)] (WLd rfl (QXn (hK4 _ _ ?_)))
  refine WC.ret ?_
  refine (hret _ _ _ rfl ?_).1
  clear hN hret hret' hK4 hK2
  have hg_ : ((decide (n ≤ 1099511627776)) : Bool) = timB n := by unfold timB; first | rfl | (rw [Bool.eq_iff_iff]; simp; omega) | (simp; omega)
  exact ⟨congrArg (fun b_ => Ending.returned (Value.bool b_)) hg_, hC.fr⟩
 ·
  have t5 : n < 0 := by have q_ := of_decide_eq_false t5b; omega
  refine WLq 4 [(2, .bool false), (8, .bool false), (7, undef), (6, undef)] (WLd rfl (QXn (hK4 _ _ ?_)))
  refine WC.ret ?_
  refine (hret _ _ _ rfl ?_).1
  clear hN hret hret' hK4 hK2
  have hg_ : (false : Bool) = timB n := by unfold timB; first | rfl | (rw [Bool.eq_iff_iff]; simp; omega) | (simp; omega)
  exact ⟨congrArg (fun b_ => Ending.returned (Value.bool b_)) hg_, hC.fr⟩

set_option maxHeartbeats 1000000 in
theorem RSorted_ct (A : Option Addr) (c : Nat) (xs : List Int) (w : World) (hr : Rd w 1 (Go.Tw.encI .u32) A xs) (hlen : xs.length ≤ 1099511627776) (ag : ∀ x ∈ xs, 0 ≤ x ∧ x ≤ 4294967295) : Calls Try.prog 25 #[.slice A xs.length c] w fun e w' => ∃ v, e = .returned v ∧ Fr w w' [] ∧ w'.ownsRow w.heap.size 44 1 v (annV xs).length ((annV xs).flatMap (Go.Tw.encI .u32)) := by
 refine enterD (n := 48) Try.func25 rfl rfl (Nat.le_of_ble_eq_true rfl) ?_
 intro Q0 hN hret hret'
 have hC := Cx.start w
 refine WCs (fun K1 hK2 => ?_)
 refine WCg (WLq 1 [(2, .slice none 0 0)] (WLd rfl (QXn (hK2 _ _ ?_))))
 refine WCs (fun K3 hK4 => ?_)
 refine WCg (WLq 1 [(3, .slice none 0 0)] (WLd rfl (QXn (hK4 _ _ ?_))))
 refine WCs (fun K5 hK6 => ?_)
 refine WCg (WLq 1 [(4, .int .u64 0)] (WLd rfl (QXn (hK6 _ _ ?_))))
 refine WCs (fun K7 hK8 => ?_)
 refine WC.block ?_
 have hC9 := hC.addNil
 refine WC.loop (fun m_ E_ w_ => ∃ (i : Nat) (last : Int) (A5 : Option Addr) (n5 c5 : Nat), m_ = 39 - i ∧ E_ = [(0, .slice A xs.length c), (3, .slice A5 n5 c5), (4, .int .u64 last)] ∧ Cx w [] w_ [] [blk (.slice A5 n5 c5)] ∧ World.ownsRow w_ 0 44 1 (.slice A5 n5 c5) n5 (((dV xs).take i).flatMap (Go.Tw.encI .u32)) ∧ (i ≤ 39 ∧ selL xs i last)) ⟨_, _, ⟨0, 0, none, 0, 0, rfl, rfl, hC9, own_nil _ _ _ _, Nat.zero_le _, selL_0 xs⟩, sub_of ⟨rfl, rfl, rfl, trivial⟩⟩ (fun m13 E_ bc bd aJ aK => ?_)
 obtain ⟨i, last, A5, n5, c5, rfl, rfl, al, hrow, hi, hsel⟩ := aK
 have hcn_ := own_count (Go.Tw.encI_len _) (by decide) hrow
 obtain ⟨hl0_, hl1_⟩ := hsel.sp
 have hle_ := hsel.le
 rw [List.length_take, Nat.min_eq_left hle_] at hcn_
 refine WCs (fun be am => ?_)
 refine WCs (fun bf an => ?_)
 refine WCg (WLq 3 [(10, .bool (decide ((n5 : Int) < 39))), (9, .int .i64 (n5 : Int)), (8, .slice A5 n5 c5)] (WLd rfl (QXn (an _ _ ?_))))
 refine WCa 10 (decide ((n5 : Int) < 39)) rfl (fun ao => ?_) (fun ao => ?_)
 ·
  have a4 : (n5 : Int) < 39 := by have q_ := of_decide_eq_true ao; omega
  refine WCt rfl ?_
  refine WC.skip ?_
  refine QXn (am _ _ ?_)
  refine WC.block ?_
  refine WCs (fun bg au => ?_)
  refine WCg (WLq 1 [(5, .int .u64 1099511627776)] (WLd rfl (QXn (au _ _ ?_))))
  refine WCs (fun bh av => ?_)
  refine WCs (fun bi aw => ?_)
  refine WCg (WLq 1 [(6, .int .i64 0)] (WLd rfl (QXn (aw _ _ ?_))))
  refine WC.block ?_
  refine WC.loop (fun m_ E_ w_ => ∃ (j : Nat) (best : Int), m_ = xs.length - j ∧ E_ = [(0, .slice A xs.length c), (3, .slice A5 n5 c5), (4, .int .u64 last), (5, .int .u64 best), (6, .int .i64 (j : Int))] ∧ Cx w [] w_ [] [blk (.slice A5 n5 c5)] ∧ World.ownsRow w_ 0 44 1 (.slice A5 n5 c5) n5 (((dV xs).take i).flatMap (Go.Tw.encI .u32)) ∧ (j ≤ xs.length ∧ selB xs last j best)) ⟨_, _, ⟨0, 1099511627776, rfl, rfl, al, hrow, Nat.zero_le _, selB_0 xs last⟩, sub_of ⟨rfl, rfl, rfl, rfl, rfl, trivial⟩⟩ (fun m30 E_ a5 bj ah aL => ?_)
  obtain ⟨j, best, rfl, rfl, ac, row_m30, hj, hsb⟩ := aL
  obtain ⟨hb0_, hb1_⟩ := selB_sp hsb hl0_
  refine WCs (fun bk ax => ?_)
  refine WCs (fun bl ay => ?_)
  refine WCg (WLq 4 [(14, .bool (decide ((j : Int) < (xs.length : Int)))), (13, .int .i64 (xs.length : Int)), (12, .slice A xs.length c), (11, .int .i64 (j : Int))] (WLd rfl (QXn (ay _ _ ?_))))
  refine WCa 14 (decide ((j : Int) < (xs.length : Int))) rfl (fun ap => ?_) (fun ap => ?_)
  ·
   have a6 : (j : Int) < (xs.length : Int) := by have q_ := of_decide_eq_true ap; omega
   refine WCt rfl ?_
   refine WC.skip ?_
   refine QXn (ax _ _ ?_)
   refine WCs (fun bm ai => ?_)
   refine WC.block ?_
   refine WCs (fun bn aM => ?_)
   refine WCg (WLq 2 [(18, .int .i64 (j : Int)), (17, .slice A xs.length c)] ?_)
   obtain ⟨aa, ab⟩ := get_some (xs := xs) (i := j) (by omega)
   obtain ⟨b44, o46, az, aA⟩ := hr.at_ _ _ ab
   refine WLi A xs.length c 19 .i64 (j : Int) b44 o46 j 1 (by kernel_rfl) az (by omega) (by omega) (o46 + j) (by first | (simp; done) | omega) ?_
   refine WLo 44 (.pointer (some ⟨b44, o46 + j, none⟩)) (.int .u32 aa) 20 (run_load1 rfl (by simpa [Nat.add_assoc] using ac.fr.cell (aA 0 _ rfl) (by simp))) ?_
   obtain ⟨hx0_, hx1_⟩ := ag _ (List.mem_of_getElem? ab)
   refine WLq 1 [(21, .int .u64 (IntKind.u64.wrap (aa)))] ?_
   refine WLt (show (.int .u64 (IntKind.u64.wrap (aa)) : Value) = .int .u64 aa from by rw [wrap_in_u64 _ (by omega) (by omega)]) ?_
   refine WLq 1 [(7, .int .u64 aa)] (WLd rfl (QXn (aM _ _ ?_)))
   refine WCs (fun bo aq => ?_)
   refine WCg (WLq 2 [(23, .int .i64 (j : Int)), (22, .slice A xs.length c)] ?_)
   refine WLi A xs.length c 24 .i64 (j : Int) b44 o46 j 1 (by kernel_rfl) az (by omega) (by omega) (o46 + j) (by first | (simp; done) | omega) ?_
   refine WLo 44 (.pointer (some ⟨b44, o46 + j, none⟩)) (.int .u32 aa) 25 (run_load1 rfl (by simpa [Nat.add_assoc] using ac.fr.cell (aA 0 _ rfl) (by simp))) ?_
   refine WLc rfl rfl rfl rfl rfl (by kernel_rfl) (IsVip2_ct aa a5 (ag _ (List.mem_of_getElem? ab)).1 (ag _ (List.mem_of_getElem? ab)).2) ?_
   rintro _ bp ⟨rfl, aB⟩
   refine ⟨_, rfl, ?_⟩
   have aj := ac.call aB
   have ak := own_fr row_m30 aB (by simp)
   refine WLq 1 [(27, .bool (isVip aa))] ?_
   refine WLa 27 (isVip aa) rfl (fun ar => ?_) (fun ar => ?_)
   ·
    refine WLq 5 [(32, .bool (decide (aa > last))), (31, .bool (decide (aa > last))), (30, .bool (decide (aa > last))), (29, .int .u64 last), (28, .int .u64 aa)] ?_
    refine WLa 32 (decide (aa > last)) rfl (fun ad => ?_) (fun ad => ?_)
    ·
     have a7 : last < aa := by have q_ := of_decide_eq_true ad; omega
     refine WLq 4 [(36, .bool (decide (aa < best))), (35, .bool (decide (aa < best))), (34, .int .u64 best), (33, .int .u64 aa)] (WLd rfl (QXn (aq _ _ ?_)))
     refine WCa 36 (decide (aa < best)) rfl (fun ae => ?_) (fun ae => ?_)
     ·
      have a8 : aa < best := by have q_ := of_decide_eq_true ae; omega
      refine WCt rfl ?_
      refine WCg (WLq 2 [(5, .int .u64 aa), (37, .int .u64 aa)] ?_)
      refine WLd rfl ?_
      refine QXb ?_
      refine QXn (ai _ _ ?_)
      refine WCg (WLq 2 [(16, .int .i64 (IntKind.i64.wrap ((j : Int) + 1))), (15, .int .i64 (j : Int))] ?_)
      refine WLt (show (.int .i64 (IntKind.i64.wrap ((j : Int) + 1)) : Value) = .int .i64 ((j : Int) + 1) from by rw [wrap_in_i64 ((j : Int) + 1) (by omega) (by omega)]) ?_
      refine WLq 1 [(6, .int .i64 ((j : Int) + 1))] ?_
      refine WLd rfl ?_
      refine QXn ?_
      have aN := aj.pick [] [0] rfl rfl
      refine fun a_ ha_ => ah _ _ _ ?_ ⟨j + 1, aa, rfl, rfl, aN, ak, by omega, selB_yes hsb ab ar (by have z_ := ad; simp at z_; omega) (by have z_ := ae; simp at z_; omega) (by omega)⟩ a_ (ha_.weaken (sub_of ⟨rfl, rfl, rfl, rfl, rfl, trivial⟩))
      omega
     ·
      have a8 : best ≤ aa := by have q_ := of_decide_eq_false ae; omega
      refine WCf rfl (WC.skip ?_)
      refine QXb ?_
      refine QXn (ai _ _ ?_)
      refine WCg (WLq 2 [(16, .int .i64 (IntKind.i64.wrap ((j : Int) + 1))), (15, .int .i64 (j : Int))] ?_)
      refine WLt (show (.int .i64 (IntKind.i64.wrap ((j : Int) + 1)) : Value) = .int .i64 ((j : Int) + 1) from by rw [wrap_in_i64 ((j : Int) + 1) (by omega) (by omega)]) ?_
      refine WLq 1 [(6, .int .i64 ((j : Int) + 1))] ?_
      refine WLd rfl ?_
      refine QXn ?_
      have aO := aj.pick [] [0] rfl rfl
      refine fun a_ ha_ => ah _ _ _ ?_ ⟨j + 1, best, rfl, rfl, aO, ak, by omega, selB_no hsb ab (fun q_ => by have z_ := ae; simp at z_; omega)⟩ a_ (ha_.weaken (sub_of ⟨rfl, rfl, rfl, rfl, rfl, trivial⟩))
      omega
    ·
     have a7 : aa ≤ last := by have q_ := of_decide_eq_false ad; omega
     refine WLq 4 [(36, .bool false), (35, undef), (34, undef), (33, undef)] (WLd rfl (QXn (aq _ _ ?_)))
     refine WCf rfl (WC.skip ?_)
     refine QXb ?_
     refine QXn (ai _ _ ?_)
     refine WCg (WLq 2 [(16, .int .i64 (IntKind.i64.wrap ((j : Int) + 1))), (15, .int .i64 (j : Int))] ?_)
     refine WLt (show (.int .i64 (IntKind.i64.wrap ((j : Int) + 1)) : Value) = .int .i64 ((j : Int) + 1) from by rw [wrap_in_i64 ((j : Int) + 1) (by omega) (by omega)]) ?_
     refine WLq 1 [(6, .int .i64 ((j : Int) + 1))] ?_
     refine WLd rfl ?_
     refine QXn ?_
     have aP := aj.pick [] [0] rfl rfl
     refine fun a_ ha_ => ah _ _ _ ?_ ⟨j + 1, best, rfl, rfl, aP, ak, by omega, selB_no hsb ab (fun q_ => by have z_ := ad; simp at z_; omega)⟩ a_ (ha_.weaken (sub_of ⟨rfl, rfl, rfl, rfl, rfl, trivial⟩))
     omega
   ·
    refine WLq 9 [(36, .bool false), (35, undef), (34, undef), (33, undef), (32, .bool false), (31, .bool false), (30, undef), (29, undef), (28, undef)] (WLd rfl (QXn (aq _ _ ?_)))
    refine WCf rfl (WC.skip ?_)
    refine QXb ?_
    refine QXn (ai _ _ ?_)
    refine WCg (WLq 2 [(16, .int .i64 (IntKind.i64.wrap ((j : Int) + 1))), (15, .int .i64 (j : Int))] ?_)
    refine WLt (show (.int .i64 (IntKind.i64.wrap ((j : Int) + 1)) : Value) = .int .i64 ((j : Int) + 1) from by rw [wrap_in_i64 ((j : Int) + 1) (by omega) (by omega)]) ?_
    refine WLq 1 [(6, .int .i64 ((j : Int) + 1))] ?_
    refine WLd rfl ?_
    refine QXn ?_
    have aQ := aj.pick [] [0] rfl rfl
    refine fun a_ ha_ => ah _ _ _ ?_ ⟨j + 1, best, rfl, rfl, aQ, ak, by omega, selB_no hsb ab (fun q_ => by rw [ar] at q_; cases q_.1)⟩ a_ (ha_.weaken (sub_of ⟨rfl, rfl, rfl, rfl, rfl, trivial⟩))
    omega
  ·
   have a6 : (xs.length : Int) ≤ (j : Int) := by have q_ := of_decide_eq_false ap; omega
   refine WCf rfl ?_
   refine WC.exit ?_
   refine QXe ?_
   refine QXe ?_
   refine QX.block_hit ?_
   refine QXn (av _ _ ?_)
   refine WCs (fun bq aC => ?_)
   refine WCs (fun br aD => ?_)
   refine WCg (WLq 2 [(39, .bool (best == 1099511627776)), (38, .int .u64 best)] (WLd rfl (QXn (aD _ _ ?_))))
   refine WCa 39 (best == 1099511627776) rfl (fun af => ?_) (fun af => ?_)
   ·
    have a9 : best = 1099511627776 := by simpa using af
    refine WCt rfl ?_
    refine WCs (fun bs aE => ?_)
    refine WCg (WLq 2 [(2, .slice A5 n5 c5), (40, .slice A5 n5 c5)] (WLd rfl (QXn (aE _ _ ?_))))
    refine WC.ret ?_
    refine QXr ?_
    refine QXk ?_
    refine QXr ?_
    refine QXk ?_
    refine QXr ?_
    refine (hret _ _ _ rfl ?_).1
    clear hN hret hret' aE aD aC ay ax aw av au an am hK8 hK6 hK4 hK2
    have hend_ := sel_end hsel hsb (by omega) ag (by have z_ := af; simpa using z_)
    have hea_ := ann_short hend_ (by omega)
    have ho_ := row_m30
    have hnl_ : (annV xs).length = n5 := by rw [← hea_, List.length_take]; omega
    exact ⟨_, rfl, ac.fr, own_base (show World.ownsRow _ 0 44 1 _ (annV xs).length ((annV xs).flatMap (Go.Tw.encI .u32)) from by rw [hnl_, ← hea_]; exact ho_) (ac.geF 0 rfl)⟩
   ·
    have a9 : ¬ (best = 1099511627776) := by simpa using af
    refine WCf rfl (WC.skip (QXn (aC _ _ ?_)))
    refine WCs (fun bt aR => ?_)
    refine WCg ?_
    have hne_ : best ≠ 1099511627776 := by have z_ := af; simpa using z_
    have hstep_ := sel_step hsel hsb (by omega) hne_
    obtain ⟨hs0_, hs1_⟩ := hstep_.2.sp
    refine WLq 3 [(43, .int .u32 (IntKind.u32.wrap (best))), (42, .int .u64 best), (41, .slice A5 n5 c5)] ?_
    refine WLt (show (.int .u32 (IntKind.u32.wrap (best)) : Value) = .int .u32 best from by rw [wrap_in_u32 _ (by omega) (by omega)]) ?_
    refine WL.newM ac (fun b => .slice (some ⟨b, 0, none⟩) 1 1) (.cells #[.int .u32 best] 44) 44 (fun _ => by kernel_rfl) (fun a2 bu ba aS aF => ?_)
    have aT := own_fr row_m30 aS (by simp)
    obtain ⟨bv, bw, aU, aV, bb, aW, aX, aY⟩ := app_run Try.prog aF 0 (v := .slice A5 n5 c5) rfl 33 33 44 1 4 n5 1 1 (some ⟨a2, 0, none⟩) rfl aT [.int .u32 best] rfl (srcOk.blk 1 (aF.get 0 rfl)) rfl (by simp only [maxLen]; omega) (by omega)
    have aG := own_snoc (enc := (Go.Tw.encI .u32)) (ys := ((dV xs).take i)) best aV
    obtain ⟨aZ, a0, rfl, a3⟩ := own_form aG
    refine WL.sem (Builtin.append_ #[33, 33] 33 #[.slice A5 n5 c5, .slice (some ⟨a2, 0, none⟩) 1 1]) 45 (.slice aZ (n5 + 1) a0) (by kernel_rfl) aU ?_
    refine WLq 1 [(3, .slice aZ (n5 + 1) a0)] (WLd rfl (QXn (aR _ _ ?_)))
    refine WCg (WLq 2 [(4, .int .u64 best), (46, .int .u64 best)] ?_)
    refine WLd rfl ?_
    refine QXb ?_
    refine QXn ?_
    have a1 := aW.pick [] [0] rfl rfl
    refine fun a_ ha_ => aJ _ _ _ ?_ ⟨i + 1, best, aZ, n5 + 1, a0, rfl, rfl, a1, (by rw [take_snocI hstep_.1]; exact aG), by omega, hstep_.2⟩ a_ (ha_.weaken (sub_of ⟨rfl, rfl, rfl, trivial⟩))
    omega
 ·
  have a4 : (39 : Int) ≤ (n5 : Int) := by have q_ := of_decide_eq_false ao; omega
  refine WCf rfl ?_
  refine WC.exit ?_
  refine QXe ?_
  refine QXe ?_
  refine QX.block_hit ?_
  refine QXn (hK8 _ _ ?_)
  refine WCs (fun bx aH => ?_)
  refine WCg (WLq 2 [(2, .slice A5 n5 c5), (47, .slice A5 n5 c5)] (WLd rfl (QXn (aH _ _ ?_))))
  refine WC.ret ?_
  refine (hret _ _ _ rfl ?_).1
  clear hN hret hret' aH an am hK8 hK6 hK4 hK2
  have aI : i = 39 := by omega
  have hea_ := ann_full (X := xs) aI
  have ho_ := hrow
  have hnl_ : (annV xs).length = n5 := by rw [← hea_, List.length_take]; omega
  exact ⟨_, rfl, al.fr, own_base (show World.ownsRow _ 0 44 1 _ (annV xs).length ((annV xs).flatMap (Go.Tw.encI .u32)) from by rw [hnl_, ← hea_]; exact ho_) (al.geF 0 rfl)⟩

theorem Rsame_ct (A B : Option Addr) (c d : Nat) (xs ys : List Int) (w : World) (hA : Rd w 1 (Go.Tw.encI .u32) A xs) (hB : Rd w 1 (Go.Tw.encI .u32) B ys) (h1 : xs.length ≤ 1099511627776) (h2 : ys.length ≤ 1099511627776) : Calls Try.prog 43 #[.slice A xs.length c, .slice B ys.length d] w fun e w' => e = .returned (.bool (decide (xs = ys))) ∧ Fr w w' [] := by
 refine enterD (n := 26) Try.func43 rfl rfl (Nat.le_of_ble_eq_true rfl) ?_
 intro Q0 hN hret hret'
 have hC := Cx.start w
 refine WCs (fun K1 hK2 => ?_)
 refine WCg (WLq 1 [(4, .bool false)] (WLd rfl (QXn (hK2 _ _ ?_))))
 refine WCs (fun K3 hK4 => ?_)
 refine WCs (fun K5 hK6 => ?_)
 refine WCg (WLq 5 [(10, .bool ((xs.length : Int) != (ys.length : Int))), (9, .int .i64 (ys.length : Int)), (8, .slice B ys.length d), (7, .int .i64 (xs.length : Int)), (6, .slice A xs.length c)] (WLd rfl (QXn (hK6 _ _ ?_))))
 refine WCa 10 ((xs.length : Int) != (ys.length : Int)) rfl (fun t7b => ?_) (fun t7b => ?_)
 ·
  have t7 : (xs.length : Int) ≠ (ys.length : Int) := by simpa using t7b
  refine WCt rfl ?_
  refine WCs (fun K8 hK9 => ?_)
  refine WCg (WLq 1 [(4, .bool false)] (WLd rfl (QXn (hK9 _ _ ?_))))
  refine WC.ret ?_
  refine QXr ?_
  refine (hret _ _ _ rfl ?_).1
  exact ⟨by rw [decide_eq_false (fun e_ => by subst e_; simp at *)]; rfl, hC.fr⟩
 ·
  have t7 : (xs.length : Int) = (ys.length : Int) := by simpa using t7b
  refine WCf rfl (WC.skip (QXn (hK4 _ _ ?_)))
  refine WCs (fun aD aj => ?_)
  refine WCs (fun aE ak => ?_)
  refine WCg (WLq 1 [(5, .int .i64 0)] (WLd rfl (QXn (ak _ _ ?_))))
  refine WC.block ?_
  refine WC.loop (fun m_ E_ w_ => ∃ (i : Nat), m_ = xs.length - i ∧ E_ = [(0, .slice A xs.length c), (1, .slice B ys.length d), (5, .int .i64 (i : Int))] ∧ Cx w [] w_ [] [] ∧ (i ≤ xs.length ∧ xs.take i = ys.take i)) ⟨_, _, ⟨0, rfl, rfl, hC, Nat.zero_le _, rfl⟩, sub_of ⟨rfl, rfl, rfl, trivial⟩⟩ (fun m17 E_ aF aG al am => ?_)
  obtain ⟨i, rfl, rfl, ag, hi, htk⟩ := am
  refine WCs (fun aH an => ?_)
  refine WCs (fun aI ao => ?_)
  refine WCg (WLq 4 [(14, .bool (decide ((i : Int) < (xs.length : Int)))), (13, .int .i64 (xs.length : Int)), (12, .slice A xs.length c), (11, .int .i64 (i : Int))] (WLd rfl (QXn (ao _ _ ?_))))
  refine WCa 14 (decide ((i : Int) < (xs.length : Int))) rfl (fun ad => ?_) (fun ad => ?_)
  ·
   have aA : (i : Int) < (xs.length : Int) := by have q_ := of_decide_eq_true ad; omega
   refine WCt rfl ?_
   refine WC.skip ?_
   refine QXn (an _ _ ?_)
   refine WCs (fun aJ ap => ?_)
   refine WC.block ?_
   refine WCs (fun aK aq => ?_)
   refine WC.drawC ag [] (by kernel_rfl) (fun aL aB ac aa => ?_)
   refine WDq (NPt (NPb (NPt (NPt (NPb (NPt hN)))))) 0 17 (.slice A xs.length c) aa ?_
   refine WDq (NPt (NPb (NPt (NPt (NPb (NPt hN)))))) 1 18 (.int .i64 (i : Int)) aa ?_
   obtain ⟨ah, ae⟩ := get_some (xs := xs) (i := i) (by omega)
   obtain ⟨b35, o37, ar, au⟩ := hA.at_ _ _ ae
   refine WDi (NPt (NPb (NPt (NPt (NPb (NPt hN)))))) 2 A xs.length c 19 .i64 (i : Int) b35 o37 i 1 (by kernel_rfl) (by kernel_rfl) ar (by omega) (by omega) (o37 + i) (by first | (simp; done) | omega) aa ?_
   refine WDq (NPt (NPb (NPt (NPt (NPb (NPt hN)))))) 4 21 (.slice B ys.length d) aa ?_
   refine WDq (NPt (NPb (NPt (NPt (NPb (NPt hN)))))) 5 22 (.int .i64 (i : Int)) aa ?_
   obtain ⟨ai, af⟩ := get_some (xs := ys) (i := i) (by omega)
   obtain ⟨b41, o43, av, aw⟩ := hB.at_ _ _ af
   refine WDi (NPt (NPb (NPt (NPt (NPb (NPt hN)))))) 6 B ys.length d 23 .i64 (i : Int) b41 o43 i 1 (by kernel_rfl) (by kernel_rfl) av (by omega) (by omega) (o43 + i) (by first | (simp; done) | omega) aa ?_
   refine WDm (NPt (NPb (NPt (NPt (NPb (NPt hN)))))) 3 44 (.pointer (some ⟨b35, o37 + i, none⟩)) (.int .u32 ah) 20 (fun _ hS_ => run_load1 rfl (by simpa [Nat.add_assoc] using Fr.cell hS_ (ac.fr.cell (au 0 _ rfl) (by simp)) (by simp))) aa ?_
   refine WDm (NPt (NPb (NPt (NPt (NPb (NPt hN)))))) 7 44 (.pointer (some ⟨b41, o43 + i, none⟩)) (.int .u32 ai) 24 (fun _ hS_ => run_load1 rfl (by simpa [Nat.add_assoc] using Fr.cell hS_ (ac.fr.cell (aw 0 _ rfl) (by simp)) (by simp))) aa ?_
   refine WDq (NPt (NPb (NPt (NPt (NPb (NPt hN)))))) 8 25 (.bool (ah != ai)) aa ?_
   refine WD.done (by kernel_rfl) ?_
   refine QXn (aq _ _ ?_)
   refine WCa 25 (ah != ai) rfl (fun ab => ?_) (fun ab => ?_)
   ·
    have aC : ah ≠ ai := by simpa using ab
    refine WCt rfl ?_
    refine WCs (fun aM ax => ?_)
    refine WCg (WLq 1 [(4, .bool false)] (WLd rfl (QXn (ax _ _ ?_))))
    refine WC.ret ?_
    refine QXk ?_
    refine QXr ?_
    refine QXr ?_
    refine QXk ?_
    refine QXr ?_
    refine (hret _ _ _ rfl ?_).1
    exact ⟨by rw [decide_eq_false (addrs_ne ae af (by simpa using ab))]; rfl, ac.fr⟩
   ·
    have aC : ah = ai := by simpa using ab
    refine WCf rfl (WC.skip ?_)
    refine QXb ?_
    refine QXn (ap _ _ ?_)
    refine WCg (WLq 2 [(16, .int .i64 (IntKind.i64.wrap ((i : Int) + 1))), (15, .int .i64 (i : Int))] ?_)
    refine WLt (show (.int .i64 (IntKind.i64.wrap ((i : Int) + 1)) : Value) = .int .i64 ((i : Int) + 1) from by rw [wrap_in_i64 ((i : Int) + 1) (by omega) (by omega)]) ?_
    refine WLq 1 [(5, .int .i64 ((i : Int) + 1))] ?_
    refine WLd rfl ?_
    refine QXn ?_
    have ay := ac.pick [] [] rfl rfl
    refine fun a_ ha_ => al _ _ _ ?_ ⟨i + 1, rfl, rfl, ay, by omega, addrs_take htk ae af (by simpa using ab)⟩ a_ (ha_.weaken (sub_of ⟨rfl, rfl, rfl, trivial⟩))
    omega
  ·
   have aA : (xs.length : Int) ≤ (i : Int) := by have q_ := of_decide_eq_false ad; omega
   refine WCf rfl ?_
   refine WC.exit ?_
   refine QXe ?_
   refine QXe ?_
   refine QX.block_hit ?_
   refine QXn (aj _ _ ?_)
   refine WCs (fun aN az => ?_)
   refine WCg (WLq 1 [(4, .bool true)] (WLd rfl (QXn (az _ _ ?_))))
   refine WC.ret ?_
   refine (hret _ _ _ rfl ?_).1
   exact ⟨by rw [decide_eq_true (addrs_end htk (by omega) (by omega))]; rfl, ag.fr⟩

set_option maxHeartbeats 1000000 in
theorem Rroutes_ct (F : List Nat) (p : Nat) (b : Int) (o : Bool) (vs : List Int) (V : List (Int × List Int))  (w : World) (ht : spAt 36 w F p b o vs V) (hvk : vs.length ≤ 39 ∧ ∀ x ∈ vs, 0 ≤ x ∧ x ≤ 4294967295) (hml : V.length ≤ 1099511627776) : Calls Try.prog 44 #[.pointer (some ⟨p, 0, none⟩)] w fun e w' => ∃ F', e = .returned (.tuple #[]) ∧ Fr w w' F ∧ spAt 36 w' F' p b o vs (V ++ [(12, b :: vs)]) ∧ ∀ x ∈ F', x ∈ F ∨ w.heap.size ≤ x := by
 refine enterD (n := 40) Try.func44 rfl rfl (Nat.le_of_ble_eq_true rfl) ?_
 intro Q0 hN hret hret'
 have ht0 := ht
 obtain ⟨Av, cv, Am, cm, ms, R, hp_, hv_, hs_, hg_, hV_, rfl, pA_, pB_, pR_, dAB_, dAR_, dBR_⟩ := ht
 have hC := Cx.open3 hp_ (own_lt hv_) (own_lt hs_) hg_.2 pA_ pB_ pR_ dAB_ dAR_ dBR_
 have hcm_ := own_le hs_
 have hcx_ : ms.length = V.length := by rw [← hV_, List.length_map]
 have hvl_ := own_max hv_
 refine WCs (fun K1 hK2 => ?_)
 refine WCg (WLq 3 [(6, .pointer (some ⟨p, 0, none⟩)), (5, .pointer (some ⟨p, 0, none⟩)), (4, .pointer (some ⟨p, 0, none⟩))] ?_)
 refine WLo 3 (.pointer (some ⟨p, 0, none⟩)) (.int .i64 b) 7 (run_ld (hC.get 0 rfl) rfl) ?_
 refine WL.newM hC (fun b => .slice (some ⟨b, 0, none⟩) 1 1) (.cells #[.int .i64 b] 3) 8 (fun _ => by kernel_rfl) (fun g3 w4 hb7 hF5 hC6 => ?_)
 have hf8 := (Fr.refl w []).trans hF5 (by simp)
 have ho9 := own_fr hv_ hF5 (by simp)
 have ay := own_fr hs_ hF5 (by simp)
 have az := mgsIn.fr hg_ hF5 (by simp)
 refine WLq 1 [(2, .slice (some ⟨g3, 0, none⟩) 1 1)] (WLd rfl (QXn (hK2 _ _ ?_)))
 refine WCs (fun bi an => ?_)
 refine WCs (fun bj ao => ?_)
 refine WCg (WLq 1 [(3, .int .i64 0)] (WLd rfl (QXn (ao _ _ ?_))))
 refine WC.block ?_
 have aA : World.ownsRow w4 0 3 1 (.slice (some ⟨g3, 0, none⟩) 1 1) 1 ([b].flatMap (Go.Tw.encI .i64)) := own_of_blk (Nat.zero_le _) (hC6.get 1 rfl) (Nat.le_refl _) (by decide) rfl rfl
 have aB := hC6.toF 1 rfl
 refine WC.loop (fun m_ E_ w_ => ∃ (i : Nat) (A5 : Option Addr) (n5 c5 : Nat), m_ = vs.length - i ∧ E_ = [(0, .pointer (some ⟨p, 0, none⟩)), (2, .slice A5 n5 c5), (3, .int .i64 (i : Int))] ∧ Cx w (p :: (blk (.slice Av vs.length cv) ++ (blk (.slice Am ms.length cm) ++ R))) w_ [(p, .cells #[.int .i64 b, .bool o, .slice Av vs.length cv, .slice Am ms.length cm] 36)] [blk (.slice Av vs.length cv), blk (.slice Am ms.length cm), R, blk (.slice A5 n5 c5)] ∧ World.ownsRow w_ 0 44 1 (.slice Av vs.length cv) vs.length (vs.flatMap (Go.Tw.encI .u32)) ∧ World.ownsRow w_ 0 40 3 (.slice Am ms.length cm) ms.length (ms.flatMap cellsM) ∧ mgsIn w_ R ms ∧ World.ownsRow w_ 0 3 1 (.slice A5 n5 c5) n5 ((b :: vs.take i).flatMap (Go.Tw.encI .i64)) ∧ (i ≤ vs.length)) ⟨_, _, ⟨0, some ⟨g3, 0, none⟩, 1, 1, rfl, rfl, aB, ho9, ay, az, aA, Nat.zero_le _⟩, sub_of ⟨rfl, rfl, rfl, trivial⟩⟩ (fun m21 E_ bk bl aC aD => ?_)
 obtain ⟨i, A5, n5, c5, rfl, rfl, aa, vps_m21, said_m21, mg_m21, hrow, hi⟩ := aD
 have hcn_ := own_count (Go.Tw.encI_len _) (by decide) hrow
 rw [List.length_cons, List.length_take] at hcn_
 refine WCs (fun bm ap => ?_)
 refine WCs (fun bn aq => ?_)
 refine WCg (WLq 4 [(12, .pointer (some ⟨p, 2, none⟩)), (11, .pointer (some ⟨p, 0, none⟩)), (10, .pointer (some ⟨p, 0, none⟩)), (9, .int .i64 (i : Int))] ?_)
 refine WLo 33 (.pointer (some ⟨p, 2, none⟩)) (.slice Av vs.length cv) 13 (run_ld (aa.get 0 rfl) rfl) ?_
 refine WLq 2 [(15, .bool (decide ((i : Int) < (vs.length : Int)))), (14, .int .i64 (vs.length : Int))] (WLd rfl (QXn (aq _ _ ?_)))
 refine WCa 15 (decide ((i : Int) < (vs.length : Int))) rfl (fun ai => ?_) (fun ai => ?_)
 ·
  have be : (i : Int) < (vs.length : Int) := by have q_ := of_decide_eq_true ai; omega
  refine WCt rfl ?_
  refine WC.skip ?_
  refine QXn (ap _ _ ?_)
  refine WCs (fun bo aE => ?_)
  refine WC.block ?_
  refine WCg (WLq 4 [(21, .pointer (some ⟨p, 2, none⟩)), (20, .pointer (some ⟨p, 0, none⟩)), (19, .pointer (some ⟨p, 0, none⟩)), (18, .slice A5 n5 c5)] ?_)
  refine WLo 33 (.pointer (some ⟨p, 2, none⟩)) (.slice Av vs.length cv) 22 (run_ld (aa.get 0 rfl) rfl) ?_
  refine WLq 1 [(23, .int .i64 (i : Int))] ?_
  have bf := own_count (Go.Tw.encI_len _) (by decide) vps_m21
  obtain ⟨aj, ae⟩ := get_some (xs := vs) (i := i) (by omega)
  obtain ⟨b33, ar⟩ := own_addr (by decide) (Go.Tw.encI_len _) vps_m21 ae
  refine WLi Av vs.length cv 24 .i64 (i : Int) b33 0 i 1 (by kernel_rfl) ar (by omega) (by omega) i (by first | (simp; done) | omega) ?_
  refine WLo 44 (.pointer (some ⟨b33, i, none⟩)) (.int .u32 aj) 25 (run_load1 rfl (by simpa [Nat.add_assoc] using Rd.cell (own_rd vps_m21 (Go.Tw.encI_len _) (by decide)) ar ae 0 _ rfl)) ?_
  obtain ⟨hvb0_, hvb1_⟩ := hvk.2 _ (List.mem_of_getElem? ae)
  refine WLq 1 [(26, .int .i64 (IntKind.i64.wrap (aj)))] ?_
  refine WLt (show (.int .i64 (IntKind.i64.wrap (aj)) : Value) = .int .i64 aj from by rw [wrap_in_i64 _ (by omega) (by omega)]) ?_
  refine WL.newM aa (fun b => .slice (some ⟨b, 0, none⟩) 1 1) (.cells #[.int .i64 aj] 3) 27 (fun _ => by kernel_rfl) (fun ba bp bg af ab => ?_)
  have aF := own_fr vps_m21 af (by simp)
  have aG := own_fr said_m21 af (by simp)
  have aH := mgsIn.fr mg_m21 af (by simp)
  have aI := own_fr hrow af (by simp)
  obtain ⟨bq, br, aJ, aK, ak, aL, aM, aN⟩ := app_run Try.prog ab 3 (v := .slice A5 n5 c5) rfl 37 37 3 1 8 n5 1 1 (some ⟨ba, 0, none⟩) rfl aI [.int .i64 aj] rfl (srcOk.blk 1 (ab.get 1 rfl)) rfl (by simp only [maxLen]; omega) (by omega)
  have au := own_snoc (enc := (Go.Tw.encI .i64)) (ys := (b :: vs.take i)) aj aK
  obtain ⟨aO, aP, rfl, bb⟩ := own_form au
  refine WL.sem (Builtin.append_ #[37, 37] 37 #[.slice A5 n5 c5, .slice (some ⟨ba, 0, none⟩) 1 1]) 28 (.slice aO (n5 + 1) aP) (by kernel_rfl) aJ ?_
  have aQ := own_fr aF ak (ab.disj 0 3 rfl rfl (by decide))
  have aR := own_fr aG ak (ab.disj 1 3 rfl rfl (by decide))
  have aS := mgsIn.fr aH ak (ab.disj 2 3 rfl rfl (by decide))
  refine WLq 1 [(2, .slice aO (n5 + 1) aP)] ?_
  refine WLd rfl ?_
  refine QXb ?_
  refine QXn (aE _ _ ?_)
  refine WCg (WLq 2 [(17, .int .i64 (IntKind.i64.wrap ((i : Int) + 1))), (16, .int .i64 (i : Int))] ?_)
  refine WLt (show (.int .i64 (IntKind.i64.wrap ((i : Int) + 1)) : Value) = .int .i64 ((i : Int) + 1) from by rw [wrap_in_i64 ((i : Int) + 1) (by omega) (by omega)]) ?_
  refine WLq 1 [(3, .int .i64 ((i : Int) + 1))] ?_
  refine WLd rfl ?_
  refine QXn ?_
  have aT := aL.pick [0] [0, 1, 2, 3] rfl rfl
  refine fun a_ ha_ => aC _ _ _ ?_ ⟨i + 1, aO, n5 + 1, aP, rfl, rfl, aT, aQ, aR, aS, (by rw [take_snocI ae]; exact au), by omega⟩ a_ (ha_.weaken (sub_of ⟨rfl, rfl, rfl, trivial⟩))
  omega
 ·
  have be : (vs.length : Int) ≤ (i : Int) := by have q_ := of_decide_eq_false ai; omega
  refine WCf rfl ?_
  have al := hrow
  rw [List.take_of_length_le (by omega)] at al
  obtain rfl : (b :: vs).length = n5 := own_count (Go.Tw.encI_len _) (by decide) al
  skip
  refine WC.exit ?_
  refine QXe ?_
  refine QXe ?_
  refine QX.block_hit ?_
  refine QXn (an _ _ ?_)
  refine WCg (WLq 4 [(32, .pointer (some ⟨p, 3, none⟩)), (31, .pointer (some ⟨p, 0, none⟩)), (30, .pointer (some ⟨p, 0, none⟩)), (29, .pointer (some ⟨p, 0, none⟩))] ?_)
  refine WLo 34 (.pointer (some ⟨p, 3, none⟩)) (.slice Am ms.length cm) 33 (run_ld (aa.get 0 rfl) rfl) ?_
  refine WLq 2 [(35, .agg #[.int .i64 12, .slice A5 ((b :: vs).length) c5, .slice none 0 0]), (34, .slice A5 ((b :: vs).length) c5)] ?_
  refine WL.newM aa (fun b => .slice (some ⟨b, 0, none⟩) 1 1) (.cells #[.int .i64 12, .slice A5 ((b :: vs).length) c5, .slice none 0 0] 40) 36 (fun _ => by kernel_rfl) (fun bc bs bh ag ac => ?_)
  have aU := own_fr vps_m21 ag (by simp)
  have aV := own_fr said_m21 ag (by simp)
  have aW := mgsIn.fr mg_m21 ag (by simp)
  have aX := own_fr al ag (by simp)
  obtain ⟨bt, bu, aY, aZ, am, ad, a0, a1⟩ := app_run Try.prog ac 1 (v := .slice Am ms.length cm) rfl 34 34 40 3 56 ms.length 1 1 (some ⟨bc, 0, none⟩) rfl aV [.int .i64 12, .slice A5 ((b :: vs).length) c5, .slice none 0 0] rfl (srcOk.blk 1 (ac.get 1 rfl)) rfl (by simp only [maxLen]; omega) (by omega)
  have av := own_snoc (enc := cellsM) (ys := ms) (⟨12, A5, c5, (b :: vs)⟩ : Mg) aZ
  obtain ⟨a2, a3, rfl, bd⟩ := own_form av
  refine WL.sem (Builtin.append_ #[34, 34] 34 #[.slice Am ms.length cm, .slice (some ⟨bc, 0, none⟩) 1 1]) 37 (.slice a2 (ms.length + 1) a3) (by kernel_rfl) aY ?_
  have a4 := own_fr aU am (ac.disj 0 1 rfl rfl (by decide))
  have a5 := mgsIn.fr aW am (ac.disj 2 1 rfl rfl (by decide))
  have a6 := own_fr aX am (ac.disj 3 1 rfl rfl (by decide))
  refine WLq 2 [(39, .pointer (some ⟨p, 3, none⟩)), (38, .pointer (some ⟨p, 0, none⟩))] ?_
  refine WLs (c' := #[.int .i64 b, .bool o, .slice Av vs.length cv, .slice a2 (ms.length + 1) a3]) ad 0 34 p 3 (.slice a2 (ms.length + 1) a3) (by kernel_rfl) rfl (by kernel_rfl) (fun bv ah aw => ?_)
  have a7 := own_fr a4 ah (ad.apartM 0 0 rfl rfl)
  have a8 := own_fr av ah (ad.apartM 1 0 rfl rfl)
  have a9 := mgsIn.fr a5 ah (ad.apartM 2 0 rfl rfl)
  have ax := own_fr a6 ah (ad.apartM 3 0 rfl rfl)
  refine WLd rfl ?_
  refine (hret _ _ _ rfl ?_).2
  clear hN hret hret' aq ap ao an hK2
  have hmg_ := a9.snoc (S := blk (.slice A5 ((b :: vs).length) c5)) (m := (⟨12, A5, c5, (b :: vs)⟩ : Mg)) (own_rd ax (Go.Tw.encI_len _) (by decide)) (by simp only [List.length_cons, List.length_nil]; omega) (fun b_ off_ e_ => blk_one e_) (own_lt ax)
  have hsd_ := a8
  obtain ⟨F2_, h1_, h2_⟩ := sp_close2 aw 0 0 1 2 3 rfl rfl rfl rfl rfl a7 hsd_ hmg_ (show _ = V ++ [(12, b :: vs)] from by rw [List.map_append, hV_]; rfl) (by decide) (by decide) (by decide) (by decide) (by decide)
  exact ⟨F2_, rfl, aw.fr, h1_, h2_⟩

theorem RSorted_n (A : Option Addr) (n c : Nat) (xs : List Int) (hn : xs.length = n) (w : World) (hr : Rd w 1 (Go.Tw.encI .u32) A xs) (hlen : n ≤ 1099511627776) (hx32 : ∀ x ∈ xs, 0 ≤ x ∧ x ≤ 4294967295) : Calls Try.prog 25 #[.slice A n c] w fun e w' => ∃ v, e = .returned v ∧ Fr w w' [] ∧ w'.ownsRow w.heap.size 44 1 v (annV xs).length ((annV xs).flatMap (Go.Tw.encI .u32)) := by subst hn; exact RSorted_ct A c xs w hr hlen hx32
theorem Rsame_n (A B : Option Addr) (n c n2 d : Nat) (xs ys : List Int) (w : World) (hA : Rd w 1 (Go.Tw.encI .u32) A xs) (hn : xs.length = n) (hB : Rd w 1 (Go.Tw.encI .u32) B ys) (hn2 : ys.length = n2) (h1 : n ≤ 1099511627776) (h2 : n2 ≤ 1099511627776) : Calls Try.prog 43 #[.slice A n c, .slice B n2 d] w fun e w' => e = .returned (.bool (decide (xs = ys))) ∧ Fr w w' [] := by subst hn hn2; exact Rsame_ct A B c d xs ys w hA hB h1 h2
set_option maxHeartbeats 1000000 in
theorem RTick_ct (F : List Nat) (p : Nat) (b : Int) (o : Bool) (vs : List Int) (V : List (Int × List Int)) (now : Int)  (w : World) (ht : spAt 36 w F p b o vs V) (hvk : vs.length ≤ 39 ∧ ∀ x ∈ vs, 0 ≤ x ∧ x ≤ 4294967295) (hml : V.length ≤ 1099511627776) : Calls Try.prog 17 #[.pointer (some ⟨p, 0, none⟩), .int .i64 now] w fun e w' => ∃ F', e = .returned (.tuple #[]) ∧ Fr w w' F ∧ spAt 36 w' F' p b o vs (V ++ tickV b o vs now) ∧ ∀ x ∈ F', x ∈ F ∨ w.heap.size ≤ x := by
 refine enterD (n := 33) Try.func17 rfl rfl (Nat.le_of_ble_eq_true rfl) ?_
 intro Q0 hN hret hret'
 have ht0 := ht
 obtain ⟨Av, cv, Am, cm, ms, R, hp_, hv_, hs_, hg_, hV_, rfl, pA_, pB_, pR_, dAB_, dAR_, dBR_⟩ := ht
 have hC := Cx.open3 hp_ (own_lt hv_) (own_lt hs_) hg_.2 pA_ pB_ pR_ dAB_ dAR_ dBR_
 have hcm_ := own_le hs_
 have hcx_ : ms.length = V.length := by rw [← hV_, List.length_map]
 have hvl_ := own_max hv_
 refine WCs (fun K1 hK2 => ?_)
 refine WCs (fun K3 hK4 => ?_)
 refine WCg (WLq 1 [(4, .int .i64 now)] ?_)
 refine WLc rfl rfl rfl rfl rfl (by kernel_rfl) (Rtime_ct now w) ?_
 rintro _ w6 ⟨rfl, hF5⟩
 refine ⟨_, rfl, ?_⟩
 have hC7 := hC.call hF5
 have hf8 := (Fr.refl w []).trans hF5 (by simp)
 have ho9 := own_fr hv_ hF5 (by simp)
 have aJ := own_fr hs_ hF5 (by simp)
 have aK := mgsIn.fr hg_ hF5 (by simp)
 refine WLq 2 [(7, .bool (!(timB now))), (6, .bool (!(timB now)))] ?_
 refine WLa 7 (!(timB now)) rfl (fun aC => ?_) (fun aC => ?_)
 ·
  have bk : (timB now) = false := by first | (simpa only [Bool.not_eq_true', Bool.not_eq_false'] using aC) | simpa using aC
  refine WLq 4 [(11, .bool true), (10, undef), (9, undef), (8, undef)] (WLd rfl (QXn (hK4 _ _ ?_)))
  refine WCt rfl ?_
  refine WC.ret ?_
  refine QXr ?_
  refine (hret _ _ _ rfl ?_).1
  clear hN hret hret' hK4 hK2
  have hz_ : tickV b o vs now = [] := if_neg (fun q_ => by rw [bk] at q_; cases q_.1)
  obtain ⟨F13, bv, bl⟩ := sp_close hC7 0 0 1 2 rfl rfl rfl rfl ho9 aJ aK (show _ = V ++ tickV b o vs now from by rw [hz_, List.append_nil]; exact hV_) (by decide) (by decide) (by decide)
  exact ⟨F13, rfl, hC7.fr, bv, bl⟩
 ·
  have bk : (timB now) = true := by first | (simpa only [Bool.not_eq_true', Bool.not_eq_false'] using aC) | simpa using aC
  refine WLq 4 [(11, .bool ((Int.tmod now 4) != 0)), (10, .bool ((Int.tmod now 4) != 0)), (9, .int .i64 (Int.tmod now 4)), (8, .int .i64 now)] (WLd rfl (QXn (hK4 _ _ ?_)))
  refine WCa 11 ((Int.tmod now 4) != 0) rfl (fun ah => ?_) (fun ah => ?_)
  ·
   have dp : (Int.tmod now 4) ≠ 0 := by simpa using ah
   refine WCt rfl ?_
   refine WC.ret ?_
   refine QXr ?_
   refine (hret _ _ _ rfl ?_).1
   clear hN hret hret' hK4 hK2
   have hz_ : tickV b o vs now = [] := if_neg (fun q_ => by have z_ := ah; rw [q_.2] at z_; simp at z_)
   obtain ⟨F17, bw, bm⟩ := sp_close hC7 0 0 1 2 rfl rfl rfl rfl ho9 aJ aK (show _ = V ++ tickV b o vs now from by rw [hz_, List.append_nil]; exact hV_) (by decide) (by decide) (by decide)
   exact ⟨F17, rfl, hC7.fr, bw, bm⟩
  ·
   have dp : (Int.tmod now 4) = 0 := by simpa using ah
   refine WCf rfl (WC.skip (QXn (hK2 _ _ ?_)))
   refine WCs (fun dF ax => ?_)
   refine WCg (WLq 3 [(14, .pointer (some ⟨p, 1, none⟩)), (13, .pointer (some ⟨p, 0, none⟩)), (12, .pointer (some ⟨p, 0, none⟩))] ?_)
   refine WLo 4 (.pointer (some ⟨p, 1, none⟩)) (.bool o) 15 (run_ld (hC7.get 0 rfl) rfl) ?_
   refine WLd rfl (QXn (ax _ _ ?_))
   refine WCa 15 (o) rfl (fun ay => ?_) (fun ay => ?_)
   ·
    refine WCt rfl ?_
    refine WCg (WLq 1 [(16, .pointer (some ⟨p, 0, none⟩))] ?_)
    obtain ⟨F23, bx, cH⟩ := sp_tell (Cx.pickX hC7 [0] [0, 1, 2] (by decide) (by decide) rfl rfl) ho9 aJ aK hV_
    refine WLc rfl rfl rfl rfl rfl (by kernel_rfl) (Rroutes_ct F23 p b o vs V w6 bx hvk hml) ?_
    rintro _ dG ⟨F26, rfl, cI, aX, bn⟩
    have bz := cH.callF 0 rfl cI bn (spAt_lt aX)
    refine ⟨_, rfl, ?_⟩
    refine WLd rfl ?_
    refine (hret _ _ _ rfl ?_).2
    clear hN hret hret' ax hK4 hK2
    have hz_ : tickV b o vs now = [(12, b :: vs)] := by unfold tickV; rw [if_pos ⟨bk, by have z_ := ah; simpa using z_⟩]; simp [ay]
    exact ⟨F26, rfl, bz.fr, by rw [hz_]; exact aX, bz.ownF _ (by simp)⟩
   ·
    refine WCf rfl ?_
    refine WC.drawC hC7 (p :: blk (.slice Am ms.length cm)) (by kernel_rfl) (fun dH aL am aa => ?_)
    have bo := hf8.trans aL (by simp)
    have bp := own_fr ho9 aL (by simp)
    have bq := own_fr aJ aL (by simp)
    have br := mgsIn.fr aK aL (by simp)
    refine WDq hN 0 18 (.pointer (some ⟨p, 0, none⟩)) aa ?_
    refine WDq hN 1 19 (.pointer (some ⟨p, 0, none⟩)) aa ?_
    refine WDq hN 2 20 (.pointer (some ⟨p, 0, none⟩)) aa ?_
    refine WDq hN 3 21 (.pointer (some ⟨p, 3, none⟩)) aa ?_
    refine WDq hN 5 23 (.pointer (some ⟨p, 0, none⟩)) aa ?_
    refine WDq hN 6 24 (.pointer (some ⟨p, 0, none⟩)) aa ?_
    refine WDq hN 7 25 (.pointer (some ⟨p, 0, none⟩)) aa ?_
    refine WD.all2 4 8 (by kernel_rfl) ?_ ?_
    ·
     refine WO.sem 4 (Instr.loadAt 34 (.pointer (some ⟨p, 3, none⟩))) 22 (.slice Am ms.length cm) (by kernel_rfl) (by kernel_rfl) (run_ld (am.get 0 rfl) rfl) aa ?_
     refine WD.sem 8 (Instr.loadAt 3 (.pointer (some ⟨p, 0, none⟩))) 26 (.int .i64 b) (by kernel_rfl) (by kernel_rfl) (run_ld (am.get 0 rfl) rfl) aa ?_
     refine WD.new 9 (fun b => .slice (some ⟨b, 0, none⟩) 1 1) (.cells #[.int .i64 b] 3) (by kernel_rfl) rfl rfl rfl rfl rfl (fun _ => by kernel_rfl) (fun bs dI bA dq az cJ => ?_)
     have cK := am.callB az bA cJ
     have cw := Nat.le_trans aa.size bA
     have aM := aa.trans az (by simp)
     refine ⟨aM, ?_⟩
     have cL := bo.trans az (by simp)
     have cM := own_fr bp az (by simp)
     have cN := own_fr bq az (by simp)
     have cO := mgsIn.fr br az (by simp)
     refine WDq hN 10 28 (.agg #[.int .i64 10, .slice (some ⟨bs, 0, none⟩) 1 1, .slice none 0 0]) aM ?_
     refine WD.new 11 (fun b => .slice (some ⟨b, 0, none⟩) 1 1) (.cells #[.int .i64 10, .slice (some ⟨bs, 0, none⟩) 1 1, .slice none 0 0] 40) (by kernel_rfl) rfl rfl rfl rfl rfl (fun _ => by kernel_rfl) (fun df dJ bB dr aA cP => ?_)
     have aN := cK.callB aA bB cP
     have cx := Nat.le_trans aM.size bB
     have bC := aM.trans aA (by simp)
     refine ⟨bC, ?_⟩
     have ds := cL.trans aA (by simp)
     have cQ := own_fr cM aA (by simp)
     have cR := own_fr cN aA (by simp)
     have cS := mgsIn.fr cO aA (by simp)
     obtain ⟨dK, dL, cT, cU, bt, aO, cV, cW⟩ := app_run Try.prog aN 1 (v := .slice Am ms.length cm) rfl 34 34 40 3 56 ms.length 1 1 (some ⟨df, 0, none⟩) rfl cR [.int .i64 10, .slice (some ⟨bs, 0, none⟩) 1 1, .slice none 0 0] rfl (srcOk.blk 1 (aN.get 2 rfl)) rfl (by simp only [maxLen]; omega) (by omega)
     have bD := own_snoc (enc := cellsM) (ys := ms) (⟨10, some ⟨bs, 0, none⟩, 1, [b]⟩ : Mg) cU
     obtain ⟨cy, cz, rfl, dg⟩ := own_form bD
     have aD := bC.trans bt (fun x_ hx_ => .inl (List.mem_cons_of_mem _ hx_))
     refine WD.sem 12 (Builtin.append_ #[34, 34] 34 #[.slice Am ms.length cm, .slice (some ⟨df, 0, none⟩) 1 1]) 30 (.slice cy (ms.length + 1) cz) (by kernel_rfl) (by kernel_rfl) cT aD ?_
     have cX := own_fr cQ bt (aN.disj 0 1 rfl rfl (by decide))
     have cY := mgsIn.fr cS bt (aN.disj 2 1 rfl rfl (by decide))
     refine WDq hN 13 31 (.pointer (some ⟨p, 0, none⟩)) aD ?_
     refine WDq hN 14 32 (.pointer (some ⟨p, 3, none⟩)) aD ?_
     obtain ⟨dt, cZ, aP, bE⟩ := sto_run (c' := #[.int .i64 b, .bool o, .slice Av vs.length cv, .slice cy (ms.length + 1) cz]) Try.prog aO 0 34 p 3 (.slice cy (ms.length + 1) cz) rfl (by kernel_rfl)
     have c0 := aD.trans aP (by first | (simp; done) | (simp [*]; done) | (have q_ := aD.size; simp; omega))
     refine WD.semU 15 (Instr.storeAt 34 (.pointer (some ⟨p, 3, none⟩)) (.slice cy (ms.length + 1) cz)) (by kernel_rfl) (by kernel_rfl) cZ c0 ?_
     have c1 := own_fr cX aP (aO.apartM 0 0 rfl rfl)
     have c2 := own_fr bD aP (aO.apartM 1 0 rfl rfl)
     have c3 := mgsIn.fr cY aP (aO.apartM 2 0 rfl rfl)
     refine WD.done (by kernel_rfl) ?_
     refine (hret _ _ _ rfl ?_).2
     clear hN hret hret' ax hK4 hK2
     have hz_ : tickV b o vs now = [(10, [b])] := by unfold tickV; rw [if_pos ⟨bk, by have z_ := ah; simpa using z_⟩]; simp [ay]
     rw [hz_]
     have bF : World.ownsRow dt 0 3 1 (.slice (some ⟨bs, 0, none⟩) 1 1) 1 ([b].flatMap (Go.Tw.encI .i64)) := own_of_blk (Nat.zero_le _) (bE.get 1 rfl) (Nat.le_refl _) (by decide) rfl rfl
     have bG := bE.toF 1 rfl
     have hmg_ := c3.snoc (S := blk (.slice (some ⟨bs, 0, none⟩) 1 1)) (m := (⟨10, (some ⟨bs, 0, none⟩), 1, [b]⟩ : Mg)) (own_rd bF (Go.Tw.encI_len _) (by decide)) (by simp only [List.length_cons, List.length_nil]; omega) (fun b_ off_ e_ => blk_one e_) (own_lt bF)
     have hsd_ := c2
     obtain ⟨F2_, h1_, h2_⟩ := sp_close2 bG 0 0 1 2 3 rfl rfl rfl rfl rfl c1 hsd_ hmg_ (show _ = V ++ [(10, [b])] from by rw [List.map_append, hV_]; rfl) (by decide) (by decide) (by decide) (by decide) (by decide)
     exact ⟨F2_, rfl, bG.fr, h1_, h2_⟩
    ·
     refine WO.sem 8 (Instr.loadAt 3 (.pointer (some ⟨p, 0, none⟩))) 26 (.int .i64 b) (by kernel_rfl) (by kernel_rfl) (run_ld (am.get 0 rfl) rfl) aa ?_
     refine WD.all2 4 9 (by kernel_rfl) ?_ ?_
     ·
      refine WO.sem 4 (Instr.loadAt 34 (.pointer (some ⟨p, 3, none⟩))) 22 (.slice Am ms.length cm) (by kernel_rfl) (by kernel_rfl) (run_ld (am.get 0 rfl) rfl) aa ?_
      refine WD.new 9 (fun b => .slice (some ⟨b, 0, none⟩) 1 1) (.cells #[.int .i64 b] 3) (by kernel_rfl) rfl rfl rfl rfl rfl (fun _ => by kernel_rfl) (fun bu dM bH du aB c4 => ?_)
      have c5 := am.callB aB bH c4
      have cA := Nat.le_trans aa.size bH
      have aQ := aa.trans aB (by simp)
      refine ⟨aQ, ?_⟩
      have c6 := bo.trans aB (by simp)
      have c7 := own_fr bp aB (by simp)
      have c8 := own_fr bq aB (by simp)
      have bI := mgsIn.fr br aB (by simp)
      refine WDq hN 10 28 (.agg #[.int .i64 10, .slice (some ⟨bu, 0, none⟩) 1 1, .slice none 0 0]) aQ ?_
      refine WD.new 11 (fun b => .slice (some ⟨b, 0, none⟩) 1 1) (.cells #[.int .i64 10, .slice (some ⟨bu, 0, none⟩) 1 1, .slice none 0 0] 40) (by kernel_rfl) rfl rfl rfl rfl rfl (fun _ => by kernel_rfl) (fun bJ dv aY dh ad bK => ?_)
      have an := c5.callB ad aY bK
      have bL := Nat.le_trans aQ.size aY
      have aZ := aQ.trans ad (by simp)
      refine ⟨aZ, ?_⟩
      have di := c6.trans ad (by simp)
      have bM := own_fr c7 ad (by simp)
      have bN := own_fr c8 ad (by simp)
      have bO := mgsIn.fr bI ad (by simp)
      obtain ⟨dw, dx, bP, bQ, aE, ao, cB, cC⟩ := app_run Try.prog an 1 (v := .slice Am ms.length cm) rfl 34 34 40 3 56 ms.length 1 1 (some ⟨bJ, 0, none⟩) rfl bN [.int .i64 10, .slice (some ⟨bu, 0, none⟩) 1 1, .slice none 0 0] rfl (srcOk.blk 1 (an.get 2 rfl)) rfl (by simp only [maxLen]; omega) (by omega)
      have a0 := own_snoc (enc := cellsM) (ys := ms) (⟨10, some ⟨bu, 0, none⟩, 1, [b]⟩ : Mg) bQ
      obtain ⟨aR, aS, rfl, c9⟩ := own_form a0
      have ai := aZ.trans aE (fun x_ hx_ => .inl (List.mem_cons_of_mem _ hx_))
      refine WD.sem 12 (Builtin.append_ #[34, 34] 34 #[.slice Am ms.length cm, .slice (some ⟨bJ, 0, none⟩) 1 1]) 30 (.slice aR (ms.length + 1) aS) (by kernel_rfl) (by kernel_rfl) bP ai ?_
      have bR := own_fr bM aE (an.disj 0 1 rfl rfl (by decide))
      have bS := mgsIn.fr bO aE (an.disj 2 1 rfl rfl (by decide))
      refine WDq hN 13 31 (.pointer (some ⟨p, 0, none⟩)) ai ?_
      refine WDq hN 14 32 (.pointer (some ⟨p, 3, none⟩)) ai ?_
      obtain ⟨da, bT, ap, a1⟩ := sto_run (c' := #[.int .i64 b, .bool o, .slice Av vs.length cv, .slice aR (ms.length + 1) aS]) Try.prog ao 0 34 p 3 (.slice aR (ms.length + 1) aS) rfl (by kernel_rfl)
      have bU := ai.trans ap (by first | (simp; done) | (simp [*]; done) | (have q_ := ai.size; simp; omega))
      refine WD.semU 15 (Instr.storeAt 34 (.pointer (some ⟨p, 3, none⟩)) (.slice aR (ms.length + 1) aS)) (by kernel_rfl) (by kernel_rfl) bT bU ?_
      have bV := own_fr bR ap (ao.apartM 0 0 rfl rfl)
      have bW := own_fr a0 ap (ao.apartM 1 0 rfl rfl)
      have bX := mgsIn.fr bS ap (ao.apartM 2 0 rfl rfl)
      refine WD.done (by kernel_rfl) ?_
      refine (hret _ _ _ rfl ?_).2
      clear hN hret hret' ax hK4 hK2
      have hz_ : tickV b o vs now = [(10, [b])] := by unfold tickV; rw [if_pos ⟨bk, by have z_ := ah; simpa using z_⟩]; simp [ay]
      rw [hz_]
      have a2 : World.ownsRow da 0 3 1 (.slice (some ⟨bu, 0, none⟩) 1 1) 1 ([b].flatMap (Go.Tw.encI .i64)) := own_of_blk (Nat.zero_le _) (a1.get 1 rfl) (Nat.le_refl _) (by decide) rfl rfl
      have a3 := a1.toF 1 rfl
      have hmg_ := bX.snoc (S := blk (.slice (some ⟨bu, 0, none⟩) 1 1)) (m := (⟨10, (some ⟨bu, 0, none⟩), 1, [b]⟩ : Mg)) (own_rd a2 (Go.Tw.encI_len _) (by decide)) (by simp only [List.length_cons, List.length_nil]; omega) (fun b_ off_ e_ => blk_one e_) (own_lt a2)
      have hsd_ := bW
      obtain ⟨F2_, h1_, h2_⟩ := sp_close2 a3 0 0 1 2 3 rfl rfl rfl rfl rfl bV hsd_ hmg_ (show _ = V ++ [(10, [b])] from by rw [List.map_append, hV_]; rfl) (by decide) (by decide) (by decide) (by decide) (by decide)
      exact ⟨F2_, rfl, a3.fr, h1_, h2_⟩
     ·
      refine WO.new 9 (fun b => .slice (some ⟨b, 0, none⟩) 1 1) (.cells #[.int .i64 b] 3) (by kernel_rfl) rfl rfl rfl rfl rfl (fun _ => by kernel_rfl) (fun ab dy a4 dj ae bY => ?_)
      have aF := am.callB ae a4 bY
      have bZ := Nat.le_trans aa.size a4
      have ac := aa.trans ae (by simp)
      refine ⟨ac, ?_⟩
      have a5 := bo.trans ae (by simp)
      have a6 := own_fr bp ae (by simp)
      have a7 := own_fr bq ae (by simp)
      have a8 := mgsIn.fr br ae (by simp)
      refine WDq hN 10 28 (.agg #[.int .i64 10, .slice (some ⟨ab, 0, none⟩) 1 1, .slice none 0 0]) ac ?_
      refine WD.all2 4 11 (by kernel_rfl) ?_ ?_
      ·
       refine WO.sem 4 (Instr.loadAt 34 (.pointer (some ⟨p, 3, none⟩))) 22 (.slice Am ms.length cm) (by kernel_rfl) (by kernel_rfl) (run_ld (aF.get 0 rfl) rfl) ac ?_
       refine WD.new 11 (fun b => .slice (some ⟨b, 0, none⟩) 1 1) (.cells #[.int .i64 10, .slice (some ⟨ab, 0, none⟩) 1 1, .slice none 0 0] 40) (by kernel_rfl) rfl rfl rfl rfl rfl (fun _ => by kernel_rfl) (fun b0 dz a9 dk af b1 => ?_)
       have aq := aF.callB af a9 b1
       have b2 := Nat.le_trans ac.size a9
       have ba := ac.trans af (by simp)
       refine ⟨ba, ?_⟩
       have dl := a5.trans af (by simp)
       have b3 := own_fr a6 af (by simp)
       have b4 := own_fr a7 af (by simp)
       have b5 := mgsIn.fr a8 af (by simp)
       obtain ⟨dA, dB, b6, b7, aG, ar, cD, cE⟩ := app_run Try.prog aq 1 (v := .slice Am ms.length cm) rfl 34 34 40 3 56 ms.length 1 1 (some ⟨b0, 0, none⟩) rfl b4 [.int .i64 10, .slice (some ⟨ab, 0, none⟩) 1 1, .slice none 0 0] rfl (srcOk.blk 1 (aq.get 2 rfl)) rfl (by simp only [maxLen]; omega) (by omega)
       have bb := own_snoc (enc := cellsM) (ys := ms) (⟨10, some ⟨ab, 0, none⟩, 1, [b]⟩ : Mg) b7
       obtain ⟨aT, aU, rfl, db⟩ := own_form bb
       have aj := ba.trans aG (fun x_ hx_ => .inl (List.mem_cons_of_mem _ hx_))
       refine WD.sem 12 (Builtin.append_ #[34, 34] 34 #[.slice Am ms.length cm, .slice (some ⟨b0, 0, none⟩) 1 1]) 30 (.slice aT (ms.length + 1) aU) (by kernel_rfl) (by kernel_rfl) b6 aj ?_
       have b8 := own_fr b3 aG (aq.disj 0 1 rfl rfl (by decide))
       have b9 := mgsIn.fr b5 aG (aq.disj 2 1 rfl rfl (by decide))
       refine WDq hN 13 31 (.pointer (some ⟨p, 0, none⟩)) aj ?_
       refine WDq hN 14 32 (.pointer (some ⟨p, 3, none⟩)) aj ?_
       obtain ⟨dc, ca, au, bc⟩ := sto_run (c' := #[.int .i64 b, .bool o, .slice Av vs.length cv, .slice aT (ms.length + 1) aU]) Try.prog ar 0 34 p 3 (.slice aT (ms.length + 1) aU) rfl (by kernel_rfl)
       have cb := aj.trans au (by first | (simp; done) | (simp [*]; done) | (have q_ := aj.size; simp; omega))
       refine WD.semU 15 (Instr.storeAt 34 (.pointer (some ⟨p, 3, none⟩)) (.slice aT (ms.length + 1) aU)) (by kernel_rfl) (by kernel_rfl) ca cb ?_
       have cc := own_fr b8 au (ar.apartM 0 0 rfl rfl)
       have cd := own_fr bb au (ar.apartM 1 0 rfl rfl)
       have ce := mgsIn.fr b9 au (ar.apartM 2 0 rfl rfl)
       refine WD.done (by kernel_rfl) ?_
       refine (hret _ _ _ rfl ?_).2
       clear hN hret hret' ax hK4 hK2
       have hz_ : tickV b o vs now = [(10, [b])] := by unfold tickV; rw [if_pos ⟨bk, by have z_ := ah; simpa using z_⟩]; simp [ay]
       rw [hz_]
       have bd : World.ownsRow dc 0 3 1 (.slice (some ⟨ab, 0, none⟩) 1 1) 1 ([b].flatMap (Go.Tw.encI .i64)) := own_of_blk (Nat.zero_le _) (bc.get 1 rfl) (Nat.le_refl _) (by decide) rfl rfl
       have be := bc.toF 1 rfl
       have hmg_ := ce.snoc (S := blk (.slice (some ⟨ab, 0, none⟩) 1 1)) (m := (⟨10, (some ⟨ab, 0, none⟩), 1, [b]⟩ : Mg)) (own_rd bd (Go.Tw.encI_len _) (by decide)) (by simp only [List.length_cons, List.length_nil]; omega) (fun b_ off_ e_ => blk_one e_) (own_lt bd)
       have hsd_ := cd
       obtain ⟨F2_, h1_, h2_⟩ := sp_close2 be 0 0 1 2 3 rfl rfl rfl rfl rfl cc hsd_ hmg_ (show _ = V ++ [(10, [b])] from by rw [List.map_append, hV_]; rfl) (by decide) (by decide) (by decide) (by decide) (by decide)
       exact ⟨F2_, rfl, be.fr, h1_, h2_⟩
      ·
       refine WO.new 11 (fun b => .slice (some ⟨b, 0, none⟩) 1 1) (.cells #[.int .i64 10, .slice (some ⟨ab, 0, none⟩) 1 1, .slice none 0 0] 40) (by kernel_rfl) rfl rfl rfl rfl rfl (fun _ => by kernel_rfl) (fun cf dC bf dm ag cg => ?_)
       have ak := aF.callB ag bf cg
       have ch := Nat.le_trans ac.size bf
       have aH := ac.trans ag (by simp)
       refine ⟨aH, ?_⟩
       have dn := a5.trans ag (by simp)
       have ci := own_fr a6 ag (by simp)
       have cj := own_fr a7 ag (by simp)
       have ck := mgsIn.fr a8 ag (by simp)
       refine WD.sem 4 (Instr.loadAt 34 (.pointer (some ⟨p, 3, none⟩))) 22 (.slice Am ms.length cm) (by kernel_rfl) (by kernel_rfl) (run_ld (ak.get 0 rfl) rfl) aH ?_
       obtain ⟨dD, dE, cl, cn, aI, av, cF, cG⟩ := app_run Try.prog ak 1 (v := .slice Am ms.length cm) rfl 34 34 40 3 56 ms.length 1 1 (some ⟨cf, 0, none⟩) rfl cj [.int .i64 10, .slice (some ⟨ab, 0, none⟩) 1 1, .slice none 0 0] rfl (srcOk.blk 1 (ak.get 2 rfl)) rfl (by simp only [maxLen]; omega) (by omega)
       have bg := own_snoc (enc := cellsM) (ys := ms) (⟨10, some ⟨ab, 0, none⟩, 1, [b]⟩ : Mg) cn
       obtain ⟨aV, aW, rfl, dd⟩ := own_form bg
       have al := aH.trans aI (fun x_ hx_ => .inl (List.mem_cons_of_mem _ hx_))
       refine WD.sem 12 (Builtin.append_ #[34, 34] 34 #[.slice Am ms.length cm, .slice (some ⟨cf, 0, none⟩) 1 1]) 30 (.slice aV (ms.length + 1) aW) (by kernel_rfl) (by kernel_rfl) cl al ?_
       have co := own_fr ci aI (ak.disj 0 1 rfl rfl (by decide))
       have cp := mgsIn.fr ck aI (ak.disj 2 1 rfl rfl (by decide))
       refine WDq hN 13 31 (.pointer (some ⟨p, 0, none⟩)) al ?_
       refine WDq hN 14 32 (.pointer (some ⟨p, 3, none⟩)) al ?_
       obtain ⟨de, cq, aw, bh⟩ := sto_run (c' := #[.int .i64 b, .bool o, .slice Av vs.length cv, .slice aV (ms.length + 1) aW]) Try.prog av 0 34 p 3 (.slice aV (ms.length + 1) aW) rfl (by kernel_rfl)
       have cr := al.trans aw (by first | (simp; done) | (simp [*]; done) | (have q_ := al.size; simp; omega))
       refine WD.semU 15 (Instr.storeAt 34 (.pointer (some ⟨p, 3, none⟩)) (.slice aV (ms.length + 1) aW)) (by kernel_rfl) (by kernel_rfl) cq cr ?_
       have cs := own_fr co aw (av.apartM 0 0 rfl rfl)
       have ct := own_fr bg aw (av.apartM 1 0 rfl rfl)
       have cu := mgsIn.fr cp aw (av.apartM 2 0 rfl rfl)
       refine WD.done (by kernel_rfl) ?_
       refine (hret _ _ _ rfl ?_).2
       clear hN hret hret' ax hK4 hK2
       have hz_ : tickV b o vs now = [(10, [b])] := by unfold tickV; rw [if_pos ⟨bk, by have z_ := ah; simpa using z_⟩]; simp [ay]
       rw [hz_]
       have bi : World.ownsRow de 0 3 1 (.slice (some ⟨ab, 0, none⟩) 1 1) 1 ([b].flatMap (Go.Tw.encI .i64)) := own_of_blk (Nat.zero_le _) (bh.get 1 rfl) (Nat.le_refl _) (by decide) rfl rfl
       have bj := bh.toF 1 rfl
       have hmg_ := cu.snoc (S := blk (.slice (some ⟨ab, 0, none⟩) 1 1)) (m := (⟨10, (some ⟨ab, 0, none⟩), 1, [b]⟩ : Mg)) (own_rd bi (Go.Tw.encI_len _) (by decide)) (by simp only [List.length_cons, List.length_nil]; omega) (fun b_ off_ e_ => blk_one e_) (own_lt bi)
       have hsd_ := ct
       obtain ⟨F2_, h1_, h2_⟩ := sp_close2 bj 0 0 1 2 3 rfl rfl rfl rfl rfl cs hsd_ hmg_ (show _ = V ++ [(10, [b])] from by rw [List.map_append, hV_]; rfl) (by decide) (by decide) (by decide) (by decide) (by decide)
       exact ⟨F2_, rfl, bj.fr, h1_, h2_⟩

set_option maxHeartbeats 1000000 in
theorem RRecv_ct (F : List Nat) (p : Nat) (b : Int) (o : Bool) (vs : List Int) (V : List (Int × List Int)) (kd : Int) (An : Option Addr) (cn : Nat) (N : List Int) (Ad : Option Addr) (dn dc : Nat)  (w : World) (ht : spAt 36 w F p b o vs V) (hvk : vs.length ≤ 39 ∧ ∀ x ∈ vs, 0 ≤ x ∧ x ≤ 4294967295) (hml : V.length ≤ 1099511627776) (hrn : Rd w 1 (Go.Tw.encI .i64) An N) (hnF : N ≠ [] → ∀ b2 off, An = some ⟨b2, off, none⟩ → b2 ∉ F) : Calls Try.prog 15 #[.pointer (some ⟨p, 0, none⟩), .agg #[.int .i64 kd, .slice An N.length cn, .slice Ad dn dc]] w fun e w' => ∃ F', e = .returned (.tuple #[]) ∧ Fr w w' F ∧ spAt 36 w' F' p b (recvO b o kd N) vs (V ++ recvM b kd vs N) ∧ ∀ x ∈ F', x ∈ F ∨ w.heap.size ≤ x := by
 refine enterD (n := 33) Try.func15 rfl rfl (Nat.le_of_ble_eq_true rfl) ?_
 intro Q0 hN hret hret'
 have ht0 := ht
 obtain ⟨Av, cv, Am, cm, ms, R, hp_, hv_, hs_, hg_, hV_, rfl, pA_, pB_, pR_, dAB_, dAR_, dBR_⟩ := ht
 have hC := Cx.open3 hp_ (own_lt hv_) (own_lt hs_) hg_.2 pA_ pB_ pR_ dAB_ dAR_ dBR_
 have hcm_ := own_le hs_
 have hcx_ : ms.length = V.length := by rw [← hV_, List.length_map]
 have hvl_ := own_max hv_
 refine WCs (fun K1 hK2 => ?_)
 refine WCg ?_
 refine WL.newM hC (fun b => .pointer (some ⟨b, 0, none⟩)) (.cells #[.int .i64 kd, .slice An N.length cn, .slice Ad dn dc] 40) 3 (fun _ => by kernel_rfl) (fun g3 w4 hb7 hF5 hC6 => ?_)
 have hf8 := (Fr.refl w []).trans hF5 (by simp)
 have ho9 := own_fr hv_ hF5 (by simp)
 have aN := own_fr hs_ hF5 (by simp)
 have aO := mgsIn.fr hg_ hF5 (by simp)
 refine WLd rfl (QXn (hK2 _ _ ?_))
 refine WCs (fun a5 ah => ?_)
 refine WCs (fun a6 ad => ?_)
 refine WC.drawC hC6 [] (by kernel_rfl) (fun a7 ao ab aa => ?_)
 have aZ := hf8.trans ao (by simp)
 have aj := own_fr ho9 ao (by simp)
 have ak := own_fr aN ao (by simp)
 have al := mgsIn.fr aO ao (by simp)
 refine WDq (NPt (NPt hN)) 0 4 (.pointer (some ⟨g3, 1, none⟩)) aa ?_
 refine WDm (NPt (NPt hN)) 1 37 (.pointer (some ⟨g3, 1, none⟩)) (.slice An N.length cn) 5 (fun _ hS_ => run_ld (Fr.has hS_ (ab.get 1 rfl) (by simp)) rfl) aa ?_
 refine WDq (NPt (NPt hN)) 2 6 (.int .i64 (N.length : Int)) aa ?_
 refine WDq (NPt (NPt hN)) 3 7 (.bool ((N.length : Int) != 1)) aa ?_
 refine WDq (NPt (NPt hN)) 4 8 (.bool ((N.length : Int) != 1)) aa ?_
 refine WDa 8 ((N.length : Int) != 1) rfl (fun ae => ?_) (fun ae => ?_)
 ·
  have a0 : (N.length : Int) ≠ 1 := by simpa using ae
  refine WDq (NPt (NPt hN)) 5 9 (undef) aa ?_
  refine WDq (NPt (NPt hN)) 6 10 (undef) aa ?_
  refine WDq (NPt (NPt hN)) 7 11 (undef) aa ?_
  refine WDq (NPt (NPt hN)) 8 12 (undef) aa ?_
  refine WDq (NPt (NPt hN)) 9 13 (undef) aa ?_
  refine WDq (NPt (NPt hN)) 10 14 (undef) aa ?_
  refine WDq (NPt (NPt hN)) 11 15 (undef) aa ?_
  refine WDq (NPt (NPt hN)) 12 16 (undef) aa ?_
  refine WDq (NPt (NPt hN)) 13 17 (undef) aa ?_
  refine WDq (NPt (NPt hN)) 14 18 (.bool true) aa ?_
  refine WD.done (by kernel_rfl) ?_
  refine QXn (ad _ _ ?_)
  refine WCt rfl ?_
  refine WC.ret ?_
  refine QXr ?_
  refine (hret _ _ _ rfl ?_).1
  clear hN hret hret' ad ah hK2
  have hnb_ : N ≠ [b] := fun q_ => by have z_ := ae; rw [q_] at z_; simp at z_
  have hz1_ : recvO b o kd N = o := if_neg hnb_
  have hz_ : recvM b kd vs N = [] := if_neg (fun q_ => hnb_ q_.1)
  obtain ⟨F25, aD, ar⟩ := sp_close ab 0 0 1 2 rfl rfl rfl rfl aj ak al (show _ = V ++ recvM b kd vs N from by rw [hz_, List.append_nil]; exact hV_) (by decide) (by decide) (by decide)
  exact ⟨F25, rfl, ab.fr, by rw [hz1_]; exact aD, ar⟩
 ·
  have a0 : (N.length : Int) = 1 := by simpa using ae
  refine WDq (NPt (NPt hN)) 5 9 (.pointer (some ⟨g3, 1, none⟩)) aa ?_
  refine WDq (NPt (NPt hN)) 9 13 (.pointer (some ⟨p, 0, none⟩)) aa ?_
  refine WDq (NPt (NPt hN)) 10 14 (.pointer (some ⟨p, 0, none⟩)) aa ?_
  refine WDq (NPt (NPt hN)) 11 15 (.pointer (some ⟨p, 0, none⟩)) aa ?_
  refine WDm (NPt (NPt hN)) 6 37 (.pointer (some ⟨g3, 1, none⟩)) (.slice An N.length cn) 10 (fun _ hS_ => run_ld (Fr.has hS_ (ab.get 1 rfl) (by simp)) rfl) aa ?_
  obtain ⟨aC, ai⟩ := get_some (xs := N) (i := 0) (by omega)
  obtain ⟨b30, o32, aE, aP⟩ := hrn.at_ _ _ ai
  refine WDi (NPt (NPt hN)) 7 An N.length cn 11 .i64 0 b30 o32 0 1 (by kernel_rfl) (by kernel_rfl) aE (by omega) (by omega) (o32 + 0) (by first | (simp; done) | omega) aa ?_
  refine WDm (NPt (NPt hN)) 8 3 (.pointer (some ⟨b30, o32 + 0, none⟩)) (.int .i64 aC) 12 (fun _ hS_ => run_load1 rfl (by simpa [Nat.add_assoc] using Fr.cell hS_ (ab.fr.cell (aP 0 _ rfl) (by have z_ := hnF (ne_of_get ai) _ _ aE; simpa using z_)) (by simp))) aa ?_
  refine WDm (NPt (NPt hN)) 12 3 (.pointer (some ⟨p, 0, none⟩)) (.int .i64 b) 16 (fun _ hS_ => run_ld (Fr.has hS_ (ab.get 0 rfl) (by simp)) rfl) aa ?_
  refine WDq (NPt (NPt hN)) 13 17 (.bool (aC != b)) aa ?_
  refine WDq (NPt (NPt hN)) 14 18 (.bool (aC != b)) aa ?_
  refine WD.done (by kernel_rfl) ?_
  refine QXn (ad _ _ ?_)
  refine WCa 18 (aC != b) rfl (fun af => ?_) (fun af => ?_)
  ·
   have a1 : aC ≠ b := by simpa using af
   refine WCt rfl ?_
   refine WC.ret ?_
   refine QXr ?_
   refine (hret _ _ _ rfl ?_).1
   clear hN hret hret' ad ah hK2
   have hnb_ : N ≠ [b] := fun q_ => by have z_ := af; have y_ := ai; rw [q_] at y_; simp at y_; rw [y_] at z_; simp at z_
   have hz1_ : recvO b o kd N = o := if_neg hnb_
   have hz_ : recvM b kd vs N = [] := if_neg (fun q_ => hnb_ q_.1)
   obtain ⟨F35, aF, au⟩ := sp_close ab 0 0 1 2 rfl rfl rfl rfl aj ak al (show _ = V ++ recvM b kd vs N from by rw [hz_, List.append_nil]; exact hV_) (by decide) (by decide) (by decide)
   exact ⟨F35, rfl, ab.fr, by rw [hz1_]; exact aF, au⟩
  ·
   have a1 : aC = b := by simpa using af
   refine WCf rfl (WC.skip (QXn (ah _ _ ?_)))
   refine WCs (fun a8 am => ?_)
   refine WCs (fun a9 ap => ?_)
   refine WCg (WLq 1 [(19, .pointer (some ⟨g3, 0, none⟩))] ?_)
   refine WLo 3 (.pointer (some ⟨g3, 0, none⟩)) (.int .i64 kd) 20 (run_ld (ab.get 1 rfl) rfl) ?_
   refine WLq 1 [(21, .bool (kd == 11))] (WLd rfl (QXn (ap _ _ ?_)))
   refine WCa 21 (kd == 11) rfl (fun ag => ?_) (fun ag => ?_)
   ·
    have a2 : kd = 11 := by simpa using ag
    refine WCt rfl ?_
    refine WCs (fun ba aG => ?_)
    refine WCg (WLq 3 [(24, .pointer (some ⟨p, 1, none⟩)), (23, .pointer (some ⟨p, 0, none⟩)), (22, .pointer (some ⟨p, 0, none⟩))] ?_)
    refine WLs (c' := #[.int .i64 b, .bool true, .slice Av vs.length cv, .slice Am ms.length cm]) ab 0 4 p 1 (.bool true) (by kernel_rfl) rfl (by kernel_rfl) (fun a3 av aQ => ?_)
    have aR := own_fr aj av (ab.apartM 0 0 rfl rfl)
    have aS := own_fr ak av (ab.apartM 1 0 rfl rfl)
    have aT := mgsIn.fr al av (ab.apartM 2 0 rfl rfl)
    refine WLd rfl (QXn (aG _ _ ?_))
    refine WCg (WLq 1 [(25, .pointer (some ⟨p, 0, none⟩))] ?_)
    obtain ⟨F52, aH, aU⟩ := sp_tell (Cx.pickX aQ [0, 1] [0, 1, 2] (by decide) (by decide) rfl rfl) aR aS aT hV_
    refine WLc rfl rfl rfl rfl rfl (by kernel_rfl) (Rroutes_ct F52 p b true vs V a3 aH hvk hml) ?_
    rintro _ bb ⟨F55, rfl, aV, aq, aw⟩
    have ax := aU.callF 0 rfl aV aw (spAt_lt aq)
    refine ⟨_, rfl, ?_⟩
    refine WLd rfl (QXn (am _ _ ?_))
    refine WCs (fun bc aI => ?_)
    refine WCg (WLq 1 [(27, .pointer (some ⟨g3, 0, none⟩))] ?_)
    refine WLo 3 (.pointer (some ⟨g3, 0, none⟩)) (.int .i64 kd) 28 (run_ld (ax.get 0 rfl) rfl) ?_
    refine WLq 1 [(29, .bool (kd == 14))] (WLd rfl (QXn (aI _ _ ?_)))
    refine WC.know 29 (.bool (kd == 14)) (.bool false) rfl (congrArg Value.bool (by rw [eq_of_beq ag]; rfl)) ?_
    refine WCf rfl (WC.skip ?_)
    refine (hret _ _ _ rfl ?_).2
    clear hN hret hret' aI aG ap am ad ah hK2
    have hnb_ : N = [b] := one_is (by have z_ := ae; simp at z_; omega) ai (by have z_ := af; simpa using z_)
    have aJ : kd = 11 := by have z_ := ag; simpa using z_
    have hz_ : recvM b kd vs N = [(12, b :: vs)] := if_pos ⟨hnb_, aJ⟩
    have hz1_ : recvO b o kd N = true := by unfold recvO; rw [if_pos hnb_, if_pos aJ]
    exact ⟨F55, rfl, ax.fr, by rw [hz_, hz1_]; exact aq, ax.ownF _ (by simp)⟩
   ·
    have a2 : ¬ (kd = 11) := by simpa using ag
    refine WCf rfl (WC.skip (QXn (am _ _ ?_)))
    refine WCs (fun bd ay => ?_)
    refine WCg (WLq 1 [(27, .pointer (some ⟨g3, 0, none⟩))] ?_)
    refine WLo 3 (.pointer (some ⟨g3, 0, none⟩)) (.int .i64 kd) 28 (run_ld (ab.get 1 rfl) rfl) ?_
    refine WLq 1 [(29, .bool (kd == 14))] (WLd rfl (QXn (ay _ _ ?_)))
    refine WCa 29 (kd == 14) rfl (fun an => ?_) (fun an => ?_)
    ·
     have a4 : kd = 14 := by simpa using an
     refine WCt rfl ?_
     refine WCg (WLq 3 [(32, .pointer (some ⟨p, 1, none⟩)), (31, .pointer (some ⟨p, 0, none⟩)), (30, .pointer (some ⟨p, 0, none⟩))] ?_)
     refine WLs (c' := #[.int .i64 b, .bool false, .slice Av vs.length cv, .slice Am ms.length cm]) ab 0 4 p 1 (.bool false) (by kernel_rfl) rfl (by kernel_rfl) (fun be az aK => ?_)
     have aW := own_fr aj az (ab.apartM 0 0 rfl rfl)
     have aX := own_fr ak az (ab.apartM 1 0 rfl rfl)
     have aY := mgsIn.fr al az (ab.apartM 2 0 rfl rfl)
     refine WLd rfl ?_
     refine (hret _ _ _ rfl ?_).2
     clear hN hret hret' ay ap am ad ah hK2
     have hnb_ : N = [b] := one_is (by have z_ := ae; simp at z_; omega) ai (by have z_ := af; simpa using z_)
     have ac : kd ≠ 11 := fun q_ => by have z_ := ag; rw [q_] at z_; simp at z_
     have hz_ : recvM b kd vs N = [] := if_neg (fun q_ => ac q_.2)
     have hz1_ : recvO b o kd N = false := by unfold recvO; rw [if_pos hnb_, if_neg ac, if_pos (by have z_ := an; simpa using z_)]
     obtain ⟨F73, aL, aA⟩ := sp_close aK 0 0 1 2 rfl rfl rfl rfl aW aX aY (show _ = V ++ recvM b kd vs N from by rw [hz_, List.append_nil]; exact hV_) (by decide) (by decide) (by decide)
     exact ⟨F73, rfl, aK.fr, by rw [hz1_]; exact aL, aA⟩
    ·
     have a4 : ¬ (kd = 14) := by simpa using an
     refine WCf rfl (WC.skip ?_)
     refine (hret _ _ _ rfl ?_).2
     clear hN hret hret' ay ap am ad ah hK2
     have hnb_ : N = [b] := one_is (by have z_ := ae; simp at z_; omega) ai (by have z_ := af; simpa using z_)
     have ac : kd ≠ 11 := fun q_ => by have z_ := ag; rw [q_] at z_; simp at z_
     have hz_ : recvM b kd vs N = [] := if_neg (fun q_ => ac q_.2)
     have hz1_ : recvO b o kd N = o := by unfold recvO; rw [if_pos hnb_, if_neg ac, if_neg (fun q_ => by have z_ := an; rw [q_] at z_; simp at z_)]
     obtain ⟨F76, aM, aB⟩ := sp_close ab 0 0 1 2 rfl rfl rfl rfl aj ak al (show _ = V ++ recvM b kd vs N from by rw [hz_, List.append_nil]; exact hV_) (by decide) (by decide) (by decide)
     exact ⟨F76, rfl, ab.fr, by rw [hz1_]; exact aM, aB⟩

set_option maxHeartbeats 1000000 in
theorem RAnn_ct (F : List Nat) (p : Nat) (b : Int) (o : Bool) (vs : List Int) (V : List (Int × List Int)) (A : Option Addr) (c : Nat) (xs : List Int)  (w : World) (ht : spAt 36 w F p b o vs V) (hvk : vs.length ≤ 39 ∧ ∀ x ∈ vs, 0 ≤ x ∧ x ≤ 4294967295) (hml : V.length ≤ 1099511627776) (hr : Rd w 1 (Go.Tw.encI .u32) A xs) (hlen : xs.length ≤ 1099511627776) (ao : ∀ x ∈ xs, 0 ≤ x ∧ x ≤ 4294967295) : Calls Try.prog 13 #[.pointer (some ⟨p, 0, none⟩), .slice A xs.length c] w fun e w' => ∃ F', e = .returned (.tuple #[]) ∧ Fr w w' F ∧ spAt 36 w' F' p b o (annV xs) (V ++ annM b o vs xs) ∧ ∀ x ∈ F', x ∈ F ∨ w.heap.size ≤ x := by
 refine enterD (n := 23) Try.func13 rfl rfl (Nat.le_of_ble_eq_true rfl) ?_
 intro Q0 hN hret hret'
 have hann_ := annV_ok ao
 have hal_ := hann_.1
 have ht0 := ht
 obtain ⟨Av, cv, Am, cm, ms, R, hp_, hv_, hs_, hg_, hV_, rfl, pA_, pB_, pR_, dAB_, dAR_, dBR_⟩ := ht
 have hC := Cx.open3 hp_ (own_lt hv_) (own_lt hs_) hg_.2 pA_ pB_ pR_ dAB_ dAR_ dBR_
 have hcm_ := own_le hs_
 have hcx_ : ms.length = V.length := by rw [← hV_, List.length_map]
 have hvl_ := own_max hv_
 refine WCs (fun K1 hK2 => ?_)
 refine WCg (WLq 1 [(5, .slice A xs.length c)] ?_)
 refine WLc rfl rfl rfl rfl rfl (by kernel_rfl) (RSorted_n A xs.length c xs rfl w (Rd.fr hr (Fr.refl w [])) hlen ao) ?_
 rintro _ w5 ⟨v_, rfl, hF4, ho3⟩
 have hC6 := hC.callN hF4 (own_ge ho3) (own_lt ho3)
 obtain ⟨A7, c8, rfl, hle9⟩ := own_form ho3
 have ap := own_base (b' := 0) ho3 (fun _ _ => Nat.zero_le _)
 refine ⟨_, rfl, ?_⟩
 have aC := (Fr.refl w []).trans hF4 (by simp)
 have aq := own_fr hv_ hF4 (by simp)
 have aD := own_fr hs_ hF4 (by simp)
 have aE := mgsIn.fr hg_ hF4 (by simp)
 refine WLq 1 [(4, .slice A7 ((annV xs).length) c8)] (WLd rfl (QXn (hK2 _ _ ?_)))
 refine WCs (fun aM ae => ?_)
 refine WCs (fun aN af => ?_)
 refine WCg (WLq 4 [(10, .pointer (some ⟨p, 2, none⟩)), (9, .pointer (some ⟨p, 0, none⟩)), (8, .pointer (some ⟨p, 0, none⟩)), (7, .slice A7 ((annV xs).length) c8)] ?_)
 refine WLo 33 (.pointer (some ⟨p, 2, none⟩)) (.slice Av vs.length cv) 11 (run_ld (hC6.get 0 rfl) rfl) ?_
 refine WLc rfl rfl rfl rfl rfl (by kernel_rfl) (Rsame_n A7 Av ((annV xs).length) c8 vs.length cv (annV xs) vs w5 (own_rd ap (Go.Tw.encI_len _) (by decide)) rfl (own_rd aq (Go.Tw.encI_len _) (by decide)) rfl (by omega) (by omega)) ?_
 rintro _ aO ⟨rfl, aa⟩
 refine ⟨_, rfl, ?_⟩
 have ab := hC6.call aa
 have aJ := aC.trans aa (by simp)
 have aF := own_fr aq aa (by simp)
 have ar := own_fr aD aa (by simp)
 have au := mgsIn.fr aE aa (by simp)
 have aG := own_fr ap aa (by simp)
 refine WLd rfl (QXn (af _ _ ?_))
 refine WCa 12 (decide (annV xs = vs)) rfl (fun ac => ?_) (fun ac => ?_)
 ·
  have aK : annV xs = vs := of_decide_eq_true ac
  refine WCt rfl ?_
  refine WC.ret ?_
  refine QXr ?_
  refine (hret _ _ _ rfl ?_).1
  clear hN hret hret' af ae hK2
  have he_ : annV xs = vs := of_decide_eq_true ac
  have hz_ : annM b o vs xs = [] := if_neg (fun q_ => q_.1 he_)
  obtain ⟨F29, av, ai⟩ := sp_close ab 0 0 1 2 rfl rfl rfl rfl aF ar au (show _ = V ++ annM b o vs xs from by rw [hz_, List.append_nil]; exact hV_) (by decide) (by decide) (by decide)
  exact ⟨F29, rfl, ab.fr, by rw [he_]; exact av, ai⟩
 ·
  have aK : ¬ (annV xs = vs) := of_decide_eq_false ac
  refine WCf rfl (WC.skip (QXn (ae _ _ ?_)))
  refine WCs (fun aP aj => ?_)
  refine WCg (WLq 4 [(16, .pointer (some ⟨p, 2, none⟩)), (15, .pointer (some ⟨p, 0, none⟩)), (14, .slice A7 ((annV xs).length) c8), (13, .pointer (some ⟨p, 0, none⟩))] ?_)
  refine WLs (c' := #[.int .i64 b, .bool o, .slice A7 ((annV xs).length) c8, .slice Am ms.length cm]) ab 0 33 p 2 (.slice A7 ((annV xs).length) c8) (by kernel_rfl) rfl (by kernel_rfl) (fun aL ak ag => ?_)
  have aw := own_fr ar ak (ab.apartM 1 0 rfl rfl)
  have ax := mgsIn.fr au ak (ab.apartM 2 0 rfl rfl)
  have ay := own_fr aG ak (ab.apartM 3 0 rfl rfl)
  refine WLd rfl (QXn (aj _ _ ?_))
  refine WCs (fun aQ al => ?_)
  refine WCg (WLq 3 [(19, .pointer (some ⟨p, 1, none⟩)), (18, .pointer (some ⟨p, 0, none⟩)), (17, .pointer (some ⟨p, 0, none⟩))] ?_)
  refine WLo 4 (.pointer (some ⟨p, 1, none⟩)) (.bool o) 20 (run_ld (ag.get 0 rfl) rfl) ?_
  refine WLd rfl (QXn (al _ _ ?_))
  refine WCa 20 (o) rfl (fun ah => ?_) (fun ah => ?_)
  ·
   refine WCt rfl ?_
   refine WCg (WLq 1 [(21, .pointer (some ⟨p, 0, none⟩))] ?_)
   obtain ⟨F45, az, aH⟩ := sp_tell (Cx.pickX ag [0] [3, 1, 2] (by decide) (by decide) rfl rfl) ay aw ax hV_
   refine WLc rfl rfl rfl rfl rfl (by kernel_rfl) (Rroutes_ct F45 p b o (annV xs) V aL az hann_ hml) ?_
   rintro _ aR ⟨F48, rfl, aI, ad, am⟩
   have aA := aH.callF 0 rfl aI am (spAt_lt ad)
   refine ⟨_, rfl, ?_⟩
   refine WLd rfl ?_
   refine (hret _ _ _ rfl ?_).2
   clear hN hret hret' al aj af ae hK2
   have hz_ : annM b o vs xs = [(12, b :: annV xs)] := if_pos ⟨of_decide_eq_false ac, ah⟩
   exact ⟨F48, rfl, aA.fr, by rw [hz_]; first | exact ad | (rw [ah]; exact ad), aA.ownF _ (by simp)⟩
  ·
   refine WCf rfl (WC.skip ?_)
   refine (hret _ _ _ rfl ?_).2
   clear hN hret hret' al aj af ae hK2
   have hz_ : annM b o vs xs = [] := if_neg (fun q_ => by rw [ah] at q_; cases q_.2)
   obtain ⟨F54, aB, an⟩ := sp_close ag 0 3 1 2 rfl rfl rfl rfl ay aw ax (show _ = V ++ annM b o vs xs from by rw [hz_, List.append_nil]; exact hV_) (by decide) (by decide) (by decide)
   exact ⟨F54, rfl, ag.fr, aB, an⟩

theorem ROut_ct (F : List Nat) (p : Nat) (b : Int) (o : Bool) (vs : List Int) (V : List (Int × List Int))  (w : World) (ht : spAt 36 w F p b o vs V) (hml : V.length ≤ 1099511627776) : Calls Try.prog 21 #[.pointer (some ⟨p, 0, none⟩)] w fun e w' => ∃ F' R2 A n c, e = .returned (.slice A n c) ∧ Fr w w' F ∧ spAt 36 w' F' p b o vs [] ∧ outAt w' R2 A n c V ∧ (∀ x ∈ F', x ∈ F) ∧ (∀ x ∈ R2, x ∈ F) ∧ ∀ x ∈ F', x ∉ R2 := by
 refine enterD (n := 12) Try.func21 rfl rfl (Nat.le_of_ble_eq_true rfl) ?_
 intro Q0 hN hret hret'
 have ht0 := ht
 obtain ⟨Av, cv, Am, cm, ms, R, hp_, hv_, hs_, hg_, hV_, rfl, pA_, pB_, pR_, dAB_, dAR_, dBR_⟩ := ht
 have hC := Cx.open3 hp_ (own_lt hv_) (own_lt hs_) hg_.2 pA_ pB_ pR_ dAB_ dAR_ dBR_
 have hcm_ := own_le hs_
 have hcx_ : ms.length = V.length := by rw [← hV_, List.length_map]
 have hvl_ := own_max hv_
 refine WCs (fun K1 hK2 => ?_)
 refine WCg (WLq 1 [(2, .slice none 0 0)] (WLd rfl (QXn (hK2 _ _ ?_))))
 refine WCs (fun K3 hK4 => ?_)
 refine WCg (WLq 3 [(6, .pointer (some ⟨p, 3, none⟩)), (5, .pointer (some ⟨p, 0, none⟩)), (4, .pointer (some ⟨p, 0, none⟩))] ?_)
 refine WLo 34 (.pointer (some ⟨p, 3, none⟩)) (.slice Am ms.length cm) 7 (run_ld (hC.get 0 rfl) rfl) ?_
 refine WLq 1 [(3, .slice Am ms.length cm)] (WLd rfl (QXn (hK4 _ _ ?_)))
 refine WCs (fun K5 hK6 => ?_)
 refine WCg (WLq 3 [(10, .pointer (some ⟨p, 3, none⟩)), (9, .pointer (some ⟨p, 0, none⟩)), (8, .pointer (some ⟨p, 0, none⟩))] ?_)
 refine WLs (c' := #[.int .i64 b, .bool o, .slice Av vs.length cv, .slice none 0 0]) hC 0 34 p 3 (.slice none 0 0) (by kernel_rfl) rfl (by kernel_rfl) (fun w7 hF9 aa => ?_)
 have ac := own_fr hv_ hF9 (hC.apartM 0 0 rfl rfl)
 have ad := own_fr hs_ hF9 (hC.apartM 1 0 rfl rfl)
 have ae := mgsIn.fr hg_ hF9 (hC.apartM 2 0 rfl rfl)
 refine WLd rfl (QXn (hK6 _ _ ?_))
 refine WCs (fun af ab => ?_)
 refine WCg (WLq 2 [(2, .slice Am ms.length cm), (11, .slice Am ms.length cm)] (WLd rfl (QXn (ab _ _ ?_))))
 refine WC.ret ?_
 refine (hret _ _ _ rfl ?_).1
 clear hN hret hret' ab hK6 hK4 hK2
 obtain ⟨F2_, R2_, h1_, h2_, h3_, h4_, h5_⟩ := sp_out (T := 36) (aa.get 0 rfl) ac ad ae hV_ hml pA_ pB_ pR_ dAB_ dAR_
 exact ⟨F2_, R2_, _, _, _, rfl, aa.fr, h1_, h2_, h3_, h4_, h5_⟩

end Go.Proofs.Ytmahghppojbeoaa
