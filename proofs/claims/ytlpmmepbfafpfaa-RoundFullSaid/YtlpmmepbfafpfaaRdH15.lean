/- Contracts of functions of the program, each proved by a walk through its code; conditions stand in the statements. -/
import Derived.Test.YtlpmmepbfafpfaaRdG15
namespace Go.Proofs.Ytlpmmepbfafpfaa
set_option linter.unusedSimpArgs false
set_option linter.unusedVariables false
set_option linter.unusedSectionVars false
open Go Go.RowKit Go.Tw
set_option linter.unusedVariables false
set_option maxRecDepth 20000
/-! ### halves -/
def Hn (n : Int) (hs : List Int) : Rn := if n < 2 * (hs.length : Int) then ⟨n, [], 1, 16, [], 2, 0, 0, []⟩ else ⟨n, hs, 1, 16, [], 1, 0, 0, []⟩
theorem Hn_no {n : Int} {hs : List Int} (h : ¬ n < 2 * (hs.length : Int)) : Hn n hs = ⟨n, hs, 1, 16, [], 1, 0, 0, []⟩ := if_neg h
theorem Hn_yes {n : Int} {hs : List Int} (h : n < 2 * (hs.length : Int)) : Hn n hs = ⟨n, [], 1, 16, [], 2, 0, 0, []⟩ := if_pos h
theorem Hn_n (n : Int) (hs : List Int) : (Hn n hs).n = n := by unfold Hn; split <;> rfl
theorem Hn_hv (n : Int) (hs : List Int) (h : hs.length ≤ 900) : (Hn n hs).hv.length ≤ 900 := by unfold Hn; split <;> simp [h]
theorem Hn_want (n : Int) (hs : List Int) : (Hn n hs).want.length ≤ 1 := by unfold Hn; split <;> simp
theorem Hn_log (n : Int) (hs : List Int) (k : Nat) : (Hn n hs).log.length ≤ k := by unfold Hn; split <;> simp
theorem Hn_stage (n : Int) (hs : List Int) : (Hn n hs).stage = if n < 2 * (hs.length : Int) then 2 else 1 := by unfold Hn; split <;> rfl
theorem Hn_logOf (n : Int) (hs : List Int) : logOf (Hn n hs) = [] := by
  unfold Hn; split
  · exact logOf_yes (.inl rfl)
  · exact logOf_no (show (1 : Int) ≠ 2 by decide) (show (1 : Int) ≠ 3 by decide)
theorem Hn_place (n : Int) (hs : List Int) : placeOf (Hn n hs) = 0 := placeOf_nil (.inl (by rw [Hn_logOf]; rfl))
theorem halves_old {n : Int} {hs : List Int} {x : Int} (ha : addB n hs x = false) (h : ¬ n < 2 * (hs.length : Int)) : promT (Hn n hs) x 0 0 [] = Hn n hs := by
  rw [Hn_no h]; exact prom_no (.inr ha)
theorem halves_add {n : Int} {hs : List Int} {x : Int} (ha : addB n hs x = true) (h : ¬ n < 2 * (hs.length : Int)) : promT (Hn n hs) x 0 0 [] = Hn n (hs ++ [x]) := by
  rw [Hn_no h]
  by_cases h3 : n < 2 * ((hs.length : Int) + 1)
  · rw [Hn_yes (by rw [List.length_append, List.length_singleton]; push_cast; exact h3)]
    exact prom_all (T := ⟨n, hs, 1, 16, [], 1, 0, 0, []⟩) rfl ha h3 false (show lessB 0 0 0 0 = false by decide) [] rfl 2 rfl
  · rw [Hn_no (by rw [List.length_append, List.length_singleton]; push_cast; exact h3)]
    exact prom_few (T := ⟨n, hs, 1, 16, [], 1, 0, 0, []⟩) rfl ha h3 false (show lessB 0 0 0 0 = false by decide)
def HaveOk (hs ks : List Int) : Prop := ks.length = 8 ∧ ∀ k : Nat, ∀ e : Int, ks[k]? = some e → (e = 0 ∧ hs.contains (16 + (k : Int)) = false) ∨ (e = 1 ∧ hs.contains (16 + (k : Int)) = true)
theorem have_none : HaveOk [] (List.replicate 8 0) := by
  refine ⟨List.length_replicate, fun k e h => .inl ⟨?_, rfl⟩⟩
  have := List.mem_of_getElem? h
  exact (List.mem_replicate.1 this).2
theorem have_old {hs ks : List Int} (h : HaveOk hs ks) {k : Nat} {e : Int} (he : ks[k]? = some e) (h0 : ¬ e = 0) {n x : Int} (hx : x = 16 + (k : Int)) : addB n hs x = false := by
  subst hx
  rcases h.2 k e he with ⟨h1, _⟩ | ⟨_, h1⟩
  · exact absurd h1 h0
  · exact add_no3 h1
theorem have_add {hs ks : List Int} (h : HaveOk hs ks) {k : Nat} {e : Int} (he : ks[k]? = some e) (h0 : e = 0) {n x : Int} (hx : x = 16 + (k : Int)) (hn : (k : Int) < n) : addB n hs x = true := by
  subst hx
  rcases h.2 k e he with ⟨_, h1⟩ | ⟨h1, _⟩
  · exact add_yes (by omega) (by omega) h1
  · omega
theorem have_set {hs ks : List Int} (h : HaveOk hs ks) {k : Nat} {x : Int} (hx : x = 16 + (k : Int)) : HaveOk (hs ++ [x]) (ks.set k 1) := by
  subst hx
  refine ⟨by rw [List.length_set]; exact h.1, fun j e he => ?_⟩
  rw [List.getElem?_set] at he
  split at he
  · rename_i hj
    split at he
    · cases he; subst hj; right; refine ⟨rfl, ?_⟩; rw [List.contains_iff_mem]; simp
    · cases he
  · rename_i hj
    rcases h.2 j e he with ⟨h1, h2⟩ | ⟨h1, h2⟩
    · left; refine ⟨h1, ?_⟩
      rw [← Bool.not_eq_true, List.contains_iff_mem] at h2 ⊢
      simp only [List.mem_append, List.mem_singleton, not_or]
      exact ⟨h2, by omega⟩
    · right; refine ⟨h1, ?_⟩
      rw [List.contains_iff_mem] at h2 ⊢
      simp [h2]
/-! ### a full log -/
def hcI (i : Nat) : Cm := ⟨16 + ((i : Int) % 8), 0, (i : Int), 0, 3, 167837697, 0, true⟩
def logK (i : Nat) : List Cm := (List.range i).map hcI
theorem logK_succ (i : Nat) : logK (i + 1) = logK i ++ [hcI i] := by unfold logK; rw [List.range_succ, List.map_append]; rfl
theorem logK_len (i : Nat) : (logK i).length = i := by simp [logK]
theorem logK_get {n i : Nat} {e : Cm} (h : (logK n)[i]? = some e) : e = hcI i ∧ i < n := by
  unfold logK at h
  rw [List.getElem?_map] at h
  obtain ⟨j, hj, rfl⟩ := Option.map_eq_some_iff.1 h
  obtain ⟨h1, h2⟩ := List.getElem?_eq_some_iff.1 hj
  rw [List.getElem_range] at h2
  exact ⟨by rw [h2], by simpa using h1⟩
theorem hcI_ok {i : Nat} (h : i < 256) : okC (hcI i) := ⟨⟨by unfold hcI; dsimp only; omega, by unfold hcI; dsimp only; omega⟩, ⟨show (0 : Int) ≤ 0 by decide, show (0 : Int) ≤ 1099511627776 by decide⟩, ⟨by unfold hcI; dsimp only; omega, by unfold hcI; dsimp only; omega⟩, ⟨show (0 : Int) ≤ 0 by decide, show (0 : Int) ≤ 1099511627776 by decide⟩, (by decide +kernel : isHome 167837697 = true), ⟨show (0 : Int) ≤ 167837697 by decide, show (167837697 : Int) ≤ 4294967295 by decide⟩, rfl, .inl rfl⟩
theorem logK_ok {n : Nat} (h : n ≤ 256) : okL (logK n) := by
  refine ⟨fun c hc => ?_, ?_, by rw [logK_len]; exact h⟩
  · obtain ⟨i, hi⟩ := List.mem_iff_getElem?.1 hc
    obtain ⟨rfl, h2⟩ := logK_get hi
    exact hcI_ok (by omega)
  · unfold logK
    rw [List.map_map]
    refine List.Pairwise.map _ ?_ List.nodup_range
    intro x y hne hxy
    have h1 : (idC (hcI x)).2.2 = (idC (hcI y)).2.2 := congrArg (fun q : Int × Int × Int => q.2.2) hxy
    have h2 : (x : Int) = (y : Int) := h1
    exact hne (by omega)
theorem place_at {log : List Cm} (h : (log.map idC).Nodup) {k : Nat} {e : Cm} (he : log[k]? = some e) : placeN log e = (k : Int) + 1 := by
  obtain ⟨hk, rfl⟩ := List.getElem?_eq_some_iff.1 he
  have : log.findIdx? (fun d => idC d == idC log[k]) = some k := by
    rw [List.findIdx?_eq_some_iff_getElem]
    refine ⟨hk, by simp, fun j hj => ?_⟩
    simp only [beq_iff_eq]
    intro hc
    have h2 := (List.getElem_inj (i := j) (j := k) (h₀ := by rw [List.length_map]; omega) (h₁ := by rw [List.length_map]; omega) h).1 (by simp only [List.getElem_map]; exact hc)
    omega
  unfold placeN; rw [this]
theorem place_off {log : List Cm} {c : Cm} (h : ∀ d ∈ log, d.boot ≠ c.boot) : placeN log c = 0 := by
  refine place_none ?_
  rw [List.all_eq_true]
  intro d hd
  rw [idC_eq, decide_eq_false (h d hd)]; simp
theorem logK_boot {n : Nat} : ∀ d ∈ logK n, d.boot = 0 := by
  intro c hc
  obtain ⟨i, hi⟩ := List.mem_iff_getElem?.1 hc
  obtain ⟨rfl, _⟩ := logK_get hi
  rfl
theorem full_new {L : List Cm} {c : Cm} (hl : L.length = 256) (hp : placeN L c = 0) : promT ⟨1, [], 3, 16, [c], 1, 0, 0, []⟩ 16 1 16 L = ⟨1, [], 3, 16, [c], 4, 1, 16, L ++ [c]⟩ :=
  prom_all (T := ⟨1, [], 3, 16, [c], 1, 0, 0, []⟩) rfl (show addB 1 [] 16 = true by decide) (show (1 : Int) < 2 * (((0 : Nat) : Int) + 1) by decide) true (show lessB 0 0 1 16 = true by decide) (L ++ [c]) (by show (if placeN L c = 0 then L ++ [c] else L) = L ++ [c]; rw [if_pos hp]) 4 (by rw [if_pos (by rw [List.length_append, List.length_singleton]; omega)])
theorem full_old {L : List Cm} {c : Cm} (hl : L.length = 256) (hp : placeN L c ≠ 0) : promT ⟨1, [], 3, 16, [c], 1, 0, 0, []⟩ 16 1 16 L = ⟨1, [], 3, 16, [c], 2, 1, 16, L⟩ :=
  prom_all (T := ⟨1, [], 3, 16, [c], 1, 0, 0, []⟩) rfl (show addB 1 [] 16 = true by decide) (show (1 : Int) < 2 * (((0 : Nat) : Int) + 1) by decide) true (show lessB 0 0 1 16 = true by decide) L (by show (if placeN L c = 0 then L ++ [c] else L) = L; rw [if_neg hp]) 2 (by rw [if_neg (by omega)])
theorem full_none {L : List Cm} (hl : L.length = 256) : promT ⟨1, [], 3, 16, [], 1, 0, 0, []⟩ 16 1 16 L = ⟨1, [], 3, 16, [], 2, 1, 16, L⟩ :=
  prom_all (T := ⟨1, [], 3, 16, [], 1, 0, 0, []⟩) rfl (show addB 1 [] 16 = true by decide) (show (1 : Int) < 2 * (((0 : Nat) : Int) + 1) by decide) true (show lessB 0 0 1 16 = true by decide) L rfl 2 (by rw [if_neg (by omega)])
theorem full_still (c : Cm) (L : List Cm) : accT ⟨1, [], 3, 16, [c], 4, 1, 16, L⟩ 16 = ⟨1, [], 3, 16, [c], 4, 1, 16, L⟩ := acc_no (.inl (by show (4 : Int) ≠ 2; decide))
theorem full_place {L : List Cm} {k : Nat} {e : Cm} (hok : okL L) (he : L[k]? = some e) : placeOf ⟨1, [], 3, 16, [e], 2, 1, 16, L⟩ = (k : Int) + 1 := by
  have hl : logOf ⟨1, [], 3, 16, [e], 2, 1, 16, L⟩ = L := logOf_yes (.inl rfl)
  rw [placeOf_some (c := e) (by rw [hl]; intro h0; rw [List.eq_nil_of_length_eq_zero h0] at he; cases he) rfl, hl, place_at hok.2.1 he]
theorem umod_nat (x : Int) (m : Nat) (h0 : 0 < m) (h1 : m ≤ 4096) : ∃ k : Nat, IntKind.i64.wrap (Int.tmod (IntKind.u64.wrap x) (m : Int)) = (k : Int) ∧ k < m := by
  have h := wrap_u64_span x
  refine ⟨(Int.tmod (IntKind.u64.wrap x) (m : Int)).toNat, ?_, ?_⟩
  · rw [Int.tmod_eq_emod_of_nonneg h.1, wrap_in_i64]
    · rw [Int.toNat_of_nonneg (Int.emod_nonneg _ (by omega))]
    · have := Int.emod_nonneg (IntKind.u64.wrap x) (show (m : Int) ≠ 0 by omega); omega
    · have := Int.emod_lt_of_pos (IntKind.u64.wrap x) (show (0 : Int) < m by omega); omega
  · rw [Int.tmod_eq_emod_of_nonneg h.1]
    have := Int.emod_nonneg (IntKind.u64.wrap x) (show (m : Int) ≠ 0 by omega)
    have := Int.emod_lt_of_pos (IntKind.u64.wrap x) (show (0 : Int) < m by omega)
    omega
theorem half_same (n a : Int) : (((if n < 2 * a then (2 : Int) else 1) == 2) != decide ((2 * a) > n)) = false := by
  by_cases h : n < 2 * a
  · rw [if_pos h, decide_eq_true (show 2 * a > n from h)]; rfl
  · rw [if_neg h, decide_eq_false (show ¬ 2 * a > n from h)]; rfl
theorem RoundHalves_ct (n : Int) (A : Option Addr) (c : Nat) (nodes : List Int) (w : World) (hr : Rd w 1 (Go.Tw.encI .i64) A nodes) : Calls Try.prog 3 #[.int .i64 n, .slice A nodes.length c] w fun e w' => e = .returned (.bool true) ∧ Fr w w' [] := by
  refine enterD (n := 83) Try.func3 rfl rfl (Nat.le_of_ble_eq_true rfl) ?_
  intro Q0 hN hret hret'
  have hC := Cx.start w
  refine WC.seq (fun K1 hK2 => ?_)
  refine WC.region ?_
  refine WL.runs 1 [(4, .bool false)] (fun _ => by kernel_rfl) ?_
  refine WL.done rfl ?_
  refine QX.then_normal (hK2 _ _ ?_)
  refine WC.seq (fun K3 hK4 => ?_)
  refine WC.seq (fun K5 hK6 => ?_)
  refine WC.region ?_
  refine WL.call rfl rfl rfl rfl rfl (by kernel_rfl) (alive_ct w) ?_
  rintro _ w8 ⟨rfl, hF7⟩
  refine ⟨_, rfl, ?_⟩
  have hC9 := hC.call hF7
  refine WL.runs 1 [(14, .bool false)] (fun _ => by kernel_rfl) ?_
  refine WL.done rfl ?_
  refine QX.then_normal (hK6 _ _ ?_)
  refine WC.cond_false rfl ?_
  refine WC.skip ?_
  refine QX.then_normal (hK4 _ _ ?_)
  refine WC.seq (fun K10 hK11 => ?_)
  refine WC.region ?_
  obtain ⟨nz, hnz_, lnz_⟩ := umod_nat n 8 (by decide) (by decide)
  refine WL.runs 4 [(18, .int .i64 (IntKind.i64.wrap (Int.tmod (IntKind.u64.wrap (n)) 8))), (17, .int .u64 (Int.tmod (IntKind.u64.wrap (n)) 8)), (16, .int .u64 (IntKind.u64.wrap (n))), (15, .int .i64 n)] (fun _ => by kernel_rfl) ?_
  refine WL.recast (show (.int .i64 (IntKind.i64.wrap (Int.tmod (IntKind.u64.wrap (n)) 8)) : Value) = .int .i64 (nz : Int) from congrArg (Value.int .i64) hnz_) ?_
  refine WL.runs 1 [(19, .int .i64 (IntKind.i64.wrap (1 + (nz : Int))))] (fun _ => by kernel_rfl) ?_
  refine WL.recast (show (.int .i64 (IntKind.i64.wrap (1 + (nz : Int))) : Value) = .int .i64 (1 + (nz : Int)) from by rw [wrap_in_i64 (1 + (nz : Int)) (by omega) (by omega)]) ?_
  refine WL.runs 1 [(0, .int .i64 (1 + (nz : Int)))] (fun _ => by kernel_rfl) ?_
  refine WL.done rfl ?_
  refine QX.then_normal (hK11 _ _ ?_)
  refine WC.seq (fun K12 hK13 => ?_)
  refine WC.seq (fun K14 hK15 => ?_)
  refine WC.region ?_
  refine WL.runs 3 [(22, .bool (decide ((nodes.length : Int) > 60))), (21, .int .i64 (nodes.length : Int)), (20, .slice A nodes.length c)] (fun _ => by kernel_rfl) ?_
  refine WL.done rfl ?_
  refine QX.then_normal (hK15 _ _ ?_)
  refine WC.test_at 22 (decide ((nodes.length : Int) > 60)) rfl (fun t16b => ?_) (fun t16b => ?_)
  · -- (nodes.length : Int) > 60: true
    have t16 : (60 : Int) < (nodes.length : Int) := by have q_ := of_decide_eq_true t16b; omega
    refine WC.cond_true rfl ?_
    refine WC.seq (fun K17 hK18 => ?_)
    refine WC.region ?_
    refine WL.runs 1 [(4, .bool true)] (fun _ => by kernel_rfl) ?_
    refine WL.done rfl ?_
    refine QX.then_normal (hK18 _ _ ?_)
    refine WC.ret ?_
    refine QX.then_ret ?_
    refine (hret _ _ _ rfl ?_).1
    clear hN hret hret' hK18 hK15 hK13 hK11 hK6 hK4 hK2
    exact ⟨rfl, hC9.fr⟩
  · -- (nodes.length : Int) > 60: false
    have t16 : (nodes.length : Int) ≤ 60 := by have q_ := of_decide_eq_false t16b; omega
    refine WC.cond_false rfl ?_
    refine WC.skip ?_
    refine QX.then_normal (hK13 _ _ ?_)
    refine WC.seq (fun K19 hK20 => ?_)
    refine WC.region ?_
    refine WL.runs 2 [(25, .agg #[.int .i64 1, .int .i64 16]), (24, .int .i64 (1 + (nz : Int)))] (fun _ => by kernel_rfl) ?_
    refine WL.call rfl rfl rfl rfl rfl (by kernel_rfl) (New_n (1 + (nz : Int)) (1, 16) none 0 0 [] w8 (by omega) (by omega) (Rd.nil _ _ _ _) okL_nil (by simp) rfl) ?_
    rintro _ w29 ⟨p21, F22, rfl, hF28, hT26, hge27⟩
    have hC30 := hC9.callN hF28 hge27 (rdAt_lt hT26)
    refine ⟨_, rfl, ?_⟩
    refine WL.runs 5 [(6, .nilIface), (5, .pointer (some ⟨p21, 0, none⟩)), (28, .nilIface), (27, .pointer (some ⟨p21, 0, none⟩)), (23, .tuple #[.pointer (some ⟨p21, 0, none⟩), .nilIface])] (fun _ => by kernel_rfl) ?_
    refine WL.done rfl ?_
    refine QX.then_normal (hK20 _ _ ?_)
    refine WC.seq (fun K32 hK33 => ?_)
    refine WC.seq (fun K34 hK35 => ?_)
    refine WC.region ?_
    refine WL.runs 6 [(34, .bool false), (33, .bool false), (32, .pointer (some ⟨p21, 0, none⟩)), (31, .bool false), (30, .bool false), (29, .nilIface)] (fun _ => by kernel_rfl) ?_
    refine WL.done rfl ?_
    refine QX.then_normal (hK35 _ _ ?_)
    refine WC.cond_false rfl ?_
    refine WC.skip ?_
    refine QX.then_normal (hK33 _ _ ?_)
    refine WC.seq (fun K36 hK37 => ?_)
    refine WC.region ?_
    refine WL.runs 1 [(35, .agg #[.int .i64 0, .int .i64 0, .int .i64 0, .int .i64 0, .int .i64 0, .int .i64 0, .int .i64 0, .int .i64 0])] (fun _ => by kernel_rfl) ?_
    refine WL.newM hC30 (fun b => .pointer (some ⟨b, 0, none⟩)) (.cells #[.int .i64 0, .int .i64 0, .int .i64 0, .int .i64 0, .int .i64 0, .int .i64 0, .int .i64 0, .int .i64 0] 32) 7 (fun _ => by kernel_rfl) (fun g38 w39 hb42 hF40 hC41 => ?_)
    have hf43 := rdAt_fr hT26 hF40 (by simp)
    refine WL.storeM (c' := #[.int .i64 0, .int .i64 0, .int .i64 0, .int .i64 0, .int .i64 0, .int .i64 0, .int .i64 0, .int .i64 0]) hC41 0 32 g38 0 (.agg #[.int .i64 0, .int .i64 0, .int .i64 0, .int .i64 0, .int .i64 0, .int .i64 0, .int .i64 0, .int .i64 0]) (by kernel_rfl) rfl (by kernel_rfl) (fun w44 hF46 hC47 => ?_)
    have hf48 := rdAt_fr hf43 hF46 (hC41.apartM 0 0 rfl rfl)
    refine WL.done rfl ?_
    refine QX.then_normal (hK37 _ _ ?_)
    refine WC.seq (fun K49 hK50 => ?_)
    refine WC.region ?_
    refine WL.runs 1 [(8, .int .i64 0)] (fun _ => by kernel_rfl) ?_
    refine WL.done rfl ?_
    refine QX.then_normal (hK50 _ _ ?_)
    refine WC.seq (fun K51 hK52 => ?_)
    refine WC.seq (fun K53 hK54 => ?_)
    refine WC.region ?_
    refine WL.runs 3 [(38, .int .i64 0), (37, .int .i64 (nodes.length : Int)), (36, .slice A nodes.length c)] (fun _ => by kernel_rfl) ?_
    refine WL.done rfl ?_
    refine QX.then_normal (hK54 _ _ ?_)
    refine WC.block ?_
    refine WC.loop (fun m_ E_ w_ => ∃ (i : Nat) (ks hs : List Int) (F5 : List Nat), m_ = nodes.length - i ∧ E_ = [(0, .int .i64 (1 + (nz : Int))), (1, .slice A nodes.length c), (5, .pointer (some ⟨p21, 0, none⟩)), (7, .pointer (some ⟨g38, 0, none⟩)), (8, .int .i64 (hs.length : Int)), (36, .slice A nodes.length c), (37, .int .i64 (nodes.length : Int)), (38, .int .i64 (i : Int))] ∧ Cx w [] w_ [(g38, .cells (ks.flatMap (Go.Tw.encI .i64)).toArray 32 (0, 0))] [F5] ∧ rdAt w_ F5 p21 (Hn (1 + (nz : Int)) hs) ∧ (i ≤ nodes.length ∧ ¬ (1 + (nz : Int)) < 2 * (hs.length : Int) ∧ HaveOk hs ks ∧ hs.length ≤ i)) ⟨_, _, ⟨0, [0, 0, 0, 0, 0, 0, 0, 0], [], F22, rfl, rfl, hC47, by rw [Hn_no (by simp; omega)]; exact hf48, Nat.zero_le _, by simp; omega, have_none, Nat.le_refl _⟩, sub_of ⟨rfl, rfl, rfl, rfl, rfl, rfl, rfl, rfl, trivial⟩⟩ (fun m58 E_ w59 K55 hK56 hI57 => ?_)
    obtain ⟨i, ks, hs, F5, rfl, rfl, hC60, hrd5, hi, hlow, hhv, hhl⟩ := hI57
    have hkl_ := hhv.1
    refine WC.seq (fun K61 hK62 => ?_)
    refine WC.region ?_
    refine WL.runs 1 [(39, .bool (decide ((i : Int) < (nodes.length : Int))))] (fun _ => by kernel_rfl) ?_
    refine WL.done rfl ?_
    refine QX.then_normal (hK62 _ _ ?_)
    refine WC.seq (fun K63 hK64 => ?_)
    refine WC.test_at 39 (decide ((i : Int) < (nodes.length : Int))) rfl (fun t65b => ?_) (fun t65b => ?_)
    · -- (i : Int) < (nodes.length : Int): true
      have t65 : (i : Int) < (nodes.length : Int) := by have q_ := of_decide_eq_true t65b; omega
      refine WC.cond_true rfl ?_
      refine WC.skip ?_
      refine QX.then_normal (hK64 _ _ ?_)
      refine WC.seq (fun K66 hK67 => ?_)
      refine WC.block ?_
      refine WC.seq (fun K68 hK69 => ?_)
      refine WC.region ?_
      obtain ⟨e70, he71⟩ := get_some (xs := nodes) (i := i) (by omega)
      obtain ⟨b72, o74, hA73, hc75⟩ := hr.at_ _ _ he71
      refine WL.index A nodes.length c 40 .i64 (i : Int) b72 o74 i 1 (by kernel_rfl) hA73 (by omega) (by omega) (o74 + i) (by first | (simp; done) | omega) ?_
      refine WL.load 3 (.pointer (some ⟨b72, o74 + i, none⟩)) (.int .i64 e70) 41 (by kernel_rfl) (run_load1 rfl (by simpa [Nat.add_assoc] using hC60.fr.cell (hc75 0 _ rfl) (by simp))) ?_
      refine WL.runs 1 [(10, .int .i64 e70)] (fun _ => by kernel_rfl) ?_
      refine WL.done rfl ?_
      refine QX.then_normal (hK69 _ _ ?_)
      refine WC.seq (fun K76 hK77 => ?_)
      refine WC.region ?_
      obtain ⟨k, hk_, lk_⟩ := umod_nat e70 9 (by decide) (by decide)
      refine WL.runs 4 [(45, .int .i64 (IntKind.i64.wrap (Int.tmod (IntKind.u64.wrap (e70)) 9))), (44, .int .u64 (Int.tmod (IntKind.u64.wrap (e70)) 9)), (43, .int .u64 (IntKind.u64.wrap (e70))), (42, .int .i64 e70)] (fun _ => by kernel_rfl) ?_
      refine WL.recast (show (.int .i64 (IntKind.i64.wrap (Int.tmod (IntKind.u64.wrap (e70)) 9)) : Value) = .int .i64 (k : Int) from congrArg (Value.int .i64) hk_) ?_
      refine WL.runs 1 [(11, .int .i64 (k : Int))] (fun _ => by kernel_rfl) ?_
      refine WL.done rfl ?_
      refine QX.then_normal (hK77 _ _ ?_)
      refine WC.seq (fun K78 hK79 => ?_)
      refine WC.seq (fun K80 hK81 => ?_)
      refine WC.region ?_
      refine WL.runs 4 [(49, .bool (decide ((k : Int) < (1 + (nz : Int))))), (48, .bool (decide ((k : Int) < (1 + (nz : Int))))), (47, .int .i64 (1 + (nz : Int))), (46, .int .i64 (k : Int))] (fun _ => by kernel_rfl) ?_
      refine WL.test_at 49 (decide ((k : Int) < (1 + (nz : Int)))) rfl (fun t82b => ?_) (fun t82b => ?_)
      · -- (k : Int) < (1 + (nz : Int)): true
        have t82 : (k : Int) < (1 + (nz : Int)) := by have q_ := of_decide_eq_true t82b; omega
        refine WL.runs 1 [(50, .int .i64 (k : Int))] (fun _ => by kernel_rfl) ?_
        obtain ⟨e83, he84⟩ := get_some (xs := ks) (i := k) (by omega)
        refine WL.indexP 32 8 3 1 g38 0 k .i64 (k : Int) 51 (by kernel_rfl) (by kernel_rfl) (by omega) (by omega) k (by first | (simp; done) | omega) ?_
        refine WL.load 3 (.pointer (some ⟨g38, k, none⟩)) (.int .i64 e83) 52 (by kernel_rfl) (run_load1 rfl (by simpa [Nat.add_assoc] using Rd.cell (Rd.blk (hC60.get 0 rfl) (Go.Tw.encI_len _) rfl) rfl he84 0 _ rfl)) ?_
        refine WL.runs 2 [(54, .bool (e83 == 0)), (53, .bool (e83 == 0))] (fun _ => by kernel_rfl) ?_
        refine WL.done rfl ?_
        refine QX.then_normal (hK81 _ _ ?_)
        refine WC.test_at 54 (e83 == 0) rfl (fun t85b => ?_) (fun t85b => ?_)
        · -- e83 = 0: true
          have t85 : e83 = 0 := by simpa using t85b
          refine WC.cond_true rfl ?_
          refine WC.seq (fun K86 hK87 => ?_)
          refine WC.region ?_
          refine WL.runs 1 [(55, .int .i64 (k : Int))] (fun _ => by kernel_rfl) ?_
          refine WL.indexP 32 8 3 1 g38 0 k .i64 (k : Int) 56 (by kernel_rfl) (by kernel_rfl) (by omega) (by omega) k (by first | (simp; done) | omega) ?_
          obtain ⟨w88, hr89, hF90, hC91⟩ := stoML_run Try.prog (Go.Tw.encI_len _) hC60 0 rfl k 0 (x := e83) he84 1 [.int .i64 1] rfl 3 (.int .i64 1) (k) rfl rfl rfl (by simp [Nat.add_assoc])
          refine WL.semU (Instr.storeAt 3 (.pointer (some ⟨g38, k, none⟩)) (.int .i64 1)) (by kernel_rfl) hr89 ?_
          have hf92 := rdAt_fr hrd5 hF90 (hC60.apartM 0 0 rfl rfl)
          refine WL.done rfl ?_
          refine QX.then_normal (hK87 _ _ ?_)
          refine WC.region ?_
          have hln_ : (hs ++ [16 + (k : Int)]).length = hs.length + 1 := by simp
          refine WL.runs 2 [(58, .int .i64 (IntKind.i64.wrap ((hs.length : Int) + 1))), (57, .int .i64 (hs.length : Int))] (fun _ => by kernel_rfl) ?_
          refine WL.recast (show (.int .i64 (IntKind.i64.wrap ((hs.length : Int) + 1)) : Value) = .int .i64 ((hs ++ [16 + (k : Int)]).length : Int) from congrArg (Value.int .i64) (by rw [wrap_in_i64 _ (by omega) (by omega), hln_]; rfl)) ?_
          refine WL.runs 1 [(8, .int .i64 ((hs ++ [16 + (k : Int)]).length : Int))] (fun _ => by kernel_rfl) ?_
          refine WL.done rfl ?_
          refine QX.then_normal (hK79 _ _ ?_)
          refine WC.seq (fun K93 hK94 => ?_)
          refine WC.region ?_
          refine WL.runs 3 [(61, .int .i64 (IntKind.i64.wrap (16 + (k : Int)))), (60, .int .i64 (k : Int)), (59, .pointer (some ⟨p21, 0, none⟩))] (fun _ => by kernel_rfl) ?_
          refine WL.recast (show (.int .i64 (IntKind.i64.wrap (16 + (k : Int))) : Value) = .int .i64 (16 + (k : Int)) from by rw [wrap_in_i64 (16 + (k : Int)) (by omega) (by omega)]) ?_
          refine WL.runs 1 [(62, .agg #[.int .i64 0, .int .i64 0])] (fun _ => by kernel_rfl) ?_
          refine WL.call rfl rfl rfl rfl rfl (by kernel_rfl) (Promise_to F5 p21 (Hn (1 + (nz : Int)) hs) (16 + (k : Int)) 0 0 none 0 0 [] w88 (Hn (1 + (nz : Int)) (hs ++ [16 + (k : Int)])) (if (1 + (nz : Int)) < 2 * ((hs ++ [16 + (k : Int)]).length : Int) then (2 : Int) else 1) (halves_add (have_add hhv he84 (by first | assumption | omega) (by omega) (by omega)) hlow) (Hn_stage _ _) hf92 (by rw [Hn_n]; omega) (by rw [Hn_n]; omega) (Hn_hv _ _ (by omega)) (Hn_want _ _) (Hn_log _ _ _) (Rd.nil _ _ _ _) okL_nil rfl (fun _ _ h_ => nomatch h_)) ?_
          rintro _ w96 ⟨F99, rfl, hF95, hT98, hsub100⟩
          have hC97 := hC91.callF 0 rfl hF95 hsub100 (rdAt_lt hT98)
          refine ⟨_, rfl, ?_⟩
          refine WL.runs 1 [(12, .int .i64 (if (1 + (nz : Int)) < 2 * ((hs ++ [16 + (k : Int)]).length : Int) then (2 : Int) else 1))] (fun _ => by kernel_rfl) ?_
          refine WL.done rfl ?_
          refine QX.then_normal (hK94 _ _ ?_)
          refine WC.seq (fun K101 hK102 => ?_)
          refine WC.seq (fun K103 hK104 => ?_)
          refine WC.region ?_
          refine WL.runs 4 [(67, .int .i64 (IntKind.i64.wrap (2 * ((hs ++ [16 + (k : Int)]).length : Int)))), (66, .int .i64 ((hs ++ [16 + (k : Int)]).length : Int)), (65, .bool ((if (1 + (nz : Int)) < 2 * ((hs ++ [16 + (k : Int)]).length : Int) then (2 : Int) else 1) == 2)), (64, .int .i64 (if (1 + (nz : Int)) < 2 * ((hs ++ [16 + (k : Int)]).length : Int) then (2 : Int) else 1))] (fun _ => by kernel_rfl) ?_
          refine WL.recast (show (.int .i64 (IntKind.i64.wrap (2 * ((hs ++ [16 + (k : Int)]).length : Int))) : Value) = .int .i64 (2 * ((hs ++ [16 + (k : Int)]).length : Int)) from by rw [wrap_in_i64 (2 * ((hs ++ [16 + (k : Int)]).length : Int)) (by omega) (by omega)]) ?_
          refine WL.runs 3 [(70, .bool (((if (1 + (nz : Int)) < 2 * ((hs ++ [16 + (k : Int)]).length : Int) then (2 : Int) else 1) == 2) != (decide ((2 * ((hs ++ [16 + (k : Int)]).length : Int)) > (1 + (nz : Int)))))), (69, .bool (decide ((2 * ((hs ++ [16 + (k : Int)]).length : Int)) > (1 + (nz : Int))))), (68, .int .i64 (1 + (nz : Int)))] (fun _ => by kernel_rfl) ?_
          refine WL.done rfl ?_
          refine QX.then_normal (hK104 _ _ ?_)
          refine WC.know 70 (.bool (((if (1 + (nz : Int)) < 2 * ((hs ++ [16 + (k : Int)]).length : Int) then (2 : Int) else 1) == 2) != (decide ((2 * ((hs ++ [16 + (k : Int)]).length : Int)) > (1 + (nz : Int)))))) (.bool false) rfl (congrArg Value.bool (by exact half_same _ _)) ?_
          refine WC.cond_false rfl ?_
          refine WC.skip ?_
          refine QX.then_normal (hK102 _ _ ?_)
          refine WC.seq (fun K105 hK106 => ?_)
          refine WC.region ?_
          refine WL.runs 2 [(72, .bool ((if (1 + (nz : Int)) < 2 * ((hs ++ [16 + (k : Int)]).length : Int) then (2 : Int) else 1) == 2)), (71, .int .i64 (if (1 + (nz : Int)) < 2 * ((hs ++ [16 + (k : Int)]).length : Int) then (2 : Int) else 1))] (fun _ => by kernel_rfl) ?_
          refine WL.done rfl ?_
          refine QX.then_normal (hK106 _ _ ?_)
          refine WC.test_at 72 ((if (1 + (nz : Int)) < 2 * ((hs ++ [16 + (k : Int)]).length : Int) then (2 : Int) else 1) == 2) rfl (fun t107b => ?_) (fun t107b => ?_)
          · -- (if (1 + (nz : Int)) < 2 * ((hs ++ [16 + (k : Int)]).length : Int) then (2 : Int) else 1) = 2: true
            have t107 : (if (1 + (nz : Int)) < 2 * ((hs ++ [16 + (k : Int)]).length : Int) then (2 : Int) else 1) = 2 := by simpa using t107b
            refine WC.cond_true rfl ?_
            refine WC.exit ?_
            refine QX.block_miss (by decide) ?_
            refine QX.then_exit ?_
            refine QX.then_exit ?_
            refine QX.block_hit ?_
            refine QX.then_normal (hK52 _ _ ?_)
            refine WC.seq (fun K108 hK109 => ?_)
            refine WC.region ?_
            refine WL.runs 1 [(74, .pointer (some ⟨p21, 0, none⟩))] (fun _ => by kernel_rfl) ?_
            refine WL.call rfl rfl rfl rfl rfl (by kernel_rfl) (Place_to F99 p21 (Hn (1 + (nz : Int)) (hs ++ [16 + (k : Int)])) w96 0 (Hn_place _ _) hT98 (Hn_log _ _ _)) ?_
            rintro _ w111 ⟨rfl, hF110⟩
            refine ⟨_, rfl, ?_⟩
            have hC112 := hC97.call hF110
            have hf113 := rdAt_fr hT98 hF110 (by simp)
            refine WL.runs 3 [(78, .pointer (some ⟨p21, 0, none⟩)), (77, .bool true), (76, .bool true)] (fun _ => by kernel_rfl) ?_
            refine WL.call rfl rfl rfl rfl rfl (by kernel_rfl) (Log_to F99 p21 (Hn (1 + (nz : Int)) (hs ++ [16 + (k : Int)])) w111 ([] : List Cm) (Hn_logOf _ _) hf113 (Hn_log _ _ _)) ?_
            rintro _ w116 ⟨v_, rfl, hF115, ho114⟩
            have hC117 := hC112.callN hF115 (own_ge ho114) (own_lt ho114)
            obtain ⟨A118, c119, rfl, hle120⟩ := own_form ho114
            have ho122 := own_base (b' := 0) ho114 (fun _ _ => Nat.zero_le _)
            refine ⟨_, rfl, ?_⟩
            have hf123 := rdAt_fr hf113 hF115 (by simp)
            refine WL.runs 4 [(4, .bool ((([] : List Cm).length : Int) == 0)), (82, .bool ((([] : List Cm).length : Int) == 0)), (81, .bool ((([] : List Cm).length : Int) == 0)), (80, .int .i64 (([] : List Cm).length : Int))] (fun _ => by kernel_rfl) ?_
            refine WL.done rfl ?_
            refine QX.then_normal (hK109 _ _ ?_)
            refine WC.ret ?_
            refine (hret _ _ _ rfl ?_).1
            clear hN hret hret' hK109 hK106 hK104 hK102 hK94 hK87 hK81 hK79 hK77 hK69 hK67 hK64 hK62 hK54 hK52 hK50 hK37 hK35 hK33 hK20 hK15 hK13 hK11 hK6 hK4 hK2
            exact ⟨rfl, hC117.fr⟩
          · -- (if (1 + (nz : Int)) < 2 * ((hs ++ [16 + (k : Int)]).length : Int) then (2 : Int) else 1) = 2: false
            have t107 : ¬ ((if (1 + (nz : Int)) < 2 * ((hs ++ [16 + (k : Int)]).length : Int) then (2 : Int) else 1) = 2) := by simpa using t107b
            refine WC.cond_false rfl ?_
            refine WC.skip ?_
            refine QX.block_normal ?_
            refine QX.then_normal (hK67 _ _ ?_)
            refine WC.region ?_
            refine WL.runs 1 [(73, .int .i64 (IntKind.i64.wrap ((i : Int) + 1)))] (fun _ => by kernel_rfl) ?_
            refine WL.recast (show (.int .i64 (IntKind.i64.wrap ((i : Int) + 1)) : Value) = .int .i64 ((i : Int) + 1) from by rw [wrap_in_i64 ((i : Int) + 1) (by omega) (by omega)]) ?_
            refine WL.runs 1 [(38, .int .i64 ((i : Int) + 1))] (fun _ => by kernel_rfl) ?_
            refine WL.done rfl ?_
            refine QX.then_normal ?_
            have hC125 := hC97.pick [0] [0] rfl rfl
            refine fun a_ ha_ => hK56 _ _ _ ?_ ⟨i + 1, ks.set k 1, (hs ++ [16 + (k : Int)]), F99, rfl, rfl, hC125, hT98, by omega, fun h_ => by (rw [if_pos h_] at t107b; exact absurd t107b (by decide)), have_set hhv rfl, by omega⟩ a_ (ha_.weaken (sub_of ⟨rfl, rfl, rfl, rfl, rfl, rfl, rfl, rfl, trivial⟩))
            omega
        · -- e83 = 0: false
          have t85 : ¬ (e83 = 0) := by simpa using t85b
          refine WC.cond_false rfl ?_
          refine WC.skip ?_
          refine QX.then_normal (hK79 _ _ ?_)
          refine WC.seq (fun K126 hK127 => ?_)
          refine WC.region ?_
          refine WL.runs 3 [(61, .int .i64 (IntKind.i64.wrap (16 + (k : Int)))), (60, .int .i64 (k : Int)), (59, .pointer (some ⟨p21, 0, none⟩))] (fun _ => by kernel_rfl) ?_
          refine WL.recast (show (.int .i64 (IntKind.i64.wrap (16 + (k : Int))) : Value) = .int .i64 (16 + (k : Int)) from by rw [wrap_in_i64 (16 + (k : Int)) (by omega) (by omega)]) ?_
          refine WL.runs 1 [(62, .agg #[.int .i64 0, .int .i64 0])] (fun _ => by kernel_rfl) ?_
          refine WL.call rfl rfl rfl rfl rfl (by kernel_rfl) (Promise_to F5 p21 (Hn (1 + (nz : Int)) hs) (16 + (k : Int)) 0 0 none 0 0 [] w59 (Hn (1 + (nz : Int)) hs) (if (1 + (nz : Int)) < 2 * (hs.length : Int) then (2 : Int) else 1) (halves_old (have_old hhv he84 (by first | assumption | omega) (by omega)) hlow) (Hn_stage _ _) hrd5 (by rw [Hn_n]; omega) (by rw [Hn_n]; omega) (Hn_hv _ _ (by omega)) (Hn_want _ _) (Hn_log _ _ _) (Rd.nil _ _ _ _) okL_nil rfl (fun _ _ h_ => nomatch h_)) ?_
          rintro _ w129 ⟨F132, rfl, hF128, hT131, hsub133⟩
          have hC130 := hC60.callF 0 rfl hF128 hsub133 (rdAt_lt hT131)
          refine ⟨_, rfl, ?_⟩
          refine WL.runs 1 [(12, .int .i64 (if (1 + (nz : Int)) < 2 * (hs.length : Int) then (2 : Int) else 1))] (fun _ => by kernel_rfl) ?_
          refine WL.done rfl ?_
          refine QX.then_normal (hK127 _ _ ?_)
          refine WC.seq (fun K134 hK135 => ?_)
          refine WC.seq (fun K136 hK137 => ?_)
          refine WC.region ?_
          refine WL.runs 4 [(67, .int .i64 (IntKind.i64.wrap (2 * (hs.length : Int)))), (66, .int .i64 (hs.length : Int)), (65, .bool ((if (1 + (nz : Int)) < 2 * (hs.length : Int) then (2 : Int) else 1) == 2)), (64, .int .i64 (if (1 + (nz : Int)) < 2 * (hs.length : Int) then (2 : Int) else 1))] (fun _ => by kernel_rfl) ?_
          refine WL.recast (show (.int .i64 (IntKind.i64.wrap (2 * (hs.length : Int))) : Value) = .int .i64 (2 * (hs.length : Int)) from by rw [wrap_in_i64 (2 * (hs.length : Int)) (by omega) (by omega)]) ?_
          refine WL.runs 3 [(70, .bool (((if (1 + (nz : Int)) < 2 * (hs.length : Int) then (2 : Int) else 1) == 2) != (decide ((2 * (hs.length : Int)) > (1 + (nz : Int)))))), (69, .bool (decide ((2 * (hs.length : Int)) > (1 + (nz : Int))))), (68, .int .i64 (1 + (nz : Int)))] (fun _ => by kernel_rfl) ?_
          refine WL.done rfl ?_
          refine QX.then_normal (hK137 _ _ ?_)
          refine WC.know 70 (.bool (((if (1 + (nz : Int)) < 2 * (hs.length : Int) then (2 : Int) else 1) == 2) != (decide ((2 * (hs.length : Int)) > (1 + (nz : Int)))))) (.bool false) rfl (congrArg Value.bool (by exact half_same _ _)) ?_
          refine WC.cond_false rfl ?_
          refine WC.skip ?_
          refine QX.then_normal (hK135 _ _ ?_)
          refine WC.seq (fun K138 hK139 => ?_)
          refine WC.region ?_
          refine WL.runs 2 [(72, .bool ((if (1 + (nz : Int)) < 2 * (hs.length : Int) then (2 : Int) else 1) == 2)), (71, .int .i64 (if (1 + (nz : Int)) < 2 * (hs.length : Int) then (2 : Int) else 1))] (fun _ => by kernel_rfl) ?_
          refine WL.done rfl ?_
          refine QX.then_normal (hK139 _ _ ?_)
          refine WC.test_at 72 ((if (1 + (nz : Int)) < 2 * (hs.length : Int) then (2 : Int) else 1) == 2) rfl (fun t140b => ?_) (fun t140b => ?_)
          · -- (if (1 + (nz : Int)) < 2 * (hs.length : Int) then (2 : Int) else 1) = 2: true
            have t140 : (if (1 + (nz : Int)) < 2 * (hs.length : Int) then (2 : Int) else 1) = 2 := by simpa using t140b
            refine WC.cond_true rfl ?_
            refine WC.exit ?_
            refine QX.block_miss (by decide) ?_
            refine QX.then_exit ?_
            refine QX.then_exit ?_
            refine QX.block_hit ?_
            refine QX.then_normal (hK52 _ _ ?_)
            refine WC.seq (fun K141 hK142 => ?_)
            refine WC.region ?_
            refine WL.runs 1 [(74, .pointer (some ⟨p21, 0, none⟩))] (fun _ => by kernel_rfl) ?_
            refine WL.call rfl rfl rfl rfl rfl (by kernel_rfl) (Place_to F132 p21 (Hn (1 + (nz : Int)) hs) w129 0 (Hn_place _ _) hT131 (Hn_log _ _ _)) ?_
            rintro _ w144 ⟨rfl, hF143⟩
            refine ⟨_, rfl, ?_⟩
            have hC145 := hC130.call hF143
            have hf146 := rdAt_fr hT131 hF143 (by simp)
            refine WL.runs 3 [(78, .pointer (some ⟨p21, 0, none⟩)), (77, .bool true), (76, .bool true)] (fun _ => by kernel_rfl) ?_
            refine WL.call rfl rfl rfl rfl rfl (by kernel_rfl) (Log_to F132 p21 (Hn (1 + (nz : Int)) hs) w144 ([] : List Cm) (Hn_logOf _ _) hf146 (Hn_log _ _ _)) ?_
            rintro _ w149 ⟨v_, rfl, hF148, ho147⟩
            have hC150 := hC145.callN hF148 (own_ge ho147) (own_lt ho147)
            obtain ⟨A151, c152, rfl, hle153⟩ := own_form ho147
            have ho155 := own_base (b' := 0) ho147 (fun _ _ => Nat.zero_le _)
            refine ⟨_, rfl, ?_⟩
            have hf156 := rdAt_fr hf146 hF148 (by simp)
            refine WL.runs 4 [(4, .bool ((([] : List Cm).length : Int) == 0)), (82, .bool ((([] : List Cm).length : Int) == 0)), (81, .bool ((([] : List Cm).length : Int) == 0)), (80, .int .i64 (([] : List Cm).length : Int))] (fun _ => by kernel_rfl) ?_
            refine WL.done rfl ?_
            refine QX.then_normal (hK142 _ _ ?_)
            refine WC.ret ?_
            refine (hret _ _ _ rfl ?_).1
            clear hN hret hret' hK142 hK139 hK137 hK135 hK127 hK81 hK79 hK77 hK69 hK67 hK64 hK62 hK54 hK52 hK50 hK37 hK35 hK33 hK20 hK15 hK13 hK11 hK6 hK4 hK2
            exact ⟨rfl, hC150.fr⟩
          · -- (if (1 + (nz : Int)) < 2 * (hs.length : Int) then (2 : Int) else 1) = 2: false
            have t140 : ¬ ((if (1 + (nz : Int)) < 2 * (hs.length : Int) then (2 : Int) else 1) = 2) := by simpa using t140b
            refine WC.cond_false rfl ?_
            refine WC.skip ?_
            refine QX.block_normal ?_
            refine QX.then_normal (hK67 _ _ ?_)
            refine WC.region ?_
            refine WL.runs 1 [(73, .int .i64 (IntKind.i64.wrap ((i : Int) + 1)))] (fun _ => by kernel_rfl) ?_
            refine WL.recast (show (.int .i64 (IntKind.i64.wrap ((i : Int) + 1)) : Value) = .int .i64 ((i : Int) + 1) from by rw [wrap_in_i64 ((i : Int) + 1) (by omega) (by omega)]) ?_
            refine WL.runs 1 [(38, .int .i64 ((i : Int) + 1))] (fun _ => by kernel_rfl) ?_
            refine WL.done rfl ?_
            refine QX.then_normal ?_
            have hC158 := hC130.pick [0] [0] rfl rfl
            refine fun a_ ha_ => hK56 _ _ _ ?_ ⟨i + 1, ks, hs, F132, rfl, rfl, hC158, hT131, by omega, fun h_ => by (rw [if_pos h_] at t140b; exact absurd t140b (by decide)), hhv, by omega⟩ a_ (ha_.weaken (sub_of ⟨rfl, rfl, rfl, rfl, rfl, rfl, rfl, rfl, trivial⟩))
            omega
      · -- (k : Int) < (1 + (nz : Int)): false
        have t82 : (1 + (nz : Int)) ≤ (k : Int) := by have q_ := of_decide_eq_false t82b; omega
        refine WL.runs 5 [(54, .bool false), (53, undef), (52, undef), (51, undef), (50, undef)] (fun _ => by kernel_rfl) ?_
        refine WL.done rfl ?_
        refine QX.then_normal (hK81 _ _ ?_)
        refine WC.cond_false rfl ?_
        refine WC.skip ?_
        refine QX.then_normal (hK79 _ _ ?_)
        refine WC.seq (fun K159 hK160 => ?_)
        refine WC.region ?_
        refine WL.runs 3 [(61, .int .i64 (IntKind.i64.wrap (16 + (k : Int)))), (60, .int .i64 (k : Int)), (59, .pointer (some ⟨p21, 0, none⟩))] (fun _ => by kernel_rfl) ?_
        refine WL.recast (show (.int .i64 (IntKind.i64.wrap (16 + (k : Int))) : Value) = .int .i64 (16 + (k : Int)) from by rw [wrap_in_i64 (16 + (k : Int)) (by omega) (by omega)]) ?_
        refine WL.runs 1 [(62, .agg #[.int .i64 0, .int .i64 0])] (fun _ => by kernel_rfl) ?_
        refine WL.call rfl rfl rfl rfl rfl (by kernel_rfl) (Promise_to F5 p21 (Hn (1 + (nz : Int)) hs) (16 + (k : Int)) 0 0 none 0 0 [] w59 (Hn (1 + (nz : Int)) hs) (if (1 + (nz : Int)) < 2 * (hs.length : Int) then (2 : Int) else 1) (halves_old (add_no2 (by omega)) hlow) (Hn_stage _ _) hrd5 (by rw [Hn_n]; omega) (by rw [Hn_n]; omega) (Hn_hv _ _ (by omega)) (Hn_want _ _) (Hn_log _ _ _) (Rd.nil _ _ _ _) okL_nil rfl (fun _ _ h_ => nomatch h_)) ?_
        rintro _ w162 ⟨F165, rfl, hF161, hT164, hsub166⟩
        have hC163 := hC60.callF 0 rfl hF161 hsub166 (rdAt_lt hT164)
        refine ⟨_, rfl, ?_⟩
        refine WL.runs 1 [(12, .int .i64 (if (1 + (nz : Int)) < 2 * (hs.length : Int) then (2 : Int) else 1))] (fun _ => by kernel_rfl) ?_
        refine WL.done rfl ?_
        refine QX.then_normal (hK160 _ _ ?_)
        refine WC.seq (fun K167 hK168 => ?_)
        refine WC.seq (fun K169 hK170 => ?_)
        refine WC.region ?_
        refine WL.runs 4 [(67, .int .i64 (IntKind.i64.wrap (2 * (hs.length : Int)))), (66, .int .i64 (hs.length : Int)), (65, .bool ((if (1 + (nz : Int)) < 2 * (hs.length : Int) then (2 : Int) else 1) == 2)), (64, .int .i64 (if (1 + (nz : Int)) < 2 * (hs.length : Int) then (2 : Int) else 1))] (fun _ => by kernel_rfl) ?_
        refine WL.recast (show (.int .i64 (IntKind.i64.wrap (2 * (hs.length : Int))) : Value) = .int .i64 (2 * (hs.length : Int)) from by rw [wrap_in_i64 (2 * (hs.length : Int)) (by omega) (by omega)]) ?_
        refine WL.runs 3 [(70, .bool (((if (1 + (nz : Int)) < 2 * (hs.length : Int) then (2 : Int) else 1) == 2) != (decide ((2 * (hs.length : Int)) > (1 + (nz : Int)))))), (69, .bool (decide ((2 * (hs.length : Int)) > (1 + (nz : Int))))), (68, .int .i64 (1 + (nz : Int)))] (fun _ => by kernel_rfl) ?_
        refine WL.done rfl ?_
        refine QX.then_normal (hK170 _ _ ?_)
        refine WC.know 70 (.bool (((if (1 + (nz : Int)) < 2 * (hs.length : Int) then (2 : Int) else 1) == 2) != (decide ((2 * (hs.length : Int)) > (1 + (nz : Int)))))) (.bool false) rfl (congrArg Value.bool (by exact half_same _ _)) ?_
        refine WC.cond_false rfl ?_
        refine WC.skip ?_
        refine QX.then_normal (hK168 _ _ ?_)
        refine WC.seq (fun K171 hK172 => ?_)
        refine WC.region ?_
        refine WL.runs 2 [(72, .bool ((if (1 + (nz : Int)) < 2 * (hs.length : Int) then (2 : Int) else 1) == 2)), (71, .int .i64 (if (1 + (nz : Int)) < 2 * (hs.length : Int) then (2 : Int) else 1))] (fun _ => by kernel_rfl) ?_
        refine WL.done rfl ?_
        refine QX.then_normal (hK172 _ _ ?_)
        refine WC.test_at 72 ((if (1 + (nz : Int)) < 2 * (hs.length : Int) then (2 : Int) else 1) == 2) rfl (fun t173b => ?_) (fun t173b => ?_)
        · -- (if (1 + (nz : Int)) < 2 * (hs.length : Int) then (2 : Int) else 1) = 2: true
          have t173 : (if (1 + (nz : Int)) < 2 * (hs.length : Int) then (2 : Int) else 1) = 2 := by simpa using t173b
          refine WC.cond_true rfl ?_
          refine WC.exit ?_
          refine QX.block_miss (by decide) ?_
          refine QX.then_exit ?_
          refine QX.then_exit ?_
          refine QX.block_hit ?_
          refine QX.then_normal (hK52 _ _ ?_)
          refine WC.seq (fun K174 hK175 => ?_)
          refine WC.region ?_
          refine WL.runs 1 [(74, .pointer (some ⟨p21, 0, none⟩))] (fun _ => by kernel_rfl) ?_
          refine WL.call rfl rfl rfl rfl rfl (by kernel_rfl) (Place_to F165 p21 (Hn (1 + (nz : Int)) hs) w162 0 (Hn_place _ _) hT164 (Hn_log _ _ _)) ?_
          rintro _ w177 ⟨rfl, hF176⟩
          refine ⟨_, rfl, ?_⟩
          have hC178 := hC163.call hF176
          have hf179 := rdAt_fr hT164 hF176 (by simp)
          refine WL.runs 3 [(78, .pointer (some ⟨p21, 0, none⟩)), (77, .bool true), (76, .bool true)] (fun _ => by kernel_rfl) ?_
          refine WL.call rfl rfl rfl rfl rfl (by kernel_rfl) (Log_to F165 p21 (Hn (1 + (nz : Int)) hs) w177 ([] : List Cm) (Hn_logOf _ _) hf179 (Hn_log _ _ _)) ?_
          rintro _ w182 ⟨v_, rfl, hF181, ho180⟩
          have hC183 := hC178.callN hF181 (own_ge ho180) (own_lt ho180)
          obtain ⟨A184, c185, rfl, hle186⟩ := own_form ho180
          have ho188 := own_base (b' := 0) ho180 (fun _ _ => Nat.zero_le _)
          refine ⟨_, rfl, ?_⟩
          have hf189 := rdAt_fr hf179 hF181 (by simp)
          refine WL.runs 4 [(4, .bool ((([] : List Cm).length : Int) == 0)), (82, .bool ((([] : List Cm).length : Int) == 0)), (81, .bool ((([] : List Cm).length : Int) == 0)), (80, .int .i64 (([] : List Cm).length : Int))] (fun _ => by kernel_rfl) ?_
          refine WL.done rfl ?_
          refine QX.then_normal (hK175 _ _ ?_)
          refine WC.ret ?_
          refine (hret _ _ _ rfl ?_).1
          clear hN hret hret' hK175 hK172 hK170 hK168 hK160 hK81 hK79 hK77 hK69 hK67 hK64 hK62 hK54 hK52 hK50 hK37 hK35 hK33 hK20 hK15 hK13 hK11 hK6 hK4 hK2
          exact ⟨rfl, hC183.fr⟩
        · -- (if (1 + (nz : Int)) < 2 * (hs.length : Int) then (2 : Int) else 1) = 2: false
          have t173 : ¬ ((if (1 + (nz : Int)) < 2 * (hs.length : Int) then (2 : Int) else 1) = 2) := by simpa using t173b
          refine WC.cond_false rfl ?_
          refine WC.skip ?_
          refine QX.block_normal ?_
          refine QX.then_normal (hK67 _ _ ?_)
          refine WC.region ?_
          refine WL.runs 1 [(73, .int .i64 (IntKind.i64.wrap ((i : Int) + 1)))] (fun _ => by kernel_rfl) ?_
          refine WL.recast (show (.int .i64 (IntKind.i64.wrap ((i : Int) + 1)) : Value) = .int .i64 ((i : Int) + 1) from by rw [wrap_in_i64 ((i : Int) + 1) (by omega) (by omega)]) ?_
          refine WL.runs 1 [(38, .int .i64 ((i : Int) + 1))] (fun _ => by kernel_rfl) ?_
          refine WL.done rfl ?_
          refine QX.then_normal ?_
          have hC191 := hC163.pick [0] [0] rfl rfl
          refine fun a_ ha_ => hK56 _ _ _ ?_ ⟨i + 1, ks, hs, F165, rfl, rfl, hC191, hT164, by omega, fun h_ => by (rw [if_pos h_] at t173b; exact absurd t173b (by decide)), hhv, by omega⟩ a_ (ha_.weaken (sub_of ⟨rfl, rfl, rfl, rfl, rfl, rfl, rfl, rfl, trivial⟩))
          omega
    · -- (i : Int) < (nodes.length : Int): false
      have t65 : (nodes.length : Int) ≤ (i : Int) := by have q_ := of_decide_eq_false t65b; omega
      refine WC.cond_false rfl ?_
      refine WC.exit ?_
      refine QX.then_exit ?_
      refine QX.then_exit ?_
      refine QX.block_hit ?_
      refine QX.then_normal (hK52 _ _ ?_)
      refine WC.seq (fun K192 hK193 => ?_)
      refine WC.region ?_
      refine WL.runs 1 [(74, .pointer (some ⟨p21, 0, none⟩))] (fun _ => by kernel_rfl) ?_
      refine WL.call rfl rfl rfl rfl rfl (by kernel_rfl) (Place_to F5 p21 (Hn (1 + (nz : Int)) hs) w59 0 (Hn_place _ _) hrd5 (Hn_log _ _ _)) ?_
      rintro _ w195 ⟨rfl, hF194⟩
      refine ⟨_, rfl, ?_⟩
      have hC196 := hC60.call hF194
      have hf197 := rdAt_fr hrd5 hF194 (by simp)
      refine WL.runs 3 [(78, .pointer (some ⟨p21, 0, none⟩)), (77, .bool true), (76, .bool true)] (fun _ => by kernel_rfl) ?_
      refine WL.call rfl rfl rfl rfl rfl (by kernel_rfl) (Log_to F5 p21 (Hn (1 + (nz : Int)) hs) w195 ([] : List Cm) (Hn_logOf _ _) hf197 (Hn_log _ _ _)) ?_
      rintro _ w200 ⟨v_, rfl, hF199, ho198⟩
      have hC201 := hC196.callN hF199 (own_ge ho198) (own_lt ho198)
      obtain ⟨A202, c203, rfl, hle204⟩ := own_form ho198
      have ho206 := own_base (b' := 0) ho198 (fun _ _ => Nat.zero_le _)
      refine ⟨_, rfl, ?_⟩
      have hf207 := rdAt_fr hf197 hF199 (by simp)
      refine WL.runs 4 [(4, .bool ((([] : List Cm).length : Int) == 0)), (82, .bool ((([] : List Cm).length : Int) == 0)), (81, .bool ((([] : List Cm).length : Int) == 0)), (80, .int .i64 (([] : List Cm).length : Int))] (fun _ => by kernel_rfl) ?_
      refine WL.done rfl ?_
      refine QX.then_normal (hK193 _ _ ?_)
      refine WC.ret ?_
      refine (hret _ _ _ rfl ?_).1
      clear hN hret hret' hK193 hK64 hK62 hK54 hK52 hK50 hK37 hK35 hK33 hK20 hK15 hK13 hK11 hK6 hK4 hK2
      exact ⟨rfl, hC201.fr⟩

end Go.Proofs.Ytlpmmepbfafpfaa
