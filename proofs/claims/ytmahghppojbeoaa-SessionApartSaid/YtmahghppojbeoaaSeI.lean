/- Contracts of functions of the program, each proved by a walk through its code; conditions stand in the statements. -/
import Derived.Test.YtmahghppojbeoaaSeH
namespace Go.Proofs.Ytmahghppojbeoaa
set_option linter.unusedSimpArgs false
set_option linter.unusedVariables false
set_option linter.unusedSectionVars false
open Go Go.RowKit Go.Tw
set_option linter.unusedVariables false
set_option maxRecDepth 20000
/-! ### what one mux says, and another one -/
def vw (L : Lm) : Option (Int × Int × List Int) := (lookL L 32).map fun o => (o.boot, o.heard, o.vs)
theorem vw_is {L : Lm} : (lookL L 32).isSome = (vw L).isSome := by unfold vw; cases lookL L 32 <;> rfl
theorem vw_one {L : Lm} : ((oneOf L 32).boot, (oneOf L 32).heard, (oneOf L 32).vs) = (vw L).getD (0, 0, []) := by unfold vw oneOf; cases lookL L 32 <;> rfl
theorem vw_boot {La Lb : Lm} (h : vw La = vw Lb) : (oneOf La 32).boot = (oneOf Lb 32).boot ∧ (oneOf La 32).heard = (oneOf Lb 32).heard ∧ (oneOf La 32).vs = (oneOf Lb 32).vs := by
  have h1 := vw_one (L := La); rw [h, ← vw_one] at h1
  simpa using h1
theorem vw_put {L : Lm} (_hn : (L.map (·.1)).Nodup) (k : Int) (o : One) : vw (putL L k o) = if k = 32 then some (o.boot, o.heard, o.vs) else vw L := by
  unfold vw; rw [al_look_put]
  by_cases e : k = 32 <;> simp [e]
theorem vw_tick {L : Lm} (hn : (L.map (·.1)).Nodup) (now : Int) : vw (tickR L now) = if timB now = true then (if (vw L).isSome = true ∧ 12 < now - ((vw L).getD (0, 0, [])).2.1 then none else vw L) else vw L := by
  unfold tickR
  split
  · unfold tickL tickK
    rw [List.take_of_length_le (by rw [sesL_len]; exact Nat.le_refl _)]
    have h1 := (fold_del ((sesL L).filter (goneB L now)) L hn).2 32
    unfold vw at *
    rw [h1]
    have h2 : (32 ∈ (sesL L).filter (goneB L now)) ↔ ((lookL L 32).isSome = true ∧ 12 < now - (oneOf L 32).heard) := by
      rw [List.mem_filter]; unfold goneB; rw [decide_eq_true_eq]
      refine and_congr ⟨fun h => ?_, fun h => ?_⟩ Iff.rfl
      · obtain ⟨o, e, _⟩ := one_in h; rw [e]; rfl
      · obtain ⟨o, e⟩ := Option.isSome_iff_exists.1 h; exact mem_sesL.2 ⟨o, al_look_mem e⟩
    unfold oneOf at h2
    cases hl : lookL L 32 with
    | none => simp [hl]
    | some o =>
      rw [hl] at h2
      by_cases e : 12 < now - o.heard
      · rw [if_pos (h2.2 ⟨rfl, e⟩)]; simp [e]
      · rw [if_neg (fun q => e (h2.1 q).2)]; simp [e]
  · rfl
theorem apart_tick {La Lb : Lm} (ha : (La.map (·.1)).Nodup) (hb : (Lb.map (·.1)).Nodup) (h : vw La = vw Lb) (now : Int) : vw (tickR La now) = vw (tickR Lb now) := by
  rw [vw_tick ha, vw_tick hb, h]
theorem apart_other {L L' : Lm} {f k now : Int} {N : List Int} {a : Option (Int × Int)} (hn : (L.map (·.1)).Nodup) (hf : f ≠ 32) (hz : RecvR L f k now N L' a) : vw L' = vw L := by
  cases hz <;> first | rfl | rw [vw_put hn, if_neg hf]
theorem apart_same {La Lb La' Lb' : Lm} {f k now : Int} {N : List Int} {a b : Option (Int × Int)} (ha : (La.map (·.1)).Nodup) (hb : (Lb.map (·.1)).Nodup) (h : vw La = vw Lb) (hf : f = 32) (hz : RecvR La f k now N La' a) (hy : RecvR Lb f k now N Lb' b) : a = b ∧ vw La' = vw Lb' := by
  subst hf
  obtain ⟨e1, e2, e3⟩ := vw_boot h
  have e0 : (lookL La 32).isSome = (lookL Lb 32).isSome := by rw [vw_is, vw_is, h]
  cases hz <;> cases hy <;> (try simp only [vw_put ha, vw_put hb, if_true]) <;> first
    | exact ⟨trivial, h⟩
    | exact ⟨trivial, trivial⟩
    | exact ⟨trivial, rfl⟩
    | (refine ⟨trivial, ?_⟩; rw [e1]; done)
    | (refine ⟨trivial, ?_⟩; rw [e1, e3]; done)
    | exact ⟨rfl, h⟩
    | exact ⟨rfl, rfl⟩
    | (refine ⟨rfl, ?_⟩; rw [e1]; done)
    | (refine ⟨rfl, ?_⟩; rw [e1, e3]; done)
    | (exfalso; subst_vars; simp_all; done)
    | (exfalso; subst_vars; rw [e0, e1] at *; simp_all; done)
theorem has_muxes {L : Lm} {vip : Int} : (muxesL L vip).contains 32 = (match vw L with | some x => x.2.2.contains vip | none => false) := by
  rw [Bool.eq_iff_iff, List.contains_iff_mem]
  unfold muxesL; rw [List.mem_filter]
  unfold vw
  constructor
  · rintro ⟨h1, h2⟩
    obtain ⟨o, e, _⟩ := one_in h1
    unfold oneOf at h2; rw [e] at h2 ⊢; exact h2
  · cases e : lookL L 32 with
    | none => intro h; cases h
    | some o => intro h; exact ⟨mem_sesL.2 ⟨o, al_look_mem e⟩, by unfold oneOf; rw [e]; exact h⟩
theorem apart_mux {La Lb : Lm} (h : vw La = vw Lb) (vip : Int) : (muxesL La vip).contains 32 = (muxesL Lb vip).contains 32 := by rw [has_muxes, has_muxes, h]
theorem has_ses {L : Lm} : (sesL L).contains 32 = (vw L).isSome := by
  rw [Bool.eq_iff_iff, List.contains_iff_mem, mem_sesL, ← vw_is]
  constructor
  · rintro ⟨o, h⟩
    cases e : lookL L 32 with
    | none => exact absurd rfl (al_none.1 e _ h)
    | some o => rfl
  · intro h; obtain ⟨o, e⟩ := Option.isSome_iff_exists.1 h; exact ⟨o, al_look_mem e⟩
theorem apart_ses {La Lb : Lm} (h : vw La = vw Lb) : (sesL La).contains 32 = (sesL Lb).contains 32 := by rw [has_ses, has_ses, h]
/-! a call of a script -/
structure SOp where
  kind : Int
  va : Option Addr
  vn : Nat
  vc : Nat
  from_ : Int
  mki : Int
  na : Option Addr
  nums : List Int
  nc : Nat
  da : Option Addr
  dn : Nat
  dc : Nat
  now : Int
def cellS (o : SOp) : List Value := [.int .i64 o.kind, .slice o.va o.vn o.vc, .int .i64 o.from_, .int .i64 o.mki, .slice o.na o.nums.length o.nc, .slice o.da o.dn o.dc, .int .i64 o.now]
theorem cellS_len (o : SOp) : (cellS o).length = 7 := rfl
structure sopAt (w : World) (o : SOp) : Prop where
  nr : Rd w 1 (Go.Tw.encI .i64) o.na o.nums
  nl : o.nums.length ≤ o.nc
  nm : o.nc ≤ maxLen
  fr : isI64 o.from_
  vm : o.vn ≤ maxLen
theorem sopAt.fr' {w w' : World} {o : SOp} (h : sopAt w o) (hf : Fr w w' []) : sopAt w' o := { h with nr := Rd.fr h.nr hf }
theorem cont_snoc {xs : List Int} {i : Nat} {e n : Int} (hx : xs[i]? = some e) (hm : (xs.take i).contains n = false) (h : (e == n) = false) : (xs.take (i + 1)).contains n = false := by
  obtain ⟨hi, rfl⟩ := List.getElem?_eq_some_iff.1 hx
  rw [List.take_succ_eq_append_getElem hi, List.contains_eq_any_beq, List.any_append, ← List.contains_eq_any_beq, hm]
  have h2 : (n == xs[i]) = false := by rw [beq_eq_false_iff_ne] at h ⊢; exact fun q => h q.symm
  simp [h2]
theorem has_ct (A : Option Addr) (c : Nat) (xs : List Int) (n : Int) (w : World) (hr : Rd w 1 (Go.Tw.encI .i64) A xs) (hl : xs.length ≤ 9223372036854775807) : Calls Try.prog 26 #[.slice A xs.length c, .int .i64 n] w fun e w' => e = .returned (.bool (xs.contains n)) ∧ Fr w w' [] := by
 refine enterD (n := 17) Try.func26 rfl rfl (Nat.le_of_ble_eq_true rfl) ?_
 intro Q0 hN hret hret'
 have hC := Cx.start w
 refine WCs (fun K1 hK2 => ?_)
 refine WCg (WLq 1 [(4, .bool false)] (WLd rfl (QXn (hK2 _ _ ?_))))
 refine WCs (fun K3 hK4 => ?_)
 refine WCs (fun K5 hK6 => ?_)
 refine WCg (WLq 3 [(9, .int .i64 0), (8, .int .i64 (xs.length : Int)), (7, .slice A xs.length c)] (WLd rfl (QXn (hK6 _ _ ?_))))
 refine WC.block ?_
 refine WC.loop (fun m_ E_ w_ => ∃ (i : Nat), m_ = xs.length - i ∧ E_ = [(0, .slice A xs.length c), (1, .int .i64 n), (7, .slice A xs.length c), (8, .int .i64 (xs.length : Int)), (9, .int .i64 (i : Int))] ∧ Cx w [] w_ [] [] ∧ (i ≤ xs.length ∧ (xs.take i).contains n = false)) ⟨_, _, ⟨0, rfl, rfl, hC, Nat.zero_le _, rfl⟩, sub_of ⟨rfl, rfl, rfl, rfl, rfl, trivial⟩⟩ (fun m10 E_ ar K7 hK8 hI9 => ?_)
 obtain ⟨i, rfl, rfl, ab, hi, hall⟩ := hI9
 refine WCs (fun au af => ?_)
 refine WCg (WLq 1 [(10, .bool (decide ((i : Int) < (xs.length : Int))))] (WLd rfl (QXn (af _ _ ?_))))
 refine WCs (fun av ag => ?_)
 refine WCa 10 (decide ((i : Int) < (xs.length : Int))) rfl (fun ac => ?_) (fun ac => ?_)
 ·
  have ap : (i : Int) < (xs.length : Int) := by have q_ := of_decide_eq_true ac; omega
  refine WCt rfl ?_
  refine WC.skip ?_
  refine QXn (ag _ _ ?_)
  refine WCs (fun aw ai => ?_)
  refine WC.block ?_
  refine WCs (fun ax aj => ?_)
  refine WCg ?_
  obtain ⟨ad, ae⟩ := get_some (xs := xs) (i := i) (by omega)
  obtain ⟨b24, o26, ak, al⟩ := hr.at_ _ _ ae
  refine WLi A xs.length c 11 .i64 (i : Int) b24 o26 i 1 (by kernel_rfl) ak (by omega) (by omega) (o26 + i) (by first | (simp; done) | omega) ?_
  refine WLo 3 (.pointer (some ⟨b24, o26 + i, none⟩)) (.int .i64 ad) 12 (run_load1 rfl (by simpa [Nat.add_assoc] using ab.fr.cell (al 0 _ rfl) (by simp))) ?_
  refine WLq 1 [(6, .int .i64 ad)] (WLd rfl (QXn (aj _ _ ?_)))
  refine WCs (fun ay am => ?_)
  refine WCg (WLq 3 [(15, .bool (ad == n)), (14, .int .i64 n), (13, .int .i64 ad)] (WLd rfl (QXn (am _ _ ?_))))
  refine WCa 15 (ad == n) rfl (fun aa => ?_) (fun aa => ?_)
  ·
   have aq : ad = n := by simpa using aa
   refine WCt rfl ?_
   refine WCs (fun az an => ?_)
   refine WCg (WLq 1 [(4, .bool true)] (WLd rfl (QXn (an _ _ ?_))))
   refine WC.ret ?_
   refine QXk ?_
   refine QXr ?_
   refine QXr ?_
   refine QXk ?_
   refine QXr ?_
   refine (hret _ _ _ rfl ?_).1
   exact ⟨by rw [contains_idx ae (by simpa using Eq.symm (eq_of_beq aa))]; rfl, ab.fr⟩
  ·
   have aq : ¬ (ad = n) := by simpa using aa
   refine WCf rfl (WC.skip ?_)
   refine QXb ?_
   refine QXn (ai _ _ ?_)
   refine WCg (WLq 1 [(16, .int .i64 (IntKind.i64.wrap ((i : Int) + 1)))] ?_)
   refine WLt (show (.int .i64 (IntKind.i64.wrap ((i : Int) + 1)) : Value) = .int .i64 ((i : Int) + 1) from by rw [wrap_in_i64 ((i : Int) + 1) (by omega) (by omega)]) ?_
   refine WLq 1 [(9, .int .i64 ((i : Int) + 1))] ?_
   refine WLd rfl ?_
   refine QXn ?_
   have ao := ab.pick [] [] rfl rfl
   refine fun a_ ha_ => hK8 _ _ _ ?_ ⟨i + 1, rfl, rfl, ao, by omega, cont_snoc ae hall aa⟩ a_ (ha_.weaken (sub_of ⟨rfl, rfl, rfl, rfl, rfl, trivial⟩))
   omega
 ·
  have ap : (xs.length : Int) ≤ (i : Int) := by have q_ := of_decide_eq_false ac; omega
  refine WCf rfl ?_
  refine WC.exit ?_
  refine QXe ?_
  refine QXe ?_
  refine QX.block_hit ?_
  refine QXn (hK4 _ _ ?_)
  refine WCs (fun aA ah => ?_)
  refine WCg (WLq 1 [(4, .bool false)] (WLd rfl (QXn (ah _ _ ?_))))
  refine WC.ret ?_
  refine (hret _ _ _ rfl ?_).1
  clear hN hret hret' ah ag af hK6 hK4 hK2
  rw [List.take_of_length_le (by omega)] at hall
  exact ⟨by rw [hall]; rfl, ab.fr⟩

theorem has_n (A : Option Addr) (n c : Nat) (xs : List Int) (x : Int) (w : World) (hr : Rd w 1 (Go.Tw.encI .i64) A xs) (hn : xs.length = n) (hl : n ≤ 9223372036854775807) : Calls Try.prog 26 #[.slice A n c, .int .i64 x] w fun e w' => e = .returned (.bool (xs.contains x)) ∧ Fr w w' [] := by subst hn; exact has_ct A c xs x w hr hl
set_option maxHeartbeats 1000000 in
theorem large_ct (C : Option Addr) (c : Nat) (ops : List SOp) (w : World) (hops : Rd w 7 cellS C ops) (hok : ∀ o ∈ ops, sopAt w o) (hol : ops.length ≤ 9223372036854775807) : Calls Try.prog 11 #[.slice C ops.length c] w fun e w' => ∃ b, e = .returned (.bool b) ∧ Fr w w' [] ∧ (b = false → ∀ o ∈ ops, o.nums.length ≤ 3300 ∧ o.vn ≤ 300) := by
 refine enterD (n := 34) Try.func11 rfl rfl (Nat.le_of_ble_eq_true rfl) ?_
 intro Q0 hN hret hret'
 have hC := Cx.start w
 refine WCs (fun K1 hK2 => ?_)
 refine WCg (WLq 1 [(2, .bool false)] (WLd rfl (QXn (hK2 _ _ ?_))))
 refine WCs (fun K3 hK4 => ?_)
 refine WCg (WLq 1 [(3, .int .i64 0)] (WLd rfl (QXn (hK4 _ _ ?_))))
 refine WCs (fun K5 hK6 => ?_)
 refine WCs (fun K7 hK8 => ?_)
 refine WCg (WLq 3 [(8, .int .i64 0), (7, .int .i64 (ops.length : Int)), (6, .slice C ops.length c)] (WLd rfl (QXn (hK8 _ _ ?_))))
 refine WC.block ?_
 refine WC.loop (fun m_ E_ w_ => ∃ (i : Nat) (n : Int), m_ = ops.length - i ∧ E_ = [(0, .slice C ops.length c), (3, .int .i64 n), (6, .slice C ops.length c), (7, .int .i64 (ops.length : Int)), (8, .int .i64 (i : Int))] ∧ Cx w [] w_ [] [] ∧ (i ≤ ops.length ∧ (0 ≤ n ∧ n ≤ 400) ∧ ∀ k o, k < i → ops[k]? = some o → o.nums.length ≤ 3300 ∧ o.vn ≤ 300)) ⟨_, _, ⟨0, 0, rfl, rfl, hC, Nat.zero_le _, ⟨by decide, by decide⟩, fun _ _ h_ => absurd h_ (Nat.not_lt_zero _)⟩, sub_of ⟨rfl, rfl, rfl, rfl, rfl, trivial⟩⟩ (fun m12 E_ aF K9 aj ak => ?_)
 obtain ⟨i, n, rfl, rfl, ad, hi, ⟨hn0, hn1⟩, hall⟩ := ak
 refine WCs (fun aG al => ?_)
 refine WCg (WLq 1 [(9, .bool (decide ((i : Int) < (ops.length : Int))))] (WLd rfl (QXn (al _ _ ?_))))
 refine WCs (fun aH am => ?_)
 refine WCa 9 (decide ((i : Int) < (ops.length : Int))) rfl (fun ae => ?_) (fun ae => ?_)
 ·
  have az : (i : Int) < (ops.length : Int) := by have q_ := of_decide_eq_true ae; omega
  refine WCt rfl ?_
  refine WC.skip ?_
  refine QXn (am _ _ ?_)
  refine WCs (fun aI an => ?_)
  refine WC.block ?_
  refine WCs (fun aJ ao => ?_)
  refine WCg ?_
  obtain ⟨aa, af⟩ := get_some (xs := ops) (i := i) (by omega)
  obtain ⟨b26, o28, ap, aq⟩ := hops.at_ _ _ af
  have hop_e24 := hok _ (List.mem_of_getElem? af)
  obtain ⟨hf0_e24, hf1_e24⟩ := hop_e24.fr
  have hnl_e24 := hop_e24.nl
  have hnm_e24 := hop_e24.nm
  have hvm_e24 := hop_e24.vm
  simp only [maxLen] at hnm_e24 hvm_e24
  refine WLi C ops.length c 10 .i64 (i : Int) b26 o28 i 7 (by kernel_rfl) ap (by omega) (by omega) (o28 + i * 7) (by first | (simp; done) | omega) ?_
  refine WLo 42 (.pointer (some ⟨b26, o28 + i * 7, none⟩)) (.agg #[.int .i64 aa.kind, .slice aa.va aa.vn aa.vc, .int .i64 aa.from_, .int .i64 aa.mki, .slice aa.na aa.nums.length aa.nc, .slice aa.da aa.dn aa.dc, .int .i64 aa.now]) 11 (run_rdN (l := [.int .i64 aa.kind, .slice aa.va aa.vn aa.vc, .int .i64 aa.from_, .int .i64 aa.mki, .slice aa.na aa.nums.length aa.nc, .slice aa.da aa.dn aa.dc, .int .i64 aa.now]) rfl rfl (fun j u hu => by have hq_ := ad.fr.cell (aq j u hu) (by simp); simpa [Nat.add_assoc] using hq_)) ?_
  refine WL.newM ad (fun b => .pointer (some ⟨b, 0, none⟩)) (.cells #[.int .i64 0, .slice none 0 0, .int .i64 0, .int .i64 0, .slice none 0 0, .slice none 0 0, .int .i64 0] 42) 5 (fun _ => by kernel_rfl) (fun ac aK aA aB ar => ?_)
  refine WLs (c' := #[.int .i64 aa.kind, .slice aa.va aa.vn aa.vc, .int .i64 aa.from_, .int .i64 aa.mki, .slice aa.na aa.nums.length aa.nc, .slice aa.da aa.dn aa.dc, .int .i64 aa.now]) ar 0 42 ac 0 (.agg #[.int .i64 aa.kind, .slice aa.va aa.vn aa.vc, .int .i64 aa.from_, .int .i64 aa.mki, .slice aa.na aa.nums.length aa.nc, .slice aa.da aa.dn aa.dc, .int .i64 aa.now]) (by kernel_rfl) rfl (by kernel_rfl) (fun aL aC ab => ?_)
  refine WLd rfl (QXn (ao _ _ ?_))
  refine WCs (fun aM au => ?_)
  refine WCg (WLq 2 [(13, .pointer (some ⟨ac, 1, none⟩)), (12, .int .i64 n)] ?_)
  refine WLo 33 (.pointer (some ⟨ac, 1, none⟩)) (.slice aa.va aa.vn aa.vc) 14 (run_ld (ab.get 0 rfl) rfl) ?_
  refine WLq 2 [(16, .int .i64 (IntKind.i64.wrap (Int.tdiv (aa.vn : Int) 8))), (15, .int .i64 (aa.vn : Int))] ?_
  refine WLt (show (.int .i64 (IntKind.i64.wrap (Int.tdiv (aa.vn : Int) 8)) : Value) = .int .i64 ((aa.vn : Int) / 8) from by rw [Int.tdiv_eq_ediv_of_nonneg (by omega), wrap_in_i64 _ (by omega) (by omega)]) ?_
  refine WLq 1 [(17, .int .i64 (IntKind.i64.wrap (1 + ((aa.vn : Int) / 8))))] ?_
  refine WLt (show (.int .i64 (IntKind.i64.wrap (1 + ((aa.vn : Int) / 8))) : Value) = .int .i64 (1 + ((aa.vn : Int) / 8)) from by rw [wrap_in_i64 _ (by omega) (by omega)]) ?_
  refine WLq 2 [(19, .pointer (some ⟨ac, 4, none⟩)), (18, .pointer (some ⟨ac, 3, none⟩))] ?_
  refine WLo 37 (.pointer (some ⟨ac, 4, none⟩)) (.slice aa.na aa.nums.length aa.nc) 20 (run_ld (ab.get 0 rfl) rfl) ?_
  refine WLq 2 [(22, .int .i64 (IntKind.i64.wrap (Int.tdiv (aa.nums.length : Int) 8))), (21, .int .i64 (aa.nums.length : Int))] ?_
  refine WLt (show (.int .i64 (IntKind.i64.wrap (Int.tdiv (aa.nums.length : Int) 8)) : Value) = .int .i64 ((aa.nums.length : Int) / 8) from by rw [Int.tdiv_eq_ediv_of_nonneg (by omega), wrap_in_i64 _ (by omega) (by omega)]) ?_
  refine WLq 1 [(23, .int .i64 (IntKind.i64.wrap ((1 + ((aa.vn : Int) / 8)) + ((aa.nums.length : Int) / 8))))] ?_
  refine WLt (show (.int .i64 (IntKind.i64.wrap ((1 + ((aa.vn : Int) / 8)) + ((aa.nums.length : Int) / 8))) : Value) = .int .i64 ((1 + ((aa.vn : Int) / 8)) + ((aa.nums.length : Int) / 8)) from by rw [wrap_in_i64 _ (by omega) (by omega)]) ?_
  refine WLq 1 [(24, .int .i64 (IntKind.i64.wrap (n + ((1 + ((aa.vn : Int) / 8)) + ((aa.nums.length : Int) / 8)))))] ?_
  refine WLt (show (.int .i64 (IntKind.i64.wrap (n + ((1 + ((aa.vn : Int) / 8)) + ((aa.nums.length : Int) / 8)))) : Value) = .int .i64 (n + ((1 + ((aa.vn : Int) / 8)) + ((aa.nums.length : Int) / 8))) from by rw [wrap_in_i64 _ (by omega) (by omega)]) ?_
  refine WLq 1 [(3, .int .i64 (n + ((1 + ((aa.vn : Int) / 8)) + ((aa.nums.length : Int) / 8))))] (WLd rfl (QXn (au _ _ ?_)))
  refine WCs (fun aN ai => ?_)
  refine WCg (WLq 3 [(27, .bool (decide ((n + ((1 + ((aa.vn : Int) / 8)) + ((aa.nums.length : Int) / 8))) > 400))), (26, .bool (decide ((n + ((1 + ((aa.vn : Int) / 8)) + ((aa.nums.length : Int) / 8))) > 400))), (25, .int .i64 (n + ((1 + ((aa.vn : Int) / 8)) + ((aa.nums.length : Int) / 8))))] ?_)
  refine WLa 27 (decide ((n + ((1 + ((aa.vn : Int) / 8)) + ((aa.nums.length : Int) / 8))) > 400)) rfl (fun ag => ?_) (fun ag => ?_)
  ·
   have aD : (400 : Int) < (n + ((1 + ((aa.vn : Int) / 8)) + ((aa.nums.length : Int) / 8))) := by have q_ := of_decide_eq_true ag; omega
   refine WLq 5 [(32, .bool true), (31, undef), (30, undef), (29, undef), (28, undef)] (WLd rfl (QXn (ai _ _ ?_)))
   refine WCt rfl ?_
   refine WCs (fun aO av => ?_)
   refine WCg (WLq 1 [(2, .bool true)] (WLd rfl (QXn (av _ _ ?_))))
   refine WC.ret ?_
   refine QXk ?_
   refine QXr ?_
   refine QXr ?_
   refine QXk ?_
   refine QXr ?_
   refine (hret _ _ _ rfl ?_).1
   exact ⟨_, rfl, ab.fr, fun h_ => by cases h_⟩
  ·
   have aD : (n + ((1 + ((aa.vn : Int) / 8)) + ((aa.nums.length : Int) / 8))) ≤ 400 := by have q_ := of_decide_eq_false ag; omega
   refine WLq 1 [(28, .pointer (some ⟨ac, 1, none⟩))] ?_
   refine WLo 33 (.pointer (some ⟨ac, 1, none⟩)) (.slice aa.va aa.vn aa.vc) 29 (run_ld (ab.get 0 rfl) rfl) ?_
   refine WLq 3 [(32, .bool (decide ((aa.vn : Int) > 300))), (31, .bool (decide ((aa.vn : Int) > 300))), (30, .int .i64 (aa.vn : Int))] (WLd rfl (QXn (ai _ _ ?_)))
   refine WCa 32 (decide ((aa.vn : Int) > 300)) rfl (fun ah => ?_) (fun ah => ?_)
   ·
    have aE : (300 : Int) < (aa.vn : Int) := by have q_ := of_decide_eq_true ah; omega
    refine WCt rfl ?_
    refine WCs (fun aP aw => ?_)
    refine WCg (WLq 1 [(2, .bool true)] (WLd rfl (QXn (aw _ _ ?_))))
    refine WC.ret ?_
    refine QXk ?_
    refine QXr ?_
    refine QXr ?_
    refine QXk ?_
    refine QXr ?_
    refine (hret _ _ _ rfl ?_).1
    exact ⟨_, rfl, ab.fr, fun h_ => by cases h_⟩
   ·
    have aE : (aa.vn : Int) ≤ 300 := by have q_ := of_decide_eq_false ah; omega
    refine WCf rfl (WC.skip ?_)
    refine QXb ?_
    refine QXn (an _ _ ?_)
    refine WCg (WLq 1 [(33, .int .i64 (IntKind.i64.wrap ((i : Int) + 1)))] ?_)
    refine WLt (show (.int .i64 (IntKind.i64.wrap ((i : Int) + 1)) : Value) = .int .i64 ((i : Int) + 1) from by rw [wrap_in_i64 _ (by omega) (by omega)]) ?_
    refine WLq 1 [(8, .int .i64 ((i : Int) + 1))] ?_
    refine WLd rfl ?_
    refine QXn ?_
    have ax := ab.pick [] [] rfl rfl
    refine fun a_ ha_ => aj _ _ _ ?_ ⟨i + 1, (n + ((1 + ((aa.vn : Int) / 8)) + ((aa.nums.length : Int) / 8))), rfl, rfl, ax, by omega, by omega, fun k_ o_ h1_ h2_ => by
     by_cases hk_ : k_ = i
     ·
      subst hk_; rw [af] at h2_; cases h2_; exact ⟨by omega, by omega⟩
     ·
      exact hall k_ o_ (by omega) h2_⟩ a_ (ha_.weaken (sub_of ⟨rfl, rfl, rfl, rfl, rfl, trivial⟩))
    omega
 ·
  have az : (ops.length : Int) ≤ (i : Int) := by have q_ := of_decide_eq_false ae; omega
  refine WCf rfl ?_
  refine WC.exit ?_
  refine QXe ?_
  refine QXe ?_
  refine QX.block_hit ?_
  refine QXn (hK6 _ _ ?_)
  refine WCs (fun aQ ay => ?_)
  refine WCg (WLq 1 [(2, .bool false)] (WLd rfl (QXn (ay _ _ ?_))))
  refine WC.ret ?_
  refine (hret _ _ _ rfl ?_).1
  exact ⟨_, rfl, ad.fr, fun _ o_ ho_ => by
   obtain ⟨k_, hk_⟩ := List.mem_iff_getElem?.1 ho_
   exact hall k_ o_ (by have := (List.getElem?_eq_some_iff.1 hk_).1; omega) hk_⟩

theorem Same_ct (k : Int) (A B : Option Addr) (c d : Nat) (xs : List Int) (w : World) (hA : Rd w 1 (Go.Tw.encI .i64) A xs) (hB : Rd w 1 (Go.Tw.encI .i64) B xs) (hl : xs.length ≤ 1099511627776) : Calls Try.prog 31 #[.agg #[.int .i64 k, .slice A xs.length c, .slice none 0 0], .agg #[.int .i64 k, .slice B xs.length d, .slice none 0 0]] w fun e w' => e = .returned (.bool true) ∧ Fr w w' [] := by
 refine enterD (n := 47) Try.func31 rfl rfl (Nat.le_of_ble_eq_true rfl) ?_
 intro Q0 hN hret hret'
 have hC := Cx.start w
 refine WCs (fun K1 hK2 => ?_)
 refine WCg ?_
 refine WL.newM hC (fun b => .pointer (some ⟨b, 0, none⟩)) (.cells #[.int .i64 k, .slice A xs.length c, .slice none 0 0] 40) 2 (fun _ => by kernel_rfl) (fun g3 w4 hb7 hF5 hC6 => ?_)
 refine WL.newM hC6 (fun b => .pointer (some ⟨b, 0, none⟩)) (.cells #[.int .i64 k, .slice B xs.length d, .slice none 0 0] 40) 3 (fun _ => by kernel_rfl) (fun g8 w9 aB aC ab => ?_)
 refine WLq 1 [(4, .bool false)] (WLd rfl (QXn (hK2 _ _ ?_)))
 refine WCs (fun aF ah => ?_)
 refine WCs (fun aG ai => ?_)
 refine WCg (WLq 1 [(6, .pointer (some ⟨g3, 0, none⟩))] ?_)
 refine WLo 3 (.pointer (some ⟨g3, 0, none⟩)) (.int .i64 k) 7 (run_ld (ab.get 0 rfl) rfl) ?_
 refine WLq 1 [(8, .pointer (some ⟨g8, 0, none⟩))] ?_
 refine WLo 3 (.pointer (some ⟨g8, 0, none⟩)) (.int .i64 k) 9 (run_ld (ab.get 1 rfl) rfl) ?_
 refine WLq 2 [(11, .bool (k != k)), (10, .bool (k != k))] ?_
 refine WL.know 11 (.bool (k != k)) (.bool false) rfl (congrArg Value.bool (by simp)) ?_
 refine WLq 1 [(12, .pointer (some ⟨g3, 1, none⟩))] ?_
 refine WLo 37 (.pointer (some ⟨g3, 1, none⟩)) (.slice A xs.length c) 13 (run_ld (ab.get 0 rfl) rfl) ?_
 refine WLq 2 [(15, .pointer (some ⟨g8, 1, none⟩)), (14, .int .i64 (xs.length : Int))] ?_
 refine WLo 37 (.pointer (some ⟨g8, 1, none⟩)) (.slice B xs.length d) 16 (run_ld (ab.get 1 rfl) rfl) ?_
 refine WLq 4 [(20, .bool ((xs.length : Int) != (xs.length : Int))), (19, .bool ((xs.length : Int) != (xs.length : Int))), (18, .bool ((xs.length : Int) != (xs.length : Int))), (17, .int .i64 (xs.length : Int))] ?_
 refine WL.know 20 (.bool ((xs.length : Int) != (xs.length : Int))) (.bool false) rfl (congrArg Value.bool (by simp)) ?_
 refine WLq 1 [(21, .pointer (some ⟨g3, 2, none⟩))] ?_
 refine WLo 38 (.pointer (some ⟨g3, 2, none⟩)) (.slice none 0 0) 22 (run_ld (ab.get 0 rfl) rfl) ?_
 refine WL.sem (convert 38 9 (.slice none 0 0)) 23 (.string (strOfNums ([] : List Int))) (by kernel_rfl) (run_bytes_str rfl rfl rfl (Rd.nil _ _ _ _) (by first | rfl | assumption | (simp; done))) ?_
 refine WLq 1 [(24, .pointer (some ⟨g8, 2, none⟩))] ?_
 refine WLo 38 (.pointer (some ⟨g8, 2, none⟩)) (.slice none 0 0) 25 (run_ld (ab.get 1 rfl) rfl) ?_
 refine WL.sem (convert 38 9 (.slice none 0 0)) 26 (.string (strOfNums ([] : List Int))) (by kernel_rfl) (run_bytes_str rfl rfl rfl (Rd.nil _ _ _ _) (by first | rfl | assumption | (simp; done))) ?_
 refine WLq 1 [(27, .bool (!((strOfNums ([] : List Int)).toList == (strOfNums ([] : List Int)).toList)))] ?_
 refine WLt (show (.bool (!((strOfNums ([] : List Int)).toList == (strOfNums ([] : List Int)).toList)) : Value) = .bool (!decide ((strOfNums ([] : List Int)) = (strOfNums ([] : List Int)))) from by rw [str_eql]) ?_
 refine WLq 1 [(28, .bool (!decide ((strOfNums ([] : List Int)) = (strOfNums ([] : List Int)))))] (WLd rfl (QXn (ai _ _ ?_)))
 refine WC.know 28 (.bool (!decide ((strOfNums ([] : List Int)) = (strOfNums ([] : List Int))))) (.bool false) rfl (congrArg Value.bool (by simp)) ?_
 refine WCf rfl (WC.skip (QXn (ah _ _ ?_)))
 refine WCs (fun aH aj => ?_)
 refine WCs (fun aI ak => ?_)
 refine WCg (WLq 1 [(5, .int .i64 0)] (WLd rfl (QXn (ak _ _ ?_))))
 refine WC.block ?_
 refine WC.loop (fun m_ E_ w_ => ∃ (i : Nat), m_ = xs.length - i ∧ E_ = [(2, .pointer (some ⟨g3, 0, none⟩)), (3, .pointer (some ⟨g8, 0, none⟩)), (5, .int .i64 (i : Int))] ∧ Cx w [] w_ [(g3, .cells #[.int .i64 k, .slice A xs.length c, .slice none 0 0] 40), (g8, .cells #[.int .i64 k, .slice B xs.length d, .slice none 0 0] 40)] [] ∧ (i ≤ xs.length)) ⟨_, _, ⟨0, rfl, rfl, ab, Nat.zero_le _⟩, sub_of ⟨rfl, rfl, rfl, trivial⟩⟩ (fun m24 E_ aJ aK al am => ?_)
 obtain ⟨i, rfl, rfl, ad, hi⟩ := am
 refine WCs (fun aL an => ?_)
 refine WCs (fun aM ao => ?_)
 refine WCg (WLq 2 [(30, .pointer (some ⟨g3, 1, none⟩)), (29, .int .i64 (i : Int))] ?_)
 refine WLo 37 (.pointer (some ⟨g3, 1, none⟩)) (.slice A xs.length c) 31 (run_ld (ad.get 0 rfl) rfl) ?_
 refine WLq 2 [(33, .bool (decide ((i : Int) < (xs.length : Int)))), (32, .int .i64 (xs.length : Int))] (WLd rfl (QXn (ao _ _ ?_)))
 refine WCa 33 (decide ((i : Int) < (xs.length : Int))) rfl (fun ae => ?_) (fun ae => ?_)
 ·
  have aD : (i : Int) < (xs.length : Int) := by have q_ := of_decide_eq_true ae; omega
  refine WCt rfl ?_
  refine WC.skip ?_
  refine QXn (an _ _ ?_)
  refine WCs (fun aN ap => ?_)
  refine WC.block ?_
  refine WCs (fun aO aq => ?_)
  refine WC.drawC ad [] (by kernel_rfl) (fun aP aE ac aa => ?_)
  refine WDq (NPt (NPb (NPt (NPt (NPb (NPt hN)))))) 0 36 (.pointer (some ⟨g3, 1, none⟩)) aa ?_
  refine WDq (NPt (NPb (NPt (NPt (NPb (NPt hN)))))) 2 38 (.int .i64 (i : Int)) aa ?_
  refine WDq (NPt (NPb (NPt (NPt (NPb (NPt hN)))))) 5 41 (.pointer (some ⟨g8, 1, none⟩)) aa ?_
  refine WDq (NPt (NPb (NPt (NPt (NPb (NPt hN)))))) 7 43 (.int .i64 (i : Int)) aa ?_
  refine WDm (NPt (NPb (NPt (NPt (NPb (NPt hN)))))) 1 37 (.pointer (some ⟨g3, 1, none⟩)) (.slice A xs.length c) 37 (fun _ hS_ => run_ld (Fr.has hS_ (ac.get 0 rfl) (by simp)) rfl) aa ?_
  obtain ⟨ar, af⟩ := get_some (xs := xs) (i := i) (by omega)
  obtain ⟨b42, o44, au, av⟩ := hA.at_ _ _ af
  refine WDi (NPt (NPb (NPt (NPt (NPb (NPt hN)))))) 3 A xs.length c 39 .i64 (i : Int) b42 o44 i 1 (by kernel_rfl) (by kernel_rfl) au (by omega) (by omega) (o44 + i) (by first | (simp; done) | omega) aa ?_
  refine WDm (NPt (NPb (NPt (NPt (NPb (NPt hN)))))) 4 3 (.pointer (some ⟨b42, o44 + i, none⟩)) (.int .i64 ar) 40 (fun _ hS_ => run_load1 rfl (by simpa [Nat.add_assoc] using Fr.cell hS_ (ac.fr.cell (av 0 _ rfl) (by simp)) (by simp))) aa ?_
  refine WDm (NPt (NPb (NPt (NPt (NPb (NPt hN)))))) 6 37 (.pointer (some ⟨g8, 1, none⟩)) (.slice B xs.length d) 42 (fun _ hS_ => run_ld (Fr.has hS_ (ac.get 1 rfl) (by simp)) rfl) aa ?_
  obtain ⟨aw, ag⟩ := get_some (xs := xs) (i := i) (by omega)
  obtain ⟨b48, o50, ax, ay⟩ := hB.at_ _ _ ag
  refine WDi (NPt (NPb (NPt (NPt (NPb (NPt hN)))))) 8 B xs.length d 44 .i64 (i : Int) b48 o50 i 1 (by kernel_rfl) (by kernel_rfl) ax (by omega) (by omega) (o50 + i) (by first | (simp; done) | omega) aa ?_
  refine WDm (NPt (NPb (NPt (NPt (NPb (NPt hN)))))) 9 3 (.pointer (some ⟨b48, o50 + i, none⟩)) (.int .i64 aw) 45 (fun _ hS_ => run_load1 rfl (by simpa [Nat.add_assoc] using Fr.cell hS_ (ac.fr.cell (ay 0 _ rfl) (by simp)) (by simp))) aa ?_
  refine WDq (NPt (NPb (NPt (NPt (NPb (NPt hN)))))) 10 46 (.bool (ar != aw)) aa ?_
  refine WD.done (by kernel_rfl) ?_
  refine QXn (aq _ _ ?_)
  refine WC.know 46 (.bool (ar != aw)) (.bool false) rfl (congrArg Value.bool (by rw [Option.some.inj (af.symm.trans ag)]; simp)) ?_
  refine WCf rfl (WC.skip ?_)
  refine QXb ?_
  refine QXn (ap _ _ ?_)
  refine WCg (WLq 2 [(35, .int .i64 (IntKind.i64.wrap ((i : Int) + 1))), (34, .int .i64 (i : Int))] ?_)
  refine WLt (show (.int .i64 (IntKind.i64.wrap ((i : Int) + 1)) : Value) = .int .i64 ((i : Int) + 1) from by rw [wrap_in_i64 ((i : Int) + 1) (by omega) (by omega)]) ?_
  refine WLq 1 [(5, .int .i64 ((i : Int) + 1))] ?_
  refine WLd rfl ?_
  refine QXn ?_
  have az := ac.pick [0, 1] [] rfl rfl
  refine fun a_ ha_ => al _ _ _ ?_ ⟨i + 1, rfl, rfl, az, by omega⟩ a_ (ha_.weaken (sub_of ⟨rfl, rfl, rfl, trivial⟩))
  omega
 ·
  have aD : (xs.length : Int) ≤ (i : Int) := by have q_ := of_decide_eq_false ae; omega
  refine WCf rfl ?_
  refine WC.exit ?_
  refine QXe ?_
  refine QXe ?_
  refine QX.block_hit ?_
  refine QXn (aj _ _ ?_)
  refine WCs (fun aQ aA => ?_)
  refine WCg (WLq 1 [(4, .bool true)] (WLd rfl (QXn (aA _ _ ?_))))
  refine WC.ret ?_
  refine (hret _ _ _ rfl ?_).1
  exact ⟨rfl, ad.fr⟩

theorem Same_n (k : Int) (A B : Option Addr) (n c n2 d : Nat) (xs ys : List Int) (w : World) (hA : Rd w 1 (Go.Tw.encI .i64) A xs) (h1 : xs.length = n) (hB : Rd w 1 (Go.Tw.encI .i64) B ys) (h2 : ys.length = n2) (he : ys = xs) (hl : xs.length ≤ 1099511627776) : Calls Try.prog 31 #[.agg #[.int .i64 k, .slice A n c, .slice none 0 0], .agg #[.int .i64 k, .slice B n2 d, .slice none 0 0]] w fun e w' => e = .returned (.bool true) ∧ Fr w w' [] := by subst he; subst h1; subst h2; exact Same_ct k A B c d ys w hA hB hl
set_option maxHeartbeats 2000000 in
theorem SessionApart_ct (C : Option Addr) (c : Nat) (ops : List SOp) (vip : Int) (w : World) (hops : Rd w 7 cellS C ops) (hok : ∀ o ∈ ops, sopAt w o) (hol : ops.length ≤ 9223372036854775807) : Calls Try.prog 7 #[.slice C ops.length c, .int .u32 vip] w fun e w' => e = .returned (.bool true) ∧ Fr w w' [] := by
 refine enterD (n := 89) Try.func7 rfl rfl (Nat.le_of_ble_eq_true rfl) ?_
 intro Q0 hN hret hret'
 have hC := Cx.start w
 refine WCs (fun K1 hK2 => ?_)
 refine WCg (WLq 1 [(4, .bool false)] (WLd rfl (QXn (hK2 _ _ ?_))))
 refine WCs (fun K3 hK4 => ?_)
 refine WCs (fun K5 hK6 => ?_)
 refine WCg ?_
 refine WLc rfl rfl rfl rfl rfl (by kernel_rfl) (alive_ct w) ?_
 rintro _ w8 ⟨rfl, hF7⟩
 refine ⟨_, rfl, ?_⟩
 have hC9 := hC.call hF7
 refine WLq 1 [(14, .bool false)] (WLd rfl (QXn (hK6 _ _ ?_)))
 refine WCf rfl (WC.skip (QXn (hK4 _ _ ?_)))
 refine WCs (fun es cU => ?_)
 refine WCs (fun et cV => ?_)
 refine WCg (WLq 1 [(15, .slice C ops.length c)] ?_)
 refine WLc rfl rfl rfl rfl rfl (by kernel_rfl) (large_ct C c ops w8 (Rd.fr hops hC9.fr) (fun o_ h_ => (hok o_ h_).fr' hC9.fr) hol) ?_
 rintro _ dX ⟨b14, rfl, cW, hbig_⟩
 refine ⟨_, rfl, ?_⟩
 have bD := hC9.call cW
 refine WLd rfl (QXn (cV _ _ ?_))
 refine WCa 16 (b14) rfl (fun bE => ?_) (fun bE => ?_)
 ·
  refine WCt rfl ?_
  refine WCs (fun eu cX => ?_)
  refine WCg (WLq 1 [(4, .bool true)] (WLd rfl (QXn (cX _ _ ?_))))
  refine WC.ret ?_
  refine QXr ?_
  refine (hret _ _ _ rfl ?_).1
  exact ⟨rfl, bD.fr⟩
 ·
  have hbig2_ := hbig_ bE
  refine WCf rfl (WC.skip (QXn (cU _ _ ?_)))
  refine WCs (fun ev cY => ?_)
  refine WCg ?_
  refine WLc rfl rfl rfl rfl rfl (by kernel_rfl) (NewL_ct dX) ?_
  rintro _ dY ⟨p23, F24, rfl, cZ, bb, bF⟩
  have c0 := bD.callN cZ bF (lsAt_lt bb)
  refine ⟨_, rfl, ?_⟩
  refine WLc rfl rfl rfl rfl rfl (by kernel_rfl) (NewL_ct dY) ?_
  rintro _ ew ⟨p31, F32, rfl, bG, bc, bH⟩
  have c1 := c0.callN bG bH (lsAt_lt bc)
  refine ⟨_, rfl, ?_⟩
  have c2 := lsAt_fr bb bG (by simp)
  refine WLq 2 [(6, .pointer (some ⟨p31, 0, none⟩)), (5, .pointer (some ⟨p23, 0, none⟩))] (WLd rfl (QXn (cY _ _ ?_)))
  refine WCs (fun ex c3 => ?_)
  refine WCs (fun ey c4 => ?_)
  refine WCg (WLq 3 [(21, .int .i64 0), (20, .int .i64 (ops.length : Int)), (19, .slice C ops.length c)] (WLd rfl (QXn (c4 _ _ ?_))))
  refine WC.block ?_
  refine WC.loop (fun m_ E_ w_ => ∃ (i : Nat) (F5 : List Nat) (L5 : Lm) (F6 : List Nat) (L6 : Lm), m_ = ops.length - i ∧ E_ = [(0, .slice C ops.length c), (1, .int .u32 vip), (5, .pointer (some ⟨p23, 0, none⟩)), (6, .pointer (some ⟨p31, 0, none⟩)), (19, .slice C ops.length c), (20, .int .i64 (ops.length : Int)), (21, .int .i64 (i : Int))] ∧ Cx w [] w_ [] [F5, F6] ∧ lsAt w_ F5 p23 L5 ∧ lsAt w_ F6 p31 L6 ∧ (i ≤ ops.length ∧ vw L5 = vw L6)) ⟨_, _, ⟨0, F24, [], F32, [], rfl, rfl, c1, c2, bc, Nat.zero_le _, rfl⟩, sub_of ⟨rfl, rfl, rfl, rfl, rfl, rfl, rfl, trivial⟩⟩ (fun m47 E_ dZ ez aF c5 => ?_)
  obtain ⟨i, F5, L5, F6, L6, rfl, rfl, bt, hls5, hls6, hi, hvw⟩ := c5
  refine WCs (fun eA c6 => ?_)
  refine WCg (WLq 1 [(22, .bool (decide ((i : Int) < (ops.length : Int))))] (WLd rfl (QXn (c6 _ _ ?_))))
  refine WCs (fun eB c7 => ?_)
  refine WCa 22 (decide ((i : Int) < (ops.length : Int))) rfl (fun bu => ?_) (fun bu => ?_)
  ·
   have d0 : (i : Int) < (ops.length : Int) := by have q_ := of_decide_eq_true bu; omega
   refine WCt rfl ?_
   refine WC.skip ?_
   refine QXn (c7 _ _ ?_)
   refine WCs (fun eC aG => ?_)
   refine WC.block ?_
   refine WCs (fun eD c8 => ?_)
   refine WCg ?_
   obtain ⟨aa, bv⟩ := get_some (xs := ops) (i := i) (by omega)
   obtain ⟨b61, o63, c9, db⟩ := hops.at_ _ _ bv
   have hop_e59 := hok _ (List.mem_of_getElem? bv)
   obtain ⟨hf0_e59, hf1_e59⟩ := hop_e59.fr
   have hnl_e59 := hop_e59.nl
   have hnm_e59 := hop_e59.nm
   have hvm_e59 := hop_e59.vm
   simp only [maxLen] at hnm_e59 hvm_e59
   refine WLi C ops.length c 23 .i64 (i : Int) b61 o63 i 7 (by kernel_rfl) c9 (by omega) (by omega) (o63 + i * 7) (by first | (simp; done) | omega) ?_
   refine WLo 42 (.pointer (some ⟨b61, o63 + i * 7, none⟩)) (.agg #[.int .i64 aa.kind, .slice aa.va aa.vn aa.vc, .int .i64 aa.from_, .int .i64 aa.mki, .slice aa.na aa.nums.length aa.nc, .slice aa.da aa.dn aa.dc, .int .i64 aa.now]) 24 (run_rdN (l := [.int .i64 aa.kind, .slice aa.va aa.vn aa.vc, .int .i64 aa.from_, .int .i64 aa.mki, .slice aa.na aa.nums.length aa.nc, .slice aa.da aa.dn aa.dc, .int .i64 aa.now]) rfl rfl (fun j u hu => by have hq_ := bt.fr.cell (db j u hu) (by simp); simpa [Nat.add_assoc] using hq_)) ?_
   obtain ⟨hn33_e59, _⟩ := hbig2_ _ (List.mem_of_getElem? bv)
   refine WL.newM bt (fun b => .pointer (some ⟨b, 0, none⟩)) (.cells #[.int .i64 0, .slice none 0 0, .int .i64 0, .int .i64 0, .slice none 0 0, .slice none 0 0, .int .i64 0] 42) 8 (fun _ => by kernel_rfl) (fun ab eE d1 bI bw => ?_)
   have dd := lsAt_fr hls5 bI (by simp)
   have de := lsAt_fr hls6 bI (by simp)
   refine WLs (c' := #[.int .i64 aa.kind, .slice aa.va aa.vn aa.vc, .int .i64 aa.from_, .int .i64 aa.mki, .slice aa.na aa.nums.length aa.nc, .slice aa.da aa.dn aa.dc, .int .i64 aa.now]) bw 0 42 ab 0 (.agg #[.int .i64 aa.kind, .slice aa.va aa.vn aa.vc, .int .i64 aa.from_, .int .i64 aa.mki, .slice aa.na aa.nums.length aa.nc, .slice aa.da aa.dn aa.dc, .int .i64 aa.now]) (by kernel_rfl) rfl (by kernel_rfl) (fun dN bJ ae => ?_)
   have bK := lsAt_fr dd bJ (bw.apartM 0 0 rfl rfl)
   have bx := lsAt_fr de bJ (bw.apartM 1 0 rfl rfl)
   refine WLd rfl (QXn (c8 _ _ ?_))
   refine WCs (fun eF df => ?_)
   refine WCs (fun eG dg => ?_)
   refine WCg (WLq 1 [(25, .pointer (some ⟨ab, 0, none⟩))] ?_)
   refine WLo 3 (.pointer (some ⟨ab, 0, none⟩)) (.int .i64 aa.kind) 26 (run_ld (ae.get 0 rfl) rfl) ?_
   refine WLq 1 [(27, .bool (aa.kind != 1))] (WLd rfl (QXn (dg _ _ ?_)))
   refine WCa 27 (aa.kind != 1) rfl (fun bz => ?_) (fun bz => ?_)
   ·
    have d2 : aa.kind ≠ 1 := by simpa using bz
    refine WCt rfl ?_
    refine WCs (fun eH dh => ?_)
    refine WCg (WLq 2 [(29, .pointer (some ⟨ab, 6, none⟩)), (28, .pointer (some ⟨p23, 0, none⟩))] ?_)
    refine WLo 3 (.pointer (some ⟨ab, 6, none⟩)) (.int .i64 aa.now) 30 (run_ld (ae.get 0 rfl) rfl) ?_
    refine WLc rfl rfl rfl rfl rfl (by kernel_rfl) (Tick_d F5 p23 L5 aa.now dN bK) ?_
    rintro _ d3 ⟨v_, rfl, bL, bd, a8, di⟩
    have bA := ae.callFN 0 rfl bL (fun _ h_ => .inl h_) (lsAt_lt bd) (own_ge a8) (own_lt a8) di
    obtain ⟨eI, eJ, rfl, dO⟩ := own_form a8
    have d4 := own_base (b' := 0) a8 (fun _ _ => Nat.zero_le _)
    refine ⟨_, rfl, ?_⟩
    have dj := lsAt_fr bx bL (ae.disj 1 0 rfl rfl (by decide))
    refine WLd rfl (QXn (dh _ _ ?_))
    refine WCs (fun eK dk => ?_)
    refine WCg (WLq 2 [(33, .pointer (some ⟨ab, 6, none⟩)), (32, .pointer (some ⟨p31, 0, none⟩))] ?_)
    refine WLo 3 (.pointer (some ⟨ab, 6, none⟩)) (.int .i64 aa.now) 34 (run_ld (bA.get 0 rfl) rfl) ?_
    refine WLc rfl rfl rfl rfl rfl (by kernel_rfl) (Tick_d F6 p31 L6 aa.now d3 dj) ?_
    rintro _ d5 ⟨v_, rfl, be, aH, ao, bM⟩
    have bN := bA.callFN 1 rfl be (fun _ h_ => .inl h_) (lsAt_lt aH) (own_ge ao) (own_lt ao) bM
    obtain ⟨eL, d6, rfl, dl⟩ := own_form ao
    have dP := own_base (b' := 0) ao (fun _ _ => Nat.zero_le _)
    refine ⟨_, rfl, ?_⟩
    have bO := lsAt_fr bd be (bA.disj 0 1 rfl rfl (by decide))
    refine WLd rfl (QXn (dk _ _ ?_))
    refine WC.exit ?_
    refine QXe ?_
    refine QX.block_hit ?_
    refine QXn (aG _ _ ?_)
    refine WCg (WLq 1 [(70, .int .i64 (IntKind.i64.wrap ((i : Int) + 1)))] ?_)
    refine WLt (show (.int .i64 (IntKind.i64.wrap ((i : Int) + 1)) : Value) = .int .i64 ((i : Int) + 1) from by rw [wrap_in_i64 ((i : Int) + 1) (by omega) (by omega)]) ?_
    refine WLq 1 [(21, .int .i64 ((i : Int) + 1))] ?_
    refine WLd rfl ?_
    refine QXn ?_
    have bP := bN.pick [] [0, 1] rfl rfl
    refine fun a_ ha_ => aF _ _ _ ?_ ⟨i + 1, F5, (tickR L5 aa.now), F6, (tickR L6 aa.now), rfl, rfl, bP, bO, aH, by omega, apart_tick (lsAt_ok hls5).2 (lsAt_ok hls6).2 hvw _⟩ a_ (ha_.weaken (sub_of ⟨rfl, rfl, rfl, rfl, rfl, rfl, rfl, trivial⟩))
    omega
   ·
    have d2 : aa.kind = 1 := by simpa using bz
    refine WCf rfl (WC.skip (QXn (df _ _ ?_)))
    refine WCs (fun d7 bf => ?_)
    refine WCg (WLq 2 [(38, .pointer (some ⟨ab, 2, none⟩)), (37, .pointer (some ⟨p23, 0, none⟩))] ?_)
    refine WLo 3 (.pointer (some ⟨ab, 2, none⟩)) (.int .i64 aa.from_) 39 (run_ld (ae.get 0 rfl) rfl) ?_
    refine WLq 1 [(40, .pointer (some ⟨ab, 3, none⟩))] ?_
    refine WLo 40 (.pointer (some ⟨ab, 3, none⟩)) (.agg #[.int .i64 aa.mki, .slice aa.na aa.nums.length aa.nc, .slice aa.da aa.dn aa.dc]) 41 (run_ld (ae.get 0 rfl) rfl) ?_
    refine WLq 1 [(42, .pointer (some ⟨ab, 6, none⟩))] ?_
    refine WLo 3 (.pointer (some ⟨ab, 6, none⟩)) (.int .i64 aa.now) 43 (run_ld (ae.get 0 rfl) rfl) ?_
    refine WLc rfl rfl rfl rfl rfl (by kernel_rfl) (Recv_n F5 p23 L5 aa.from_ aa.mki aa.now aa.na aa.nums.length aa.nc aa.nums aa.da aa.dn aa.dc dN bK ⟨by omega, by omega⟩ (Rd.fr hop_e59.nr ae.fr) (by first | rfl | assumption | omega) (by first | omega | (simp; done)) (by omega)) ?_
    rintro _ d8 (⟨F115, L116, rfl, ak, af, aj, ag⟩ | ⟨F115, L116, k123, b124, aB, aC, rfl, ak, af, aj, ag, aI, a9⟩)
    ·
     have aJ := ae.callF 0 rfl ak aj (lsAt_lt af)
     refine ⟨_, rfl, ?_⟩
     have bQ := lsAt_fr bx ak (ae.disj 1 0 rfl rfl (by decide))
     refine WLq 3 [(46, .bool false), (45, .agg #[.int .i64 0, .slice none 0 0, .slice none 0 0]), (36, .tuple #[.agg #[.int .i64 0, .slice none 0 0, .slice none 0 0], .bool false])] ?_
     refine WL.newM aJ (fun b => .pointer (some ⟨b, 0, none⟩)) (.cells #[.int .i64 0, .slice none 0 0, .slice none 0 0] 40) 9 (fun _ => by kernel_rfl) (fun bR d9 dQ bg aK => ?_)
     have bS := lsAt_fr af bg (by simp)
     have bT := lsAt_fr bQ bg (by simp)
     refine WLs (c' := #[.int .i64 0, .slice none 0 0, .slice none 0 0]) aK 1 40 bR 0 (.agg #[.int .i64 0, .slice none 0 0, .slice none 0 0]) (by kernel_rfl) rfl (by kernel_rfl) (fun dm bh ad => ?_)
     have bi := lsAt_fr bS bh (aK.apartM 0 1 rfl rfl)
     have bj := lsAt_fr bT bh (aK.apartM 1 1 rfl rfl)
     refine WLq 1 [(10, .bool false)] (WLd rfl (QXn (bf _ _ ?_)))
     refine WCs (fun ea bU => ?_)
     refine WCg (WLq 1 [(47, .pointer (some ⟨ab, 2, none⟩))] ?_)
     refine WLo 3 (.pointer (some ⟨ab, 2, none⟩)) (.int .i64 aa.from_) 48 (run_ld (ad.get 0 rfl) rfl) ?_
     refine WLq 1 [(49, .bool (aa.from_ == 32))] (WLd rfl (QXn (bU _ _ ?_)))
     refine WCa 49 (aa.from_ == 32) rfl (fun ah => ?_) (fun ah => ?_)
     ·
      have dp : aa.from_ = 32 := by simpa using ah
      refine WCt rfl ?_
      refine WCs (fun eb bV => ?_)
      refine WCg (WLq 2 [(52, .pointer (some ⟨ab, 2, none⟩)), (51, .pointer (some ⟨p31, 0, none⟩))] ?_)
      refine WLo 3 (.pointer (some ⟨ab, 2, none⟩)) (.int .i64 aa.from_) 53 (run_ld (ad.get 0 rfl) rfl) ?_
      refine WLq 1 [(54, .pointer (some ⟨ab, 3, none⟩))] ?_
      refine WLo 40 (.pointer (some ⟨ab, 3, none⟩)) (.agg #[.int .i64 aa.mki, .slice aa.na aa.nums.length aa.nc, .slice aa.da aa.dn aa.dc]) 55 (run_ld (ad.get 0 rfl) rfl) ?_
      refine WLq 1 [(56, .pointer (some ⟨ab, 6, none⟩))] ?_
      refine WLo 3 (.pointer (some ⟨ab, 6, none⟩)) (.int .i64 aa.now) 57 (run_ld (ad.get 0 rfl) rfl) ?_
      refine WLc rfl rfl rfl rfl rfl (by kernel_rfl) (Recv_n F6 p31 L6 aa.from_ aa.mki aa.now aa.na aa.nums.length aa.nc aa.nums aa.da aa.dn aa.dc dm bj ⟨by omega, by omega⟩ (Rd.fr hop_e59.nr ad.fr) (by first | rfl | assumption | omega) (by first | omega | (simp; done)) (by omega)) ?_
      rintro _ ec (⟨F150, L151, rfl, aL, am, ap, aM⟩ | ⟨F150, L151, k158, b159, ed, ee, rfl, aL, am, ap, aM, dR, cT⟩)
      ·
       have bB := (apart_same (lsAt_ok hls5).2 (lsAt_ok hls6).2 hvw (eq_of_beq ah) ag aM).2
       have bW := ad.callF 1 rfl aL ap (lsAt_lt am)
       refine ⟨_, rfl, ?_⟩
       have bX := lsAt_fr bi aL (ad.disj 0 1 rfl rfl (by decide))
       skip
       refine WLq 3 [(60, .bool false), (59, .agg #[.int .i64 0, .slice none 0 0, .slice none 0 0]), (50, .tuple #[.agg #[.int .i64 0, .slice none 0 0, .slice none 0 0], .bool false])] ?_
       refine WL.newM bW (fun b => .pointer (some ⟨b, 0, none⟩)) (.cells #[.int .i64 0, .slice none 0 0, .slice none 0 0] 40) 11 (fun _ => by kernel_rfl) (fun bY ef dS bk aN => ?_)
       have bZ := lsAt_fr bX bk (by simp)
       have b0 := lsAt_fr am bk (by simp)
       refine WLs (c' := #[.int .i64 0, .slice none 0 0, .slice none 0 0]) aN 2 40 bY 0 (.agg #[.int .i64 0, .slice none 0 0, .slice none 0 0]) (by kernel_rfl) rfl (by kernel_rfl) (fun dq bl aO => ?_)
       have b1 := lsAt_fr bZ bl (aN.apartM 0 2 rfl rfl)
       have b2 := lsAt_fr b0 bl (aN.apartM 1 2 rfl rfl)
       refine WLq 1 [(12, .bool false)] (WLd rfl (QXn (bV _ _ ?_)))
       refine WCs (fun eg b3 => ?_)
       refine WCg ?_
       refine WLo 40 (.pointer (some ⟨bR, 0, none⟩)) (.agg #[.int .i64 0, .slice none 0 0, .slice none 0 0]) 61 (run_ld (aO.get 1 rfl) rfl) ?_
       refine WLo 40 (.pointer (some ⟨bY, 0, none⟩)) (.agg #[.int .i64 0, .slice none 0 0, .slice none 0 0]) 62 (run_ld (aO.get 2 rfl) rfl) ?_
       refine WLc rfl rfl rfl rfl rfl (by kernel_rfl) (Same_n 0 none none 0 0 0 0 ([] : List Int) ([] : List Int) dq (Rd.nil _ _ _ _) rfl (Rd.nil _ _ _ _) rfl rfl (by simp)) ?_
       rintro _ eh ⟨rfl, aP⟩
       refine ⟨_, rfl, ?_⟩
       have b4 := aO.call aP
       have b5 := lsAt_fr b1 aP (by simp)
       have b6 := lsAt_fr b2 aP (by simp)
       refine WLq 6 [(69, .bool false), (68, .bool false), (67, .bool false), (66, .bool false), (65, .bool false), (64, .bool false)] (WLd rfl (QXn (b3 _ _ ?_)))
       refine WCf rfl (WC.skip ?_)
       refine QXb ?_
       refine QXn (aG _ _ ?_)
       refine WCg (WLq 1 [(70, .int .i64 (IntKind.i64.wrap ((i : Int) + 1)))] ?_)
       refine WLt (show (.int .i64 (IntKind.i64.wrap ((i : Int) + 1)) : Value) = .int .i64 ((i : Int) + 1) from by rw [wrap_in_i64 ((i : Int) + 1) (by omega) (by omega)]) ?_
       refine WLq 1 [(21, .int .i64 ((i : Int) + 1))] ?_
       refine WLd rfl ?_
       refine QXn ?_
       have b7 := b4.pick [] [0, 1] rfl rfl
       refine fun a_ ha_ => aF _ _ _ ?_ ⟨i + 1, F115, L116, F150, L151, rfl, rfl, b7, b5, b6, by omega, bB⟩ a_ (ha_.weaken (sub_of ⟨rfl, rfl, rfl, rfl, rfl, rfl, rfl, trivial⟩))
       omega
      ·
       cases (apart_same (lsAt_ok hls5).2 (lsAt_ok hls6).2 hvw (eq_of_beq ah) ag aM).1
     ·
      have dp : ¬ (aa.from_ = 32) := by simpa using ah
      refine WCf rfl (WC.skip ?_)
      refine QXb ?_
      refine QXn (aG _ _ ?_)
      refine WCg (WLq 1 [(70, .int .i64 (IntKind.i64.wrap ((i : Int) + 1)))] ?_)
      refine WLt (show (.int .i64 (IntKind.i64.wrap ((i : Int) + 1)) : Value) = .int .i64 ((i : Int) + 1) from by rw [wrap_in_i64 ((i : Int) + 1) (by omega) (by omega)]) ?_
      refine WLq 1 [(21, .int .i64 ((i : Int) + 1))] ?_
      refine WLd rfl ?_
      refine QXn ?_
      have b8 := ad.pick [] [0, 1] rfl rfl
      refine fun a_ ha_ => aF _ _ _ ?_ ⟨i + 1, F115, L116, F6, L6, rfl, rfl, b8, bi, bj, by omega, (apart_other (lsAt_ok hls5).2 (by simpa using ah) ag).trans hvw⟩ a_ (ha_.weaken (sub_of ⟨rfl, rfl, rfl, rfl, rfl, rfl, rfl, trivial⟩))
      omega
    ·
     have aJ := ae.callFN 0 rfl ak aj (lsAt_lt af) (own_ge aI) (own_lt aI) a9
     refine ⟨_, rfl, ?_⟩
     have b9 := own_base (b' := 0) aI (fun _ _ => Nat.zero_le _)
     have ca := lsAt_fr bx ak (ae.disj 1 0 rfl rfl (by decide))
     refine WLq 3 [(46, .bool true), (45, .agg #[.int .i64 k123, .slice aB 1 aC, .slice none 0 0]), (36, .tuple #[.agg #[.int .i64 k123, .slice aB 1 aC, .slice none 0 0], .bool true])] ?_
     refine WL.newM aJ (fun b => .pointer (some ⟨b, 0, none⟩)) (.cells #[.int .i64 0, .slice none 0 0, .slice none 0 0] 40) 9 (fun _ => by kernel_rfl) (fun cb ei dT aQ aq => ?_)
     have cc := lsAt_fr af aQ (by simp)
     have cd := lsAt_fr ca aQ (by simp)
     have ce := own_fr b9 aQ (by simp)
     refine WLs (c' := #[.int .i64 k123, .slice aB 1 aC, .slice none 0 0]) aq 1 40 cb 0 (.agg #[.int .i64 k123, .slice aB 1 aC, .slice none 0 0]) (by kernel_rfl) rfl (by kernel_rfl) (fun dr aR ac => ?_)
     have bm := lsAt_fr cc aR (aq.apartM 0 1 rfl rfl)
     have bn := lsAt_fr cd aR (aq.apartM 1 1 rfl rfl)
     have cf := own_fr ce aR (aq.apartM 2 1 rfl rfl)
     refine WLq 1 [(10, .bool true)] (WLd rfl (QXn (bf _ _ ?_)))
     refine WCs (fun ej cg => ?_)
     refine WCg (WLq 1 [(47, .pointer (some ⟨ab, 2, none⟩))] ?_)
     refine WLo 3 (.pointer (some ⟨ab, 2, none⟩)) (.int .i64 aa.from_) 48 (run_ld (ac.get 0 rfl) rfl) ?_
     refine WLq 1 [(49, .bool (aa.from_ == 32))] (WLd rfl (QXn (cg _ _ ?_)))
     refine WCa 49 (aa.from_ == 32) rfl (fun ai => ?_) (fun ai => ?_)
     ·
      have ds : aa.from_ = 32 := by simpa using ai
      refine WCt rfl ?_
      refine WCs (fun ek ch => ?_)
      refine WCg (WLq 2 [(52, .pointer (some ⟨ab, 2, none⟩)), (51, .pointer (some ⟨p31, 0, none⟩))] ?_)
      refine WLo 3 (.pointer (some ⟨ab, 2, none⟩)) (.int .i64 aa.from_) 53 (run_ld (ac.get 0 rfl) rfl) ?_
      refine WLq 1 [(54, .pointer (some ⟨ab, 3, none⟩))] ?_
      refine WLo 40 (.pointer (some ⟨ab, 3, none⟩)) (.agg #[.int .i64 aa.mki, .slice aa.na aa.nums.length aa.nc, .slice aa.da aa.dn aa.dc]) 55 (run_ld (ac.get 0 rfl) rfl) ?_
      refine WLq 1 [(56, .pointer (some ⟨ab, 6, none⟩))] ?_
      refine WLo 3 (.pointer (some ⟨ab, 6, none⟩)) (.int .i64 aa.now) 57 (run_ld (ac.get 0 rfl) rfl) ?_
      refine WLc rfl rfl rfl rfl rfl (by kernel_rfl) (Recv_n F6 p31 L6 aa.from_ aa.mki aa.now aa.na aa.nums.length aa.nc aa.nums aa.da aa.dn aa.dc dr bn ⟨by omega, by omega⟩ (Rd.fr hop_e59.nr ac.fr) (by first | rfl | assumption | omega) (by first | omega | (simp; done)) (by omega)) ?_
      rintro _ el (⟨F212, L213, rfl, ar, an, au, aS⟩ | ⟨F212, L213, k220, b221, aD, aE, rfl, ar, an, au, aS, aT, ba⟩)
      ·
       cases (apart_same (lsAt_ok hls5).2 (lsAt_ok hls6).2 hvw (eq_of_beq ai) ag aS).1
      ·
       obtain ⟨h_, bC⟩ := apart_same (lsAt_ok hls5).2 (lsAt_ok hls6).2 hvw (eq_of_beq ai) ag aS
       obtain ⟨rfl, rfl⟩ := Prod.mk.inj (Option.some.inj h_)
       have ci := ac.callFN 1 rfl ar au (lsAt_lt an) (own_ge aT) (own_lt aT) ba
       refine ⟨_, rfl, ?_⟩
       have cj := own_base (b' := 0) aT (fun _ _ => Nat.zero_le _)
       have ck := lsAt_fr bm ar (ac.disj 0 1 rfl rfl (by decide))
       have cl := own_fr cf ar (ac.disj 2 1 rfl rfl (by decide))
       skip
       refine WLq 3 [(60, .bool true), (59, .agg #[.int .i64 k123, .slice aD 1 aE, .slice none 0 0]), (50, .tuple #[.agg #[.int .i64 k123, .slice aD 1 aE, .slice none 0 0], .bool true])] ?_
       refine WL.newM ci (fun b => .pointer (some ⟨b, 0, none⟩)) (.cells #[.int .i64 0, .slice none 0 0, .slice none 0 0] 40) 11 (fun _ => by kernel_rfl) (fun cm em dU av al => ?_)
       have cn := lsAt_fr ck av (by simp)
       have co := lsAt_fr an av (by simp)
       have cp := own_fr cl av (by simp)
       have cq := own_fr cj av (by simp)
       refine WLs (c' := #[.int .i64 k123, .slice aD 1 aE, .slice none 0 0]) al 2 40 cm 0 (.agg #[.int .i64 k123, .slice aD 1 aE, .slice none 0 0]) (by kernel_rfl) rfl (by kernel_rfl) (fun dt aw aU => ?_)
       have cr := lsAt_fr cn aw (al.apartM 0 2 rfl rfl)
       have cs := lsAt_fr co aw (al.apartM 1 2 rfl rfl)
       have bo := own_fr cp aw (al.apartM 2 2 rfl rfl)
       have bp := own_fr cq aw (al.apartM 3 2 rfl rfl)
       refine WLq 1 [(12, .bool true)] (WLd rfl (QXn (ch _ _ ?_)))
       refine WCs (fun en ct => ?_)
       refine WCg ?_
       refine WLo 40 (.pointer (some ⟨cb, 0, none⟩)) (.agg #[.int .i64 k123, .slice aB 1 aC, .slice none 0 0]) 61 (run_ld (aU.get 1 rfl) rfl) ?_
       refine WLo 40 (.pointer (some ⟨cm, 0, none⟩)) (.agg #[.int .i64 k123, .slice aD 1 aE, .slice none 0 0]) 62 (run_ld (aU.get 2 rfl) rfl) ?_
       refine WLc rfl rfl rfl rfl rfl (by kernel_rfl) (Same_n k123 aB aD 1 aC 1 aE [b124] [b124] dt (own_rd bo (Go.Tw.encI_len _) (by decide)) (own_count (Go.Tw.encI_len _) (by decide) bo) (own_rd bp (Go.Tw.encI_len _) (by decide)) (own_count (Go.Tw.encI_len _) (by decide) bp) rfl (by simp)) ?_
       rintro _ eo ⟨rfl, aV⟩
       refine ⟨_, rfl, ?_⟩
       have cu := aU.call aV
       have cv := lsAt_fr cr aV (by simp)
       have cw := lsAt_fr cs aV (by simp)
       refine WLq 6 [(69, .bool false), (68, .bool false), (67, .bool true), (66, .bool true), (65, .bool false), (64, .bool false)] (WLd rfl (QXn (ct _ _ ?_)))
       refine WCf rfl (WC.skip ?_)
       refine QXb ?_
       refine QXn (aG _ _ ?_)
       refine WCg (WLq 1 [(70, .int .i64 (IntKind.i64.wrap ((i : Int) + 1)))] ?_)
       refine WLt (show (.int .i64 (IntKind.i64.wrap ((i : Int) + 1)) : Value) = .int .i64 ((i : Int) + 1) from by rw [wrap_in_i64 ((i : Int) + 1) (by omega) (by omega)]) ?_
       refine WLq 1 [(21, .int .i64 ((i : Int) + 1))] ?_
       refine WLd rfl ?_
       refine QXn ?_
       have cx := cu.pick [] [0, 1] rfl rfl
       refine fun a_ ha_ => aF _ _ _ ?_ ⟨i + 1, F115, L116, F212, L213, rfl, rfl, cx, cv, cw, by omega, bC⟩ a_ (ha_.weaken (sub_of ⟨rfl, rfl, rfl, rfl, rfl, rfl, rfl, trivial⟩))
       omega
     ·
      have ds : ¬ (aa.from_ = 32) := by simpa using ai
      refine WCf rfl (WC.skip ?_)
      refine QXb ?_
      refine QXn (aG _ _ ?_)
      refine WCg (WLq 1 [(70, .int .i64 (IntKind.i64.wrap ((i : Int) + 1)))] ?_)
      refine WLt (show (.int .i64 (IntKind.i64.wrap ((i : Int) + 1)) : Value) = .int .i64 ((i : Int) + 1) from by rw [wrap_in_i64 ((i : Int) + 1) (by omega) (by omega)]) ?_
      refine WLq 1 [(21, .int .i64 ((i : Int) + 1))] ?_
      refine WLd rfl ?_
      refine QXn ?_
      have cy := ac.pick [] [0, 1] rfl rfl
      refine fun a_ ha_ => aF _ _ _ ?_ ⟨i + 1, F115, L116, F6, L6, rfl, rfl, cy, bm, bn, by omega, (apart_other (lsAt_ok hls5).2 (by simpa using ai) ag).trans hvw⟩ a_ (ha_.weaken (sub_of ⟨rfl, rfl, rfl, rfl, rfl, rfl, rfl, trivial⟩))
      omega
  ·
   have d0 : (ops.length : Int) ≤ (i : Int) := by have q_ := of_decide_eq_false bu; omega
   refine WCf rfl ?_
   refine WC.exit ?_
   refine QXe ?_
   refine QXe ?_
   refine QX.block_hit ?_
   refine QXn (c3 _ _ ?_)
   refine WCs (fun ep cz => ?_)
   refine WCg (WLq 2 [(72, .int .u32 vip), (71, .pointer (some ⟨p23, 0, none⟩))] ?_)
   refine WLc rfl rfl rfl rfl rfl (by kernel_rfl) (Muxes_e F5 p23 L5 vip (muxesL L5 vip) (rfl) dZ hls5) ?_
   rintro _ du ⟨v_, rfl, aW, ax⟩
   have cA := bt.callN aW (own_ge ax) (own_lt ax)
   obtain ⟨dv, dw, rfl, dx⟩ := own_form ax
   have aX := own_base (b' := 0) ax (fun _ _ => Nat.zero_le _)
   refine ⟨_, rfl, ?_⟩
   have cB := lsAt_fr hls5 aW (by simp)
   have cC := lsAt_fr hls6 aW (by simp)
   refine WLc rfl rfl rfl rfl rfl (by kernel_rfl) (has_n dv ((muxesL L5 vip).length) dw (muxesL L5 vip) 32 du (own_rd aX (Go.Tw.encI_len _) (by decide)) (own_count (Go.Tw.encI_len _) (by decide) aX) (own_max aX)) ?_
   rintro _ dy ⟨rfl, aY⟩
   refine ⟨_, rfl, ?_⟩
   have cD := cA.call aY
   have cE := lsAt_fr cB aY (by simp)
   have bq := lsAt_fr cC aY (by simp)
   refine WLq 2 [(76, .int .u32 vip), (75, .pointer (some ⟨p31, 0, none⟩))] ?_
   refine WLc rfl rfl rfl rfl rfl (by kernel_rfl) (Muxes_e F6 p31 L6 vip (muxesL L6 vip) (rfl) dy bq) ?_
   rintro _ dz ⟨v_, rfl, aZ, ay⟩
   have cF := cD.callN aZ (own_ge ay) (own_lt ay)
   obtain ⟨dA, dB, rfl, dC⟩ := own_form ay
   have a0 := own_base (b' := 0) ay (fun _ _ => Nat.zero_le _)
   refine ⟨_, rfl, ?_⟩
   have cG := lsAt_fr cE aZ (by simp)
   have cH := lsAt_fr bq aZ (by simp)
   refine WLc rfl rfl rfl rfl rfl (by kernel_rfl) (has_n dA ((muxesL L6 vip).length) dB (muxesL L6 vip) 32 dz (own_rd a0 (Go.Tw.encI_len _) (by decide)) (own_count (Go.Tw.encI_len _) (by decide) a0) (own_max a0)) ?_
   rintro _ dD ⟨rfl, a1⟩
   refine ⟨_, rfl, ?_⟩
   have cI := cF.call a1
   have br := lsAt_fr cG a1 (by simp)
   have cJ := lsAt_fr cH a1 (by simp)
   refine WLq 2 [(80, .bool (((muxesL L5 vip).contains 32) == ((muxesL L6 vip).contains 32))), (79, .bool (((muxesL L5 vip).contains 32) == ((muxesL L6 vip).contains 32)))] ?_
   refine WL.know 80 (.bool (((muxesL L5 vip).contains 32) == ((muxesL L6 vip).contains 32))) (.bool true) rfl (congrArg Value.bool (by rw [apart_mux hvw]; simp)) ?_
   refine WLq 1 [(81, .pointer (some ⟨p23, 0, none⟩))] ?_
   refine WLc rfl rfl rfl rfl rfl (by kernel_rfl) (Sessions_ct F5 p23 L5 dD br) ?_
   rintro _ dE ⟨v_, rfl, a2, az⟩
   have cK := cI.callN a2 (own_ge az) (own_lt az)
   obtain ⟨dF, dG, rfl, dH⟩ := own_form az
   have a3 := own_base (b' := 0) az (fun _ _ => Nat.zero_le _)
   refine ⟨_, rfl, ?_⟩
   have cL := lsAt_fr br a2 (by simp)
   have cM := lsAt_fr cJ a2 (by simp)
   refine WLc rfl rfl rfl rfl rfl (by kernel_rfl) (has_n dF L5.length dG (sesL L5) 32 dE (own_rd a3 (Go.Tw.encI_len _) (by decide)) (own_count (Go.Tw.encI_len _) (by decide) a3) (own_max a3)) ?_
   rintro _ dI ⟨rfl, a4⟩
   refine ⟨_, rfl, ?_⟩
   have cN := cK.call a4
   have cO := lsAt_fr cL a4 (by simp)
   have bs := lsAt_fr cM a4 (by simp)
   refine WLq 1 [(84, .pointer (some ⟨p31, 0, none⟩))] ?_
   refine WLc rfl rfl rfl rfl rfl (by kernel_rfl) (Sessions_ct F6 p31 L6 dI bs) ?_
   rintro _ dJ ⟨v_, rfl, a5, aA⟩
   have cP := cN.callN a5 (own_ge aA) (own_lt aA)
   obtain ⟨dK, dL, rfl, dM⟩ := own_form aA
   have a6 := own_base (b' := 0) aA (fun _ _ => Nat.zero_le _)
   refine ⟨_, rfl, ?_⟩
   have cQ := lsAt_fr cO a5 (by simp)
   have cR := lsAt_fr bs a5 (by simp)
   refine WLc rfl rfl rfl rfl rfl (by kernel_rfl) (has_n dK L6.length dL (sesL L6) 32 dJ (own_rd a6 (Go.Tw.encI_len _) (by decide)) (own_count (Go.Tw.encI_len _) (by decide) a6) (own_max a6)) ?_
   rintro _ er ⟨rfl, a7⟩
   refine ⟨_, rfl, ?_⟩
   have cS := cP.call a7
   have dV := lsAt_fr cQ a7 (by simp)
   have dW := lsAt_fr cR a7 (by simp)
   refine WLq 3 [(4, .bool (((sesL L5).contains 32) == ((sesL L6).contains 32))), (88, .bool (((sesL L5).contains 32) == ((sesL L6).contains 32))), (87, .bool (((sesL L5).contains 32) == ((sesL L6).contains 32)))] (WLd rfl (QXn (cz _ _ ?_)))
   refine WC.ret ?_
   refine (hret _ _ _ rfl ?_).1
   exact ⟨congrArg (fun b_ => Ending.returned (Value.bool b_)) (show ((((sesL L5).contains 32) == ((sesL L6).contains 32)) : Bool) = true from by rw [apart_ses hvw]; simp), cS.fr⟩

end Go.Proofs.Ytmahghppojbeoaa
