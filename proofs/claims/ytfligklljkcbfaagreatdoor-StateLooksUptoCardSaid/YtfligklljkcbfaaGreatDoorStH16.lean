/- Contracts of functions of the program, each proved by a walk through its code; conditions stand in the statements. -/
import Derived.Test.YtfligklljkcbfaaGreatDoorStG16
namespace Go.Proofs.YtfligklljkcbfaaGreatDoor
set_option linter.unusedSimpArgs false
set_option linter.unusedVariables false
set_option linter.unusedSectionVars false
open Go Go.RowKit Go.Tw
set_option linter.unusedVariables false
set_option maxRecDepth 20000
theorem bs_lo {xs : List Lease} {l x : Lease} {h : Nat} (hs : sortedL xs) (he : xs[h]? = some x) (hlt : ltL x l = true) : ∀ q y, q < h + 1 → xs[q]? = some y → ltL y l = true := by
  intro q y hq hy
  by_cases e : q = h
  · subst e; rw [he] at hy; cases hy; exact hlt
  · exact ltL_trans (sorted_get hs (by omega) hy he) hlt
theorem bs_hi {xs : List Lease} {l x : Lease} {h : Nat} (hs : sortedL xs) (he : xs[h]? = some x) (hlt : ltL x l = false) : ∀ q y, h ≤ q → xs[q]? = some y → ltL y l = false := by
  intro q y hq hy
  by_cases e : q = h
  · subst e; rw [he] at hy; cases hy; exact hlt
  · cases hc : ltL y l
    · rfl
    · rw [ltL_trans (sorted_get hs (by omega) he hy) hc] at hlt; cases hlt
theorem not_lt {a b : Lease} (h : ¬ leaseCmp a b < 0) : ltL a b = false := by
  cases hc : ltL a b
  · rfl
  · exact absurd (cmp_lt.2 hc) h
theorem found_some {xs : List Lease} {l x : Lease} {i : Nat} (h : xs[i]? = some x) : foundAt xs l i = (leaseCmp x l == 0) := by
  simp only [foundAt, h]
  by_cases e : leaseCmp x l = 0
  · simp [e, cmp_eq0.1 e]
  · have : ¬ (x.vip = l.vip ∧ x.first = l.first) := fun q => e (cmp_eq0.2 q)
    simp [e, this]
theorem found_none {xs : List Lease} {l : Lease} {i : Nat} (h : xs.length ≤ i) : foundAt xs l i = false := by
  simp [foundAt, List.getElem?_eq_none h]
theorem BSF_ct (A : Option Addr) (c : Nat) (xs : List Lease) (l : Lease) (w : World) (hr : Rd w 4 encL A xs) (hs : sortedL xs) (hm : xs.length < 2 ^ 40) : Calls Tryz.prog 151 #[.slice A xs.length c, .agg #[U4 l.vip, I6 l.first, U4 l.dip, I6 l.exp], .func (.func 149) #[] #[]] w fun e w' => ∃ i : Nat, e = .returned (.tuple #[I6 (i : Int), .bool (foundAt xs l i)]) ∧ Fr w w' [] ∧ bsPost xs l i := by
 refine enterD (n := 49) Tryz.func151 rfl rfl (Nat.le_of_ble_eq_true rfl) ?_
 intro Q0 hN hret hret'
 have hC := Cx.start w
 refine WCs (fun K1 hK2 => WCg (WLb hC (.cells #[U4 l.vip, I6 l.first, U4 l.dip, I6 l.exp] 50) 4 (fun g3 w4 hb7 hF5 hC6 => WLq 2 [(7, .bool false), (6, I6 0)] (WLd rfl (QXn (hK2 _ _ (WCs (fun K8 hK9 => WCg ?_))))))))
 refine WLz 3 [(8, I6 (xs.length : Int))] (WLd rfl (QXn (hK9 _ _ (WCs (fun aQ ah => WCg (WLz 3 [(10, I6 (xs.length : Int)), (9, I6 0)] (WLd rfl (QXn (ah _ _ (WCs (fun aR ai => WC.block ?_)))))))))))
 refine WC.loop (fun m_ E_ w_ => ∃ (i j : Nat), m_ = j - i ∧ E_ = [(0, .slice A xs.length c), (1, .agg #[U4 l.vip, I6 l.first, U4 l.dip, I6 l.exp]), (2, .func (.func 149) #[] #[]), (4, P0 g3 0), (6, I6 0), (7, .bool false), (8, I6 (xs.length : Int)), (9, I6 (i : Int)), (10, I6 (j : Int))] ∧ Cx w [] w_ [(g3, .cells #[U4 l.vip, I6 l.first, U4 l.dip, I6 l.exp] 50)] [] ∧ (i ≤ j ∧ j ≤ xs.length ∧ (∀ q y, q < i → xs[q]? = some y → ltL y l = true) ∧ (∀ q y, j ≤ q → xs[q]? = some y → ltL y l = false))) ⟨_, _, ⟨0, xs.length, rfl, rfl, hC6, Nat.zero_le _, Nat.le_refl _, fun q y hq => by omega, fun q y hq hy => by have := lt_of_get hy; omega⟩, sub_of ⟨rfl, rfl, rfl, rfl, rfl, rfl, rfl, rfl, rfl, trivial⟩⟩ (fun m17 E_ aS aT aq az => ?_)
 obtain ⟨i, j, rfl, rfl, ar, hij, hj, hlo, hhi⟩ := az
 refine WCs (fun aU aj => WCs (fun aV ak => WCg (WLz 3 [(17, .bool (decide ((i : Int) < (j : Int))))] (WLd rfl (QXn (ak _ _ (WCa 17 (decide ((i : Int) < (j : Int))) rfl (fun al => ?_) (fun al => ?_))))))))
 ·
  have aK : (i : Int) < (j : Int) := by have q_ := of_decide_eq_true al; omega
  refine WCt rfl (WC.skip (QXn (aj _ _ (WC.block (WCs (fun aW aA => WCg ?_))))))
  refine WLz 3 [(20, I6 (IntKind.i64.wrap ((i : Int) + (j : Int))))] (WLt (show (I6 (IntKind.i64.wrap ((i : Int) + (j : Int))) : Value) = I6 ((i : Int) + (j : Int)) from by rw [wrap_in_i64 ((i : Int) + (j : Int)) (by omega) (by omega)]) (WLq 1 [(21, .int .u64 (IntKind.u64.wrap ((i : Int) + (j : Int))))] (WLt (show (.int .u64 (IntKind.u64.wrap ((i : Int) + (j : Int))) : Value) = .int .u64 ((i : Int) + (j : Int)) from by rw [wrap_in_u64 ((i : Int) + (j : Int)) (by omega) (by omega)]) (WLq 1 [(22, .int .u64 (((i : Int) + (j : Int)).fdiv (2 ^ 1)))] (WLt (show (.int .u64 (((i : Int) + (j : Int)).fdiv (2 ^ 1)) : Value) = .int .u64 (((i : Int) + (j : Int)) / 2) from by rw [Int.fdiv_eq_ediv_of_nonneg ((i : Int) + (j : Int)) (by decide)]; rfl) ?_)))))
  refine WLq 1 [(23, I6 (IntKind.i64.wrap (((i : Int) + (j : Int)) / 2)))] (WLt (show (I6 (IntKind.i64.wrap (((i : Int) + (j : Int)) / 2)) : Value) = I6 (((i + j) / 2 : Nat) : Int) from by rw [wrap_in_i64 _ (by omega) (by omega)]; congr 1) (WLq 1 [(11, I6 (((i + j) / 2 : Nat) : Int))] (WLd rfl (QXn (aA _ _ (WCs (fun aX aB => WC.drawC ar [] (by kernel_rfl) (fun aL aM am ab => WDx 3 [(0, 24, .func (.func 149) #[] #[]), (1, 25, .slice A xs.length c), (2, 26, I6 (((i + j) / 2 : Nat) : Int))] ab ?_))))))))
  obtain ⟨ac, an⟩ := get_some (xs := xs) (i := ((i + j) / 2)) (by omega)
  obtain ⟨b35, o37, aC, aD⟩ := hr.at_ _ _ an
  refine WDi (NPt (NPb (NPt (NPb (NPt hN))))) 3 A xs.length c 27 .i64 (((i + j) / 2 : Nat) : Int) b35 o37 ((i + j) / 2) 4 (by kernel_rfl) (by kernel_rfl) aC (by omega) (by omega) (o37 + ((i + j) / 2) * 4) (by first | (simp; done) | omega) ab (WDm 4 50 (P0 b35 (o37 + ((i + j) / 2) * 4)) (.agg #[U4 ac.vip, I6 ac.first, U4 ac.dip, I6 ac.exp]) 28 (fun _ hS_ => run_rdN (l := [U4 ac.vip, I6 ac.first, U4 ac.dip, I6 ac.exp]) rfl rfl (fun j u hu => by have hq_ := Fr.cell hS_ (am.fr.cell (aD j u hu) (by simp)) (by simp); simpa [Nat.add_assoc] using hq_)) ab (WDm 5 50 (P0 g3 0) (.agg #[U4 l.vip, I6 l.first, U4 l.dip, I6 l.exp]) 29 (fun _ hS_ => run_ld (Fr.has hS_ (am.get 0 rfl) (by simp)) rfl) ab (WDc 6 (leaseCmp_ct ac l aL) ?_)))
  rintro _ aY ⟨rfl, au⟩
  have av := ab.trans au (by simp)
  refine ⟨_, rfl, av, ?_⟩
  have aw := am.call au
  refine WDq 7 31 (.bool (decide ((leaseCmp ac l) < 0))) av (WDd (QXn (aB _ _ (WCa 31 (decide ((leaseCmp ac l) < 0)) rfl (fun ao => ?_) (fun ao => ?_)))))
  ·
   have aJ : (leaseCmp ac l) < 0 := by have q_ := of_decide_eq_true ao; omega
   refine WCt rfl (WCg (WLz 2 [(33, I6 (IntKind.i64.wrap ((((i + j) / 2 : Nat) : Int) + 1)))] (WLt (show (I6 (IntKind.i64.wrap ((((i + j) / 2 : Nat) : Int) + 1)) : Value) = I6 ((((i + j) / 2 : Nat) : Int) + 1) from by rw [wrap_in_i64 ((((i + j) / 2 : Nat) : Int) + 1) (by omega) (by omega)]) (WLq 1 [(9, I6 ((((i + j) / 2 : Nat) : Int) + 1))] (WLd rfl ?_)))))
   refine QXb (QXn ?_)
   have aE := aw.pick [0] [] rfl rfl
   refine fun a_ ha_ => aq _ _ _ ?_ ⟨((i + j) / 2) + 1, j, rfl, rfl, aE, by omega, by omega, bs_lo hs an (cmp_lt.1 aJ), hhi⟩ a_ (ha_.weaken (sub_of ⟨rfl, rfl, rfl, rfl, rfl, rfl, rfl, rfl, rfl, trivial⟩))
   omega
  ·
   have aJ : (0 : Int) ≤ (leaseCmp ac l) := by have q_ := of_decide_eq_false ao; omega
   refine WCf rfl (WCg (WLz 2 [(10, I6 (((i + j) / 2 : Nat) : Int))] (WLd rfl (QXb (QXn ?_)))))
   have aF := aw.pick [0] [] rfl rfl
   refine fun a_ ha_ => aq _ _ _ ?_ ⟨i, ((i + j) / 2), rfl, rfl, aF, by omega, by omega, hlo, bs_hi hs an (not_lt (by omega))⟩ a_ (ha_.weaken (sub_of ⟨rfl, rfl, rfl, rfl, rfl, rfl, rfl, rfl, rfl, trivial⟩))
   omega
 ·
  have aK : (j : Int) ≤ (i : Int) := by have q_ := of_decide_eq_false al; omega
  refine WCf rfl (WC.exit (QXe (QXe (QX.block_hit (QXn (ai _ _ ?_))))))
  refine WCs (fun aZ af => WC.drawC ar [] (by kernel_rfl) (fun aN aO ag aa => WDx 5 [(0, 35, I6 (i : Int)), (1, 36, I6 (i : Int)), (2, 37, I6 (xs.length : Int)), (3, 38, .bool (decide ((i : Int) < (xs.length : Int)))), (4, 39, .bool (decide ((i : Int) < (xs.length : Int))))] aa (WDa 39 (decide ((i : Int) < (xs.length : Int))) rfl (fun ap => ?_) (fun ap => ?_))))
  ·
   have aP : (i : Int) < (xs.length : Int) := by have q_ := of_decide_eq_true ap; omega
   refine WDx 3 [(5, 40, .func (.func 149) #[] #[]), (6, 41, .slice A xs.length c), (7, 42, I6 (i : Int))] aa ?_
   obtain ⟨ad, ax⟩ := get_some (xs := xs) (i := i) (by omega)
   obtain ⟨b55, o57, aG, aH⟩ := hr.at_ _ _ ax
   refine WDi (NPt hN) 8 A xs.length c 43 .i64 (i : Int) b55 o57 i 4 (by kernel_rfl) (by kernel_rfl) aG (by omega) (by omega) (o57 + i * 4) (by first | (simp; done) | omega) aa (WDm 9 50 (P0 b55 (o57 + i * 4)) (.agg #[U4 ad.vip, I6 ad.first, U4 ad.dip, I6 ad.exp]) 44 (fun _ hS_ => run_rdN (l := [U4 ad.vip, I6 ad.first, U4 ad.dip, I6 ad.exp]) rfl rfl (fun j u hu => by have hq_ := Fr.cell hS_ (ag.fr.cell (aH j u hu) (by simp)) (by simp); simpa [Nat.add_assoc] using hq_)) aa (WDm 10 50 (P0 g3 0) (.agg #[U4 l.vip, I6 l.first, U4 l.dip, I6 l.exp]) 45 (fun _ hS_ => run_ld (Fr.has hS_ (ag.get 0 rfl) (by simp)) rfl) aa (WDc 11 (leaseCmp_ct ad l aN) ?_)))
   rintro _ a0 ⟨rfl, ay⟩
   have ae := aa.trans ay (by simp)
   refine ⟨_, rfl, ae, ?_⟩
   have aI := ag.call ay
   refine WDx 4 [(12, 47, .bool ((leaseCmp ad l) == 0)), (13, 48, .bool ((leaseCmp ad l) == 0)), (14, 6, I6 (i : Int)), (15, 7, .bool ((leaseCmp ad l) == 0))] ae (WDd (QXn (af _ _ (WC.ret ?_))))
   refine (hret _ _ _ rfl ?_).1
   clear hN hret hret' af ak aj ai ah hK9 hK2
   have e_ : i = j := by omega
   subst e_
   exact ⟨i, by rw [found_some ax]; try rfl, aI.fr, by omega, hlo, hhi⟩
  ·
   have aP : (xs.length : Int) ≤ (i : Int) := by have q_ := of_decide_eq_false ap; omega
   refine WDx 11 [(5, 40, undef), (6, 41, undef), (7, 42, undef), (8, 43, undef), (9, 44, undef), (10, 45, undef), (11, 46, undef), (12, 47, undef), (13, 48, .bool false), (14, 6, I6 (i : Int)), (15, 7, .bool false)] aa (WDd (QXn (af _ _ (WC.ret ?_))))
   refine (hret _ _ _ rfl ?_).1
   clear hN hret hret' af ak aj ai ah hK9 hK2
   have e_ : i = j := by omega
   subst e_
   exact ⟨i, by rw [found_none (by omega)]; try rfl, ag.fr, by omega, hlo, hhi⟩

theorem with_ct (A : Option Addr) (c : Nat) (xs : List Lease) (l : Lease) (w : World) (hr : Rd w 4 encL A xs) (hs : sortedL xs) (hm : xs.length < 2 ^ 39) : Calls Tryz.prog 126 #[.slice A xs.length c, .agg #[U4 l.vip, I6 l.first, U4 l.dip, I6 l.exp]] w fun e w' => ∃ v, e = .returned v ∧ Fr w w' [] ∧ w'.ownsRow w.heap.size 50 4 v (insL xs l).length ((insL xs l).flatMap encL) := by
 refine enterD (n := 27) Tryz.func126 rfl rfl (Nat.le_of_ble_eq_true rfl) ?_
 intro Q0 hN hret hret'
 have hC := Cx.start w
 refine WCs (fun K1 hK2 => WCg (WLb hC (.cells #[U4 l.vip, I6 l.first, U4 l.dip, I6 l.exp] 50) 3 (fun g3 w4 hb7 hF5 hC6 => WLq 1 [(4, .slice none 0 0)] (WLd rfl (QXn (hK2 _ _ (WCs (fun K8 hK9 => WCg (WLq 1 [(8, .slice A xs.length c)] ?_)))))))))
 refine WLk (Clone_ct A c xs w4 (Rd.fr hr hC6.fr) (by omega)) ?_
 rintro _ aH ⟨v_, rfl, aA, ab⟩
 have an := hC6.callN aA (own_ge ab) (own_lt ab)
 obtain ⟨ae, af, rfl, aF⟩ := own_form ab
 have ao := own_base (b' := 0) ab (fun _ _ => Nat.zero_le _)
 refine ⟨_, rfl, ?_⟩
 refine WLq 1 [(5, .slice ae xs.length af)] (WLd rfl (QXn (hK9 _ _ (WCs (fun aQ ag => WCg (WLq 1 [(11, .slice ae xs.length af)] (WLo 50 (P0 g3 0) (.agg #[U4 l.vip, I6 l.first, U4 l.dip, I6 l.exp]) 12 (run_ld (an.get 0 rfl) rfl) (WLk (BSF_ct ae af xs l aH (own_rd ao encL_len (by decide)) hs (by omega)) ?_))))))))
 rintro _ aR ⟨i22, rfl, ap, aa⟩
 refine ⟨_, rfl, ?_⟩
 have ac := an.call ap
 have ad := own_fr ao ap (by simp)
 refine WLz 5 [(7, .bool (foundAt xs l i22)), (6, I6 (i22 : Int))] (WLd rfl (QXn (ag _ _ (WCs (fun aS ah => WCs (fun aT ai => WCg (WLq 1 [(16, .bool (foundAt xs l i22))] (WLd rfl (QXn (ai _ _ (WCa 16 (foundAt xs l i22) rfl (fun aj => ?_) (fun aj => ?_))))))))))))
 ·
  obtain ⟨hin_, hset_⟩ := ins_found hs aa aj
  refine WCt rfl (WCs (fun aU aq => WCg (WLq 2 [(18, I6 (i22 : Int)), (17, .slice ae xs.length af)] (WLo 50 (P0 g3 0) (.agg #[U4 l.vip, I6 l.first, U4 l.dip, I6 l.exp]) 19 (run_ld (ac.get 0 rfl) rfl) ?_))))
  have aI := own_count encL_len (by decide) ad
  obtain ⟨aJ, ar⟩ := get_some (xs := xs) (i := i22) (by omega)
  obtain ⟨b37, au⟩ := own_addr (by decide) encL_len ad ar
  refine WLi ae xs.length af 20 .i64 (i22 : Int) b37 0 i22 4 (by kernel_rfl) au (by omega) (by omega) (i22 * 4) (by first | (simp; done) | omega) ?_
  obtain ⟨aV, aB, aK, aC, av⟩ := stoE_run Tryz.prog encL_len ac 0 au rfl ad i22 0 (x := aJ) ar l [U4 l.vip, I6 l.first, U4 l.dip, I6 l.exp] rfl 50 (.agg #[U4 l.vip, I6 l.first, U4 l.dip, I6 l.exp]) (i22 * 4) rfl rfl rfl (by first | rfl | simp [Nat.add_assoc])
  refine WLU aB (WLd rfl (QXn (aq _ _ (WCs (fun aW aw => WCg (WLz 2 [(4, .slice ae xs.length af)] (WLd rfl (QXn (aw _ _ (WC.ret ?_))))))))))
  refine QXr ?_
  refine (hret _ _ _ rfl ?_).1
  clear hN hret hret' aw aq ai ah ag hK9 hK2
  refine ⟨_, rfl, av.fr, ?_⟩
  rw [← hset_, List.length_set]
  exact own_base aC (av.geF 0 rfl)
 ·
  have hnew_ := ins_new hs aa aj
  have hile_ := aa.1
  refine WCf rfl (WC.skip (QXn (ah _ _ (WCs (fun aX ax => WCg (WLq 2 [(23, I6 (i22 : Int)), (22, .slice ae xs.length af)] (WLo 50 (P0 g3 0) (.agg #[U4 l.vip, I6 l.first, U4 l.dip, I6 l.exp]) 24 (run_ld (ac.get 0 rfl) rfl) (WL.newM ac (fun b => .slice (some ⟨b, 0, none⟩) 1 1) (.cells #[U4 l.vip, I6 l.first, U4 l.dip, I6 l.exp] 50) 25 (fun _ => by kernel_rfl) (fun aL aM aN aD ak => ?_)))))))))
  have ay := own_fr ad aD (by simp)
  have hcnt_ := own_count encL_len (by decide) ay
  refine WLk (Insert_ct ae aL xs.length af i22 xs l aM ay (ak.get 1 rfl) (ak.notin 0 1 rfl rfl) (by omega) (by omega)) ?_
  rintro _ aY ⟨v_, rfl, aE, al, am⟩
  have az := ak.callF 0 rfl aE am (own_lt al)
  obtain ⟨aO, aP, rfl, aG⟩ := own_form al
  refine ⟨_, rfl, ?_⟩
  refine WLq 1 [(4, .slice aO (xs.length + 1) aP)] (WLd rfl (QXn (ax _ _ (WC.ret ?_))))
  refine (hret _ _ _ rfl ?_).1
  clear hN hret hret' ax ai ah ag hK9 hK2
  refine ⟨_, rfl, az.fr, ?_⟩
  rw [← hnew_]
  have hw_ := own_base al (az.geF 0 rfl)
  have hl_ : (xs.take i22 ++ l :: xs.drop i22).length = xs.length + 1 := by simp; omega
  rw [hl_]
  exact hw_

end Go.Proofs.YtfligklljkcbfaaGreatDoor
