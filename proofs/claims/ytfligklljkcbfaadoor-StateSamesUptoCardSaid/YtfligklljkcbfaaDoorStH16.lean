/- Contracts of functions of the program, each proved by a walk through its code; conditions stand in the statements. -/
import Derived.Test.YtfligklljkcbfaaDoorStG16
namespace Go.Proofs.YtfligklljkcbfaaDoor
set_option linter.unusedSimpArgs false
set_option linter.unusedVariables false
set_option linter.unusedSectionVars false
open Go Go.RowKit Go.Tw
set_option linter.unusedVariables false
set_option maxRecDepth 20000
theorem bs_lo {xs : List Lease} {l x : Lease} {h : Nat} (hs : sortedL xs) (he : xs[h]? = some x) (hlt : ltL x l = true) : ∀ q y, q < h + 1 → xs[q]? = some y → ltL y l = true := by
  intro q y hq hy
  by_cases e : q = h
  · subst e; rw [he] at hy; cases hy; exact hlt
  · exact ltL_trans (sorted_get hs (by omega) hy he) hlt
theorem bs_hi {xs : List Lease} {l x : Lease} {h : Nat} (hs : sortedL xs) (he : xs[h]? = some x) (hlt : ltL x l = false) : ∀ q y, h ≤ q → xs[q]? = some y → ltL y l = false := by
  intro q y hq hy
  by_cases e : q = h
  · subst e; rw [he] at hy; cases hy; exact hlt
  · cases hc : ltL y l
    · rfl
    · rw [ltL_trans (sorted_get hs (by omega) he hy) hc] at hlt; cases hlt
theorem not_lt {a b : Lease} (h : ¬ leaseCmp a b < 0) : ltL a b = false := by
  cases hc : ltL a b
  · rfl
  · exact absurd (cmp_lt.2 hc) h
theorem found_some {xs : List Lease} {l x : Lease} {i : Nat} (h : xs[i]? = some x) : foundAt xs l i = (leaseCmp x l == 0) := by
  simp only [foundAt, h]
  by_cases e : leaseCmp x l = 0
  · simp [e, cmp_eq0.1 e]
  · have : ¬ (x.vip = l.vip ∧ x.first = l.first) := fun q => e (cmp_eq0.2 q)
    simp [e, this]
theorem found_none {xs : List Lease} {l : Lease} {i : Nat} (h : xs.length ≤ i) : foundAt xs l i = false := by
  simp [foundAt, List.getElem?_eq_none h]
theorem BSF_ct (A : Option Addr) (c : Nat) (xs : List Lease) (l : Lease) (w : World) (hr : Rd w 4 encL A xs) (hs : sortedL xs) (hm : xs.length < 2 ^ 40) : Calls Tryd.prog 99 #[.slice A xs.length c, .agg #[.int .u32 l.vip, .int .i64 l.first, .int .u32 l.dip, .int .i64 l.exp], .func (.func 25) #[] #[]] w fun e w' => ∃ i : Nat, e = .returned (.tuple #[.int .i64 (i : Int), .bool (foundAt xs l i)]) ∧ Fr w w' [] ∧ bsPost xs l i := by
 refine enterD (n := 49) Tryd.func99 rfl rfl (Nat.le_of_ble_eq_true rfl) ?_
 intro Q0 hN hret hret'
 have hC := Cx.start w
 refine WCs (fun K1 hK2 => ?_)
 refine WCg ?_
 refine WL.newM hC (fun b => .pointer (some ⟨b, 0, none⟩)) (.cells #[.int .u32 l.vip, .int .i64 l.first, .int .u32 l.dip, .int .i64 l.exp] 43) 4 (fun _ => by kernel_rfl) (fun g3 w4 hb7 hF5 hC6 => ?_)
 refine WLr 2 [(7, .bool false), (6, .int .i64 0)] (fun _ => by kernel_rfl) (WLd rfl (QXn (hK2 _ _ ?_)))
 refine WCs (fun K8 hK9 => ?_)
 refine WCg (WLr 3 [(8, .int .i64 (xs.length : Int)), (13, .int .i64 (xs.length : Int)), (12, .slice A xs.length c)] (fun _ => by kernel_rfl) (WLd rfl (QXn (hK9 _ _ ?_))))
 refine WCs (fun K10 hK11 => ?_)
 refine WCg (WLr 3 [(10, .int .i64 (xs.length : Int)), (9, .int .i64 0), (14, .int .i64 (xs.length : Int))] (fun _ => by kernel_rfl) (WLd rfl (QXn (hK11 _ _ ?_))))
 refine WCs (fun K12 hK13 => ?_)
 refine WC.block ?_
 refine WC.loop (fun m_ E_ w_ => ∃ (i j : Nat), m_ = j - i ∧ E_ = [(0, .slice A xs.length c), (1, .agg #[.int .u32 l.vip, .int .i64 l.first, .int .u32 l.dip, .int .i64 l.exp]), (2, .func (.func 25) #[] #[]), (4, .pointer (some ⟨g3, 0, none⟩)), (6, .int .i64 0), (7, .bool false), (8, .int .i64 (xs.length : Int)), (9, .int .i64 (i : Int)), (10, .int .i64 (j : Int)), (12, .slice A xs.length c), (13, .int .i64 (xs.length : Int)), (14, .int .i64 (xs.length : Int))] ∧ Cx w [] w_ [(g3, .cells #[.int .u32 l.vip, .int .i64 l.first, .int .u32 l.dip, .int .i64 l.exp] 43)] [] ∧ (i ≤ j ∧ j ≤ xs.length ∧ (∀ q y, q < i → xs[q]? = some y → ltL y l = true) ∧ (∀ q y, j ≤ q → xs[q]? = some y → ltL y l = false))) ⟨_, _, ⟨0, xs.length, rfl, rfl, hC6, Nat.zero_le _, Nat.le_refl _, fun q y hq => by omega, fun q y hq hy => by have := lt_of_get hy; omega⟩, sub_of ⟨rfl, rfl, rfl, rfl, rfl, rfl, rfl, rfl, rfl, rfl, rfl, rfl, trivial⟩⟩ (fun m17 E_ w18 K14 hK15 hI16 => ?_)
 obtain ⟨i, j, rfl, rfl, hC19, hij, hj, hlo, hhi⟩ := hI16
 refine WCs (fun K20 hK21 => ?_)
 refine WCs (fun K22 hK23 => ?_)
 refine WCg (WLr 3 [(17, .bool (decide ((i : Int) < (j : Int)))), (16, .int .i64 (j : Int)), (15, .int .i64 (i : Int))] (fun _ => by kernel_rfl) (WLd rfl (QXn (hK23 _ _ ?_))))
 refine WCa 17 (decide ((i : Int) < (j : Int))) rfl (fun t24b => ?_) (fun t24b => ?_)
 ·
  have t24 : (i : Int) < (j : Int) := by have q_ := of_decide_eq_true t24b; omega
  refine WCt rfl ?_
  refine WC.skip ?_
  refine QXn (hK21 _ _ ?_)
  refine WC.block ?_
  refine WCs (fun K25 hK26 => ?_)
  refine WCg (WLr 3 [(20, .int .i64 (IntKind.i64.wrap ((i : Int) + (j : Int)))), (19, .int .i64 (j : Int)), (18, .int .i64 (i : Int))] (fun _ => by kernel_rfl) ?_)
  refine WLt (show (.int .i64 (IntKind.i64.wrap ((i : Int) + (j : Int))) : Value) = .int .i64 ((i : Int) + (j : Int)) from by rw [wrap_in_i64 ((i : Int) + (j : Int)) (by omega) (by omega)]) ?_
  refine WLr 1 [(21, .int .u64 (IntKind.u64.wrap ((i : Int) + (j : Int))))] (fun _ => by kernel_rfl) ?_
  refine WLt (show (.int .u64 (IntKind.u64.wrap ((i : Int) + (j : Int))) : Value) = .int .u64 ((i : Int) + (j : Int)) from by rw [wrap_in_u64 ((i : Int) + (j : Int)) (by omega) (by omega)]) ?_
  refine WLr 1 [(22, .int .u64 (((i : Int) + (j : Int)).fdiv (2 ^ 1)))] (fun _ => by kernel_rfl) ?_
  refine WLt (show (.int .u64 (((i : Int) + (j : Int)).fdiv (2 ^ 1)) : Value) = .int .u64 (((i : Int) + (j : Int)) / 2) from by rw [Int.fdiv_eq_ediv_of_nonneg ((i : Int) + (j : Int)) (by decide)]; rfl) ?_
  refine WLr 1 [(23, .int .i64 (IntKind.i64.wrap (((i : Int) + (j : Int)) / 2)))] (fun _ => by kernel_rfl) ?_
  refine WLt (show (.int .i64 (IntKind.i64.wrap (((i : Int) + (j : Int)) / 2)) : Value) = .int .i64 (((i + j) / 2 : Nat) : Int) from by rw [wrap_in_i64 _ (by omega) (by omega)]; congr 1) ?_
  refine WLr 1 [(11, .int .i64 (((i + j) / 2 : Nat) : Int))] (fun _ => by kernel_rfl) (WLd rfl (QXn (hK26 _ _ ?_)))
  refine WCs (fun K27 hK28 => ?_)
  refine WC.drawC hC19 [] (by kernel_rfl) (fun w29 hF30 hC31 hS32 => ?_)
  refine WDp (NPt (NPb (NPt (NPb (NPt hN))))) 0 24 (.func (.func 25) #[] #[]) (by kernel_rfl) (fun _ => by kernel_rfl) hS32 ?_
  refine WDp (NPt (NPb (NPt (NPb (NPt hN))))) 1 25 (.slice A xs.length c) (by kernel_rfl) (fun _ => by kernel_rfl) hS32 ?_
  refine WDp (NPt (NPb (NPt (NPb (NPt hN))))) 2 26 (.int .i64 (((i + j) / 2 : Nat) : Int)) (by kernel_rfl) (fun _ => by kernel_rfl) hS32 ?_
  obtain ⟨e33, he34⟩ := get_some (xs := xs) (i := (((i + j) / 2 : Nat) : Int).toNat) (by omega)
  obtain ⟨b35, o37, hA36, hc38⟩ := hr.at_ _ _ he34
  refine WDi (NPt (NPb (NPt (NPb (NPt hN))))) 3 A xs.length c 27 .i64 (((i + j) / 2 : Nat) : Int) b35 o37 ((((i + j) / 2 : Nat) : Int).toNat) 4 (by kernel_rfl) (by kernel_rfl) hA36 (by omega) (by omega) (o37 + ((((i + j) / 2 : Nat) : Int).toNat) * 4) (by first | (simp; done) | omega) hS32 ?_
  refine WDl (NPt (NPb (NPt (NPb (NPt hN))))) 4 43 (.pointer (some ⟨b35, o37 + ((((i + j) / 2 : Nat) : Int).toNat) * 4, none⟩)) (.agg #[.int .u32 e33.vip, .int .i64 e33.first, .int .u32 e33.dip, .int .i64 e33.exp]) 28 (by kernel_rfl) (by kernel_rfl) (fun _ hS_ => run_rdN (l := [.int .u32 e33.vip, .int .i64 e33.first, .int .u32 e33.dip, .int .i64 e33.exp]) rfl rfl (fun j u hu => by have hq_ := Fr.cell hS_ (hC31.fr.cell (hc38 j u hu) (by simp)) (by simp); simpa [Nat.add_assoc] using hq_)) hS32 ?_
  refine WDl (NPt (NPb (NPt (NPb (NPt hN))))) 5 43 (.pointer (some ⟨g3, 0, none⟩)) (.agg #[.int .u32 l.vip, .int .i64 l.first, .int .u32 l.dip, .int .i64 l.exp]) 29 (by kernel_rfl) (by kernel_rfl) (fun _ hS_ => run_ld (Fr.has hS_ (hC31.get 0 rfl) (by simp)) rfl) hS32 ?_
  refine WD.call 6 (by kernel_rfl) rfl rfl rfl rfl rfl (by kernel_rfl) (leaseCmp_ct e33 l w29) ?_
  rintro _ w40 ⟨rfl, hF39⟩
  have hS42 := hS32.trans hF39 (by simp)
  refine ⟨_, rfl, hS42, ?_⟩
  have hC41 := hC31.call hF39
  refine WDp (NPt (NPb (NPt (NPb (NPt hN))))) 7 31 (.bool (decide ((leaseCmp e33 l) < 0))) (by kernel_rfl) (fun _ => by kernel_rfl) hS42 ?_
  refine WD.done (by kernel_rfl) ?_
  refine QXn (hK28 _ _ ?_)
  refine WCa 31 (decide ((leaseCmp e33 l) < 0)) rfl (fun t43b => ?_) (fun t43b => ?_)
  ·
   have t43 : (leaseCmp e33 l) < 0 := by have q_ := of_decide_eq_true t43b; omega
   refine WCt rfl ?_
   refine WCg (WLr 2 [(33, .int .i64 (IntKind.i64.wrap ((((i + j) / 2 : Nat) : Int) + 1))), (32, .int .i64 (((i + j) / 2 : Nat) : Int))] (fun _ => by kernel_rfl) ?_)
   refine WLt (show (.int .i64 (IntKind.i64.wrap ((((i + j) / 2 : Nat) : Int) + 1)) : Value) = .int .i64 ((((i + j) / 2 : Nat) : Int) + 1) from by rw [wrap_in_i64 ((((i + j) / 2 : Nat) : Int) + 1) (by omega) (by omega)]) ?_
   refine WLr 1 [(9, .int .i64 ((((i + j) / 2 : Nat) : Int) + 1))] (fun _ => by kernel_rfl) ?_
   refine WLd rfl ?_
   refine QXb ?_
   refine QXn ?_
   have hC44 := hC41.pick [0] [] rfl rfl
   refine fun a_ ha_ => hK15 _ _ _ ?_ ⟨((i + j) / 2) + 1, j, rfl, rfl, hC44, by omega, by omega, bs_lo hs he34 (cmp_lt.1 t43), hhi⟩ a_ (ha_.weaken (sub_of ⟨rfl, rfl, rfl, rfl, rfl, rfl, rfl, rfl, rfl, rfl, rfl, rfl, trivial⟩))
   omega
  ·
   have t43 : (0 : Int) ≤ (leaseCmp e33 l) := by have q_ := of_decide_eq_false t43b; omega
   refine WCf rfl ?_
   refine WCg (WLr 2 [(10, .int .i64 (((i + j) / 2 : Nat) : Int)), (34, .int .i64 (((i + j) / 2 : Nat) : Int))] (fun _ => by kernel_rfl) ?_)
   refine WLd rfl ?_
   refine QXb ?_
   refine QXn ?_
   have hC45 := hC41.pick [0] [] rfl rfl
   refine fun a_ ha_ => hK15 _ _ _ ?_ ⟨i, (((i + j) / 2 : Nat) : Int).toNat, rfl, rfl, hC45, by omega, by omega, hlo, bs_hi hs he34 (not_lt (by omega))⟩ a_ (ha_.weaken (sub_of ⟨rfl, rfl, rfl, rfl, rfl, rfl, rfl, rfl, rfl, rfl, rfl, rfl, trivial⟩))
   omega
 ·
  have t24 : (j : Int) ≤ (i : Int) := by have q_ := of_decide_eq_false t24b; omega
  refine WCf rfl ?_
  refine WC.exit ?_
  refine QXe ?_
  refine QXe ?_
  refine QX.block_hit ?_
  refine QXn (hK13 _ _ ?_)
  refine WCs (fun K46 hK47 => ?_)
  refine WC.drawC hC19 [] (by kernel_rfl) (fun w48 hF49 hC50 hS51 => ?_)
  refine WDp (NPt hN) 0 35 (.int .i64 (i : Int)) (by kernel_rfl) (fun _ => by kernel_rfl) hS51 ?_
  refine WDp (NPt hN) 1 36 (.int .i64 (i : Int)) (by kernel_rfl) (fun _ => by kernel_rfl) hS51 ?_
  refine WDp (NPt hN) 2 37 (.int .i64 (xs.length : Int)) (by kernel_rfl) (fun _ => by kernel_rfl) hS51 ?_
  refine WDp (NPt hN) 3 38 (.bool (decide ((i : Int) < (xs.length : Int)))) (by kernel_rfl) (fun _ => by kernel_rfl) hS51 ?_
  refine WDp (NPt hN) 4 39 (.bool (decide ((i : Int) < (xs.length : Int)))) (by kernel_rfl) (fun _ => by kernel_rfl) hS51 ?_
  refine WDa 39 (decide ((i : Int) < (xs.length : Int))) rfl (fun t52b => ?_) (fun t52b => ?_)
  ·
   have t52 : (i : Int) < (xs.length : Int) := by have q_ := of_decide_eq_true t52b; omega
   refine WDp (NPt hN) 5 40 (.func (.func 25) #[] #[]) (by kernel_rfl) (fun _ => by kernel_rfl) hS51 ?_
   refine WDp (NPt hN) 6 41 (.slice A xs.length c) (by kernel_rfl) (fun _ => by kernel_rfl) hS51 ?_
   refine WDp (NPt hN) 7 42 (.int .i64 (i : Int)) (by kernel_rfl) (fun _ => by kernel_rfl) hS51 ?_
   obtain ⟨e53, he54⟩ := get_some (xs := xs) (i := i) (by omega)
   obtain ⟨b55, o57, hA56, hc58⟩ := hr.at_ _ _ he54
   refine WDi (NPt hN) 8 A xs.length c 43 .i64 (i : Int) b55 o57 i 4 (by kernel_rfl) (by kernel_rfl) hA56 (by omega) (by omega) (o57 + i * 4) (by first | (simp; done) | omega) hS51 ?_
   refine WDl (NPt hN) 9 43 (.pointer (some ⟨b55, o57 + i * 4, none⟩)) (.agg #[.int .u32 e53.vip, .int .i64 e53.first, .int .u32 e53.dip, .int .i64 e53.exp]) 44 (by kernel_rfl) (by kernel_rfl) (fun _ hS_ => run_rdN (l := [.int .u32 e53.vip, .int .i64 e53.first, .int .u32 e53.dip, .int .i64 e53.exp]) rfl rfl (fun j u hu => by have hq_ := Fr.cell hS_ (hC50.fr.cell (hc58 j u hu) (by simp)) (by simp); simpa [Nat.add_assoc] using hq_)) hS51 ?_
   refine WDl (NPt hN) 10 43 (.pointer (some ⟨g3, 0, none⟩)) (.agg #[.int .u32 l.vip, .int .i64 l.first, .int .u32 l.dip, .int .i64 l.exp]) 45 (by kernel_rfl) (by kernel_rfl) (fun _ hS_ => run_ld (Fr.has hS_ (hC50.get 0 rfl) (by simp)) rfl) hS51 ?_
   refine WD.call 11 (by kernel_rfl) rfl rfl rfl rfl rfl (by kernel_rfl) (leaseCmp_ct e53 l w48) ?_
   rintro _ w60 ⟨rfl, hF59⟩
   have hS62 := hS51.trans hF59 (by simp)
   refine ⟨_, rfl, hS62, ?_⟩
   have hC61 := hC50.call hF59
   refine WDp (NPt hN) 12 47 (.bool ((leaseCmp e53 l) == 0)) (by kernel_rfl) (fun _ => by kernel_rfl) hS62 ?_
   refine WDp (NPt hN) 13 48 (.bool ((leaseCmp e53 l) == 0)) (by kernel_rfl) (fun _ => by kernel_rfl) hS62 ?_
   refine WDp (NPt hN) 14 6 (.int .i64 (i : Int)) (by kernel_rfl) (fun _ => by kernel_rfl) hS62 ?_
   refine WDp (NPt hN) 15 7 (.bool ((leaseCmp e53 l) == 0)) (by kernel_rfl) (fun _ => by kernel_rfl) hS62 ?_
   refine WD.done (by kernel_rfl) ?_
   refine QXn (hK47 _ _ ?_)
   refine WC.ret ?_
   refine (hret _ _ _ rfl ?_).1
   clear hN hret hret' hK47 hK23 hK21 hK13 hK11 hK9 hK2
   have e_ : i = j := by omega
   subst e_
   exact ⟨i, by rw [found_some he54]; try rfl, hC61.fr, by omega, hlo, hhi⟩
  ·
   have t52 : (xs.length : Int) ≤ (i : Int) := by have q_ := of_decide_eq_false t52b; omega
   refine WDp (NPt hN) 5 40 (undef) (by kernel_rfl) (fun _ => by kernel_rfl) hS51 ?_
   refine WDp (NPt hN) 6 41 (undef) (by kernel_rfl) (fun _ => by kernel_rfl) hS51 ?_
   refine WDp (NPt hN) 7 42 (undef) (by kernel_rfl) (fun _ => by kernel_rfl) hS51 ?_
   refine WDp (NPt hN) 8 43 (undef) (by kernel_rfl) (fun _ => by kernel_rfl) hS51 ?_
   refine WDp (NPt hN) 9 44 (undef) (by kernel_rfl) (fun _ => by kernel_rfl) hS51 ?_
   refine WDp (NPt hN) 10 45 (undef) (by kernel_rfl) (fun _ => by kernel_rfl) hS51 ?_
   refine WDp (NPt hN) 11 46 (undef) (by kernel_rfl) (fun _ => by kernel_rfl) hS51 ?_
   refine WDp (NPt hN) 12 47 (undef) (by kernel_rfl) (fun _ => by kernel_rfl) hS51 ?_
   refine WDp (NPt hN) 13 48 (.bool false) (by kernel_rfl) (fun _ => by kernel_rfl) hS51 ?_
   refine WDp (NPt hN) 14 6 (.int .i64 (i : Int)) (by kernel_rfl) (fun _ => by kernel_rfl) hS51 ?_
   refine WDp (NPt hN) 15 7 (.bool false) (by kernel_rfl) (fun _ => by kernel_rfl) hS51 ?_
   refine WD.done (by kernel_rfl) ?_
   refine QXn (hK47 _ _ ?_)
   refine WC.ret ?_
   refine (hret _ _ _ rfl ?_).1
   clear hN hret hret' hK47 hK23 hK21 hK13 hK11 hK9 hK2
   have e_ : i = j := by omega
   subst e_
   exact ⟨i, by rw [found_none (by omega)]; try rfl, hC50.fr, by omega, hlo, hhi⟩

theorem with_ct (A : Option Addr) (c : Nat) (xs : List Lease) (l : Lease) (w : World) (hr : Rd w 4 encL A xs) (hs : sortedL xs) (hm : xs.length < 2 ^ 39) : Calls Tryd.prog 87 #[.slice A xs.length c, .agg #[.int .u32 l.vip, .int .i64 l.first, .int .u32 l.dip, .int .i64 l.exp]] w fun e w' => ∃ v, e = .returned v ∧ Fr w w' [] ∧ w'.ownsRow w.heap.size 43 4 v (insL xs l).length ((insL xs l).flatMap encL) := by
 refine enterD (n := 27) Tryd.func87 rfl rfl (Nat.le_of_ble_eq_true rfl) ?_
 intro Q0 hN hret hret'
 have hC := Cx.start w
 refine WCs (fun K1 hK2 => ?_)
 refine WCg ?_
 refine WL.newM hC (fun b => .pointer (some ⟨b, 0, none⟩)) (.cells #[.int .u32 l.vip, .int .i64 l.first, .int .u32 l.dip, .int .i64 l.exp] 43) 3 (fun _ => by kernel_rfl) (fun g3 w4 hb7 hF5 hC6 => ?_)
 refine WLr 1 [(4, .slice none 0 0)] (fun _ => by kernel_rfl) (WLd rfl (QXn (hK2 _ _ ?_)))
 refine WCs (fun K8 hK9 => ?_)
 refine WCg (WLr 1 [(8, .slice A xs.length c)] (fun _ => by kernel_rfl) ?_)
 refine WLc rfl rfl rfl rfl rfl (by kernel_rfl) (Clone_ct A c xs w4 (Rd.fr hr hC6.fr) (by omega)) ?_
 rintro _ w12 ⟨v_, rfl, hF11, ho10⟩
 have hC13 := hC6.callN hF11 (own_ge ho10) (own_lt ho10)
 obtain ⟨A14, c15, rfl, hle16⟩ := own_form ho10
 have ho18 := own_base (b' := 0) ho10 (fun _ _ => Nat.zero_le _)
 refine ⟨_, rfl, ?_⟩
 refine WLr 1 [(5, .slice A14 xs.length c15)] (fun _ => by kernel_rfl) (WLd rfl (QXn (hK9 _ _ ?_)))
 refine WCs (fun K20 hK21 => ?_)
 refine WCg (WLr 1 [(11, .slice A14 xs.length c15)] (fun _ => by kernel_rfl) ?_)
 refine WL.load 43 (.pointer (some ⟨g3, 0, none⟩)) (.agg #[.int .u32 l.vip, .int .i64 l.first, .int .u32 l.dip, .int .i64 l.exp]) 12 (by kernel_rfl) (run_ld (hC13.get 0 rfl) rfl) ?_
 refine WLc rfl rfl rfl rfl rfl (by kernel_rfl) (BSF_ct A14 c15 xs l w12 (own_rd ho18 encL_len (by decide)) hs (by omega)) ?_
 rintro _ w25 ⟨i22, rfl, hF24, hbs23⟩
 refine ⟨_, rfl, ?_⟩
 have hC26 := hC13.call hF24
 have ho27 := own_fr ho18 hF24 (by simp)
 refine WLr 5 [(7, .bool (foundAt xs l i22)), (6, .int .i64 (i22 : Int)), (15, .bool (foundAt xs l i22)), (14, .int .i64 (i22 : Int)), (10, .tuple #[.int .i64 (i22 : Int), .bool (foundAt xs l i22)])] (fun _ => by kernel_rfl) (WLd rfl (QXn (hK21 _ _ ?_)))
 refine WCs (fun K28 hK29 => ?_)
 refine WCs (fun K30 hK31 => ?_)
 refine WCg (WLr 1 [(16, .bool (foundAt xs l i22))] (fun _ => by kernel_rfl) (WLd rfl (QXn (hK31 _ _ ?_))))
 refine WCa 16 (foundAt xs l i22) rfl (fun t32b => ?_) (fun t32b => ?_)
 ·
  obtain ⟨hin_, hset_⟩ := ins_found hs hbs23 t32b
  refine WCt rfl ?_
  refine WCs (fun K33 hK34 => ?_)
  refine WCg (WLr 2 [(18, .int .i64 (i22 : Int)), (17, .slice A14 xs.length c15)] (fun _ => by kernel_rfl) ?_)
  refine WL.load 43 (.pointer (some ⟨g3, 0, none⟩)) (.agg #[.int .u32 l.vip, .int .i64 l.first, .int .u32 l.dip, .int .i64 l.exp]) 19 (by kernel_rfl) (run_ld (hC26.get 0 rfl) rfl) ?_
  have hn39 := own_count encL_len (by decide) ho27
  obtain ⟨e35, he36⟩ := get_some (xs := xs) (i := i22) (by omega)
  obtain ⟨b37, hA38⟩ := own_addr (by decide) encL_len ho27 he36
  refine WLi A14 xs.length c15 20 .i64 (i22 : Int) b37 0 i22 4 (by kernel_rfl) hA38 (by omega) (by omega) (i22 * 4) (by first | (simp; done) | omega) ?_
  obtain ⟨w40, hr41, hF42, ho44, hC43⟩ := stoE_run Tryd.prog encL_len hC26 0 hA38 rfl ho27 i22 0 (x := e35) he36 l [.int .u32 l.vip, .int .i64 l.first, .int .u32 l.dip, .int .i64 l.exp] rfl 43 (.agg #[.int .u32 l.vip, .int .i64 l.first, .int .u32 l.dip, .int .i64 l.exp]) (i22 * 4) rfl rfl rfl (by first | rfl | simp [Nat.add_assoc])
  refine WL.semU (Instr.storeAt 43 (.pointer (some ⟨b37, i22 * 4, none⟩)) (.agg #[.int .u32 l.vip, .int .i64 l.first, .int .u32 l.dip, .int .i64 l.exp])) (by kernel_rfl) hr41 ?_
  refine WLd rfl (QXn (hK34 _ _ ?_))
  refine WCs (fun K45 hK46 => ?_)
  refine WCg (WLr 2 [(4, .slice A14 xs.length c15), (21, .slice A14 xs.length c15)] (fun _ => by kernel_rfl) (WLd rfl (QXn (hK46 _ _ ?_))))
  refine WC.ret ?_
  refine QXr ?_
  refine (hret _ _ _ rfl ?_).1
  clear hN hret hret' hK46 hK34 hK31 hK29 hK21 hK9 hK2
  refine ⟨_, rfl, hC43.fr, ?_⟩
  rw [← hset_, List.length_set]
  exact own_base ho44 (hC43.geF 0 rfl)
 ·
  have hnew_ := ins_new hs hbs23 t32b
  have hile_ := hbs23.1
  refine WCf rfl (WC.skip (QXn (hK29 _ _ ?_)))
  refine WCs (fun K47 hK48 => ?_)
  refine WCg (WLr 2 [(23, .int .i64 (i22 : Int)), (22, .slice A14 xs.length c15)] (fun _ => by kernel_rfl) ?_)
  refine WL.load 43 (.pointer (some ⟨g3, 0, none⟩)) (.agg #[.int .u32 l.vip, .int .i64 l.first, .int .u32 l.dip, .int .i64 l.exp]) 24 (by kernel_rfl) (run_ld (hC26.get 0 rfl) rfl) ?_
  refine WL.newM hC26 (fun b => .slice (some ⟨b, 0, none⟩) 1 1) (.cells #[.int .u32 l.vip, .int .i64 l.first, .int .u32 l.dip, .int .i64 l.exp] 43) 25 (fun _ => by kernel_rfl) (fun g49 w50 hb53 hF51 hC52 => ?_)
  have ho54 := own_fr ho27 hF51 (by simp)
  have hcnt_ := own_count encL_len (by decide) ho54
  refine WLc rfl rfl rfl rfl rfl (by kernel_rfl) (Insert_ct A14 g49 xs.length c15 i22 xs l w50 ho54 (hC52.get 1 rfl) (hC52.notin 0 1 rfl rfl) (by omega) (by omega)) ?_
  rintro _ w59 ⟨v_, rfl, hF57, ho55, hsub56⟩
  have hC58 := hC52.callF 0 rfl hF57 hsub56 (own_lt ho55)
  obtain ⟨A60, c61, rfl, hle62⟩ := own_form ho55
  refine ⟨_, rfl, ?_⟩
  refine WLr 1 [(4, .slice A60 (xs.length + 1) c61)] (fun _ => by kernel_rfl) (WLd rfl (QXn (hK48 _ _ ?_)))
  refine WC.ret ?_
  refine (hret _ _ _ rfl ?_).1
  clear hN hret hret' hK48 hK31 hK29 hK21 hK9 hK2
  refine ⟨_, rfl, hC58.fr, ?_⟩
  rw [← hnew_]
  have hw_ := own_base ho55 (hC58.geF 0 rfl)
  have hl_ : (xs.take i22 ++ l :: xs.drop i22).length = xs.length + 1 := by simp; omega
  rw [hl_]
  exact hw_

end Go.Proofs.YtfligklljkcbfaaDoor
