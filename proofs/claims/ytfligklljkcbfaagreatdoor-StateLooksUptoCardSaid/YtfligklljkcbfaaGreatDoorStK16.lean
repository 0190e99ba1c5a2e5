/- Contracts of functions of the program, each proved by a walk through its code; conditions stand in the statements. -/
import Derived.Test.YtfligklljkcbfaaGreatDoorStJ16
namespace Go.Proofs.YtfligklljkcbfaaGreatDoor
set_option linter.unusedSimpArgs false
set_option linter.unusedVariables false
set_option linter.unusedSectionVars false
open Go Go.RowKit Go.Tw
set_option linter.unusedVariables false
set_option maxRecDepth 20000
def grE (xs : List Lease) (vip dip now : Int) : Int := if checkL xs && lgoodL ⟨vip, 1024, dip, 0⟩ && goodTime now then (if 4 ≤ (xs.filter (ofP dip now)).length then 7 else if (freeN xs vip now).isSome then 0 else 5) else 9
def grL (xs : List Lease) (vip dip now : Int) : Lease := if grE xs vip dip now = 0 then ⟨vip, freeF xs vip now, dip, now + 64⟩ else ⟨0, 0, 0, 0⟩
def grX (xs : List Lease) (vip dip now : Int) : List Lease := if grE xs vip dip now = 0 then insL xs (grL xs vip dip now) else []
def rnP (vip first dip now : Int) (l : Lease) : Bool := decide (l.vip = vip) && decide (l.first = first) && decide (l.dip = dip) && livesB l now
def rnE (xs : List Lease) (vip first dip now : Int) : Int := if checkL xs && goodTime now then (if xs.any (rnP vip first dip now) then 0 else 6) else 9
def rnL (xs : List Lease) (vip first dip now : Int) : Lease := if rnE xs vip first dip now = 0 then ⟨vip, first, dip, now + 64⟩ else ⟨0, 0, 0, 0⟩
def rnX (xs : List Lease) (vip first dip now : Int) : List Lease := if rnE xs vip first dip now = 0 then insL xs (rnL xs vip first dip now) else []
theorem goodTime_le {now : Int} (h : goodTime now = true) : 0 ≤ now ∧ now ≤ 1099511627776 := by simpa [goodTime] using h
theorem rn_none {xs : List Lease} {vip first dip now : Int} {k : Nat} (hk : xs.length ≤ k) (h : (xs.take k).any (rnP vip first dip now) = false) : xs.any (rnP vip first dip now) = false := by rwa [List.take_of_length_le hk] at h
theorem rn_step {xs : List Lease} {k : Nat} {x : Lease} {vip first dip now : Int} (hx : xs[k]? = some x) (h : (xs.take k).any (rnP vip first dip now) = false) (hp : rnP vip first dip now x = false) : (xs.take (k + 1)).any (rnP vip first dip now) = false := by
  obtain ⟨hk, rfl⟩ := List.getElem?_eq_some_iff.1 hx
  rw [List.take_succ_eq_append_getElem hk, List.any_append, h]; simpa using hp
theorem rn_hit {xs : List Lease} {k : Nat} {x : Lease} {vip first dip now : Int} (hx : xs[k]? = some x) (hp : rnP vip first dip now x = true) : xs.any (rnP vip first dip now) = true := List.any_eq_true.2 ⟨x, List.mem_of_getElem? hx, hp⟩
theorem Grant_ct (A : Option Addr) (c : Nat) (xs : List Lease) (vip dip now : Int) (w : World) (hr : Rd w 4 encL A xs) (hwf : ∀ l ∈ xs, okL l) (hm : xs.length < 2 ^ 39) (hvip : 0 ≤ vip ∧ vip ≤ 4294967295) (hdip : 0 ≤ dip ∧ dip ≤ 4294967295) (hg : Rd w 1 (encI .u8) (some ⟨0, 0, none⟩) dbTab) : Calls Tryz.prog 88 #[.slice A xs.length c, U4 vip, U4 dip, I6 now] w fun e w' => ∃ v, e = .returned (.tuple #[v, .agg #[U4 ((grL xs vip dip now).vip), I6 ((grL xs vip dip now).first), U4 ((grL xs vip dip now).dip), I6 ((grL xs vip dip now).exp)], errV 118 (grE xs vip dip now)]) ∧ Fr w w' [] ∧ w'.ownsRow w.heap.size 50 4 v (grX xs vip dip now).length ((grX xs vip dip now).flatMap encL) := by
 refine enterD (n := 60) Tryz.func88 rfl rfl (Nat.le_of_ble_eq_true rfl) ?_
 intro Q0 hN hret hret'
 have hC := Cx.start w
 refine WCs (fun K1 hK2 => WCg (WLq 1 [(8, .slice none 0 0)] (WLb hC (.cells #[U4 0, I6 0, U4 0, I6 0] 50) 9 (fun g3 w4 hb7 hF5 hC6 => WLq 1 [(10, .nilIface)] (WLd rfl (QXn (hK2 _ _ (WCs (fun K8 hK9 => WCg ?_)))))))))
 refine WLz 3 [(16, .agg #[U4 vip, I6 1024, U4 dip, I6 0])] (WLb hC6 (.cells #[U4 0, I6 0, U4 0, I6 0] 50) 11 (fun ar bz bf bg a1 => WLv (c' := #[U4 vip, I6 1024, U4 dip, I6 0]) a1 1 50 ar 0 (.agg #[U4 vip, I6 1024, U4 dip, I6 0]) (fun bh bi aG => WLd rfl (QXn (hK9 _ _ (WCs (fun bA af => WCs (fun bB ad => ?_))))))))
 refine WCg (WLq 1 [(17, .slice A xs.length c)] (WLk (LCheck_ct A c xs bh (Rd.fr hr aG.fr) hwf (by omega)) ?_))
 rintro _ bj ⟨rfl, a2⟩
 refine ⟨_, rfl, ?_⟩
 have az := aG.call a2
 have a3 : ∀ w_, Sem.run Tryz.prog (do eqGuard .neq 97 (Operand.tmp 18) (Operand.const (.nilIface)) (errV 118 (if checkL xs then 0 else 9)) (.nilIface); binOp .neq 97 (errV 118 (if checkL xs then 0 else 9)) (.nilIface)) w_ = .ok (.bool (!(checkL xs))) w_ := fun w_ => (err_neq _ (if checkL xs then 0 else 9) (checkL xs) (by cases checkL xs <;> rfl) _)
 refine WL.sem (do eqGuard .neq 97 (Operand.tmp 18) (Operand.const (.nilIface)) (errV 118 (if checkL xs then 0 else 9)) (.nilIface); binOp .neq 97 (errV 118 (if checkL xs then 0 else 9)) (.nilIface)) 19 (.bool (!(checkL xs))) (by kernel_rfl) (a3 _) (WLq 1 [(20, .bool (!(checkL xs)))] (WLa 20 (!(checkL xs)) rfl (fun aa => ?_) (fun aa => ?_)))
 ·
  have am : (checkL xs) = false := by first | (simpa only [Bool.not_eq_true', Bool.not_eq_false'] using aa) | simpa using aa
  refine WLz 9 [(29, .bool true)] (WLd rfl (QXn (ad _ _ (WCt rfl (WCs (fun bC aH => WCg (WLq 3 [(8, .slice none 0 0), (31, .iface 118 (I6 9)), (30, .agg #[U4 0, I6 0, U4 0, I6 0])] (WLv (c' := #[U4 0, I6 0, U4 0, I6 0]) az 0 50 g3 0 (.agg #[U4 0, I6 0, U4 0, I6 0]) (fun bD bk aI => WLq 1 [(10, .iface 118 (I6 9))] (WLd rfl (QXn (aH _ _ ?_))))))))))))
  refine WC.ret (QXr ?_)
  refine (hret' _ _ (.tuple #[.slice none 0 0, .agg #[U4 0, I6 0, U4 0, I6 0], .iface 118 (I6 9)]) (fun a ha => ?_) ?_).1
  ·
   exact res_run ha ((ResR.tmp rfl (ResR.cell rfl (run_ld (aI.get 0 rfl) rfl) (ResR.tmp rfl ResR.nil)))) rfl
  clear hN hret hret' aH ad af hK9 hK2
  have hE_ : grE xs vip dip now = 9 := by
   simp [grE, am, aa] <;> (try (intros; omega))
  have hL_ : grL xs vip dip now = ⟨0, 0, 0, 0⟩ := by simp [grL, hE_]
  have hX_ : grX xs vip dip now = [] := by simp [grX, hE_]
  rw [hE_, hL_, hX_]
  exact ⟨_, rfl, aI.fr, own_nil _ _ _ _⟩
 ·
  have am : (checkL xs) = true := by first | (simpa only [Bool.not_eq_true', Bool.not_eq_false'] using aa) | simpa using aa
  refine WLo 50 (P0 ar 0) (.agg #[U4 vip, I6 1024, U4 dip, I6 0]) 21 (run_ld (az.get 1 rfl) rfl) (WLk (good_ct (⟨vip, 1024, dip, 0⟩ : Lease) bj (by simp only [okL]; omega)) ?_)
  rintro _ bl ⟨rfl, a4⟩
  refine ⟨_, rfl, ?_⟩
  have aJ := az.call a4
  refine WLz 3 [(25, .bool (!(lgoodL (⟨vip, 1024, dip, 0⟩ : Lease))))] (WLa 25 (!(lgoodL (⟨vip, 1024, dip, 0⟩ : Lease))) rfl (fun ab => ?_) (fun ab => ?_))
  ·
   have aE : (lgoodL (⟨vip, 1024, dip, 0⟩ : Lease)) = false := by first | (simpa only [Bool.not_eq_true', Bool.not_eq_false'] using ab) | simpa using ab
   refine WLz 4 [(29, .bool true)] (WLd rfl (QXn (ad _ _ (WCt rfl (WCs (fun bE aK => WCg (WLq 3 [(8, .slice none 0 0), (31, .iface 118 (I6 9)), (30, .agg #[U4 0, I6 0, U4 0, I6 0])] (WLv (c' := #[U4 0, I6 0, U4 0, I6 0]) aJ 0 50 g3 0 (.agg #[U4 0, I6 0, U4 0, I6 0]) (fun bF bm aL => WLq 1 [(10, .iface 118 (I6 9))] (WLd rfl (QXn (aK _ _ ?_))))))))))))
   refine WC.ret (QXr ?_)
   refine (hret' _ _ (.tuple #[.slice none 0 0, .agg #[U4 0, I6 0, U4 0, I6 0], .iface 118 (I6 9)]) (fun a ha => ?_) ?_).1
   ·
    exact res_run ha ((ResR.tmp rfl (ResR.cell rfl (run_ld (aL.get 0 rfl) rfl) (ResR.tmp rfl ResR.nil)))) rfl
   clear hN hret hret' aK ad af hK9 hK2
   have hE_ : grE xs vip dip now = 9 := by
    simp [grE, am, aa, aE, ab] <;> (try (intros; omega))
   have hL_ : grL xs vip dip now = ⟨0, 0, 0, 0⟩ := by simp [grL, hE_]
   have hX_ : grX xs vip dip now = [] := by simp [grX, hE_]
   rw [hE_, hL_, hX_]
   exact ⟨_, rfl, aL.fr, own_nil _ _ _ _⟩
  ·
   have aE : (lgoodL (⟨vip, 1024, dip, 0⟩ : Lease)) = true := by first | (simpa only [Bool.not_eq_true', Bool.not_eq_false'] using ab) | simpa using ab
   refine WLq 1 [(26, I6 now)] (WLk (goodTime_ct now bl) ?_)
   rintro _ bn ⟨rfl, a5⟩
   refine ⟨_, rfl, ?_⟩
   have aA := aJ.call a5
   refine WLz 2 [(29, .bool (!(goodTime now)))] (WLd rfl (QXn (ad _ _ (WCa 29 (!(goodTime now)) rfl (fun ae => ?_) (fun ae => ?_)))))
   ·
    have aF : (goodTime now) = false := by first | (simpa only [Bool.not_eq_true', Bool.not_eq_false'] using ae) | simpa using ae
    refine WCt rfl (WCs (fun bG aM => WCg (WLq 3 [(8, .slice none 0 0), (31, .iface 118 (I6 9)), (30, .agg #[U4 0, I6 0, U4 0, I6 0])] (WLv (c' := #[U4 0, I6 0, U4 0, I6 0]) aA 0 50 g3 0 (.agg #[U4 0, I6 0, U4 0, I6 0]) (fun bH bo aN => WLq 1 [(10, .iface 118 (I6 9))] (WLd rfl (QXn (aM _ _ (WC.ret ?_)))))))))
    refine QXr ?_
    refine (hret' _ _ (.tuple #[.slice none 0 0, .agg #[U4 0, I6 0, U4 0, I6 0], .iface 118 (I6 9)]) (fun a ha => ?_) ?_).1
    ·
     exact res_run ha ((ResR.tmp rfl (ResR.cell rfl (run_ld (aN.get 0 rfl) rfl) (ResR.tmp rfl ResR.nil)))) rfl
    clear hN hret hret' aM ad af hK9 hK2
    have hE_ : grE xs vip dip now = 9 := by
     simp [grE, am, aa, aE, ab, aF, ae] <;> (try (intros; omega))
    have hL_ : grL xs vip dip now = ⟨0, 0, 0, 0⟩ := by simp [grL, hE_]
    have hX_ : grX xs vip dip now = [] := by simp [grX, hE_]
    rw [hE_, hL_, hX_]
    exact ⟨_, rfl, aN.fr, own_nil _ _ _ _⟩
   ·
    have aF : (goodTime now) = true := by first | (simpa only [Bool.not_eq_true', Bool.not_eq_false'] using ae) | simpa using ae
    refine WCf rfl (WC.skip (QXn (af _ _ (WCs (fun bI an => WCs (fun bJ ao => WCg (WLq 3 [(34, I6 now), (33, U4 dip), (32, .slice A xs.length c)] (WLk (Of_ct A c xs dip now bn (Rd.fr hr aA.fr) hwf (by first | omega | simp)) ?_))))))))
    rintro _ bp ⟨v_, rfl, a6, ap⟩
    have aq := aA.callN a6 (own_ge ap) (own_lt ap)
    obtain ⟨bK, bL, rfl, bc⟩ := own_form ap
    have bq := own_base (b' := 0) ap (fun _ _ => Nat.zero_le _)
    refine ⟨_, rfl, ?_⟩
    refine WLz 2 [(37, .bool (decide (((xs.filter (ofP dip now)).length : Int) ≥ 4)))] (WLd rfl (QXn (ao _ _ (WCa 37 (decide (((xs.filter (ofP dip now)).length : Int) ≥ 4)) rfl (fun ak => ?_) (fun ak => ?_)))))
    ·
     have a0 : (4 : Int) ≤ ((xs.filter (ofP dip now)).length : Int) := by have q_ := of_decide_eq_true ak; omega
     refine WCt rfl (WCs (fun bM aO => WCg (WLq 3 [(8, .slice none 0 0), (39, .iface 118 (I6 7)), (38, .agg #[U4 0, I6 0, U4 0, I6 0])] (WLv (c' := #[U4 0, I6 0, U4 0, I6 0]) aq 0 50 g3 0 (.agg #[U4 0, I6 0, U4 0, I6 0]) (fun bN br aP => WLq 1 [(10, .iface 118 (I6 7))] (WLd rfl (QXn (aO _ _ (WC.ret ?_)))))))))
     refine QXr ?_
     refine (hret' _ _ (.tuple #[.slice none 0 0, .agg #[U4 0, I6 0, U4 0, I6 0], .iface 118 (I6 7)]) (fun a ha => ?_) ?_).1
     ·
      exact res_run ha ((ResR.tmp rfl (ResR.cell rfl (run_ld (aP.get 0 rfl) rfl) (ResR.tmp rfl ResR.nil)))) rfl
     clear hN hret hret' aO ao an ad af hK9 hK2
     have hE_ : grE xs vip dip now = 7 := by
      simp [grE, am, aa, aE, ab, aF, ae, a0, ak] <;> (try (intros; omega))
     have hL_ : grL xs vip dip now = ⟨0, 0, 0, 0⟩ := by simp [grL, hE_]
     have hX_ : grX xs vip dip now = [] := by simp [grX, hE_]
     rw [hE_, hL_, hX_]
     exact ⟨_, rfl, aP.fr, own_nil _ _ _ _⟩
    ·
     have a0 : ((xs.filter (ofP dip now)).length : Int) < 4 := by have q_ := of_decide_eq_false ak; omega
     refine WCf rfl (WC.skip (QXn (an _ _ (WCs (fun bO aB => WCg (WLq 3 [(43, I6 now), (42, U4 vip), (41, .slice A xs.length c)] (WLk (free_ct A c xs vip now bp (Rd.fr hr aq.fr) (checkL_good am) (by omega) (Rd.fr hg aq.fr)) ?_)))))))
     rintro _ bP ⟨rfl, a7⟩
     refine ⟨_, rfl, ?_⟩
     have aQ := aq.call a7
     refine WLz 5 [(13, .bool ((freeN xs vip now).isSome)), (12, I6 (freeF xs vip now))] (WLd rfl (QXn (aB _ _ (WCs (fun bQ aC => WCs (fun bR aD => WCg (WLz 2 [(48, .bool (!((freeN xs vip now).isSome)))] (WLd rfl (QXn (aD _ _ (WCa 48 (!((freeN xs vip now).isSome)) rfl (fun ag => ?_) (fun ag => ?_))))))))))))
     ·
      have a8 : ((freeN xs vip now).isSome) = false := by first | (simpa only [Bool.not_eq_true', Bool.not_eq_false'] using ag) | simpa using ag
      refine WCt rfl (WCs (fun bS aR => WCg (WLq 3 [(8, .slice none 0 0), (50, .iface 118 (I6 5)), (49, .agg #[U4 0, I6 0, U4 0, I6 0])] (WLv (c' := #[U4 0, I6 0, U4 0, I6 0]) aQ 0 50 g3 0 (.agg #[U4 0, I6 0, U4 0, I6 0]) (fun bT bs aS => WLq 1 [(10, .iface 118 (I6 5))] (WLd rfl (QXn (aR _ _ (WC.ret ?_)))))))))
      refine QXr ?_
      refine (hret' _ _ (.tuple #[.slice none 0 0, .agg #[U4 0, I6 0, U4 0, I6 0], .iface 118 (I6 5)]) (fun a ha => ?_) ?_).1
      ·
       exact res_run ha ((ResR.tmp rfl (ResR.cell rfl (run_ld (aS.get 0 rfl) rfl) (ResR.tmp rfl ResR.nil)))) rfl
      clear hN hret hret' aR aD aC aB ao an ad af hK9 hK2
      have hE_ : grE xs vip dip now = 5 := by
       simp [grE, am, aa, aE, ab, aF, ae, a0, ak, a8, ag] <;> (try (intros; omega))
      have hL_ : grL xs vip dip now = ⟨0, 0, 0, 0⟩ := by simp [grL, hE_]
      have hX_ : grX xs vip dip now = [] := by simp [grX, hE_]
      rw [hE_, hL_, hX_]
      exact ⟨_, rfl, aS.fr, own_nil _ _ _ _⟩
     ·
      have a8 : ((freeN xs vip now).isSome) = true := by first | (simpa only [Bool.not_eq_true', Bool.not_eq_false'] using ag) | simpa using ag
      refine WCf rfl (WC.skip (QXn (aC _ _ (WCs (fun bU aT => WCg (WLz 3 [(53, I6 (IntKind.i64.wrap (now + 64))), (51, I6 (freeF xs vip now))] (WLt (show (I6 (IntKind.i64.wrap (now + 64)) : Value) = I6 (now + 64) from by have q_ := goodTime_le aF; rw [wrap_in_i64 _ (by omega) (by omega)]) (WLq 1 [(54, P0 ar 1)] ?_))))))))
      refine WLv (c' := #[U4 vip, I6 (freeF xs vip now), U4 dip, I6 0]) aQ 1 3 ar 1 (I6 (freeF xs vip now)) (fun bV bt a9 => WLq 1 [(55, P0 ar 3)] ?_)
      refine WLv (c' := #[U4 vip, I6 (freeF xs vip now), U4 dip, I6 (now + 64)]) a9 1 3 ar 3 (I6 (now + 64)) (fun bu bd aU => WLd rfl (QXn (aT _ _ (WCs (fun bv au => WC.drawC aU [g3] (by kernel_rfl) (fun ba be ac ah => WDq 0 56 (.slice A xs.length c) ah (WDm 1 50 (P0 ar 0) (.agg #[U4 vip, I6 (freeF xs vip now), U4 dip, I6 (now + 64)]) 57 (fun _ hS_ => run_ld (Fr.has hS_ (ac.get 1 rfl) (by simpa using ac.ne 1 0 rfl rfl (by decide))) rfl) ah ?_)))))))
      refine WDm 3 50 (P0 ar 0) (.agg #[U4 vip, I6 (freeF xs vip now), U4 dip, I6 (now + 64)]) 59 (fun _ hS_ => run_ld (Fr.has hS_ (ac.get 1 rfl) (by simpa using ac.ne 1 0 rfl rfl (by decide))) rfl) ah (WDc 2 (with_ct A c xs (⟨vip, freeF xs vip now, dip, now + 64⟩ : Lease) ba (Rd.fr hr ac.fr) (checkL_sorted am) (by omega)) ?_)
      rintro _ bw ⟨v_, rfl, av, ai⟩
      have aw := ac.callN av (own_ge ai) (own_lt ai)
      obtain ⟨aV, aW, rfl, bb⟩ := own_form ai
      have aX := own_base (b' := 0) ai (fun _ _ => Nat.zero_le _)
      have aj := ah.trans av (by simp)
      refine ⟨_, rfl, aj, ?_⟩
      refine WDq 4 8 (.slice aV ((insL xs (⟨vip, freeF xs vip now, dip, now + 64⟩ : Lease)).length) aW) aj ?_
      obtain ⟨bx, aY, ax, al⟩ := sto_run (c' := #[U4 vip, I6 (freeF xs vip now), U4 dip, I6 (now + 64)]) Tryz.prog aw 0 50 g3 0 (.agg #[U4 vip, I6 (freeF xs vip now), U4 dip, I6 (now + 64)]) rfl (by kernel_rfl)
      have ay := aj.trans ax (by first | (simp; done) | (simp [*]; done) | (have q_ := aj.size; simp; omega))
      refine WDu 5 aY ay ?_
      have aZ := own_fr aX ax (aw.apartM 1 0 rfl rfl)
      refine WDq 6 10 (.nilIface) ay (WDd (QXn (au _ _ (WC.ret ?_))))
      refine (hret' _ _ (.tuple #[.slice aV ((insL xs (⟨vip, freeF xs vip now, dip, now + 64⟩ : Lease)).length) aW, .agg #[U4 vip, I6 (freeF xs vip now), U4 dip, I6 (now + 64)], .nilIface]) (fun a ha => ?_) ?_).1
      ·
       exact res_run ha ((ResR.tmp rfl (ResR.cell rfl (run_ld (al.get 0 rfl) rfl) (ResR.tmp rfl ResR.nil)))) rfl
      clear hN hret hret' au aT aD aC aB ao an ad af hK9 hK2
      have hE_ : grE xs vip dip now = 0 := by
       simp [grE, am, aa, aE, ab, aF, ae, a0, ak, a8, ag] <;> (try (intros; omega))
      have hL_ : grL xs vip dip now = (⟨vip, freeF xs vip now, dip, now + 64⟩ : Lease) := by simp [grL, hE_]
      have hX_ : grX xs vip dip now = insL xs (⟨vip, freeF xs vip now, dip, now + 64⟩ : Lease) := by rw [grX, if_pos hE_, hL_]
      rw [hE_, hL_, hX_]
      dsimp only
      exact ⟨_, rfl, al.fr, own_base aZ (al.geF 1 rfl)⟩

theorem Renew_ct (A : Option Addr) (c : Nat) (xs : List Lease) (vip first dip now : Int) (w : World) (hr : Rd w 4 encL A xs) (hwf : ∀ l ∈ xs, okL l) (hm : xs.length < 2 ^ 39) : Calls Tryz.prog 87 #[.slice A xs.length c, U4 vip, I6 first, U4 dip, I6 now] w fun e w' => ∃ v, e = .returned (.tuple #[v, .agg #[U4 ((rnL xs vip first dip now).vip), I6 ((rnL xs vip first dip now).first), U4 ((rnL xs vip first dip now).dip), I6 ((rnL xs vip first dip now).exp)], errV 118 (rnE xs vip first dip now)]) ∧ Fr w w' [] ∧ w'.ownsRow w.heap.size 50 4 v (rnX xs vip first dip now).length ((rnX xs vip first dip now).flatMap encL) := by
 refine enterD (n := 62) Tryz.func87 rfl rfl (Nat.le_of_ble_eq_true rfl) ?_
 intro Q0 hN hret hret'
 have hC := Cx.start w
 refine WCs (fun K1 hK2 => WCg (WLq 1 [(10, .slice none 0 0)] (WLb hC (.cells #[U4 0, I6 0, U4 0, I6 0] 50) 11 (fun g3 w4 hb7 hF5 hC6 => WLq 1 [(12, .nilIface)] (WLd rfl (QXn (hK2 _ _ (WCs (fun K8 hK9 => WCs (fun bt aj => ?_))))))))))
 refine WCg (WLq 1 [(15, .slice A xs.length c)] (WLk (LCheck_ct A c xs w4 (Rd.fr hr hC6.fr) hwf (by omega)) ?_))
 rintro _ bh ⟨rfl, a3⟩
 refine ⟨_, rfl, ?_⟩
 have aK := hC6.call a3
 have a4 : ∀ w_, Sem.run Tryz.prog (do eqGuard .neq 97 (Operand.tmp 16) (Operand.const (.nilIface)) (errV 118 (if checkL xs then 0 else 9)) (.nilIface); binOp .neq 97 (errV 118 (if checkL xs then 0 else 9)) (.nilIface)) w_ = .ok (.bool (!(checkL xs))) w_ := fun w_ => (err_neq _ (if checkL xs then 0 else 9) (checkL xs) (by cases checkL xs <;> rfl) _)
 refine WL.sem (do eqGuard .neq 97 (Operand.tmp 16) (Operand.const (.nilIface)) (errV 118 (if checkL xs then 0 else 9)) (.nilIface); binOp .neq 97 (errV 118 (if checkL xs then 0 else 9)) (.nilIface)) 17 (.bool (!(checkL xs))) (by kernel_rfl) (a4 _) (WLq 1 [(18, .bool (!(checkL xs)))] (WLa 18 (!(checkL xs)) rfl (fun ab => ?_) (fun ab => ?_)))
 ·
  have am : (checkL xs) = false := by first | (simpa only [Bool.not_eq_true', Bool.not_eq_false'] using ab) | simpa using ab
  refine WLz 4 [(22, .bool true)] (WLd rfl (QXn (aj _ _ (WCt rfl (WCs (fun bu aL => WCg (WLq 3 [(10, .slice none 0 0), (24, .iface 118 (I6 9)), (23, .agg #[U4 0, I6 0, U4 0, I6 0])] (WLv (c' := #[U4 0, I6 0, U4 0, I6 0]) aK 0 50 g3 0 (.agg #[U4 0, I6 0, U4 0, I6 0]) (fun bv bi aM => WLq 1 [(12, .iface 118 (I6 9))] (WLd rfl (QXn (aL _ _ ?_))))))))))))
  refine WC.ret (QXr ?_)
  refine (hret' _ _ (.tuple #[.slice none 0 0, .agg #[U4 0, I6 0, U4 0, I6 0], .iface 118 (I6 9)]) (fun a ha => ?_) ?_).1
  ·
   exact res_run ha ((ResR.tmp rfl (ResR.cell rfl (run_ld (aM.get 0 rfl) rfl) (ResR.tmp rfl ResR.nil)))) rfl
  clear hN hret hret' aL aj hK9 hK2
  have hE_ : rnE xs vip first dip now = 9 := by
   simp [rnE, am, ab] <;> (try (intros; omega))
  have hL_ : rnL xs vip first dip now = ⟨0, 0, 0, 0⟩ := by simp [rnL, hE_]
  have hX_ : rnX xs vip first dip now = [] := by simp [rnX, hE_]
  rw [hE_, hL_, hX_]
  exact ⟨_, rfl, aM.fr, own_nil _ _ _ _⟩
 ·
  have am : (checkL xs) = true := by first | (simpa only [Bool.not_eq_true', Bool.not_eq_false'] using ab) | simpa using ab
  refine WLq 1 [(19, I6 now)] (WLk (goodTime_ct now bh) ?_)
  rintro _ bw ⟨rfl, a5⟩
  refine ⟨_, rfl, ?_⟩
  have aN := aK.call a5
  refine WLz 2 [(22, .bool (!(goodTime now)))] (WLd rfl (QXn (aj _ _ (WCa 22 (!(goodTime now)) rfl (fun ac => ?_) (fun ac => ?_)))))
  ·
   have aq : (goodTime now) = false := by first | (simpa only [Bool.not_eq_true', Bool.not_eq_false'] using ac) | simpa using ac
   refine WCt rfl (WCs (fun bx aO => WCg (WLq 3 [(10, .slice none 0 0), (24, .iface 118 (I6 9)), (23, .agg #[U4 0, I6 0, U4 0, I6 0])] (WLv (c' := #[U4 0, I6 0, U4 0, I6 0]) aN 0 50 g3 0 (.agg #[U4 0, I6 0, U4 0, I6 0]) (fun bz bj aP => WLq 1 [(12, .iface 118 (I6 9))] (WLd rfl (QXn (aO _ _ (WC.ret ?_)))))))))
   refine QXr ?_
   refine (hret' _ _ (.tuple #[.slice none 0 0, .agg #[U4 0, I6 0, U4 0, I6 0], .iface 118 (I6 9)]) (fun a ha => ?_) ?_).1
   ·
    exact res_run ha ((ResR.tmp rfl (ResR.cell rfl (run_ld (aP.get 0 rfl) rfl) (ResR.tmp rfl ResR.nil)))) rfl
   clear hN hret hret' aO aj hK9 hK2
   have hE_ : rnE xs vip first dip now = 9 := by
    simp [rnE, am, ab, aq, ac] <;> (try (intros; omega))
   have hL_ : rnL xs vip first dip now = ⟨0, 0, 0, 0⟩ := by simp [rnL, hE_]
   have hX_ : rnX xs vip first dip now = [] := by simp [rnX, hE_]
   rw [hE_, hL_, hX_]
   exact ⟨_, rfl, aP.fr, own_nil _ _ _ _⟩
  ·
   have aq : (goodTime now) = true := by first | (simpa only [Bool.not_eq_true', Bool.not_eq_false'] using ac) | simpa using ac
   refine WCf rfl (WC.skip (QXn (hK9 _ _ (WCs (fun bA aD => WCs (fun bB aE => WCg (WLq 3 [(27, I6 0), (26, I6 (xs.length : Int)), (25, .slice A xs.length c)] (WLd rfl (QXn (aE _ _ (WC.block (WC.loop (fun m_ E_ w_ => ∃ (k : Nat), m_ = xs.length - k ∧ E_ = [(0, .slice A xs.length c), (1, U4 vip), (2, I6 first), (3, U4 dip), (4, I6 now), (11, P0 g3 0), (15, .slice A xs.length c), (16, errV 118 (if checkL xs then 0 else 9)), (17, .bool (!(checkL xs))), (18, .bool false), (19, I6 now), (20, .bool (goodTime now)), (22, .bool false), (25, .slice A xs.length c), (26, I6 (xs.length : Int)), (27, I6 (k : Int))] ∧ Cx w [] w_ [(g3, .cells #[U4 0, I6 0, U4 0, I6 0] 50)] [] ∧ (k ≤ xs.length ∧ (xs.take k).any (rnP vip first dip now) = false)) ⟨_, _, ⟨0, rfl, rfl, aN, Nat.zero_le _, rfl⟩, sub_of ⟨rfl, rfl, rfl, rfl, rfl, rfl, rfl, rfl, rfl, rfl, rfl, rfl, rfl, rfl, rfl, rfl, trivial⟩⟩ (fun m40 E_ bC bD ar a6 => ?_)))))))))))))
   obtain ⟨k, rfl, rfl, aF, hk, hany⟩ := a6
   refine WCs (fun bE aG => WCg (WLq 1 [(28, .bool (decide ((k : Int) < (xs.length : Int))))] (WLd rfl (QXn (aG _ _ (WCs (fun bF aH => WCa 28 (decide ((k : Int) < (xs.length : Int))) rfl (fun ad => ?_) (fun ad => ?_))))))))
   ·
    have ay : (k : Int) < (xs.length : Int) := by have q_ := of_decide_eq_true ad; omega
    refine WCt rfl (WC.skip (QXn (aH _ _ (WCs (fun bG an => WC.block (WCs (fun bH aQ => ?_)))))))
    refine WCg ?_
    obtain ⟨aa, ah⟩ := get_some (xs := xs) (i := k) (by omega)
    obtain ⟨b54, o56, a7, a8⟩ := hr.at_ _ _ ah
    have hok_e52 := hwf _ (List.mem_of_getElem? ah)
    refine WLi A xs.length c 29 .i64 (k : Int) b54 o56 k 4 (by kernel_rfl) a7 (by omega) (by omega) (o56 + k * 4) (by first | (simp; done) | omega) (WLo 50 (P0 b54 (o56 + k * 4)) (.agg #[U4 aa.vip, I6 aa.first, U4 aa.dip, I6 aa.exp]) 30 (run_rdN (l := [U4 aa.vip, I6 aa.first, U4 aa.dip, I6 aa.exp]) rfl rfl (fun j u hu => by have hq_ := aF.fr.cell (a8 j u hu) (by simp); simpa [Nat.add_assoc] using hq_)) (WLb aF (.cells #[U4 0, I6 0, U4 0, I6 0] 50) 14 (fun al bI bk bl a9 => WLv (c' := #[U4 aa.vip, I6 aa.first, U4 aa.dip, I6 aa.exp]) a9 1 50 al 0 (.agg #[U4 aa.vip, I6 aa.first, U4 aa.dip, I6 aa.exp]) (fun bm bn af => WLd rfl (QXn (aQ _ _ (WCs (fun bJ ao => ?_))))))))
    refine WCg (WLq 1 [(31, P0 al 0)] (WLo 40 (P0 al 0) (U4 aa.vip) 32 (run_ld (af.get 1 rfl) rfl) (WLz 3 [(35, .bool (aa.vip == vip))] (WLa 35 (aa.vip == vip) rfl (fun ae => ?_) (fun ae => ?_)))))
    ·
     have aI : aa.vip = vip := by simpa using ae
     refine WLq 1 [(36, P0 al 1)] (WLo 3 (P0 al 1) (I6 aa.first) 37 (run_ld (af.get 1 rfl) rfl) (WLz 4 [(41, .bool (aa.first == first))] (WLa 41 (aa.first == first) rfl (fun ag => ?_) (fun ag => ?_))))
     ·
      have aJ : aa.first = first := by simpa using ag
      refine WLq 1 [(42, P0 al 2)] (WLo 40 (P0 al 2) (U4 aa.dip) 43 (run_ld (af.get 1 rfl) rfl) (WLz 4 [(47, .bool (aa.dip == dip))] (WLa 47 (aa.dip == dip) rfl (fun ai => ?_) (fun ai => ?_))))
      ·
       have aR : aa.dip = dip := by simpa using ai
       refine WLo 50 (P0 al 0) (.agg #[U4 aa.vip, I6 aa.first, U4 aa.dip, I6 aa.exp]) 48 (run_ld (af.get 1 rfl) rfl) (WLq 1 [(49, I6 now)] (WLk (lives_ct aa now bm) ?_))
       rintro _ bK ⟨rfl, ba⟩
       refine ⟨_, rfl, ?_⟩
       have aS := af.call ba
       refine WLq 1 [(51, .bool (livesB aa now))] (WLd rfl (QXn (ao _ _ (WCa 51 (livesB aa now) rfl (fun au => ?_) (fun au => ?_)))))
       ·
        refine WCt rfl (WCs (fun bL aT => WCg (WLz 2 [(53, I6 (IntKind.i64.wrap (now + 64)))] (WLt (show (I6 (IntKind.i64.wrap (now + 64)) : Value) = I6 (now + 64) from by have q_ := goodTime_le aq; rw [wrap_in_i64 _ (by omega) (by omega)]) (WLq 1 [(54, P0 al 3)] ?_)))))
        refine WLv (c' := #[U4 aa.vip, I6 aa.first, U4 aa.dip, I6 (now + 64)]) aS 1 3 al 3 (I6 (now + 64)) (fun bM bo bb => WLd rfl (QXn (aT _ _ (WCs (fun bN aU => WC.drawC bb [g3] (by kernel_rfl) (fun bp bq ak av => WDq 0 55 (.slice A xs.length c) av (WDm 1 50 (P0 al 0) (.agg #[U4 aa.vip, I6 aa.first, U4 aa.dip, I6 (now + 64)]) 56 (fun _ hS_ => run_ld (Fr.has hS_ (ak.get 1 rfl) (by simpa using ak.ne 1 0 rfl rfl (by decide))) rfl) av ?_)))))))
        refine WDm 3 50 (P0 al 0) (.agg #[U4 aa.vip, I6 aa.first, U4 aa.dip, I6 (now + 64)]) 58 (fun _ hS_ => run_ld (Fr.has hS_ (ak.get 1 rfl) (by simpa using ak.ne 1 0 rfl rfl (by decide))) rfl) av (WDc 2 (with_ct A c xs (⟨aa.vip, aa.first, aa.dip, now + 64⟩ : Lease) bp (Rd.fr hr ak.fr) (checkL_sorted am) (by omega)) ?_)
        rintro _ bO ⟨v_, rfl, aV, aw⟩
        have aW := ak.callN aV (own_ge aw) (own_lt aw)
        obtain ⟨bd, be, rfl, bf⟩ := own_form aw
        have bc := own_base (b' := 0) aw (fun _ _ => Nat.zero_le _)
        have ax := av.trans aV (by simp)
        refine ⟨_, rfl, ax, ?_⟩
        refine WDq 4 10 (.slice bd ((insL xs (⟨aa.vip, aa.first, aa.dip, now + 64⟩ : Lease)).length) be) ax ?_
        obtain ⟨bP, aX, az, ap⟩ := sto_run (c' := #[U4 aa.vip, I6 aa.first, U4 aa.dip, I6 (now + 64)]) Tryz.prog aW 0 50 g3 0 (.agg #[U4 aa.vip, I6 aa.first, U4 aa.dip, I6 (now + 64)]) rfl (by kernel_rfl)
        have aA := ax.trans az (by first | (simp; done) | (simp [*]; done) | (have q_ := ax.size; simp; omega))
        refine WDu 5 aX aA ?_
        have aY := own_fr bc az (aW.apartM 0 0 rfl rfl)
        refine WDq 6 12 (.nilIface) aA (WDd (QXn (aU _ _ (WC.ret (QXk (QXr ?_))))))
        refine QXr (QXk (QXr ?_))
        refine (hret' _ _ (.tuple #[.slice bd ((insL xs (⟨aa.vip, aa.first, aa.dip, now + 64⟩ : Lease)).length) be, .agg #[U4 aa.vip, I6 aa.first, U4 aa.dip, I6 (now + 64)], .nilIface]) (fun a ha => ?_) ?_).1
        ·
         exact res_run ha ((ResR.tmp rfl (ResR.cell rfl (run_ld (ap.get 0 rfl) rfl) (ResR.tmp rfl ResR.nil)))) rfl
        clear hN hret hret' aU aT ao aQ an aH aG aE aD aj hK9 hK2
        have hrp_ : rnP vip first dip now aa = true := by simp [rnP, am, ab, aq, ac, ay, ad, aI, ae, aJ, ag, aR, ai, au]
        have hany_ := rn_hit ah hrp_
        obtain ⟨⟨⟨hrv_, hrf_⟩, hrd_⟩, hrl_⟩ : ((aa.vip = vip ∧ aa.first = first) ∧ aa.dip = dip) ∧ livesB aa now = true := by simpa [rnP] using hrp_
        have hE_ : rnE xs vip first dip now = 0 := by
         simp [rnE, am, ab, aq, ac, ay, ad, aI, ae, aJ, ag, aR, ai, au, hany_] <;> (try (intros; omega))
        have hL_ : rnL xs vip first dip now = (⟨aa.vip, aa.first, aa.dip, now + 64⟩ : Lease) := by simp [rnL, hE_, hrv_, hrf_, hrd_]
        have hX_ : rnX xs vip first dip now = insL xs (⟨aa.vip, aa.first, aa.dip, now + 64⟩ : Lease) := by rw [rnX, if_pos hE_, hL_]
        rw [hE_, hL_, hX_]
        dsimp only
        exact ⟨_, rfl, ap.fr, own_base aY (ap.geF 0 rfl)⟩
       ·
        refine WCf rfl (WC.skip (QXb (QXn (an _ _ (WCg (WLq 1 [(59, I6 (IntKind.i64.wrap ((k : Int) + 1)))] (WLt (show (I6 (IntKind.i64.wrap ((k : Int) + 1)) : Value) = I6 ((k : Int) + 1) from by rw [wrap_in_i64 ((k : Int) + 1) (by omega) (by omega)]) (WLq 1 [(27, I6 ((k : Int) + 1))] ?_))))))))
        refine WLd rfl (QXn ?_)
        have aZ := aS.pick [0] [] rfl rfl
        refine fun a_ ha_ => ar _ _ _ ?_ ⟨k + 1, rfl, rfl, aZ, by omega, rn_step ah hany (by simp [rnP, am, ab, aq, ac, ay, ad, aI, ae, aJ, ag, aR, ai, au])⟩ a_ (ha_.weaken (sub_of ⟨rfl, rfl, rfl, rfl, rfl, rfl, rfl, rfl, rfl, rfl, rfl, rfl, rfl, rfl, rfl, rfl, trivial⟩))
        omega
      ·
       have aR : ¬ (aa.dip = dip) := by simpa using ai
       refine WLz 4 [(51, .bool false), (50, undef)] (WLd rfl (QXn (ao _ _ (WCf rfl (WC.skip (QXb (QXn (an _ _ (WCg (WLq 1 [(59, I6 (IntKind.i64.wrap ((k : Int) + 1)))] (WLt (show (I6 (IntKind.i64.wrap ((k : Int) + 1)) : Value) = I6 ((k : Int) + 1) from by rw [wrap_in_i64 ((k : Int) + 1) (by omega) (by omega)]) ?_)))))))))))
       refine WLq 1 [(27, I6 ((k : Int) + 1))] (WLd rfl (QXn ?_))
       have a0 := af.pick [0] [] rfl rfl
       refine fun a_ ha_ => ar _ _ _ ?_ ⟨k + 1, rfl, rfl, a0, by omega, rn_step ah hany (by simp [rnP, am, ab, aq, ac, ay, ad, aI, ae, aJ, ag, aR, ai])⟩ a_ (ha_.weaken (sub_of ⟨rfl, rfl, rfl, rfl, rfl, rfl, rfl, rfl, rfl, rfl, rfl, rfl, rfl, rfl, rfl, rfl, trivial⟩))
       omega
     ·
      have aJ : ¬ (aa.first = first) := by simpa using ag
      refine WLz 10 [(51, .bool false), (50, undef)] (WLd rfl (QXn (ao _ _ (WCf rfl (WC.skip (QXb (QXn (an _ _ (WCg (WLq 1 [(59, I6 (IntKind.i64.wrap ((k : Int) + 1)))] (WLt (show (I6 (IntKind.i64.wrap ((k : Int) + 1)) : Value) = I6 ((k : Int) + 1) from by rw [wrap_in_i64 ((k : Int) + 1) (by omega) (by omega)]) ?_)))))))))))
      refine WLq 1 [(27, I6 ((k : Int) + 1))] (WLd rfl (QXn ?_))
      have a1 := af.pick [0] [] rfl rfl
      refine fun a_ ha_ => ar _ _ _ ?_ ⟨k + 1, rfl, rfl, a1, by omega, rn_step ah hany (by simp [rnP, am, ab, aq, ac, ay, ad, aI, ae, aJ, ag])⟩ a_ (ha_.weaken (sub_of ⟨rfl, rfl, rfl, rfl, rfl, rfl, rfl, rfl, rfl, rfl, rfl, rfl, rfl, rfl, rfl, rfl, trivial⟩))
      omega
    ·
     have aI : ¬ (aa.vip = vip) := by simpa using ae
     refine WLz 16 [(51, .bool false), (50, undef)] (WLd rfl (QXn (ao _ _ (WCf rfl (WC.skip (QXb (QXn (an _ _ (WCg (WLq 1 [(59, I6 (IntKind.i64.wrap ((k : Int) + 1)))] (WLt (show (I6 (IntKind.i64.wrap ((k : Int) + 1)) : Value) = I6 ((k : Int) + 1) from by rw [wrap_in_i64 ((k : Int) + 1) (by omega) (by omega)]) ?_)))))))))))
     refine WLq 1 [(27, I6 ((k : Int) + 1))] (WLd rfl (QXn ?_))
     have a2 := af.pick [0] [] rfl rfl
     refine fun a_ ha_ => ar _ _ _ ?_ ⟨k + 1, rfl, rfl, a2, by omega, rn_step ah hany (by simp [rnP, am, ab, aq, ac, ay, ad, aI, ae])⟩ a_ (ha_.weaken (sub_of ⟨rfl, rfl, rfl, rfl, rfl, rfl, rfl, rfl, rfl, rfl, rfl, rfl, rfl, rfl, rfl, rfl, trivial⟩))
     omega
   ·
    have ay : (xs.length : Int) ≤ (k : Int) := by have q_ := of_decide_eq_false ad; omega
    refine WCf rfl (WC.exit (QXe (QXe (QX.block_hit (QXn (aD _ _ ?_))))))
    refine WCs (fun br aB => WCg (WLq 3 [(10, .slice none 0 0), (61, .iface 118 (I6 6)), (60, .agg #[U4 0, I6 0, U4 0, I6 0])] (WLv (c' := #[U4 0, I6 0, U4 0, I6 0]) aF 0 50 g3 0 (.agg #[U4 0, I6 0, U4 0, I6 0]) (fun bs bg aC => WLq 1 [(12, .iface 118 (I6 6))] (WLd rfl (QXn (aB _ _ (WC.ret ?_))))))))
    refine (hret' _ _ (.tuple #[.slice none 0 0, .agg #[U4 0, I6 0, U4 0, I6 0], .iface 118 (I6 6)]) (fun a ha => ?_) ?_).1
    ·
     exact res_run ha ((ResR.tmp rfl (ResR.cell rfl (run_ld (aC.get 0 rfl) rfl) (ResR.tmp rfl ResR.nil)))) rfl
    clear hN hret hret' aB aH aG aE aD aj hK9 hK2
    have hany_ := rn_none (by omega) hany
    have hE_ : rnE xs vip first dip now = 6 := by
     simp [rnE, am, ab, aq, ac, ay, ad, hany_] <;> (try (intros; omega))
    have hL_ : rnL xs vip first dip now = ⟨0, 0, 0, 0⟩ := by simp [rnL, hE_]
    have hX_ : rnX xs vip first dip now = [] := by simp [rnX, hE_]
    rw [hE_, hL_, hX_]
    exact ⟨_, rfl, aC.fr, own_nil _ _ _ _⟩

end Go.Proofs.YtfligklljkcbfaaGreatDoor
