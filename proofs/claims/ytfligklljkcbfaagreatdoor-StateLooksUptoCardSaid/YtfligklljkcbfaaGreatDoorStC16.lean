/- Contracts of functions of the program, each proved by a walk through its code; conditions stand in the statements. -/
import Derived.Test.YtfligklljkcbfaaGreatDoorStB16
namespace Go.Proofs.YtfligklljkcbfaaGreatDoor
set_option linter.unusedSimpArgs false
set_option linter.unusedVariables false
set_option linter.unusedSectionVars false
open Go Go.RowKit Go.Tw
set_option linter.unusedVariables false
set_option maxRecDepth 20000
structure Lease where
  vip : Int
  first : Int
  dip : Int
  exp : Int
deriving DecidableEq
def encL (l : Lease) : List Value := [.int .u32 l.vip, .int .i64 l.first, .int .u32 l.dip, .int .i64 l.exp]
theorem encL_len (l : Lease) : (encL l).length = 4 := rfl
theorem encL_one (l : Lease) : (encL l).all Value.oneCell' = true := rfl
def okL (l : Lease) : Prop := 0 ≤ l.vip ∧ l.vip ≤ 4294967295 ∧ 0 ≤ l.dip ∧ l.dip ≤ 4294967295 ∧ -9223372036854775808 ≤ l.first ∧ l.first ≤ 9223372036854775807 ∧ -9223372036854775808 ≤ l.exp ∧ l.exp ≤ 9223372036854775807
def leaseCmp (a b : Lease) : Int := orI [cmpI a.vip b.vip, cmpI a.first b.first]
def livesB (l : Lease) (now : Int) : Bool := decide (now ≤ l.exp)
def goodBlock (f : Int) : Bool := decide (1024 ≤ f ∧ f ≤ 65528 ∧ (f - 1024) % 8 = 0)
def lgoodL (l : Lease) : Bool := isHome l.dip && isVip l.vip && goodBlock l.first && decide (0 ≤ l.exp) && decide (l.exp ≤ 1099511627840)
def goodTime (now : Int) : Bool := decide (0 ≤ now) && decide (now ≤ 1099511627776)
def checkFrom : Option Lease → List Lease → Bool
  | _, [] => true
  | p, x :: r => lgoodL x && (match p with | none => true | some y => decide (leaseCmp y x < 0)) && checkFrom (some x) r
def checkL (xs : List Lease) : Bool := checkFrom none xs
def prevOf (xs : List Lease) (k : Nat) : Option Lease := if k = 0 then none else xs[k - 1]?
theorem checkFrom_cons (p : Option Lease) (x : Lease) (r : List Lease) : checkFrom p (x :: r) = (lgoodL x && (match p with | none => true | some y => decide (leaseCmp y x < 0)) && checkFrom (some x) r) := by cases p <;> rfl
theorem check_step {xs : List Lease} {k : Nat} {x : Lease} (h : xs[k]? = some x) : checkFrom (prevOf xs k) (xs.drop k) = (lgoodL x && (match prevOf xs k with | none => true | some y => decide (leaseCmp y x < 0)) && checkFrom (prevOf xs (k + 1)) (xs.drop (k + 1))) := by
  obtain ⟨hk, rfl⟩ := List.getElem?_eq_some_iff.1 h
  rw [List.drop_eq_getElem_cons hk, checkFrom_cons]
  simp [prevOf, hk]
theorem check_end {xs : List Lease} {k : Nat} (h : xs.length ≤ k) (p : Option Lease) : checkFrom p (xs.drop k) = true := by
  rw [List.drop_of_length_le h]; rfl
theorem lives_ct (l : Lease) (now : Int) (w : World) : Calls Tryz.prog 122 #[.agg #[U4 l.vip, I6 l.first, U4 l.dip, I6 l.exp], I6 now] w fun e w' => e = .returned (.bool (livesB l now)) ∧ Fr w w' [] := by
 refine enterD (n := 9) Tryz.func122 rfl rfl (Nat.le_of_ble_eq_true rfl) ?_
 intro Q0 hN hret hret'
 have hC := Cx.start w
 refine WCs (fun K1 hK2 => WCg (WLb hC (.cells #[U4 l.vip, I6 l.first, U4 l.dip, I6 l.exp] 50) 2 (fun g3 w4 hb7 hF5 hC6 => WLq 1 [(4, .bool false)] (WLd rfl (QXn (hK2 _ _ (WCs (fun K8 hK9 => WCg (WLq 2 [(6, P0 g3 3), (5, I6 now)] ?_)))))))))
 refine WLo 3 (P0 g3 3) (I6 l.exp) 7 (run_ld (hC6.get 0 rfl) rfl) (WLz 2 [(4, .bool (decide (now ≤ l.exp)))] (WLd rfl (QXn (hK9 _ _ (WC.ret ?_)))))
 refine (hret _ _ _ rfl ?_).1
 exact ⟨by simp [shut, livesB], hC6.fr⟩

theorem goodTime_ct (now : Int) (w : World) : Calls Tryz.prog 125 #[I6 now] w fun e w' => e = .returned (.bool (goodTime now)) ∧ Fr w w' [] := by
 refine enterD (n := 9) Tryz.func125 rfl rfl (Nat.le_of_ble_eq_true rfl) ?_
 intro Q0 hN hret hret'
 have hC := Cx.start w
 refine WCs (fun K1 hK2 => WCg (WLq 1 [(2, .bool false)] (WLd rfl (QXn (hK2 _ _ (WCs (fun K3 hK4 => WCg (WLz 3 [(5, .bool (decide (now ≥ 0)))] (WLa 5 (decide (now ≥ 0)) rfl (fun t5b => ?_) (fun t5b => ?_))))))))))
 ·
  have t5 : (0 : Int) ≤ now := by have q_ := of_decide_eq_true t5b; omega
  refine WLz 4 [(2, .bool (decide (now ≤ 1099511627776)))] (WLd rfl (QXn (hK4 _ _ (WC.ret ?_))))
  refine (hret _ _ _ rfl ?_).1
  clear hN hret hret' hK4 hK2
  exact ⟨by simp [shut, goodTime]; try grind, hC.fr⟩
 ·
  have t5 : now < 0 := by have q_ := of_decide_eq_false t5b; omega
  refine WLz 4 [(2, .bool false)] (WLd rfl (QXn (hK4 _ _ (WC.ret ?_))))
  refine (hret _ _ _ rfl ?_).1
  clear hN hret hret' hK4 hK2
  exact ⟨by simp [shut, goodTime]; try grind, hC.fr⟩

theorem goodBlock_ct (f : Int) (w : World) : Calls Tryz.prog 153 #[I6 f] w fun e w' => e = .returned (.bool (goodBlock f)) ∧ Fr w w' [] := by
 refine enterD (n := 15) Tryz.func153 rfl rfl (Nat.le_of_ble_eq_true rfl) ?_
 intro Q0 hN hret hret'
 have hC := Cx.start w
 refine WCs (fun K1 hK2 => WCg (WLq 1 [(2, .bool false)] (WLd rfl (QXn (hK2 _ _ (WCs (fun K3 hK4 => WCg (WLz 3 [(5, .bool (decide (f ≥ 1024)))] (WLa 5 (decide (f ≥ 1024)) rfl (fun t5b => ?_) (fun t5b => ?_))))))))))
 ·
  have t5 : (1024 : Int) ≤ f := by have q_ := of_decide_eq_true t5b; omega
  refine WLz 4 [(9, .bool (decide (f ≤ 65528)))] (WLa 9 (decide (f ≤ 65528)) rfl (fun t6b => ?_) (fun t6b => ?_))
  ·
   have t6 : f ≤ 65528 := by have q_ := of_decide_eq_true t6b; omega
   refine WLz 2 [(11, I6 (IntKind.i64.wrap (f - 1024)))] (WLt (show (I6 (IntKind.i64.wrap (f - 1024)) : Value) = I6 (f - 1024) from by rw [wrap_in_i64 (f - 1024) (by omega) (by omega)]) (WLq 1 [(12, I6 (Int.tmod (f - 1024) 8))] (WLt (show (I6 (Int.tmod (f - 1024) 8) : Value) = I6 ((f - 1024) % 8) from by rw [Int.tmod_eq_emod_of_nonneg (by omega)]) (WLz 3 [(2, .bool (((f - 1024) % 8) == 0))] (WLd rfl (QXn (hK4 _ _ (WC.ret ?_))))))))
   refine (hret _ _ _ rfl ?_).1
   clear hN hret hret' hK4 hK2
   exact ⟨by simp [shut, goodBlock]; try grind, hC.fr⟩
  ·
   have t6 : (65528 : Int) < f := by have q_ := of_decide_eq_false t6b; omega
   refine WLz 6 [(2, .bool false)] (WLd rfl (QXn (hK4 _ _ (WC.ret ?_))))
   refine (hret _ _ _ rfl ?_).1
   clear hN hret hret' hK4 hK2
   exact ⟨by simp [shut, goodBlock]; try grind, hC.fr⟩
 ·
  have t5 : f < 1024 := by have q_ := of_decide_eq_false t5b; omega
  refine WLz 10 [(2, .bool false)] (WLd rfl (QXn (hK4 _ _ (WC.ret ?_))))
  refine (hret _ _ _ rfl ?_).1
  clear hN hret hret' hK4 hK2
  exact ⟨by simp [shut, goodBlock]; try grind, hC.fr⟩

theorem good_ct (l : Lease) (w : World) (hl : okL l) : Calls Tryz.prog 127 #[.agg #[U4 l.vip, I6 l.first, U4 l.dip, I6 l.exp]] w fun e w' => e = .returned (.bool (lgoodL l)) ∧ Fr w w' [] := by
 refine enterD (n := 34) Tryz.func127 rfl rfl (Nat.le_of_ble_eq_true rfl) ?_
 intro Q0 hN hret hret'
 obtain ⟨q1, q2, q3, q4, q5, q6, q7, q8⟩ := hl
 have hC := Cx.start w
 refine WCs (fun K1 hK2 => WCg (WLb hC (.cells #[U4 l.vip, I6 l.first, U4 l.dip, I6 l.exp] 50) 1 (fun g3 w4 hb7 hF5 hC6 => WLq 1 [(2, .bool false)] (WLd rfl (QXn (hK2 _ _ (WCs (fun K8 hK9 => WCg (WLq 1 [(7, P0 g3 2)] ?_)))))))))
 refine WLo 40 (P0 g3 2) (U4 l.dip) 8 (run_ld (hC6.get 0 rfl) rfl) (WLk (Home_ct l.dip w4 (by omega) (by omega)) ?_)
 rintro _ al ⟨rfl, af⟩
 refine ⟨_, rfl, ?_⟩
 have ac := hC6.call af
 refine WLz 7 [(5, .bool (isHome l.dip))] (WLd rfl (QXn (hK9 _ _ (WCs (fun ao aa => WCg (WLz 2 [(14, .bool (isHome l.dip))] (WLa 14 (isHome l.dip) rfl (fun ag => ?_) (fun ag => ?_))))))))
 ·
  refine WLq 1 [(15, P0 g3 0)] (WLo 40 (P0 g3 0) (U4 l.vip) 16 (run_ld (ac.get 0 rfl) rfl) (WLk (IsVip_ct l.vip al (by omega) (by omega)) ?_))
  rintro _ am ⟨rfl, ah⟩
  refine ⟨_, rfl, ?_⟩
  have ad := ac.call ah
  refine WLz 2 [(19, .bool (isVip l.vip))] (WLa 19 (isVip l.vip) rfl (fun ai => ?_) (fun ai => ?_))
  ·
   refine WLq 1 [(20, P0 g3 1)] (WLo 3 (P0 g3 1) (I6 l.first) 21 (run_ld (ad.get 0 rfl) rfl) (WLk (goodBlock_ct l.first am) ?_))
   rintro _ ap ⟨rfl, aj⟩
   refine ⟨_, rfl, ?_⟩
   have ab := ad.call aj
   refine WLz 2 [(24, .bool (goodBlock l.first))] (WLa 24 (goodBlock l.first) rfl (fun ak => ?_) (fun ak => ?_))
   ·
    refine WLq 1 [(25, P0 g3 3)] (WLo 3 (P0 g3 3) (I6 l.exp) 26 (run_ld (ab.get 0 rfl) rfl) (WLz 3 [(29, .bool (decide (l.exp ≥ 0)))] (WLa 29 (decide (l.exp ≥ 0)) rfl (fun ae => ?_) (fun ae => ?_))))
    ·
     have an : (0 : Int) ≤ l.exp := by have q_ := of_decide_eq_true ae; omega
     refine WLq 1 [(30, P0 g3 3)] (WLo 3 (P0 g3 3) (I6 l.exp) 31 (run_ld (ab.get 0 rfl) rfl) (WLz 3 [(2, .bool (decide (l.exp ≤ 1099511627840)))] (WLd rfl (QXn (aa _ _ (WC.ret ?_))))))
     refine (hret _ _ _ rfl ?_).1
     exact ⟨by simp [shut, lgoodL, *], ab.fr⟩
    ·
     have an : l.exp < 0 := by have q_ := of_decide_eq_false ae; omega
     refine WLz 5 [(2, .bool false)] (WLd rfl (QXn (aa _ _ (WC.ret ?_))))
     refine (hret _ _ _ rfl ?_).1
     exact ⟨by simp [shut, lgoodL, *], ab.fr⟩
   ·
    refine WLz 10 [(2, .bool false)] (WLd rfl (QXn (aa _ _ (WC.ret ?_))))
    refine (hret _ _ _ rfl ?_).1
    exact ⟨by simp [shut, lgoodL, *], ab.fr⟩
  ·
   refine WLz 15 [(2, .bool false)] (WLd rfl (QXn (aa _ _ (WC.ret ?_))))
   refine (hret _ _ _ rfl ?_).1
   exact ⟨by simp [shut, lgoodL, *], ad.fr⟩
 ·
  refine WLz 20 [(2, .bool false)] (WLd rfl (QXn (aa _ _ (WC.ret ?_))))
  refine (hret _ _ _ rfl ?_).1
  exact ⟨by simp [shut, lgoodL, *], ac.fr⟩

theorem leaseCmp_ct (a b : Lease) (w : World) : Calls Tryz.prog 149 #[.agg #[U4 a.vip, I6 a.first, U4 a.dip, I6 a.exp], .agg #[U4 b.vip, I6 b.first, U4 b.dip, I6 b.exp]] w fun e w' => e = .returned (I6 (leaseCmp a b)) ∧ Fr w w' [] := by
 refine enterD (n := 17) Tryz.func149 rfl rfl (Nat.le_of_ble_eq_true rfl) ?_
 intro Q0 hN hret hret'
 have hC := Cx.start w
 refine WCs (fun K1 hK2 => WCg (WLb hC (.cells #[U4 a.vip, I6 a.first, U4 a.dip, I6 a.exp] 50) 2 (fun g3 w4 hb7 hF5 hC6 => WLb hC6 (.cells #[U4 b.vip, I6 b.first, U4 b.dip, I6 b.exp] 50) 3 (fun g8 w9 au av al => WLq 1 [(4, I6 0)] (WLd rfl (QXn (hK2 _ _ (WCs (fun aC am => ?_)))))))))
 refine WC.drawC al [] (by kernel_rfl) (fun aw ax ab aa => WDx 4 [(0, 5, P0 g3 0), (2, 7, P0 g8 0), (5, 10, P0 g3 1), (7, 12, P0 g8 1)] aa (WDm 1 40 (P0 g3 0) (U4 a.vip) 6 (fun _ hS_ => run_ld (Fr.has hS_ (ab.get 0 rfl) (by simp)) rfl) aa (WDm 3 40 (P0 g8 0) (U4 b.vip) 8 (fun _ hS_ => run_ld (Fr.has hS_ (ab.get 1 rfl) (by simp)) rfl) aa (WDm 6 3 (P0 g3 1) (I6 a.first) 11 (fun _ hS_ => run_ld (Fr.has hS_ (ab.get 0 rfl) (by simp)) rfl) aa (WDm 8 3 (P0 g8 1) (I6 b.first) 13 (fun _ hS_ => run_ld (Fr.has hS_ (ab.get 1 rfl) (by simp)) rfl) aa ?_)))))
 refine WDc 4 (compare_api_Addr a.vip b.vip aw) ?_
 rintro _ ay ⟨rfl, ac⟩
 have ad := aa.trans ac (by simp)
 refine ⟨_, rfl, ad, ?_⟩
 have an := ab.call ac
 refine WDc 9 (compare_int a.first b.first ay) ?_
 rintro _ aD ⟨rfl, ae⟩
 have af := ad.trans ae (by simp)
 refine ⟨_, rfl, af, ?_⟩
 have ao := an.call ae
 refine WD.new 10 (fun b => .slice (some ⟨b, 0, none⟩) 2 2) (.cells #[I6 (cmpI a.vip b.vip), I6 (cmpI a.first b.first)] 3) (by kernel_rfl) rfl rfl rfl rfl rfl (fun _ => by kernel_rfl) (fun az aA ap aB ag aq => ?_)
 have ah := ao.callB ag ap aq
 have ai := af.trans ag (by simp)
 refine ⟨ai, ?_⟩
 refine WDc 11 (or_int (some ⟨az, 0, none⟩) 2 [cmpI a.vip b.vip, cmpI a.first b.first] aA (Rd.blk (ah.get 2 rfl) (encI_len _) rfl) (by simp)) ?_
 rintro _ aE ⟨rfl, aj⟩
 have ak := ai.trans aj (by simp)
 refine ⟨_, rfl, ak, ?_⟩
 have ar := ah.call aj
 refine WDq 12 4 (I6 (orI [cmpI a.vip b.vip, cmpI a.first b.first])) ak (WDd (QXn (am _ _ (WC.ret ?_))))
 refine (hret _ _ _ rfl ?_).1
 exact ⟨rfl, ar.fr⟩

theorem LCheck_ct (A : Option Addr) (c : Nat) (xs : List Lease) (w : World) (hr : Rd w 4 encL A xs) (hwf : ∀ l ∈ xs, okL l) (hm : xs.length < 2 ^ 50) : Calls Tryz.prog 124 #[.slice A xs.length c] w fun e w' => e = .returned (errV 118 (if checkL xs then 0 else 9)) ∧ Fr w w' [] := by
 refine enterD (n := 31) Tryz.func124 rfl rfl (Nat.le_of_ble_eq_true rfl) ?_
 intro Q0 hN hret hret'
 have hC := Cx.start w
 refine WCs (fun K1 hK2 => WCg (WLq 1 [(2, .nilIface)] (WLd rfl (QXn (hK2 _ _ (WCs (fun K3 hK4 => WCs (fun K5 hK6 => WCg (WLq 3 [(7, I6 0), (6, I6 (xs.length : Int)), (5, .slice A xs.length c)] (WLd rfl (QXn (hK6 _ _ (WC.block ?_)))))))))))))
 refine WC.loop (fun m_ E_ w_ => ∃ (k : Nat), m_ = xs.length - k ∧ E_ = [(0, .slice A xs.length c), (5, .slice A xs.length c), (6, I6 (xs.length : Int)), (7, I6 (k : Int))] ∧ Cx w [] w_ [] [] ∧ (k ≤ xs.length ∧ checkL xs = checkFrom (prevOf xs k) (xs.drop k))) ⟨_, _, ⟨0, rfl, rfl, hC, Nat.zero_le _, rfl⟩, sub_of ⟨rfl, rfl, rfl, rfl, trivial⟩⟩ (fun m10 E_ aU K7 hK8 hI9 => ?_)
 obtain ⟨k, rfl, rfl, ak, hk, hck⟩ := hI9
 refine WCs (fun aV al => WCg (WLq 1 [(8, .bool (decide ((k : Int) < (xs.length : Int))))] (WLd rfl (QXn (al _ _ (WCs (fun aW am => WCa 8 (decide ((k : Int) < (xs.length : Int))) rfl (fun an => ?_) (fun an => ?_))))))))
 ·
  have aK : (k : Int) < (xs.length : Int) := by have q_ := of_decide_eq_true an; omega
  refine WCt rfl (WC.skip (QXn (am _ _ (WCs (fun aX ag => WC.block (WCs (fun aY ao => ?_)))))))
  refine WCg (WLq 1 [(9, I6 (k : Int))] ?_)
  obtain ⟨ab, ad⟩ := get_some (xs := xs) (i := k) (by omega)
  obtain ⟨b24, o26, aA, aB⟩ := hr.at_ _ _ ad
  have hok_e22 := hwf _ (List.mem_of_getElem? ad)
  refine WLi A xs.length c 10 .i64 (k : Int) b24 o26 k 4 (by kernel_rfl) aA (by omega) (by omega) (o26 + k * 4) (by first | (simp; done) | omega) (WLo 50 (P0 b24 (o26 + k * 4)) (.agg #[U4 ab.vip, I6 ab.first, U4 ab.dip, I6 ab.exp]) 11 (run_rdN (l := [U4 ab.vip, I6 ab.first, U4 ab.dip, I6 ab.exp]) rfl rfl (fun j u hu => by have hq_ := ak.fr.cell (aB j u hu) (by simp); simpa [Nat.add_assoc] using hq_)) (WLb ak (.cells #[U4 0, I6 0, U4 0, I6 0] 50) 4 (fun aC aZ aL aM aD => WLq 1 [(3, I6 (k : Int))] (WLv (c' := #[U4 ab.vip, I6 ab.first, U4 ab.dip, I6 ab.exp]) aD 0 50 aC 0 (.agg #[U4 ab.vip, I6 ab.first, U4 ab.dip, I6 ab.exp]) (fun a0 aN aE => WLd rfl (QXn (ao _ _ ?_)))))))
  refine WCs (fun a1 ae => WC.drawC aE [] (by kernel_rfl) (fun aO aP ah au => WDm 0 50 (P0 aC 0) (.agg #[U4 ab.vip, I6 ab.first, U4 ab.dip, I6 ab.exp]) 12 (fun _ hS_ => run_ld (Fr.has hS_ (ah.get 0 rfl) (by simp)) rfl) au (WDc 1 (good_ct ab aO (by assumption)) ?_)))
  rintro _ aQ ⟨rfl, av⟩
  have aa := au.trans av (by simp)
  refine ⟨_, rfl, aa, ?_⟩
  have ap := ah.call av
  refine WDx 2 [(2, 14, .bool (!(lgoodL ab))), (3, 15, .bool (!(lgoodL ab)))] aa (WDa 15 (!(lgoodL ab)) rfl (fun af => ?_) (fun af => ?_))
  ·
   have aR : (lgoodL ab) = false := by first | (simpa only [Bool.not_eq_true', Bool.not_eq_false'] using af) | simpa using af
   refine WDx 13 [(4, 16, undef), (5, 17, undef), (6, 18, undef), (7, 19, undef), (8, 20, undef), (9, 21, undef), (10, 22, undef), (11, 23, undef), (12, 24, undef), (13, 25, undef), (14, 26, undef), (15, 27, undef), (16, 28, .bool true)] aa (WDd (QXn (ae _ _ (WCt rfl (WCs (fun a2 aw => WCg ?_))))))
   refine WLz 2 [(2, .iface 118 (I6 9))] (WLd rfl (QXn (aw _ _ (WC.ret (QXk (QXr (QXr (QXk ?_))))))))
   refine QXr ?_
   refine (hret _ _ _ rfl ?_).1
   clear hN hret hret' aw ae ao ag am al hK6 hK4 hK2
   refine ⟨?_, ap.fr⟩
   rw [hck, check_step ad]
   simp [shut, errV, *]; try grind
  ·
   have aR : (lgoodL ab) = true := by first | (simpa only [Bool.not_eq_true', Bool.not_eq_false'] using af) | simpa using af
   refine WDx 3 [(4, 16, I6 (k : Int)), (5, 17, .bool (decide ((k : Int) > 0))), (6, 18, .bool (decide ((k : Int) > 0)))] aa (WDa 18 (decide ((k : Int) > 0)) rfl (fun aq => ?_) (fun aq => ?_))
   ·
    have aS : (0 : Int) < (k : Int) := by have q_ := of_decide_eq_true aq; omega
    refine WDx 3 [(7, 19, .slice A xs.length c), (8, 20, I6 (k : Int)), (9, 21, I6 (IntKind.i64.wrap ((k : Int) - 1)))] aa (WD.recast (show (I6 (IntKind.i64.wrap ((k : Int) - 1)) : Value) = I6 ((k - 1 : Nat) : Int) from by rw [wrap_in_i64 _ (by omega) (by omega)]; congr 1; omega) ?_)
    obtain ⟨ac, ai⟩ := get_some (xs := xs) (i := (k - 1)) (by omega)
    obtain ⟨b53, o55, aF, aG⟩ := hr.at_ _ _ ai
    have hok_e51 := hwf _ (List.mem_of_getElem? ai)
    refine WDi (NPt (NPb (NPt (NPt (NPb (NPt hN)))))) 10 A xs.length c 22 .i64 ((k - 1 : Nat) : Int) b53 o55 (k - 1) 4 (by kernel_rfl) (by kernel_rfl) aF (by omega) (by omega) (o55 + (k - 1) * 4) (by first | (simp; done) | omega) aa (WDm 11 50 (P0 b53 (o55 + (k - 1) * 4)) (.agg #[U4 ac.vip, I6 ac.first, U4 ac.dip, I6 ac.exp]) 23 (fun _ hS_ => run_rdN (l := [U4 ac.vip, I6 ac.first, U4 ac.dip, I6 ac.exp]) rfl rfl (fun j u hu => by have hq_ := Fr.cell hS_ (ah.fr.cell (aG j u hu) (by simp)) (by simp); simpa [Nat.add_assoc] using hq_)) aa (WDm 12 50 (P0 aC 0) (.agg #[U4 ab.vip, I6 ab.first, U4 ab.dip, I6 ab.exp]) 24 (fun _ hS_ => run_ld (Fr.has hS_ (ah.get 0 rfl) (by simp)) rfl) aa (WDc 13 (leaseCmp_ct ac ab aQ) ?_)))
    rintro _ a3 ⟨rfl, ax⟩
    have aj := aa.trans ax (by simp)
    refine ⟨_, rfl, aj, ?_⟩
    have ay := ap.call ax
    refine WDx 3 [(14, 26, .bool (decide ((leaseCmp ac ab) ≥ 0))), (15, 27, .bool (decide ((leaseCmp ac ab) ≥ 0))), (16, 28, .bool (decide ((leaseCmp ac ab) ≥ 0)))] aj (WDd (QXn (ae _ _ (WCa 28 (decide ((leaseCmp ac ab) ≥ 0)) rfl (fun ar => ?_) (fun ar => ?_)))))
    ·
     have aT : (0 : Int) ≤ (leaseCmp ac ab) := by have q_ := of_decide_eq_true ar; omega
     refine WCt rfl (WCs (fun a4 az => WCg (WLz 2 [(2, .iface 118 (I6 9))] (WLd rfl (QXn (az _ _ (WC.ret (QXk ?_))))))))
     refine QXr (QXr (QXk (QXr ?_)))
     refine (hret _ _ _ rfl ?_).1
     clear hN hret hret' az ae ao ag am al hK6 hK4 hK2
     refine ⟨?_, ay.fr⟩
     rw [hck, check_step ad]
     rw [show prevOf xs k = some ac from by simp [prevOf, ai]; omega]
     simp [shut, errV, *]; try grind
    ·
     have aT : (leaseCmp ac ab) < 0 := by have q_ := of_decide_eq_false ar; omega
     refine WCf rfl (WC.skip (QXb (QXn (ag _ _ (WCg (WLq 1 [(30, I6 (IntKind.i64.wrap ((k : Int) + 1)))] (WLt (show (I6 (IntKind.i64.wrap ((k : Int) + 1)) : Value) = I6 ((k : Int) + 1) from by rw [wrap_in_i64 ((k : Int) + 1) (by omega) (by omega)]) (WLq 1 [(7, I6 ((k : Int) + 1))] ?_))))))))
     refine WLd rfl (QXn ?_)
     have aH := ay.pick [] [] rfl rfl
     refine fun a_ ha_ => hK8 _ _ _ ?_ ⟨k + 1, rfl, rfl, aH, by omega, by rw [hck, check_step ad, show prevOf xs k = some ac from by simp [prevOf, ai]; omega]; simp [*]; try grind⟩ a_ (ha_.weaken (sub_of ⟨rfl, rfl, rfl, rfl, trivial⟩))
     omega
   ·
    have aS : (k : Int) ≤ 0 := by have q_ := of_decide_eq_false aq; omega
    refine WDx 10 [(7, 19, undef), (8, 20, undef), (9, 21, undef), (10, 22, undef), (11, 23, undef), (12, 24, undef), (13, 25, undef), (14, 26, undef), (15, 27, .bool false), (16, 28, .bool false)] aa (WDd (QXn (ae _ _ (WCf rfl (WC.skip (QXb (QXn (ag _ _ ?_))))))))
    refine WCg (WLq 1 [(30, I6 (IntKind.i64.wrap ((k : Int) + 1)))] (WLt (show (I6 (IntKind.i64.wrap ((k : Int) + 1)) : Value) = I6 ((k : Int) + 1) from by rw [wrap_in_i64 ((k : Int) + 1) (by omega) (by omega)]) (WLq 1 [(7, I6 ((k : Int) + 1))] (WLd rfl (QXn ?_)))))
    have aI := ap.pick [] [] rfl rfl
    refine fun a_ ha_ => hK8 _ _ _ ?_ ⟨k + 1, rfl, rfl, aI, by omega, by rw [hck, check_step ad, show prevOf xs k = none from by simp [prevOf]; omega]; simp [*]⟩ a_ (ha_.weaken (sub_of ⟨rfl, rfl, rfl, rfl, trivial⟩))
    omega
 ·
  have aK : (xs.length : Int) ≤ (k : Int) := by have q_ := of_decide_eq_false an; omega
  refine WCf rfl (WC.exit (QXe (QXe (QX.block_hit (QXn (hK4 _ _ ?_))))))
  refine WCs (fun a5 aJ => WCg (WLq 1 [(2, .nilIface)] (WLd rfl (QXn (aJ _ _ (WC.ret ?_))))))
  refine (hret _ _ _ rfl ?_).1
  exact ⟨by rw [hck, check_end (by omega)]; rfl, ak.fr⟩

end Go.Proofs.YtfligklljkcbfaaGreatDoor
