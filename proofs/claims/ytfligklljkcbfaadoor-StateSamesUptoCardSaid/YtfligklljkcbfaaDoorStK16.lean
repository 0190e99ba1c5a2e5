/- Contracts of functions of the program, each proved by a walk through its code; conditions stand in the statements. -/
import Derived.Test.YtfligklljkcbfaaDoorStJ16
namespace Go.Proofs.YtfligklljkcbfaaDoor
set_option linter.unusedSimpArgs false
set_option linter.unusedVariables false
set_option linter.unusedSectionVars false
open Go Go.RowKit Go.Tw
set_option linter.unusedVariables false
set_option maxRecDepth 20000
def grE (xs : List Lease) (vip dip now : Int) : Int := if checkL xs && lgoodL ⟨vip, 1024, dip, 0⟩ && goodTime now then (if 4 ≤ (xs.filter (ofP dip now)).length then 7 else if (freeN xs vip now).isSome then 0 else 5) else 9
def grL (xs : List Lease) (vip dip now : Int) : Lease := if grE xs vip dip now = 0 then ⟨vip, freeF xs vip now, dip, now + 64⟩ else ⟨0, 0, 0, 0⟩
def grX (xs : List Lease) (vip dip now : Int) : List Lease := if grE xs vip dip now = 0 then insL xs (grL xs vip dip now) else []
def rnP (vip first dip now : Int) (l : Lease) : Bool := decide (l.vip = vip) && decide (l.first = first) && decide (l.dip = dip) && livesB l now
def rnE (xs : List Lease) (vip first dip now : Int) : Int := if checkL xs && goodTime now then (if xs.any (rnP vip first dip now) then 0 else 6) else 9
def rnL (xs : List Lease) (vip first dip now : Int) : Lease := if rnE xs vip first dip now = 0 then ⟨vip, first, dip, now + 64⟩ else ⟨0, 0, 0, 0⟩
def rnX (xs : List Lease) (vip first dip now : Int) : List Lease := if rnE xs vip first dip now = 0 then insL xs (rnL xs vip first dip now) else []
theorem goodTime_le {now : Int} (h : goodTime now = true) : 0 ≤ now ∧ now ≤ 1099511627776 := by simpa [goodTime] using h
theorem rn_none {xs : List Lease} {vip first dip now : Int} {k : Nat} (hk : xs.length ≤ k) (h : (xs.take k).any (rnP vip first dip now) = false) : xs.any (rnP vip first dip now) = false := by rwa [List.take_of_length_le hk] at h
theorem rn_step {xs : List Lease} {k : Nat} {x : Lease} {vip first dip now : Int} (hx : xs[k]? = some x) (h : (xs.take k).any (rnP vip first dip now) = false) (hp : rnP vip first dip now x = false) : (xs.take (k + 1)).any (rnP vip first dip now) = false := by
  obtain ⟨hk, rfl⟩ := List.getElem?_eq_some_iff.1 hx
  rw [List.take_succ_eq_append_getElem hk, List.any_append, h]; simpa using hp
theorem rn_hit {xs : List Lease} {k : Nat} {x : Lease} {vip first dip now : Int} (hx : xs[k]? = some x) (hp : rnP vip first dip now x = true) : xs.any (rnP vip first dip now) = true := List.any_eq_true.2 ⟨x, List.mem_of_getElem? hx, hp⟩
theorem Grant_ct (A : Option Addr) (c : Nat) (xs : List Lease) (vip dip now : Int) (w : World) (hr : Rd w 4 encL A xs) (hwf : ∀ l ∈ xs, okL l) (hm : xs.length < 2 ^ 39) (hvip : 0 ≤ vip ∧ vip ≤ 4294967295) (hdip : 0 ≤ dip ∧ dip ≤ 4294967295) (hg : Rd w 1 (encI .u8) (some ⟨0, 0, none⟩) dbTab) : Calls Tryd.prog 70 #[.slice A xs.length c, .int .u32 vip, .int .u32 dip, .int .i64 now] w fun e w' => ∃ v, e = .returned (.tuple #[v, .agg #[.int .u32 ((grL xs vip dip now).vip), .int .i64 ((grL xs vip dip now).first), .int .u32 ((grL xs vip dip now).dip), .int .i64 ((grL xs vip dip now).exp)], errV 73 (grE xs vip dip now)]) ∧ Fr w w' [] ∧ w'.ownsRow w.heap.size 43 4 v (grX xs vip dip now).length ((grX xs vip dip now).flatMap encL) := by
 refine enterD (n := 60) Tryd.func70 rfl rfl (Nat.le_of_ble_eq_true rfl) ?_
 intro Q0 hN hret hret'
 have hC := Cx.start w
 refine WCs (fun K1 hK2 => ?_)
 refine WCg (WLr 1 [(8, .slice none 0 0)] (fun _ => by kernel_rfl) ?_)
 refine WL.newM hC (fun b => .pointer (some ⟨b, 0, none⟩)) (.cells #[.int .u32 0, .int .i64 0, .int .u32 0, .int .i64 0] 43) 9 (fun _ => by kernel_rfl) (fun g3 w4 hb7 hF5 hC6 => ?_)
 refine WLr 1 [(10, .nilIface)] (fun _ => by kernel_rfl) (WLd rfl (QXn (hK2 _ _ ?_)))
 refine WCs (fun K8 hK9 => ?_)
 refine WCg (WLr 3 [(16, .agg #[.int .u32 vip, .int .i64 1024, .int .u32 dip, .int .i64 0]), (15, .int .u32 dip), (14, .int .u32 vip)] (fun _ => by kernel_rfl) ?_)
 refine WL.newM hC6 (fun b => .pointer (some ⟨b, 0, none⟩)) (.cells #[.int .u32 0, .int .i64 0, .int .u32 0, .int .i64 0] 43) 11 (fun _ => by kernel_rfl) (fun g10 w11 hb14 hF12 hC13 => ?_)
 refine WLs (c' := #[.int .u32 vip, .int .i64 1024, .int .u32 dip, .int .i64 0]) hC13 1 43 g10 0 (.agg #[.int .u32 vip, .int .i64 1024, .int .u32 dip, .int .i64 0]) (by kernel_rfl) rfl (by kernel_rfl) (fun w15 hF17 hC18 => ?_)
 refine WLd rfl (QXn (hK9 _ _ ?_))
 refine WCs (fun K19 hK20 => ?_)
 refine WCs (fun K21 hK22 => ?_)
 refine WCg (WLr 1 [(17, .slice A xs.length c)] (fun _ => by kernel_rfl) ?_)
 refine WLc rfl rfl rfl rfl rfl (by kernel_rfl) (LCheck_ct A c xs w15 (Rd.fr hr hC18.fr) hwf (by omega)) ?_
 rintro _ w24 ⟨rfl, hF23⟩
 refine ⟨_, rfl, ?_⟩
 have hC25 := hC18.call hF23
 have hr26 : ∀ w_, Sem.run Tryd.prog (do eqGuard .neq 38 (Operand.tmp 18) (Operand.const (.nilIface)) (errV 73 (if checkL xs then 0 else 9)) (.nilIface); binOp .neq 38 (errV 73 (if checkL xs then 0 else 9)) (.nilIface)) w_ = .ok (.bool (!(checkL xs))) w_ := fun w_ => (err_neq _ (if checkL xs then 0 else 9) (checkL xs) (by cases checkL xs <;> rfl) _)
 refine WL.sem (do eqGuard .neq 38 (Operand.tmp 18) (Operand.const (.nilIface)) (errV 73 (if checkL xs then 0 else 9)) (.nilIface); binOp .neq 38 (errV 73 (if checkL xs then 0 else 9)) (.nilIface)) 19 (.bool (!(checkL xs))) (by kernel_rfl) (hr26 _) ?_
 refine WLr 1 [(20, .bool (!(checkL xs)))] (fun _ => by kernel_rfl) ?_
 refine WLa 20 (!(checkL xs)) rfl (fun t27b => ?_) (fun t27b => ?_)
 ·
  have t27 : (checkL xs) = false := by first | (simpa only [Bool.not_eq_true', Bool.not_eq_false'] using t27b) | simpa using t27b
  refine WLr 9 [(29, .bool true), (28, undef), (27, undef), (26, undef), (25, .bool true), (24, .bool true), (23, undef), (22, undef), (21, undef)] (fun _ => by kernel_rfl) (WLd rfl (QXn (hK22 _ _ ?_)))
  refine WCt rfl ?_
  refine WCs (fun K28 hK29 => ?_)
  refine WCg (WLr 3 [(8, .slice none 0 0), (31, .iface 73 (.int .i64 9)), (30, .agg #[.int .u32 0, .int .i64 0, .int .u32 0, .int .i64 0])] (fun _ => by kernel_rfl) ?_)
  refine WLs (c' := #[.int .u32 0, .int .i64 0, .int .u32 0, .int .i64 0]) hC25 0 43 g3 0 (.agg #[.int .u32 0, .int .i64 0, .int .u32 0, .int .i64 0]) (by kernel_rfl) rfl (by kernel_rfl) (fun w30 hF32 hC33 => ?_)
  refine WLr 1 [(10, .iface 73 (.int .i64 9))] (fun _ => by kernel_rfl) (WLd rfl (QXn (hK29 _ _ ?_)))
  refine WC.ret ?_
  refine QXr ?_
  refine (hret' _ _ (.tuple #[.slice none 0 0, .agg #[.int .u32 0, .int .i64 0, .int .u32 0, .int .i64 0], .iface 73 (.int .i64 9)]) (fun a ha => ?_) ?_).1
  ·
   exact res_run ha ((ResR.tmp rfl (ResR.cell rfl (run_ld (hC33.get 0 rfl) rfl) (ResR.tmp rfl ResR.nil)))) rfl
  clear hN hret hret' hK29 hK22 hK20 hK9 hK2
  have hE_ : grE xs vip dip now = 9 := by
   simp [grE, t27, t27b] <;> (try (intros; omega))
  have hL_ : grL xs vip dip now = ⟨0, 0, 0, 0⟩ := by simp [grL, hE_]
  have hX_ : grX xs vip dip now = [] := by simp [grX, hE_]
  rw [hE_, hL_, hX_]
  exact ⟨_, rfl, hC33.fr, own_nil _ _ _ _⟩
 ·
  have t27 : (checkL xs) = true := by first | (simpa only [Bool.not_eq_true', Bool.not_eq_false'] using t27b) | simpa using t27b
  refine WL.load 43 (.pointer (some ⟨g10, 0, none⟩)) (.agg #[.int .u32 vip, .int .i64 1024, .int .u32 dip, .int .i64 0]) 21 (by kernel_rfl) (run_ld (hC25.get 1 rfl) rfl) ?_
  refine WLc rfl rfl rfl rfl rfl (by kernel_rfl) (good_ct (⟨vip, 1024, dip, 0⟩ : Lease) w24 (by simp only [okL]; omega)) ?_
  rintro _ w35 ⟨rfl, hF34⟩
  refine ⟨_, rfl, ?_⟩
  have hC36 := hC25.call hF34
  refine WLr 3 [(25, .bool (!(lgoodL (⟨vip, 1024, dip, 0⟩ : Lease)))), (24, .bool (!(lgoodL (⟨vip, 1024, dip, 0⟩ : Lease)))), (23, .bool (!(lgoodL (⟨vip, 1024, dip, 0⟩ : Lease))))] (fun _ => by kernel_rfl) ?_
  refine WLa 25 (!(lgoodL (⟨vip, 1024, dip, 0⟩ : Lease))) rfl (fun t37b => ?_) (fun t37b => ?_)
  ·
   have t37 : (lgoodL (⟨vip, 1024, dip, 0⟩ : Lease)) = false := by first | (simpa only [Bool.not_eq_true', Bool.not_eq_false'] using t37b) | simpa using t37b
   refine WLr 4 [(29, .bool true), (28, undef), (27, undef), (26, undef)] (fun _ => by kernel_rfl) (WLd rfl (QXn (hK22 _ _ ?_)))
   refine WCt rfl ?_
   refine WCs (fun K38 hK39 => ?_)
   refine WCg (WLr 3 [(8, .slice none 0 0), (31, .iface 73 (.int .i64 9)), (30, .agg #[.int .u32 0, .int .i64 0, .int .u32 0, .int .i64 0])] (fun _ => by kernel_rfl) ?_)
   refine WLs (c' := #[.int .u32 0, .int .i64 0, .int .u32 0, .int .i64 0]) hC36 0 43 g3 0 (.agg #[.int .u32 0, .int .i64 0, .int .u32 0, .int .i64 0]) (by kernel_rfl) rfl (by kernel_rfl) (fun w40 hF42 hC43 => ?_)
   refine WLr 1 [(10, .iface 73 (.int .i64 9))] (fun _ => by kernel_rfl) (WLd rfl (QXn (hK39 _ _ ?_)))
   refine WC.ret ?_
   refine QXr ?_
   refine (hret' _ _ (.tuple #[.slice none 0 0, .agg #[.int .u32 0, .int .i64 0, .int .u32 0, .int .i64 0], .iface 73 (.int .i64 9)]) (fun a ha => ?_) ?_).1
   ·
    exact res_run ha ((ResR.tmp rfl (ResR.cell rfl (run_ld (hC43.get 0 rfl) rfl) (ResR.tmp rfl ResR.nil)))) rfl
   clear hN hret hret' hK39 hK22 hK20 hK9 hK2
   have hE_ : grE xs vip dip now = 9 := by
    simp [grE, t27, t27b, t37, t37b] <;> (try (intros; omega))
   have hL_ : grL xs vip dip now = ⟨0, 0, 0, 0⟩ := by simp [grL, hE_]
   have hX_ : grX xs vip dip now = [] := by simp [grX, hE_]
   rw [hE_, hL_, hX_]
   exact ⟨_, rfl, hC43.fr, own_nil _ _ _ _⟩
  ·
   have t37 : (lgoodL (⟨vip, 1024, dip, 0⟩ : Lease)) = true := by first | (simpa only [Bool.not_eq_true', Bool.not_eq_false'] using t37b) | simpa using t37b
   refine WLr 1 [(26, .int .i64 now)] (fun _ => by kernel_rfl) ?_
   refine WLc rfl rfl rfl rfl rfl (by kernel_rfl) (goodTime_ct now w35) ?_
   rintro _ w45 ⟨rfl, hF44⟩
   refine ⟨_, rfl, ?_⟩
   have hC46 := hC36.call hF44
   refine WLr 2 [(29, .bool (!(goodTime now))), (28, .bool (!(goodTime now)))] (fun _ => by kernel_rfl) (WLd rfl (QXn (hK22 _ _ ?_)))
   refine WCa 29 (!(goodTime now)) rfl (fun t47b => ?_) (fun t47b => ?_)
   ·
    have t47 : (goodTime now) = false := by first | (simpa only [Bool.not_eq_true', Bool.not_eq_false'] using t47b) | simpa using t47b
    refine WCt rfl ?_
    refine WCs (fun K48 hK49 => ?_)
    refine WCg (WLr 3 [(8, .slice none 0 0), (31, .iface 73 (.int .i64 9)), (30, .agg #[.int .u32 0, .int .i64 0, .int .u32 0, .int .i64 0])] (fun _ => by kernel_rfl) ?_)
    refine WLs (c' := #[.int .u32 0, .int .i64 0, .int .u32 0, .int .i64 0]) hC46 0 43 g3 0 (.agg #[.int .u32 0, .int .i64 0, .int .u32 0, .int .i64 0]) (by kernel_rfl) rfl (by kernel_rfl) (fun w50 hF52 hC53 => ?_)
    refine WLr 1 [(10, .iface 73 (.int .i64 9))] (fun _ => by kernel_rfl) (WLd rfl (QXn (hK49 _ _ ?_)))
    refine WC.ret ?_
    refine QXr ?_
    refine (hret' _ _ (.tuple #[.slice none 0 0, .agg #[.int .u32 0, .int .i64 0, .int .u32 0, .int .i64 0], .iface 73 (.int .i64 9)]) (fun a ha => ?_) ?_).1
    ·
     exact res_run ha ((ResR.tmp rfl (ResR.cell rfl (run_ld (hC53.get 0 rfl) rfl) (ResR.tmp rfl ResR.nil)))) rfl
    clear hN hret hret' hK49 hK22 hK20 hK9 hK2
    have hE_ : grE xs vip dip now = 9 := by
     simp [grE, t27, t27b, t37, t37b, t47, t47b] <;> (try (intros; omega))
    have hL_ : grL xs vip dip now = ⟨0, 0, 0, 0⟩ := by simp [grL, hE_]
    have hX_ : grX xs vip dip now = [] := by simp [grX, hE_]
    rw [hE_, hL_, hX_]
    exact ⟨_, rfl, hC53.fr, own_nil _ _ _ _⟩
   ·
    have t47 : (goodTime now) = true := by first | (simpa only [Bool.not_eq_true', Bool.not_eq_false'] using t47b) | simpa using t47b
    refine WCf rfl (WC.skip (QXn (hK20 _ _ ?_)))
    refine WCs (fun K54 hK55 => ?_)
    refine WCs (fun K56 hK57 => ?_)
    refine WCg (WLr 3 [(34, .int .i64 now), (33, .int .u32 dip), (32, .slice A xs.length c)] (fun _ => by kernel_rfl) ?_)
    refine WLc rfl rfl rfl rfl rfl (by kernel_rfl) (Of_ct A c xs dip now w45 (Rd.fr hr hC46.fr) hwf (by first | omega | simp)) ?_
    rintro _ w60 ⟨v_, rfl, hF59, ho58⟩
    have hC61 := hC46.callN hF59 (own_ge ho58) (own_lt ho58)
    obtain ⟨A62, c63, rfl, hle64⟩ := own_form ho58
    have ho66 := own_base (b' := 0) ho58 (fun _ _ => Nat.zero_le _)
    refine ⟨_, rfl, ?_⟩
    refine WLr 2 [(37, .bool (decide (((xs.filter (ofP dip now)).length : Int) ≥ 4))), (36, .int .i64 ((xs.filter (ofP dip now)).length : Int))] (fun _ => by kernel_rfl) (WLd rfl (QXn (hK57 _ _ ?_)))
    refine WCa 37 (decide (((xs.filter (ofP dip now)).length : Int) ≥ 4)) rfl (fun t68b => ?_) (fun t68b => ?_)
    ·
     have t68 : (4 : Int) ≤ ((xs.filter (ofP dip now)).length : Int) := by have q_ := of_decide_eq_true t68b; omega
     refine WCt rfl ?_
     refine WCs (fun K69 hK70 => ?_)
     refine WCg (WLr 3 [(8, .slice none 0 0), (39, .iface 73 (.int .i64 7)), (38, .agg #[.int .u32 0, .int .i64 0, .int .u32 0, .int .i64 0])] (fun _ => by kernel_rfl) ?_)
     refine WLs (c' := #[.int .u32 0, .int .i64 0, .int .u32 0, .int .i64 0]) hC61 0 43 g3 0 (.agg #[.int .u32 0, .int .i64 0, .int .u32 0, .int .i64 0]) (by kernel_rfl) rfl (by kernel_rfl) (fun w71 hF73 hC74 => ?_)
     refine WLr 1 [(10, .iface 73 (.int .i64 7))] (fun _ => by kernel_rfl) (WLd rfl (QXn (hK70 _ _ ?_)))
     refine WC.ret ?_
     refine QXr ?_
     refine (hret' _ _ (.tuple #[.slice none 0 0, .agg #[.int .u32 0, .int .i64 0, .int .u32 0, .int .i64 0], .iface 73 (.int .i64 7)]) (fun a ha => ?_) ?_).1
     ·
      exact res_run ha ((ResR.tmp rfl (ResR.cell rfl (run_ld (hC74.get 0 rfl) rfl) (ResR.tmp rfl ResR.nil)))) rfl
     clear hN hret hret' hK70 hK57 hK55 hK22 hK20 hK9 hK2
     have hE_ : grE xs vip dip now = 7 := by
      simp [grE, t27, t27b, t37, t37b, t47, t47b, t68, t68b] <;> (try (intros; omega))
     have hL_ : grL xs vip dip now = ⟨0, 0, 0, 0⟩ := by simp [grL, hE_]
     have hX_ : grX xs vip dip now = [] := by simp [grX, hE_]
     rw [hE_, hL_, hX_]
     exact ⟨_, rfl, hC74.fr, own_nil _ _ _ _⟩
    ·
     have t68 : ((xs.filter (ofP dip now)).length : Int) < 4 := by have q_ := of_decide_eq_false t68b; omega
     refine WCf rfl (WC.skip (QXn (hK55 _ _ ?_)))
     refine WCs (fun K76 hK77 => ?_)
     refine WCg (WLr 3 [(43, .int .i64 now), (42, .int .u32 vip), (41, .slice A xs.length c)] (fun _ => by kernel_rfl) ?_)
     refine WLc rfl rfl rfl rfl rfl (by kernel_rfl) (free_ct A c xs vip now w60 (Rd.fr hr hC61.fr) (checkL_good t27) (by omega) (Rd.fr hg hC61.fr)) ?_
     rintro _ w79 ⟨rfl, hF78⟩
     refine ⟨_, rfl, ?_⟩
     have hC80 := hC61.call hF78
     refine WLr 5 [(13, .bool ((freeN xs vip now).isSome)), (12, .int .i64 (freeF xs vip now)), (46, .bool ((freeN xs vip now).isSome)), (45, .int .i64 (freeF xs vip now)), (40, .tuple #[.int .i64 (freeF xs vip now), .bool ((freeN xs vip now).isSome)])] (fun _ => by kernel_rfl) (WLd rfl (QXn (hK77 _ _ ?_)))
     refine WCs (fun K82 hK83 => ?_)
     refine WCs (fun K84 hK85 => ?_)
     refine WCg (WLr 2 [(48, .bool (!((freeN xs vip now).isSome))), (47, .bool ((freeN xs vip now).isSome))] (fun _ => by kernel_rfl) (WLd rfl (QXn (hK85 _ _ ?_))))
     refine WCa 48 (!((freeN xs vip now).isSome)) rfl (fun t86b => ?_) (fun t86b => ?_)
     ·
      have t86 : ((freeN xs vip now).isSome) = false := by first | (simpa only [Bool.not_eq_true', Bool.not_eq_false'] using t86b) | simpa using t86b
      refine WCt rfl ?_
      refine WCs (fun K87 hK88 => ?_)
      refine WCg (WLr 3 [(8, .slice none 0 0), (50, .iface 73 (.int .i64 5)), (49, .agg #[.int .u32 0, .int .i64 0, .int .u32 0, .int .i64 0])] (fun _ => by kernel_rfl) ?_)
      refine WLs (c' := #[.int .u32 0, .int .i64 0, .int .u32 0, .int .i64 0]) hC80 0 43 g3 0 (.agg #[.int .u32 0, .int .i64 0, .int .u32 0, .int .i64 0]) (by kernel_rfl) rfl (by kernel_rfl) (fun w89 hF91 hC92 => ?_)
      refine WLr 1 [(10, .iface 73 (.int .i64 5))] (fun _ => by kernel_rfl) (WLd rfl (QXn (hK88 _ _ ?_)))
      refine WC.ret ?_
      refine QXr ?_
      refine (hret' _ _ (.tuple #[.slice none 0 0, .agg #[.int .u32 0, .int .i64 0, .int .u32 0, .int .i64 0], .iface 73 (.int .i64 5)]) (fun a ha => ?_) ?_).1
      ·
       exact res_run ha ((ResR.tmp rfl (ResR.cell rfl (run_ld (hC92.get 0 rfl) rfl) (ResR.tmp rfl ResR.nil)))) rfl
      clear hN hret hret' hK88 hK85 hK83 hK77 hK57 hK55 hK22 hK20 hK9 hK2
      have hE_ : grE xs vip dip now = 5 := by
       simp [grE, t27, t27b, t37, t37b, t47, t47b, t68, t68b, t86, t86b] <;> (try (intros; omega))
      have hL_ : grL xs vip dip now = ⟨0, 0, 0, 0⟩ := by simp [grL, hE_]
      have hX_ : grX xs vip dip now = [] := by simp [grX, hE_]
      rw [hE_, hL_, hX_]
      exact ⟨_, rfl, hC92.fr, own_nil _ _ _ _⟩
     ·
      have t86 : ((freeN xs vip now).isSome) = true := by first | (simpa only [Bool.not_eq_true', Bool.not_eq_false'] using t86b) | simpa using t86b
      refine WCf rfl (WC.skip (QXn (hK83 _ _ ?_)))
      refine WCs (fun K94 hK95 => ?_)
      refine WCg (WLr 3 [(53, .int .i64 (IntKind.i64.wrap (now + 64))), (52, .int .i64 now), (51, .int .i64 (freeF xs vip now))] (fun _ => by kernel_rfl) ?_)
      refine WLt (show (.int .i64 (IntKind.i64.wrap (now + 64)) : Value) = .int .i64 (now + 64) from by have q_ := goodTime_le t47; rw [wrap_in_i64 _ (by omega) (by omega)]) ?_
      refine WLr 1 [(54, .pointer (some ⟨g10, 1, none⟩))] (fun _ => by kernel_rfl) ?_
      refine WLs (c' := #[.int .u32 vip, .int .i64 (freeF xs vip now), .int .u32 dip, .int .i64 0]) hC80 1 3 g10 1 (.int .i64 (freeF xs vip now)) (by kernel_rfl) rfl (by kernel_rfl) (fun w96 hF98 hC99 => ?_)
      refine WLr 1 [(55, .pointer (some ⟨g10, 3, none⟩))] (fun _ => by kernel_rfl) ?_
      refine WLs (c' := #[.int .u32 vip, .int .i64 (freeF xs vip now), .int .u32 dip, .int .i64 (now + 64)]) hC99 1 3 g10 3 (.int .i64 (now + 64)) (by kernel_rfl) rfl (by kernel_rfl) (fun w101 hF103 hC104 => ?_)
      refine WLd rfl (QXn (hK95 _ _ ?_))
      refine WCs (fun K106 hK107 => ?_)
      refine WC.drawC hC104 [g3] (by kernel_rfl) (fun w108 hF109 hC110 hS111 => ?_)
      refine WDp (NPt hN) 0 56 (.slice A xs.length c) (by kernel_rfl) (fun _ => by kernel_rfl) hS111 ?_
      refine WDl (NPt hN) 1 43 (.pointer (some ⟨g10, 0, none⟩)) (.agg #[.int .u32 vip, .int .i64 (freeF xs vip now), .int .u32 dip, .int .i64 (now + 64)]) 57 (by kernel_rfl) (by kernel_rfl) (fun _ hS_ => run_ld (Fr.has hS_ (hC110.get 1 rfl) (by simpa using hC110.ne 1 0 rfl rfl (by decide))) rfl) hS111 ?_
      refine WDl (NPt hN) 3 43 (.pointer (some ⟨g10, 0, none⟩)) (.agg #[.int .u32 vip, .int .i64 (freeF xs vip now), .int .u32 dip, .int .i64 (now + 64)]) 59 (by kernel_rfl) (by kernel_rfl) (fun _ hS_ => run_ld (Fr.has hS_ (hC110.get 1 rfl) (by simpa using hC110.ne 1 0 rfl rfl (by decide))) rfl) hS111 ?_
      refine WD.call 2 (by kernel_rfl) rfl rfl rfl rfl rfl (by kernel_rfl) (with_ct A c xs (⟨vip, freeF xs vip now, dip, now + 64⟩ : Lease) w108 (Rd.fr hr hC110.fr) (checkL_sorted t27) (by omega)) ?_
      rintro _ w115 ⟨v_, rfl, hF114, ho113⟩
      have hC116 := hC110.callN hF114 (own_ge ho113) (own_lt ho113)
      obtain ⟨A117, c118, rfl, hle119⟩ := own_form ho113
      have ho121 := own_base (b' := 0) ho113 (fun _ _ => Nat.zero_le _)
      have hS122 := hS111.trans hF114 (by simp)
      refine ⟨_, rfl, hS122, ?_⟩
      refine WDp (NPt hN) 4 8 (.slice A117 ((insL xs (⟨vip, freeF xs vip now, dip, now + 64⟩ : Lease)).length) c118) (by kernel_rfl) (fun _ => by kernel_rfl) hS122 ?_
      obtain ⟨w125, hr126, hF127, hC128⟩ := sto_run (c' := #[.int .u32 vip, .int .i64 (freeF xs vip now), .int .u32 dip, .int .i64 (now + 64)]) Tryd.prog hC116 0 43 g3 0 (.agg #[.int .u32 vip, .int .i64 (freeF xs vip now), .int .u32 dip, .int .i64 (now + 64)]) rfl (by kernel_rfl)
      have hS129 := hS122.trans hF127 (by first | (simp; done) | (simp [*]; done) | (have q_ := hS122.size; simp; omega))
      refine WD.semU 5 (Instr.storeAt 43 (.pointer (some ⟨g3, 0, none⟩)) (.agg #[.int .u32 vip, .int .i64 (freeF xs vip now), .int .u32 dip, .int .i64 (now + 64)])) (by kernel_rfl) (by kernel_rfl) hr126 hS129 ?_
      have ho131 := own_fr ho121 hF127 (hC116.apartM 1 0 rfl rfl)
      refine WDp (NPt hN) 6 10 (.nilIface) (by kernel_rfl) (fun _ => by kernel_rfl) hS129 ?_
      refine WD.done (by kernel_rfl) ?_
      refine QXn (hK107 _ _ ?_)
      refine WC.ret ?_
      refine (hret' _ _ (.tuple #[.slice A117 ((insL xs (⟨vip, freeF xs vip now, dip, now + 64⟩ : Lease)).length) c118, .agg #[.int .u32 vip, .int .i64 (freeF xs vip now), .int .u32 dip, .int .i64 (now + 64)], .nilIface]) (fun a ha => ?_) ?_).1
      ·
       exact res_run ha ((ResR.tmp rfl (ResR.cell rfl (run_ld (hC128.get 0 rfl) rfl) (ResR.tmp rfl ResR.nil)))) rfl
      clear hN hret hret' hK107 hK95 hK85 hK83 hK77 hK57 hK55 hK22 hK20 hK9 hK2
      have hE_ : grE xs vip dip now = 0 := by
       simp [grE, t27, t27b, t37, t37b, t47, t47b, t68, t68b, t86, t86b] <;> (try (intros; omega))
      have hL_ : grL xs vip dip now = (⟨vip, freeF xs vip now, dip, now + 64⟩ : Lease) := by simp [grL, hE_]
      have hX_ : grX xs vip dip now = insL xs (⟨vip, freeF xs vip now, dip, now + 64⟩ : Lease) := by rw [grX, if_pos hE_, hL_]
      rw [hE_, hL_, hX_]
      dsimp only
      exact ⟨_, rfl, hC128.fr, own_base ho131 (hC128.geF 1 rfl)⟩

theorem Renew_ct (A : Option Addr) (c : Nat) (xs : List Lease) (vip first dip now : Int) (w : World) (hr : Rd w 4 encL A xs) (hwf : ∀ l ∈ xs, okL l) (hm : xs.length < 2 ^ 39) : Calls Tryd.prog 69 #[.slice A xs.length c, .int .u32 vip, .int .i64 first, .int .u32 dip, .int .i64 now] w fun e w' => ∃ v, e = .returned (.tuple #[v, .agg #[.int .u32 ((rnL xs vip first dip now).vip), .int .i64 ((rnL xs vip first dip now).first), .int .u32 ((rnL xs vip first dip now).dip), .int .i64 ((rnL xs vip first dip now).exp)], errV 73 (rnE xs vip first dip now)]) ∧ Fr w w' [] ∧ w'.ownsRow w.heap.size 43 4 v (rnX xs vip first dip now).length ((rnX xs vip first dip now).flatMap encL) := by
 refine enterD (n := 62) Tryd.func69 rfl rfl (Nat.le_of_ble_eq_true rfl) ?_
 intro Q0 hN hret hret'
 have hC := Cx.start w
 refine WCs (fun K1 hK2 => ?_)
 refine WCg (WLr 1 [(10, .slice none 0 0)] (fun _ => by kernel_rfl) ?_)
 refine WL.newM hC (fun b => .pointer (some ⟨b, 0, none⟩)) (.cells #[.int .u32 0, .int .i64 0, .int .u32 0, .int .i64 0] 43) 11 (fun _ => by kernel_rfl) (fun g3 w4 hb7 hF5 hC6 => ?_)
 refine WLr 1 [(12, .nilIface)] (fun _ => by kernel_rfl) (WLd rfl (QXn (hK2 _ _ ?_)))
 refine WCs (fun K8 hK9 => ?_)
 refine WCs (fun K10 hK11 => ?_)
 refine WCg (WLr 1 [(15, .slice A xs.length c)] (fun _ => by kernel_rfl) ?_)
 refine WLc rfl rfl rfl rfl rfl (by kernel_rfl) (LCheck_ct A c xs w4 (Rd.fr hr hC6.fr) hwf (by omega)) ?_
 rintro _ w13 ⟨rfl, hF12⟩
 refine ⟨_, rfl, ?_⟩
 have hC14 := hC6.call hF12
 have hr15 : ∀ w_, Sem.run Tryd.prog (do eqGuard .neq 38 (Operand.tmp 16) (Operand.const (.nilIface)) (errV 73 (if checkL xs then 0 else 9)) (.nilIface); binOp .neq 38 (errV 73 (if checkL xs then 0 else 9)) (.nilIface)) w_ = .ok (.bool (!(checkL xs))) w_ := fun w_ => (err_neq _ (if checkL xs then 0 else 9) (checkL xs) (by cases checkL xs <;> rfl) _)
 refine WL.sem (do eqGuard .neq 38 (Operand.tmp 16) (Operand.const (.nilIface)) (errV 73 (if checkL xs then 0 else 9)) (.nilIface); binOp .neq 38 (errV 73 (if checkL xs then 0 else 9)) (.nilIface)) 17 (.bool (!(checkL xs))) (by kernel_rfl) (hr15 _) ?_
 refine WLr 1 [(18, .bool (!(checkL xs)))] (fun _ => by kernel_rfl) ?_
 refine WLa 18 (!(checkL xs)) rfl (fun t16b => ?_) (fun t16b => ?_)
 ·
  have t16 : (checkL xs) = false := by first | (simpa only [Bool.not_eq_true', Bool.not_eq_false'] using t16b) | simpa using t16b
  refine WLr 4 [(22, .bool true), (21, undef), (20, undef), (19, undef)] (fun _ => by kernel_rfl) (WLd rfl (QXn (hK11 _ _ ?_)))
  refine WCt rfl ?_
  refine WCs (fun K17 hK18 => ?_)
  refine WCg (WLr 3 [(10, .slice none 0 0), (24, .iface 73 (.int .i64 9)), (23, .agg #[.int .u32 0, .int .i64 0, .int .u32 0, .int .i64 0])] (fun _ => by kernel_rfl) ?_)
  refine WLs (c' := #[.int .u32 0, .int .i64 0, .int .u32 0, .int .i64 0]) hC14 0 43 g3 0 (.agg #[.int .u32 0, .int .i64 0, .int .u32 0, .int .i64 0]) (by kernel_rfl) rfl (by kernel_rfl) (fun w19 hF21 hC22 => ?_)
  refine WLr 1 [(12, .iface 73 (.int .i64 9))] (fun _ => by kernel_rfl) (WLd rfl (QXn (hK18 _ _ ?_)))
  refine WC.ret ?_
  refine QXr ?_
  refine (hret' _ _ (.tuple #[.slice none 0 0, .agg #[.int .u32 0, .int .i64 0, .int .u32 0, .int .i64 0], .iface 73 (.int .i64 9)]) (fun a ha => ?_) ?_).1
  ·
   exact res_run ha ((ResR.tmp rfl (ResR.cell rfl (run_ld (hC22.get 0 rfl) rfl) (ResR.tmp rfl ResR.nil)))) rfl
  clear hN hret hret' hK18 hK11 hK9 hK2
  have hE_ : rnE xs vip first dip now = 9 := by
   simp [rnE, t16, t16b] <;> (try (intros; omega))
  have hL_ : rnL xs vip first dip now = ⟨0, 0, 0, 0⟩ := by simp [rnL, hE_]
  have hX_ : rnX xs vip first dip now = [] := by simp [rnX, hE_]
  rw [hE_, hL_, hX_]
  exact ⟨_, rfl, hC22.fr, own_nil _ _ _ _⟩
 ·
  have t16 : (checkL xs) = true := by first | (simpa only [Bool.not_eq_true', Bool.not_eq_false'] using t16b) | simpa using t16b
  refine WLr 1 [(19, .int .i64 now)] (fun _ => by kernel_rfl) ?_
  refine WLc rfl rfl rfl rfl rfl (by kernel_rfl) (goodTime_ct now w13) ?_
  rintro _ w24 ⟨rfl, hF23⟩
  refine ⟨_, rfl, ?_⟩
  have hC25 := hC14.call hF23
  refine WLr 2 [(22, .bool (!(goodTime now))), (21, .bool (!(goodTime now)))] (fun _ => by kernel_rfl) (WLd rfl (QXn (hK11 _ _ ?_)))
  refine WCa 22 (!(goodTime now)) rfl (fun t26b => ?_) (fun t26b => ?_)
  ·
   have t26 : (goodTime now) = false := by first | (simpa only [Bool.not_eq_true', Bool.not_eq_false'] using t26b) | simpa using t26b
   refine WCt rfl ?_
   refine WCs (fun K27 hK28 => ?_)
   refine WCg (WLr 3 [(10, .slice none 0 0), (24, .iface 73 (.int .i64 9)), (23, .agg #[.int .u32 0, .int .i64 0, .int .u32 0, .int .i64 0])] (fun _ => by kernel_rfl) ?_)
   refine WLs (c' := #[.int .u32 0, .int .i64 0, .int .u32 0, .int .i64 0]) hC25 0 43 g3 0 (.agg #[.int .u32 0, .int .i64 0, .int .u32 0, .int .i64 0]) (by kernel_rfl) rfl (by kernel_rfl) (fun w29 hF31 hC32 => ?_)
   refine WLr 1 [(12, .iface 73 (.int .i64 9))] (fun _ => by kernel_rfl) (WLd rfl (QXn (hK28 _ _ ?_)))
   refine WC.ret ?_
   refine QXr ?_
   refine (hret' _ _ (.tuple #[.slice none 0 0, .agg #[.int .u32 0, .int .i64 0, .int .u32 0, .int .i64 0], .iface 73 (.int .i64 9)]) (fun a ha => ?_) ?_).1
   ·
    exact res_run ha ((ResR.tmp rfl (ResR.cell rfl (run_ld (hC32.get 0 rfl) rfl) (ResR.tmp rfl ResR.nil)))) rfl
   clear hN hret hret' hK28 hK11 hK9 hK2
   have hE_ : rnE xs vip first dip now = 9 := by
    simp [rnE, t16, t16b, t26, t26b] <;> (try (intros; omega))
   have hL_ : rnL xs vip first dip now = ⟨0, 0, 0, 0⟩ := by simp [rnL, hE_]
   have hX_ : rnX xs vip first dip now = [] := by simp [rnX, hE_]
   rw [hE_, hL_, hX_]
   exact ⟨_, rfl, hC32.fr, own_nil _ _ _ _⟩
  ·
   have t26 : (goodTime now) = true := by first | (simpa only [Bool.not_eq_true', Bool.not_eq_false'] using t26b) | simpa using t26b
   refine WCf rfl (WC.skip (QXn (hK9 _ _ ?_)))
   refine WCs (fun K33 hK34 => ?_)
   refine WCs (fun K35 hK36 => ?_)
   refine WCg (WLr 3 [(27, .int .i64 0), (26, .int .i64 (xs.length : Int)), (25, .slice A xs.length c)] (fun _ => by kernel_rfl) (WLd rfl (QXn (hK36 _ _ ?_))))
   refine WC.block ?_
   refine WC.loop (fun m_ E_ w_ => ∃ (k : Nat), m_ = xs.length - k ∧ E_ = [(0, .slice A xs.length c), (1, .int .u32 vip), (2, .int .i64 first), (3, .int .u32 dip), (4, .int .i64 now), (11, .pointer (some ⟨g3, 0, none⟩)), (15, .slice A xs.length c), (16, errV 73 (if checkL xs then 0 else 9)), (17, .bool (!(checkL xs))), (18, .bool false), (19, .int .i64 now), (20, .bool (goodTime now)), (21, .bool (!(goodTime now))), (22, .bool false), (25, .slice A xs.length c), (26, .int .i64 (xs.length : Int)), (27, .int .i64 (k : Int))] ∧ Cx w [] w_ [(g3, .cells #[.int .u32 0, .int .i64 0, .int .u32 0, .int .i64 0] 43)] [] ∧ (k ≤ xs.length ∧ (xs.take k).any (rnP vip first dip now) = false)) ⟨_, _, ⟨0, rfl, rfl, hC25, Nat.zero_le _, rfl⟩, sub_of ⟨rfl, rfl, rfl, rfl, rfl, rfl, rfl, rfl, rfl, rfl, rfl, rfl, rfl, rfl, rfl, rfl, rfl, trivial⟩⟩ (fun m40 E_ w41 K37 hK38 hI39 => ?_)
   obtain ⟨k, rfl, rfl, hC42, hk, hany⟩ := hI39
   refine WCs (fun K43 hK44 => ?_)
   refine WCg (WLr 1 [(28, .bool (decide ((k : Int) < (xs.length : Int))))] (fun _ => by kernel_rfl) (WLd rfl (QXn (hK44 _ _ ?_))))
   refine WCs (fun K45 hK46 => ?_)
   refine WCa 28 (decide ((k : Int) < (xs.length : Int))) rfl (fun t47b => ?_) (fun t47b => ?_)
   ·
    have t47 : (k : Int) < (xs.length : Int) := by have q_ := of_decide_eq_true t47b; omega
    refine WCt rfl ?_
    refine WC.skip ?_
    refine QXn (hK46 _ _ ?_)
    refine WCs (fun K48 hK49 => ?_)
    refine WC.block ?_
    refine WCs (fun K50 hK51 => ?_)
    refine WCg ?_
    obtain ⟨e52, he53⟩ := get_some (xs := xs) (i := k) (by omega)
    obtain ⟨b54, o56, hA55, hc57⟩ := hr.at_ _ _ he53
    have hok_e52 := hwf _ (List.mem_of_getElem? he53)
    refine WLi A xs.length c 29 .i64 (k : Int) b54 o56 k 4 (by kernel_rfl) hA55 (by omega) (by omega) (o56 + k * 4) (by first | (simp; done) | omega) ?_
    refine WL.load 43 (.pointer (some ⟨b54, o56 + k * 4, none⟩)) (.agg #[.int .u32 e52.vip, .int .i64 e52.first, .int .u32 e52.dip, .int .i64 e52.exp]) 30 (by kernel_rfl) (run_rdN (l := [.int .u32 e52.vip, .int .i64 e52.first, .int .u32 e52.dip, .int .i64 e52.exp]) rfl rfl (fun j u hu => by have hq_ := hC42.fr.cell (hc57 j u hu) (by simp); simpa [Nat.add_assoc] using hq_)) ?_
    refine WL.newM hC42 (fun b => .pointer (some ⟨b, 0, none⟩)) (.cells #[.int .u32 0, .int .i64 0, .int .u32 0, .int .i64 0] 43) 14 (fun _ => by kernel_rfl) (fun g58 w59 hb62 hF60 hC61 => ?_)
    refine WLs (c' := #[.int .u32 e52.vip, .int .i64 e52.first, .int .u32 e52.dip, .int .i64 e52.exp]) hC61 1 43 g58 0 (.agg #[.int .u32 e52.vip, .int .i64 e52.first, .int .u32 e52.dip, .int .i64 e52.exp]) (by kernel_rfl) rfl (by kernel_rfl) (fun w63 hF65 hC66 => ?_)
    refine WLd rfl (QXn (hK51 _ _ ?_))
    refine WCs (fun K67 hK68 => ?_)
    refine WCg (WLr 1 [(31, .pointer (some ⟨g58, 0, none⟩))] (fun _ => by kernel_rfl) ?_)
    refine WL.load 41 (.pointer (some ⟨g58, 0, none⟩)) (.int .u32 e52.vip) 32 (by kernel_rfl) (run_ld (hC66.get 1 rfl) rfl) ?_
    refine WLr 3 [(35, .bool (e52.vip == vip)), (34, .bool (e52.vip == vip)), (33, .int .u32 vip)] (fun _ => by kernel_rfl) ?_
    refine WLa 35 (e52.vip == vip) rfl (fun t69b => ?_) (fun t69b => ?_)
    ·
     have t69 : e52.vip = vip := by simpa using t69b
     refine WLr 1 [(36, .pointer (some ⟨g58, 1, none⟩))] (fun _ => by kernel_rfl) ?_
     refine WL.load 3 (.pointer (some ⟨g58, 1, none⟩)) (.int .i64 e52.first) 37 (by kernel_rfl) (run_ld (hC66.get 1 rfl) rfl) ?_
     refine WLr 4 [(41, .bool (e52.first == first)), (40, .bool (e52.first == first)), (39, .bool (e52.first == first)), (38, .int .i64 first)] (fun _ => by kernel_rfl) ?_
     refine WLa 41 (e52.first == first) rfl (fun t70b => ?_) (fun t70b => ?_)
     ·
      have t70 : e52.first = first := by simpa using t70b
      refine WLr 1 [(42, .pointer (some ⟨g58, 2, none⟩))] (fun _ => by kernel_rfl) ?_
      refine WL.load 41 (.pointer (some ⟨g58, 2, none⟩)) (.int .u32 e52.dip) 43 (by kernel_rfl) (run_ld (hC66.get 1 rfl) rfl) ?_
      refine WLr 4 [(47, .bool (e52.dip == dip)), (46, .bool (e52.dip == dip)), (45, .bool (e52.dip == dip)), (44, .int .u32 dip)] (fun _ => by kernel_rfl) ?_
      refine WLa 47 (e52.dip == dip) rfl (fun t71b => ?_) (fun t71b => ?_)
      ·
       have t71 : e52.dip = dip := by simpa using t71b
       refine WL.load 43 (.pointer (some ⟨g58, 0, none⟩)) (.agg #[.int .u32 e52.vip, .int .i64 e52.first, .int .u32 e52.dip, .int .i64 e52.exp]) 48 (by kernel_rfl) (run_ld (hC66.get 1 rfl) rfl) ?_
       refine WLr 1 [(49, .int .i64 now)] (fun _ => by kernel_rfl) ?_
       refine WLc rfl rfl rfl rfl rfl (by kernel_rfl) (lives_ct e52 now w63) ?_
       rintro _ w73 ⟨rfl, hF72⟩
       refine ⟨_, rfl, ?_⟩
       have hC74 := hC66.call hF72
       refine WLr 1 [(51, .bool (livesB e52 now))] (fun _ => by kernel_rfl) (WLd rfl (QXn (hK68 _ _ ?_)))
       refine WCa 51 (livesB e52 now) rfl (fun t75b => ?_) (fun t75b => ?_)
       ·
        refine WCt rfl ?_
        refine WCs (fun K76 hK77 => ?_)
        refine WCg (WLr 2 [(53, .int .i64 (IntKind.i64.wrap (now + 64))), (52, .int .i64 now)] (fun _ => by kernel_rfl) ?_)
        refine WLt (show (.int .i64 (IntKind.i64.wrap (now + 64)) : Value) = .int .i64 (now + 64) from by have q_ := goodTime_le t26; rw [wrap_in_i64 _ (by omega) (by omega)]) ?_
        refine WLr 1 [(54, .pointer (some ⟨g58, 3, none⟩))] (fun _ => by kernel_rfl) ?_
        refine WLs (c' := #[.int .u32 e52.vip, .int .i64 e52.first, .int .u32 e52.dip, .int .i64 (now + 64)]) hC74 1 3 g58 3 (.int .i64 (now + 64)) (by kernel_rfl) rfl (by kernel_rfl) (fun w78 hF80 hC81 => ?_)
        refine WLd rfl (QXn (hK77 _ _ ?_))
        refine WCs (fun K82 hK83 => ?_)
        refine WC.drawC hC81 [g3] (by kernel_rfl) (fun w84 hF85 hC86 hS87 => ?_)
        refine WDp (NPt (NPb (NPt (NPt (NPb (NPt hN)))))) 0 55 (.slice A xs.length c) (by kernel_rfl) (fun _ => by kernel_rfl) hS87 ?_
        refine WDl (NPt (NPb (NPt (NPt (NPb (NPt hN)))))) 1 43 (.pointer (some ⟨g58, 0, none⟩)) (.agg #[.int .u32 e52.vip, .int .i64 e52.first, .int .u32 e52.dip, .int .i64 (now + 64)]) 56 (by kernel_rfl) (by kernel_rfl) (fun _ hS_ => run_ld (Fr.has hS_ (hC86.get 1 rfl) (by simpa using hC86.ne 1 0 rfl rfl (by decide))) rfl) hS87 ?_
        refine WDl (NPt (NPb (NPt (NPt (NPb (NPt hN)))))) 3 43 (.pointer (some ⟨g58, 0, none⟩)) (.agg #[.int .u32 e52.vip, .int .i64 e52.first, .int .u32 e52.dip, .int .i64 (now + 64)]) 58 (by kernel_rfl) (by kernel_rfl) (fun _ hS_ => run_ld (Fr.has hS_ (hC86.get 1 rfl) (by simpa using hC86.ne 1 0 rfl rfl (by decide))) rfl) hS87 ?_
        refine WD.call 2 (by kernel_rfl) rfl rfl rfl rfl rfl (by kernel_rfl) (with_ct A c xs (⟨e52.vip, e52.first, e52.dip, now + 64⟩ : Lease) w84 (Rd.fr hr hC86.fr) (checkL_sorted t16) (by omega)) ?_
        rintro _ w90 ⟨v_, rfl, hF89, ho88⟩
        have hC91 := hC86.callN hF89 (own_ge ho88) (own_lt ho88)
        obtain ⟨A92, c93, rfl, hle94⟩ := own_form ho88
        have ho96 := own_base (b' := 0) ho88 (fun _ _ => Nat.zero_le _)
        have hS97 := hS87.trans hF89 (by simp)
        refine ⟨_, rfl, hS97, ?_⟩
        refine WDp (NPt (NPb (NPt (NPt (NPb (NPt hN)))))) 4 10 (.slice A92 ((insL xs (⟨e52.vip, e52.first, e52.dip, now + 64⟩ : Lease)).length) c93) (by kernel_rfl) (fun _ => by kernel_rfl) hS97 ?_
        obtain ⟨w99, hr100, hF101, hC102⟩ := sto_run (c' := #[.int .u32 e52.vip, .int .i64 e52.first, .int .u32 e52.dip, .int .i64 (now + 64)]) Tryd.prog hC91 0 43 g3 0 (.agg #[.int .u32 e52.vip, .int .i64 e52.first, .int .u32 e52.dip, .int .i64 (now + 64)]) rfl (by kernel_rfl)
        have hS103 := hS97.trans hF101 (by first | (simp; done) | (simp [*]; done) | (have q_ := hS97.size; simp; omega))
        refine WD.semU 5 (Instr.storeAt 43 (.pointer (some ⟨g3, 0, none⟩)) (.agg #[.int .u32 e52.vip, .int .i64 e52.first, .int .u32 e52.dip, .int .i64 (now + 64)])) (by kernel_rfl) (by kernel_rfl) hr100 hS103 ?_
        have ho104 := own_fr ho96 hF101 (hC91.apartM 0 0 rfl rfl)
        refine WDp (NPt (NPb (NPt (NPt (NPb (NPt hN)))))) 6 12 (.nilIface) (by kernel_rfl) (fun _ => by kernel_rfl) hS103 ?_
        refine WD.done (by kernel_rfl) ?_
        refine QXn (hK83 _ _ ?_)
        refine WC.ret ?_
        refine QXk ?_
        refine QXr ?_
        refine QXr ?_
        refine QXk ?_
        refine QXr ?_
        refine (hret' _ _ (.tuple #[.slice A92 ((insL xs (⟨e52.vip, e52.first, e52.dip, now + 64⟩ : Lease)).length) c93, .agg #[.int .u32 e52.vip, .int .i64 e52.first, .int .u32 e52.dip, .int .i64 (now + 64)], .nilIface]) (fun a ha => ?_) ?_).1
        ·
         exact res_run ha ((ResR.tmp rfl (ResR.cell rfl (run_ld (hC102.get 0 rfl) rfl) (ResR.tmp rfl ResR.nil)))) rfl
        clear hN hret hret' hK83 hK77 hK68 hK51 hK49 hK46 hK44 hK36 hK34 hK11 hK9 hK2
        have hrp_ : rnP vip first dip now e52 = true := by simp [rnP, t16, t16b, t26, t26b, t47, t47b, t69, t69b, t70, t70b, t71, t71b, t75b]
        have hany_ := rn_hit he53 hrp_
        obtain ⟨⟨⟨hrv_, hrf_⟩, hrd_⟩, hrl_⟩ : ((e52.vip = vip ∧ e52.first = first) ∧ e52.dip = dip) ∧ livesB e52 now = true := by simpa [rnP] using hrp_
        have hE_ : rnE xs vip first dip now = 0 := by
         simp [rnE, t16, t16b, t26, t26b, t47, t47b, t69, t69b, t70, t70b, t71, t71b, t75b, hany_] <;> (try (intros; omega))
        have hL_ : rnL xs vip first dip now = (⟨e52.vip, e52.first, e52.dip, now + 64⟩ : Lease) := by simp [rnL, hE_, hrv_, hrf_, hrd_]
        have hX_ : rnX xs vip first dip now = insL xs (⟨e52.vip, e52.first, e52.dip, now + 64⟩ : Lease) := by rw [rnX, if_pos hE_, hL_]
        rw [hE_, hL_, hX_]
        dsimp only
        exact ⟨_, rfl, hC102.fr, own_base ho104 (hC102.geF 0 rfl)⟩
       ·
        refine WCf rfl (WC.skip ?_)
        refine QXb ?_
        refine QXn (hK49 _ _ ?_)
        refine WCg (WLr 1 [(59, .int .i64 (IntKind.i64.wrap ((k : Int) + 1)))] (fun _ => by kernel_rfl) ?_)
        refine WLt (show (.int .i64 (IntKind.i64.wrap ((k : Int) + 1)) : Value) = .int .i64 ((k : Int) + 1) from by rw [wrap_in_i64 ((k : Int) + 1) (by omega) (by omega)]) ?_
        refine WLr 1 [(27, .int .i64 ((k : Int) + 1))] (fun _ => by kernel_rfl) ?_
        refine WLd rfl ?_
        refine QXn ?_
        have hC105 := hC74.pick [0] [] rfl rfl
        refine fun a_ ha_ => hK38 _ _ _ ?_ ⟨k + 1, rfl, rfl, hC105, by omega, rn_step he53 hany (by simp [rnP, t16, t16b, t26, t26b, t47, t47b, t69, t69b, t70, t70b, t71, t71b, t75b])⟩ a_ (ha_.weaken (sub_of ⟨rfl, rfl, rfl, rfl, rfl, rfl, rfl, rfl, rfl, rfl, rfl, rfl, rfl, rfl, rfl, rfl, rfl, trivial⟩))
        omega
      ·
       have t71 : ¬ (e52.dip = dip) := by simpa using t71b
       refine WLr 4 [(51, .bool false), (50, undef), (49, undef), (48, undef)] (fun _ => by kernel_rfl) (WLd rfl (QXn (hK68 _ _ ?_)))
       refine WCf rfl (WC.skip ?_)
       refine QXb ?_
       refine QXn (hK49 _ _ ?_)
       refine WCg (WLr 1 [(59, .int .i64 (IntKind.i64.wrap ((k : Int) + 1)))] (fun _ => by kernel_rfl) ?_)
       refine WLt (show (.int .i64 (IntKind.i64.wrap ((k : Int) + 1)) : Value) = .int .i64 ((k : Int) + 1) from by rw [wrap_in_i64 ((k : Int) + 1) (by omega) (by omega)]) ?_
       refine WLr 1 [(27, .int .i64 ((k : Int) + 1))] (fun _ => by kernel_rfl) ?_
       refine WLd rfl ?_
       refine QXn ?_
       have hC106 := hC66.pick [0] [] rfl rfl
       refine fun a_ ha_ => hK38 _ _ _ ?_ ⟨k + 1, rfl, rfl, hC106, by omega, rn_step he53 hany (by simp [rnP, t16, t16b, t26, t26b, t47, t47b, t69, t69b, t70, t70b, t71, t71b])⟩ a_ (ha_.weaken (sub_of ⟨rfl, rfl, rfl, rfl, rfl, rfl, rfl, rfl, rfl, rfl, rfl, rfl, rfl, rfl, rfl, rfl, rfl, trivial⟩))
       omega
     ·
      have t70 : ¬ (e52.first = first) := by simpa using t70b
      refine WLr 10 [(51, .bool false), (50, undef), (49, undef), (48, undef), (47, .bool false), (46, .bool false), (45, undef), (44, undef), (43, undef), (42, undef)] (fun _ => by kernel_rfl) (WLd rfl (QXn (hK68 _ _ ?_)))
      refine WCf rfl (WC.skip ?_)
      refine QXb ?_
      refine QXn (hK49 _ _ ?_)
      refine WCg (WLr 1 [(59, .int .i64 (IntKind.i64.wrap ((k : Int) + 1)))] (fun _ => by kernel_rfl) ?_)
      refine WLt (show (.int .i64 (IntKind.i64.wrap ((k : Int) + 1)) : Value) = .int .i64 ((k : Int) + 1) from by rw [wrap_in_i64 ((k : Int) + 1) (by omega) (by omega)]) ?_
      refine WLr 1 [(27, .int .i64 ((k : Int) + 1))] (fun _ => by kernel_rfl) ?_
      refine WLd rfl ?_
      refine QXn ?_
      have hC107 := hC66.pick [0] [] rfl rfl
      refine fun a_ ha_ => hK38 _ _ _ ?_ ⟨k + 1, rfl, rfl, hC107, by omega, rn_step he53 hany (by simp [rnP, t16, t16b, t26, t26b, t47, t47b, t69, t69b, t70, t70b])⟩ a_ (ha_.weaken (sub_of ⟨rfl, rfl, rfl, rfl, rfl, rfl, rfl, rfl, rfl, rfl, rfl, rfl, rfl, rfl, rfl, rfl, rfl, trivial⟩))
      omega
    ·
     have t69 : ¬ (e52.vip = vip) := by simpa using t69b
     refine WLr 16 [(51, .bool false), (50, undef), (49, undef), (48, undef), (47, .bool false), (46, .bool false), (45, undef), (44, undef), (43, undef), (42, undef), (41, .bool false), (40, .bool false), (39, undef), (38, undef), (37, undef), (36, undef)] (fun _ => by kernel_rfl) (WLd rfl (QXn (hK68 _ _ ?_)))
     refine WCf rfl (WC.skip ?_)
     refine QXb ?_
     refine QXn (hK49 _ _ ?_)
     refine WCg (WLr 1 [(59, .int .i64 (IntKind.i64.wrap ((k : Int) + 1)))] (fun _ => by kernel_rfl) ?_)
     refine WLt (show (.int .i64 (IntKind.i64.wrap ((k : Int) + 1)) : Value) = .int .i64 ((k : Int) + 1) from by rw [wrap_in_i64 ((k : Int) + 1) (by omega) (by omega)]) ?_
     refine WLr 1 [(27, .int .i64 ((k : Int) + 1))] (fun _ => by kernel_rfl) ?_
     refine WLd rfl ?_
     refine QXn ?_
     have hC108 := hC66.pick [0] [] rfl rfl
     refine fun a_ ha_ => hK38 _ _ _ ?_ ⟨k + 1, rfl, rfl, hC108, by omega, rn_step he53 hany (by simp [rnP, t16, t16b, t26, t26b, t47, t47b, t69, t69b])⟩ a_ (ha_.weaken (sub_of ⟨rfl, rfl, rfl, rfl, rfl, rfl, rfl, rfl, rfl, rfl, rfl, rfl, rfl, rfl, rfl, rfl, rfl, trivial⟩))
     omega
   ·
    have t47 : (xs.length : Int) ≤ (k : Int) := by have q_ := of_decide_eq_false t47b; omega
    refine WCf rfl ?_
    refine WC.exit ?_
    refine QXe ?_
    refine QXe ?_
    refine QX.block_hit ?_
    refine QXn (hK34 _ _ ?_)
    refine WCs (fun K109 hK110 => ?_)
    refine WCg (WLr 3 [(10, .slice none 0 0), (61, .iface 73 (.int .i64 6)), (60, .agg #[.int .u32 0, .int .i64 0, .int .u32 0, .int .i64 0])] (fun _ => by kernel_rfl) ?_)
    refine WLs (c' := #[.int .u32 0, .int .i64 0, .int .u32 0, .int .i64 0]) hC42 0 43 g3 0 (.agg #[.int .u32 0, .int .i64 0, .int .u32 0, .int .i64 0]) (by kernel_rfl) rfl (by kernel_rfl) (fun w111 hF113 hC114 => ?_)
    refine WLr 1 [(12, .iface 73 (.int .i64 6))] (fun _ => by kernel_rfl) (WLd rfl (QXn (hK110 _ _ ?_)))
    refine WC.ret ?_
    refine (hret' _ _ (.tuple #[.slice none 0 0, .agg #[.int .u32 0, .int .i64 0, .int .u32 0, .int .i64 0], .iface 73 (.int .i64 6)]) (fun a ha => ?_) ?_).1
    ·
     exact res_run ha ((ResR.tmp rfl (ResR.cell rfl (run_ld (hC114.get 0 rfl) rfl) (ResR.tmp rfl ResR.nil)))) rfl
    clear hN hret hret' hK110 hK46 hK44 hK36 hK34 hK11 hK9 hK2
    have hany_ := rn_none (by omega) hany
    have hE_ : rnE xs vip first dip now = 6 := by
     simp [rnE, t16, t16b, t26, t26b, t47, t47b, hany_] <;> (try (intros; omega))
    have hL_ : rnL xs vip first dip now = ⟨0, 0, 0, 0⟩ := by simp [rnL, hE_]
    have hX_ : rnX xs vip first dip now = [] := by simp [rnX, hE_]
    rw [hE_, hL_, hX_]
    exact ⟨_, rfl, hC114.fr, own_nil _ _ _ _⟩

end Go.Proofs.YtfligklljkcbfaaDoor
