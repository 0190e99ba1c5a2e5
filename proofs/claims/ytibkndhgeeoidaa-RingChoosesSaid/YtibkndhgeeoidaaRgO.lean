/- Contracts of functions of the program, each proved by a walk through its code; conditions stand in the statements. -/
import Derived.Test.YtibkndhgeeoidaaRgJ
namespace Go.Proofs.Ytibkndhgeeoidaa
set_option linter.unusedSimpArgs false
set_option linter.unusedVariables false
set_option linter.unusedSectionVars false
open Go Go.RowKit Go.Tw
set_option linter.unusedVariables false
set_option maxRecDepth 20000
theorem blk_in2 {A : Option Addr} {n c n' c' x : Nat} (h : x ∈ blk (.slice A n c)) : x ∈ blk (.slice A n' c') := by cases A <;> exact h
theorem endV_ch {L : List EndV} {n : Nat} {c e : EndV} (h1 : L[n]? = some c) (h2 : L[n]? = some e) : (!(c.dip == e.dip && (c.port == e.port && (c.weight == e.weight && true)))) = false := by
  rw [h1] at h2; cases h2; rw [endV_beq, decide_eq_true rfl]; rfl
theorem mark_port {L : List EndV} {e : EndV} (h : (L ++ [(⟨0, -77, 0⟩ : EndV)])[L.length]? = some e) : (e.port == -77) = true := by simp at h; subst h; rfl
theorem err_eql (X : Operand) (c : Int) (ok : Bool) (h : decide (c = 0) = ok) (w : World) : Sem.run Try.prog (do eqGuard .eql 39 X (.const .nilIface) (errV 62 c) .nilIface; binOp .eql 39 (errV 62 c) .nilIface) w = .ok (.bool (ok)) w := by
  subst h
  unfold errV
  by_cases hc : c = 0
  · simp only [hc, if_true, decide_true]; cases X <;> kernel_rfl
  · simp only [hc, if_false, decide_false]; cases X <;> kernel_rfl
theorem ends_ct (A : Option Addr) (c : Nat) (L : List EndV) (w : World) (hrd : Rd w 3 cellsE A L) (hlx : L.length ≤ 1099511627776) : Calls Try.prog 18 #[.slice A L.length c] w fun e w' => ∃ (A2 : Option Addr) (c2 : Nat), e = .returned (.slice A2 L.length c2) ∧ Fr w w' [] ∧ w'.ownsRow w.heap.size 49 3 (.slice A2 (L.length + 1) c2) (L.length + 1) ((L ++ [(⟨0, -77, 0⟩ : EndV)]).flatMap cellsE) := by
 refine enterD (n := 15) Try.func18 rfl rfl (Nat.le_of_ble_eq_true rfl) ?_
 intro Q0 hN hret hret'
 have hC := Cx.start w
 refine WCs (fun K1 hK2 => ?_)
 refine WCg (WLq 1 [(2, .slice none 0 0)] (WLd rfl (QXn (hK2 _ _ ?_))))
 refine WCs (fun K3 hK4 => ?_)
 refine WCg (WLq 3 [(5, .int .i64 (IntKind.i64.wrap ((L.length : Int) + 1))), (4, .int .i64 (L.length : Int)), (3, .slice A L.length c)] ?_)
 refine WLt (show (.int .i64 (IntKind.i64.wrap ((L.length : Int) + 1)) : Value) = .int .i64 ((L.length : Int) + 1) from by rw [wrap_in_i64 ((L.length : Int) + 1) (by omega) (by omega)]) ?_
 obtain ⟨g5, w6, hr7, ho8, hF9, ab, ax⟩ := make0_run Try.prog hC 26 49 3 24 (L.length + 1) .i64 .i64 ((L.length : Int) + 1) rfl (by omega) (by omega) (by simp only [maxLen]; omega)
 refine WL.sem (Instr.makeSlice 26 (.int .i64 0) (.int .i64 ((L.length : Int) + 1))) 6 (.slice (some ⟨g5, 0, none⟩) 0 (L.length + 1)) (by kernel_rfl) hr7 ?_
 refine WLq 1 [(7, .slice A L.length c)] ?_
 obtain ⟨aF, aG, ah, ai, aB, aj, ak, al⟩ := app_run Try.prog ab 0 (v := .slice (some ⟨g5, 0, none⟩) 0 (L.length + 1)) rfl 26 26 49 3 24 0 L.length c A rfl ho8 (L.flatMap cellsE) (flat_len_n cellsE_len (by first | rfl | assumption | (simp; done) | (simp; omega))) (Rd.src_n (Rd.fr hrd ab.fr) cellsE_len (by decide) (by first | rfl | assumption | (simp; done) | (simp; omega))) (flat_one cellsE_one _) (by simp only [maxLen]; omega) (by omega)
 have ac := own_app (enc := cellsE) (ys := []) (zs := L) ai
 obtain ⟨am, an, rfl, ay⟩ := own_form ac
 refine WL.sem (Builtin.append_ #[26, 26] 26 #[.slice (some ⟨g5, 0, none⟩) 0 (L.length + 1), .slice A L.length c]) 8 (.slice am (0 + L.length) an) (by kernel_rfl) ah ?_
 refine WLq 1 [(9, .agg #[.int .u32 0, .int .i64 (-77), .int .i64 0])] ?_
 refine WL.newM aj (fun b => .slice (some ⟨b, 0, none⟩) 1 1) (.cells #[.int .u32 0, .int .i64 (-77), .int .i64 0] 49) 10 (fun _ => by kernel_rfl) (fun az aH aC ao ad => ?_)
 have ap := own_fr ac ao (by simp)
 obtain ⟨aI, aJ, aq, ar, aD, ae, au, av⟩ := app_run Try.prog ad 0 (v := .slice am (0 + L.length) an) rfl 26 26 49 3 24 (0 + L.length) 1 1 (some ⟨az, 0, none⟩) rfl ap [.int .u32 0, .int .i64 (-77), .int .i64 0] rfl (srcOk.blk 1 (ad.get 0 rfl)) rfl (by simp only [maxLen]; omega) (by omega)
 have aa := own_snoc (enc := cellsE) (ys := [] ++ L) (⟨0, -77, 0⟩ : EndV) ar
 obtain ⟨ag, af, rfl, aA⟩ := own_form aa
 refine WL.sem (Builtin.append_ #[26, 26] 26 #[.slice am (0 + L.length) an, .slice (some ⟨az, 0, none⟩) 1 1]) 11 (.slice ag (0 + L.length + 1) af) (by kernel_rfl) aq ?_
 refine WLq 2 [(13, .int .i64 (L.length : Int)), (12, .slice A L.length c)] ?_
 have hle_ := own_le aa
 have aw : L.length ≤ af := by omega
 refine WL.slc 26 49 3 ag ag (0 + L.length + 1) af 0 L.length L.length af none (some (.int .i64 (L.length : Int))) 14 (by kernel_rfl) (by kernel_rfl) bnd.no (bnd.yes (by omega)) (by omega) aw (slcAt_pre _ _ _) (by first | rfl | omega) (by first | rfl | omega) ?_
 have aE := own_takeE (m := L.length) cellsE_len aa (by omega)
 refine WLq 1 [(2, .slice ag L.length af)] (WLd rfl (QXn (hK4 _ _ ?_)))
 refine WC.ret ?_
 refine (hret _ _ _ rfl ?_).1
 clear hN hret hret' hK4 hK2
 have hown_ := aa
 rw [show (0 + L.length + 1 : Nat) = L.length + 1 from by omega, show ([] : List EndV) ++ L ++ [(⟨0, -77, 0⟩ : EndV)] = L ++ [(⟨0, -77, 0⟩ : EndV)] from by rw [List.nil_append]] at hown_
 exact ⟨_, _, rfl, ae.fr, own_base hown_ (by have z_ := ae.geF 0 rfl; intro x_ hx_; exact z_ x_ (blk_in2 hx_))⟩

theorem ends_n (A : Option Addr) (n c : Nat) (L : List EndV) (w : World) (hrd : Rd w 3 cellsE A L) (hn : L.length = n) (hlx : n ≤ 1099511627776) : Calls Try.prog 18 #[.slice A n c] w fun e w' => ∃ (A2 : Option Addr) (c2 : Nat), e = .returned (.slice A2 n c2) ∧ Fr w w' [] ∧ w'.ownsRow w.heap.size 49 3 (.slice A2 (n + 1) c2) (n + 1) ((L ++ [(⟨0, -77, 0⟩ : EndV)]).flatMap cellsE) := by subst hn; exact ends_ct A c L w hrd hlx
set_option maxHeartbeats 1000000 in
theorem RingChooses_ct (f : FlowV) (A : Option Addr) (c : Nat) (L : List EndV) (w : World) (hwF : wfF f) (hr : Rd w 3 cellsE A L) (hwf : ∀ e ∈ L, wfE e) : Calls Try.prog 6 #[.agg #[.int .i64 f.proto, .int .u32 f.src, .int .i64 f.sp, .int .u32 f.dst, .int .i64 f.dp], .slice A L.length c] w fun e w' => e = .returned (.bool true) ∧ Fr w w' [] := by
 refine enterD (n := 84) Try.func6 rfl rfl (Nat.le_of_ble_eq_true rfl) ?_
 intro Q0 hN hret hret'
 have hC := Cx.start w
 refine WCs (fun K1 hK2 => ?_)
 refine WCg ?_
 refine WL.newM hC (fun b => .pointer (some ⟨b, 0, none⟩)) (.cells #[.int .i64 f.proto, .int .u32 f.src, .int .i64 f.sp, .int .u32 f.dst, .int .i64 f.dp] 25) 2 (fun _ => by kernel_rfl) (fun g3 w4 hb7 hF5 hC6 => ?_)
 refine WLq 1 [(4, .bool false)] (WLd rfl (QXn (hK2 _ _ ?_)))
 refine WCs (fun K8 hK9 => ?_)
 refine WCs (fun df b1 => ?_)
 refine WCg ?_
 refine WLc rfl rfl rfl rfl rfl (by kernel_rfl) (alive_ct w4) ?_
 rintro _ cG ⟨rfl, b2⟩
 refine ⟨_, rfl, ?_⟩
 have aV := hC6.call b2
 refine WLq 1 [(11, .bool false)] (WLd rfl (QXn (b1 _ _ ?_)))
 refine WCf rfl (WC.skip (QXn (hK9 _ _ ?_)))
 refine WCs (fun dg b3 => ?_)
 refine WCs (fun dh b5 => ?_)
 refine WCg (WLq 3 [(14, .bool (decide ((L.length : Int) > 300))), (13, .int .i64 (L.length : Int)), (12, .slice A L.length c)] (WLd rfl (QXn (b5 _ _ ?_))))
 refine WCa 14 (decide ((L.length : Int) > 300)) rfl (fun aW => ?_) (fun aW => ?_)
 ·
  have cH : (300 : Int) < (L.length : Int) := by have q_ := of_decide_eq_true aW; omega
  refine WCt rfl ?_
  refine WCs (fun di b6 => ?_)
  refine WCg (WLq 1 [(4, .bool true)] (WLd rfl (QXn (b6 _ _ ?_))))
  refine WC.ret ?_
  refine QXr ?_
  refine (hret _ _ _ rfl ?_).1
  exact ⟨rfl, aV.fr⟩
 ·
  have cH : (L.length : Int) ≤ 300 := by have q_ := of_decide_eq_false aW; omega
  refine WCf rfl (WC.skip (QXn (b3 _ _ ?_)))
  refine WCs (fun dj b7 => ?_)
  refine WCg (WLq 1 [(15, .slice A L.length c)] ?_)
  refine WLc rfl rfl rfl rfl rfl (by kernel_rfl) (ends_n A L.length c L cG (Rd.fr hr aV.fr) rfl (by omega)) ?_
  rintro _ cI ⟨ak, ah, rfl, b9, aX⟩
  have aY := aV.callN b9 (own_ge aX) (own_lt aX)
  refine ⟨_, rfl, ?_⟩
  rw [blk_n ak (L.length + 1) ah (L.length) ah] at aY
  have aZ := own_base (b' := 0) aX (fun _ _ => Nat.zero_le _)
  have aC := own_takeE (m := L.length) cellsE_len aZ (by omega)
  have cB := own_le aZ
  rw [show List.take L.length (L ++ [(⟨0, -77, 0⟩ : EndV)]) = L from by simp] at aC
  refine WLq 1 [(5, .slice ak L.length ah)] (WLd rfl (QXn (b7 _ _ ?_)))
  refine WCs (fun dk ca => ?_)
  refine WCg ?_
  refine WLo 25 (.pointer (some ⟨g3, 0, none⟩)) (.agg #[.int .i64 f.proto, .int .u32 f.src, .int .i64 f.sp, .int .u32 f.dst, .int .i64 f.dp]) 18 (run_ld (aY.get 0 rfl) rfl) ?_
  refine WLq 1 [(19, .slice ak L.length ah)] ?_
  refine WLc rfl rfl rfl rfl rfl (by kernel_rfl) (Choose_n f ak L.length ah L cI (own_rd aC cellsE_len (by decide)) (own_count cellsE_len (by decide) aC) hwf (by first | omega | (simp; done) | (simp; omega))) ?_
  rintro _ dl ⟨rfl, a0⟩
  refine ⟨_, rfl, ?_⟩
  have cb := aY.call a0
  have cc := own_fr aC a0 (by simp)
  have cd := own_fr aZ a0 (by simp)
  refine WLq 3 [(22, .bool (foundB f L)), (21, .agg #[.int .u32 ((chosenE f L).dip), .int .i64 ((chosenE f L).port), .int .i64 ((chosenE f L).weight)]), (17, .tuple #[.agg #[.int .u32 ((chosenE f L).dip), .int .i64 ((chosenE f L).port), .int .i64 ((chosenE f L).weight)], .bool (foundB f L)])] ?_
  refine WL.newM cb (fun b => .pointer (some ⟨b, 0, none⟩)) (.cells #[.int .u32 0, .int .i64 0, .int .i64 0] 49) 6 (fun _ => by kernel_rfl) (fun ba dm cJ bb a1 => ?_)
  have ce := own_fr cc bb (by simp)
  have cf := own_fr cd bb (by simp)
  refine WLs (c' := #[.int .u32 ((chosenE f L).dip), .int .i64 ((chosenE f L).port), .int .i64 ((chosenE f L).weight)]) a1 1 49 ba 0 (.agg #[.int .u32 ((chosenE f L).dip), .int .i64 ((chosenE f L).port), .int .i64 ((chosenE f L).weight)]) (by kernel_rfl) rfl (by kernel_rfl) (fun cK bc aD => ?_)
  have bd := own_fr ce bc (a1.apartM 0 1 rfl rfl)
  have be := own_fr cf bc (blk_al (n1 := L.length) (c1 := ah) (a1.apartM 0 1 rfl rfl))
  refine WLq 1 [(7, .bool (foundB f L))] (WLd rfl (QXn (ca _ _ ?_)))
  refine WCs (fun dn bf => ?_)
  refine WCg ?_
  refine WLo 25 (.pointer (some ⟨g3, 0, none⟩)) (.agg #[.int .i64 f.proto, .int .u32 f.src, .int .i64 f.sp, .int .u32 f.dst, .int .i64 f.dp]) 23 (run_ld (aD.get 0 rfl) rfl) ?_
  refine WLq 1 [(24, .slice A L.length c)] ?_
  refine WLc rfl rfl rfl rfl rfl (by kernel_rfl) (RChoose_ct f A c L cK hwF (Rd.fr hr aD.fr) hwf (by omega)) ?_
  rintro _ dq ⟨r60, rfl, ap, (⟨a2, aq, rfl, cL, cg⟩ | ⟨a2, rfl, ch⟩)⟩
  ·
   have a3 := aD.call ap
   refine ⟨_, rfl, ?_⟩
   rw [a2]
   have ci := own_fr bd ap (by simp)
   have cj := own_fr be ap (by simp)
   refine WLq 1 [(8, .int .i64 (aq : Int))] (WLd rfl (QXn (bf _ _ ?_)))
   refine WCs (fun dr ck => ?_)
   refine WCs (fun ds cl => ?_)
   refine WC.drawC a3 [] (by kernel_rfl) (fun cM bg a4 ab => ?_)
   have a5 := own_fr ci bg (by simp)
   have cm := own_fr cj bg (by simp)
   refine WDq (NPt (NPt hN)) 0 26 (.bool true) ab ?_
   refine WDq (NPt (NPt hN)) 1 27 (.int .i64 (aq : Int)) ab ?_
   refine WDq (NPt (NPt hN)) 2 28 (.bool (decide ((aq : Int) ≥ 0))) ab ?_
   refine WDq (NPt (NPt hN)) 3 29 (.bool (true != (decide ((aq : Int) ≥ 0)))) ab ?_
   refine WDq (NPt (NPt hN)) 4 30 (.bool (true != (decide ((aq : Int) ≥ 0)))) ab ?_
   refine WD.know 30 (.bool (true != (decide ((aq : Int) ≥ 0)))) (.bool false) rfl (congrArg Value.bool (by rw [decide_eq_true (by omega)]; rfl)) ?_
   refine WDq (NPt (NPt hN)) 5 31 (.bool true) ab ?_
   refine WDq (NPt (NPt hN)) 6 32 (.bool true) ab ?_
   refine WDq (NPt (NPt hN)) 8 34 (.slice A L.length c) ab ?_
   refine WDq (NPt (NPt hN)) 9 35 (.int .i64 (aq : Int)) ab ?_
   obtain ⟨ag, bh⟩ := get_some (xs := L) (i := aq) (by omega)
   obtain ⟨b80, o82, cn, co⟩ := hr.at_ _ _ bh
   refine WDi (NPt (NPt hN)) 10 A L.length c 36 .i64 (aq : Int) b80 o82 aq 3 (by kernel_rfl) (by kernel_rfl) cn (by omega) (by omega) (o82 + aq * 3) (by first | (simp; done) | omega) ab ?_
   refine WDm (NPt (NPt hN)) 7 49 (.pointer (some ⟨ba, 0, none⟩)) (.agg #[.int .u32 ((chosenE f L).dip), .int .i64 ((chosenE f L).port), .int .i64 ((chosenE f L).weight)]) 33 (fun _ hS_ => run_ld (Fr.has hS_ (a4.get 1 rfl) (by simp)) rfl) ab ?_
   refine WDm (NPt (NPt hN)) 11 49 (.pointer (some ⟨b80, o82 + aq * 3, none⟩)) (.agg #[.int .u32 ag.dip, .int .i64 ag.port, .int .i64 ag.weight]) 37 (fun _ hS_ => run_rdN (l := [.int .u32 ag.dip, .int .i64 ag.port, .int .i64 ag.weight]) rfl rfl (fun j u hu => by have hq_ := Fr.cell hS_ (a4.fr.cell (co j u hu) (by simp)) (by simp); simpa [Nat.add_assoc] using hq_)) ab ?_
   have cp : ∀ w_, Sem.run Try.prog (do eqGuard .neq 49 (Operand.tmp 33) (Operand.tmp 37) (.agg #[.int .u32 ((chosenE f L).dip), .int .i64 ((chosenE f L).port), .int .i64 ((chosenE f L).weight)]) (.agg #[.int .u32 ag.dip, .int .i64 ag.port, .int .i64 ag.weight]); binOp .neq 49 (.agg #[.int .u32 ((chosenE f L).dip), .int .i64 ((chosenE f L).port), .int .i64 ((chosenE f L).weight)]) (.agg #[.int .u32 ag.dip, .int .i64 ag.port, .int .i64 ag.weight])) w_ = .ok (.bool (!(((chosenE f L).dip) == ag.dip && (((chosenE f L).port) == ag.port && (((chosenE f L).weight) == ag.weight && true))))) w_ := fun w_ => (run_neq_S (by kernel_rfl))
   refine WD.semP (NPt (NPt hN)) 12 (do eqGuard .neq 49 (Operand.tmp 33) (Operand.tmp 37) (.agg #[.int .u32 ((chosenE f L).dip), .int .i64 ((chosenE f L).port), .int .i64 ((chosenE f L).weight)]) (.agg #[.int .u32 ag.dip, .int .i64 ag.port, .int .i64 ag.weight]); binOp .neq 49 (.agg #[.int .u32 ((chosenE f L).dip), .int .i64 ((chosenE f L).port), .int .i64 ((chosenE f L).weight)]) (.agg #[.int .u32 ag.dip, .int .i64 ag.port, .int .i64 ag.weight])) 38 (.bool (!(((chosenE f L).dip) == ag.dip && (((chosenE f L).port) == ag.port && (((chosenE f L).weight) == ag.weight && true))))) (by kernel_rfl) (by kernel_rfl) (fun _ _ => cp _) ab ?_
   refine WDq (NPt (NPt hN)) 13 39 (.bool (!(((chosenE f L).dip) == ag.dip && (((chosenE f L).port) == ag.port && (((chosenE f L).weight) == ag.weight && true))))) ab ?_
   refine WDq (NPt (NPt hN)) 14 40 (.bool (!(((chosenE f L).dip) == ag.dip && (((chosenE f L).port) == ag.port && (((chosenE f L).weight) == ag.weight && true))))) ab ?_
   refine WDq (NPt (NPt hN)) 15 41 (.bool (!(((chosenE f L).dip) == ag.dip && (((chosenE f L).port) == ag.port && (((chosenE f L).weight) == ag.weight && true))))) ab ?_
   refine WD.know 41 (.bool (!(((chosenE f L).dip) == ag.dip && (((chosenE f L).port) == ag.port && (((chosenE f L).weight) == ag.weight && true))))) (.bool false) rfl (congrArg Value.bool (by exact endV_ch cg bh)) ?_
   refine WDq (NPt (NPt hN)) 16 42 (.bool true) ab ?_
   refine WDq (NPt (NPt hN)) 17 43 (.bool false) ab ?_
   refine WDq (NPt (NPt hN)) 18 44 (.bool false) ab ?_
   refine WDq (NPt (NPt hN)) 19 45 (undef) ab ?_
   refine WDq (NPt (NPt hN)) 20 46 (undef) ab ?_
   refine WDq (NPt (NPt hN)) 21 47 (undef) ab ?_
   refine WDq (NPt (NPt hN)) 22 48 (.bool false) ab ?_
   refine WDq (NPt (NPt hN)) 23 49 (.bool false) ab ?_
   refine WDq (NPt (NPt hN)) 24 50 (.bool false) ab ?_
   refine WDq (NPt (NPt hN)) 25 51 (.slice ak L.length ah) ab ?_
   refine WDq (NPt (NPt hN)) 28 54 (.slice A L.length c) ab ?_
   refine WD.call 26 (by kernel_rfl) rfl rfl rfl rfl rfl (by kernel_rfl) (ringCheck_ct ak ah L cM (own_rd a5 cellsE_len (by decide)) hwf (by omega) (by have q_ := own_le a5; exact q_)) ?_
   rintro _ cN ⟨rfl, aE⟩
   have a6 := ab.trans aE (by simp)
   refine ⟨_, rfl, a6, ?_⟩
   have bi := a4.call aE
   have cq := own_fr a5 aE (by simp)
   have cr := own_fr cm aE (by simp)
   have cs : ∀ w_, Sem.run Try.prog (do eqGuard .eql 39 (Operand.tmp 52) (Operand.const (.nilIface)) (errV 62 (if goodE L then 0 else 9)) (.nilIface); binOp .eql 39 (errV 62 (if goodE L then 0 else 9)) (.nilIface)) w_ = .ok (.bool (goodE L)) w_ := fun w_ => (err_eql _ (if goodE L then 0 else 9) (goodE L) (by cases goodE L <;> rfl) _)
   refine WD.semP (NPt (NPt hN)) 27 (do eqGuard .eql 39 (Operand.tmp 52) (Operand.const (.nilIface)) (errV 62 (if goodE L then 0 else 9)) (.nilIface); binOp .eql 39 (errV 62 (if goodE L then 0 else 9)) (.nilIface)) 53 (.bool (goodE L)) (by kernel_rfl) (by kernel_rfl) (fun _ _ => cs _) a6 ?_
   refine WD.call 29 (by kernel_rfl) rfl rfl rfl rfl rfl (by kernel_rfl) (REnds_ct A c L cN (Rd.fr hr bi.fr) hwf (by omega)) ?_
   rintro _ dt ⟨rfl, aF⟩
   have a7 := a6.trans aF (by simp)
   refine ⟨_, rfl, a7, ?_⟩
   have ct := bi.call aF
   have cu := own_fr cq aF (by simp)
   have cv := own_fr cr aF (by simp)
   refine WDq (NPt (NPt hN)) 30 56 (.bool ((goodE L) != (goodE L))) a7 ?_
   refine WDq (NPt (NPt hN)) 31 57 (.bool ((goodE L) != (goodE L))) a7 ?_
   refine WD.done (by kernel_rfl) ?_
   refine QXn (cl _ _ ?_)
   refine WC.know 57 (.bool ((goodE L) != (goodE L))) (.bool false) rfl (congrArg Value.bool (by simp)) ?_
   refine WCf rfl (WC.skip (QXn (ck _ _ ?_)))
   refine WCs (fun du cw => ?_)
   refine WCs (fun cO bj => ?_)
   refine WCg (WLq 3 [(60, .int .i64 0), (59, .int .i64 (L.length : Int)), (58, .slice A L.length c)] (WLd rfl (QXn (bj _ _ ?_))))
   refine WC.block ?_
   refine WC.loop (fun m_ E_ w_ => ∃ (j : Nat), m_ = L.length - j ∧ E_ = [(1, .slice A L.length c), (5, .slice ak L.length ah), (59, .int .i64 (L.length : Int)), (60, .int .i64 (j : Int))] ∧ Cx w [] w_ [(g3, .cells #[.int .i64 f.proto, .int .u32 f.src, .int .i64 f.sp, .int .u32 f.dst, .int .i64 f.dp] 25), (ba, .cells #[.int .u32 ((chosenE f L).dip), .int .i64 ((chosenE f L).port), .int .i64 ((chosenE f L).weight)] 49)] [blk (.slice ak L.length ah)] ∧ World.ownsRow w_ 0 49 3 (.slice ak L.length ah) L.length (L.flatMap cellsE) ∧ World.ownsRow w_ 0 49 3 (.slice ak (L.length + 1) ah) (L.length + 1) ((L ++ [(⟨0, -77, 0⟩ : EndV)]).flatMap cellsE) ∧ (j ≤ L.length)) ⟨_, _, ⟨0, rfl, rfl, ct, cu, cv, Nat.zero_le _⟩, sub_of ⟨rfl, rfl, rfl, rfl, trivial⟩⟩ (fun m105 E_ cP cQ bk bl => ?_)
   obtain ⟨j, rfl, rfl, aG, cown33_m105, cfull34_m105, hj⟩ := bl
   refine WCs (fun cR bm => ?_)
   refine WCg (WLq 1 [(61, .bool (decide ((j : Int) < (L.length : Int))))] (WLd rfl (QXn (bm _ _ ?_))))
   refine WCs (fun cS bn => ?_)
   refine WCa 61 (decide ((j : Int) < (L.length : Int))) rfl (fun ar => ?_) (fun ar => ?_)
   ·
    have cx : (j : Int) < (L.length : Int) := by have q_ := of_decide_eq_true ar; omega
    refine WCt rfl ?_
    refine WC.skip ?_
    refine QXn (bn _ _ ?_)
    refine WCs (fun cT bo => ?_)
    refine WC.block ?_
    refine WCs (fun cU bp => ?_)
    refine WCg (WLq 2 [(9, .int .i64 (j : Int)), (62, .int .i64 (j : Int))] (WLd rfl (QXn (bp _ _ ?_))))
    refine WCs (fun cV bq => ?_)
    refine WC.drawC aG [] (by kernel_rfl) (fun cW aH aI ai => ?_)
    have al := own_fr cown33_m105 aH (by simp)
    have br := own_fr cfull34_m105 aH (by simp)
    refine WDq (NPt (NPb (NPt (NPt (NPb (NPt hN)))))) 0 63 (.slice ak L.length ah) ai ?_
    refine WDq (NPt (NPb (NPt (NPt (NPb (NPt hN)))))) 1 64 (.int .i64 (j : Int)) ai ?_
    have cC := own_count cellsE_len (by decide) al
    obtain ⟨ac, au⟩ := get_some (xs := L) (i := j) (by omega)
    obtain ⟨b127, aJ⟩ := own_addr (by decide) cellsE_len al au
    refine WDi (NPt (NPb (NPt (NPt (NPb (NPt hN)))))) 2 ak L.length ah 65 .i64 (j : Int) b127 0 j 3 (by kernel_rfl) (by kernel_rfl) aJ (by omega) (by omega) (j * 3) (by first | (simp; done) | omega) ai ?_
    refine WDq (NPt (NPb (NPt (NPt (NPb (NPt hN)))))) 4 67 (.slice A L.length c) ai ?_
    refine WDq (NPt (NPb (NPt (NPt (NPb (NPt hN)))))) 5 68 (.int .i64 (j : Int)) ai ?_
    obtain ⟨ad, aK⟩ := get_some (xs := L) (i := j) (by omega)
    obtain ⟨b132, o134, bs, bt⟩ := hr.at_ _ _ aK
    refine WDi (NPt (NPb (NPt (NPt (NPb (NPt hN)))))) 6 A L.length c 69 .i64 (j : Int) b132 o134 j 3 (by kernel_rfl) (by kernel_rfl) bs (by omega) (by omega) (o134 + j * 3) (by first | (simp; done) | omega) ai ?_
    refine WDm (NPt (NPb (NPt (NPt (NPb (NPt hN)))))) 3 49 (.pointer (some ⟨b127, j * 3, none⟩)) (.agg #[.int .u32 ac.dip, .int .i64 ac.port, .int .i64 ac.weight]) 66 (fun _ hS_ => run_rdN (l := [.int .u32 ac.dip, .int .i64 ac.port, .int .i64 ac.weight]) rfl rfl (fun j u hu => by have hq_ := Rd.cell (own_rd (own_fr al hS_ (by simp)) cellsE_len (by decide)) aJ au j u hu; simpa [Nat.add_assoc] using hq_)) ai ?_
    refine WDm (NPt (NPb (NPt (NPt (NPb (NPt hN)))))) 7 49 (.pointer (some ⟨b132, o134 + j * 3, none⟩)) (.agg #[.int .u32 ad.dip, .int .i64 ad.port, .int .i64 ad.weight]) 70 (fun _ hS_ => run_rdN (l := [.int .u32 ad.dip, .int .i64 ad.port, .int .i64 ad.weight]) rfl rfl (fun j u hu => by have hq_ := Fr.cell hS_ (aI.fr.cell (bt j u hu) (by simp)) (by simp); simpa [Nat.add_assoc] using hq_)) ai ?_
    have bu : ∀ w_, Sem.run Try.prog (do eqGuard .neq 49 (Operand.tmp 66) (Operand.tmp 70) (.agg #[.int .u32 ac.dip, .int .i64 ac.port, .int .i64 ac.weight]) (.agg #[.int .u32 ad.dip, .int .i64 ad.port, .int .i64 ad.weight]); binOp .neq 49 (.agg #[.int .u32 ac.dip, .int .i64 ac.port, .int .i64 ac.weight]) (.agg #[.int .u32 ad.dip, .int .i64 ad.port, .int .i64 ad.weight])) w_ = .ok (.bool (!(ac.dip == ad.dip && (ac.port == ad.port && (ac.weight == ad.weight && true))))) w_ := fun w_ => (run_neq_S (by kernel_rfl))
    refine WD.semP (NPt (NPb (NPt (NPt (NPb (NPt hN)))))) 8 (do eqGuard .neq 49 (Operand.tmp 66) (Operand.tmp 70) (.agg #[.int .u32 ac.dip, .int .i64 ac.port, .int .i64 ac.weight]) (.agg #[.int .u32 ad.dip, .int .i64 ad.port, .int .i64 ad.weight]); binOp .neq 49 (.agg #[.int .u32 ac.dip, .int .i64 ac.port, .int .i64 ac.weight]) (.agg #[.int .u32 ad.dip, .int .i64 ad.port, .int .i64 ad.weight])) 71 (.bool (!(ac.dip == ad.dip && (ac.port == ad.port && (ac.weight == ad.weight && true))))) (by kernel_rfl) (by kernel_rfl) (fun _ _ => bu _) ai ?_
    refine WD.done (by kernel_rfl) ?_
    refine QXn (bq _ _ ?_)
    refine WC.know 71 (.bool (!(ac.dip == ad.dip && (ac.port == ad.port && (ac.weight == ad.weight && true))))) (.bool false) rfl (congrArg Value.bool (by exact endV_ch au aK)) ?_
    refine WCf rfl (WC.skip ?_)
    refine QXb ?_
    refine QXn (bo _ _ ?_)
    refine WCg (WLq 1 [(72, .int .i64 (IntKind.i64.wrap ((j : Int) + 1)))] ?_)
    refine WLt (show (.int .i64 (IntKind.i64.wrap ((j : Int) + 1)) : Value) = .int .i64 ((j : Int) + 1) from by rw [wrap_in_i64 ((j : Int) + 1) (by omega) (by omega)]) ?_
    refine WLq 1 [(60, .int .i64 ((j : Int) + 1))] ?_
    refine WLd rfl ?_
    refine QXn ?_
    have bv := aI.pick [0, 1] [0] rfl rfl
    refine fun a_ ha_ => bk _ _ _ ?_ ⟨j + 1, rfl, rfl, bv, al, br, by omega⟩ a_ (ha_.weaken (sub_of ⟨rfl, rfl, rfl, rfl, trivial⟩))
    omega
   ·
    have cx : (L.length : Int) ≤ (j : Int) := by have q_ := of_decide_eq_false ar; omega
    refine WCf rfl ?_
    refine WC.exit ?_
    refine QXe ?_
    refine QXe ?_
    refine QX.block_hit ?_
    refine QXn (cw _ _ ?_)
    refine WCs (fun cX bw => ?_)
    refine WCg (WLq 4 [(76, .int .i64 (IntKind.i64.wrap ((L.length : Int) + 1))), (75, .int .i64 (L.length : Int)), (74, .slice A L.length c), (73, .slice ak L.length ah)] ?_)
    refine WLt (show (.int .i64 (IntKind.i64.wrap ((L.length : Int) + 1)) : Value) = .int .i64 ((L.length : Int) + 1) from by rw [wrap_in_i64 ((L.length : Int) + 1) (by omega) (by omega)]) ?_
    have bx : L.length + 1 ≤ ah := by omega
    refine WL.slc 26 49 3 ak ak L.length ah 0 (L.length + 1) (L.length + 1) ah none (some (.int .i64 ((L.length : Int) + 1))) 77 (by kernel_rfl) (by kernel_rfl) bnd.no (bnd.yes (by omega)) (by omega) bx (slcAt_pre _ _ _) (by first | rfl | omega) (by first | rfl | omega) ?_
    refine WLq 2 [(79, .int .i64 (L.length : Int)), (78, .slice A L.length c)] ?_
    have cD := own_count cellsE_len (by decide) cfull34_m105
    obtain ⟨a8, av⟩ := get_some (xs := (L ++ [(⟨0, -77, 0⟩ : EndV)])) (i := L.length) (by omega)
    obtain ⟨b143, aL⟩ := own_addr (by decide) cellsE_len cfull34_m105 av
    refine WLi ak (L.length + 1) ah 80 .i64 (L.length : Int) b143 0 L.length 3 (by kernel_rfl) aL (by omega) (by omega) (L.length * 3) (by first | (simp; done) | omega) ?_
    refine WLq 1 [(81, .pointer (some ⟨b143, L.length * 3 + 1, none⟩))] ?_
    refine WLo 3 (.pointer (some ⟨b143, L.length * 3 + 1, none⟩)) (.int .i64 a8.port) 82 (run_load1 rfl (by simpa [Nat.add_assoc] using Rd.cell (own_rd cfull34_m105 cellsE_len (by decide)) aL av 1 _ rfl)) ?_
    refine WLq 2 [(4, .bool (a8.port == (-77))), (83, .bool (a8.port == (-77)))] (WLd rfl (QXn (bw _ _ ?_)))
    refine WC.ret ?_
    refine (hret _ _ _ rfl ?_).1
    exact ⟨congrArg (fun b_ => Ending.returned (Value.bool b_)) (mark_port av), aG.fr⟩
  ·
   have a3 := aD.call ap
   refine ⟨_, rfl, ?_⟩
   rw [a2]
   have bz := own_fr bd ap (by simp)
   have bA := own_fr be ap (by simp)
   refine WLq 1 [(8, .int .i64 (-1))] (WLd rfl (QXn (bf _ _ ?_)))
   refine WCs (fun cY bB => ?_)
   refine WCs (fun cZ bC => ?_)
   refine WC.drawC a3 [] (by kernel_rfl) (fun cy aM aN aa => ?_)
   have aw := own_fr bz aM (by simp)
   have bD := own_fr bA aM (by simp)
   refine WDq (NPt (NPt hN)) 0 26 (.bool false) aa ?_
   refine WDq (NPt (NPt hN)) 1 27 (.int .i64 (-1)) aa ?_
   refine WDq (NPt (NPt hN)) 2 28 (.bool false) aa ?_
   refine WDq (NPt (NPt hN)) 3 29 (.bool false) aa ?_
   refine WDq (NPt (NPt hN)) 4 30 (.bool false) aa ?_
   refine WDq (NPt (NPt hN)) 5 31 (.bool false) aa ?_
   refine WDq (NPt (NPt hN)) 6 32 (.bool false) aa ?_
   refine WDq (NPt (NPt hN)) 7 33 (undef) aa ?_
   refine WDq (NPt (NPt hN)) 8 34 (undef) aa ?_
   refine WDq (NPt (NPt hN)) 9 35 (undef) aa ?_
   refine WDq (NPt (NPt hN)) 10 36 (undef) aa ?_
   refine WDq (NPt (NPt hN)) 11 37 (undef) aa ?_
   refine WDq (NPt (NPt hN)) 12 38 (undef) aa ?_
   refine WDq (NPt (NPt hN)) 13 39 (.bool false) aa ?_
   refine WDq (NPt (NPt hN)) 14 40 (.bool false) aa ?_
   refine WDq (NPt (NPt hN)) 15 41 (.bool false) aa ?_
   refine WDq (NPt (NPt hN)) 16 42 (.bool false) aa ?_
   refine WDq (NPt (NPt hN)) 17 43 (.bool true) aa ?_
   refine WDq (NPt (NPt hN)) 18 44 (.bool true) aa ?_
   refine WDq (NPt (NPt hN)) 20 46 (.agg #[.int .u32 0, .int .i64 0, .int .i64 0]) aa ?_
   refine WDm (NPt (NPt hN)) 19 49 (.pointer (some ⟨ba, 0, none⟩)) (.agg #[.int .u32 ((chosenE f L).dip), .int .i64 ((chosenE f L).port), .int .i64 ((chosenE f L).weight)]) 45 (fun _ hS_ => run_ld (Fr.has hS_ (aN.get 1 rfl) (by simp)) rfl) aa ?_
   have bE : ∀ w_, Sem.run Try.prog (do eqGuard .neq 49 (Operand.tmp 45) (Operand.tmp 46) (.agg #[.int .u32 ((chosenE f L).dip), .int .i64 ((chosenE f L).port), .int .i64 ((chosenE f L).weight)]) (.agg #[.int .u32 0, .int .i64 0, .int .i64 0]); binOp .neq 49 (.agg #[.int .u32 ((chosenE f L).dip), .int .i64 ((chosenE f L).port), .int .i64 ((chosenE f L).weight)]) (.agg #[.int .u32 0, .int .i64 0, .int .i64 0])) w_ = .ok (.bool (!(((chosenE f L).dip) == (0 : Int) && (((chosenE f L).port) == (0 : Int) && (((chosenE f L).weight) == (0 : Int) && true))))) w_ := fun w_ => (run_neq_S (by kernel_rfl))
   refine WD.semP (NPt (NPt hN)) 21 (do eqGuard .neq 49 (Operand.tmp 45) (Operand.tmp 46) (.agg #[.int .u32 ((chosenE f L).dip), .int .i64 ((chosenE f L).port), .int .i64 ((chosenE f L).weight)]) (.agg #[.int .u32 0, .int .i64 0, .int .i64 0]); binOp .neq 49 (.agg #[.int .u32 ((chosenE f L).dip), .int .i64 ((chosenE f L).port), .int .i64 ((chosenE f L).weight)]) (.agg #[.int .u32 0, .int .i64 0, .int .i64 0])) 47 (.bool (!(((chosenE f L).dip) == (0 : Int) && (((chosenE f L).port) == (0 : Int) && (((chosenE f L).weight) == (0 : Int) && true))))) (by kernel_rfl) (by kernel_rfl) (fun _ _ => bE _) aa ?_
   refine WDq (NPt (NPt hN)) 22 48 (.bool (!(((chosenE f L).dip) == (0 : Int) && (((chosenE f L).port) == (0 : Int) && (((chosenE f L).weight) == (0 : Int) && true))))) aa ?_
   refine WDq (NPt (NPt hN)) 23 49 (.bool (!(((chosenE f L).dip) == (0 : Int) && (((chosenE f L).port) == (0 : Int) && (((chosenE f L).weight) == (0 : Int) && true))))) aa ?_
   refine WDq (NPt (NPt hN)) 24 50 (.bool (!(((chosenE f L).dip) == (0 : Int) && (((chosenE f L).port) == (0 : Int) && (((chosenE f L).weight) == (0 : Int) && true))))) aa ?_
   refine WD.know 50 (.bool (!(((chosenE f L).dip) == (0 : Int) && (((chosenE f L).port) == (0 : Int) && (((chosenE f L).weight) == (0 : Int) && true))))) (.bool false) rfl (congrArg Value.bool (by rw [ch]; rfl)) ?_
   refine WDq (NPt (NPt hN)) 25 51 (.slice ak L.length ah) aa ?_
   refine WDq (NPt (NPt hN)) 28 54 (.slice A L.length c) aa ?_
   refine WD.call 26 (by kernel_rfl) rfl rfl rfl rfl rfl (by kernel_rfl) (ringCheck_ct ak ah L cy (own_rd aw cellsE_len (by decide)) hwf (by omega) (by have q_ := own_le aw; exact q_)) ?_
   rintro _ cz ⟨rfl, am⟩
   have ax := aa.trans am (by simp)
   refine ⟨_, rfl, ax, ?_⟩
   have aO := aN.call am
   have bF := own_fr aw am (by simp)
   have bG := own_fr bD am (by simp)
   have bH : ∀ w_, Sem.run Try.prog (do eqGuard .eql 39 (Operand.tmp 52) (Operand.const (.nilIface)) (errV 62 (if goodE L then 0 else 9)) (.nilIface); binOp .eql 39 (errV 62 (if goodE L then 0 else 9)) (.nilIface)) w_ = .ok (.bool (goodE L)) w_ := fun w_ => (err_eql _ (if goodE L then 0 else 9) (goodE L) (by cases goodE L <;> rfl) _)
   refine WD.semP (NPt (NPt hN)) 27 (do eqGuard .eql 39 (Operand.tmp 52) (Operand.const (.nilIface)) (errV 62 (if goodE L then 0 else 9)) (.nilIface); binOp .eql 39 (errV 62 (if goodE L then 0 else 9)) (.nilIface)) 53 (.bool (goodE L)) (by kernel_rfl) (by kernel_rfl) (fun _ _ => bH _) ax ?_
   refine WD.call 29 (by kernel_rfl) rfl rfl rfl rfl rfl (by kernel_rfl) (REnds_ct A c L cz (Rd.fr hr aO.fr) hwf (by omega)) ?_
   rintro _ c3 ⟨rfl, an⟩
   have ay := ax.trans an (by simp)
   refine ⟨_, rfl, ay, ?_⟩
   have bI := aO.call an
   have bJ := own_fr bF an (by simp)
   have bK := own_fr bG an (by simp)
   refine WDq (NPt (NPt hN)) 30 56 (.bool ((goodE L) != (goodE L))) ay ?_
   refine WDq (NPt (NPt hN)) 31 57 (.bool ((goodE L) != (goodE L))) ay ?_
   refine WD.done (by kernel_rfl) ?_
   refine QXn (bC _ _ ?_)
   refine WC.know 57 (.bool ((goodE L) != (goodE L))) (.bool false) rfl (congrArg Value.bool (by simp)) ?_
   refine WCf rfl (WC.skip (QXn (bB _ _ ?_)))
   refine WCs (fun c4 bL => ?_)
   refine WCs (fun c5 bM => ?_)
   refine WCg (WLq 3 [(60, .int .i64 0), (59, .int .i64 (L.length : Int)), (58, .slice A L.length c)] (WLd rfl (QXn (bM _ _ ?_))))
   refine WC.block ?_
   refine WC.loop (fun m_ E_ w_ => ∃ (j : Nat), m_ = L.length - j ∧ E_ = [(1, .slice A L.length c), (5, .slice ak L.length ah), (59, .int .i64 (L.length : Int)), (60, .int .i64 (j : Int))] ∧ Cx w [] w_ [(g3, .cells #[.int .i64 f.proto, .int .u32 f.src, .int .i64 f.sp, .int .u32 f.dst, .int .i64 f.dp] 25), (ba, .cells #[.int .u32 ((chosenE f L).dip), .int .i64 ((chosenE f L).port), .int .i64 ((chosenE f L).weight)] 49)] [blk (.slice ak L.length ah)] ∧ World.ownsRow w_ 0 49 3 (.slice ak L.length ah) L.length (L.flatMap cellsE) ∧ World.ownsRow w_ 0 49 3 (.slice ak (L.length + 1) ah) (L.length + 1) ((L ++ [(⟨0, -77, 0⟩ : EndV)]).flatMap cellsE) ∧ (j ≤ L.length)) ⟨_, _, ⟨0, rfl, rfl, bI, bJ, bK, Nat.zero_le _⟩, sub_of ⟨rfl, rfl, rfl, rfl, trivial⟩⟩ (fun m179 E_ c6 c7 bN bO => ?_)
   obtain ⟨j, rfl, rfl, aP, cown33_m179, cfull34_m179, hj⟩ := bO
   refine WCs (fun c8 bP => ?_)
   refine WCg (WLq 1 [(61, .bool (decide ((j : Int) < (L.length : Int))))] (WLd rfl (QXn (bP _ _ ?_))))
   refine WCs (fun c9 bQ => ?_)
   refine WCa 61 (decide ((j : Int) < (L.length : Int))) rfl (fun az => ?_) (fun az => ?_)
   ·
    have cA : (j : Int) < (L.length : Int) := by have q_ := of_decide_eq_true az; omega
    refine WCt rfl ?_
    refine WC.skip ?_
    refine QXn (bQ _ _ ?_)
    refine WCs (fun da bR => ?_)
    refine WC.block ?_
    refine WCs (fun db bS => ?_)
    refine WCg (WLq 2 [(9, .int .i64 (j : Int)), (62, .int .i64 (j : Int))] (WLd rfl (QXn (bS _ _ ?_))))
    refine WCs (fun dc bT => ?_)
    refine WC.drawC aP [] (by kernel_rfl) (fun dd aQ aR aj => ?_)
    have ao := own_fr cown33_m179 aQ (by simp)
    have bU := own_fr cfull34_m179 aQ (by simp)
    refine WDq (NPt (NPb (NPt (NPt (NPb (NPt hN)))))) 0 63 (.slice ak L.length ah) aj ?_
    refine WDq (NPt (NPb (NPt (NPt (NPb (NPt hN)))))) 1 64 (.int .i64 (j : Int)) aj ?_
    have cE := own_count cellsE_len (by decide) ao
    obtain ⟨ae, aA⟩ := get_some (xs := L) (i := j) (by omega)
    obtain ⟨b201, aS⟩ := own_addr (by decide) cellsE_len ao aA
    refine WDi (NPt (NPb (NPt (NPt (NPb (NPt hN)))))) 2 ak L.length ah 65 .i64 (j : Int) b201 0 j 3 (by kernel_rfl) (by kernel_rfl) aS (by omega) (by omega) (j * 3) (by first | (simp; done) | omega) aj ?_
    refine WDq (NPt (NPb (NPt (NPt (NPb (NPt hN)))))) 4 67 (.slice A L.length c) aj ?_
    refine WDq (NPt (NPb (NPt (NPt (NPb (NPt hN)))))) 5 68 (.int .i64 (j : Int)) aj ?_
    obtain ⟨af, aT⟩ := get_some (xs := L) (i := j) (by omega)
    obtain ⟨b206, o208, bV, bW⟩ := hr.at_ _ _ aT
    refine WDi (NPt (NPb (NPt (NPt (NPb (NPt hN)))))) 6 A L.length c 69 .i64 (j : Int) b206 o208 j 3 (by kernel_rfl) (by kernel_rfl) bV (by omega) (by omega) (o208 + j * 3) (by first | (simp; done) | omega) aj ?_
    refine WDm (NPt (NPb (NPt (NPt (NPb (NPt hN)))))) 3 49 (.pointer (some ⟨b201, j * 3, none⟩)) (.agg #[.int .u32 ae.dip, .int .i64 ae.port, .int .i64 ae.weight]) 66 (fun _ hS_ => run_rdN (l := [.int .u32 ae.dip, .int .i64 ae.port, .int .i64 ae.weight]) rfl rfl (fun j u hu => by have hq_ := Rd.cell (own_rd (own_fr ao hS_ (by simp)) cellsE_len (by decide)) aS aA j u hu; simpa [Nat.add_assoc] using hq_)) aj ?_
    refine WDm (NPt (NPb (NPt (NPt (NPb (NPt hN)))))) 7 49 (.pointer (some ⟨b206, o208 + j * 3, none⟩)) (.agg #[.int .u32 af.dip, .int .i64 af.port, .int .i64 af.weight]) 70 (fun _ hS_ => run_rdN (l := [.int .u32 af.dip, .int .i64 af.port, .int .i64 af.weight]) rfl rfl (fun j u hu => by have hq_ := Fr.cell hS_ (aR.fr.cell (bW j u hu) (by simp)) (by simp); simpa [Nat.add_assoc] using hq_)) aj ?_
    have bX : ∀ w_, Sem.run Try.prog (do eqGuard .neq 49 (Operand.tmp 66) (Operand.tmp 70) (.agg #[.int .u32 ae.dip, .int .i64 ae.port, .int .i64 ae.weight]) (.agg #[.int .u32 af.dip, .int .i64 af.port, .int .i64 af.weight]); binOp .neq 49 (.agg #[.int .u32 ae.dip, .int .i64 ae.port, .int .i64 ae.weight]) (.agg #[.int .u32 af.dip, .int .i64 af.port, .int .i64 af.weight])) w_ = .ok (.bool (!(ae.dip == af.dip && (ae.port == af.port && (ae.weight == af.weight && true))))) w_ := fun w_ => (run_neq_S (by kernel_rfl))
    refine WD.semP (NPt (NPb (NPt (NPt (NPb (NPt hN)))))) 8 (do eqGuard .neq 49 (Operand.tmp 66) (Operand.tmp 70) (.agg #[.int .u32 ae.dip, .int .i64 ae.port, .int .i64 ae.weight]) (.agg #[.int .u32 af.dip, .int .i64 af.port, .int .i64 af.weight]); binOp .neq 49 (.agg #[.int .u32 ae.dip, .int .i64 ae.port, .int .i64 ae.weight]) (.agg #[.int .u32 af.dip, .int .i64 af.port, .int .i64 af.weight])) 71 (.bool (!(ae.dip == af.dip && (ae.port == af.port && (ae.weight == af.weight && true))))) (by kernel_rfl) (by kernel_rfl) (fun _ _ => bX _) aj ?_
    refine WD.done (by kernel_rfl) ?_
    refine QXn (bT _ _ ?_)
    refine WC.know 71 (.bool (!(ae.dip == af.dip && (ae.port == af.port && (ae.weight == af.weight && true))))) (.bool false) rfl (congrArg Value.bool (by exact endV_ch aA aT)) ?_
    refine WCf rfl (WC.skip ?_)
    refine QXb ?_
    refine QXn (bR _ _ ?_)
    refine WCg (WLq 1 [(72, .int .i64 (IntKind.i64.wrap ((j : Int) + 1)))] ?_)
    refine WLt (show (.int .i64 (IntKind.i64.wrap ((j : Int) + 1)) : Value) = .int .i64 ((j : Int) + 1) from by rw [wrap_in_i64 ((j : Int) + 1) (by omega) (by omega)]) ?_
    refine WLq 1 [(60, .int .i64 ((j : Int) + 1))] ?_
    refine WLd rfl ?_
    refine QXn ?_
    have bY := aR.pick [0, 1] [0] rfl rfl
    refine fun a_ ha_ => bN _ _ _ ?_ ⟨j + 1, rfl, rfl, bY, ao, bU, by omega⟩ a_ (ha_.weaken (sub_of ⟨rfl, rfl, rfl, rfl, trivial⟩))
    omega
   ·
    have cA : (L.length : Int) ≤ (j : Int) := by have q_ := of_decide_eq_false az; omega
    refine WCf rfl ?_
    refine WC.exit ?_
    refine QXe ?_
    refine QXe ?_
    refine QX.block_hit ?_
    refine QXn (bL _ _ ?_)
    refine WCs (fun de bZ => ?_)
    refine WCg (WLq 4 [(76, .int .i64 (IntKind.i64.wrap ((L.length : Int) + 1))), (75, .int .i64 (L.length : Int)), (74, .slice A L.length c), (73, .slice ak L.length ah)] ?_)
    refine WLt (show (.int .i64 (IntKind.i64.wrap ((L.length : Int) + 1)) : Value) = .int .i64 ((L.length : Int) + 1) from by rw [wrap_in_i64 ((L.length : Int) + 1) (by omega) (by omega)]) ?_
    have b0 : L.length + 1 ≤ ah := by omega
    refine WL.slc 26 49 3 ak ak L.length ah 0 (L.length + 1) (L.length + 1) ah none (some (.int .i64 ((L.length : Int) + 1))) 77 (by kernel_rfl) (by kernel_rfl) bnd.no (bnd.yes (by omega)) (by omega) b0 (slcAt_pre _ _ _) (by first | rfl | omega) (by first | rfl | omega) ?_
    refine WLq 2 [(79, .int .i64 (L.length : Int)), (78, .slice A L.length c)] ?_
    have cF := own_count cellsE_len (by decide) cfull34_m179
    obtain ⟨a9, aB⟩ := get_some (xs := (L ++ [(⟨0, -77, 0⟩ : EndV)])) (i := L.length) (by omega)
    obtain ⟨b217, aU⟩ := own_addr (by decide) cellsE_len cfull34_m179 aB
    refine WLi ak (L.length + 1) ah 80 .i64 (L.length : Int) b217 0 L.length 3 (by kernel_rfl) aU (by omega) (by omega) (L.length * 3) (by first | (simp; done) | omega) ?_
    refine WLq 1 [(81, .pointer (some ⟨b217, L.length * 3 + 1, none⟩))] ?_
    refine WLo 3 (.pointer (some ⟨b217, L.length * 3 + 1, none⟩)) (.int .i64 a9.port) 82 (run_load1 rfl (by simpa [Nat.add_assoc] using Rd.cell (own_rd cfull34_m179 cellsE_len (by decide)) aU aB 1 _ rfl)) ?_
    refine WLq 2 [(4, .bool (a9.port == (-77))), (83, .bool (a9.port == (-77)))] (WLd rfl (QXn (bZ _ _ ?_)))
    refine WC.ret ?_
    refine (hret _ _ _ rfl ?_).1
    exact ⟨congrArg (fun b_ => Ending.returned (Value.bool b_)) (mark_port aB), aP.fr⟩

end Go.Proofs.Ytibkndhgeeoidaa
