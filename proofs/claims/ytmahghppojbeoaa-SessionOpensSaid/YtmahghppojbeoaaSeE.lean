/- Contracts of functions of the program, each proved by a walk through its code; conditions stand in the statements. -/
import Derived.Test.YtmahghppojbeoaaSeD
namespace Go.Proofs.Ytmahghppojbeoaa
set_option linter.unusedSimpArgs false
set_option linter.unusedVariables false
set_option linter.unusedSectionVars false
open Go Go.RowKit Go.Tw
set_option linter.unusedVariables false
set_option maxRecDepth 20000
set_option maxHeartbeats 1000000 in
theorem say_ct (p : Nat) (boot kind : Int) (x1 x2 : Value) (A : Option Addr) (c : Nat) (more : List Int) (w : World) (hp : w.heap[p]? = some (.cells #[.int .i64 boot, x1, x2, .slice none 0 0] 78 (0, 0))) (hr : Rd w 1 (Go.Tw.encI .i64) A more) (hl : more.length ≤ 4096) (hpA : more ≠ [] → ∀ b off, A = some ⟨b, off, none⟩ → b ≠ p) : Calls Try.prog 45 #[.pointer (some ⟨p, 0, none⟩), .int .i64 kind, .slice A more.length c] w fun e w' => e = .returned (.tuple #[]) ∧ Fr w w' [p] ∧ ∃ A2 c2 A3 c3, w'.heap[p]? = some (.cells #[.int .i64 boot, x1, x2, .slice A3 1 c3] 78 (0, 0)) ∧ w'.ownsRow w.heap.size 40 3 (.slice A3 1 c3) 1 ([(⟨kind, A2, c2, boot :: more⟩ : Mg)].flatMap cellsM) ∧ w'.ownsRow w.heap.size 3 1 (.slice A2 (boot :: more).length c2) (boot :: more).length ((boot :: more).flatMap (Go.Tw.encI .i64)) ∧ ∀ x ∈ blk (.slice A3 1 c3), x ∉ blk (.slice A2 (boot :: more).length c2) := by
 refine enterD (n := 24) Try.func45 rfl rfl (Nat.le_of_ble_eq_true rfl) ?_
 intro Q0 hN hret hret'
 have hC := Cx.startMs w [(p, .cells #[.int .i64 boot, x1, x2, .slice none 0 0] 78)] (by simp) (by simp [hp])
 refine WC.drawC hC [p] (by kernel_rfl) (fun w1 hF2 hC3 hS4 => ?_)
 have hf5 := (Fr.refl w []).trans hF2 (by simp)
 refine WDq hN 0 6 (.pointer (some ⟨p, 0, none⟩)) hS4 ?_
 refine WDq hN 1 7 (.pointer (some ⟨p, 0, none⟩)) hS4 ?_
 refine WDq hN 2 8 (.pointer (some ⟨p, 0, none⟩)) hS4 ?_
 refine WDq hN 3 9 (.pointer (some ⟨p, 3, none⟩)) hS4 ?_
 refine WDq hN 5 11 (.int .i64 kind) hS4 ?_
 refine WDq hN 6 12 (.pointer (some ⟨p, 0, none⟩)) hS4 ?_
 refine WDq hN 7 13 (.pointer (some ⟨p, 0, none⟩)) hS4 ?_
 refine WDq hN 8 14 (.pointer (some ⟨p, 0, none⟩)) hS4 ?_
 refine WDq hN 11 17 (.slice A more.length c) hS4 ?_
 refine WD.all2 4 9 (by kernel_rfl) ?_ ?_
 ·
  refine WO.sem 4 (Instr.loadAt 34 (.pointer (some ⟨p, 3, none⟩))) 10 (.slice none 0 0) (by kernel_rfl) (by kernel_rfl) (run_ld (hC3.get 0 rfl) rfl) hS4 ?_
  refine WD.sem 9 (Instr.loadAt 3 (.pointer (some ⟨p, 0, none⟩))) 15 (.int .i64 boot) (by kernel_rfl) (by kernel_rfl) (run_ld (hC3.get 0 rfl) rfl) hS4 ?_
  refine WD.new 10 (fun b => .slice (some ⟨b, 0, none⟩) 1 1) (.cells #[.int .i64 boot] 3) (by kernel_rfl) rfl rfl rfl rfl rfl (fun _ => by kernel_rfl) (fun g6 w7 co fc hF8 d4 => ?_)
  have hC9 := hC3.callB hF8 co d4
  have hnbg6_ := Nat.le_trans hS4.size co
  have b0 := hS4.trans hF8 (by simp)
  refine ⟨b0, ?_⟩
  have d5 := hf5.trans hF8 (by simp)
  have d6 : World.ownsRow w7 0 3 1 (.slice (some ⟨g6, 0, none⟩) 1 1) 1 ([boot].flatMap (Go.Tw.encI .i64)) := own_of_blk (Nat.zero_le _) (hC9.get 1 rfl) (Nat.le_refl _) (by decide) rfl rfl
  have d7 := hC9.toF 1 rfl
  obtain ⟨fF, fd, d8, d9, ea, eb, ec, b1⟩ := app_run Try.prog d7 0 (v := .slice (some ⟨g6, 0, none⟩) 1 1) rfl 37 37 3 1 8 1 more.length c A rfl d6 (more.flatMap (Go.Tw.encI .i64)) (flat_len_n (Go.Tw.encI_len _) (by first | rfl | assumption | (simp; done) | (simp; omega))) (Rd.src_n (Rd.fr hr d5) (Go.Tw.encI_len _) (by decide) (by first | rfl | assumption | (simp; done) | (simp; omega))) (flat_one (Go.Tw.encI_one _) _) (by simp only [maxLen]; omega) (by omega)
  have b2 := own_app (enc := (Go.Tw.encI .i64)) (ys := [boot]) (zs := more) d9
  obtain ⟨ed, ee, rfl, e1⟩ := own_form b2
  have bz : ∀ x_ ∈ blk (.slice (some ⟨g6, 0, none⟩) 1 1), w1.heap.size ≤ x_ := by first | (simp [blk, Value.ownBlock, *]; done) | (intro x_ hx_; simp [blk, Value.ownBlock] at hx_; omega)
  have e2 : ∀ x_ ∈ blk (.slice ed (1 + more.length) ee), w1.heap.size ≤ x_ := fun x_ hx_ => (b1 x_ hx_).elim (bz x_) (fun h_ => Nat.le_trans b0.size h_)
  have cp := b0.trans ea (fun x_ hx_ => .inr (bz x_ hx_))
  refine WD.sem 12 (Builtin.append_ #[37, 37] 37 #[.slice (some ⟨g6, 0, none⟩) 1 1, .slice A more.length c]) 18 (.slice ed (1 + more.length) ee) (by kernel_rfl) (by kernel_rfl) d8 cp ?_
  have hxs_ : [boot] ++ more = (boot :: more) := by simp
  refine WD.call 13 (by kernel_rfl) rfl rfl rfl rfl rfl (by kernel_rfl) (Make_x kind ed (1 + more.length) ee (boot :: more) fd (hxs_ ▸ (own_rd b2 (Go.Tw.encI_len _) (by decide))) (by rw [← hxs_]; exact (own_count (Go.Tw.encI_len _) (by decide) b2)) (by omega)) ?_
  rintro _ fG ⟨ef, eg, rfl, cq, b3⟩
  have eh := eb.callN cq (own_ge b3) (own_lt b3)
  have b4 := cp.trans cq (by simp)
  refine ⟨_, rfl, b4, ?_⟩
  have ei := own_base (b' := 0) b3 (fun _ _ => Nat.zero_le _)
  refine WD.new 14 (fun b => .slice (some ⟨b, 0, none⟩) 1 1) (.cells #[.int .i64 kind, .slice ef ((boot :: more).length) eg, .slice none 0 0] 40) (by kernel_rfl) rfl rfl rfl rfl rfl (fun _ => by kernel_rfl) (fun e3 fe cr ff b5 ej => ?_)
  have ek := eh.callB b5 cr ej
  have dT := Nat.le_trans b4.size cr
  have b6 := b4.trans b5 (by simp)
  refine ⟨b6, ?_⟩
  have em := own_fr ei b5 (by simp)
  have b7 := ek.addNil
  obtain ⟨fH, fI, en, eo, cs, b8, ep, b9⟩ := app_run Try.prog b7 2 (v := .slice none 0 0) rfl 34 34 40 3 56 0 1 1 (some ⟨e3, 0, none⟩) rfl (own_nil fe 0 40 3) [.int .i64 kind, .slice ef ((boot :: more).length) eg, .slice none 0 0] rfl (srcOk.blk 1 (b7.get 1 rfl)) rfl (by simp only [maxLen]; omega) (by omega)
  have ct := own_snoc (enc := cellsM) (ys := []) (⟨kind, ef, eg, (boot :: more)⟩ : Mg) eo
  obtain ⟨cu, cv, rfl, e4⟩ := own_form ct
  have bA : ∀ x_ ∈ blk (.slice none 0 0), w1.heap.size ≤ x_ := by first | (simp [blk, Value.ownBlock, *]; done) | (intro x_ hx_; simp [blk, Value.ownBlock] at hx_; omega)
  have e5 : ∀ x_ ∈ blk (.slice cu 1 cv), w1.heap.size ≤ x_ := fun x_ hx_ => (b9 x_ hx_).elim (bA x_) (fun h_ => Nat.le_trans b6.size h_)
  have aw := b6.trans cs (fun x_ hx_ => .inr (bA x_ hx_))
  refine WD.sem 15 (Builtin.append_ #[34, 34] 34 #[.slice none 0 0, .slice (some ⟨e3, 0, none⟩) 1 1]) 21 (.slice cu 1 cv) (by kernel_rfl) (by kernel_rfl) en aw ?_
  have er := own_fr em cs (b7.disj 1 2 rfl rfl (by decide))
  refine WDq hN 16 22 (.pointer (some ⟨p, 0, none⟩)) aw ?_
  refine WDq hN 17 23 (.pointer (some ⟨p, 3, none⟩)) aw ?_
  obtain ⟨fJ, es, ca, ap⟩ := sto_run (c' := #[.int .i64 boot, x1, x2, .slice cu 1 cv]) Try.prog b8 0 34 p 3 (.slice cu 1 cv) rfl (by kernel_rfl)
  have et := aw.trans ca (by first | (simp; done) | (simp [*]; done) | (have q_ := aw.size; simp; omega))
  refine WD.semU 18 (Instr.storeAt 34 (.pointer (some ⟨p, 3, none⟩)) (.slice cu 1 cv)) (by kernel_rfl) (by kernel_rfl) es et ?_
  have eu := own_fr er ca (b8.apartM 1 0 rfl rfl)
  have ev := own_fr ct ca (b8.apartM 2 0 rfl rfl)
  refine WD.done (by kernel_rfl) ?_
  refine (hret _ _ _ rfl ?_).2
  clear hN hret hret' 
  have hb_ := ev
  exact ⟨rfl, ap.fr, _, _, _, _, ap.get 0 rfl, own_base (show World.ownsRow _ 0 _ _ _ 1 ([(⟨kind, _, _, boot :: more⟩ : Mg)].flatMap cellsM) from by simpa [cellsM] using hb_) (newF_of ap 2 rfl (by intro x hx; simp at hx; subst hx; exact lt_of_heap hp) (by intro q_ hq_; simp at hq_; subst hq_; exact ap.notin 2 0 rfl rfl)), own_base eu (newF_of ap 1 rfl (by intro x hx; simp at hx; subst hx; exact lt_of_heap hp) (by intro q_ hq_; simp at hq_; subst hq_; exact ap.notin 1 0 rfl rfl)), fun x_ h1_ h2_ => ap.disj 2 1 rfl rfl (by decide) x_ h1_ h2_⟩
 ·
  refine WO.sem 9 (Instr.loadAt 3 (.pointer (some ⟨p, 0, none⟩))) 15 (.int .i64 boot) (by kernel_rfl) (by kernel_rfl) (run_ld (hC3.get 0 rfl) rfl) hS4 ?_
  refine WD.all2 4 10 (by kernel_rfl) ?_ ?_
  ·
   refine WO.sem 4 (Instr.loadAt 34 (.pointer (some ⟨p, 3, none⟩))) 10 (.slice none 0 0) (by kernel_rfl) (by kernel_rfl) (run_ld (hC3.get 0 rfl) rfl) hS4 ?_
   refine WD.new 10 (fun b => .slice (some ⟨b, 0, none⟩) 1 1) (.cells #[.int .i64 boot] 3) (by kernel_rfl) rfl rfl rfl rfl rfl (fun _ => by kernel_rfl) (fun dU fg cw fh cb ew => ?_)
   have cx := hC3.callB cb cw ew
   have dW := Nat.le_trans hS4.size cw
   have cc := hS4.trans cb (by simp)
   refine ⟨cc, ?_⟩
   have ex := hf5.trans cb (by simp)
   have ey : World.ownsRow fg 0 3 1 (.slice (some ⟨dU, 0, none⟩) 1 1) 1 ([boot].flatMap (Go.Tw.encI .i64)) := own_of_blk (Nat.zero_le _) (cx.get 1 rfl) (Nat.le_refl _) (by decide) rfl rfl
   have ez := cx.toF 1 rfl
   obtain ⟨fK, fi, eA, eB, eC, eD, eE, cd⟩ := app_run Try.prog ez 0 (v := .slice (some ⟨dU, 0, none⟩) 1 1) rfl 37 37 3 1 8 1 more.length c A rfl ey (more.flatMap (Go.Tw.encI .i64)) (flat_len_n (Go.Tw.encI_len _) (by first | rfl | assumption | (simp; done) | (simp; omega))) (Rd.src_n (Rd.fr hr ex) (Go.Tw.encI_len _) (by decide) (by first | rfl | assumption | (simp; done) | (simp; omega))) (flat_one (Go.Tw.encI_one _) _) (by simp only [maxLen]; omega) (by omega)
   have ax := own_app (enc := (Go.Tw.encI .i64)) (ys := [boot]) (zs := more) eB
   obtain ⟨ce, cf, rfl, eF⟩ := own_form ax
   have ay : ∀ x_ ∈ blk (.slice (some ⟨dU, 0, none⟩) 1 1), w1.heap.size ≤ x_ := by first | (simp [blk, Value.ownBlock, *]; done) | (intro x_ hx_; simp [blk, Value.ownBlock] at hx_; omega)
   have eG : ∀ x_ ∈ blk (.slice ce (1 + more.length) cf), w1.heap.size ≤ x_ := fun x_ hx_ => (cd x_ hx_).elim (ay x_) (fun h_ => Nat.le_trans cc.size h_)
   have bB := cc.trans eC (fun x_ hx_ => .inr (ay x_ hx_))
   refine WD.sem 12 (Builtin.append_ #[37, 37] 37 #[.slice (some ⟨dU, 0, none⟩) 1 1, .slice A more.length c]) 18 (.slice ce (1 + more.length) cf) (by kernel_rfl) (by kernel_rfl) eA bB ?_
   have hxs_ : [boot] ++ more = (boot :: more) := by simp
   refine WD.call 13 (by kernel_rfl) rfl rfl rfl rfl rfl (by kernel_rfl) (Make_x kind ce (1 + more.length) cf (boot :: more) fi (hxs_ ▸ (own_rd ax (Go.Tw.encI_len _) (by decide))) (by rw [← hxs_]; exact (own_count (Go.Tw.encI_len _) (by decide) ax)) (by omega)) ?_
   rintro _ fj ⟨cg, ch, rfl, bC, az⟩
   have cy := eD.callN bC (own_ge az) (own_lt az)
   have aA := bB.trans bC (by simp)
   refine ⟨_, rfl, aA, ?_⟩
   have cz := own_base (b' := 0) az (fun _ _ => Nat.zero_le _)
   refine WD.new 14 (fun b => .slice (some ⟨b, 0, none⟩) 1 1) (.cells #[.int .i64 kind, .slice cg ((boot :: more).length) ch, .slice none 0 0] 40) (by kernel_rfl) rfl rfl rfl rfl rfl (fun _ => by kernel_rfl) (fun cA eH bD e6 aB cB => ?_)
   have cC := cy.callB aB bD cB
   have cD := Nat.le_trans aA.size bD
   have aC := aA.trans aB (by simp)
   refine ⟨aC, ?_⟩
   have cE := own_fr cz aB (by simp)
   have aD := cC.addNil
   obtain ⟨fk, fl, cF, cG, bE, aE, dX, bp⟩ := app_run Try.prog aD 2 (v := .slice none 0 0) rfl 34 34 40 3 56 0 1 1 (some ⟨cA, 0, none⟩) rfl (own_nil eH 0 40 3) [.int .i64 kind, .slice cg ((boot :: more).length) ch, .slice none 0 0] rfl (srcOk.blk 1 (aD.get 1 rfl)) rfl (by simp only [maxLen]; omega) (by omega)
   have bF := own_snoc (enc := cellsM) (ys := []) (⟨kind, cg, ch, (boot :: more)⟩ : Mg) cG
   obtain ⟨aF, aG, rfl, eI⟩ := own_form bF
   have aH : ∀ x_ ∈ blk (.slice none 0 0), w1.heap.size ≤ x_ := by first | (simp [blk, Value.ownBlock, *]; done) | (intro x_ hx_; simp [blk, Value.ownBlock] at hx_; omega)
   have eJ : ∀ x_ ∈ blk (.slice aF 1 aG), w1.heap.size ≤ x_ := fun x_ hx_ => (bp x_ hx_).elim (aH x_) (fun h_ => Nat.le_trans aC.size h_)
   have ah := aC.trans bE (fun x_ hx_ => .inr (aH x_ hx_))
   refine WD.sem 15 (Builtin.append_ #[34, 34] 34 #[.slice none 0 0, .slice (some ⟨cA, 0, none⟩) 1 1]) 21 (.slice aF 1 aG) (by kernel_rfl) (by kernel_rfl) cF ah ?_
   have cH := own_fr cE bE (aD.disj 1 2 rfl rfl (by decide))
   refine WDq hN 16 22 (.pointer (some ⟨p, 0, none⟩)) ah ?_
   refine WDq hN 17 23 (.pointer (some ⟨p, 3, none⟩)) ah ?_
   obtain ⟨fm, cI, aI, aa⟩ := sto_run (c' := #[.int .i64 boot, x1, x2, .slice aF 1 aG]) Try.prog aE 0 34 p 3 (.slice aF 1 aG) rfl (by kernel_rfl)
   have cJ := ah.trans aI (by first | (simp; done) | (simp [*]; done) | (have q_ := ah.size; simp; omega))
   refine WD.semU 18 (Instr.storeAt 34 (.pointer (some ⟨p, 3, none⟩)) (.slice aF 1 aG)) (by kernel_rfl) (by kernel_rfl) cI cJ ?_
   have cK := own_fr cH aI (aE.apartM 1 0 rfl rfl)
   have cL := own_fr bF aI (aE.apartM 2 0 rfl rfl)
   refine WD.done (by kernel_rfl) ?_
   refine (hret _ _ _ rfl ?_).2
   clear hN hret hret' 
   have hb_ := cL
   exact ⟨rfl, aa.fr, _, _, _, _, aa.get 0 rfl, own_base (show World.ownsRow _ 0 _ _ _ 1 ([(⟨kind, _, _, boot :: more⟩ : Mg)].flatMap cellsM) from by simpa [cellsM] using hb_) (newF_of aa 2 rfl (by intro x hx; simp at hx; subst hx; exact lt_of_heap hp) (by intro q_ hq_; simp at hq_; subst hq_; exact aa.notin 2 0 rfl rfl)), own_base cK (newF_of aa 1 rfl (by intro x hx; simp at hx; subst hx; exact lt_of_heap hp) (by intro q_ hq_; simp at hq_; subst hq_; exact aa.notin 1 0 rfl rfl)), fun x_ h1_ h2_ => aa.disj 2 1 rfl rfl (by decide) x_ h1_ h2_⟩
  ·
   refine WO.new 10 (fun b => .slice (some ⟨b, 0, none⟩) 1 1) (.cells #[.int .i64 boot] 3) (by kernel_rfl) rfl rfl rfl rfl rfl (fun _ => by kernel_rfl) (fun ai cM bG e7 aJ cN => ?_)
   have aj := hC3.callB aJ bG cN
   have cO := Nat.le_trans hS4.size bG
   have af := hS4.trans aJ (by simp)
   refine ⟨af, ?_⟩
   have bH := hf5.trans aJ (by simp)
   refine WD.all2 4 12 (by kernel_rfl) ?_ ?_
   ·
    refine WO.sem 4 (Instr.loadAt 34 (.pointer (some ⟨p, 3, none⟩))) 10 (.slice none 0 0) (by kernel_rfl) (by kernel_rfl) (run_ld (aj.get 0 rfl) rfl) af ?_
    have cP : World.ownsRow cM 0 3 1 (.slice (some ⟨ai, 0, none⟩) 1 1) 1 ([boot].flatMap (Go.Tw.encI .i64)) := own_of_blk (Nat.zero_le _) (aj.get 1 rfl) (Nat.le_refl _) (by decide) rfl rfl
    have cQ := aj.toF 1 rfl
    obtain ⟨fn, eK, cR, cS, cT, cU, dY, bq⟩ := app_run Try.prog cQ 0 (v := .slice (some ⟨ai, 0, none⟩) 1 1) rfl 37 37 3 1 8 1 more.length c A rfl cP (more.flatMap (Go.Tw.encI .i64)) (flat_len_n (Go.Tw.encI_len _) (by first | rfl | assumption | (simp; done) | (simp; omega))) (Rd.src_n (Rd.fr hr bH) (Go.Tw.encI_len _) (by decide) (by first | rfl | assumption | (simp; done) | (simp; omega))) (flat_one (Go.Tw.encI_one _) _) (by simp only [maxLen]; omega) (by omega)
    have aK := own_app (enc := (Go.Tw.encI .i64)) (ys := [boot]) (zs := more) cS
    obtain ⟨ci, cj, rfl, eL⟩ := own_form aK
    have aL : ∀ x_ ∈ blk (.slice (some ⟨ai, 0, none⟩) 1 1), w1.heap.size ≤ x_ := by first | (simp [blk, Value.ownBlock, *]; done) | (intro x_ hx_; simp [blk, Value.ownBlock] at hx_; omega)
    have eM : ∀ x_ ∈ blk (.slice ci (1 + more.length) cj), w1.heap.size ≤ x_ := fun x_ hx_ => (bq x_ hx_).elim (aL x_) (fun h_ => Nat.le_trans af.size h_)
    have bI := af.trans cT (fun x_ hx_ => .inr (aL x_ hx_))
    refine WD.sem 12 (Builtin.append_ #[37, 37] 37 #[.slice (some ⟨ai, 0, none⟩) 1 1, .slice A more.length c]) 18 (.slice ci (1 + more.length) cj) (by kernel_rfl) (by kernel_rfl) cR bI ?_
    have hxs_ : [boot] ++ more = (boot :: more) := by simp
    refine WD.call 13 (by kernel_rfl) rfl rfl rfl rfl rfl (by kernel_rfl) (Make_x kind ci (1 + more.length) cj (boot :: more) eK (hxs_ ▸ (own_rd aK (Go.Tw.encI_len _) (by decide))) (by rw [← hxs_]; exact (own_count (Go.Tw.encI_len _) (by decide) aK)) (by omega)) ?_
    rintro _ fo ⟨ck, cl, rfl, bJ, aM⟩
    have cV := cU.callN bJ (own_ge aM) (own_lt aM)
    have aN := bI.trans bJ (by simp)
    refine ⟨_, rfl, aN, ?_⟩
    have cW := own_base (b' := 0) aM (fun _ _ => Nat.zero_le _)
    refine WD.new 14 (fun b => .slice (some ⟨b, 0, none⟩) 1 1) (.cells #[.int .i64 kind, .slice ck ((boot :: more).length) cl, .slice none 0 0] 40) (by kernel_rfl) rfl rfl rfl rfl rfl (fun _ => by kernel_rfl) (fun cX eN bK e8 aO cY => ?_)
    have cZ := cV.callB aO bK cY
    have c0 := Nat.le_trans aN.size bK
    have aP := aN.trans aO (by simp)
    refine ⟨aP, ?_⟩
    have c1 := own_fr cW aO (by simp)
    have aQ := cZ.addNil
    obtain ⟨fp, fq, c4, c5, bL, aR, dZ, br⟩ := app_run Try.prog aQ 2 (v := .slice none 0 0) rfl 34 34 40 3 56 0 1 1 (some ⟨cX, 0, none⟩) rfl (own_nil eN 0 40 3) [.int .i64 kind, .slice ck ((boot :: more).length) cl, .slice none 0 0] rfl (srcOk.blk 1 (aQ.get 1 rfl)) rfl (by simp only [maxLen]; omega) (by omega)
    have bM := own_snoc (enc := cellsM) (ys := []) (⟨kind, ck, cl, (boot :: more)⟩ : Mg) c5
    obtain ⟨aS, aT, rfl, eO⟩ := own_form bM
    have aU : ∀ x_ ∈ blk (.slice none 0 0), w1.heap.size ≤ x_ := by first | (simp [blk, Value.ownBlock, *]; done) | (intro x_ hx_; simp [blk, Value.ownBlock] at hx_; omega)
    have eP : ∀ x_ ∈ blk (.slice aS 1 aT), w1.heap.size ≤ x_ := fun x_ hx_ => (br x_ hx_).elim (aU x_) (fun h_ => Nat.le_trans aP.size h_)
    have ak := aP.trans bL (fun x_ hx_ => .inr (aU x_ hx_))
    refine WD.sem 15 (Builtin.append_ #[34, 34] 34 #[.slice none 0 0, .slice (some ⟨cX, 0, none⟩) 1 1]) 21 (.slice aS 1 aT) (by kernel_rfl) (by kernel_rfl) c4 ak ?_
    have c6 := own_fr c1 bL (aQ.disj 1 2 rfl rfl (by decide))
    refine WDq hN 16 22 (.pointer (some ⟨p, 0, none⟩)) ak ?_
    refine WDq hN 17 23 (.pointer (some ⟨p, 3, none⟩)) ak ?_
    obtain ⟨fs, c7, aV, ab⟩ := sto_run (c' := #[.int .i64 boot, x1, x2, .slice aS 1 aT]) Try.prog aR 0 34 p 3 (.slice aS 1 aT) rfl (by kernel_rfl)
    have c8 := ak.trans aV (by first | (simp; done) | (simp [*]; done) | (have q_ := ak.size; simp; omega))
    refine WD.semU 18 (Instr.storeAt 34 (.pointer (some ⟨p, 3, none⟩)) (.slice aS 1 aT)) (by kernel_rfl) (by kernel_rfl) c7 c8 ?_
    have c9 := own_fr c6 aV (aR.apartM 1 0 rfl rfl)
    have da := own_fr bM aV (aR.apartM 2 0 rfl rfl)
    refine WD.done (by kernel_rfl) ?_
    refine (hret _ _ _ rfl ?_).2
    clear hN hret hret' 
    have hb_ := da
    exact ⟨rfl, ab.fr, _, _, _, _, ab.get 0 rfl, own_base (show World.ownsRow _ 0 _ _ _ 1 ([(⟨kind, _, _, boot :: more⟩ : Mg)].flatMap cellsM) from by simpa [cellsM] using hb_) (newF_of ab 2 rfl (by intro x hx; simp at hx; subst hx; exact lt_of_heap hp) (by intro q_ hq_; simp at hq_; subst hq_; exact ab.notin 2 0 rfl rfl)), own_base c9 (newF_of ab 1 rfl (by intro x hx; simp at hx; subst hx; exact lt_of_heap hp) (by intro q_ hq_; simp at hq_; subst hq_; exact ab.notin 1 0 rfl rfl)), fun x_ h1_ h2_ => ab.disj 2 1 rfl rfl (by decide) x_ h1_ h2_⟩
   ·
    have db : World.ownsRow cM 0 3 1 (.slice (some ⟨ai, 0, none⟩) 1 1) 1 ([boot].flatMap (Go.Tw.encI .i64)) := own_of_blk (Nat.zero_le _) (aj.get 1 rfl) (Nat.le_refl _) (by decide) rfl rfl
    have dc := aj.toF 1 rfl
    obtain ⟨ft, dd, de, df, dg, aW, d0, bs⟩ := app_run Try.prog dc 0 (v := .slice (some ⟨ai, 0, none⟩) 1 1) rfl 37 37 3 1 8 1 more.length c A rfl db (more.flatMap (Go.Tw.encI .i64)) (flat_len_n (Go.Tw.encI_len _) (by first | rfl | assumption | (simp; done) | (simp; omega))) (Rd.src_n (Rd.fr hr bH) (Go.Tw.encI_len _) (by decide) (by first | rfl | assumption | (simp; done) | (simp; omega))) (flat_one (Go.Tw.encI_one _) _) (by simp only [maxLen]; omega) (by omega)
    have al := own_app (enc := (Go.Tw.encI .i64)) (ys := [boot]) (zs := more) df
    obtain ⟨bt, bu, rfl, eQ⟩ := own_form al
    have aX : ∀ x_ ∈ blk (.slice (some ⟨ai, 0, none⟩) 1 1), w1.heap.size ≤ x_ := by first | (simp [blk, Value.ownBlock, *]; done) | (intro x_ hx_; simp [blk, Value.ownBlock] at hx_; omega)
    have eR : ∀ x_ ∈ blk (.slice bt (1 + more.length) bu), w1.heap.size ≤ x_ := fun x_ hx_ => (bs x_ hx_).elim (aX x_) (fun h_ => Nat.le_trans af.size h_)
    have aq := af.trans dg (fun x_ hx_ => .inr (aX x_ hx_))
    refine WO.sem 12 (Builtin.append_ #[37, 37] 37 #[.slice (some ⟨ai, 0, none⟩) 1 1, .slice A more.length c]) 18 (.slice bt (1 + more.length) bu) (by kernel_rfl) (by kernel_rfl) de aq ?_
    refine WD.all2 4 13 (by kernel_rfl) ?_ ?_
    ·
     refine WO.sem 4 (Instr.loadAt 34 (.pointer (some ⟨p, 3, none⟩))) 10 (.slice none 0 0) (by kernel_rfl) (by kernel_rfl) (run_ld (aW.get 0 rfl) rfl) aq ?_
     have hxs_ : [boot] ++ more = (boot :: more) := by simp
     refine WD.call 13 (by kernel_rfl) rfl rfl rfl rfl rfl (by kernel_rfl) (Make_x kind bt (1 + more.length) bu (boot :: more) dd (hxs_ ▸ (own_rd al (Go.Tw.encI_len _) (by decide))) (by rw [← hxs_]; exact (own_count (Go.Tw.encI_len _) (by decide) al)) (by omega)) ?_
     rintro _ fu ⟨cm, cn, rfl, bN, aY⟩
     have dh := aW.callN bN (own_ge aY) (own_lt aY)
     have aZ := aq.trans bN (by simp)
     refine ⟨_, rfl, aZ, ?_⟩
     have di := own_base (b' := 0) aY (fun _ _ => Nat.zero_le _)
     refine WD.new 14 (fun b => .slice (some ⟨b, 0, none⟩) 1 1) (.cells #[.int .i64 kind, .slice cm ((boot :: more).length) cn, .slice none 0 0] 40) (by kernel_rfl) rfl rfl rfl rfl rfl (fun _ => by kernel_rfl) (fun dj eS bO e9 a0 dk => ?_)
     have dl := dh.callB a0 bO dk
     have dm := Nat.le_trans aZ.size bO
     have a1 := aZ.trans a0 (by simp)
     refine ⟨a1, ?_⟩
     have dn := own_fr di a0 (by simp)
     have a2 := dl.addNil
     obtain ⟨fv, fw, dp, dq, bP, a3, d1, bv⟩ := app_run Try.prog a2 2 (v := .slice none 0 0) rfl 34 34 40 3 56 0 1 1 (some ⟨dj, 0, none⟩) rfl (own_nil eS 0 40 3) [.int .i64 kind, .slice cm ((boot :: more).length) cn, .slice none 0 0] rfl (srcOk.blk 1 (a2.get 1 rfl)) rfl (by simp only [maxLen]; omega) (by omega)
     have bQ := own_snoc (enc := cellsM) (ys := []) (⟨kind, cm, cn, (boot :: more)⟩ : Mg) dq
     obtain ⟨a4, a5, rfl, eT⟩ := own_form bQ
     have a6 : ∀ x_ ∈ blk (.slice none 0 0), w1.heap.size ≤ x_ := by first | (simp [blk, Value.ownBlock, *]; done) | (intro x_ hx_; simp [blk, Value.ownBlock] at hx_; omega)
     have eU : ∀ x_ ∈ blk (.slice a4 1 a5), w1.heap.size ≤ x_ := fun x_ hx_ => (bv x_ hx_).elim (a6 x_) (fun h_ => Nat.le_trans a1.size h_)
     have am := a1.trans bP (fun x_ hx_ => .inr (a6 x_ hx_))
     refine WD.sem 15 (Builtin.append_ #[34, 34] 34 #[.slice none 0 0, .slice (some ⟨dj, 0, none⟩) 1 1]) 21 (.slice a4 1 a5) (by kernel_rfl) (by kernel_rfl) dp am ?_
     have dr := own_fr dn bP (a2.disj 1 2 rfl rfl (by decide))
     refine WDq hN 16 22 (.pointer (some ⟨p, 0, none⟩)) am ?_
     refine WDq hN 17 23 (.pointer (some ⟨p, 3, none⟩)) am ?_
     obtain ⟨fx, ds, a7, ac⟩ := sto_run (c' := #[.int .i64 boot, x1, x2, .slice a4 1 a5]) Try.prog a3 0 34 p 3 (.slice a4 1 a5) rfl (by kernel_rfl)
     have dt := am.trans a7 (by first | (simp; done) | (simp [*]; done) | (have q_ := am.size; simp; omega))
     refine WD.semU 18 (Instr.storeAt 34 (.pointer (some ⟨p, 3, none⟩)) (.slice a4 1 a5)) (by kernel_rfl) (by kernel_rfl) ds dt ?_
     have du := own_fr dr a7 (a3.apartM 1 0 rfl rfl)
     have dv := own_fr bQ a7 (a3.apartM 2 0 rfl rfl)
     refine WD.done (by kernel_rfl) ?_
     refine (hret _ _ _ rfl ?_).2
     clear hN hret hret' 
     have hb_ := dv
     exact ⟨rfl, ac.fr, _, _, _, _, ac.get 0 rfl, own_base (show World.ownsRow _ 0 _ _ _ 1 ([(⟨kind, _, _, boot :: more⟩ : Mg)].flatMap cellsM) from by simpa [cellsM] using hb_) (newF_of ac 2 rfl (by intro x hx; simp at hx; subst hx; exact lt_of_heap hp) (by intro q_ hq_; simp at hq_; subst hq_; exact ac.notin 2 0 rfl rfl)), own_base du (newF_of ac 1 rfl (by intro x hx; simp at hx; subst hx; exact lt_of_heap hp) (by intro q_ hq_; simp at hq_; subst hq_; exact ac.notin 1 0 rfl rfl)), fun x_ h1_ h2_ => ac.disj 2 1 rfl rfl (by decide) x_ h1_ h2_⟩
    ·
     have hxs_ : [boot] ++ more = (boot :: more) := by simp
     refine WO.call 13 (by kernel_rfl) rfl rfl rfl rfl rfl (by kernel_rfl) (Make_x kind bt (1 + more.length) bu (boot :: more) dd (hxs_ ▸ (own_rd al (Go.Tw.encI_len _) (by decide))) (by rw [← hxs_]; exact (own_count (Go.Tw.encI_len _) (by decide) al)) (by omega)) ?_
     rintro _ fy ⟨au, av, rfl, bR, a8⟩
     have a9 := aW.callN bR (own_ge a8) (own_lt a8)
     have ag := aq.trans bR (by simp)
     refine ⟨_, rfl, ag, ?_⟩
     have bS := own_base (b' := 0) a8 (fun _ _ => Nat.zero_le _)
     refine WD.all2 4 14 (by kernel_rfl) ?_ ?_
     ·
      refine WO.sem 4 (Instr.loadAt 34 (.pointer (some ⟨p, 3, none⟩))) 10 (.slice none 0 0) (by kernel_rfl) (by kernel_rfl) (run_ld (a9.get 0 rfl) rfl) ag ?_
      refine WD.new 14 (fun b => .slice (some ⟨b, 0, none⟩) 1 1) (.cells #[.int .i64 kind, .slice au ((boot :: more).length) av, .slice none 0 0] 40) (by kernel_rfl) rfl rfl rfl rfl rfl (fun _ => by kernel_rfl) (fun dw eV bT fa ba dx => ?_)
      have dy := a9.callB ba bT dx
      have dz := Nat.le_trans ag.size bT
      have bb := ag.trans ba (by simp)
      refine ⟨bb, ?_⟩
      have dA := own_fr bS ba (by simp)
      have bc := dy.addNil
      obtain ⟨fz, fA, dB, dC, bU, bd, d2, bw⟩ := app_run Try.prog bc 2 (v := .slice none 0 0) rfl 34 34 40 3 56 0 1 1 (some ⟨dw, 0, none⟩) rfl (own_nil eV 0 40 3) [.int .i64 kind, .slice au ((boot :: more).length) av, .slice none 0 0] rfl (srcOk.blk 1 (bc.get 1 rfl)) rfl (by simp only [maxLen]; omega) (by omega)
      have bV := own_snoc (enc := cellsM) (ys := []) (⟨kind, au, av, (boot :: more)⟩ : Mg) dC
      obtain ⟨be, bf, rfl, eW⟩ := own_form bV
      have bg : ∀ x_ ∈ blk (.slice none 0 0), w1.heap.size ≤ x_ := by first | (simp [blk, Value.ownBlock, *]; done) | (intro x_ hx_; simp [blk, Value.ownBlock] at hx_; omega)
      have eX : ∀ x_ ∈ blk (.slice be 1 bf), w1.heap.size ≤ x_ := fun x_ hx_ => (bw x_ hx_).elim (bg x_) (fun h_ => Nat.le_trans bb.size h_)
      have an := bb.trans bU (fun x_ hx_ => .inr (bg x_ hx_))
      refine WD.sem 15 (Builtin.append_ #[34, 34] 34 #[.slice none 0 0, .slice (some ⟨dw, 0, none⟩) 1 1]) 21 (.slice be 1 bf) (by kernel_rfl) (by kernel_rfl) dB an ?_
      have dD := own_fr dA bU (bc.disj 1 2 rfl rfl (by decide))
      refine WDq hN 16 22 (.pointer (some ⟨p, 0, none⟩)) an ?_
      refine WDq hN 17 23 (.pointer (some ⟨p, 3, none⟩)) an ?_
      obtain ⟨fB, dE, bh, ad⟩ := sto_run (c' := #[.int .i64 boot, x1, x2, .slice be 1 bf]) Try.prog bd 0 34 p 3 (.slice be 1 bf) rfl (by kernel_rfl)
      have dF := an.trans bh (by first | (simp; done) | (simp [*]; done) | (have q_ := an.size; simp; omega))
      refine WD.semU 18 (Instr.storeAt 34 (.pointer (some ⟨p, 3, none⟩)) (.slice be 1 bf)) (by kernel_rfl) (by kernel_rfl) dE dF ?_
      have dG := own_fr dD bh (bd.apartM 1 0 rfl rfl)
      have dH := own_fr bV bh (bd.apartM 2 0 rfl rfl)
      refine WD.done (by kernel_rfl) ?_
      refine (hret _ _ _ rfl ?_).2
      clear hN hret hret' 
      have hb_ := dH
      exact ⟨rfl, ad.fr, _, _, _, _, ad.get 0 rfl, own_base (show World.ownsRow _ 0 _ _ _ 1 ([(⟨kind, _, _, boot :: more⟩ : Mg)].flatMap cellsM) from by simpa [cellsM] using hb_) (newF_of ad 2 rfl (by intro x hx; simp at hx; subst hx; exact lt_of_heap hp) (by intro q_ hq_; simp at hq_; subst hq_; exact ad.notin 2 0 rfl rfl)), own_base dG (newF_of ad 1 rfl (by intro x hx; simp at hx; subst hx; exact lt_of_heap hp) (by intro q_ hq_; simp at hq_; subst hq_; exact ad.notin 1 0 rfl rfl)), fun x_ h1_ h2_ => ad.disj 2 1 rfl rfl (by decide) x_ h1_ h2_⟩
     ·
      refine WO.new 14 (fun b => .slice (some ⟨b, 0, none⟩) 1 1) (.cells #[.int .i64 kind, .slice au ((boot :: more).length) av, .slice none 0 0] 40) (by kernel_rfl) rfl rfl rfl rfl rfl (fun _ => by kernel_rfl) (fun dI eY bW fb bi dJ => ?_)
      have bX := a9.callB bi bW dJ
      have dK := Nat.le_trans ag.size bW
      have ar := ag.trans bi (by simp)
      refine ⟨ar, ?_⟩
      have dL := own_fr bS bi (by simp)
      refine WD.sem 4 (Instr.loadAt 34 (.pointer (some ⟨p, 3, none⟩))) 10 (.slice none 0 0) (by kernel_rfl) (by kernel_rfl) (run_ld (bX.get 0 rfl) rfl) ar ?_
      have bj := bX.addNil
      obtain ⟨fC, fD, dM, dN, bY, bk, d3, bx⟩ := app_run Try.prog bj 2 (v := .slice none 0 0) rfl 34 34 40 3 56 0 1 1 (some ⟨dI, 0, none⟩) rfl (own_nil eY 0 40 3) [.int .i64 kind, .slice au ((boot :: more).length) av, .slice none 0 0] rfl (srcOk.blk 1 (bj.get 1 rfl)) rfl (by simp only [maxLen]; omega) (by omega)
      have bZ := own_snoc (enc := cellsM) (ys := []) (⟨kind, au, av, (boot :: more)⟩ : Mg) dN
      obtain ⟨bl, bm, rfl, eZ⟩ := own_form bZ
      have bn : ∀ x_ ∈ blk (.slice none 0 0), w1.heap.size ≤ x_ := by first | (simp [blk, Value.ownBlock, *]; done) | (intro x_ hx_; simp [blk, Value.ownBlock] at hx_; omega)
      have e0 : ∀ x_ ∈ blk (.slice bl 1 bm), w1.heap.size ≤ x_ := fun x_ hx_ => (bx x_ hx_).elim (bn x_) (fun h_ => Nat.le_trans ar.size h_)
      have ao := ar.trans bY (fun x_ hx_ => .inr (bn x_ hx_))
      refine WD.sem 15 (Builtin.append_ #[34, 34] 34 #[.slice none 0 0, .slice (some ⟨dI, 0, none⟩) 1 1]) 21 (.slice bl 1 bm) (by kernel_rfl) (by kernel_rfl) dM ao ?_
      have dO := own_fr dL bY (bj.disj 1 2 rfl rfl (by decide))
      refine WDq hN 16 22 (.pointer (some ⟨p, 0, none⟩)) ao ?_
      refine WDq hN 17 23 (.pointer (some ⟨p, 3, none⟩)) ao ?_
      obtain ⟨fE, dP, bo, ae⟩ := sto_run (c' := #[.int .i64 boot, x1, x2, .slice bl 1 bm]) Try.prog bk 0 34 p 3 (.slice bl 1 bm) rfl (by kernel_rfl)
      have dQ := ao.trans bo (by first | (simp; done) | (simp [*]; done) | (have q_ := ao.size; simp; omega))
      refine WD.semU 18 (Instr.storeAt 34 (.pointer (some ⟨p, 3, none⟩)) (.slice bl 1 bm)) (by kernel_rfl) (by kernel_rfl) dP dQ ?_
      have dR := own_fr dO bo (bk.apartM 1 0 rfl rfl)
      have dS := own_fr bZ bo (bk.apartM 2 0 rfl rfl)
      refine WD.done (by kernel_rfl) ?_
      refine (hret _ _ _ rfl ?_).2
      clear hN hret hret' 
      have hb_ := dS
      exact ⟨rfl, ae.fr, _, _, _, _, ae.get 0 rfl, own_base (show World.ownsRow _ 0 _ _ _ 1 ([(⟨kind, _, _, boot :: more⟩ : Mg)].flatMap cellsM) from by simpa [cellsM] using hb_) (newF_of ae 2 rfl (by intro x hx; simp at hx; subst hx; exact lt_of_heap hp) (by intro q_ hq_; simp at hq_; subst hq_; exact ae.notin 2 0 rfl rfl)), own_base dR (newF_of ae 1 rfl (by intro x hx; simp at hx; subst hx; exact lt_of_heap hp) (by intro q_ hq_; simp at hq_; subst hq_; exact ae.notin 1 0 rfl rfl)), fun x_ h1_ h2_ => ae.disj 2 1 rfl rfl (by decide) x_ h1_ h2_⟩

theorem say_n (p : Nat) (boot kind : Int) (x1 x2 : Value) (A : Option Addr) (n c : Nat) (more : List Int) (w : World) (hp : w.heap[p]? = some (.cells #[.int .i64 boot, x1, x2, .slice none 0 0] 78 (0, 0))) (hr : Rd w 1 (Go.Tw.encI .i64) A more) (hn : more.length = n) (hl : n ≤ 4096) (hpA : more ≠ [] → ∀ b off, A = some ⟨b, off, none⟩ → b ≠ p) : Calls Try.prog 45 #[.pointer (some ⟨p, 0, none⟩), .int .i64 kind, .slice A n c] w fun e w' => e = .returned (.tuple #[]) ∧ Fr w w' [p] ∧ ∃ A2 c2 A3 c3, w'.heap[p]? = some (.cells #[.int .i64 boot, x1, x2, .slice A3 1 c3] 78 (0, 0)) ∧ w'.ownsRow w.heap.size 40 3 (.slice A3 1 c3) 1 ([(⟨kind, A2, c2, boot :: more⟩ : Mg)].flatMap cellsM) ∧ w'.ownsRow w.heap.size 3 1 (.slice A2 (boot :: more).length c2) (boot :: more).length ((boot :: more).flatMap (Go.Tw.encI .i64)) ∧ ∀ x ∈ blk (.slice A3 1 c3), x ∉ blk (.slice A2 (boot :: more).length c2) := by subst hn; exact say_ct p boot kind x1 x2 A c more w hp hr hl hpA
set_option maxHeartbeats 1000000 in
theorem routes_ct (p : Nat) (boot : Int) (x1 : Value) (Av : Option Addr) (cv : Nat) (vs : List Int) (w : World) (hp : w.heap[p]? = some (.cells #[.int .i64 boot, x1, .slice Av vs.length cv, .slice none 0 0] 78 (0, 0))) (hrv : Rd w 1 (Go.Tw.encI .u32) Av vs) (hvl : vs.length ≤ 39) (hvp : vs ≠ [] → ∀ b off, Av = some ⟨b, off, none⟩ → b ≠ p) (hvb : ∀ x ∈ vs, 0 ≤ x ∧ x ≤ 4294967295) : Calls Try.prog 42 #[.pointer (some ⟨p, 0, none⟩)] w fun e w' => e = .returned (.tuple #[]) ∧ Fr w w' [p] ∧ ∃ A2 c2 A3 c3, w'.heap[p]? = some (.cells #[.int .i64 boot, x1, .slice Av vs.length cv, .slice A3 1 c3] 78 (0, 0)) ∧ w'.ownsRow w.heap.size 40 3 (.slice A3 1 c3) 1 ([(⟨12, A2, c2, boot :: vs⟩ : Mg)].flatMap cellsM) ∧ w'.ownsRow w.heap.size 3 1 (.slice A2 (boot :: vs).length c2) (boot :: vs).length ((boot :: vs).flatMap (Go.Tw.encI .i64)) ∧ ∀ x ∈ blk (.slice A3 1 c3), x ∉ blk (.slice A2 (boot :: vs).length c2) := by
 refine enterD (n := 23) Try.func42 rfl rfl (Nat.le_of_ble_eq_true rfl) ?_
 intro Q0 hN hret hret'
 have hC := Cx.startMs w [(p, .cells #[.int .i64 boot, x1, .slice Av vs.length cv, .slice none 0 0] 78)] (by simp) (by simp [hp])
 refine WCs (fun K1 hK2 => ?_)
 refine WCg (WLq 1 [(2, .slice none 0 0)] (WLd rfl (QXn (hK2 _ _ ?_))))
 refine WCs (fun K3 hK4 => ?_)
 refine WCs (fun K5 hK6 => ?_)
 refine WCg (WLq 3 [(7, .pointer (some ⟨p, 2, none⟩)), (6, .pointer (some ⟨p, 0, none⟩)), (5, .pointer (some ⟨p, 0, none⟩))] ?_)
 refine WLo 33 (.pointer (some ⟨p, 2, none⟩)) (.slice Av vs.length cv) 8 (run_ld (hC.get 0 rfl) rfl) ?_
 refine WLq 2 [(10, .int .i64 0), (9, .int .i64 (vs.length : Int))] (WLd rfl (QXn (hK6 _ _ ?_)))
 refine WC.block ?_
 have hC7 := hC.addNil
 refine WC.loop (fun m_ E_ w_ => ∃ (i : Nat) (A5 : Option Addr) (n5 c5 : Nat), m_ = vs.length - i ∧ E_ = [(0, .pointer (some ⟨p, 0, none⟩)), (2, .slice A5 n5 c5), (8, .slice Av vs.length cv), (9, .int .i64 (vs.length : Int)), (10, .int .i64 (i : Int))] ∧ Cx w [p] w_ [(p, .cells #[.int .i64 boot, x1, .slice Av vs.length cv, .slice none 0 0] 78)] [blk (.slice A5 n5 c5)] ∧ World.ownsRow w_ 0 3 1 (.slice A5 n5 c5) n5 ((vs.take i).flatMap (Go.Tw.encI .i64)) ∧ (i ≤ vs.length)) ⟨_, _, ⟨0, none, 0, 0, rfl, rfl, hC7, own_nil _ _ _ _, Nat.zero_le _⟩, sub_of ⟨rfl, rfl, rfl, rfl, rfl, trivial⟩⟩ (fun m11 E_ aK K8 hK9 al => ?_)
 obtain ⟨i, A5, n5, c5, rfl, rfl, ab, hrow, hi⟩ := al
 have hcn_ := own_count (Go.Tw.encI_len _) (by decide) hrow
 rw [List.length_take] at hcn_
 refine WCs (fun aO am => ?_)
 refine WCg (WLq 1 [(11, .bool (decide ((i : Int) < (vs.length : Int))))] (WLd rfl (QXn (am _ _ ?_))))
 refine WCs (fun aP an => ?_)
 refine WCa 11 (decide ((i : Int) < (vs.length : Int))) rfl (fun ae => ?_) (fun ae => ?_)
 ·
  have aL : (i : Int) < (vs.length : Int) := by have q_ := of_decide_eq_true ae; omega
  refine WCt rfl ?_
  refine WC.skip ?_
  refine QXn (an _ _ ?_)
  refine WCs (fun aQ ao => ?_)
  refine WC.block ?_
  refine WCs (fun aR ap => ?_)
  refine WCg ?_
  obtain ⟨ac, ad⟩ := get_some (xs := vs) (i := i) (by omega)
  obtain ⟨b25, o27, ai, aq⟩ := hrv.at_ _ _ ad
  refine WLi Av vs.length cv 12 .i64 (i : Int) b25 o27 i 1 (by kernel_rfl) ai (by omega) (by omega) (o27 + i) (by first | (simp; done) | omega) ?_
  refine WLo 44 (.pointer (some ⟨b25, o27 + i, none⟩)) (.int .u32 ac) 13 (run_load1 rfl (by simpa [Nat.add_assoc] using ab.fr.cell (aq 0 _ rfl) (by simpa using hvp (ne_of_get ad) _ _ ai))) ?_
  refine WLq 1 [(4, .int .u32 ac)] (WLd rfl (QXn (ap _ _ ?_)))
  refine WCg ?_
  obtain ⟨hvb0_, hvb1_⟩ := hvb _ (List.mem_of_getElem? ad)
  refine WLq 3 [(16, .int .i64 (IntKind.i64.wrap (ac))), (15, .int .u32 ac), (14, .slice A5 n5 c5)] ?_
  refine WLt (show (.int .i64 (IntKind.i64.wrap (ac)) : Value) = .int .i64 ac from by rw [wrap_in_i64 _ (by omega) (by omega)]) ?_
  refine WL.newM ab (fun b => .slice (some ⟨b, 0, none⟩) 1 1) (.cells #[.int .i64 ac] 3) 17 (fun _ => by kernel_rfl) (fun aI aS aM ar aj => ?_)
  have au := own_fr hrow ar (by simp)
  obtain ⟨aT, aU, av, aw, aN, ax, ay, az⟩ := app_run Try.prog aj 0 (v := .slice A5 n5 c5) rfl 37 37 3 1 8 n5 1 1 (some ⟨aI, 0, none⟩) rfl au [.int .i64 ac] rfl (srcOk.blk 1 (aj.get 1 rfl)) rfl (by simp only [maxLen]; omega) (by omega)
  have ak := own_snoc (enc := (Go.Tw.encI .i64)) (ys := (vs.take i)) ac aw
  obtain ⟨aA, aB, rfl, aJ⟩ := own_form ak
  refine WL.sem (Builtin.append_ #[37, 37] 37 #[.slice A5 n5 c5, .slice (some ⟨aI, 0, none⟩) 1 1]) 18 (.slice aA (n5 + 1) aB) (by kernel_rfl) av ?_
  refine WLq 1 [(2, .slice aA (n5 + 1) aB)] ?_
  refine WLd rfl ?_
  refine QXb ?_
  refine QXn (ao _ _ ?_)
  refine WCg (WLq 1 [(19, .int .i64 (IntKind.i64.wrap ((i : Int) + 1)))] ?_)
  refine WLt (show (.int .i64 (IntKind.i64.wrap ((i : Int) + 1)) : Value) = .int .i64 ((i : Int) + 1) from by rw [wrap_in_i64 ((i : Int) + 1) (by omega) (by omega)]) ?_
  refine WLq 1 [(10, .int .i64 ((i : Int) + 1))] ?_
  refine WLd rfl ?_
  refine QXn ?_
  have aC := ax.pick [0] [0] rfl rfl
  refine fun a_ ha_ => hK9 _ _ _ ?_ ⟨i + 1, aA, n5 + 1, aB, rfl, rfl, aC, (by rw [take_snocI ad]; exact ak), by omega⟩ a_ (ha_.weaken (sub_of ⟨rfl, rfl, rfl, rfl, rfl, trivial⟩))
  omega
 ·
  have aL : (vs.length : Int) ≤ (i : Int) := by have q_ := of_decide_eq_false ae; omega
  refine WCf rfl ?_
  refine WC.exit ?_
  refine QXe ?_
  refine QXe ?_
  refine QX.block_hit ?_
  refine QXn (hK4 _ _ ?_)
  refine WCg (WLq 2 [(21, .slice A5 n5 c5), (20, .pointer (some ⟨p, 0, none⟩))] ?_)
  have af := hrow
  rw [List.take_of_length_le (by omega)] at af
  refine WLc rfl rfl rfl rfl rfl (by kernel_rfl) (say_n p boot 12 (x1) (.slice Av vs.length cv) A5 n5 c5 vs aK (ab.get 0 rfl) (own_rd af (Go.Tw.encI_len _) (by decide)) (own_count (Go.Tw.encI_len _) (by decide) af) (by first | omega | (simp; done)) (fun _ b_ off_ e_ h_ => ab.notin 0 0 rfl rfl (by rw [← h_]; exact blk_one e_))) ?_
  rintro _ aV ⟨rfl, aD, aW, aX, aY, aZ, aE, ag, ah, aF⟩
  have aa := Cx.callMN2 ab 0 rfl aD aE (own_ge ag) (own_lt ag) (own_ge ah) (own_lt ah) aF
  refine ⟨_, rfl, ?_⟩
  have aG := own_base (b' := 0) ag (fun _ _ => Nat.zero_le _)
  have aH := own_base (b' := 0) ah (fun _ _ => Nat.zero_le _)
  refine WLd rfl ?_
  refine (hret _ _ _ rfl ?_).2
  exact ⟨rfl, aa.fr, _, _, _, _, aa.get 0 rfl, own_base aG (newF_of aa 1 rfl (by intro x hx; simp at hx; subst hx; exact lt_of_heap hp) (by intro q_ hq_; simp at hq_; subst hq_; exact aa.notin 1 0 rfl rfl)), own_base aH (newF_of aa 2 rfl (by intro x hx; simp at hx; subst hx; exact lt_of_heap hp) (by intro q_ hq_; simp at hq_; subst hq_; exact aa.notin 2 0 rfl rfl)), aa.disj 1 2 rfl rfl (by decide)⟩

theorem TickO_ct (p : Nat) (boot : Int) (x2 : Value) (w : World) (hp : w.heap[p]? = some (.cells #[.int .i64 boot, .bool false, x2, .slice none 0 0] 78 (0, 0))) : Calls Try.prog 16 #[.pointer (some ⟨p, 0, none⟩), .int .i64 4] w fun e w' => e = .returned (.tuple #[]) ∧ Fr w w' [p] ∧ ∃ A2 c2 A3 c3, w'.heap[p]? = some (.cells #[.int .i64 boot, .bool false, x2, .slice A3 1 c3] 78 (0, 0)) ∧ w'.ownsRow w.heap.size 40 3 (.slice A3 1 c3) 1 ([(⟨10, A2, c2, boot :: []⟩ : Mg)].flatMap cellsM) ∧ w'.ownsRow w.heap.size 3 1 (.slice A2 (boot :: []).length c2) (boot :: []).length ((boot :: []).flatMap (Go.Tw.encI .i64)) ∧ ∀ x ∈ blk (.slice A3 1 c3), x ∉ blk (.slice A2 (boot :: []).length c2) := by
 refine enterD (n := 26) Try.func16 rfl rfl (Nat.le_of_ble_eq_true rfl) ?_
 intro Q0 hN hret hret'
 have hC := Cx.startMs w [(p, .cells #[.int .i64 boot, .bool false, x2, .slice none 0 0] 78)] (by simp) (by simp [hp])
 refine WC.block ?_
 refine WCs (fun K1 hK2 => ?_)
 refine WCg (WLq 4 [(10, .int .i64 4), (9, .bool false), (8, .bool false), (7, .pointer (some ⟨p, 0, none⟩))] ?_)
 refine WLc rfl rfl rfl rfl rfl (by kernel_rfl) (goodTime_ct 4 w) ?_
 rintro _ w4 ⟨rfl, hF3⟩
 refine ⟨_, rfl, ?_⟩
 have hC5 := hC.call hF3
 have hf6 := (Fr.refl w []).trans hF3 (by simp)
 refine WLq 3 [(14, .bool (!(timB 4))), (13, .bool (!(timB 4))), (12, .bool (!(timB 4)))] ?_
 refine WL.know 14 (.bool (!(timB 4))) (.bool false) rfl (congrArg Value.bool (by rfl)) ?_
 refine WLq 2 [(16, .int .i64 (Int.tmod 4 4)), (15, .int .i64 4)] ?_
 refine WLt (show (.int .i64 (Int.tmod 4 4) : Value) = .int .i64 0 from rfl) ?_
 refine WLq 3 [(6, .bool false), (18, .bool false), (17, .bool false)] (WLd rfl (QXn (hK2 _ _ ?_)))
 refine WCf rfl ?_
 refine WCs (fun K7 hK8 => ?_)
 refine WCg (WLq 3 [(22, .pointer (some ⟨p, 1, none⟩)), (21, .pointer (some ⟨p, 0, none⟩)), (20, .pointer (some ⟨p, 0, none⟩))] ?_)
 refine WLo 4 (.pointer (some ⟨p, 1, none⟩)) (.bool false) 23 (run_ld (hC5.get 0 rfl) rfl) ?_
 refine WLq 1 [(19, .bool false)] (WLd rfl (QXn (hK8 _ _ ?_)))
 refine WCf rfl ?_
 refine WCg (WLq 1 [(4, .pointer (some ⟨p, 0, none⟩))] ?_)
 refine WLc rfl rfl rfl rfl rfl (by kernel_rfl) (say_n p boot 10 (.bool false) (x2) none 0 0 [] w4 (hC5.get 0 rfl) (Rd.nil _ _ _ _) rfl (by first | omega | (simp; done)) (fun h_ => absurd rfl h_)) ?_
 rintro _ w9 ⟨rfl, ad, ai, aj, ak, al, ae, ab, ac, af⟩
 have aa := Cx.callMN2 hC5 0 rfl ad ae (own_ge ab) (own_lt ab) (own_ge ac) (own_lt ac) af
 refine ⟨_, rfl, ?_⟩
 have ag := own_base (b' := 0) ab (fun _ _ => Nat.zero_le _)
 have ah := own_base (b' := 0) ac (fun _ _ => Nat.zero_le _)
 refine WLd rfl ?_
 refine QXb ?_
 refine (hret _ _ _ rfl ?_).2
 exact ⟨rfl, aa.fr, _, _, _, _, aa.get 0 rfl, own_base ag (newF_of aa 0 rfl (by intro x hx; simp at hx; subst hx; exact lt_of_heap hp) (by intro q_ hq_; simp at hq_; subst hq_; exact aa.notin 0 0 rfl rfl)), own_base ah (newF_of aa 1 rfl (by intro x hx; simp at hx; subst hx; exact lt_of_heap hp) (by intro q_ hq_; simp at hq_; subst hq_; exact aa.notin 1 0 rfl rfl)), aa.disj 0 1 rfl rfl (by decide)⟩

set_option maxHeartbeats 1000000 in
theorem RecvO_ct (p : Nat) (boot : Int) (Av : Option Addr) (cv : Nat) (vs : List Int) (An : Option Addr) (cn : Nat) (w : World) (hp : w.heap[p]? = some (.cells #[.int .i64 boot, .bool false, .slice Av vs.length cv, .slice none 0 0] 78 (0, 0))) (hrv : Rd w 1 (Go.Tw.encI .u32) Av vs) (hvl : vs.length ≤ 39) (hvp : vs ≠ [] → ∀ b off, Av = some ⟨b, off, none⟩ → b ≠ p) (hvb : ∀ x ∈ vs, 0 ≤ x ∧ x ≤ 4294967295) (hrn : Rd w 1 (Go.Tw.encI .i64) An [boot]) (hnp : ∀ b off, An = some ⟨b, off, none⟩ → b ≠ p) : Calls Try.prog 14 #[.pointer (some ⟨p, 0, none⟩), .agg #[.int .i64 11, .slice An 1 cn, .slice none 0 0]] w fun e w' => e = .returned (.tuple #[]) ∧ Fr w w' [p] ∧ ∃ A2 c2 A3 c3, w'.heap[p]? = some (.cells #[.int .i64 boot, .bool true, .slice Av vs.length cv, .slice A3 1 c3] 78 (0, 0)) ∧ w'.ownsRow w.heap.size 40 3 (.slice A3 1 c3) 1 ([(⟨12, A2, c2, boot :: vs⟩ : Mg)].flatMap cellsM) ∧ w'.ownsRow w.heap.size 3 1 (.slice A2 (boot :: vs).length c2) (boot :: vs).length ((boot :: vs).flatMap (Go.Tw.encI .i64)) ∧ ∀ x ∈ blk (.slice A3 1 c3), x ∉ blk (.slice A2 (boot :: vs).length c2) := by
 refine enterD (n := 37) Try.func14 rfl rfl (Nat.le_of_ble_eq_true rfl) ?_
 intro Q0 hN hret hret'
 have hbl_ : ([boot] : List Int).length = 1 := rfl
 have hC := Cx.startMs w [(p, .cells #[.int .i64 boot, .bool false, .slice Av vs.length cv, .slice none 0 0] 78)] (by simp) (by simp [hp])
 refine WCs (fun K1 hK2 => ?_)
 refine WCg ?_
 refine WL.newM hC (fun b => .pointer (some ⟨b, 0, none⟩)) (.cells #[.int .i64 11, .slice An 1 cn, .slice none 0 0] 40) 3 (fun _ => by kernel_rfl) (fun g3 w4 hb7 hF5 hC6 => ?_)
 have hf8 := (Fr.refl w []).trans hF5 (by simp)
 refine WLd rfl (QXn (hK2 _ _ ?_))
 refine WCs (fun K9 aj => ?_)
 refine WCs (fun aA ak => ?_)
 refine WC.drawC hC6 [] (by kernel_rfl) (fun aB al ac aa => ?_)
 have ax := hf8.trans al (by simp)
 refine WDq (NPt (NPt hN)) 0 4 (.pointer (some ⟨p, 0, none⟩)) aa ?_
 refine WDq (NPt (NPt hN)) 1 5 (.bool false) aa ?_
 refine WDq (NPt (NPt hN)) 2 6 (.bool false) aa ?_
 refine WDq (NPt (NPt hN)) 3 7 (.pointer (some ⟨g3, 1, none⟩)) aa ?_
 refine WDm (NPt (NPt hN)) 4 37 (.pointer (some ⟨g3, 1, none⟩)) (.slice An 1 cn) 8 (fun _ hS_ => run_ld (Fr.has hS_ (ac.get 1 rfl) (by simp)) rfl) aa ?_
 refine WDq (NPt (NPt hN)) 5 9 (.int .i64 1) aa ?_
 refine WDq (NPt (NPt hN)) 6 10 (.bool false) aa ?_
 refine WDq (NPt (NPt hN)) 7 11 (.bool false) aa ?_
 refine WDq (NPt (NPt hN)) 8 12 (.bool false) aa ?_
 refine WDq (NPt (NPt hN)) 9 13 (.pointer (some ⟨g3, 1, none⟩)) aa ?_
 refine WDq (NPt (NPt hN)) 13 17 (.pointer (some ⟨p, 0, none⟩)) aa ?_
 refine WDq (NPt (NPt hN)) 14 18 (.pointer (some ⟨p, 0, none⟩)) aa ?_
 refine WDq (NPt (NPt hN)) 15 19 (.pointer (some ⟨p, 0, none⟩)) aa ?_
 refine WDm (NPt (NPt hN)) 10 37 (.pointer (some ⟨g3, 1, none⟩)) (.slice An 1 cn) 14 (fun _ hS_ => run_ld (Fr.has hS_ (ac.get 1 rfl) (by simp)) rfl) aa ?_
 obtain ⟨ai, ag⟩ := get_some (xs := [boot]) (i := 0) (by omega)
 obtain ⟨b20, o22, ah, am⟩ := hrn.at_ _ _ ag
 refine WDi (NPt (NPt hN)) 11 An 1 cn 15 .i64 0 b20 o22 0 1 (by kernel_rfl) (by kernel_rfl) ah (by omega) (by omega) (o22 + 0) (by first | (simp; done) | omega) aa ?_
 refine WDm (NPt (NPt hN)) 12 3 (.pointer (some ⟨b20, o22 + 0, none⟩)) (.int .i64 ai) 16 (fun _ hS_ => run_load1 rfl (by simpa [Nat.add_assoc] using Fr.cell hS_ (ac.fr.cell (am 0 _ rfl) (by simpa using hnp _ _ ah)) (by simp))) aa ?_
 refine WDm (NPt (NPt hN)) 16 3 (.pointer (some ⟨p, 0, none⟩)) (.int .i64 boot) 20 (fun _ hS_ => run_ld (Fr.has hS_ (ac.get 0 rfl) (by simp)) rfl) aa ?_
 refine WDq (NPt (NPt hN)) 17 21 (.bool (ai != boot)) aa ?_
 refine WDq (NPt (NPt hN)) 18 22 (.bool (ai != boot)) aa ?_
 refine WD.done (by kernel_rfl) ?_
 refine QXn (ak _ _ ?_)
 refine WC.know 22 (.bool (ai != boot)) (.bool false) rfl (congrArg Value.bool (by have q_ := ag; simp at q_; subst q_; simp)) ?_
 refine WCf rfl (WC.skip (QXn (aj _ _ ?_)))
 refine WCs (fun aC an => ?_)
 refine WCg (WLq 1 [(23, .pointer (some ⟨g3, 0, none⟩))] ?_)
 refine WLo 3 (.pointer (some ⟨g3, 0, none⟩)) (.int .i64 11) 24 (run_ld (ac.get 1 rfl) rfl) ?_
 refine WLd rfl (QXn (an _ _ ?_))
 refine WC.block ?_
 refine WCs (fun aD ao => ?_)
 refine WCg (WLq 2 [(25, .bool true), (26, .bool true)] (WLd rfl (QXn (ao _ _ ?_))))
 refine WCt rfl ?_
 refine WCs (fun aE ap => ?_)
 refine WCg (WLq 3 [(29, .pointer (some ⟨p, 1, none⟩)), (28, .pointer (some ⟨p, 0, none⟩)), (27, .pointer (some ⟨p, 0, none⟩))] ?_)
 refine WLs (c' := #[.int .i64 boot, .bool true, .slice Av vs.length cv, .slice none 0 0]) ac 0 4 p 1 (.bool true) (by kernel_rfl) rfl (by kernel_rfl) (fun ay az ad => ?_)
 refine WLd rfl (QXn (ap _ _ ?_))
 refine WCg (WLq 1 [(30, .pointer (some ⟨p, 0, none⟩))] ?_)
 refine WLc rfl rfl rfl rfl rfl (by kernel_rfl) (routes_ct p boot (.bool true) Av cv vs ay (ad.get 0 rfl) (Rd.frO hrv ad.fr (fun h1_ b_ off_ e_ => by simpa using hvp h1_ b_ off_ e_)) hvl hvp hvb) ?_
 rintro _ aF ⟨rfl, aq, aG, aH, aI, aJ, ar, ae, af, au⟩
 have ab := Cx.callMN2 ad 0 rfl aq ar (own_ge ae) (own_lt ae) (own_ge af) (own_lt af) au
 refine ⟨_, rfl, ?_⟩
 have av := own_base (b' := 0) ae (fun _ _ => Nat.zero_le _)
 have aw := own_base (b' := 0) af (fun _ _ => Nat.zero_le _)
 refine WLd rfl ?_
 refine QXb ?_
 refine (hret _ _ _ rfl ?_).2
 exact ⟨rfl, ab.fr, _, _, _, _, ab.get 0 rfl, own_base av (newF_of ab 0 rfl (by intro x hx; simp at hx; subst hx; exact lt_of_heap hp) (by intro q_ hq_; simp at hq_; subst hq_; exact ab.notin 0 0 rfl rfl)), own_base aw (newF_of ab 1 rfl (by intro x hx; simp at hx; subst hx; exact lt_of_heap hp) (by intro q_ hq_; simp at hq_; subst hq_; exact ab.notin 1 0 rfl rfl)), ab.disj 0 1 rfl rfl (by decide)⟩

theorem Out_ct (p : Nat) (x0 x1 x2 : Value) (A3 : Option Addr) (n3 c3 : Nat) (w : World) (hp : w.heap[p]? = some (.cells #[x0, x1, x2, .slice A3 n3 c3] 78 (0, 0))) : Calls Try.prog 20 #[.pointer (some ⟨p, 0, none⟩)] w fun e w' => e = .returned (.slice A3 n3 c3) ∧ Fr w w' [p] ∧ w'.heap[p]? = some (.cells #[x0, x1, x2, .slice none 0 0] 78 (0, 0)) := by
 refine enterD (n := 14) Try.func20 rfl rfl (Nat.le_of_ble_eq_true rfl) ?_
 intro Q0 hN hret hret'
 have hC := Cx.startMs w [(p, .cells #[x0, x1, x2, .slice A3 n3 c3] 78)] (by simp) (by simp [hp])
 refine WCs (fun K1 hK2 => ?_)
 refine WCg (WLq 1 [(2, .slice none 0 0)] (WLd rfl (QXn (hK2 _ _ ?_))))
 refine WCs (fun K3 hK4 => ?_)
 refine WCs (fun K5 hK6 => ?_)
 refine WCg (WLq 2 [(5, .bool false), (4, .pointer (some ⟨p, 0, none⟩))] (WLd rfl (QXn (hK6 _ _ ?_))))
 refine WCf rfl (WC.skip (QXn (hK4 _ _ ?_)))
 refine WCs (fun K7 hK8 => ?_)
 refine WCg (WLq 3 [(8, .pointer (some ⟨p, 3, none⟩)), (7, .pointer (some ⟨p, 0, none⟩)), (6, .pointer (some ⟨p, 0, none⟩))] ?_)
 refine WLo 34 (.pointer (some ⟨p, 3, none⟩)) (.slice A3 n3 c3) 9 (run_ld (hC.get 0 rfl) rfl) ?_
 refine WLq 1 [(3, .slice A3 n3 c3)] (WLd rfl (QXn (hK8 _ _ ?_)))
 refine WCs (fun K9 ab => ?_)
 refine WCg (WLq 3 [(12, .pointer (some ⟨p, 3, none⟩)), (11, .pointer (some ⟨p, 0, none⟩)), (10, .pointer (some ⟨p, 0, none⟩))] ?_)
 refine WLs (c' := #[x0, x1, x2, .slice none 0 0]) hC 0 34 p 3 (.slice none 0 0) (by kernel_rfl) rfl (by kernel_rfl) (fun ae ad aa => ?_)
 refine WLd rfl (QXn (ab _ _ ?_))
 refine WCs (fun af ac => ?_)
 refine WCg (WLq 2 [(2, .slice A3 n3 c3), (13, .slice A3 n3 c3)] (WLd rfl (QXn (ac _ _ ?_))))
 refine WC.ret ?_
 refine (hret _ _ _ rfl ?_).1
 exact ⟨rfl, aa.fr, aa.get 0 rfl⟩

theorem Open_ct (p : Nat) (x0 x2 x3 : Value) (o : Bool) (w : World) (hp : w.heap[p]? = some (.cells #[x0, .bool o, x2, x3] 78 (0, 0))) : Calls Try.prog 18 #[.pointer (some ⟨p, 0, none⟩)] w fun e w' => e = .returned (.bool o) ∧ Fr w w' [] := by
 refine enterD (n := 11) Try.func18 rfl rfl (Nat.le_of_ble_eq_true rfl) ?_
 intro Q0 hN hret hret'
 have hC := Cx.startMs w [(p, .cells #[x0, .bool o, x2, x3] 78)] (by simp) (by simp [hp])
 refine WCs (fun K1 hK2 => ?_)
 refine WCg (WLq 1 [(2, .bool false)] (WLd rfl (QXn (hK2 _ _ ?_))))
 refine WCs (fun K3 hK4 => ?_)
 refine WCg (WLq 6 [(8, .pointer (some ⟨p, 1, none⟩)), (7, .pointer (some ⟨p, 0, none⟩)), (6, .pointer (some ⟨p, 0, none⟩)), (5, .bool true), (4, .bool true), (3, .pointer (some ⟨p, 0, none⟩))] ?_)
 refine WLo 4 (.pointer (some ⟨p, 1, none⟩)) (.bool o) 9 (run_ld (hC.get 0 rfl) rfl) ?_
 refine WLq 2 [(2, .bool o), (10, .bool o)] (WLd rfl (QXn (hK4 _ _ ?_)))
 refine WC.ret ?_
 refine (hret _ _ _ rfl ?_).1
 exact ⟨rfl, (Fr.refl w [])⟩

theorem NewS_ct (node boot : Int) (w : World) (hw : isI64 node) (hm : muxB node = true) (ht : timB boot = true) : Calls Try.prog 9 #[.int .i64 node, .int .i64 boot] w fun e w' => ∃ p, e = .returned (.tuple #[.pointer (some ⟨p, 0, none⟩), .nilIface]) ∧ Fr w w' [] ∧ w.heap.size ≤ p ∧ w'.heap[p]? = some (.cells #[.int .i64 boot, .bool false, .slice none 0 0, .slice none 0 0] 78 (0, 0)) := by
 refine enterD (n := 18) Try.func9 rfl rfl (Nat.le_of_ble_eq_true rfl) ?_
 intro Q0 hN hret hret'
 obtain ⟨hw0_, hw1_⟩ := hw
 have hC := Cx.start w
 refine WCs (fun K1 hK2 => ?_)
 refine WCg (WLq 2 [(5, .nilIface), (4, .pointer none)] (WLd rfl (QXn (hK2 _ _ ?_))))
 refine WCs (fun K3 hK4 => ?_)
 refine WCs (fun K5 hK6 => ?_)
 refine WCg (WLq 1 [(6, .int .i64 node)] ?_)
 refine WLc rfl rfl rfl rfl rfl (by kernel_rfl) (mux_ct node w ⟨by omega, by omega⟩) ?_
 rintro _ w8 ⟨rfl, hF7⟩
 refine ⟨_, rfl, ?_⟩
 have hC9 := hC.call hF7
 refine WLq 2 [(9, .bool (!(muxB node))), (8, .bool (!(muxB node)))] ?_
 refine WL.know 9 (.bool (!(muxB node))) (.bool false) rfl (congrArg Value.bool (by simp [hm])) ?_
 refine WLq 1 [(10, .int .i64 boot)] ?_
 refine WLc rfl rfl rfl rfl rfl (by kernel_rfl) (goodTime_ct boot w8) ?_
 rintro _ ah ⟨rfl, ab⟩
 refine ⟨_, rfl, ?_⟩
 have ac := hC9.call ab
 refine WLq 2 [(13, .bool (!(timB boot))), (12, .bool (!(timB boot)))] (WLd rfl (QXn (hK6 _ _ ?_)))
 refine WC.know 13 (.bool (!(timB boot))) (.bool false) rfl (congrArg Value.bool (by simp [ht])) ?_
 refine WCf rfl (WC.skip (QXn (hK4 _ _ ?_)))
 refine WCs (fun ai ad => ?_)
 refine WCg (WLq 2 [(16, .agg #[.int .i64 boot, .bool false, .slice none 0 0, .slice none 0 0]), (15, .int .i64 boot)] ?_)
 refine WL.newM ac (fun b => .pointer (some ⟨b, 0, none⟩)) (.cells #[.int .i64 boot, .bool false, .slice none 0 0, .slice none 0 0] 78) 17 (fun _ => by kernel_rfl) (fun ae aj af ag aa => ?_)
 refine WLq 2 [(5, .nilIface), (4, .pointer (some ⟨ae, 0, none⟩))] (WLd rfl (QXn (ad _ _ ?_)))
 refine WC.ret ?_
 refine (hret _ _ _ rfl ?_).1
 exact ⟨_, rfl, aa.fr, (aa.new_ge 0 rfl).resolve_left (by simp), aa.get 0 rfl⟩

end Go.Proofs.Ytmahghppojbeoaa
